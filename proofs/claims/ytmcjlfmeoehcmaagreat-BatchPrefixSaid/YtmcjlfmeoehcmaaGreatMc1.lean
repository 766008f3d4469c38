/-
  Each function meets its functional program. Conditions: none.
-/
import Derived.Test.YtmcjlfmeoehcmaaGreatMc0
import Derived.Test.YtmcjlfmeoehcmaaGreatMd
set_option linter.defProp false
set_option linter.unusedVariables false
set_option linter.unusedSimpArgs false
set_option maxRecDepth 100000
set_option maxHeartbeats 2000000
namespace Go.Proofs.YtmcjlfmeoehcmaaGreat
open Go Gv Go.Proofs.Tryz
open List renaming length->t
open J renaming of->u,bq->bu,eq->bQ,ptr->ce,bO->cI
open Option renaming some->w,none->V
open aa renaming nil->y,own->bY,v->cd,aO->cn,h8->co,mv->ct,kG->cO,app->c3,lp->dm
open True renaming intro->S
open aG renaming id->T,idx->bP
open Go.Exit renaming exit->U,ret->c1
open af renaming aO->X,next->Y,fin->a',ret->ci,dY->cm,back->cs,exit->cw,j3->c0,hb->c2,jV->c5,fa->c6,place->c',km->dk,kI->dl,gQ->ds,mo->dt
open Sum renaming elim->Z,elim_inl->bv,elim_inr->bx
open ar renaming seq->bm,dW->bW,ret->b1,block->b5,skip->ca,ef->cl,exit->cv,pf->c4,dj->c7,gX->c8
open bn renaming ak->b4
open cf renaming ak->b'
open _root_.ByteArray renaming mk->cb
open Inhabited renaming default->cq
open BitVec renaming ofInt->cr
open ag renaming bV->c9
attribute [local irreducible] aa ar af aZ aN dr dP dV J.of J.ptr J.eq J.cond J.bO
def ad8{M p N d C}(h:zm M p N=w C):k3 prog 71 [bu d,u p,u N] d M (u C.1) C.2:=by
 unfold zm at h;refine b4 λaZ a0=>?_;refine bl (hT λa1=>?_);refine iL Md λa2=>fl ?_;refine aj h λa3 ad h=>aj h λbB ag h=>ar.kS 1 (er [0,1,2,4,6] ?_);refine c4 mixed (az 13 [] [] _::az 14 [0] [1] _::az 15 [] [] _::az 16 [] [] _::az 17 [3] [1] _::az 18 [4] [] _::az 19 [2,5] [] _::az 20 [1,6] [] _::az 21 [7] [] _::⟨w 7,[],[3],[3],λaq=>bu ((aq 9 0).getD 0),λaq _=>a7 ((aq 9 0).getD 0) (cq:dc)⟩::fL [8,9] [3] [3] (λaq=>a7 ((aq 9 0).getD 0) (al p.bK bB:dc))::[]) ⟨hI (bM we.fd),qD 1 qS rz,gM,hI (bM we.fd),qD 1 qS rz,hI (mT underlying27),eF λaA av=>fP aak.dj (aak.m _ _ _ ad) ⟨ae (aA _ _ o),ae (aA _ _ o),S⟩,eF λaA av=>jy (k:=bB) underlying27 kl (ae (aA _ _ o)) (ae (aA _ _ o)) (cz ag),hI (hn kl),?_,?_,S⟩ λa4=>?_
 ·intro aq br aD aA av;refine iL tE λah=>y ?_;exact c' 3 (av 3 _ o o) (a' (dv [w ah]) o o)
 ·intro aq br aD aA av;refine aa.store (i:=3) (T dc) kl (ae (aA _ _ o)) (ae (aA _ _ o)) (av 3 _ o o) o o (y ?_);exact a' (dv []) o o
 refine cm ?_;refine e4 ?_;refine X 3 o (Y (bl (cP (bM alj.fd) ?_)));refine jz 0 xv bz ?_;refine aT (rf (b:=({(cq:bg)with bZ:=(al p.bK bB).cA}:bg)) [1,4] Wr o aqf Md (.cons xk o (ae o) o (by rfl) (.nil))) ?_;refine bY (au:=cJ) 107 (bY (au:=aW) 105 (aa.pB [1,4] Wr Md o λl=>bY (au:=cJ) 107 (bY (au:=aW) 105 (aa.uK (i:=2) lM (ae o) (ae o) o (fl (bl (cP (bM ts.fd) ?_)))))));refine jz 5 oC sF ?_;refine cP (mT underlying62) ?_;refine bJ (bC (b5 ?_));refine aj h λD m h=>?_;refine eC (aY:=bN) (aX:=bN) m [0,4,6,7,8] (λf a=>[(26,u ((al p.bK bB).bS)),(27,u (t ((al p.bK bB).bS):Int)),(28,u f.1)]) (λf a=>[(2,⟨w l,.bF f.2.1 [(1,aH a.1 (t f.2.2.1) a.2),(4,aH V (t ([]:R aW)) 0)]⟩),(4,⟨a.1,.row 107 f.2.2.1 a.2⟩),(8,a7 d f.2.2.2)]) (λA=>U 0) (λA a=>[]) (λA a=>[(2,⟨w l,.bF A.1 [(1,aH a.1 (t A.2.1) a.2),(4,aH V (t ([]:R aW)) 0)]⟩),(4,⟨a.1,.row 107 A.2.1 a.2⟩),(8,a7 d A.2.2)]) (V,0) (λf C h a=>?_) λa=>?_
 ·refine bl (cH kj (fl ?_));refine fR h (λh=>?_) λh=>?_
  ·refine gE (bm (b5 (bl (aj h λdi ai h=>DF ai underlying62 pG ?_))));refine cP (hn pG) ?_;refine iL tA λa5=>?_;refine oc 0 pG (fl ?_);refine aj h λO ak h=>aj h λE am h=>er [0,4,6,7,8,10,26,27,28,29,30,31] ?_;refine c4 mixed (az 32 [] [] _::az 33 [0] [3] _::az 34 [] [] _::az 35 [] [8] _::az 36 [] [0] _::⟨w 37,[2,3,4],[9],[9],λ_=>u O.1,λaq _=>a7 d O.2⟩::az 38 [5] [] _::⟨w 39,[1,6],[5],[5],λaq=>bQ (aH (aq 7 0) (t E) ((aq 7 1).getD 0)),λaq _=>⟨(aq 7 0),.row 107 E ((aq 7 1).getD 0)⟩⟩::az 40 [] [] _::fL [1,7,8] [3] [3] (λaq=>⟨w l,.bF ({f.2.1 with cp:=[]}:bg) [(1,aH (aq 7 0) (t E) ((aq 7 1).getD 0)),(4,aH V (t ([]:R aW)) 0)]⟩)::[]) ⟨hI (bM CY.fd),eF λaA av=>fG (i:=3) (q:=0) ys (ae (aA _ _ o)) (av 3 _ o o) o,gM,vd 8 n5,vd 0 pG,?_,eF λaA av=>tx underlying45 tB Dc o o (.cons (by simp) (ae (aA _ _ o)) (.nil)),?_,hI (bM CY.fd),?_,S⟩ λF=>?_
   ·intro aq br aD aA av;refine cn 9 (av 9 _ o o) (cO (dJ:=[a7 d f.2.2.2]) (b9:=aD.eraseIdx 9) .i (ad7 ak) ⟨ae (aA _ _ o),ae (aA _ _ o),ae (aA _ _ o),S⟩ o λa6=>y (cs 9 (av 9 _ o o) ?_));exact a' (dv []) o o
   ·intro aq br aD aA av;refine c3 (i:=5) underlying45 tB Dc (bytes:=64) (by kernel_rfl) (ae (aA _ _ o)) (av 5 _ o o) (ae (aA _ _ o)) am o λan ao=>?_;exact y (a' (dv [an,w ao]) o o)
   ·intro aq br aD aA av;refine co (i:=3) ((T bg).comp xg) ys (ae (aA _ _ o)) (ae (aA _ _ o)) hy (av 3 _ o o) o o o (y ?_);exact a' (dv []) o o
   refine cm ?_;refine e4 (Y (bl ?_));refine cP (bM KW.fd) ?_;refine jz 0 vJ bz ?_;refine cH ir ?_;refine bJ ?_;refine jY (bM KW.fd) ?_;refine e1 (λax=>iq (i:=0) ((T eu).comp vJ) bz (ba o ax) o o o) ?_;refine AO ir ?_;refine aj h λa8 ap h=>jO ap (oY (ae o) (ae o) (λh=>h)) (bC ?_);refine aj h λP G h=>?_;refine fg [0,4,6,7,8,26,27,28] [] [(3,⟨w l,.bF P.1 [(1,aH (F 7 0) (t E) ((F 7 1).getD 0)),(4,aH V (t ([]:R aW)) 0)]⟩),(9,a7 d P.2)] ?_ (λhm H=>?_) λhm H=>?_
   ·refine c5 (Y (bW (cH hc ?_)));refine bJ (y ?_);cases h;exact eE ((F 7 0),((F 7 1).getD 0)) 1
   ·have h:=da H G;refine bW (bJ ?_);refine cn 9 o (aj h λa9 aw h=>cy 1 .i (hj aw) λa_=>?_);refine cH hc ?_;refine cP (bM GU.fd) ?_;refine aj h λbb ay h=>?_;refine dm (i:=4) ((T bg).comp Bp) bz (ae o) (ae o) o o (dz ay) (by rfl) ?_;refine y (X 9 o (X 9 o (X 9 o (X 9 o (X 9 o (X 9 o (X 9 o (X 9 o (X 9 o ?_)))))))));cases h;exact cL 0 (hm ())
   have h:=db H G;refine ca ?_;cases h;exact cL 0 (hm ())
  refine cv (cw ?_);cases h;exact ej (a.1,a.2) 0
 refine c0 (Y (bm (aj h λQ aB h=>aj h λfm aC h=>aj h λaE aI h=>er [0,4,6,7,8] ?_)));refine c4 mixed (az 54 [] [] _::az 55 [0] [5] _::az 56 [] [] _::az 57 [] [] _::az 58 [3] [5] _::az 59 [4] [] _::⟨w 60,[2,5],[8],[8],λ_=>u Q.1,λaq _=>a7 d Q.2⟩::az 61 [1,6] [] _::az 62 [7] [] _::az 63 [] [] _::fL [8,9] [2] [2] (λaq=>⟨w l,.bF aE [(1,aH a.1 (t D.2.1) a.2),(4,aH V (t ([]:R aW)) 0)]⟩)::[]) ⟨hI (bM Yk.fd),qD 5 zc j5,gM,hI (bM Yk.fd),qD 5 zc j5,hI (mT underlying59),?_,eF λaA av=>jy (k:=fm) underlying59 bz (ae (aA _ _ o)) (ae (aA _ _ o)) (cz aC),hI (hn bz),hI (bM uM.fd),?_,S⟩ λbc=>?_
 ·intro aq br aD aA av;exact cn 8 (av 8 _ o o) (cO (dJ:=[a7 d D.2.2]) (b9:=aD.eraseIdx 8) .i (hj aB) ⟨ae (aA _ _ o),ae (aA _ _ o),S⟩ o λbd=>y (cs 8 (av 8 _ o o) (a' (dv []) o o)))
 ·intro aq br aD aA av;refine dm (i:=2) ((T bg).comp s5) bz (ae (aA _ _ o)) (ae (aA _ _ o)) (av 2 _ o o) o (dz aI) (by rfl) ?_;exact y (a' (dv []) o o)
 refine cm ?_;refine e4 (Y (bm (bl ?_)));refine j6 7 n5 ?_;refine cP (bM uM.fd) ?_;refine qC 2 s5 bz ?_;refine aj h λab aJ h=>hU aao.dj (aao.m _ _ _ aJ) ?_;refine aT (CM TH ⟨_,_,underlying167,rfl,rfl,rfl⟩ Y7 o (ae o) o o) ?_;refine cP (mT underlying164) ?_;refine bJ (bC (b5 ?_));refine aj h λbe m h=>?_;refine eC (aY:=bN) (aX:=bN) m [6,8] (λj c=>[(0,bu d),(68,u ab.e2),(69,u (t ab.e2:Int)),(70,u j.1)]) (λj c=>[(2,⟨w l,.bF j.2.1 [(1,aH a.1 (t D.2.1) a.2),(4,aH c.1 (t j.2.2.1) c.2)]⟩),(3,⟨c.1,.row 105 j.2.2.1 c.2⟩),(8,a7 d j.2.2.2)]) (λB=>U 2) (λB c=>[]) (λB c=>[(2,⟨w l,.bF B.1 [(1,aH a.1 (t D.2.1) a.2),(4,aH c.1 (t B.2.1) c.2)]⟩),(3,⟨c.1,.row 105 B.2.1 c.2⟩),(8,a7 d B.2.2)]) (V,0) (λj C h c=>?_) λc=>?_
 ·refine bl (cH kj (fl ?_));refine fR h (λh=>?_) λh=>?_
  ·refine gE (bm (b5 (bl (aj h λiw aL h=>DF aL underlying164 LL ?_))));refine cP (hn LL) ?_;refine iL am6 λbf=>?_;refine oc 0 LL (bC ?_);refine aj h λI aM h=>aj h λbh aN h=>aj h λbi aO h=>aj h λK aR h=>er [0,6,8,12,68,69,70,71,72,73] ?_;refine c4 mixed (az 74 [] [] _::az 75 [0] [3] _::az 76 [] [] _::⟨w 77,[2],[9],[9],λ_=>u I.1,λaq _=>a7 d I.2⟩::az 78 [3] [] _::az 79 [4] [] _::az 80 [] [] _::az 81 [6] [0] _::az 82 [5,7] [] _::az 83 [8] [] _::⟨w 84,[1,9],[4],[4],λaq=>bQ (aH (aq 10 0) (t K) ((aq 10 1).getD 0)),λaq _=>⟨(aq 10 0),.row 105 K ((aq 10 1).getD 0)⟩⟩::az 85 [] [] _::fL [1,10,11] [3] [3] (λaq=>⟨w l,.bF ({j.2.1 with eX:=[]}:bg) [(1,aH a.1 (t D.2.1) a.2),(4,aH (aq 10 0) (t K) ((aq 10 1).getD 0))]⟩)::[]) ⟨hI (bM wk.fd),eF λaA av=>fG (i:=3) (q:=1) u7 (ae (aA _ _ o)) (av 3 _ o o) o,gM,?_,hI (CV underlying3 underlying103),eF λaA av=>(iI (b:=({(cq:aW)with df:=cr 64 I.1}:aW)) o wA mS (.cons nj o (ae (aA _ _ o)) o (.nil))).sT (dz aN),hI (bM ajP.fd),qD 0 T2 bz,eF λaA av=>fP aal.dj (aal.m _ _ _ aO) ⟨ae (aA _ _ o),ae (aA _ _ o),S⟩,eF λaA av=>tx underlying46 e3 mS o o (.cons (by simp) (ae (aA _ _ o)) (.nil)),?_,hI (bM wk.fd),?_,S⟩ λac=>?_
   ·intro aq br aD aA av;refine cn 9 (av 9 _ o o) (cO (dJ:=[a7 d j.2.2.2]) (b9:=aD.eraseIdx 9) .i (hj aM) ⟨ae (aA _ _ o),cU 256,S⟩ o λbj=>y (cs 9 (av 9 _ o o) ?_));exact a' (dv []) o o
   ·intro aq br aD aA av;refine c3 (i:=4) underlying46 e3 mS (bytes:=16) (by kernel_rfl) (ae (aA _ _ o)) (av 4 _ o o) (ae (aA _ _ o)) aR o λaS aU=>?_;exact y (a' (dv [aS,w aU]) o o)
   ·intro aq br aD aA av;refine co (i:=3) ((T bg).comp um) u7 (ae (aA _ _ o)) (ae (aA _ _ o)) hy (av 3 _ o o) o o o (y ?_);exact a' (dv []) o o
   refine cm ?_;refine e4 ?_;refine c5 (Y (bW (cH hc ?_)));refine bJ (y ?_);cases h;exact eE ((ac 10 0),((ac 10 1).getD 0)) 1
  refine cv (cw ?_);cases h;exact ej (c.1,c.2) 0
 refine c0 (Y (bl (ct ((T bg).comp xg) 2 4 0 o o o o o o (ct ((T bg).comp um) 2 3 0 o o o o o o (aa.qq 2 o (aj h λbk aV h=>jO aV (iq (i:=2) (T bg) lM (ae o) o o o) ?_))))));refine oc 6 lM (bC (b1 ?_));refine X 8 o ?_;cases h;exact c6 () (.cons_cons _ (r0 _)) o o (mU (i:=7) lM o o)
def UJ{A a B}(h:xC A a B):k4 prog 22 [u a] A B:=by
 unfold xC at h;refine b4 λP Q=>?_;refine bl (hT λf=>?_);refine aT (cc nk) (fl ?_);obtain⟨D,E,F⟩:=ag.ex h;obtain⟨G,H,I⟩:=ag.arV F;refine er [1,2] ?_;refine ar.tL mixed [1,3,5] [(0,3,u a),(2,5,u a),(4,7,u a)] ?_;refine fe.md [] [0,2,4] [1] ⟨?_,S⟩;refine gf.of (aP:=[]) (λx:Subtype D=>[(4,u x.1.1)]) (λx=>[]) (λx=>(a7 f a::bc x.1.2)) (λ⟨c,j⟩=>?_) (λK l cH M aA k=>?_)
 ·refine fe.md [0] [2,4] [3] ⟨?_,S⟩
  ·refine gf.of (aP:=[]) (λx: {z // G (c,z)} =>[(6,u x.1.1)]) (λx=>[]) (λx=>(a7 f a::bc x.1.2)) (λ⟨d,m⟩=>?_) (λK l cH M aA k=>?_)
   ·have h:=I (c,d) m;refine fe.md [2,0] [4] [5] ⟨gf.tail [4,3,2,1,0] ?_,S⟩;refine aa.dY ?_;refine aa.le (br:=[(1,bu f),(2,u (V:Ref)),(4,u c.1),(6,u d.1),(7,u a)]) .all ?_;refine aa.ez 1 0 o .i (agn h) o o ⟨ae o,S⟩ o λ⟨⟨C,h⟩,ab⟩=>?_;refine aa.eh ?_;refine aT (rf (b:=({(cq:gG)with mi:=c.1,rk:=d.1,uH:=C.1}:gG)) [3] ajQ o am7 am8 (.cons Es o (ae o) o (by rfl) (.cons Tx o (ae o) o (by rfl) (.cons Tk o (ae o) o (by rfl) (.nil))))) ?_;refine bY 180 (aa.RF (ae o) o λac=>aa.gQ ((T gG).comp Eh) 0 0 o o o (aa.Y5 3 2 (Cell.mw ({({(cq:gG)with mi:=c.1,rk:=d.1,uH:=C.1}:gG)with gT:=([]:R gq)}:gG) V 0) o o o o jS λp N O=>?_));replace h:=ag.oM (h (V,0)) p N;refine aa.Y6 10 o O (bI (bC (b1 ?_)));exact c6 (⟨⟨((w p.1:Ref),p.2),h⟩,()⟩: {r // _}×_) (fv 1) o o (dO o)
   cases l;refine aa.ez 1 0 o .i (agW (H c j)) o o ⟨ae (aA o),S⟩ o λ⟨⟨d,m⟩,_⟩=>?_;refine aa.eh (y ?_);exact k ⟨d,m⟩
 cases l;refine aa.ez 1 0 o .i (agr E) o o ⟨ae (aA o),S⟩ o λ⟨⟨c,j⟩,_⟩=>?_;refine aa.eh (y ?_);exact k ⟨c,j⟩
def adJ{c p a d}(h:zk c p=w d):k3 prog 29 [bu a,u p] a c (u d.1) d.2:=by
 unfold zk at h;refine b4 λK M=>?_;refine ay λN O=>?_;refine aj h λf B h=>aj h λbB P h=>aj h λj C h=>aj h λA D h=>aj h λE Q h=>ar.kS 1 (er [0,1,3,4] ?_);refine c7 4 (az 6 [] [] _::az 7 [] [] _::⟨w 8,[1],[2],[2],λ_=>u f.1,λaq _=>a7 a f.2⟩::az 9 [0,2] [] _::az 10 [3] [] _::az 11 [] [] _::az 12 [] [1] _::az 13 [] [] _::⟨w 14,[2,7],[2],[2],λ_=>u j.1,λaq _=>a7 a j.2⟩::⟨w 15,[2,5,6,8],[2],[2],λ_=>u A.1,λaq _=>a7 a A.2⟩::az 16 [4,9] [] _::mY 5 [] 3 11 _::fL [10,11] [3] [3] (λaq=>a7 ((aq 11 0).getD 0) E)::[]) (dC ?_ (dC ?_ (dC ?_ hg))) (λF=>?_)
 ·intro aq br aD aA av dQ;exact cn 2 (av 2 _ o o) (cO (dJ:=[a7 a c]) (b9:=aD.eraseIdx 2) .i (hj B) ⟨ae (aA _ _ o),cU 4,S⟩ o λab=>y (cs 2 (av 2 _ o o) (a' (dv []) o o)))
 ·intro aq br aD aA av dQ;exact cn 2 (av 2 _ o o) (cO (dJ:=[a7 a f.2]) (b9:=aD.eraseIdx 2) .i (hj C) ⟨ae (aA _ _ o),cU 4,S⟩ o λac=>y (cs 2 (av 2 _ o o) (a' (dv []) o o)))
 ·intro aq br aD aA av dQ;refine cn 2 (av 2 _ o o) (cO (dJ:=[a7 a j.2]) (b9:=aD.eraseIdx 2) .i (ad8 D) ⟨ae (aA _ _ o),ae (aA _ _ o),ae (aA _ _ o),S⟩ o λad=>y (cs 2 (av 2 _ o o) ?_));exact a' (dv []) o o
 refine cm ?_;refine e4 ?_;refine X 3 o (ay ?_);refine aj h λG l h=>?_;refine fg [4,5] [] [(0,a7 ((F 11 0).getD 0) G)] ?_ (λhm m=>?_) λhm m=>?_
 ·exact go
 ·have h:=da m l;refine bW (cP (bM GV.fd) ?_);refine cP (bM uM.fd) ?_;refine aj h λag H h=>?_;refine rF 0 (BF.comp s5) bz (ax:=by exact H) ?_;refine cP (bM GV.fd) ?_;refine cP (bM wk.fd) ?_;refine aj h λah I h=>?_;refine rF 0 (BF.comp um) u7 (ax:=by exact I) ?_;exact go
 have h:=db m l;exact go
def vv{d m l f j a}(h:sY d m=w a):bn prog 372 [bu l,u m] [⟨w l,.bF ({d with b3:=[]}:bw) [(2,aH f (t d.b3) j)]⟩,⟨f,.row 346 d.b3 j⟩] (aX:=bN) (λc=>u a.1) (λc=>[⟨w l,.bF ({a.2 with b3:=[]}:bw) [(2,aH c.1 (t a.2.b3) c.2)]⟩,⟨c.1,.row 346 a.2.b3 c.2⟩]):=by
 unfold sY at h;refine b4 λD E=>?_;refine ay ?_;refine aj h λbB p h=>aj h λdi A h=>aj h λF B h=>?_;refine c8 mixed 39 (rg 5 39) [[],[0],[1],[2],[],[4],[5],[6],[7],[3,8],[9],[10],[10,11],[10,12],[10,13],[10],[10,15],[10,16],[10,17],[10,14,18],[10,19],[10,20],[10,21],[10,22],[23],[24],[24,25],[24,26],[24,27],[24],[24,29],[24,30],[24,31],[24,28,32],[24,33],[24,34],[24],[24,35,36],[24,37]] [_,_,_,_,_,_,_,_,_,_,_,_,_,_,_,_,_,_,_,_,_,_,_,_,_,_,_,_,_,_,_,_,_,_,_,_,_,_,_] ⟨dG,H1 fp,H1 (bM xN.fd),ed λav=>ho (i:=0) ((T bw).comp nU) bz (ae o) (av _ _ o o) o o (by rfl),dG,H1 fp,H1 (bM xO.fd),ed λav=>ho (i:=0) ((T bw).comp s8) uU (ae o) (av _ _ o o) o o (by rfl),H1 (mT underlying347),jB ir,dG,bD λaD av=>λax=>cN (ae o),bD λaD av=>λax=>fp (ba o ax),bD λaD av=>λax=>bM xO.fd (ba o ax),bD λaD av=>λax=>ho (i:=0) ((T bw).comp s8) uU (ba o ax) (av _ _ o o) o o (by rfl),bD λaD av=>λax=>cN (ae o),bD λaD av=>λax=>fp (ba o ax),bD λaD av=>λax=>bM xN.fd (ba o ax),bD λaD av=>λax=>ho (i:=0) ((T bw).comp nU) bz (ba o ax) (av _ _ o o) o o (by rfl),bD λaD av=>λax=>jy (k:=bB) underlying347 wD (ba o ax) (ba o ax) (cz (dT p ax)),bD λaD av=>λax=>oV BG GK.fd (ba o ax) o o,bD λaD av=>λax=>hn bz (ba o ax),bD λaD av=>λax=>Av (ba o ax) (cU 3),ed λav=>oY (ae o) (ae o) (λh=>h),dG,bD λaD av=>λax=>cN (ae o),bD λaD av=>λax=>fp (ba o ax),bD λaD av=>λax=>bM xO.fd (ba o ax),bD λaD av=>λax=>ho (i:=0) ((T bw).comp s8) uU (ba o ax) (av _ _ o o) o o (by rfl),bD λaD av=>λax=>cN (ae o),bD λaD av=>λax=>fp (ba o ax),bD λaD av=>λax=>bM xN.fd (ba o ax),bD λaD av=>λax=>ho (i:=0) ((T bw).comp nU) bz (ba o ax) (av _ _ o o) o o (by rfl),bD λaD av=>λax=>jy (k:=di) underlying347 wD (ba o ax) (ba o ax) (cz (dT A ax)),bD λaD av=>λax=>oV NM Xx.fd (ba o ax) o o,bD λaD av=>λax=>hn gR (ba o ax),bD λaD av=>λax=>cN (ae o),bD λaD av=>λax=>QT underlying9 (ba o ax) (ba o ax),vm B λaD av=>oY (ae o) (ae o) (λh=>h),S⟩ ?_;refine go2 (λh=>?_) (λh=>?_)
 ·refine X 1 o (X 1 o ?_);cases h;exact ff (f,j)
 refine qC 0 nU bz ?_;refine ay ?_;refine aj h λG C h=>dm (i:=0) ((T bw).comp nU) bz (ae o) (ae o) o o (dz C) (by rfl) ?_;refine ay ?_;refine ds ((T bw).comp mG) 0 0 o o o (X 1 o (X 1 o ?_));cases h;exact ff (f,j)
def ui{a p f j l c}(h:rW a p=w c):bn prog 373 [bu f,u p] [⟨w f,.bF ({a with b3:=[]}:bw) [(2,aH j (t a.b3) l)]⟩,⟨j,.row 346 a.b3 l⟩] (aX:=bN) (λd=>u c.1) (λd=>[⟨w f,.bF ({c.2 with b3:=[]}:bw) [(2,aH d.1 (t c.2.b3) d.2)]⟩,⟨d.1,.row 346 c.2.b3 d.2⟩]):=by
 unfold rW at h;refine b4 λE F=>?_;refine ay λG=>?_;refine aj h λm B h=>er [0,1,3,4] ?_;refine c7 3 (az 5 [] [] _::az 6 [] [] _::az 7 [1] [] _::az 8 [2] [] _::az 9 [3] [1] (bQ (aH j (t a.b3) l))::az 10 [] [0] _::az 11 [5] [] _::⟨w 12,[4,6],[2],[2],λaq=>bQ (aH (aq 7 0) (t m) ((aq 7 1).getD 0)),λaq _=>⟨(aq 7 0),.row 346 m ((aq 7 1).getD 0)⟩⟩::az 13 [0] [] _::az 14 [8] [] _::fL [4,7,9] [1] [1] (λaq=>⟨w f,.bF ({a with b3:=[]}:bw) [(2,aH (aq 7 0) (t m) ((aq 7 1).getD 0))]⟩)::[]) (dC ?_ (dC ?_ (dC ?_ hg))) (λA=>?_)
 ·exact fb.q (iV λaq br aD aA av=>fG (i:=1) (q:=0) De (ae (aA _ _ o)) (av 1 _ o o) o)
 ·intro aq br aD aA av dQ;refine c3 (i:=2) underlying290 Df wE (bytes:=72) (by kernel_rfl) (ae (aA _ _ o)) (av 2 _ o o) (ae (aA _ _ o)) B o λC D=>?_;exact y (a' (dv [C,w D]) o o)
 ·intro aq br aD aA av dQ;refine co (i:=1) ((T bw).comp mG) De (ae (aA _ _ o)) (ae (aA _ _ o)) hy (av 1 _ o o) o o o (y ?_);exact a' (dv []) o o
 refine cm ?_;refine e4 ?_;refine ay ?_;refine aT (fG (i:=1) (q:=0) De (ae o) o o) ?_;refine aT (nv (i:=2) underlying290 (ae o) o o) ?_;refine ay ?_;refine X 2 o (X 2 o ?_);cases h;exact ff ((A 7 0),((A 7 1).getD 0))
def Iv{a f c d j}(h:Bk a=w j):bn prog 342 [bu f] [⟨w f,.bF ({a with b3:=[]}:bw) [(2,aH c (t a.b3) d)]⟩,⟨c,.row 346 a.b3 d⟩] (aX:=bG) (λl=>cI []) (λl=>[⟨w f,.bF ({a with b3:=[]}:bw) [(2,aH c (t a.b3) d)]⟩,⟨c,.row 346 a.b3 d⟩]):=by
 unfold Bk at h;refine b4 λm p=>?_;cases h
def UK{a:(R kM)}(h:JT=w a):cf prog 395 [] (u a):=by
 unfold JT at h;refine b' λc d=>?_;refine bl (aT (cc (look_nil (au:=kM))) ?_);exact go
def aeY{a:(R kM)}(h:Om=w a):cf prog 392 [] (u a):=by
 unfold Om at h;refine b' λc d=>?_;refine bl (aT (cc (look_nil (au:=kM))) ?_);exact go
instance Me:jg prog 343 _ _ _ _ NT u u u u:=.j (h:=λa c d f h j l=>by
 exact go)
def afQ{a:(R jv)}(h:OD=w a):cf prog 345 [] (u a):=by
 unfold OD at h;refine b' λc d=>?_;refine bl (aT (cc (look_nil (au:=jv))) ?_);exact go
instance:ew prog 344 _ _ Ul u u:=.j (h:=λp r h W A=>by
 refine bl (hT λB=>?_);refine aT (cc (look_nil (au:=Int))) ?_;refine ay ?_;refine aj h λj c h=>?_;refine fg [1,4] (cD.cF [5] j) [] ?_ (λhm a=>?_) λhm a=>?_
 ·refine go2 (λh=>?_) (λh=>?_)
  ·refine aT (cc (look_nil (au:=Int))) ?_;exact go
  refine aj h λl d h=>?_;refine fg [1] (cD.cF [9] l) [] ?_ (λhm a=>?_) λhm a=>?_
  ·exact go
  ·have h:=da a d;exact go
  have h:=db a d;exact go
 ·have h:=da a c;exact go
 have h:=db a c;refine ay ?_;refine aj h λm f h=>?_;refine fg [1,4] (cD.cF [5] m) [] ?_ (λhm a=>?_) λhm a=>?_
 ·exact go
 ·have h:=da a f;exact go
 have h:=db a f;exact go)
instance aaB:ew prog 257 _ _ OE u u:=.j (h:=λa d h f j=>by
 refine bl (hT λl=>?_);refine iL QU λm=>eG ?_;refine cP (bM KT.fd) ?_;refine jz 1 nj ki ?_;refine cP (bM PM.fd) ?_;refine jz 1 xu ki ?_;refine aj h λp c h=>?_;refine jO c (Pu (b:=fC (fC (fC (cq:ck (cE 64) 3) 0 a.df) 1 a.ep) 2 (0#64)) (rL:=1) o underlying360 (by kernel_rfl) Y8 (.cons (bP 3 0 (by decide)) o (ae o) o (.cons (bP 3 1 (by decide)) o (ae o) o (.cons (bP 3 2 (by decide)) o (nW 0 o) o (.nil))))) ?_;exact go)
instance:ew prog 302 _ _ OT u u:=.j (h:=λa r h W A=>by
 refine ay λd=>?_;refine aT (ajR (ae o) (nW 63 o)) ?_;refine cP (CV underlying3 underlying103) ?_;refine bI (eG ?_);refine bJ ?_;refine cP (CV underlying3 underlying103) ?_;refine bJ ?_;refine bJ ?_;refine aj h λf c h=>?_;refine jO c (Pu (b:=fC (fC (fC (cq:ck (cE 64) 3) 0 (cr 64 a)) 1 (cr 64 (Dv a (63#64).toNat))) 2 (cr 64 (Dv a (63#64).toNat))) (rL:=1) o underlying360 (by kernel_rfl) Y8 (.cons (bP 3 0 (by decide)) o (ae o) o (.cons (bP 3 1 (by decide)) o (ae o) o (.cons (bP 3 2 (by decide)) o (ae o) o (.nil))))) ?_;exact go)
instance:ew prog 304 _ _ JP u u:=.j (h:=λa r h W A=>by
 refine ay λc=>?_;refine aT (RK LM underlying365 o (ae o) (VG _)) ?_;exact go)
instance:dd prog 347 _ _ _ Cn u u u:=.j (h:=λG H r h W A=>by
 refine bl (hT λB=>?_);refine hT λC=>?_;refine iL QU λI=>eG ?_;refine iL QU λd=>eG ?_;refine aT (cc (nW 0 o)) (fl (bl ?_));refine bJ (bC (b5 ?_));refine aj h λK f h=>?_;refine eC (aY:=bG) (aX:=bG) f [4,5] (λa c=>[(2,bu B),(3,bu C),(6,u a.1),(8,u a.2.1)]) (λa c=>[(0,a7 d a.2.2)]) (λj=>U 0) (λj c=>[]) (λj c=>[(0,a7 d j)]) () (λa r h c=>?_) λc=>?_
 ·refine bl (cH kj (fl ?_));refine fR h (λh=>?_) λh=>?_
  ·refine gE (bm (b5 (bl (bJ ?_))));refine bI (bC ?_);refine aj h λbB l h=>aj h λdi m h=>aj h λM D h=>aj h λfm p h=>aj h λE F h=>er [2,3,4,5,6,7,8,9,10] ?_;refine c4 mixed (az 12 [] [] _::az 13 [] [] _::az 14 [] [] _::az 15 [1,2] [] _::az 16 [3] [3] _::az 17 [] [] _::az 18 [] [] _::az 19 [5,6] [] _::az 20 [7] [2] _::az 21 [] [] _::az 22 [4,8,9] [] _::az 11 [10] [] _::az 23 [11] [] _::az 24 [11] [] _::az 25 [] [] _::az 26 [0,14] [] _::fL [12,15] [0] [0] (λaq=>a7 d E)::az 6 [0,1,2,3,4,5,6,7,8,9,10,11,12,13,14,15,16] [] _::[]) ⟨gM,gM,hI (bM vX.fd),eF λaA av=>hp wz (ae (aA _ _ o)) (ae (aA _ _ o)) (cz l),qD 3 (((T eL).comp rV).comp (bP 3 bB (cz l).1)) ki,gM,hI (bM vX.fd),eF λaA av=>hp wz (ae (aA _ _ o)) (ae (aA _ _ o)) (cz m),qD 2 (((T eL).comp rV).comp (bP 3 di (cz m).1)) ki,gM,eF λaA av=>Yl Ym (ae (aA _ _ o)) (ae (aA _ _ o)) (ae (aA _ _ o)) D,gM,eF λaA av=>yf (ae (aA _ _ o)) o,eF λaA av=>yf (ae (aA _ _ o)) o,hI (bM vX.fd),eF λaA av=>hp wz (ae (aA _ _ o)) (ae (aA _ _ o)) (cz p),?_,eF λaA av=>cc (ae (aA _ _ o)),S⟩ λN=>?_
   ·intro aq br aD aA av;refine aa.store (i:=0) (((T eL).comp rV).comp (bP 3 fm (cz p).1)) ki (ae (aA _ _ o)) (ae (aA _ _ o)) (av 0 _ o o) o (dz F) (y ?_);exact a' (dv []) o o
   refine cm ?_;refine e4 ?_;refine c5 (Y (bW (cH hc ?_)));refine bJ (y ?_);cases h;exact eE () 0
  refine cv (cw ?_);cases h;exact ej () 0
 refine c0 (Y (bl (j6 0 LN ?_)));refine oc 1 LN (bC (b1 ?_));cases h;exact af.Ds o (rG 1 LN))
instance:ew prog 374 _ _ Ug u u:=.j (h:=λa r h W A=>by
 refine bl (hT λc=>?_);refine bI (eG ?_);refine cP (bM vX.fd) ?_;refine aT (hp wz (ae o) (cU 2) ⟨by decide,rfl⟩) ?_;refine jz 0 (((T eL).comp rV).comp (bP 3 2 (⟨by decide,rfl⟩:2<3∧(2:Int)=2).1)) ki ?_;refine aT (Xy (ae o) (nW 63 o)) ?_;refine aT (Xz (ae o) (nW 1 o)) ?_;refine bI (bC (b1 ?_));cases h;exact lQ)
def T7{a c}(h:Fo a=w c):cf prog 350 [u a] (u c):=by
 unfold Fo at h;refine b' λd f=>?_;exact go
instance:ew prog 350 _ _ Fo u u:=
 ⟨⟨_,func350,rfl,by kernel_rfl⟩,λ_ _ h=>T7 h⟩
def adK{a c}(h:NU a=w c):cf prog 486 [u a] (u c):=by
 unfold NU at h;refine b' λd f=>?_;exact go
def E9{j a f c d l}(h:zn j a=w l):bn prog 256 [u j,bu f] [⟨w f,.bF ([]:R dg) [(0,aH c (t a) d)]⟩,⟨c,.row 357 a d⟩] (aX:=bG) (λp=>u l) (λp=>[⟨w f,.bF ([]:R dg) [(0,aH c (t a) d)]⟩,⟨c,.row 357 a d⟩]):=by
 unfold zn at h;refine b4 λA B=>?_;refine bl (aT (cc Lk) (fl (bl ?_)));refine bJ ?_;refine cH kj ?_;refine bJ ?_;refine jY cN ?_;refine e1 (λax=>fG (i:=0) (q:=0) sv (ae o) o o) ?_;refine e1 (λax=>nv (i:=1) underlying355 (ba o ax) o o) ?_;refine AO G8 ?_;refine wW (bC ?_);refine fR h (λh=>?_) λh=>?_
 ·refine bl (aT (mn underlying358 o (gU false) (λ_ _ _ h=>sj h)) ?_);refine bI (bC (b1 (ci ?_)));refine X 1 o (X 1 o ?_);cases h;exact ff ()
 refine gE (bl (aT (fG (i:=0) (q:=0) sv (ae o) o o) ?_));refine bJ ?_;refine aj h λbB m h=>aT (jx (i:=1) underlying355 uV (ae o) (ae o) o (cz m)) ?_;refine aT (mh (i:=1) (k:=bB) (T dg) uV (ae o) o (cz m).1 o o) ?_;refine bI (bC (b1 ?_));refine X 1 o (X 1 o ?_);cases h;exact ff ()
def afu{f l}(h:OB f=w l):cf prog 299 [u f] (u l):=by
 unfold OB at h;refine b' λag ah=>?_;refine bl (bI (fl (bl ?_)));refine bJ ?_;refine cP (mT underlying290) ?_;refine cH ir (bC ?_);refine fR h (λh=>?_) λh=>?_
 ·refine bl (bI (bC (b1 (ci ?_))));cases h;exact lQ
 refine gE (bl (bY (au:=Int) 3 (aT (cc h7) (fl (bl ?_)))));refine bJ ?_;refine cP (mT underlying290) ?_;refine bJ (bC (b5 ?_));refine aj h λai m h=>?_;refine eC (aY:=bN) (aX:=bN) m [] (λd c=>[(3,bQ (aH c.1 (t d.2) c.2)),(11,u f),(12,u (t f:Int)),(13,u d.1)]) (λd c=>[(0,⟨c.1,.row 3 d.2 c.2⟩)]) (λj=>U 0) (λj c=>[(3,bQ (aH c.1 (t j) c.2))]) (λj c=>[(0,⟨c.1,.row 3 j c.2⟩)]) (V,0) (λd l h c=>?_) λc=>?_
 ·refine bl (cH kj (fl ?_));refine fR h (λh=>?_) λh=>?_
  ·refine gE (bm (b5 (bl (bJ ?_))));refine aj h λbB H h=>DF H underlying290 Df ?_;refine cP (hn Df) ?_;refine iL wE λak=>?_;refine bI ?_;refine oc 0 Df (fl ?_);refine aj h λal I h=>aj h λam K h=>er [3,4,5,11,12,13,14,15,16,17] ?_;refine c4 mixed (az 18 [] [] _::az 19 [] [] _::az 20 [1] [0] _::az 21 [] [] _::az 22 [0,2,3] [1] _::az 23 [] [] _::az 24 [] [] _::az 25 [6] [0] _::az 26 [] [] _::az 27 [5,7,8] [1] _::az 6 [4] [] _::az 7 [9] [] _::[]) ⟨gM,hI (bM ajS.fd),qD 0 ur bz,gM,eF λaA av=>aZ.Hl (au:=Int) 1 18 (aA _ _ o) (av 1 _ o o) tm (fP Me.dj (Me.m _ _ _ _ I) ⟨ae o,ae (aA _ _ o),ae (aA _ _ o),S⟩),gM,hI (bM ajT.fd),qD 0 vG bz,gM,eF λaA av=>aZ.Hl (au:=Int) 1 23 (aA _ _ o) (av 1 _ o o) tm (fP Me.dj (Me.m _ _ _ _ K) ⟨ae o,ae (aA _ _ o),ae (aA _ _ o),S⟩),eF λaA av=>cc (ae (aA _ _ o)),eF λaA av=>cc (ae (aA _ _ o)),S⟩ λan=>?_;refine cm ?_;refine e4 (Y (bm (bl ?_)));refine cP (bM ajU.fd) ?_;refine jz 0 sc bz (bC (b5 (bm (bl ?_))));refine cH ir ?_;refine bI (bC ?_);refine aj h λM p h=>?_;refine fg [3,6,7,11,12,13,29] (cD.cF [33] M) [] ?_ (λhm a=>?_) λhm a=>?_
   ·refine Y (aj h λF A h=>?_)
    refine fg [3,11,12,13] (cD.cF [6] F) [] ?_ (λhm a=>?_) λhm a=>?_
    ·refine c5 (Y (bW (bJ ?_)));refine bJ ?_;refine HE [F] underlying59 bz my ?_;refine aj h λao N h=>eM 1 underlying59 bz my N λO P=>?_;refine bI (y ?_);refine c5 (Y (bW (cH hc ?_)));refine bJ (y ?_);cases h;exact eE (O,P) 1
    ·have h:=da a A;refine bW (bI (y ?_));cases h;exact cL 0 (hm ())
    have h:=db a A;refine bm (bl (cH ir ?_));refine bI (bC ?_);refine aj h λQ B h=>?_;refine fg [3,6,7,11,12,13,29] (cD.cF [37] Q) [] ?_ (λhm a=>?_) λhm a=>?_
    ·refine Y (aj h λab C h=>?_)
     refine fg [3,11,12,13] (cD.cF [6] ab) [] ?_ (λhm a=>?_) λhm a=>?_
     ·cases h;exact cL 0 (hm ())
     ·have h:=da a C;refine bW (bJ ?_);refine cH hc ?_;refine bI (y ?_);cases h;exact cL 0 (hm ())
     have h:=db a C;refine bl (cH ir ?_);refine bI (bC ?_);refine aj h λac D h=>?_;refine fg [3,11,12,13] (cD.cF [6] ac) [] ?_ (λhm a=>?_) λhm a=>?_
     ·cases h;exact cL 0 (hm ())
     ·have h:=da a D;refine bW (bJ ?_);refine bJ ?_;refine cH hc ?_;refine cH LO ?_;refine bI (y ?_);cases h;exact cL 0 (hm ())
     have h:=db a D;refine bW (bJ ?_);refine bJ ?_;refine cH LO ?_;refine bI (y ?_);cases h;exact cL 0 (hm ())
    ·have h:=da a B;refine ca ?_;cases h;exact cL 0 (hm ())
    have h:=db a B;refine bW (cH ir ?_);refine bI (y ?_);cases h;exact cL 0 (hm ())
   ·have h:=da a p;refine ca ?_;cases h;exact cL 0 (hm ())
   have h:=db a p;refine bl (cH ir ?_);refine bI (bC ?_);refine aj h λad E h=>?_;refine fg [3,6,7,11,12,13,29] (cD.cF [33] ad) [] ?_ (λhm a=>?_) λhm a=>?_
   ·cases h;exact cL 0 (hm ())
   ·have h:=da a E;refine ca ?_;cases h;exact cL 0 (hm ())
   have h:=db a E;refine bW (cH ir ?_);refine bI (y ?_);cases h;exact cL 0 (hm ())
  refine cv (cw ?_);cases h;exact ej (c.1,c.2) 0
 refine c0 (Y (bl (bJ ?_)));refine bJ ?_;refine aT (nv (i:=0) underlying59 (ae o) o o) ?_;refine cH sw ?_;refine aj h λdi G h=>aT (jx (i:=0) underlying59 bz (ae o) (ae o) o (cz G)) ?_;refine aT (mh (i:=0) (k:=di) (T Int) bz (ae o) o (cz G).1 o o) ?_;refine bI (bC (b1 ?_));cases h;exact lQ
instance:ew prog 301 _ _ FY u u:=.j (h:=λc r h W A=>by
 refine ay (λd h=>?_);refine aj h λf a h=>hU .i (afQ a) ?_;exact go)
instance:ew prog 262 _ _ FM u u:=.j (h:=λa r h W A=>by
 exact go)
instance aaC:dd prog 258 _ _ _ JU u u u:=.j (h:=λB l m h C D=>by
 refine ay λp A=>?_;refine aj h λd f h=>?_;refine eC (aY:=bG) (aX:=bG) f [4] (λj c=>[(2,bu p),(7,u l),(8,u (t l:Int)),(9,u j)]) (λj c=>[]) (λa=>Z (λa=>U 0) (λa=>c1) a) (λa c=>[]) (λa c=>Z (λa=>[]) (λa=>[(0,a7 A a)]) a) () (λj m h c=>?_) λc=>?_
 ·refine ay (λbB E F h=>?_);refine aT (lq underlying9 (ae o) (ae o)) ?_;refine ay ?_;refine e1 (λax=>lq underlying9 (ba o ax) (ba o ax)) ?_;exact go
 rcases d with d|d
 ·simp only[bv]at h;exact go
 simp only[bx]at h;exact go)
instance:ew prog 346 _ _ F7 u u:=.j (h:=λp r h W A=>by
 refine ay λj B=>?_;refine aj h λC d h=>?_;refine eC (aY:=bG) (aX:=bG) d [1,2] (λc a=>[(4,u c.1)]) (λc a=>[(1,a7 j c.2)]) (λf=>U 0) (λf a=>[]) (λf a=>[(1,a7 j f)]) () (λc r h a=>?_) λa=>?_
 ·refine ay (λbB D h=>?_);refine cP ajV ?_;refine cP (bM vX.fd) ?_;refine aj h λdi l h=>aT (hp wz (ae o) (ae o) (cz l)) ?_;refine aj h λE m h=>?_;refine rF 1 (((T eL).comp rV).comp (bP 3 di (cz l).1)) ki (ax:=by exact m) ?_;exact go
 refine c0 (Y (bm (aj h λF G h=>aj h λH I h=>cl 3 ?_)));exact go)
def vA{a d}(h:s6 a=w d):CZ prog "matchguard/eval.holds" (u a) [] (u d):=by
 cases a with
 |nil=>cases h
 |lN f=>exact CZ.of (jP.rI (by kernel_rfl) underlying358 o .i) (λj l m c=>Pa c) (T7 h)
 |pL f=>exact CZ.of (jP.rI (by kernel_rfl) underlying365 o .i) (λj l m c=>Pb c) (adK h)
instance:dd prog 198 _ _ _ zO u u u:=.j (h:=λa c r h W A=>by
 exact go)
instance:dd prog 244 _ _ _ FN u u u:=.j (h:=λa c r h W A=>by
 exact go)
instance aaD:ew prog 195 _ _ OC u u:=.j (h:=λc d h f j=>by
 refine ay λl=>?_;refine aj h λm a h=>aT (fP .i (aci a) ⟨ae o,Ws .i (λ_ _=>aex),S⟩) ?_;exact go)
def aeA{a c d}(h:BP a c=w d):cf prog 127 [ce a,ce c] (u d):=by
 unfold BP at h;refine b' λf j=>?_;refine ay ?_;refine aj h λl m h=>aj h λbB p h=>aj h λA B h=>cl 12 ?_;exact go
instance:jg prog 130 _ _ _ _ J5 u u u u:=.j (h:=λa c d r h W A=>by
 exact go)
instance:ew prog 294 _ _ Uy u u:=.j (h:=λf r h W A=>by
 refine ay ?_;refine aj h λd j h=>hU .i (afh j) ?_;refine ay ?_;refine aj h λa c h=>?_;refine gw c [] (cG 0 (u f) (cG 5 (u d) (cG 6 (u (t d:Int)) (cD.cF [7])))) (Z (gx 0) h4) (Z (λ_=>[]) (cD.cF [2])) (λl r h=>?_) ?_
 ·exact go
 rcases a with a|a
 ·simp only[bv]at h;exact go
 simp only[bx]at h;exact go)
instance:ew prog 295 _ _ UQ u u:=.j (h:=λf r h W A=>by
 refine ay ?_;refine aj h λj a h=>?_;refine gw a [0] (cD.cF [3]) (gx 0) (cD.cF [3]) (λl r h=>?_) ?_
 ·refine ay ?_;refine aj h λm c h=>e1 (λax=>sr underlying9 (ba o ax) (ba o ax) (dT c ax)) ?_;exact go
 refine ay ?_;refine aj h λp d h=>aT (pA underlying9 (ae o) .none (.some (ae o)) d) ?_;exact go)
instance:dd prog 336 _ _ _ T3 u u (λr=>cI [u r.1,u r.2]):=.j (h:=λa c r h W A=>by
 exact go)
instance:dd prog 300 _ _ _ J6 u u u:=.j (h:=λl m r h W A=>by
 refine ay λbB B C D E h=>?_;refine aT (CM Ty ⟨_,_,underlying410,rfl,rfl,rfl⟩ bz o (ae o) o o) ?_;refine ay λj F h=>?_;refine aj h λa c h=>?_;refine gw c [] (cG 0 (u l) (cG 1 (u m) (cG 19 (u j) (cG 20 (u (t j:Int)) (cD.cF [6,21]))))) (Z (gx 0) h4) (Z (λ_=>[]) (cD.cF [4])) (λG r h=>?_) ?_
 ·refine ay (λdi H fm I K M h=>?_);refine aT (CM NC XA bz o (ae o) o o) ?_;refine ay ?_;refine aj h λp d h=>?_;refine fg [0,1,9,19,20,21] (cD.cF [6] p) [] ?_ (λhm f=>?_) λhm f=>?_
  ·exact go
  ·have h:=da f d;exact go
  have h:=db f d;exact go
 rcases a with a|a
 ·simp only[bv]at h;exact go
 simp only[bx]at h;exact go)
instance:dd prog 261 _ _ _ JV u u u:=.j (h:=λa c r h W A=>by
 exact go)
instance:jg prog 260 _ _ _ _ J7 u u u u:=.j (h:=λc d f r h W A=>by
 refine ay λj l=>?_;refine aj h λm a h=>jO a (lq underlying9 (ae o) (fA (cb #[112,114,101,102,105,120,95,108,101,110,103,116,104]))) ?_;refine ay (λh=>?_);refine aT (lq underlying9 (ae o) (fA (cb #[109,97,115,107]))) ?_;refine ay (λh=>?_);refine aT (lq underlying9 (ae o) (fA (cb #[104,105,103,104]))) ?_;exact go)
instance:dd prog 348 _ _ _ F8 u u u:=.j (h:=λa c r h W A=>by
 refine ay λd f j=>?_;refine aj h λl m h=>aj h λp B h=>cl 4 ?_;exact go)
instance:dd prog 305 _ _ _ F9 u u u:=.j (h:=λc d r h W A=>by
 refine ay ?_;refine aT (RK LM underlying365 o (ae o) (VG _)) ?_;refine go2 (λf h=>?_) (λh=>?_)
 ·refine aj h λj l h=>cl 5 ?_;exact go
 refine aT (RK ane underlying358 o (ae o) (ahA _)) ?_;refine ay (λm p h=>?_);refine aj h λB a h=>aT (wF (vA a) ⟨(ae o),S⟩) ?_;exact go)
instance:jg prog 338 _ _ _ _ Uz u u u u:=.j (h:=λD m E r h W A=>by
 refine ay λp F j=>?_;refine aj h λG d h=>?_;refine eC (aY:=bG) (aX:=bG) d [6,7] (λa c=>[(1,u m),(2,u a.1),(3,bu p),(13,u a.2.1)]) (λa c=>[(0,a7 j a.2.2)]) (λf=>U 0) (λf c=>[]) (λf c=>[(0,a7 j f)]) () (λa r h c=>?_) λc=>?_
 ·refine ay (λbB H I K h=>?_);refine aj h λM B h=>aT (Yl Ym (ae o) (ae o) (nW 0 o) B) ?_;refine bJ ?_;refine pQ ?_;refine pQ ?_;refine bI ?_;refine bI (bC (bW ?_));refine bJ ?_;refine bJ ?_;refine bJ ?_;refine bJ ?_;refine cH PO ?_;refine cP (bM vX.fd) ?_;refine aj h λdi l h=>aT (hp wz (ae o) (ae o) (cz l)) ?_;refine aj h λN C h=>?_;refine rF 0 (((T eL).comp rV).comp (bP 3 di (cz l).1)) ki (ax:=by exact C) ?_;exact go
 exact go)
def Tl{d A f j l a}(h:Iw d A=w a):bn prog 401 [bu f,u A] [⟨w f,.bF ({d with b3:=[]}:bw) [(2,aH j (t d.b3) l)]⟩,⟨j,.row 346 d.b3 l⟩] (aX:=bN) (λc=>u a.1) (λc=>[⟨w f,.bF ({a.2 with b3:=[]}:bw) [(2,aH c.1 (t a.2.b3) c.2)]⟩,⟨c.1,.row 346 a.2.b3 c.2⟩]):=by
 unfold Iw at h;refine b4 λG H=>?_;refine ay ?_;refine aj h λbB B h=>aj h λI C h=>?_;refine c8 mixed 25 (rg 5 25) [[],[0],[1],[2],[],[4],[5],[6],[7],[3,8],[9],[10],[10,11],[10,12],[10,13],[10],[10,15],[10,16],[10,17],[10,14,18],[10,19],[10,20],[10],[10,21,22],[10,23]] [_,_,_,_,_,_,_,_,_,_,_,_,_,_,_,_,_,_,_,_,_,_,_,_,_] ⟨dG,H1 fp,H1 (bM xN.fd),ed λav=>ho (i:=0) ((T bw).comp nU) bz (ae o) (av _ _ o o) o o (by rfl),dG,H1 fp,H1 (bM xO.fd),ed λav=>ho (i:=0) ((T bw).comp s8) uU (ae o) (av _ _ o o) o o (by rfl),H1 (mT underlying347),jB ir,dG,bD λaD av=>λax=>cN (ae o),bD λaD av=>λax=>fp (ba o ax),bD λaD av=>λax=>bM xO.fd (ba o ax),bD λaD av=>λax=>ho (i:=0) ((T bw).comp s8) uU (ba o ax) (av _ _ o o) o o (by rfl),bD λaD av=>λax=>cN (ae o),bD λaD av=>λax=>fp (ba o ax),bD λaD av=>λax=>bM xN.fd (ba o ax),bD λaD av=>λax=>ho (i:=0) ((T bw).comp nU) bz (ba o ax) (av _ _ o o) o o (by rfl),bD λaD av=>λax=>jy (k:=bB) underlying347 wD (ba o ax) (ba o ax) (cz (dT B ax)),bD λaD av=>λax=>oV BG GK.fd (ba o ax) o o,bD λaD av=>λax=>hn bz (ba o ax),bD λaD av=>λax=>cN (ae o),bD λaD av=>λax=>Av (ba o ax) (ba o ax),vm C λaD av=>oY (ae o) (ae o) (λh=>h),S⟩ ?_;refine bC (aj h λK m h=>?_);refine fg [0] [] [] ?_ (λhm p=>?_) λhm p=>?_
 ·refine ay ?_;refine qC 0 nU bz ?_;refine ay ?_;refine aj h λM D h=>dm (i:=0) ((T bw).comp nU) bz (ae o) (ae o) o o (dz D) (by rfl) ?_;refine fl (aj h λdi E h=>?_);refine c8 mixed 12 (rg 39 12) [[],[0],[1],[2],[],[4],[5],[6],[7],[3,8],[9],[10]] [_,_,_,_,_,_,_,_,_,_,_,_] ⟨dG,H1 fp,H1 (bM xO.fd),ed λav=>ho (i:=0) ((T bw).comp s8) uU (ae o) (av _ _ o o) o o (by rfl),dG,H1 fp,H1 (bM xN.fd),ed λav=>ho (i:=0) ((T bw).comp nU) bz (ae o) (av _ _ o o) o o (by rfl),jB sw,R0 E underlying347 wD,abl NM Xx.fd,H1 (hn gR),S⟩ ?_;refine bI (bC (b1 ?_));refine ds ((T bw).comp mG) 0 0 o o o (X 1 o (X 1 o ?_));cases h;exact ff (j,l)
 ·have h:=da p m;refine bW (bJ ?_);refine aj h λN F h=>aa.fs (eg.call [0,1] .i (Iv F) ⟨ae o,S⟩ o ⟨rfl,rfl,S⟩ o) o o o ?_;exact go
 have h:=db p m;exact go
instance:ew prog 402 _ _ UA u (λr=>cI [u r.1,u r.2]):=.j (h:=λa r h W A=>by
 refine ay λc=>?_;refine aT (lq underlying9 (ae o) (fA (cb #[116,114,117,101]))) ?_;refine ay (λh=>?_);refine aT (lq underlying9 (ae o) (fA (cb #[102,97,108,115,101]))) ?_;exact go)
def M8{m p d B C f}(h:Ec m p=w f):bn prog 391 [bu d,u p] [⟨w d,.bF ({m with b3:=[]}:bw) [(2,aH B (t m.b3) C)]⟩,⟨B,.row 346 m.b3 C⟩] (aX:=bN) (λl=>u f.1) (λl=>[⟨w d,.bF ({f.2 with b3:=[]}:bw) [(2,aH l.1 (t f.2.b3) l.2)]⟩,⟨l.1,.row 346 f.2.b3 l.2⟩]):=by
 unfold Ec at h;refine b4 λG H=>?_;refine ay ?_;refine aj h λD E h=>?_;refine eC (aY:=bN) (aX:=bN) E [] (λj a=>[(0,bu d),(7,u p),(8,u (t p:Int)),(9,u j.1)]) (λj a=>[(0,⟨w d,.bF j.2.1 [(2,aH a.1 (t j.2.2) a.2)]⟩),(1,⟨a.1,.row 346 j.2.2 a.2⟩)]) (λc=>Z (λc=>U 0) (λc=>c1) c) (λc a=>Z (λc=>[]) (λc=>[(4,u c.1)]) c) (λc a=>Z (λc=>[(0,⟨w d,.bF c.1 [(2,aH a.1 (t c.2) a.2)]⟩),(1,⟨a.1,.row 346 c.2 a.2⟩)]) (λc=>[(0,⟨w d,.bF c.2.1 [(2,aH a.1 (t c.2.2) a.2)]⟩),(1,⟨a.1,.row 346 c.2.2 a.2⟩)]) c) (B,C) (λj f h a=>?_) λa=>?_
 ·refine go2 (λbB I K h=>?_) (λh=>?_)
  ·refine aa.gQ ((T bw).comp mG) 1 0 o o o (cn 2 o (cn 2 o (aj h λM F h=>cy 2 .i (vv F) λA=>?_)));refine go2 (λh=>?_) (λh=>?_)
   ·refine X 2 o ?_;cases h;exact ej (A.1,A.2) 1
   refine X 2 o ?_;cases h;exact eE (A.1,A.2) 1
  cases h;exact ej (a.1,a.2) 0
 rcases D with D|D
 ·simp only[bv]at h;refine ay ?_;refine ds ((T bw).comp mG) 0 0 o o o (X 1 o (X 1 o ?_));cases h;exact ff (a.1,a.2)
 simp only[bx]at h;refine dk (ci (ds ((T bw).comp mG) 0 0 o o o (X 1 o (X 1 o ?_))));cases h;exact ff (a.1,a.2)
def aeB{a c d f}(h:zu a c d=w f):cf prog 119 [ce a,ce c,ce d] (u f):=by
 unfold zu at h;refine b' λj l=>?_;exact go
def aeC{j l a c}(h:zv j l a=w c):cf prog 120 [ce j,ce l,ce a] (u c):=by
 unfold zv at h;refine b' λp A=>?_;refine ay λB C m h=>?_;refine aj h λd f h=>?_;refine gw f [] (cG 4 (bu m) (cG 17 (u a.cp) (cG 18 (u (t a.cp:Int)) (cD.cF [19])))) (Z (gx 0) h4) (Z (λ_=>[]) (cD.cF [3])) (λD c h=>?_) ?_
 ·exact go
 rcases d with d|d
 ·simp only[bv]at h;exact go
 simp only[bx]at h;exact go
def afv{a c d f}(h:FZ a c d=w f):cf prog 193 [u a,u c,u d] (u f):=by
 unfold FZ at h;refine b' λD E=>?_;refine AM (λj l m p A B C h=>?_) (λj l m p A B C h=>?_) (λj l m p A B C h=>?_)
 ·refine aj h λF G h=>aj h λH I h=>aj h λK M h=>cl 21 ?_;exact go
 ·refine aj h λN O h=>aj h λP Q h=>cl 14 ?_;exact go
 refine aj h λab ac h=>aj h λad ag h=>cl 11 ?_;exact go
def aeD{a c d f}(h:BQ a c d=w f):cf prog 129 [ce a,ce c,ce d] (u f):=by
 unfold BQ at h;refine b' λj l=>?_;exact go
instance:dd prog 132 _ _ _ Jc u u u:=.j (h:=λf d r h W A=>by
 refine ay (λj l m p B C D E F bB G H I h=>?_);refine aj h λa c h=>?_;refine gw c [] (cG 8 (u ((al f.cM bB).e2)) (cG 48 (u d.eX) (cG 49 (u (t d.eX:Int)) (cD.cF [50])))) (Z (gx 0) h4) (Z (λ_=>[]) (cD.cF [4])) (λK r h=>?_) ?_
 ·refine ay (λdi M N h=>?_);refine aj h λfm O h=>aj h λP Q h=>cl 8 ?_;exact go
 rcases a with a|a
 ·simp only[bv]at h;exact go
 simp only[bx]at h;exact go)
instance:ew prog 297 _ _ Ou u (λr=>cI [u r.1,u r.2]):=.j (h:=λE r h W A=>by
 refine ay λF G H h=>?_;refine aj h λf l h=>?_;refine fg [2] (cD.cF [0,4] f) [] ?_ (λhm m=>?_) λhm m=>?_
 ·refine ay λc=>?_;refine aj h λC D h=>aT (anf underlying9 underlying22 underlying5 (ae o) D) ?_;refine ay ?_;refine aj h λp B h=>?_;refine eC (aY:=bG) (aX:=bG) B [2] (λj d=>[(0,u f.1),(4,u f.2),(7,bu c),(21,u C),(22,u (t C:Int)),(23,u j.1)]) (λj d=>[(0,a7 c j.2)]) (λa=>Z (λa=>U 0) (λa=>c1) a) (λa d=>Z (λa=>[(0,u f.1),(7,bu c)]) (λa=>[(3,u a.1)]) a) (λa d=>Z (λa=>[(0,a7 c a)]) (λa=>[(0,a7 c a.2)]) a) () (λj r h d=>?_) λd=>?_
  ·exact go
  rcases p with p|p
  ·simp only[bv]at h;refine ay ?_;refine aT (lq underlying9 (ae o) (fA (cb #[]))) ?_;exact go
  simp only[bx]at h;exact go
 ·have h:=da m l;exact go
 have h:=db m l;exact go)
def afR{F c p G}(h:JW F c p G):bn prog 254 [u c,u p] ([]++bc F) (aX:= {d:Int×Int×(aL Cell) // G d}×bG) (λC=>cI [u C.1.1.1,u C.1.1.2.1]) (λC=>[]++bc C.1.1.2.2):=by
 unfold JW at h;refine b4 λab ac=>?_;refine ay ?_;refine aa.CU (au:=fY) (b7:=aI) 0 o (Cell.tF ([]:R (fY×aI))) (λ_=>rfl) o λH I=>?_;replace h:=ag.oM h H I;refine ay ?_;refine c9 h λf j h=>?_;refine yB (bb:=Int×(aL Cell)) (bp:=(aL Cell)) (aY:=bG) (aX:=bG) j 0 [0,6] (λA l=>[(13,u p),(14,u (t p:Int)),(15,u A.1)]) (λA l=>[]) (λA l=>bc A.2) (λD=>U 0) (λD l=>[]) (λD l=>[]) (λD l=>bc D) () (λA d h l=>?_) (λl=>?_)
 ·refine ay (λbB ad ah h=>?_);refine aj h λK M h=>aj h λai N h=>aa.Dd (ng:=Cell.tF (fB K (al p bB) true)) 1 o (by first|exact .inl o|exact .inr o) underlying407 Y9 (ae o) (ae o) (gU true) (Yn M) o o o (dz N) ?_;exact go
 refine ay ?_;refine c9 h λB j h=>?_;refine yB (bb:=Int) (bp:=bG⊕(Int×Int)) (aY:=bG) (aX:=bG) j 0 [] (λE m=>[(0,u c),(6,u (⟨w H.1⟩:gb)),(22,u c),(23,u (t c:Int)),(24,u E)]) (λE m=>[]) (λE m=>bc f) (λa=>Z (λa=>U 2) (λa=>c1) a) (λa m=>Z (λa=>[(0,u c)]) (λa=>[(4,u a.1),(5,u a.2)]) a) (λa m=>[]) (λa m=>Z (λa=>bc f) (λa=>bc f) a) () (λE d h m=>?_) (λm=>?_)
 ·refine ay (λdi ak am h=>?_);refine aj h λan O h=>aj h λP Q h=>e1 (λax=>uI (r:=P) underlying407 Y9 Mx (ba o ax) (ba o ax) (je (n:=1) o (Yn (dT O ax)) o) (dz (dT Q ax))) ?_;exact go
 rcases B with B|B
 ·simp only[bv]at h;refine go2 (λh=>?_) (λfm ao ap aw h=>?_)
  ·exact dt (⟨⟨(0,12,f),h⟩,()⟩: {d // _}×_) (.refl _) o o (dO o) (dO o)
  refine aT (CM NC XA bz o (ae o) o o) ?_;refine go2 (λh=>?_) (λh=>?_)
  ·exact dt (⟨⟨(aV ((t c:Int)-1),12,f),h⟩,()⟩: {d // _}×_) (.refl _) o o (dO o) (dO o)
  exact dt (⟨⟨(0,0,f),h⟩,()⟩: {d // _}×_) (.refl _) o o (dO o) (dO o)
 simp only[bx]at h;exact dk (ci (dt (⟨⟨(B.1,B.2,f),h⟩,()⟩: {d // _}×_) (.refl _) o o (dO o) (dO o)))
def ags{D l E m}(h:Gi D l E=w m):cf prog 202 [u D,u l,u E] (u m):=by
 unfold Gi at h;refine b' λab ac=>?_;refine ay λH ad ag=>?_;refine aT (cc (look_nil (au:=h5))) (eG ?_);refine bY (au:=h5) 369 (aT (cc h7) ?_);refine ay ?_;refine aj h λah d h=>?_;refine eC (aY:=bN) (aX:=bN) d [5] (λf a=>[(3,bu H),(7,bQ (aH a.1 (t f.2) a.2)),(15,u l.bS),(16,u (t l.bS:Int)),(17,u f.1)]) (λf a=>[(0,⟨a.1,.row 369 f.2 a.2⟩)]) (λp=>U 0) (λp a=>[(7,bQ (aH a.1 (t p) a.2))]) (λp a=>[(0,⟨a.1,.row 369 p a.2⟩)]) (V,0) (λf m h a=>?_) λa=>?_
 ·refine go2 (λbB ai I F h=>?_) (λh=>?_)
  ·refine aj h λK B h=>?_;refine fg [3,5,7,9,10,15,16,17] [] [(0,a7 F K)] ?_ (λhm C=>?_) λhm C=>?_
   ·refine ay λak al am an h=>?_;refine aj h λG M h=>aT (vW underlying293 G7 (ae o) .none (.some (ae o)) M) ?_;refine ay ?_;refine aj h λao d h=>?_;refine eC (aY:=bN) (aX:=bN) d [3,5,15,16,17] (λj c=>[(7,bQ (aH c.1 (t j.2) c.2)),(9,bu I),(10,bu F),(40,u G),(41,u (t G:Int)),(42,u j.1)]) (λj c=>[(2,⟨c.1,.row 369 j.2 c.2⟩)]) (λA=>U 2) (λA c=>[(7,bQ (aH c.1 (t A) c.2))]) (λA c=>[(2,⟨c.1,.row 369 A c.2⟩)]) (a.1,a.2) (λj m h c=>?_) λc=>?_
    ·refine go2 (λdi ap aw h=>?_) (λh=>?_)
     ·refine aj h λaB aC h=>aj h λaE aG h=>aj h λaI aJ h=>cl 15 ?_;refine aj h λaL N h=>eM 3 underlying296 LQ QV N λO P=>?_;refine ay ?_;cases h;exact eE (O,P) 1
     cases h;exact ej (c.1,c.2) 0
    refine ay ?_;cases h;exact eE (c.1,c.2) 2
   ·have h:=da C B;exact go
   have h:=db C B;exact go
  cases h;exact ej (a.1,a.2) 0
 refine ay λaM aN aO aR h=>?_;refine aj h λaS Q h=>eM 0 underlying296 LQ QV Q λaU aV=>?_;refine bI (bC (b1 ?_));exact c2 (au:=h5) 0 [6,70] ⟨rfl,rfl,S⟩ o go
instance:dd prog 349 _ _ _ zF u u u:=.j (h:=λa c r h W A=>by
 exact go)
instance:dd prog 126 _ _ _ Jw u u u:=.j (h:=λN j r h W A=>by
 refine bl (hT λp=>?_);refine hT λl=>?_;refine bI (eG ?_);refine j6 1 n5 ?_;refine j6 0 lM ?_;refine aj h λO B h=>hU aaA.dj (aaA.m _ _ _ B) ?_;refine bJ ?_;refine pQ ?_;refine pQ ?_;refine iL tE λm=>?_;refine oc 0 kl ?_;refine bI (fl (bl ?_));refine bJ ?_;refine cP lr (bC ?_);refine fR h (λh=>?_) λh=>?_
 ·refine bl (bI (bC (b1 (ci ?_))));cases h;exact lQ
 refine gE (bm (bl (cP (bM CY.fd) ?_)));refine jz 1 xg ys ?_;refine cP (mT underlying45) ?_;refine cP (bM ts.fd) ?_;refine jz 0 oC sF ?_;refine cP (mT underlying62) ?_;refine cH Av (bC ?_);refine fR h (λh=>?_) λh=>?_
 ·refine bl (bI (bC (b1 (ci ?_))));cases h;exact lQ
 refine gE (bm (bl (cP (bM CY.fd) ?_)));refine jz 1 xg ys ?_;refine cP (mT underlying45) ?_;refine bJ (bC (b5 ?_));refine aj h λa c h=>?_;refine gw c [] (cG 2 (bu p) (cG 3 (bu l) (cG 5 (bu m) (cG 27 (u j.cp) (cG 28 (u (t j.cp:Int)) (cD.cF [29])))))) (Z (gx 0) h4) (Z (λ_=>[(3,bu l),(5,bu m)]) (cD.cF [4])) (λP r h=>?_) ?_
 ·refine bl (cH kj (fl ?_));refine fR h (λh=>?_) λh=>?_
  ·refine gE (bm (b5 (bl (bJ ?_))));refine aj h λbB C h=>DF C underlying45 tB ?_;refine cP (hn tB) ?_;refine iL Dc λQ=>?_;refine bI ?_;refine oc 0 tB (fl (bm ?_));refine aj h λdi D h=>aj h λab E h=>c8 mixed 9 (rg 34 9) [[],[],[1],[],[2,3],[4],[5],[0,6],[7]] [_,_,_,_,_,_,_,_,_] ⟨pR 0 tB,H1 (bM ts.fd),iM 1 oC sF,dG,R0 D underlying62 pG,abl vJ KW.fd,H1 (hn bz),jZ aar.dj (aar.m _ _ _ E),H1 lr,S⟩ (bC ?_);refine fR h (λh=>?_) λh=>?_
   ·refine bl (bI (bC (b1 (ci ?_))));refine dk (ci ?_);cases h;exact ej () 1
   refine gE (bm (aj h λfm F h=>aj h λiw G h=>aj h λac H h=>aj h λad I h=>c8 mixed 20 (rg 43 20) [[],[0],[1],[2],[2],[2,4],[2],[2,5,6],[2,7],[2,8],[2],[2],[2,11],[2],[2,12,13],[2,14],[2,10,15],[2,3,9,16],[2,17],[2,18]] [_,_,_,_,_,_,_,_,_,_,_,_,_,_,_,_,_,_,_,_] ⟨H1 (bM ajX.fd),iM 0 EF hv,dG,bD λaD av=>λax=>iq (i:=0) (T cJ) tB (ae o) (av _ _ o o) o o,bD λaD av=>λax=>bM ts.fd (ae o),bD λaD av=>λax=>iq (i:=1) ((T dc).comp oC) sF (ba o ax) (av _ _ o o) o o,bD λaD av=>λax=>cN (ae o),bD λaD av=>λax=>jy (k:=fm) underlying62 pG (ba o ax) (ba o ax) (cz (dT F ax)),bD λaD av=>λax=>oV vJ KW.fd (ba o ax) o o,bD λaD av=>λax=>hn bz (ba o ax),bD λaD av=>λax=>iq (i:=3) (T aU) n5 (ae o) (av _ _ o o) o o,bD λaD av=>λax=>bM ts.fd (ae o),bD λaD av=>λax=>iq (i:=1) ((T dc).comp oC) sF (ba o ax) (av _ _ o o) o o,bD λaD av=>λax=>cN (ae o),bD λaD av=>λax=>jy (k:=iw) underlying62 pG (ba o ax) (ba o ax) (cz (dT G ax)),bD λaD av=>λax=>hn pG (ba o ax),bD λaD av=>λax=>fP .i (aft (dT H ax)) ⟨ba o ax,ba o ax,S⟩,bD λaD av=>λax=>fP .i (afv (dT I ax)) ⟨ba o ax,ba o ax,ba o ax,S⟩,bD λaD av=>λax=>lr (ba o ax),ed λav=>mR (ae o) (ae o) (λh=>h),S⟩ (bC ?_)));refine fR h (λh=>?_) λh=>?_
   ·refine bl (bI (bC (b1 ?_)));refine dk (ci ?_);cases h;exact ej () 1
   refine ca (c5 (Y (bW (cH hc ?_))));refine bJ (y ?_);cases h;exact eE () 1
  refine cv (cw ?_);cases h;exact ej () 0
 rcases a with a|a
 ·simp only[bv]at h;refine c0 (Y (bl (bI ?_)));refine bI (fl (bl ?_));refine j6 0 kl ?_;refine aj h λag K h=>hU aaD.dj (aaD.m _ _ K) (bC ?_);refine aj h λM d h=>?_;refine fg [3] (cD.cF [9,10] M) [] ?_ (λhm f=>?_) λhm f=>?_
  ·refine Y (bm (bl (cP (bM GU.fd) ?_)))
   refine jz 1 Bp bz ?_;refine bJ ?_;refine cH kj ?_;refine bJ ?_;refine jY (bM GU.fd) ?_;refine e1 (λax=>iq (i:=1) ((T bg).comp Bp) bz (ba o ax) o o o) ?_;refine jY cN ?_;refine AO oU ?_;refine wW (bC ?_);refine fR h (λh=>?_) λh=>?_
   ·refine bl (bI (bC (b1 (ci ?_))));cases h;exact lQ
   refine gE (bl (bI (bC (b1 ?_))));cases h;exact lQ
  ·have h:=da f d;refine bW (bI ?_);refine bI (y ?_);cases h;exact cL 0 (hm ())
  have h:=db f d;refine ca ?_;cases h;exact cL 0 (hm ())
 simp only[bx]at h;refine dk (ci ?_);cases h;exact lQ)
def aeE{a c d}(h:BR a c=w d):cf prog 131 [ce a,ce c] (u d):=by
 unfold BR at h;refine b' λf j=>?_;exact go
def Uq{f K p M d A N}(h:B5 f K p M N):bn prog 13 [bu d,bu A,u M] ([a7 d K,a7 A p]++bc f) (aX:= {r:(R eQ)×dB×(aL Cell) // N r}×bG) (λl=>u l.1.1.1) (λl=>[a7 d l.1.1.2.1,a7 A p]++bc l.1.1.2.2):=by
 unfold B5 at h;refine b4 λaJ aM=>?_;refine bl (aT (cc (look_nil (au:=eQ))) (eG ?_));refine bY (au:=eQ) 50 (aT (cc h7) ?_);refine ay ?_;refine cn 1 o (c9 h λaN ah h=>cy 1 .i (hj ah) λaO=>?_);refine bI (bC (b5 ?_));refine wV (aY:=bN) (aX:=bN) h 3 [] (λj a=>[(0,bu d),(1,bu A),(7,bQ (aH a.1 (t j.2.2) a.2)),(8,u j.1)]) (λj a=>[(0,a7 d j.2.1),(1,⟨a.1,.row 50 j.2.2 a.2⟩)]) (λj a=>bc f) (λm=>U 0) (λm a=>[(7,bQ (aH a.1 (t m.2) a.2))]) (λm a=>[(0,a7 d m.1),(1,⟨a.1,.row 50 m.2 a.2⟩)]) (λm a=>bc f) (V,0) (λj aR h a=>?_) (λO h a=>?_)
 ·refine go2 (λh=>?_) (λh=>?_)
  ·refine cn 0 o (c9 h λP ai h=>cy 1 .i (adJ ai) λaS=>?_);refine ay λQ=>?_;refine cn 1 o (aa.DS (aY:=bG) h (λC=>u C.1) (λC g=>(a7 d C.2::a7 Q P.1::⟨a.1,.row 50 j.2.2 a.2⟩::a7 A p::bc f)) () o o o o o o (λax hm=>by obtain⟨ak,am,an⟩:=hm;refine en.map (λl=>(⟨ak,an⟩,l)) (λ_=>rfl) ?_ (en.kG 1 .i (pw am) o o ?_);exact λ_=>rfl;exact⟨ba o ax,S⟩) λao aU h=>?_);refine HF (bC ?_);refine c9 h λab D h=>?_;refine vc (aY:=bG) 4 [0,1,7,8,9] (λE=>[]) (λE=>[(0,a7 d ab.1),(1,a7 Q ab.2)]) (λE=>bc f) (λE=>?_) (λhm c=>?_) (λhm c=>?_)
   ·refine ay ?_;refine c9 h λaV ap h=>eM 2 underlying40 RL aql ap λaw aB=>?_;refine ay ?_;exact X 1 o (af.uL h (aw,aB) 1 o .all)
   ·have h:=da c D;refine bm (aj h λac aC h=>aj h λbB aW h=>ar.G9 1 4 (er [0,1,7,8,9,15,16,19,20,21,22,23,24,25,26,27,28,29,30,31,32,33,34] ?_));refine c7 5 (az 35 [] [] _::az 36 [0] [] _::az 37 [1] [] _::az 38 [2] [3] _::az 39 [] [] _::az 40 [] [] _::az 41 [5] [] _::az 42 [6] [] _::az 43 [7] [3] _::az 44 [8] [] _::⟨w 45,[4,9],[0],[0],λ_=>u ac.1,λaq _=>a7 d ac.2⟩::az 46 [3,10] [] _::az 47 [11] [] _::az 48 [12] [] _::mY 10 [] 4 14 _::fL [13,14] [4] [4] (λaq=>a7 ((aq 14 0).getD 0) ((al p.b8 bB).aS:bg))::[]) (dC ?_ hg) (λB=>?_)
    ·intro aq br aD aA av dQ;exact cn 0 (av 0 _ o o) (cO (dJ:=[a7 d ao.2]) (b9:=aD.eraseIdx 0) .i (hj aC) ⟨ae (aA _ _ o),ae (aA _ _ o),S⟩ o λaZ=>y (cs 0 (av 0 _ o o) (a' (dv []) o o)))
    refine cm ?_;refine e4 ?_;refine X 4 o (ay ?_);refine aj h λaE F h=>?_;refine vc (aY:=bG) 5 [0,1,7,8,9,10] (λG=>[]) (λG=>[(0,a7 ((B 14 0).getD 0) aE)]) (λG=>bc f) (λG=>?_) (λhm c=>?_) (λhm c=>?_)
    ·exact go
    ·have h:=da c F;refine bW (cP (bM uM.fd) ?_);refine wT 0 s5 bz ?_;refine cP (bM wk.fd) ?_;refine aj h λa0 aG h=>?_;refine rF 0 um u7 (ax:=by exact aG) ?_;exact go
    have h:=db c F;refine ay ?_;refine aj h λaI H h=>?_;refine vc (aY:=bG) 5 [0,1,7,8,9,10] (λI=>[]) (λI=>[(0,a7 ((B 14 0).getD 0) aI)]) (λI=>bc f) (λI=>?_) (λhm c=>?_) (λhm c=>?_)
    ·exact go
    ·have h:=da c H;refine aj h λad a1 h=>er [0,1,7,8,9,10,15,16,19,20,21,22,23,24,25,26,27,28,29,30,31,32,33,34,35,36,37,38,39,40,41,42,43,44,45,46,47,48,49,50,51,54,55,56,57,58,59] ?_;refine ar.vk 5 (az 60 [] [] _::az 61 [0] [] _::az 62 [1] [2] _::az 63 [] [] _::az 64 [3] [] _::az 65 [4] [2] _::az 66 [] [] _::fL [2,6] [0] [0] (λaq=>a7 ((B 14 0).getD 0) ad)::az 67 [] [] _::fL [5,7,8] [0] [0] (λaq=>a7 ((B 14 0).getD 0) ({ad with eX:=P.1.aS.eX}:bg))::[]) (λa2=>?_);refine cm ?_;refine e4 ?_;exact go
    have h:=db c H;exact go
   have h:=db c D;exact go
  exact af.rj h (a.1,a.2) 0 o (by simp) o (.same o .nil)
 refine ay ?_;exact c2 (au:=eQ) 1 [6,7,74] ⟨rfl,rfl,rfl,S⟩ o (X 2 o (X 1 o (c6 (⟨⟨(O.2,O.1,f),h⟩,()⟩: {r // _}×_) (.cons_cons _ (.cons_cons _ (.cons _ (.refl _)))) o o (dO o))))
def aeF{a c d}(h:zw a c=w d):cf prog 125 [ce a,ce c] (u d):=by
 unfold zw at h;refine b' λf j=>?_;exact go
def T8{a d j}(h:BS a=w j):bn prog 60 [bu d] [a7 d a] (aX:=Nat) (λf=>bu f) (λf=>[a7 d a,a7 f j]):=by
 unfold BS at h;refine b4 λD E=>?_;refine bl (aT (cc (CT (.pointer V))) (fl ?_));refine aj h λc l h=>ar.kS 2 (er [0] ?_);refine c7 3 (az 3 [] [] _::az 4 [0] [] _::az 5 [1] [] _::az 6 [2] [0] _::⟨w 7,[],[1],[1],λaq=>bQ (aH (aq 4 0) (t ([]:R aJ)) 0),λaq _=>⟨(aq 4 0),.row 70 ([]:R aJ) 0⟩⟩::az 8 [] [] _::az 9 [5] [] _::az 10 [6] [] _::az 11 [7] [0] _::⟨w 12,[4,8],[1],[1],λaq=>bQ (aH (aq 9 0) (t c) ((aq 9 1).getD 0)),λaq _=>⟨(aq 9 0),.row 70 c ((aq 9 1).getD 0)⟩⟩::az 13 [] [] _::az 14 [10] [] _::az 15 [11] [] _::az 16 [12] [0] _::⟨w 17,[3,4,9,13],[1],[1],λ_=>u ({jA:=a.jA,b8:=c,jm:=a.jm:cR}),λaq _=>⟨V,.dead⟩⟩::⟨w 18,[14],[2],[2],λaq=>bu ((aq 15 0).getD 0),λaq _=>a7 ((aq 15 0).getD 0) ({jA:=a.jA,b8:=c,jm:=a.jm:cR}:cR)⟩::⟨w 2,[15],[],[],λaq=>bu ((aq 15 0).getD 0),λ_ _=>⟨V,.dead⟩⟩::[]) (dC ?_ (dC ?_ (dC ?_ (dC ?_ (dC ?_ hg))))) (λm=>?_)
 ·intro aq br aD aA av dQ;exact aa.ry (au:=aJ) underlying53 fK ly o o (.nil) o λp=>y (c' 1 (av 1 _ o o) (a' (dv [p]) o o))
 ·intro aq br aD aA av dQ;refine c3 (i:=1) underlying53 fK ly (bytes:=88) (by kernel_rfl) (ae (aA _ _ o)) (av 1 _ o o) (ae (aA _ _ o)) l o λA B=>?_;exact y (a' (dv [A,w B]) o o)
 ·intro aq br aD aA av dQ;refine aa.nI (en.DT (i:=1) (s:=12) (aA _ _ o) (av 1 _ o o) (en.aF (iI (b:= {jA:=a.jA,b8:=c,jm:=a.jm:cR}) o aqm aqn (.cons Oe o (ae (aA _ _ o)) o (.cons Fp o (ae o) o (.cons T9 o (ae (aA _ _ o)) o (.nil))))))) o o o λ_=>y ?_;exact a' (dv []) o o
 ·intro aq br aD aA av dQ;exact aa.box (z:=({jA:=a.jA,b8:=c,jm:=a.jm:cR}:cR)) (ae (aA _ _ o)) o λC=>y (c' 2 (av 2 _ o o) (a' (dv [w C]) o o))
 ·intro aq br aD aA av dQ;refine aT (cc (ae (aA _ _ o))) (y ?_);exact a' (dv []) o o
 refine cm ?_;refine e4 ?_;refine X 1 o (X 2 o (Y (b1 (X 0 o (X 2 o ?_)))));cases h;exact ff ((m 15 0).getD 0)
def rX{a p f j l c}(h:mH a p=w c):bn prog 362 [bu f,u p] [⟨w f,.bF ({a with bL:=[]}:bf) [(3,aH j (t a.bL) l)]⟩,⟨j,.row 375 a.bL l⟩] (aX:=bN) (λd=>u c.1) (λd=>[⟨w f,.bF ({c.2 with bL:=[]}:bf) [(3,aH d.1 (t c.2.bL) d.2)]⟩,⟨d.1,.row 375 c.2.bL d.2⟩]):=by
 unfold mH at h;refine b4 λE F=>?_;refine ay λG=>?_;refine aj h λm B h=>er [0,1,3,4] ?_;refine c7 3 (az 5 [] [] _::az 6 [] [] _::az 7 [1] [] _::az 8 [2] [] _::az 9 [3] [1] (bQ (aH j (t a.bL) l))::az 10 [] [0] _::az 11 [5] [] _::⟨w 12,[4,6],[2],[2],λaq=>bQ (aH (aq 7 0) (t m) ((aq 7 1).getD 0)),λaq _=>⟨(aq 7 0),.row 375 m ((aq 7 1).getD 0)⟩⟩::az 13 [0] [] _::az 14 [8] [] _::fL [4,7,9] [1] [1] (λaq=>⟨w f,.bF ({a with bL:=[]}:bf) [(3,aH (aq 7 0) (t m) ((aq 7 1).getD 0))]⟩)::[]) (dC ?_ (dC ?_ (dC ?_ hg))) (λA=>?_)
 ·exact fb.q (iV λaq br aD aA av=>fG (i:=1) (q:=0) Aw (ae (aA _ _ o)) (av 1 _ o o) o)
 ·intro aq br aD aA av dQ;refine c3 (i:=2) underlying306 Za ani (bytes:=72) (by kernel_rfl) (ae (aA _ _ o)) (av 2 _ o o) (ae (aA _ _ o)) B o λC D=>?_;exact y (a' (dv [C,w D]) o o)
 ·intro aq br aD aA av dQ;refine co (i:=1) ((T bf).comp kL) Aw (ae (aA _ _ o)) (ae (aA _ _ o)) hy (av 1 _ o o) o o o (y ?_);exact a' (dv []) o o
 refine cm ?_;refine e4 ?_;refine ay ?_;refine aT (fG (i:=1) (q:=0) Aw (ae o) o o) ?_;refine aT (nv (i:=2) underlying306 (ae o) o o) ?_;refine ay ?_;refine X 2 o (X 2 o ?_);cases h;exact ff ((A 7 0),((A 7 1).getD 0))
instance:ew prog 324 _ _ Um u u:=.j (h:=λa r h W A=>by
 exact go)
def aeG{d j}(h:Fq d=w j):cf prog 160 [u d] (u j):=by
 unfold Fq at h;refine b' λB C=>?_;refine bl (hT λD=>?_);refine aT (cc (look_nil (au:=gJ))) (eG ?_);refine bY (au:=gJ) 311 (aT (cc h7) ?_);refine ay ?_;refine aj h λE l h=>?_;refine eC (aY:=bN) (aX:=bN) l [] (λc a=>[(3,bQ (aH a.1 (t c.2) a.2)),(7,u d.e2),(8,u (t d.e2:Int)),(9,u c.1)]) (λc a=>[(0,⟨a.1,.row 311 c.2 a.2⟩)]) (λf=>U 0) (λf a=>[(3,bQ (aH a.1 (t f) a.2))]) (λf a=>[(0,⟨a.1,.row 311 f a.2⟩)]) (V,0) (λc j h a=>?_) λa=>?_
 ·refine go2 (λbB F G H I h=>?_) (λh=>?_)
  ·refine aj h λK m h=>eM 1 underlying241 Au C9 m λp A=>?_;refine ay ?_;cases h;exact eE (p,A) 1
  cases h;exact ej (a.1,a.2) 0
 refine ay ?_;exact c2 (au:=gJ) 0 [2,3,20] ⟨rfl,rfl,rfl,S⟩ o go
def afa{d j l}(h:FG d j=w l):cf prog 161 [u d,u j] (u l):=by
 unfold FG at h;refine b' λG H=>?_;refine bl (hT λI=>?_);refine aT (cc (look_nil (au:=gj))) (eG ?_);refine bY (au:=gj) 313 (aT (cc h7) ?_);refine ay ?_;refine aj h λK m h=>?_;refine eC (aY:=bN) (aX:=bN) m [] (λc a=>[(1,u j),(5,bQ (aH a.1 (t c.2) a.2)),(10,u d.e2),(11,u (t d.e2:Int)),(12,u c.1)]) (λc a=>[(0,⟨a.1,.row 313 c.2 a.2⟩)]) (λf=>U 0) (λf a=>[(5,bQ (aH a.1 (t f) a.2))]) (λf a=>[(0,⟨a.1,.row 313 f a.2⟩)]) (V,0) (λc l h a=>?_) λa=>?_
 ·refine go2 (λbB M N O P B h=>?_) (λh=>?_)
  ·refine aj h λC p h=>?_;refine fg [1,5,8,10,11,12] [] [(0,a7 B C)] ?_ (λhm A=>?_) λhm A=>?_
   ·refine ay ?_;refine aj h λQ D h=>eM 2 underlying243 Ax Dg D λE F=>?_;refine ay ?_;cases h;exact eE (E,F) 2
   ·have h:=da A p;exact go
   have h:=db A p;exact go
  cases h;exact ej (a.1,a.2) 0
 refine ay ?_;exact c2 (au:=gj) 0 [4,5,34] ⟨rfl,rfl,rfl,S⟩ o go
instance:dd prog 93 _ _ _ sg u u u:=.j (h:=λa c r h W A=>by
 exact go)
def ad9{d l C m}(h:Fa d l=w m):k3 prog 49 [bu C,u l] C d (u m) d:=by
 unfold Fa at h;refine b4 λH I=>?_;refine bl (aT (cc (look_nil (au:=aJ))) (eG ?_));refine bY (au:=aJ) 70 (aT (cc h7) ?_);refine ay ?_;refine aj h λK p h=>?_;refine eC (aY:=bN) (aX:=bN) p [] (λf a=>[(1,u l),(5,bQ (aH a.1 (t f.2) a.2)),(11,u d.b8),(12,u (t d.b8:Int)),(13,u f.1)]) (λf a=>[(0,⟨a.1,.row 70 f.2 a.2⟩)]) (λj=>U 0) (λj a=>[(5,bQ (aH a.1 (t j) a.2))]) (λj a=>[(0,⟨a.1,.row 70 j a.2⟩)]) (V,0) (λf m h a=>?_) λa=>?_
 ·refine go2 (λbB M N h=>?_) (λh=>?_)
  ·refine aj h λD A h=>?_;refine hs (aY:=bN) [1,11,12,13] (λc=>[(5,bQ (aH c.1 (t D) c.2))]) (λc=>[(1,⟨c.1,.row 70 D c.2⟩)]) (λc=>?_) (λhm B=>?_) λhm B=>?_
   ·refine ay ?_;cases h;exact eE (c.1,c.2) 1
   ·have h:=da B A;refine ay ?_;refine aj h λO E h=>eM 1 underlying53 fK ly E λF G=>?_;refine bI (y ?_);cases h;exact cL 0 (hm (F,G))
   have h:=db B A;refine ca ?_;cases h;exact cL 0 (hm (a.1,a.2))
  cases h;exact ej (a.1,a.2) 0
 refine ay ?_;exact c2 (au:=aJ) 0 [4,5,27] ⟨rfl,rfl,rfl,S⟩ o go
def afi{a c d}(h:FO a c=w d):cf prog 50 [ce a,u c] (u d):=by
 unfold FO at h;refine b' λp A=>?_;refine ay ?_;refine aj h λB f h=>?_;refine gw f [] (cG 1 (u c) (cG 11 (u a.b8) (cG 12 (u (t a.b8:Int)) (cD.cF [5,13])))) (gx 0) (cD.cF [5]) (λC d h=>?_) ?_
 ·refine ay (λbB D E h=>?_);refine aj h λm j h=>?_;refine fg [1,11,12,13] (cD.cF [5] m) [] ?_ (λhm l=>?_) λhm l=>?_
  ·exact go
  ·have h:=da l j;exact go
  have h:=db l j;exact go
 exact go
def afj{c m j}(h:FP c=w j):k3 prog 63 [bu m] m c (u j) c:=by
 unfold FP at h;refine b4 λC D=>?_;refine bl (aT (cc (look_nil (au:=bg))) (eG ?_));refine bY (au:=bg) 48 (aT (cc h7) ?_);refine ay ?_;refine aj h λE l h=>?_;refine eC (aY:=bN) (aX:=bN) l [] (λd a=>[(3,bQ (aH a.1 (t d.2) a.2)),(9,u c.b8),(10,u (t c.b8:Int)),(11,u d.1)]) (λd a=>[(0,⟨a.1,.row 48 d.2 a.2⟩)]) (λf=>U 0) (λf a=>[(3,bQ (aH a.1 (t f) a.2))]) (λf a=>[(0,⟨a.1,.row 48 f a.2⟩)]) (V,0) (λd j h a=>?_) λa=>?_
 ·refine go2 (λbB F G h=>?_) (λh=>?_)
  ·refine aj h λH p h=>eM 1 underlying79 lM Md p λA B=>?_;refine ay ?_;cases h;exact eE (A,B) 1
  cases h;exact ej (a.1,a.2) 0
 refine ay ?_;exact c2 (au:=bg) 0 [2,3,21] ⟨rfl,rfl,rfl,S⟩ o go
instance:dd prog 171 _ _ _ JX u u u:=.j (h:=λE ab r h W A=>by
 refine ay λac I=>?_;refine aT (cc (look_nil (au:=fN))) (eG ?_);refine bY (au:=fN) 141 (aT (cc h7) ?_);refine ay ?_;refine aj h λad p h=>?_;refine eC (aY:=bN) (aX:=bN) p [] (λl a=>[(3,bu I),(5,bQ (aH a.1 (t l.2) a.2)),(9,u E.dh),(10,u (t E.dh:Int)),(11,u l.1)]) (λl a=>[(0,⟨a.1,.row 141 l.2 a.2⟩)]) (λm=>U 0) (λm a=>[(5,bQ (aH a.1 (t m) a.2))]) (λm a=>[(0,⟨a.1,.row 141 m a.2⟩)]) (V,0) (λl r h a=>?_) λa=>?_
 ·refine go2 (λbB ag ah h=>?_) (λh=>?_)
  ·refine aj h λF B h=>?_;refine hs (aY:=bN) [3,9,10,11] (λd=>[(5,bQ (aH d.1 (t F) d.2))]) (λd=>[(1,⟨d.1,.row 141 F d.2⟩)]) (λd=>?_) (λhm c=>?_) λhm c=>?_
   ·refine ay ?_;cases h;exact eE (d.1,d.2) 1
   ·have h:=da c B;refine ca ?_;cases h;exact cL 0 (hm (a.1,a.2))
   have h:=db c B;refine ay ?_;refine aj h λG C h=>?_;refine hs (aY:=bN) [3,9,10,11] (λf=>[(5,bQ (aH f.1 (t G) f.2))]) (λf=>[(1,⟨f.1,.row 141 G f.2⟩)]) (λf=>?_) (λhm c=>?_) λhm c=>?_
   ·cases h;exact cL 0 (hm (f.1,f.2))
   ·have h:=da c C;refine aj h λdi ai h=>aj h λak al h=>cl 14 ?_;refine aj h λam K h=>eM 1 underlying130 rr LF K λM N=>?_;refine bI (y ?_);cases h;exact cL 0 (hm (M,N))
   have h:=db c C;refine ay ?_;refine aj h λH D h=>?_;refine hs (aY:=bN) [3,9,10,11] (λj=>[(5,bQ (aH j.1 (t H) j.2))]) (λj=>[(1,⟨j.1,.row 141 H j.2⟩)]) (λj=>?_) (λhm c=>?_) λhm c=>?_
   ·cases h;exact cL 0 (hm (j.1,j.2))
   ·have h:=da c D;refine aj h λfm an h=>aj h λao ap h=>cl 13 ?_;refine aj h λaw O h=>eM 1 underlying130 rr LF O λP Q=>?_;refine bI (y ?_);cases h;exact cL 0 (hm (P,Q))
   have h:=db c D;refine ca ?_;cases h;exact cL 0 (hm (a.1,a.2))
  cases h;exact ej (a.1,a.2) 0
 refine ay ?_;exact c2 (au:=fN) 0 [4,5,61] ⟨rfl,rfl,rfl,S⟩ o go)
def TS{c p j l}(h:BI c p j=w l):iW prog 209 [u p,u j] c (u l) c:=by
 unfold BI at h;refine b4 λB C=>?_;refine ay ?_;refine ar.scope (go2 (λh=>?_) (λh=>?_))
 ·exact af.Hm go
 refine ar.label (ay λD E A F h=>?_);refine aj h λG m h=>?_;refine yB (bb:=Int) (bp:=Int) (aY:=bG) (aX:=bG) m 0 [] (λd a=>[(1,u j),(5,u (-1)),(14,u A.qk),(15,u (t A.qk:Int)),(16,u d)]) (λd a=>[]) (λd a=>bc c) (λf=>U 0) (λf a=>[(5,u f)]) (λf a=>[]) (λf a=>bc c) () (λd l h a=>?_) (λa=>?_)
 ·exact go
 refine ay ?_;exact af.Hm go
def Uh{a c d}(h:BX a c=w d):iW prog 447 [u c] a (u d) a:=by
 unfold BX at h;refine b4 λp A=>?_;refine bl (bI (eG ?_));refine bJ ?_;refine aj h λB f h=>aT (fp (jI (ae o) f)) ?_;refine cP (bM ajY.fd) ?_;refine aj h λC j h=>aT (oN ((T fJ).comp Fb) hv (ae o) (je (n:=0) o (rl j) o) o o) ?_;refine cP lr ?_;refine bJ ?_;refine jY cN ?_;refine aj h λD l h=>e1 (λax=>fp (jI (ba o ax) (dT l ax))) ?_;refine jY (bM KX.fd) ?_;refine aj h λE m h=>e1 (λax=>oN ((T fJ).comp Bq) Zb (ba o ax) (je (n:=0) o (rl (dT m ax)) o) o o) ?_;refine e1 (λax=>Pu (b:=(cq:ck Ref 2)) (rL:=1) o underlying529 (by kernel_rfl) anj (.nil)) ?_;refine e1 (λax=>aiG underlying529 jW underlying527 (by kernel_rfl) (ba o ax) (ba o ax) ank) ?_;refine HF ?_;refine bI (bC (b1 ?_));cases h;exact c6 () (.refl _) o o (dO o)
def ac4{d E j l m f p A B}(h:IK d E j l m=w B):bn prog 452 [u E,u j,u l,bu f] ([⟨w f,.bF ([]:R fX) [(0,aH p (t m) A)]⟩,⟨p,.row 542 m A⟩]++bc d) (aX:=bN) (λc=>cI []) (λc=>[⟨w f,.bF ([]:R fX) [(0,aH c.1 (t B) c.2)]⟩,⟨c.1,.row 542 B c.2⟩]++bc d):=by
 unfold IK at h;refine b4 λO P=>?_;refine ay λQ ab G H I h=>?_;refine aj h λF C h=>?_;refine vc (aY:=bN) 3 [] (λa=>[]) (λa=>[(1,⟨w f,.bF ([]:R fX) [(0,aH a.1 (t F) a.2)]⟩),(2,⟨a.1,.row 542 F a.2⟩)]) (λa=>bc d) (λa=>?_) (λhm D=>?_) (λhm D=>?_)
 ·refine dl (X 2 o (X 2 o ?_));cases h;exact af.mq (a.1,a.2) (.cons_cons _ (.cons_cons _ (.cons _ (.refl _)))) o o
 ·have h:=da D C;refine c8 mixed 9 (rg 11 9) [[],[],[],[],[3],[4],[5],[1,2,6],[7]] [_,_,_,_,_,_,_,_,_] ⟨ed λav=>fG (i:=1) (q:=0) QW (ae o) (av _ _ o o) o,pR 0 e3,dG,dG,ed λav=>fp (jI (ae o) G),H1 (bM ajZ.fd),ed λav=>oN ((T fJ).comp Jm) bz (ae o) (oZ (λi e q=>av i e q o) (je (n:=3) o (rl I) o)) o o,ed λav=>iI (b:= {b2:=j,CG:=l,cA:=H.lO:fX}) o anl QX (.cons ac5 o (ae o) o (.cons acS o (ae o) o (.cons aea o (ae o) o (.nil)))),ed λav=>tx underlying538 QY QX o o (.cons (by simp) (ae o) (.nil)),S⟩ ?_;refine aj h λac K h=>eM 2 underlying538 QY QX K λM N=>?_;refine co (i:=1) (T (R fX)) QW (ae o) (ae o) hy o o o o (y ?_);cases h;exact cL 0 (hm (M,N))
 have h:=db D C;refine ca ?_;cases h;exact cL 0 (hm (p,A))
instance aaE:dd prog 455 _ _ _ J8 u u u:=.j (h:=λa c d h f j=>by
 exact go)
instance aaF:dd prog 454 _ _ _ Vi u u u:=.j (h:=λa c d h f j=>by
 exact go)
def ace{a:R aJ}{E F:Int}{p:aw Nat}{f:Nat}{A:R aJ}(h:M1 a E F=w A):bn prog 473 [bQ (aH p (t a) f),u E,u F] [⟨p,.row 70 a f⟩] (aX:=(aw Nat×Nat)) (λl=>bQ (aH l.1 (t A) l.2)) (λl=>[⟨l.1,.row 70 A l.2⟩]):=by
 unfold M1 at h;obtain⟨d,c,rfl,rfl,H,aQ,rfl⟩:=ahB h;refine b4 λI K=>?_;refine bm (bW (cd (cc h7) o o o (y (Y (bm (bW (cd (cN (ae o)) o o o (cd (cN (ae o)) o o o (cd (cN (ae o)) o o o (cd (cN (ae o)) o o o (cd (nv (i:=0) (xs:=a) underlying53 (ae o) o o) o o o ?_)))))))))));refine cd (aiH (i:=0) (xs:=a) underlying53 fK (ae o) o (ae o) (ae o) (ae o) ⟨H,aQ,jT _⟩) o o o ?_;refine y (Y (bm (bm (bW (cd (cN (ae o)) o o o (cd (cN (ae o)) o o o (cd (ir (ae o) (ae o)) o o o (y (Y (ar.cond (ae o) (λB=>?_) (λB=>?_)))))))))))
 ·have M:d=c:=by simp only[l1]at B;omega
  subst M;rw[rT];refine bm (bW (cd (cN (ae o)) o o o (cd (cc (ae o)) o o o (y (Y (b1 ?_))))));repeat (apply ci)
  exact c6 (p,f) (.cons_cons _ (r0 _)) o o (dO o)
 have N:d<c:=by simp only[Ip]at B;omega
 refine ca (Y (ar.some (i:=0) (xs:=a) o (by omega) λj O P ac=>?_));subst O;refine bm (bW (cd (cN (ae o)) o o o (cd (nv (i:=0) (xs:=a) underlying53 (ae o) o o) o o o ?_)));refine cd (cc (ae o)) o o o (y (Y ?_));have C:t (a.take d++a.drop c++a.drop (d+(t a-c)))=t a:=by simp only[lI,oz,qT];omega
 have D:t (a.take d++a.drop c)=d+(t a-c):=by simp only[lI,oz,qT];omega
 refine bm (ar.le (br:=[(0,bQ (aH (w j) (t a) f)),(1,u (d:Int)),(2,u (c:Int)),(7,u (t a:Int))]) .all ?_);refine ar.MG mixed (⟨w 20,[],[],[],λ_=>bQ (aH (w j) (t a) f),λ_ _=>⟨V,.dead⟩⟩::⟨w 21,[],[],[],λ_=>u (d:Int),λ_ _=>⟨V,.dead⟩⟩::⟨w 22,(0::1::[]),(0::[]),[],λ_=>bQ (jf (w j) 0 (d-0) f (ah.size aJ)),λ_ _=>⟨V,.dead⟩⟩::⟨w 23,[],[],[],λ_=>bQ (aH (w j) (t a) f),λ_ _=>⟨V,.dead⟩⟩::⟨w 24,[],[],[],λ_=>u (c:Int),λ_ _=>⟨V,.dead⟩⟩::⟨w 25,(3::4::[]),(0::[]),[],λ_=>bQ (jf (w j) c (t a-c) f (ah.size aJ)),λ_ _=>⟨V,.dead⟩⟩::⟨w 26,(0::1::2::3::4::5::[]),(0::[]),(0::[]),λ_=>bQ (aH (w j) (d+(t a-c)) f),λ_ _=>⟨w j,.row 70 (a.take d++a.drop c++a.drop (d+(t a-c))) f⟩⟩::⟨w 0,(0::1::2::3::4::5::6::[]),[],[],λ_=>bQ (aH (w j) (d+(t a-c)) f),λ_ _=>⟨V,.dead⟩⟩::[]) (0::1::2::7::[]) ⟨?_,?_,?_,?_,?_,?_,?_,?_,S⟩ λaq=>?_
 ·exact jL o o o λaq br aD aA av=>cN (ae (aA _ _ o))
 ·exact jL o o o λaq br aD aA av=>cN (ae (aA _ _ o))
 ·exact jL o o o λaq br aD aA av=>GC (i:=0) (xs:=a) underlying53 fK (ae (aA _ _ o)) (av 0 _ o o) .none (.some (ae (aA _ _ o))) o o ⟨zC _,by omega⟩
 ·exact jL o o o λaq br aD aA av=>cN (ae (aA _ _ o))
 ·exact jL o o o λaq br aD aA av=>cN (ae (aA _ _ o))
 ·exact jL o o o λaq br aD aA av=>GC (i:=0) (xs:=a) underlying53 fK (ae (aA _ _ o)) (av 0 _ o o) (.some (ae (aA _ _ o))) .none o o ⟨aQ,jT _⟩
 ·intro aq br aD aA av;have Q:=av 0 _ o o;refine aa.alm (i:=0) (m:=d) (n:=c) (xs:=a) underlying53 fK (ae (aA _ _ o)) (ae (aA _ _ o)) Q N aQ o ?_;exact y (a' (dv []) o o)
 ·exact jL o o o λaq br aD aA av=>cc (ae (aA _ _ o))
 refine Y (bm (bW (cd (cN (ae o)) o o o (cd (cN (ae o)) o o o (cd (aln underlying53 (ae o)) o o o (cd (cN (ae o)) o o o (cd (vT (au:=aJ) (m:=d+(t a-c)) (h:=t a) underlying53 fK (ae o) (.some (ae o)) (.some (ae o)) o o ⟨by omega,P⟩) o o o ?_)))))))
 refine aa.clear (i:=0) (dK:=d+(t a-c)) (n:=t a-(d+(t a-c))) (xs:=a.take d++a.drop c++a.drop (d+(t a-c))) underlying53 fK ly o (ae o) o (by rw[C];omega) o ?_;refine y (Y (bm (bW (cd (cN (ae o)) o o o (cd (cc (ae o)) o o o (y (Y (b1 ?_))))))));have G:(uN (a.take d++a.drop c++a.drop (d+(t a-c))) (d+(t a-c)) (t a-(d+(t a-c)))).take (d+(t a-c))=a.take d++a.drop c:=by
  unfold uN;rw[mI,MX (by rw[oz,C];omega),sb,Nat.min_self,MX (by rw[D];exact jT _),<-D,mJ]
 refine af.again (.row 70 (a.take d++a.drop c) f) 0 o (λK I ad h=>?_) (λh=>?_) ?_
 ·have ab:=KD (n:=d+(t a-c)) (by unfold uN;simp only[lI,oz,Na,qT,C];omega) h;rwa[G]at ab
 ·exact⟨by rw[<-G,h.1];simp,h.2⟩
 refine c6 ((w j,f):aw Nat×Nat) (.cons_cons _ (r0 _)) o ?_ (dO o);rw[D]
def TI{j l a m}(h:Bw j l a=w m):iW prog 139 [u l,u a] j (cI []) m:=by
 unfold Bw at h;refine b4 λC D=>?_;refine ay ?_;refine aj h λp c h=>?_;refine vc (aY:=bG) 0 [] (λd=>[]) (λd=>[]) (λd=>bc p) (λd=>?_) (λhm f=>?_) (λhm f=>?_)
 ·exact dl go
 ·have h:=da f c;refine ay λE F h=>?_;refine aj h λG A h=>aj h λH B h=>aa.pC 0 o ((T ll).comp IX) (v:=(max 1 a:Int)) bz (ae o) (ae o) (uO A) o o o o (dz B) ?_;exact go
 have h:=db f c;exact go
instance:dd prog 306 _ _ _ F0 u u u:=.j (h:=λa c r h W A=>by
 exact go)
instance:dd prog 307 _ _ _ JB u u u:=.j (h:=λa c r h W A=>by
 exact go)
def T4{d f a j l m}(h:BL d f a j l=w m):iW prog 264 [u f,u a,u j,u l] d (cI []) m:=by
 unfold BL at h;refine b4 λO P=>?_;refine ay λQ=>?_;refine aj h λab ac h=>aj h λad ag h=>aj h λah p h=>aj h λai A h=>aj h λc B h=>ar.G9 1 1 (er [0,1,2,3,5] ?_);refine c7 2 (az 9 [] [] _::az 10 [0] [] _::az 11 [1] [] _::az 12 [2] [] _::az 13 [] [0] _::az 14 [3,4] [] (u c)::mY 8 [] 1 6 _::fL [5,6] [1] [1] (λaq=>a7 ((aq 6 0).getD 0) c)::[]) (dC ?_ hg) (λak=>?_)
 ·intro aq br aD aA av dQ;refine aT (uI (r:=c) underlying199 QZ anm (kQ (ae (aA _ _ o)) p) (ae (aA _ _ o)) (je (n:=2) (dQ.trans o) (uP A) o) (dz B)) (y ?_);exact a' (dv []) o o
 refine cm ?_;refine e4 ?_;refine X 1 o (Y (bl (cP (bM XB.fd) ?_)));refine jz 0 EG bz ?_;refine bJ ?_;refine cH hc ?_;refine cP (bM XB.fd) ?_;refine wT 0 EG bz (eG ?_);refine cP (bM XC.fd) ?_;refine jz 0 Et bz ?_;refine bJ ?_;refine cH hc ?_;refine cP (bM XC.fd) ?_;refine aj h λC D h=>?_;refine rF 0 Et bz (ax:=by exact D) ?_;refine go2 (λh=>?_) (λh=>?_)
 ·refine aj h λal am h=>aj h λan ao h=>cl 5 ?_;refine aj h λap E h=>aj h λF G h=>aj h λau H h=>aa.LR (ng:=Cell.sD (iT F a)) 2 o underlying199 QZ (kQ (ae o) E) (ae o) (uP G) o o o (dz H) ?_;exact go
 refine aj h λaw aB h=>aj h λaC aE h=>cl 6 ?_;refine aj h λaG I h=>aj h λK M h=>aj h λaH N h=>aa.Dd (ng:=Cell.sD (fB K a C)) 2 o (by first|exact .inl o|exact .inr o) underlying199 QZ (kQ (ae o) I) (ae o) (ae o) (uP M) o o o (dz N) ?_;exact y (dl go)
instance:dd prog 351 _ _ _ Nf u u u:=.j (h:=λd j r h W A=>by
 refine ay λf=>?_;refine aj h λa c h=>?_;refine gw c [] (cG 0 (u d) (cG 3 (bu f) (cG 7 (u (t d:Int)) (cD.cF [8])))) (Z (gx 0) h4) (Z (λ_=>[]) (cD.cF [4])) (λl r h=>?_) ?_
 ·refine ay (λh=>?_);refine aj h λbB m h=>cl 6 ?_;exact go
 rcases a with a|a
 ·simp only[bv]at h;exact go
 simp only[bx]at h;exact go)
def Nr{a j f l m d}(h:yZ a j=w d):bn prog 141 [bu f,u j] [⟨w f,.bF ({a with gT:=[]}:gG) [(3,aH l (t a.gT) m)]⟩,⟨l,.row 180 a.gT m⟩] (aX:=bN) (λc=>cI []) (λc=>[⟨w f,.bF ({d with gT:=[]}:gG) [(3,aH c.1 (t d.gT) c.2)]⟩,⟨c.1,.row 180 d.gT c.2⟩]):=by
 unfold yZ at h;refine b4 λD E=>?_;refine ay ?_;refine aT (fG (i:=0) (q:=0) (b7:=gG) (aY:=gq) wy (ae o) o o) ?_;refine ay ?_;refine aj h λB C h=>eM 1 underlying125 LS ann C λp A=>?_;refine ay ?_;refine co (i:=0) (aY:=gq) (et:=({a with gT:=[]}:gG)) (pb:=[(3,aH p (t B) A)]) ((T gG).comp Eh) wy (ae o) (ae o) hy o o o o (y (dl (X 1 o (X 1 o ?_))));cases h;exact af.mq (p,A) (.cons_cons _ (.cons_cons _ (r0 _))) o o
def VH:Go.Shelf.Ren:=⟨λ|6=>174|15=>230|14=>229|28=>284|29=>285|20=>276|21=>277|22=>278|23=>279|24=>280|25=>281|26=>282|27=>283|46=>327|47=>328|48=>329|49=>330|50=>331|57=>366|n=>n,λ|22=>133|24=>140|25=>274|3=>3|39=>209|0=>0|53=>391|55=>103|4=>4|46=>385|45=>384|50=>327|5=>5|9=>9|66=>438|70=>442|76=>474|77=>248|n=>n,λ|n=>n⟩
def ano:Go.Proofs.SlLaysF0.n6 prog VH:= {
 mixed:=by kernel_rfl
 f6:=⟨f174.name,by decide,func174.trans (eO w (by kernel_rfl))⟩
 f14:=⟨f229.name,by decide,func229.trans (eO w (by kernel_rfl))⟩
 f15:=func230.trans (eO w (by kernel_rfl))
 f20:=⟨f276.name,by decide,func276.trans (eO w (by kernel_rfl))⟩
 f21:=⟨f277.name,by decide,func277.trans (eO w (by kernel_rfl))⟩
 f22:=⟨f278.name,by decide,func278.trans (eO w (by kernel_rfl))⟩
 f23:=⟨f279.name,by decide,func279.trans (eO w (by kernel_rfl))⟩
 f24:=⟨f280.name,by decide,func280.trans (eO w (by kernel_rfl))⟩
 f25:=⟨f281.name,by decide,func281.trans (eO w (by kernel_rfl))⟩
 f26:=⟨f282.name,by decide,func282.trans (eO w (by kernel_rfl))⟩
 f27:=⟨f283.name,by decide,func283.trans (eO w (by kernel_rfl))⟩
 f28:=func284.trans (eO w (by kernel_rfl))
 f29:=func285.trans (eO w (by kernel_rfl))
 f46:=⟨f327.name,by decide,func327.trans (eO w (by kernel_rfl))⟩
 f47:=func328.trans (eO w (by kernel_rfl))
 f48:=func329.trans (eO w (by kernel_rfl))
 f49:=⟨f330.name,by decide,func330.trans (eO w (by kernel_rfl))⟩
 f50:=⟨f331.name,by decide,func331.trans (eO w (by kernel_rfl))⟩
 f57:=⟨f366.name,by decide,func366.trans (eO w (by kernel_rfl))⟩
 t0:=underlying0
 a0:=isAgg0
 z0:=sizeOf0
 v0:=zeroValue0
 t3:=underlying3
 a3:=isAgg3
 z3:=sizeOf3
 v3:=zeroValue3
 t4:=underlying4
 a4:=isAgg4
 z4:=sizeOf4
 v4:=zeroValue4
 t5:=underlying5
 a5:=isAgg5
 z5:=sizeOf5
 v5:=zeroValue5
 t9:=underlying9
 a9:=isAgg9
 z9:=sizeOf9
 v9:=zeroValue9
 t22:=underlying133
 a22:=isAgg133
 z22:=sizeOf133
 v22:=zeroValue133
 t25:=underlying274
 a25:=isAgg274
 z25:=sizeOf274
 v25:=zeroValue274
 t39:=underlying209
 a39:=isAgg209
 z39:=sizeOf209
 v39:=zeroValue209
 t45:=underlying384
 a45:=isAgg384
 z45:=sizeOf384
 v45:=zeroValue384
 t46:=underlying385
 a46:=isAgg385
 z46:=sizeOf385
 v46:=zeroValue385
 t50:=underlying327
 a50:=isAgg327
 z50:=sizeOf327
 v50:=zeroValue327
 t53:=underlying391
 a53:=isAgg391
 z53:=sizeOf391
 v53:=zeroValue391
 t55:=underlying103
 a55:=isAgg103
 z55:=sizeOf103
 v55:=zeroValue103
 t66:=underlying438
 a66:=isAgg438
 z66:=sizeOf438
 v66:=zeroValue438
 t70:=underlying442
 a70:=isAgg442
 z70:=sizeOf442
 v70:=zeroValue442
 t76:=underlying474
 a76:=isAgg474
 z76:=sizeOf474
 v76:=zeroValue474
 t77:=underlying248
 a77:=isAgg248
 z77:=sizeOf248
 v77:=zeroValue248}
def acj{a f j}(h:ag.wx a f j){c:aw Nat}{d:Nat}:bn prog 174 [.eq (aH c (t a) d),.HD prog f] [⟨c,.row 140 a d⟩] (aX:= {r:R jh // t a=t r∧j r}) (λ_=>.bO []) (λl=>[⟨c,.row 140 l.1 d⟩]):=YZ (gS:=VH) ano (λ_=>by kernel_rfl) (λ_=>by kernel_rfl) o h
instance:ew prog 176 _ _ J9 u u:=.j (h:=λd r h W A=>by
 refine ay ?_;refine aj h λa c h=>?_;refine gw c [] (cG 3 (u (0:Int)) (cG 6 (u d) (cG 7 (u (t d:Int)) (cD.cF [8])))) (Z (gx 0) h4) (Z (λ_=>[(3,u (0:Int))]) (cD.cF [2])) (λf r h=>?_) ?_
 ·exact go
 rcases a with a|a
 ·simp only[bv]at h;exact go
 simp only[bx]at h;exact go)
def acA{c f j l d}(h:Ng c=w d):bn prog 42 [bu f] [⟨w f,.bF ({c with gT:=[]}:gG) [(3,aH j (t c.gT) l)]⟩,⟨j,.row 180 c.gT l⟩] (aX:=bN) (λa=>cI []) (λa=>[⟨w f,.bF ({d with gT:=[]}:gG) [(3,aH a.1 (t d.gT) a.2)]⟩,⟨a.1,.row 180 d.gT a.2⟩]):=by
 unfold Ng at h;refine b4 λm p=>?_;refine bl (bJ ?_);refine aT (aj0 underlying36 (ae o)) (bC ?_);refine ar.Q0 (ae o) o (bW (bJ ?_));refine cP fp ?_;refine cP (bM aj1.fd) ?_;refine bY (au:=gq) 180 (co (i:=1) ((T gG).comp Eh) wy (ae o) h7 hy o o o o (y (dl (X 0 o (X 1 o ?_)))));cases h;exact af.mq (V,0) (.cons_cons _ (.cons_cons _ (r0 _))) o o
instance:ew prog 85 _ _ zQ u u:=.j (h:=λp r h W A=>by
 refine bl (hT λaR=>?_);refine iL Zc λaS=>eG ?_;refine aa.pB [0,1,2,3,4,5] aeZ Zc o λB=>bY (au:=Int) 3 (bY (au:=Int) 3 (bY (au:=Int) 3 (bY (au:=Int) 3 (bY (au:=Int) 3 (bY (au:=Int) 3 ?_)))));refine ay ?_;refine aj h λC f h=>?_;refine eC (aY:=bN) (aX:=bN) f [1,2,3] (λE a=>[(17,u p.gu),(18,u (t p.gu:Int)),(19,u E.1)]) (λE a=>[(5,⟨a.1,.row 3 E.2.1 a.2⟩),(6,⟨w B,.bF E.2.2 [(0,aH a.1 (t E.2.1) a.2),(1,aH V (t ([]:R Int)) 0),(2,aH V (t ([]:R Int)) 0),(3,aH V (t ([]:R Int)) 0),(4,aH V (t ([]:R Int)) 0),(5,aH V (t ([]:R Int)) 0)]⟩)]) (λN=>U 0) (λN a=>[]) (λN a=>[(5,⟨a.1,.row 3 N.1 a.2⟩),(6,⟨w B,.bF N.2 [(0,aH a.1 (t N.1) a.2),(1,aH V (t ([]:R Int)) 0),(2,aH V (t ([]:R Int)) 0),(3,aH V (t ([]:R Int)) 0),(4,aH V (t ([]:R Int)) 0),(5,aH V (t ([]:R Int)) 0)]⟩)]) (V,0) (λE r h a=>?_) λa=>?_
 ·refine go2 (λbB aU aV h=>?_) (λh=>?_)
  ·refine aT (hp sy (ae o) (cU 0) ⟨by decide,rfl⟩) ?_;refine aT (fG (i:=7) (q:=0) j5 (ae o) o o) ?_;refine ay ?_;refine aj h λaW ah h=>eM 6 underlying59 bz my ah λai ak=>?_;refine aT (hp sy (ae o) (cU 0) ⟨by decide,rfl⟩) ?_;refine co (i:=7) ((T (ck (R Int) 6)).comp (bP 6 0 (by decide))) j5 (ae o) (ae o) hy o o o o ?_;refine ay ?_;cases h;exact eE (ai,ak) 1
  cases h;exact ej (a.1,a.2) 0
 refine ay ?_;refine aj h λD f h=>?_;refine eC (aY:=bN) (aX:=bN) f [1,2,3] (λF c=>[(32,u p.oH),(33,u (t p.oH:Int)),(34,u F.1)]) (λF c=>[(4,⟨c.1,.row 3 F.2.1 c.2⟩),(6,⟨w B,.bF F.2.2 [(0,aH a.1 (t C.1) a.2),(1,aH c.1 (t F.2.1) c.2),(2,aH V (t ([]:R Int)) 0),(3,aH V (t ([]:R Int)) 0),(4,aH V (t ([]:R Int)) 0),(5,aH V (t ([]:R Int)) 0)]⟩)]) (λO=>U 2) (λO c=>[]) (λO c=>[(4,⟨c.1,.row 3 O.1 c.2⟩),(6,⟨w B,.bF O.2 [(0,aH a.1 (t C.1) a.2),(1,aH c.1 (t O.1) c.2),(2,aH V (t ([]:R Int)) 0),(3,aH V (t ([]:R Int)) 0),(4,aH V (t ([]:R Int)) 0),(5,aH V (t ([]:R Int)) 0)]⟩)]) (V,0) (λF r h c=>?_) λc=>?_
 ·refine go2 (λdi aZ a0 h=>?_) (λh=>?_)
  ·refine aT (hp sy (ae o) (cU 1) ⟨by decide,rfl⟩) ?_;refine aT (fG (i:=7) (q:=1) j5 (ae o) o o) ?_;refine ay ?_;refine aj h λa1 al h=>eM 5 underlying59 bz my al λam an=>?_;refine aT (hp sy (ae o) (cU 1) ⟨by decide,rfl⟩) ?_;refine co (i:=7) ((T (ck (R Int) 6)).comp (bP 6 1 (by decide))) j5 (ae o) (ae o) hy o o o o ?_;refine ay ?_;cases h;exact eE (am,an) 1
  cases h;exact ej (c.1,c.2) 0
 refine ay ?_;refine aj h λG f h=>?_;refine eC (aY:=bN) (aX:=bN) f [1,2,3] (λH d=>[(47,u p.oJ),(48,u (t p.oJ:Int)),(49,u H.1)]) (λH d=>[(3,⟨d.1,.row 3 H.2.1 d.2⟩),(6,⟨w B,.bF H.2.2 [(0,aH a.1 (t C.1) a.2),(1,aH c.1 (t D.1) c.2),(2,aH d.1 (t H.2.1) d.2),(3,aH V (t ([]:R Int)) 0),(4,aH V (t ([]:R Int)) 0),(5,aH V (t ([]:R Int)) 0)]⟩)]) (λP=>U 4) (λP d=>[]) (λP d=>[(3,⟨d.1,.row 3 P.1 d.2⟩),(6,⟨w B,.bF P.2 [(0,aH a.1 (t C.1) a.2),(1,aH c.1 (t D.1) c.2),(2,aH d.1 (t P.1) d.2),(3,aH V (t ([]:R Int)) 0),(4,aH V (t ([]:R Int)) 0),(5,aH V (t ([]:R Int)) 0)]⟩)]) (V,0) (λH r h d=>?_) λd=>?_
 ·refine go2 (λfm a2 a3 h=>?_) (λh=>?_)
  ·refine aT (hp sy (ae o) (cU 2) ⟨by decide,rfl⟩) ?_;refine aT (fG (i:=7) (q:=2) j5 (ae o) o o) ?_;refine ay ?_;refine aj h λa4 ao h=>eM 4 underlying59 bz my ao λap aw=>?_;refine aT (hp sy (ae o) (cU 2) ⟨by decide,rfl⟩) ?_;refine co (i:=7) ((T (ck (R Int) 6)).comp (bP 6 2 (by decide))) j5 (ae o) (ae o) hy o o o o ?_;refine ay ?_;cases h;exact eE (ap,aw) 1
  cases h;exact ej (d.1,d.2) 0
 refine ay ?_;refine aj h λad f h=>?_;refine eC (aY:=bN) (aX:=bN) f [1,2,3] (λI j=>[(62,u p.cM),(63,u (t p.cM:Int)),(64,u I.1)]) (λI j=>[(2,⟨j.1,.row 3 I.2.1 j.2⟩),(6,⟨w B,.bF I.2.2 [(0,aH a.1 (t C.1) a.2),(1,aH c.1 (t D.1) c.2),(2,aH d.1 (t G.1) d.2),(3,aH j.1 (t I.2.1) j.2),(4,aH V (t ([]:R Int)) 0),(5,aH V (t ([]:R Int)) 0)]⟩)]) (λQ=>U 6) (λQ j=>[]) (λQ j=>[(2,⟨j.1,.row 3 Q.1 j.2⟩),(6,⟨w B,.bF Q.2 [(0,aH a.1 (t C.1) a.2),(1,aH c.1 (t D.1) c.2),(2,aH d.1 (t G.1) d.2),(3,aH j.1 (t Q.1) j.2),(4,aH V (t ([]:R Int)) 0),(5,aH V (t ([]:R Int)) 0)]⟩)]) (V,0) (λI r h j=>?_) λj=>?_
 ·refine go2 (λiw a5 a6 h=>?_) (λh=>?_)
  ·refine aT (hp sy (ae o) (cU 3) ⟨by decide,rfl⟩) ?_;refine aT (fG (i:=7) (q:=3) j5 (ae o) o o) ?_;refine ay ?_;refine aj h λa8 aB h=>eM 3 underlying59 bz my aB λaC aE=>?_;refine aT (hp sy (ae o) (cU 3) ⟨by decide,rfl⟩) ?_;refine co (i:=7) ((T (ck (R Int) 6)).comp (bP 6 3 (by decide))) j5 (ae o) (ae o) hy o o o o ?_;refine ay ?_;cases h;exact eE (aC,aE) 1
  cases h;exact ej (j.1,j.2) 0
 refine ay ?_;refine aj h λag f h=>?_;refine eC (aY:=bN) (aX:=bN) f [1,2,3] (λK l=>[(77,u p.bK),(78,u (t p.bK:Int)),(79,u K.1)]) (λK l=>[(1,⟨l.1,.row 3 K.2.1 l.2⟩),(6,⟨w B,.bF K.2.2 [(0,aH a.1 (t C.1) a.2),(1,aH c.1 (t D.1) c.2),(2,aH d.1 (t G.1) d.2),(3,aH j.1 (t ad.1) j.2),(4,aH l.1 (t K.2.1) l.2),(5,aH V (t ([]:R Int)) 0)]⟩)]) (λab=>U 8) (λab l=>[]) (λab l=>[(1,⟨l.1,.row 3 ab.1 l.2⟩),(6,⟨w B,.bF ab.2 [(0,aH a.1 (t C.1) a.2),(1,aH c.1 (t D.1) c.2),(2,aH d.1 (t G.1) d.2),(3,aH j.1 (t ad.1) j.2),(4,aH l.1 (t ab.1) l.2),(5,aH V (t ([]:R Int)) 0)]⟩)]) (V,0) (λK r h l=>?_) λl=>?_
 ·refine go2 (λlG a9 a_ h=>?_) (λh=>?_)
  ·refine aT (hp sy (ae o) (cU 4) ⟨by decide,rfl⟩) ?_;refine aT (fG (i:=7) (q:=4) j5 (ae o) o o) ?_;refine ay ?_;refine aj h λbb aI h=>eM 2 underlying59 bz my aI λaJ aL=>?_;refine aT (hp sy (ae o) (cU 4) ⟨by decide,rfl⟩) ?_;refine co (i:=7) ((T (ck (R Int) 6)).comp (bP 6 4 (by decide))) j5 (ae o) (ae o) hy o o o o ?_;refine ay ?_;cases h;exact eE (aJ,aL) 1
  cases h;exact ej (l.1,l.2) 0
 refine ay ?_;refine aj h λbc f h=>?_;refine eC (aY:=bN) (aX:=bN) f [2,3] (λM m=>[(92,u p.eo),(93,u (t p.eo:Int)),(94,u M.1)]) (λM m=>[(0,⟨m.1,.row 3 M.2.1 m.2⟩),(6,⟨w B,.bF M.2.2 [(0,aH a.1 (t C.1) a.2),(1,aH c.1 (t D.1) c.2),(2,aH d.1 (t G.1) d.2),(3,aH j.1 (t ad.1) j.2),(4,aH l.1 (t ag.1) l.2),(5,aH m.1 (t M.2.1) m.2)]⟩)]) (λac=>U 10) (λac m=>[]) (λac m=>[(0,⟨m.1,.row 3 ac.1 m.2⟩),(6,⟨w B,.bF ac.2 [(0,aH a.1 (t C.1) a.2),(1,aH c.1 (t D.1) c.2),(2,aH d.1 (t G.1) d.2),(3,aH j.1 (t ad.1) j.2),(4,aH l.1 (t ag.1) l.2),(5,aH m.1 (t ac.1) m.2)]⟩)]) (V,0) (λM r h m=>?_) λm=>?_
 ·refine go2 (λnd bd be h=>?_) (λh=>?_)
  ·refine aT (hp sy (ae o) (cU 5) ⟨by decide,rfl⟩) ?_;refine aT (fG (i:=7) (q:=5) j5 (ae o) o o) ?_;refine ay ?_;refine aj h λbf aM h=>eM 1 underlying59 bz my aM λaN aO=>?_;refine aT (hp sy (ae o) (cU 5) ⟨by decide,rfl⟩) ?_;refine co (i:=7) ((T (ck (R Int) 6)).comp (bP 6 5 (by decide))) j5 (ae o) (ae o) hy o o o o ?_;refine ay ?_;cases h;exact eE (aN,aO) 1
  cases h;exact ej (m.1,m.2) 0
 refine c0 (Y (bl (ct ((T (ck (R Int) 6)).comp (bP 6 0 (by decide))) 6 5 0 o o o o o o ?_)));refine ct ((T (ck (R Int) 6)).comp (bP 6 1 (by decide))) 6 4 0 o o o o o o ?_;refine ct ((T (ck (R Int) 6)).comp (bP 6 2 (by decide))) 6 3 0 o o o o o o ?_;refine ct ((T (ck (R Int) 6)).comp (bP 6 3 (by decide))) 6 2 0 o o o o o o ?_;refine ct ((T (ck (R Int) 6)).comp (bP 6 4 (by decide))) 6 1 0 o o o o o o ?_;refine ct ((T (ck (R Int) 6)).comp (bP 6 5 (by decide))) 6 0 0 o o o o o o ?_;exact aa.qq 6 o go)
end Go.Proofs.YtmcjlfmeoehcmaaGreat
