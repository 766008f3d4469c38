/-
  Each function meets its functional program. Conditions: none.
-/
import Derived.Test.YtmnggbjcnoffeaaGreatMd
import Derived.Test.YtmnggbjcnoffeaaGreatMc0
namespace Go.Proofs.YtmnggbjcnoffeaaGreat
open Go Gv
set_option linter.unusedVariables false
set_option linter.unusedSimpArgs false
set_option maxRecDepth 100000
set_option maxHeartbeats 2000000
theorem HD {J:BitVec 64} {r:Int} (h:um J=some r):bE Tryz.prog 185 [I.of (J)] (I.of (r)):=by
 unfold um at h
 refine bE.of Tryz.func185 rfl Tryz.ntmps185 rfl fun W A=> ?_
 refine aA ?_
 refine aM ?_
 refine bK ?_
 refine aA ?_
 refine aB ?_
 refine bj (Ea (ad rfl) (fi 4294967296 rfl)) ?_
 refine aI ?_
 obtain⟨bB,cz,h⟩:=ay h
 refine h5 (γ:=Unit) [4] (fun aw=> [(0,I.of (bB.1)),(2,I.of (bB.2))]) (fun aw=> []) (fun aw=> ?_) (fun hm ar=> ?_) fun hm ar=> ?_
 ·clear cz
  refine ab.next ?_
  refine ag.seq ?_
  refine aA ?_
  refine aB ?_
  refine bj (Ea (ad rfl) (fi 65536 rfl)) ?_
  refine aI ?_
  obtain⟨cu,du,h⟩:=ay h
  refine h5 (γ:=Unit) [4,8] (fun a5=> [(0,I.of (cu.1)),(2,I.of (cu.2))]) (fun a5=> []) (fun a5=> ?_) (fun hm ar=> ?_) fun hm ar=> ?_
  ·clear du
   refine ab.next ?_
   refine ag.seq ?_
   refine aA ?_
   refine aB ?_
   refine bj (Ea (ad rfl) (fi 256 rfl)) ?_
   refine aI ?_
   obtain⟨eL,fX,h⟩:=ay h
   refine h5 (γ:=Unit) [4,8,14] (fun bA=> [(0,I.of (eL.1)),(2,I.of (eL.2))]) (fun bA=> []) (fun bA=> ?_) (fun hm ar=> ?_) fun hm ar=> ?_
   ·clear fX
    refine ab.next ?_
    refine aA ?_
    refine aB ?_
    refine aB ?_
    refine aT (QX Tryz.underlying41 Tryz.underlying5) ?_
    obtain⟨ak,bt,h⟩:=ay h
    refine bj (QY Tryz.underlying9 (di (ByteArray.mk (List.toArray (List.append (List.append [0,1,2,2,3,3,3,3,4,4,4,4,4,4,4,4,5,5,5,5,5,5,5,5,5,5,5,5,5,5,5,5,6,6,6,6,6,6,6,6,6,6,6,6,6,6,6,6,6,6,6,6,6,6,6,6,6,6,6,6,6,6,6,6] [7,7,7,7,7,7,7,7,7,7,7,7,7,7,7,7,7,7,7,7,7,7,7,7,7,7,7,7,7,7,7,7,7,7,7,7,7,7,7,7,7,7,7,7,7,7,7,7,7,7,7,7,7,7,7,7,7,7,7,7,7,7,7,7]) (List.append [8,8,8,8,8,8,8,8,8,8,8,8,8,8,8,8,8,8,8,8,8,8,8,8,8,8,8,8,8,8,8,8,8,8,8,8,8,8,8,8,8,8,8,8,8,8,8,8,8,8,8,8,8,8,8,8,8,8,8,8,8,8,8,8] [8,8,8,8,8,8,8,8,8,8,8,8,8,8,8,8,8,8,8,8,8,8,8,8,8,8,8,8,8,8,8,8,8,8,8,8,8,8,8,8,8,8,8,8,8,8,8,8,8,8,8,8,8,8,8,8,8,8,8,8,8,8,8,8]))))) (ad rfl) bt) ?_
    refine aT (KG Tryz.underlying5 Tryz.underlying3) ?_
    refine bd c8 ?_
    refine aM ?_
    refine aI ?_
    refine ag.ret ?_
    obtain rfl:=aH h
    exact cv
   ·have h:=gI ar fX
    refine aA ?_
    refine aB ?_
    refine bj (pM (ad rfl) (fi 8 rfl)) ?_
    refine aM ?_
    refine aI ?_
    refine ag.cj ?_
    refine aB ?_
    refine bd c8 ?_
    refine aM ?_
    refine ai.nil ?_
    obtain rfl:=aH h
    exact df 0 (hm ())
   ·have h:=gJ ar fX
    refine ag.skip ?_
    obtain rfl:=aH h
    exact df 0 (hm ())
  ·have h:=gI ar du
   refine aA ?_
   refine aB ?_
   refine bj (pM (ad rfl) (fi 16 rfl)) ?_
   refine aM ?_
   refine aI ?_
   refine ag.cj ?_
   refine aB ?_
   refine bd c8 ?_
   refine aM ?_
   refine ai.nil ?_
   obtain rfl:=aH h
   exact df 0 (hm ())
  ·have h:=gJ ar du
   refine ag.skip ?_
   obtain rfl:=aH h
   exact df 0 (hm ())
 ·have h:=gI ar cz
  refine aA ?_
  refine aB ?_
  refine bj (pM (ad rfl) (fi 32 rfl)) ?_
  refine aM ?_
  refine aI ?_
  refine ag.cj ?_
  refine aM ?_
  refine ai.nil ?_
  obtain rfl:=aH h
  exact df 0 (hm ())
 ·have h:=gJ ar cz
  refine ag.skip ?_
  obtain rfl:=aH h
  exact df 0 (hm ())
theorem Hn {hp:a1 Cell} {J:Ref} {aj:Int} {aS:Int} {cn:Int} {CR:Bool} {b6:Nat} {hr:Nat} {tk:Nat} {tl:Nat} {tm:Nat} {r:Int × Int × Bool} (h:r6 hp J aj aS cn CR=some r):cf Tryz.prog 249 [I.eq (.pointer (some ⟨b6,0,none⟩)),I.eq (.pointer (some ⟨hr,0,none⟩)),I.eq (.pointer (some ⟨tk,0,none⟩)),I.eq (.pointer (some ⟨tl,0,none⟩)),I.eq (.pointer (some ⟨tm,0,none⟩))] ([⟨some b6,.var (J:Ref)⟩,⟨some hr,.var (aj:Int)⟩,⟨some tk,.var (aS:Int)⟩,⟨some tl,.var (cn:Int)⟩,⟨some tm,.var (CR:Bool)⟩] ++ a3 hp) (δ:=Unit) (fun _=>I.cG []) (fun _=> [⟨some b6,.var (J:Ref)⟩,⟨some hr,.var (aj:Int)⟩,⟨some tk,.var (r.1:Int)⟩,⟨some tl,.var (r.2.1:Int)⟩,⟨some tm,.var (r.2.2:Bool)⟩] ++ a3 hp):=by
 unfold r6 at h
 refine cf.of Tryz.func249 rfl Tryz.ntmps249 rfl fun W A=> ?_
 refine aA ?_
 refine cm 0 eX ?_
 refine bj (DF Tryz.underlying331 (ad rfl)) ?_
 refine aB ?_
 refine ea (fun hb=>dP (i:=0) (aK.id Ref) (r:=J) eX (ad rfl) rfl rfl rfl) ?_
 obtain⟨cW,eA,h⟩:=ay h
 refine ea (fun hb=>eI (fv (b3 rfl hb) (fC eA hb))) ?_
 refine dK (aQ sx) ?_
 obtain⟨cd,ff,h⟩:=ay h
 refine ea (fun hb=>hj ((aK.id ep).comp sa) (r:=cd.eV) fk (b3 rfl hb) (gn (n:=5) rfl (lp (fC ff hb)) rfl) rfl rfl) ?_
 refine ig ?_
 refine aI ?_
 obtain⟨bB,cz,h⟩:=ay h
 refine ag.cC (γ:=Unit) (fun aw=> [(0,I.eq (.pointer (some ⟨b6,0,none⟩))),(1,I.eq (.pointer (some ⟨hr,0,none⟩))),(2,I.eq (.pointer (some ⟨tk,0,none⟩))),(3,I.eq (.pointer (some ⟨tl,0,none⟩))),(4,I.eq (.pointer (some ⟨tm,0,none⟩))),(12,I.of (J.isSome && cd.eV))]) (fun aw=>(⟨some b6,.var (J:Ref)⟩ :: ⟨some hr,.var (aj:Int)⟩ :: ⟨some tk,.var (bB.1:Int)⟩ :: ⟨some tl,.var (bB.2.1:Int)⟩ :: ⟨some tm,.var (bB.2.2:Bool)⟩ :: a3 hp)) (ad rfl) (fun aw=> ?_) (fun hm ar=> ?_) (fun hm ar=> ?_)
 ·clear cz
  refine ab.sZ ?_
  refine ab.bI 4 rfl ?_
  refine ab.bI 4 rfl ?_
  refine ab.bI 4 rfl ?_
  refine ab.bI 4 rfl ?_
  refine ab.bI 4 rfl ?_
  obtain rfl:=aH h
  exact ab.o8 () (.cons_cons _ (.cons_cons _ (.cons_cons _ (.cons_cons _ (.cons_cons _ (.refl _)))))) rfl rfl
 ·have h:=gI ar cz
  obtain⟨ct,fQ,h⟩:=ay h
  obtain⟨cS,gD,h⟩:=ay h
  refine iC [0,1,2,3,4,5,6,7,8,9,10,11,12] ?_
  refine ag.pY 5 mixed (bb 13 [] (1 :: []) _ :: bb 14 [] (0 :: []) _ :: bb 15 (1 :: []) [] _ :: bb 16 (2 :: []) [] _ :: ⟨some 17,(3 :: []),[],[],fun _=>I.of (cS.jC),fun _ _=>⟨none,.dead⟩⟩ :: ⟨none,(0 :: []),(2 :: []),(2 :: []),fun _=>I.any,fun hd _=>⟨some tk,.var (aj:Int)⟩⟩ :: ⟨none,(4 :: []),(3 :: []),(3 :: []),fun _=>I.any,fun hd _=>⟨some tl,.var (cS.jC:Int)⟩⟩ :: ⟨none,[],(4 :: []),(4 :: []),fun _=>I.any,fun hd _=>⟨some tm,.var (true:Bool)⟩⟩ :: []) _ (0 :: 1 :: 2 :: 3 :: 4 :: 5 :: 6 :: 7 :: 8 :: 9 :: 10 :: 11 :: 12 :: []) rfl rfl (by kernel_rfl) (by kernel_rfl) ⟨cR.q (k5 1 bo),cR.q (k5 0 eX),cR.q (cw fun hd E' L' aE ao=>eI (fv (ad (aE _ _ rfl)) fQ)),cR.q (e1 (aQ Eb)),?_,?_,?_,?_,trivial⟩ fun fl=> ?_
  ·intro hd E' L' aE ao dB
   refine bj (hj ((aK.id ep).comp Dl) (r:=cS.jC) bo (ad (aE _ _ rfl)) (gn (n:=5) (dB.trans rfl) (lp gD) rfl) rfl rfl) ?_
   refine ai.nil ?_
   exact ab.fin (eh []) rfl rfl
  ·intro hd E' L' aE ao dB
   refine ai.store (i:=2) (aK.id Int) (v:=(aj:Int)) (b':=(aj:Int)) bo (ad (aE _ _ rfl)) (ad (aE _ _ rfl)) (ao 2 _ rfl rfl) rfl rfl ?_
   refine ai.nil ?_
   exact ab.fin (eh []) rfl rfl
  ·intro hd E' L' aE ao dB
   refine ai.store (i:=3) (aK.id Int) (v:=(cS.jC:Int)) (b':=(cS.jC:Int)) bo (ad (aE _ _ rfl)) (ad (aE _ _ rfl)) (ao 3 _ rfl rfl) rfl rfl ?_
   refine ai.nil ?_
   exact ab.fin (eh []) rfl rfl
  ·intro hd E' L' aE ao dB
   refine ai.store (i:=4) (aK.id Bool) (v:=(true:Bool)) (b':=(true:Bool)) fk (ad (aE _ _ rfl)) (fD true) (ao 4 _ rfl rfl) rfl rfl ?_
   refine ai.nil ?_
   exact ab.fin (eh []) rfl rfl
  refine ab.en (L2:=(⟨some b6,.var (J:Ref)⟩ :: ⟨some hr,.var (aj:Int)⟩ :: ⟨some tk,.var (aj:Int)⟩ :: ⟨some tl,.var (cS.jC:Int)⟩ :: ⟨some tm,.var (true:Bool)⟩ :: a3 hp)) rfl ?_
  refine jF [0,1,2,3,4,5,6,7,8,9,10,11,12,13,14,15,16,17] ?_
  obtain rfl:=aH h
  exact df 0 (hm ())
 ·have h:=gJ ar cz
  refine ag.skip ?_
  obtain rfl:=aH h
  exact df 0 (hm ())
theorem Ny {aj:Vector al 4} {GS:Option Addr} {r:(Vector al 4)} (h:C2 aj=some r):bE Tryz.prog 271 [I.eq (.pointer GS),I.of (aj)] (I.gE 277 [I.rY (I.eq (.pointer GS)),I.ptr r]):=by
 unfold C2 at h
 refine bE.of Tryz.func271 rfl Tryz.ntmps271 rfl fun W A=> ?_
 refine aA ?_
 refine ai.Ui (ad rfl) QZ rfl ?_
 refine b8 fun a0=> ?_
 refine bj (eW (Ex .nilFunc)) ?_
 refine b2 ?_
 refine ai.share (α:=Vector al 4) 0 3 rfl rfl ?_
 refine bj (KH (f:=277) (τs:= [I.rY (I.eq (.pointer GS)),I.ptr aj]) ⟨ad rfl,ad rfl,trivial⟩) ?_
 refine aM ?_
 refine aI ?_
 refine ag.ret ?_
 obtain rfl:=aH h
 exact cv
theorem HK {J:al} {aj:al} {r:Int} (h:uu J aj=some r):bE Tryz.prog 137 [I.of (J),I.of (aj)] (I.of (r)):=by
 unfold uu at h
 refine bE.of Tryz.func137 rfl Tryz.ntmps137 rfl fun W A=> ?_
 refine aA ?_
 refine b8 fun aR=> ?_
 refine b8 fun a0=> ?_
 refine aM ?_
 refine bK ?_
 refine ag.block ?_
 refine aA ?_
 refine cm 1 bV ?_
 refine cm 0 bV ?_
 refine bd (sN lS rfl o6 rfl) ?_
 refine aM ?_
 refine aI ?_
 refine b4 h (fun h=>?_) fun h=>?_
 ·refine aA ?_
  refine aM ?_
  refine aI ?_
  refine ag.ret ?_
  refine ab.c5 ?_
  refine ab.ret ?_
  obtain rfl:=aH h
  exact cv
 ·refine aA ?_
  refine aT (aQ jw) ?_
  refine bL 1 hA ek ?_
  refine aT (aQ jw) ?_
  refine bL 0 hA ek ?_
  refine bd JB ?_
  refine aB ?_
  refine dK (aQ jw) ?_
  refine ea (fun hb=>dP (i:=1) ((aK.id al).comp hA) (r:=J.dt) ek (b3 rfl hb) rfl rfl rfl) ?_
  refine dK (aQ jw) ?_
  refine ea (fun hb=>dP (i:=0) ((aK.id al).comp hA) (r:=aj.dt) ek (b3 rfl hb) rfl rfl rfl) ?_
  refine iW uY ?_
  refine dK cU ?_
  refine ai.gg (fun hb=>aQ hS (ad rfl)) rfl rfl rfl rfl rfl ?_
  refine ai.gg (fun hb=>dP (i:=1) ((aK.id al).comp ec) (r:=J.bS) ek (b3 rfl hb) rfl rfl rfl) rfl rfl rfl rfl rfl ?_
  refine ai.gg (fun hb=>aQ hS (ad rfl)) rfl rfl rfl rfl rfl ?_
  refine ai.gg (fun hb=>dP (i:=0) ((aK.id al).comp ec) (r:=aj.bS) ek (b3 rfl hb) rfl rfl rfl) rfl rfl rfl rfl rfl ?_
  refine ai.gg (fun hb=>JB (b3 rfl hb) (b3 rfl hb)) rfl rfl rfl rfl rfl ?_
  refine ea (fun hb=>mE (b3 rfl hb) (ad rfl) (fun h=>⟨hb,h⟩)) ?_
  obtain⟨bg,dd,h⟩:=ay h
  refine dp dd (rz (ad rfl) (ad rfl) (fun h=>h)) ?_
  refine aM ?_
  refine aI ?_
  refine b4 h (fun h=>?_) fun h=>?_
  ·refine aA ?_
   refine aM ?_
   refine aI ?_
   refine ag.ret ?_
   refine ab.c5 ?_
   refine ab.ret ?_
   obtain rfl:=aH h
   exact cv
  ·refine ag.skip ?_
   refine ab.dz ?_
   refine ab.next ?_
   refine aA ?_
   refine aM ?_
   refine aI ?_
   refine ag.ret ?_
   obtain rfl:=aH h
   exact cv
end Go.Proofs.YtmnggbjcnoffeaaGreat
namespace Go.Proofs.YtmnggbjcnoffeaaGreat
open Go Gv
set_option linter.unusedVariables false
set_option linter.unusedSimpArgs false
set_option maxRecDepth 100000
set_option maxHeartbeats 2000000
theorem Ie {J:aY} {r:(Vector (List Int) 6)} (h:uP J=some r):bE Tryz.prog 142 [I.of (J)] (I.of (r)):=by
 unfold uP at h
 refine bE.of Tryz.func142 rfl Tryz.ntmps142 rfl fun W A=> ?_
 refine aA ?_
 refine b8 fun aR=> ?_
 refine cM KO fun a0=> ?_
 refine b2 ?_
 refine ai.o3 (z:=(default:Vector (List Int) 6)) [0,1,2,3,4,5] Oe KO rfl fun bF=> ?_
 refine ai.own (α:=Int) 3 ?_
 refine ai.own (α:=Int) 3 ?_
 refine ai.own (α:=Int) 3 ?_
 refine ai.own (α:=Int) 3 ?_
 refine ai.own (α:=Int) 3 ?_
 refine ai.own (α:=Int) 3 ?_
 refine bK ?_
 refine aA ?_
 refine aT (aQ sE) ?_
 refine bL 8 r7 rv ?_
 refine aT (ej Tryz.underlying24) ?_
 refine aB ?_
 refine aI ?_
 refine ag.block ?_
 obtain⟨av,an,h⟩:=ay h
 refine gj (γ:=(Option Nat × Nat)) (δ:=(Option Nat × Nat)) an [0,1,2,3,17,18] (fun s1 aw=> [(19,I.of (s1.1))]) (fun s1 aw=> [(5,⟨aw.1,.row 3 (s1.2.1:List Int) aw.2⟩),(6,⟨some bF,.cg (s1.2.2:Vector (List Int) 6) [(0,aV aw.1 s1.2.1.length aw.2),(1,aV none ([]:List Int).length 0),(2,aV none ([]:List Int).length 0),(3,aV none ([]:List Int).length 0),(4,aV none ([]:List Int).length 0),(5,aV none ([]:List Int).length 0)]⟩)]) (fun az=>Exit.exit 0) (fun az aw=> [(19,I.of (az.1)),(20,I.of (az.2.1))]) (fun az aw=> [(5,⟨aw.1,.row 3 (az.2.2.1:List Int) aw.2⟩),(6,⟨some bF,.cg (az.2.2.2:Vector (List Int) 6) [(0,aV aw.1 az.2.2.1.length aw.2),(1,aV none ([]:List Int).length 0),(2,aV none ([]:List Int).length 0),(3,aV none ([]:List Int).length 0),(4,aV none ([]:List Int).length 0),(5,aV none ([]:List Int).length 0)]⟩)]) (none,0) (fun s1 r h aw=> ?_) fun aw=> ?_
 ·clear an
  refine aA ?_
  refine bd dJ ?_
  refine bK ?_
  refine b4 h (fun h=>?_) fun h=>?_
  ·refine cP ?_
   refine ag.seq ?_
   refine ag.block ?_
   refine aA ?_
   obtain⟨aW,cc,h⟩:=ay h
   refine gk cc Tryz.underlying24 nJ ?_
   refine aT (c7 nJ) ?_
   refine cM nK fun cA=> ?_
   refine ck 0 nJ ?_
   refine aI ?_
   refine ag.cj ?_
   refine bj (fj (k:=0) nL (ad rfl) (bD 0) ⟨by decide,rfl⟩) ?_
   refine bj (iO (i:=7) (q:=0) (β:=Vector (List Int) 6) (γ:=Int) kI (ad rfl) rfl rfl) ?_
   refine aT (aQ D6) ?_
   refine bL 0 nz bo ?_
   refine gx [(aF J.e3 aW).bG] Tryz.underlying63 bo g4 ?_
   obtain⟨ak,bt,h⟩:=ay h
   refine j2 6 Tryz.underlying63 bo g4 bt fun gR fH=> ?_
   refine bj (fj (k:=0) nL (ad rfl) (bD 0) ⟨by decide,rfl⟩) ?_
   refine ai.jf (i:=7) (γ:=Int) (b':=(c2 s1.2.2 0 []:Vector (List Int) 6)) (os':= [(0,aV gR ak.length fH),(1,aV none ([]:List Int).length 0),(2,aV none ([]:List Int).length 0),(3,aV none ([]:List Int).length 0),(4,aV none ([]:List Int).length 0),(5,aV none ([]:List Int).length 0)]) ((aK.id (Vector (List Int) 6)).comp (aK.idx (α:=List Int) 6 0 (by decide))) kI (ad rfl) (ad rfl) ic rfl rfl rfl rfl ?_
   refine ai.nil ?_
   refine ab.dz ?_
   refine ab.next ?_
   refine ag.cj ?_
   refine bd c8 ?_
   refine aB ?_
   refine ai.nil ?_
   obtain rfl:=aH h
   exact fe (gR,fH) 1
  ·refine ag.exit ?_
   refine ab.exit ?_
   obtain rfl:=aH h
   exact dE (aw.1,aw.2) 0
 ·clear an
  refine ab.e4 ?_
  refine ab.next ?_
  refine ag.seq ?_
  refine aA ?_
  refine aT (aQ Kb) ?_
  refine bL 8 Ho Fp ?_
  refine aT (ej Tryz.underlying25) ?_
  refine aB ?_
  refine aI ?_
  refine ag.block ?_
  obtain⟨aX,an,h⟩:=ay h
  refine gj (γ:=(Option Nat × Nat)) (δ:=(Option Nat × Nat)) an [0,1,2,3,17,18,19,20,32,33] (fun s2 a5=> [(34,I.of (s2.1))]) (fun s2 a5=> [(4,⟨a5.1,.row 3 (s2.2.1:List Int) a5.2⟩),(6,⟨some bF,.cg (s2.2.2:Vector (List Int) 6) [(0,aV aw.1 av.2.2.1.length aw.2),(1,aV a5.1 s2.2.1.length a5.2),(2,aV none ([]:List Int).length 0),(3,aV none ([]:List Int).length 0),(4,aV none ([]:List Int).length 0),(5,aV none ([]:List Int).length 0)]⟩)]) (fun c6=>Exit.exit 2) (fun c6 a5=> [(34,I.of (c6.1)),(35,I.of (c6.2.1))]) (fun c6 a5=> [(4,⟨a5.1,.row 3 (c6.2.2.1:List Int) a5.2⟩),(6,⟨some bF,.cg (c6.2.2.2:Vector (List Int) 6) [(0,aV aw.1 av.2.2.1.length aw.2),(1,aV a5.1 c6.2.2.1.length a5.2),(2,aV none ([]:List Int).length 0),(3,aV none ([]:List Int).length 0),(4,aV none ([]:List Int).length 0),(5,aV none ([]:List Int).length 0)]⟩)]) (none,0) (fun s2 r h a5=> ?_) fun a5=> ?_
  ·clear an
   refine aA ?_
   refine bd dJ ?_
   refine bK ?_
   refine b4 h (fun h=>?_) fun h=>?_
   ·refine cP ?_
    refine ag.seq ?_
    refine ag.block ?_
    refine aA ?_
    obtain⟨bR,cN,h⟩:=ay h
    refine gk cN Tryz.underlying25 BE ?_
    refine aT (c7 BE) ?_
    refine cM yr fun hW=> ?_
    refine ck 0 BE ?_
    refine aI ?_
    refine ag.cj ?_
    refine bj (fj (k:=1) nL (ad rfl) (bD 1) ⟨by decide,rfl⟩) ?_
    refine bj (iO (i:=7) (q:=1) (β:=Vector (List Int) 6) (γ:=Int) kI (ad rfl) rfl rfl) ?_
    refine aT (aQ Q0) ?_
    refine bL 0 AR bo ?_
    refine gx [(aF J.kQ bR).bG] Tryz.underlying63 bo g4 ?_
    obtain⟨aO,cq,h⟩:=ay h
    refine j2 5 Tryz.underlying63 bo g4 cq fun kH mN=> ?_
    refine bj (fj (k:=1) nL (ad rfl) (bD 1) ⟨by decide,rfl⟩) ?_
    refine ai.jf (i:=7) (γ:=Int) (b':=(c2 s2.2.2 1 []:Vector (List Int) 6)) (os':= [(0,aV aw.1 av.2.2.1.length aw.2),(1,aV kH aO.length mN),(2,aV none ([]:List Int).length 0),(3,aV none ([]:List Int).length 0),(4,aV none ([]:List Int).length 0),(5,aV none ([]:List Int).length 0)]) ((aK.id (Vector (List Int) 6)).comp (aK.idx (α:=List Int) 6 1 (by decide))) kI (ad rfl) (ad rfl) ic rfl rfl rfl rfl ?_
    refine ai.nil ?_
    refine ab.dz ?_
    refine ab.next ?_
    refine ag.cj ?_
    refine bd c8 ?_
    refine aB ?_
    refine ai.nil ?_
    obtain rfl:=aH h
    exact fe (kH,mN) 1
   ·refine ag.exit ?_
    refine ab.exit ?_
    obtain rfl:=aH h
    exact dE (a5.1,a5.2) 0
  ·clear an
   refine ab.e4 ?_
   refine ab.next ?_
   refine ag.seq ?_
   refine aA ?_
   refine aT (aQ Kc) ?_
   refine bL 8 Hq Fq ?_
   refine aT (ej Tryz.underlying26) ?_
   refine aB ?_
   refine aI ?_
   refine ag.block ?_
   obtain⟨dk,an,h⟩:=ay h
   refine gj (γ:=(Option Nat × Nat)) (δ:=(Option Nat × Nat)) an [0,1,2,3,17,18,19,20,32,33,34,35,47,48] (fun ky bA=> [(49,I.of (ky.1))]) (fun ky bA=> [(3,⟨bA.1,.row 3 (ky.2.1:List Int) bA.2⟩),(6,⟨some bF,.cg (ky.2.2:Vector (List Int) 6) [(0,aV aw.1 av.2.2.1.length aw.2),(1,aV a5.1 aX.2.2.1.length a5.2),(2,aV bA.1 ky.2.1.length bA.2),(3,aV none ([]:List Int).length 0),(4,aV none ([]:List Int).length 0),(5,aV none ([]:List Int).length 0)]⟩)]) (fun e6=>Exit.exit 4) (fun e6 bA=> [(49,I.of (e6.1)),(50,I.of (e6.2.1))]) (fun e6 bA=> [(3,⟨bA.1,.row 3 (e6.2.2.1:List Int) bA.2⟩),(6,⟨some bF,.cg (e6.2.2.2:Vector (List Int) 6) [(0,aV aw.1 av.2.2.1.length aw.2),(1,aV a5.1 aX.2.2.1.length a5.2),(2,aV bA.1 e6.2.2.1.length bA.2),(3,aV none ([]:List Int).length 0),(4,aV none ([]:List Int).length 0),(5,aV none ([]:List Int).length 0)]⟩)]) (none,0) (fun ky r h bA=> ?_) fun bA=> ?_
   ·clear an
    refine aA ?_
    refine bd dJ ?_
    refine bK ?_
    refine b4 h (fun h=>?_) fun h=>?_
    ·refine cP ?_
     refine ag.seq ?_
     refine ag.block ?_
     refine aA ?_
     obtain⟨dj,gp,h⟩:=ay h
     refine gk gp Tryz.underlying26 o9 ?_
     refine aT (c7 o9) ?_
     refine cM rk fun j8=> ?_
     refine ck 0 o9 ?_
     refine aI ?_
     refine ag.cj ?_
     refine bj (fj (k:=2) nL (ad rfl) (bD 2) ⟨by decide,rfl⟩) ?_
     refine bj (iO (i:=7) (q:=2) (β:=Vector (List Int) 6) (γ:=Int) kI (ad rfl) rfl rfl) ?_
     refine aT (aQ Q1) ?_
     refine bL 0 AX bo ?_
     refine gx [(aF J.ln dj).bG] Tryz.underlying63 bo g4 ?_
     obtain⟨bc,fb,h⟩:=ay h
     refine j2 4 Tryz.underlying63 bo g4 fb fun ly nS=> ?_
     refine bj (fj (k:=2) nL (ad rfl) (bD 2) ⟨by decide,rfl⟩) ?_
     refine ai.jf (i:=7) (γ:=Int) (b':=(c2 ky.2.2 2 []:Vector (List Int) 6)) (os':= [(0,aV aw.1 av.2.2.1.length aw.2),(1,aV a5.1 aX.2.2.1.length a5.2),(2,aV ly bc.length nS),(3,aV none ([]:List Int).length 0),(4,aV none ([]:List Int).length 0),(5,aV none ([]:List Int).length 0)]) ((aK.id (Vector (List Int) 6)).comp (aK.idx (α:=List Int) 6 2 (by decide))) kI (ad rfl) (ad rfl) ic rfl rfl rfl rfl ?_
     refine ai.nil ?_
     refine ab.dz ?_
     refine ab.next ?_
     refine ag.cj ?_
     refine bd c8 ?_
     refine aB ?_
     refine ai.nil ?_
     obtain rfl:=aH h
     exact fe (ly,nS) 1
    ·refine ag.exit ?_
     refine ab.exit ?_
     obtain rfl:=aH h
     exact dE (bA.1,bA.2) 0
   ·clear an
    refine ab.e4 ?_
    refine ab.next ?_
    refine ag.seq ?_
    refine aA ?_
    refine aT (aQ EA) ?_
    refine bL 8 C1 BW ?_
    refine aT (ej Tryz.underlying27) ?_
    refine aB ?_
    refine aI ?_
    refine ag.block ?_
    obtain⟨gz,an,h⟩:=ay h
    refine gj (γ:=(Option Nat × Nat)) (δ:=(Option Nat × Nat)) an [0,1,2,3,17,18,19,20,32,33,34,35,47,48,49,50,62,63] (fun lg cD=> [(64,I.of (lg.1))]) (fun lg cD=> [(2,⟨cD.1,.row 3 (lg.2.1:List Int) cD.2⟩),(6,⟨some bF,.cg (lg.2.2:Vector (List Int) 6) [(0,aV aw.1 av.2.2.1.length aw.2),(1,aV a5.1 aX.2.2.1.length a5.2),(2,aV bA.1 dk.2.2.1.length bA.2),(3,aV cD.1 lg.2.1.length cD.2),(4,aV none ([]:List Int).length 0),(5,aV none ([]:List Int).length 0)]⟩)]) (fun h9=>Exit.exit 6) (fun h9 cD=> [(64,I.of (h9.1)),(65,I.of (h9.2.1))]) (fun h9 cD=> [(2,⟨cD.1,.row 3 (h9.2.2.1:List Int) cD.2⟩),(6,⟨some bF,.cg (h9.2.2.2:Vector (List Int) 6) [(0,aV aw.1 av.2.2.1.length aw.2),(1,aV a5.1 aX.2.2.1.length a5.2),(2,aV bA.1 dk.2.2.1.length bA.2),(3,aV cD.1 h9.2.2.1.length cD.2),(4,aV none ([]:List Int).length 0),(5,aV none ([]:List Int).length 0)]⟩)]) (none,0) (fun lg r h cD=> ?_) fun cD=> ?_
    ·clear an
     refine aA ?_
     refine bd dJ ?_
     refine bK ?_
     refine b4 h (fun h=>?_) fun h=>?_
     ·refine cP ?_
      refine ag.seq ?_
      refine ag.block ?_
      refine aA ?_
      obtain⟨hM,jE,h⟩:=ay h
      refine gk jE Tryz.underlying27 mF ?_
      refine aT (c7 mF) ?_
      refine cM oh fun qF=> ?_
      refine ck 0 mF ?_
      refine aI ?_
      refine ag.cj ?_
      refine bj (fj (k:=3) nL (ad rfl) (bD 3) ⟨by decide,rfl⟩) ?_
      refine bj (iO (i:=7) (q:=3) (β:=Vector (List Int) 6) (γ:=Int) kI (ad rfl) rfl rfl) ?_
      refine aT (aQ Jz) ?_
      refine bL 0 qQ bo ?_
      refine gx [(aF J.c4 hM).bG] Tryz.underlying63 bo g4 ?_
      obtain⟨br,fY,h⟩:=ay h
      refine j2 3 Tryz.underlying63 bo g4 fY fun ot y1=> ?_
      refine bj (fj (k:=3) nL (ad rfl) (bD 3) ⟨by decide,rfl⟩) ?_
      refine ai.jf (i:=7) (γ:=Int) (b':=(c2 lg.2.2 3 []:Vector (List Int) 6)) (os':= [(0,aV aw.1 av.2.2.1.length aw.2),(1,aV a5.1 aX.2.2.1.length a5.2),(2,aV bA.1 dk.2.2.1.length bA.2),(3,aV ot br.length y1),(4,aV none ([]:List Int).length 0),(5,aV none ([]:List Int).length 0)]) ((aK.id (Vector (List Int) 6)).comp (aK.idx (α:=List Int) 6 3 (by decide))) kI (ad rfl) (ad rfl) ic rfl rfl rfl rfl ?_
      refine ai.nil ?_
      refine ab.dz ?_
      refine ab.next ?_
      refine ag.cj ?_
      refine bd c8 ?_
      refine aB ?_
      refine ai.nil ?_
      obtain rfl:=aH h
      exact fe (ot,y1) 1
     ·refine ag.exit ?_
      refine ab.exit ?_
      obtain rfl:=aH h
      exact dE (cD.1,cD.2) 0
    ·clear an
     refine ab.e4 ?_
     refine ab.next ?_
     refine ag.seq ?_
     refine aA ?_
     refine aT (aQ mB) ?_
     refine bL 8 mn lW ?_
     refine aT (ej Tryz.underlying28) ?_
     refine aB ?_
     refine aI ?_
     refine ag.block ?_
     obtain⟨hN,an,h⟩:=ay h
     refine gj (γ:=(Option Nat × Nat)) (δ:=(Option Nat × Nat)) an [0,1,2,3,17,18,19,20,32,33,34,35,47,48,49,50,62,63,64,65,77,78] (fun hf gW=> [(79,I.of (hf.1))]) (fun hf gW=> [(1,⟨gW.1,.row 3 (hf.2.1:List Int) gW.2⟩),(6,⟨some bF,.cg (hf.2.2:Vector (List Int) 6) [(0,aV aw.1 av.2.2.1.length aw.2),(1,aV a5.1 aX.2.2.1.length a5.2),(2,aV bA.1 dk.2.2.1.length bA.2),(3,aV cD.1 gz.2.2.1.length cD.2),(4,aV gW.1 hf.2.1.length gW.2),(5,aV none ([]:List Int).length 0)]⟩)]) (fun fZ=>Exit.exit 8) (fun fZ gW=> [(79,I.of (fZ.1)),(80,I.of (fZ.2.1))]) (fun fZ gW=> [(1,⟨gW.1,.row 3 (fZ.2.2.1:List Int) gW.2⟩),(6,⟨some bF,.cg (fZ.2.2.2:Vector (List Int) 6) [(0,aV aw.1 av.2.2.1.length aw.2),(1,aV a5.1 aX.2.2.1.length a5.2),(2,aV bA.1 dk.2.2.1.length bA.2),(3,aV cD.1 gz.2.2.1.length cD.2),(4,aV gW.1 fZ.2.2.1.length gW.2),(5,aV none ([]:List Int).length 0)]⟩)]) (none,0) (fun hf r h gW=> ?_) fun gW=> ?_
     ·clear an
      refine aA ?_
      refine bd dJ ?_
      refine bK ?_
      refine b4 h (fun h=>?_) fun h=>?_
      ·refine cP ?_
       refine ag.seq ?_
       refine ag.block ?_
       refine aA ?_
       obtain⟨qE,Cj,h⟩:=ay h
       refine gk Cj Tryz.underlying28 fG ?_
       refine aT (c7 fG) ?_
       refine cM kJ fun XG=> ?_
       refine ck 0 fG ?_
       refine aI ?_
       refine ag.cj ?_
       refine bj (fj (k:=4) nL (ad rfl) (bD 4) ⟨by decide,rfl⟩) ?_
       refine bj (iO (i:=7) (q:=4) (β:=Vector (List Int) 6) (γ:=Int) kI (ad rfl) rfl rfl) ?_
       refine aT (aQ sC) ?_
       refine bL 0 n4 bo ?_
       refine gx [(aF J.bQ qE).bG] Tryz.underlying63 bo g4 ?_
       obtain⟨cx,ih,h⟩:=ay h
       refine j2 2 Tryz.underlying63 bo g4 ih fun pg LJ=> ?_
       refine bj (fj (k:=4) nL (ad rfl) (bD 4) ⟨by decide,rfl⟩) ?_
       refine ai.jf (i:=7) (γ:=Int) (b':=(c2 hf.2.2 4 []:Vector (List Int) 6)) (os':= [(0,aV aw.1 av.2.2.1.length aw.2),(1,aV a5.1 aX.2.2.1.length a5.2),(2,aV bA.1 dk.2.2.1.length bA.2),(3,aV cD.1 gz.2.2.1.length cD.2),(4,aV pg cx.length LJ),(5,aV none ([]:List Int).length 0)]) ((aK.id (Vector (List Int) 6)).comp (aK.idx (α:=List Int) 6 4 (by decide))) kI (ad rfl) (ad rfl) ic rfl rfl rfl rfl ?_
       refine ai.nil ?_
       refine ab.dz ?_
       refine ab.next ?_
       refine ag.cj ?_
       refine bd c8 ?_
       refine aB ?_
       refine ai.nil ?_
       obtain rfl:=aH h
       exact fe (pg,LJ) 1
      ·refine ag.exit ?_
       refine ab.exit ?_
       obtain rfl:=aH h
       exact dE (gW.1,gW.2) 0
     ·clear an
      refine ab.e4 ?_
      refine ab.next ?_
      refine ag.seq ?_
      refine aA ?_
      refine aT (aQ Kd) ?_
      refine bL 8 Hr Fs ?_
      refine aT (ej Tryz.underlying30) ?_
      refine aB ?_
      refine aI ?_
      refine ag.block ?_
      obtain⟨jn,an,h⟩:=ay h
      refine gj (γ:=(Option Nat × Nat)) (δ:=(Option Nat × Nat)) an [0,1,2,3,17,18,19,20,32,33,34,35,47,48,49,50,62,63,64,65,77,78,79,80,92,93] (fun hX mg=> [(94,I.of (hX.1))]) (fun hX mg=> [(0,⟨mg.1,.row 3 (hX.2.1:List Int) mg.2⟩),(6,⟨some bF,.cg (hX.2.2:Vector (List Int) 6) [(0,aV aw.1 av.2.2.1.length aw.2),(1,aV a5.1 aX.2.2.1.length a5.2),(2,aV bA.1 dk.2.2.1.length bA.2),(3,aV cD.1 gz.2.2.1.length cD.2),(4,aV gW.1 hN.2.2.1.length gW.2),(5,aV mg.1 hX.2.1.length mg.2)]⟩)]) (fun gX=>Exit.exit 10) (fun gX mg=> [(94,I.of (gX.1)),(95,I.of (gX.2.1))]) (fun gX mg=> [(0,⟨mg.1,.row 3 (gX.2.2.1:List Int) mg.2⟩),(6,⟨some bF,.cg (gX.2.2.2:Vector (List Int) 6) [(0,aV aw.1 av.2.2.1.length aw.2),(1,aV a5.1 aX.2.2.1.length a5.2),(2,aV bA.1 dk.2.2.1.length bA.2),(3,aV cD.1 gz.2.2.1.length cD.2),(4,aV gW.1 hN.2.2.1.length gW.2),(5,aV mg.1 gX.2.2.1.length mg.2)]⟩)]) (none,0) (fun hX r h mg=> ?_) fun mg=> ?_
      ·clear an
       refine aA ?_
       refine bd dJ ?_
       refine bK ?_
       refine b4 h (fun h=>?_) fun h=>?_
       ·refine cP ?_
        refine ag.seq ?_
        refine ag.block ?_
        refine aA ?_
        obtain⟨rX,Ck,h⟩:=ay h
        refine gk Ck Tryz.underlying30 pa ?_
        refine aT (c7 pa) ?_
        refine cM rl fun XH=> ?_
        refine ck 0 pa ?_
        refine aI ?_
        refine ag.cj ?_
        refine bj (fj (k:=5) nL (ad rfl) (bD 5) ⟨by decide,rfl⟩) ?_
        refine bj (iO (i:=7) (q:=5) (β:=Vector (List Int) 6) (γ:=Int) kI (ad rfl) rfl rfl) ?_
        refine aT (aQ Q2) ?_
        refine bL 0 AY bo ?_
        refine gx [(aF J.iP rX).bG] Tryz.underlying63 bo g4 ?_
        obtain⟨dr,jG,h⟩:=ay h
        refine j2 1 Tryz.underlying63 bo g4 jG fun y2 LK=> ?_
        refine bj (fj (k:=5) nL (ad rfl) (bD 5) ⟨by decide,rfl⟩) ?_
        refine ai.jf (i:=7) (γ:=Int) (b':=(c2 hX.2.2 5 []:Vector (List Int) 6)) (os':= [(0,aV aw.1 av.2.2.1.length aw.2),(1,aV a5.1 aX.2.2.1.length a5.2),(2,aV bA.1 dk.2.2.1.length bA.2),(3,aV cD.1 gz.2.2.1.length cD.2),(4,aV gW.1 hN.2.2.1.length gW.2),(5,aV y2 dr.length LK)]) ((aK.id (Vector (List Int) 6)).comp (aK.idx (α:=List Int) 6 5 (by decide))) kI (ad rfl) (ad rfl) ic rfl rfl rfl rfl ?_
        refine ai.nil ?_
        refine ab.dz ?_
        refine ab.next ?_
        refine ag.cj ?_
        refine bd c8 ?_
        refine aB ?_
        refine ai.nil ?_
        obtain rfl:=aH h
        exact fe (y2,LK) 1
       ·refine ag.exit ?_
        refine ab.exit ?_
        obtain rfl:=aH h
        exact dE (mg.1,mg.2) 0
      ·clear an
       refine ab.e4 ?_
       refine ab.next ?_
       refine aA ?_
       refine ai.iA (β:=Vector (List Int) 6) (γ:=Int) (b':=(c2 jn.2.2.2 0 av.2.2.1:Vector (List Int) 6)) ((aK.id (Vector (List Int) 6)).comp (aK.idx (α:=List Int) 6 0 (by decide))) 6 5 0 rfl rfl rfl rfl rfl rfl ?_
       refine ai.iA (β:=Vector (List Int) 6) (γ:=Int) (b':=(c2 (c2 jn.2.2.2 0 av.2.2.1) 1 aX.2.2.1:Vector (List Int) 6)) ((aK.id (Vector (List Int) 6)).comp (aK.idx (α:=List Int) 6 1 (by decide))) 6 4 0 rfl rfl rfl rfl rfl rfl ?_
       refine ai.iA (β:=Vector (List Int) 6) (γ:=Int) (b':=(c2 (c2 (c2 jn.2.2.2 0 av.2.2.1) 1 aX.2.2.1) 2 dk.2.2.1:Vector (List Int) 6)) ((aK.id (Vector (List Int) 6)).comp (aK.idx (α:=List Int) 6 2 (by decide))) 6 3 0 rfl rfl rfl rfl rfl rfl ?_
       refine ai.iA (β:=Vector (List Int) 6) (γ:=Int) (b':=(c2 (c2 (c2 (c2 jn.2.2.2 0 av.2.2.1) 1 aX.2.2.1) 2 dk.2.2.1) 3 gz.2.2.1:Vector (List Int) 6)) ((aK.id (Vector (List Int) 6)).comp (aK.idx (α:=List Int) 6 3 (by decide))) 6 2 0 rfl rfl rfl rfl rfl rfl ?_
       refine ai.iA (β:=Vector (List Int) 6) (γ:=Int) (b':=(c2 (c2 (c2 (c2 (c2 jn.2.2.2 0 av.2.2.1) 1 aX.2.2.1) 2 dk.2.2.1) 3 gz.2.2.1) 4 hN.2.2.1:Vector (List Int) 6)) ((aK.id (Vector (List Int) 6)).comp (aK.idx (α:=List Int) 6 4 (by decide))) 6 1 0 rfl rfl rfl rfl rfl rfl ?_
       refine ai.iA (β:=Vector (List Int) 6) (γ:=Int) (b':=(c2 (c2 (c2 (c2 (c2 (c2 jn.2.2.2 0 av.2.2.1) 1 aX.2.2.1) 2 dk.2.2.1) 3 gz.2.2.1) 4 hN.2.2.1) 5 jn.2.2.1:Vector (List Int) 6)) ((aK.id (Vector (List Int) 6)).comp (aK.idx (α:=List Int) 6 5 (by decide))) 6 0 0 rfl rfl rfl rfl rfl rfl ?_
       refine ai.nM 6 rfl ?_
       obtain⟨bg,dd,h⟩:=ay h
       refine dp dd (dP (i:=6) (aK.id (Vector (List Int) 6)) (r:=(c2 (c2 (c2 (c2 (c2 (c2 jn.2.2.2 0 av.2.2.1) 1 aX.2.2.1) 2 dk.2.2.1) 3 gz.2.2.1) 4 hN.2.2.1) 5 jn.2.2.1)) EY (ad rfl) rfl rfl rfl) ?_
       refine ck 7 EY ?_
       refine aI ?_
       refine ag.ret ?_
       obtain rfl:=aH h
       exact ab.iT rfl (hc 7 EY)
end Go.Proofs.YtmnggbjcnoffeaaGreat
namespace Go.Proofs.YtmnggbjcnoffeaaGreat
open Go Gv
set_option linter.unusedVariables false
set_option linter.unusedSimpArgs false
set_option maxRecDepth 100000
set_option maxHeartbeats 2000000
theorem HW {J:List Int} {aj:Int} {r:Int} (h:uI J aj=some r):bE Tryz.prog 141 [I.of (J),I.of (aj)] (I.of (r)):=by
 unfold uI at h
 refine bE.of Tryz.func141 rfl Tryz.ntmps141 rfl fun W A=> ?_
 refine aA ?_
 refine aM ?_
 refine bK ?_
 refine aA ?_
 refine aB ?_
 refine aT (ej Tryz.underlying63) ?_
 refine aB ?_
 refine aI ?_
 refine ag.block ?_
 obtain⟨av,an,h⟩:=ay h
 refine gj (γ:=Unit) (δ:=Unit) an [0,1,7,8] (fun s1 aw=> [(4,I.of (0:Int)),(9,I.of (s1))]) (fun s1 aw=> []) (fun az=>Sum.elim (fun az=>Exit.exit 0) (fun az=>Exit.ret) az) (fun az aw=>Sum.elim (fun az=> [(4,I.of (0:Int)),(9,I.of (az.1)),(10,I.of (az.2))]) (fun az=> [(4,I.of (az.1)),(5,I.of (az.2.1)),(6,I.of (az.2.2.1)),(9,I.of (az.2.2.2.1)),(10,I.of (az.2.2.2.2.1)),(16,I.of (az.2.2.2.2.2))]) az) (fun az aw=>Sum.elim (fun az=> []) (fun az=> []) az) () (fun s1 r h aw=> ?_) fun aw=> ?_
 ·clear an
  refine aA ?_
  refine bd dJ ?_
  refine bK ?_
  refine b4 h (fun h=>?_) fun h=>?_
  ·refine cP ?_
   refine ag.seq ?_
   refine ag.block ?_
   refine aA ?_
   refine aB ?_
   obtain⟨aW,cc,h⟩:=ay h
   refine gk cc Tryz.underlying63 bo ?_
   refine aT (c7 bo) ?_
   refine aM ?_
   refine aM ?_
   refine b2 ?_
   refine aB ?_
   refine aB ?_
   refine bd fz ?_
   refine aI ?_
   refine b4 h (fun h=>?_) fun h=>?_
   ·refine aA ?_
    refine aB ?_
    refine aM ?_
    refine aI ?_
    refine ag.ret ?_
    refine ab.c5 ?_
    refine ab.ret ?_
    obtain rfl:=aH h
    exact dE () 0
   ·refine ag.skip ?_
    refine ab.dz ?_
    refine ab.next ?_
    refine ag.cj ?_
    refine bd c8 ?_
    refine aB ?_
    refine ai.nil ?_
    obtain rfl:=aH h
    exact fe () 0
  ·refine ag.exit ?_
   refine ab.exit ?_
   obtain rfl:=aH h
   exact dE () 0
 ·clear an
  rcases av with av | av
  ·simp only [Sum.elim_inl] at h
   refine ab.e4 ?_
   refine ab.next ?_
   refine aA ?_
   refine aM ?_
   refine aI ?_
   refine ag.ret ?_
   obtain rfl:=aH h
   exact cv
  ·simp only [Sum.elim_inr] at h
   refine ab.c5 ?_
   refine ab.ret ?_
   obtain rfl:=aH h
   exact cv
theorem uL {J:al} {r:(Vector Bool 128)} (h:oW J=some r):bE Tryz.prog 143 [I.of (J)] (I.of (r)):=by
 unfold oW at h
 refine bE.of Tryz.func143 rfl Tryz.ntmps143 rfl fun W A=> ?_
 refine aA ?_
 refine b8 fun aR=> ?_
 refine cM rm fun a0=> ?_
 refine b2 ?_
 refine cM rm fun bF=> ?_
 refine bK ?_
 refine aA ?_
 refine aM ?_
 refine aI ?_
 refine ag.block ?_
 obtain⟨av,an,h⟩:=ay h
 refine gj (γ:=Unit) (δ:=Unit) an [0,1,2,3] (fun s1 aw=> [(4,I.of (s1.1))]) (fun s1 aw=> [(0,⟨some bF,.var (s1.2:Vector Bool 128)⟩)]) (fun az=>Exit.exit 0) (fun az aw=> [(4,I.of (az.1)),(6,I.of (az.2.1))]) (fun az aw=> [(0,⟨some bF,.var (az.2.2:Vector Bool 128)⟩)]) () (fun s1 r h aw=> ?_) fun aw=> ?_
 ·clear an
  refine ag.seq ?_
  refine aA ?_
  refine aB ?_
  refine bd dJ ?_
  refine aI ?_
  refine b4 h (fun h=>?_) fun h=>?_
  ·refine cP ?_
   refine ag.seq ?_
   refine ag.block ?_
   obtain⟨aW,cc,h⟩:=ay h
   obtain⟨bg,dd,h⟩:=ay h
   refine ag.draw mixed 19 ((some 9) :: (some 10) :: (some 11) :: (some 12) :: (some 13) :: (some 14) :: (some 15) :: (some 16) :: (some 17) :: (some 18) :: (some 19) :: (some 20) :: (some 21) :: (some 22) :: (some 23) :: (some 24) :: (some 25) :: (some 26) :: none :: []) ([] :: [] :: [1] :: [] :: [3] :: [] :: [5] :: [4,6] :: [7] :: [8] :: [] :: [10] :: [] :: [12] :: [11,13] :: [14] :: [15] :: [0] :: [9,17] :: []) (.val _ :: .val _ :: .val _ :: .val _ :: .val _ :: .val _ :: .val _ :: .val _ :: .val _ :: .val _ :: .val _ :: .val _ :: .val _ :: .val _ :: .val _ :: .val _ :: .val _ :: .val _ :: .j1 0 (.var (bg:Vector Bool 128)) :: []) (false :: false :: false :: false :: false :: false :: false :: false :: false :: false :: false :: false :: false :: false :: false :: false :: false :: false :: true :: []) (by kernel_rfl) rfl rfl rfl (fun c1=>⟨c3,c3,iq c8,H1 (aQ hS),dI 2 ec ek,c3,H1 (h1 Tryz.underlying3 Tryz.underlying130),iq pM,e0 fun L' ao=>o1 (ad rfl) (fi 1 rfl),e0 fun L' ao=>uY (ad rfl) (fi 1 rfl),H1 (aQ jw),dI 2 hA ek,c3,H1 (h1 Tryz.underlying3 Tryz.underlying130),iq pM,e0 fun L' ao=>o1 (ad rfl) (fi 1 rfl),e0 fun L' ao=>uY (ad rfl) (fi 1 rfl),e0 fun L' ao=>fj (k:=aW) nN (ad rfl) (ad rfl) (cK cc),⟨_,_,rfl,fun L' ao=>sD (i:=0) ((aK.id (Vector Bool 128)).comp (aK.idx (α:=Bool) 128 aW (cK cc).1)) (v:=(((J.bS >>> (BitVec.ofInt 64 s1.1).toNat) &&& (1#64)) ==(1#64):Bool)) (b':=(bg:Vector Bool 128)) fk (ad rfl) (ad rfl) (ao _ _ rfl) rfl (aH dd)⟩,trivial⟩) fun c1=> ?_
   obtain⟨bR,cN,h⟩:=ay h
   refine bj (fj (k:=bR) nN (ad rfl) (ad rfl) (cK cN)) ?_
   obtain⟨dw,ha,h⟩:=ay h
   refine vS 0 ((aK.id (Vector Bool 128)).comp (aK.idx (α:=Bool) 128 bR (cK cN).1)) fk (hb:=by exact ha) ?_
   refine ai.nil ?_
   refine ab.dz ?_
   refine ab.next ?_
   refine ag.cj ?_
   refine aB ?_
   refine bd c8 ?_
   refine aM ?_
   refine ai.nil ?_
   obtain rfl:=aH h
   exact fe () 0
  ·refine ag.exit ?_
   refine ab.exit ?_
   obtain rfl:=aH h
   exact dE () 0
 ·clear an
  refine ab.e4 ?_
  refine ab.next ?_
  refine aA ?_
  refine cm 0 pb ?_
  refine ck 1 pb ?_
  refine aI ?_
  refine ag.ret ?_
  obtain rfl:=aH h
  exact ab.iT rfl (hc 1 pb)
theorem OW {J:Vector Bool 128} {r:al} (h:xw J=some r):bE Tryz.prog 175 [I.of (J)] (I.of (r)):=by
 unfold xw at h
 refine bE.of Tryz.func175 rfl Tryz.ntmps175 rfl fun W A=> ?_
 refine aA ?_
 refine b8 fun aR=> ?_
 refine cM et fun a0=> ?_
 refine b2 ?_
 refine cM et fun bF=> ?_
 refine bK ?_
 refine aA ?_
 refine aM ?_
 refine aI ?_
 refine ag.block ?_
 obtain⟨av,an,h⟩:=ay h
 refine gj (γ:=Unit) (δ:=Unit) an [0,1,2,3] (fun s1 aw=> [(4,I.of (s1.1))]) (fun s1 aw=> [(0,⟨some bF,.var (s1.2:al)⟩)]) (fun az=>Exit.exit 0) (fun az aw=> [(4,I.of (az.1)),(6,I.of (az.2.1))]) (fun az aw=> [(0,⟨some bF,.var (az.2.2:al)⟩)]) () (fun s1 r h aw=> ?_) fun aw=> ?_
 ·clear an
  refine ag.seq ?_
  refine aA ?_
  refine aB ?_
  refine bd dJ ?_
  refine aI ?_
  refine b4 h (fun h=>?_) fun h=>?_
  ·refine cP ?_
   refine ag.seq ?_
   refine ag.block ?_
   refine ag.seq ?_
   refine aA ?_
   refine aB ?_
   obtain⟨aW,cc,h⟩:=ay h
   refine bj (fj (k:=aW) nN (ad rfl) (ad rfl) (cK cc)) ?_
   refine bL 2 ((aK.id (Vector Bool 128)).comp (aK.idx (α:=Bool) 128 aW (cK cc).1)) fk ?_
   refine aI ?_
   obtain⟨bB,cz,h⟩:=ay h
   refine h5 (γ:=Unit) [0,1,2,3,4,6,11] (fun a5=> []) (fun a5=> [(0,⟨some bF,.var (bB:al)⟩)]) (fun a5=> ?_) (fun hm ar=> ?_) fun hm ar=> ?_
   ·clear cz
    refine ab.next ?_
    refine aA ?_
    refine aB ?_
    refine bd c8 ?_
    obtain⟨bR,cN,h⟩:=ay h
    refine bj (fj (k:=bR) nN (ad rfl) (ad rfl) (cK cN)) ?_
    refine bL 2 ((aK.id (Vector Bool 128)).comp (aK.idx (α:=Bool) 128 bR (cK cN).1)) fk ?_
    refine aI ?_
    obtain⟨cu,du,h⟩:=ay h
    refine h5 (γ:=Unit) [0,1,2,3,4,6,11,22] (fun bA=> []) (fun bA=> [(0,⟨some bF,.var (cu:al)⟩)]) (fun bA=> ?_) (fun hm ar=> ?_) fun hm ar=> ?_
    ·clear du
     refine ab.dz ?_
     refine ab.next ?_
     refine ag.cj ?_
     refine aB ?_
     refine bd c8 ?_
     refine aM ?_
     refine ai.nil ?_
     obtain rfl:=aH h
     exact fe () 0
    ·have h:=gI ar du
     refine ag.cj ?_
     refine aT (aQ jw) ?_
     refine bL 0 hA ek ?_
     refine aB ?_
     refine aT (h1 Tryz.underlying3 Tryz.underlying130) ?_
     refine bj (na (fi 1 rfl) (ad rfl)) ?_
     refine bd pR ?_
     refine aT (aQ jw) ?_
     obtain⟨bg,dd,h⟩:=ay h
     refine vS 0 hA ek (hb:=by exact dd) ?_
     refine ai.nil ?_
     obtain rfl:=aH h
     exact df 0 (hm ())
    ·have h:=gJ ar du
     refine ag.skip ?_
     obtain rfl:=aH h
     exact df 0 (hm ())
   ·have h:=gI ar cz
    refine ag.cj ?_
    refine aT (aQ hS) ?_
    refine bL 0 ec ek ?_
    refine aB ?_
    refine aT (h1 Tryz.underlying3 Tryz.underlying130) ?_
    refine bj (na (fi 1 rfl) (ad rfl)) ?_
    refine bd pR ?_
    refine aT (aQ hS) ?_
    obtain⟨dw,ha,h⟩:=ay h
    refine vS 0 ec ek (hb:=by exact ha) ?_
    refine ai.nil ?_
    obtain rfl:=aH h
    exact df 0 (hm ())
   ·have h:=gJ ar cz
    refine ag.skip ?_
    obtain rfl:=aH h
    exact df 0 (hm ())
  ·refine ag.exit ?_
   refine ab.exit ?_
   obtain rfl:=aH h
   exact dE () 0
 ·clear an
  refine ab.e4 ?_
  refine ab.next ?_
  refine aA ?_
  refine cm 0 bV ?_
  refine ck 1 bV ?_
  refine aI ?_
  refine ag.ret ?_
  obtain rfl:=aH h
  exact ab.iT rfl (hc 1 bV)
theorem uE {J:Int} {aj:Int} {r:Int} (h:oU J aj=some r):bE Tryz.prog 139 [I.of (J),I.of (aj)] (I.of (r)):=by
 unfold oU at h
 refine bE.of Tryz.func139 rfl Tryz.ntmps139 rfl fun W A=> ?_
 refine aA ?_
 refine aM ?_
 refine bK ?_
 refine ag.block ?_
 refine aA ?_
 refine aB ?_
 refine aB ?_
 refine bd dJ ?_
 refine aM ?_
 refine aI ?_
 refine b4 h (fun h=>?_) fun h=>?_
 ·refine aA ?_
  refine aM ?_
  refine aI ?_
  refine ag.ret ?_
  refine ab.c5 ?_
  refine ab.ret ?_
  obtain rfl:=aH h
  exact cv
 ·refine aA ?_
  refine aB ?_
  refine aB ?_
  refine bd ni ?_
  refine aM ?_
  refine aI ?_
  refine b4 h (fun h=>?_) fun h=>?_
  ·refine aA ?_
   refine aM ?_
   refine aI ?_
   refine ag.ret ?_
   refine ab.c5 ?_
   refine ab.ret ?_
   obtain rfl:=aH h
   exact cv
  ·refine ag.skip ?_
   refine ab.dz ?_
   refine ab.next ?_
   refine aA ?_
   refine aM ?_
   refine aI ?_
   refine ag.ret ?_
   obtain rfl:=aH h
   exact cv
theorem AS {hp:a1 Cell} {J:Ref} {r:Int} (h:qR hp J=some r):cf Tryz.prog 42 [I.of (J)] ([] ++ a3 hp) (δ:=Unit) (fun _=>I.of (r)) (fun _=> [] ++ a3 hp):=by
 unfold qR at h
 refine cf.of Tryz.func42 rfl Tryz.ntmps42 rfl fun W A=> ?_
 refine aA ?_
 refine aM ?_
 refine bK ?_
 refine aA ?_
 refine aB ?_
 refine bj (m9 Tryz.underlying37 (ad rfl)) ?_
 refine aI ?_
 refine b4 h (fun h=>?_) fun h=>?_
 ·refine aA ?_
  refine aM ?_
  refine aI ?_
  refine ag.ret ?_
  refine ab.ret ?_
  obtain rfl:=aH h
  exact ab.gv () (.refl _) rfl rfl (dV rfl)
 ·refine cP ?_
  refine aA ?_
  refine aB ?_
  obtain⟨cW,eA,h⟩:=ay h
  refine bj (eI (fv (ad rfl) eA)) ?_
  refine aT (aQ Q3) ?_
  obtain⟨cd,ff,h⟩:=ay h
  refine bj (hj ((aK.id gA).comp Hs) (r:=cd.oa) bo (ad rfl) (gn (n:=0) rfl (nc ff) rfl) rfl rfl) ?_
  refine aM ?_
  refine aI ?_
  refine ag.ret ?_
  obtain rfl:=aH h
  exact ab.gv () (.refl _) rfl rfl (dV rfl)
end Go.Proofs.YtmnggbjcnoffeaaGreat
namespace Go.Proofs.YtmnggbjcnoffeaaGreat
open Go Gv
set_option linter.unusedVariables false
set_option linter.unusedSimpArgs false
set_option maxRecDepth 100000
set_option maxHeartbeats 2000000
theorem N9 {hp:a1 Cell} {J:jR} {aj:aJ} {r:(a1 Cell)} (h:w6 hp J aj=some r):cf Tryz.prog 229 [I.of (J),I.of (aj)] ([] ++ a3 hp) (δ:=Unit) (fun d=>I.cG []) (fun d=> [] ++ a3 r):=by
 unfold w6 at h
 refine cf.of Tryz.func229 rfl Tryz.ntmps229 rfl fun W A=> ?_
 refine aA ?_
 refine b8 fun aR=> ?_
 refine b8 fun a0=> ?_
 refine aI ?_
 obtain⟨ak,bt,h⟩:=ay h
 refine ag.draw mixed 7 [some 4,some 5,some 6,some 7,some 8,some 9,some 10] [[],[0],[],[2],[3],[],[5]] [.val _,.val _,.val _,.val _,.val _,.val _,.val _] [false,false,false,false,false,false,false] (by kernel_rfl) rfl rfl rfl (fun c1=>⟨H1 (aQ D8),dI 1 AJ BC,H1 (aQ jx),dI 0 jd g9,fm EX (Dq bt),H1 (aQ mC),dI 0 lN bo,trivial⟩) fun c1=> ?_
 obtain⟨aO,cq,h⟩:=ay h
 refine ai.kj 2 0 rfl Sw (Od cq) rfl rfl ⟨ad rfl,ad rfl,ad rfl,trivial⟩ rfl fun az=> ?_
 refine ai.en (L2:=(⟨some a0,.var (aj:aJ)⟩ :: ⟨some aR,.var (J:jR)⟩ :: a3 aO.2)) rfl ?_
 refine ai.nil ?_
 refine ab.sZ ?_
 obtain rfl:=aH h
 exact ab.o8 () (.cons _ (.cons _ (.refl _))) rfl rfl
theorem NI {J:cF} {aj:Int} {r:Int} (h:wI J aj=some r):bE Tryz.prog 272 [I.ptr J,I.of (aj)] (I.of (r)):=by
 unfold wI at h
 refine bE.of Tryz.func272 rfl Tryz.ntmps272 rfl fun W A=> ?_
 refine aA ?_
 refine b8 fun aR=> ?_
 refine aM ?_
 refine bK ?_
 refine aA ?_
 refine aB ?_
 refine bj (Q4 Tryz.underlying170 (ad rfl)) ?_
 refine aI ?_
 refine ag.sO (ad rfl) rfl ?_
 refine cP ?_
 refine aA ?_
 refine aB ?_
 refine aT x3 ?_
 refine vV wV uZ ?_
 refine aT (c7 s0) ?_
 refine ai.share (α:=Int) 0 3 rfl rfl ?_
 refine bj (Ez (F:=(fun hF=>Ax hF aj)) (τs:= [I.ptr aj]) Sx ⟨ad rfl,trivial⟩ (fun _ _ h=>Nx h)) ?_
 obtain⟨ak,bt,h⟩:=ay h
 refine ev Sy (Nl bt) ?_
 refine aM ?_
 refine aI ?_
 refine ag.ret ?_
 obtain rfl:=aH h
 exact cv
theorem Dm {J:Int} {aj:Int} {r:Int} (h:sc J aj=some r):bE Tryz.prog 92 [I.of (J),I.of (aj)] (I.of (r)):=by
 unfold sc at h
 refine bE.of Tryz.func92 rfl Tryz.ntmps92 rfl fun W A=> ?_
 refine aA ?_
 refine aM ?_
 refine b2 ?_
 refine aB ?_
 obtain⟨ak,bt,h⟩:=ay h
 refine ev KP (HJ bt) ?_
 refine aM ?_
 refine b2 ?_
 refine aB ?_
 obtain⟨aO,cq,h⟩:=ay h
 refine ev KP (HJ cq) ?_
 refine aM ?_
 refine bK ?_
 refine aA ?_
 refine aB ?_
 refine aI ?_
 refine b4 h (fun h=>?_) fun h=>?_
 ·refine ag.seq ?_
  refine aA ?_
  refine aB ?_
  refine aI ?_
  refine b4 h (fun h=>?_) fun h=>?_
  ·refine aA ?_
   refine aM ?_
   refine aI ?_
   refine ag.ret ?_
   refine ab.ret ?_
   refine ab.ret ?_
   obtain rfl:=aH h
   exact cv
  ·refine cP ?_
   refine aA ?_
   refine aM ?_
   refine aI ?_
   refine ag.ret ?_
   refine ab.ret ?_
   obtain rfl:=aH h
   exact cv
 ·refine cP ?_
  refine ag.seq ?_
  refine aA ?_
  refine aB ?_
  refine aI ?_
  refine b4 h (fun h=>?_) fun h=>?_
  ·refine aA ?_
   refine aM ?_
   refine aI ?_
   refine ag.ret ?_
   refine ab.ret ?_
   obtain rfl:=aH h
   exact cv
  ·refine cP ?_
   refine ag.seq ?_
   refine aA ?_
   refine aB ?_
   refine aB ?_
   refine bd dJ ?_
   refine aI ?_
   refine b4 h (fun h=>?_) fun h=>?_
   ·refine aA ?_
    refine aM ?_
    refine aI ?_
    refine ag.ret ?_
    refine ab.ret ?_
    obtain rfl:=aH h
    exact cv
   ·refine cP ?_
    refine ag.seq ?_
    refine aA ?_
    refine aB ?_
    refine aB ?_
    refine bd ni ?_
    refine aI ?_
    refine b4 h (fun h=>?_) fun h=>?_
    ·refine aA ?_
     refine aM ?_
     refine aI ?_
     refine ag.ret ?_
     refine ab.ret ?_
     obtain rfl:=aH h
     exact cv
    ·refine cP ?_
     refine aA ?_
     refine aM ?_
     refine aI ?_
     refine ag.ret ?_
     obtain rfl:=aH h
     exact cv
theorem NJ {hp:a1 Cell} {J:jR} {aj:Vector al 4} {r:Int × Bool} (h:wJ hp J aj=some r):cf Tryz.prog 228 [I.of (J),I.of (aj)] ([] ++ a3 hp) (δ:=Unit) (fun _=>I.cG [I.of (r.1),I.of (r.2)]) (fun _=> [] ++ a3 hp):=by
 unfold wJ at h
 refine cf.of Tryz.func228 rfl Tryz.ntmps228 rfl fun W A=> ?_
 refine aA ?_
 refine b8 fun aR=> ?_
 refine b8 fun a0=> ?_
 refine aM ?_
 refine aM ?_
 refine b2 ?_
 refine aT (aQ D8) ?_
 refine bL 1 AJ BC ?_
 refine cm 0 g2 ?_
 obtain⟨ak,bt,h⟩:=ay h
 refine ai.lf (gO.lr 2 rfl KK (HC bt) ⟨ad rfl,ad rfl,trivial⟩) rfl rfl rfl ?_
 refine h6 ?_
 refine h6 ?_
 refine aM ?_
 refine aM ?_
 refine aI ?_
 refine ag.ret ?_
 obtain rfl:=aH h
 exact ab.kF () (.cons _ (.cons _ (.refl _))) rfl rfl (dV rfl) (dV rfl)
theorem O9 {J:al} {r:Int} (h:A4 J=some r):bE Tryz.prog 254 [I.of (J)] (I.of (r)):=by
 unfold A4 at h
 refine bE.of Tryz.func254 rfl Tryz.ntmps254 rfl fun W A=> ?_
 refine aA ?_
 refine b8 fun aR=> ?_
 refine aM ?_
 refine bK ?_
 refine aA ?_
 refine aT (aQ jw) ?_
 refine bL 0 hA ek ?_
 refine bj (JC (ad rfl) (fi 0 rfl)) ?_
 refine aI ?_
 refine b4 h (fun h=>?_) fun h=>?_
 ·refine aA ?_
  refine aT (aQ jw) ?_
  refine bL 0 hA ek ?_
  obtain⟨ak,bt,h⟩:=ay h
  refine ev KQ (HD bt) ?_
  refine bd c8 ?_
  refine aM ?_
  refine aI ?_
  refine ag.ret ?_
  refine ab.ret ?_
  obtain rfl:=aH h
  exact cv
 ·refine cP ?_
  refine aA ?_
  refine aT (aQ hS) ?_
  refine bL 0 ec ek ?_
  obtain⟨aO,cq,h⟩:=ay h
  refine ev KQ (HD cq) ?_
  refine aM ?_
  refine aI ?_
  refine ag.ret ?_
  obtain rfl:=aH h
  exact cv
theorem HL {J:aY} {aj:Int} {r:Int} (h:uv J aj=some r):bE Tryz.prog 106 [I.of (J),I.of (aj)] (I.of (r)):=by
 unfold uv at h
 refine bE.of Tryz.func106 rfl Tryz.ntmps106 rfl fun W A=> ?_
 refine aA ?_
 refine b8 fun aR=> ?_
 refine aM ?_
 refine b2 ?_
 refine cm 0 fs ?_
 obtain⟨ak,bt,h⟩:=ay h
 refine ev KR (Ie bt) ?_
 refine bj (JD (k:=4) Tryz.underlying248 kI (ad rfl) (bD 4) ⟨by decide,rfl⟩) ?_
 refine aB ?_
 obtain⟨aO,cq,h⟩:=ay h
 refine ev KS (HW cq) ?_
 refine aM ?_
 refine aI ?_
 refine ag.ret ?_
 obtain rfl:=aH h
 exact cv
theorem Om {J:aY} {aj:Int} {r:Int} (h:xd J aj=some r):bE Tryz.prog 124 [I.of (J),I.of (aj)] (I.of (r)):=by
 unfold xd at h
 refine bE.of Tryz.func124 rfl Tryz.ntmps124 rfl fun W A=> ?_
 refine aA ?_
 refine b8 fun aR=> ?_
 refine aM ?_
 refine b2 ?_
 refine cm 0 fs ?_
 obtain⟨ak,bt,h⟩:=ay h
 refine ev KR (Ie bt) ?_
 refine bj (JD (k:=0) Tryz.underlying248 kI (ad rfl) (bD 0) ⟨by decide,rfl⟩) ?_
 refine aB ?_
 obtain⟨aO,cq,h⟩:=ay h
 refine ev KS (HW cq) ?_
 refine aM ?_
 refine aI ?_
 refine ag.ret ?_
 obtain rfl:=aH h
 exact cv
theorem Pa {J:al} {aj:al} {r:al} (h:xC J aj=some r):bE Tryz.prog 144 [I.of (J),I.of (aj)] (I.of (r)):=by
 unfold xC at h
 refine bE.of Tryz.func144 rfl Tryz.ntmps144 rfl fun W A=> ?_
 refine aA ?_
 refine b8 fun aR=> ?_
 refine b8 fun a0=> ?_
 refine cM et fun bF=> ?_
 refine bK ?_
 obtain⟨ak,bt,h⟩:=ay h
 obtain⟨aO,cq,h⟩:=ay h
 refine ag.draw mixed 6 [some 8,some 9,some 10,some 11,some 5,some 6] [[],[0],[],[2],[],[]] [.val _,.val _,.val _,.val _,.new (.var (default:Vector Bool 128)),.new (.var (default:Vector Bool 128))] [false,false,false,false,false,false] (by kernel_rfl) rfl rfl rfl (fun c1=>⟨e5 2 bV,fm vn (uL bt),e5 1 bV,fm vn (uL cq),o0 rm,o0 rm,trivial⟩) fun c1=> ?_
 refine ck 0 pb ?_
 refine ck 1 pb ?_
 refine bK ?_
 refine aA ?_
 refine aB ?_
 refine aI ?_
 refine ag.block ?_
 obtain⟨av,an,h⟩:=ay h
 refine gj (γ:=Unit) (δ:=Unit) an [0,1,2,3,4,5,6] (fun s1 aw=> [(12,I.of (s1.1))]) (fun s1 aw=> [(0,⟨some (c1 4),.var (s1.2:Vector Bool 128)⟩)]) (fun az=>Exit.exit 0) (fun az aw=> [(12,I.of (az.1)),(13,I.of (az.2.1))]) (fun az aw=> [(0,⟨some (c1 4),.var (az.2.2:Vector Bool 128)⟩)]) () (fun s1 r h aw=> ?_) fun aw=> ?_
 ·clear an
  refine aA ?_
  refine bd dJ ?_
  refine bK ?_
  refine b4 h (fun h=>?_) fun h=>?_
  ·refine cP ?_
   refine ag.seq ?_
   refine ag.block ?_
   refine aA ?_
   refine aB ?_
   refine aM ?_
   refine aI ?_
   refine ag.cj ?_
   refine aB ?_
   refine aB ?_
   obtain⟨aW,cc,h⟩:=ay h
   refine bj (fj (k:=aW) nN (ad rfl) (ad rfl) (cK cc)) ?_
   refine bL 0 ((aK.id (Vector Bool 128)).comp (aK.idx (α:=Bool) 128 aW (cK cc).1)) fk ?_
   refine aB ?_
   refine dK cU ?_
   obtain⟨bR,cN,h⟩:=ay h
   refine ea (fun hb=>fj (k:=bR) nN (ad rfl) (b3 rfl hb) (cK (fC cN hb))) ?_
   refine ea (fun hb=>dP (i:=1) ((aK.id (Vector Bool 128)).comp (aK.idx (α:=Bool) 128 bR (cK (fC cN hb)).1)) (r:=bJ aO bR) fk (b3 rfl hb) rfl rfl rfl) ?_
   refine ig ?_
   obtain⟨dj,gp,h⟩:=ay h
   refine bj (fj (k:=dj) nN (ad rfl) (ad rfl) (cK gp)) ?_
   refine po 0 ((aK.id (Vector Bool 128)).comp (aK.idx (α:=Bool) 128 dj (cK gp).1)) fk ?_
   refine ai.nil ?_
   refine ab.dz ?_
   refine ab.next ?_
   refine ag.cj ?_
   refine bd c8 ?_
   refine aB ?_
   refine ai.nil ?_
   obtain rfl:=aH h
   exact fe () 0
  ·refine ag.exit ?_
   refine ab.exit ?_
   obtain rfl:=aH h
   exact dE () 0
 ·clear an
  refine ab.e4 ?_
  refine ab.next ?_
  refine aA ?_
  refine cm 0 pb ?_
  obtain⟨bc,fb,h⟩:=ay h
  refine ev Sz (OW fb) ?_
  refine ck 2 bV ?_
  refine aI ?_
  refine ag.ret ?_
  obtain rfl:=aH h
  exact ab.iT rfl (hc 2 bV)
end Go.Proofs.YtmnggbjcnoffeaaGreat
namespace Go.Proofs.YtmnggbjcnoffeaaGreat
open Go Gv
set_option linter.unusedVariables false
set_option linter.unusedSimpArgs false
set_option maxRecDepth 100000
set_option maxHeartbeats 2000000
theorem HX {J:aY} {aj:bu} {r:bN × Bool} (h:uJ J aj=some r):bE Tryz.prog 206 [I.of (J),I.of (aj)] (I.cG [I.of (r.1),I.of (r.2)]):=by
 unfold uJ at h
 refine bE.of Tryz.func206 rfl Tryz.ntmps206 rfl fun W A=> ?_
 refine aA ?_
 refine b8 fun aR=> ?_
 refine b8 fun a0=> ?_
 refine cM kJ fun bF=> ?_
 refine aM ?_
 refine b2 ?_
 refine cm 2 fs ?_
 refine aT (aQ sG) ?_
 refine bL 1 qP bo ?_
 obtain⟨ak,bt,h⟩:=ay h
 refine ev LL (HH bt) ?_
 refine aM ?_
 refine bK ?_
 refine aA ?_
 refine aB ?_
 refine bd dJ ?_
 refine aI ?_
 refine b4 h (fun h=>?_) fun h=>?_
 ·refine aA ?_
  refine ho y3 kJ (default:bN) .nil ?_
  refine ck 0 fG ?_
  refine aM ?_
  refine aI ?_
  refine ag.ret ?_
  refine ab.ret ?_
  obtain rfl:=aH h
  exact ab.y0 rfl (hc 0 fG) (ry rfl)
 ·refine cP ?_
  refine aA ?_
  refine aT (aQ mB) ?_
  refine bL 2 mn lW ?_
  refine aB ?_
  obtain⟨aW,cc,h⟩:=ay h
  refine gk cc Tryz.underlying28 fG ?_
  refine aT (c7 fG) ?_
  refine ck 0 fG ?_
  refine aM ?_
  refine aI ?_
  refine ag.ret ?_
  obtain rfl:=aH h
  exact ab.y0 rfl (hc 0 fG) (ry rfl)
theorem Hx {J:bk} {b6:Nat} {r:(Vector al 4) × bk} (h:ui J=some r):cf Tryz.prog 18 [I.eq (.pointer (some ⟨b6,0,none⟩))] [⟨some b6,.var (J:bk)⟩] (δ:=Unit) (fun d=>I.of (r.1)) (fun d=> [⟨some b6,.var (r.2:bk)⟩]):=by
 unfold ui at h
 refine cf.of Tryz.func18 rfl Tryz.ntmps18 rfl fun W A=> ?_
 refine aA ?_
 refine cM nR fun aR=> ?_
 refine b2 ?_
 refine cM nR fun a0=> ?_
 refine bK ?_
 refine aA ?_
 refine aB ?_
 refine aI ?_
 refine ag.block ?_
 obtain⟨av,an,h⟩:=ay h
 refine gj (γ:=Unit) (δ:=Unit) an [0,2,3] (fun s1 aw=> [(5,I.of (s1.1))]) (fun s1 aw=> [(0,⟨some a0,.var (s1.2.1:Vector al 4)⟩),(2,⟨some b6,.var (s1.2.2:bk)⟩)]) (fun az=>Exit.exit 0) (fun az aw=> [(5,I.of (az.1)),(6,I.of (az.2.1))]) (fun az aw=> [(0,⟨some a0,.var (az.2.2.1:Vector al 4)⟩),(2,⟨some b6,.var (az.2.2.2:bk)⟩)]) () (fun s1 r h aw=> ?_) fun aw=> ?_
 ·clear an
  refine aA ?_
  refine bd dJ ?_
  refine bK ?_
  refine b4 h (fun h=>?_) fun h=>?_
  ·refine cP ?_
   refine ag.seq ?_
   refine ag.block ?_
   refine aA ?_
   refine aB ?_
   refine aM ?_
   refine b2 ?_
   refine aB ?_
   refine aB ?_
   refine ai.bI 2 rfl ?_
   obtain⟨ak,bt,h⟩:=ay h
   refine eE 1 fP (fL bt) fun c6=> ?_
   refine aT (h1 Tryz.underlying3 Tryz.underlying41) ?_
   obtain⟨bg,dd,h⟩:=ay h
   refine dp dd (cT (b:=({ (default:al) with bS:=BitVec.ofInt 64 ak.1 } :al)) rfl hl et (.cons ec rfl (ad rfl) rfl (.nil))) ?_
   obtain⟨aW,cc,h⟩:=ay h
   refine bj (fj (k:=aW) lx (ad rfl) (ad rfl) (cK cc)) ?_
   refine po 1 ((aK.id (Vector al 4)).comp (aK.idx (α:=al) 4 aW (cK cc).1)) bV ?_
   refine b2 ?_
   refine aB ?_
   refine ai.bI 0 rfl ?_
   obtain⟨aO,cq,h⟩:=ay h
   refine eE 1 fP (fL cq) fun e6=> ?_
   refine bd fz ?_
   refine aI ?_
   obtain⟨bB,cz,h⟩:=ay h
   refine h5 (γ:=Unit) [0,2,3,4,5,6,16] (fun a5=> []) (fun a5=> [(0,⟨some b6,.var (bB.1:bk)⟩),(1,⟨some a0,.var (bB.2:Vector al 4)⟩)]) (fun a5=> ?_) (fun hm ar=> ?_) fun hm ar=> ?_
   ·clear cz
    refine ab.dz ?_
    refine ab.next ?_
    refine ag.cj ?_
    refine bd c8 ?_
    refine aB ?_
    refine ai.nil ?_
    refine ab.bI 2 rfl ?_
    refine ab.bI 2 rfl ?_
    obtain rfl:=aH h
    exact fe () 0
   ·have h:=gI ar cz
    obtain⟨bR,cN,h⟩:=ay h
    obtain⟨bc,fb,h⟩:=ay h
    obtain⟨dw,ha,h⟩:=ay h
    obtain⟨dj,gp,h⟩:=ay h
    obtain⟨ft,km,h⟩:=ay h
    refine iC [0,2,3,4,5,6,7,8,9,10,11,12,13,14,15,16] ?_
    refine ag.jV mixed (bb 17 [] [] _ :: bb 18 [] [] _ :: bb 19 (1 :: []) [] _ :: bb 20 (2 :: []) [] _ :: bb 21 (3 :: []) (1 :: []) _ :: bb 22 (4 :: []) [] _ :: bb 23 [] [] _ :: ⟨some 24,(6 :: []),(0 :: []),(0 :: []),fun _=>I.of (bc.1),fun hd _=>⟨some b6,.var (bc.2:bk)⟩⟩ :: bb 25 (7 :: []) [] _ :: bb 26 (5 :: 8 :: []) [] _ :: bb 27 (0 :: []) [] _ :: bb 28 (10 :: []) [] _ :: ⟨none,(4 :: 9 :: 11 :: []),(1 :: []),(1 :: []),fun _=>I.any,fun hd _=>⟨some a0,.var (ft:Vector al 4)⟩⟩ :: []) _ (0 :: 2 :: 3 :: 4 :: 5 :: 6 :: 7 :: 8 :: 9 :: 10 :: 11 :: 12 :: 13 :: 14 :: 15 :: 16 :: []) rfl rfl (by kernel_rfl) ⟨fJ,fJ,cw fun hd E' L' aE ao=>fj (k:=bR) lx (ad (aE _ _ rfl)) (ad (aE _ _ rfl)) (cK cN),e1 (aQ hS),mT 1 (((aK.id (Vector al 4)).comp (aK.idx (α:=al) 4 bR (cK cN).1)).comp ec) ek,cw fun hd E' L' aE ao=>na (ad (aE _ _ rfl)) (fi 24 rfl),fJ,?_,e1 (h1 Tryz.underlying3 Tryz.underlying41),cw fun hd E' L' aE ao=>(pR (ad (aE _ _ rfl)) (ad (aE _ _ rfl))).as (aH ha),cw fun hd E' L' aE ao=>fj (k:=dj) lx (ad (aE _ _ rfl)) (ad (aE _ _ rfl)) (cK gp),e1 (aQ hS),?_,trivial⟩ fun fl=> ?_
    ·intro hd E' L' aE ao
     refine ai.bI 0 (ao 0 _ rfl rfl) ?_
     refine ai.kZ (Lin:= [⟨some b6,.var (aO.2:bk)⟩]) (Lr:=L'.eraseIdx 0) fP (fL fb) ⟨ad (aE _ _ rfl),bD 256,trivial⟩ rfl fun h9=> ?_
     refine ai.nil ?_
     refine ab.back 0 (ao 0 _ rfl rfl) ?_
     exact ab.fin (eh []) rfl rfl
    ·intro hd E' L' aE ao
     refine ai.store (i:=1) (((aK.id (Vector al 4)).comp (aK.idx (α:=al) 4 dj (cK gp).1)).comp ec) (v:=(dw:BitVec 64)) (b':=(ft:Vector al 4)) ek (ad (aE _ _ rfl)) (ad (aE _ _ rfl)) (ao 1 _ rfl rfl) rfl (aH km) ?_
     refine ai.nil ?_
     exact ab.fin (eh []) rfl rfl
    refine ab.en (L2:= [⟨some b6,.var (bc.2:bk)⟩,⟨some a0,.var (ft:Vector al 4)⟩,⟨some aR,.var ((default:Vector al 4):Vector al 4)⟩]) rfl ?_
    refine jF [0,2,3,4,5,6,7,8,9,10,11,12,13,14,15,16,17,18,19,20,21,22,23,24,25,26,27,28] ?_
    obtain rfl:=aH h
    exact df 0 (hm ())
   ·have h:=gJ ar cz
    refine ag.skip ?_
    obtain rfl:=aH h
    exact df 0 (hm ())
  ·refine ag.exit ?_
   refine ab.exit ?_
   obtain rfl:=aH h
   exact dE () 0
 ·clear an
  refine ab.e4 ?_
  refine ab.next ?_
  refine aA ?_
  refine cm 0 g2 ?_
  refine ck 1 g2 ?_
  refine aI ?_
  refine ag.ret ?_
  refine ab.bI 2 rfl ?_
  obtain rfl:=aH h
  exact ab.gv () (.cons_cons _ (List.nil_sublist _)) rfl rfl (jy (i:=2) g2 rfl rfl)
theorem OX {J:al} {aj:Int} {r:Bool} (h:xx J aj=some r):bE Tryz.prog 248 [I.of (J),I.of (aj)] (I.of (r)):=by
 unfold xx at h
 refine bE.of Tryz.func248 rfl Tryz.ntmps248 rfl fun W A=> ?_
 refine aA ?_
 refine b8 fun aR=> ?_
 refine aM ?_
 refine b2 ?_
 refine cm 0 bV ?_
 obtain⟨ak,bt,h⟩:=ay h
 refine ev SA (O9 bt) ?_
 refine aB ?_
 refine bd og ?_
 refine aM ?_
 refine aI ?_
 refine ag.ret ?_
 obtain rfl:=aH h
 exact cv
theorem OC {J:aY} {aj:cB} {r:Int} (h:xm J aj=some r):bE Tryz.prog 283 [I.of (J),I.of (aj)] (I.of (r)):=by
 unfold xm at h
 refine bE.of Tryz.func283 rfl Tryz.ntmps283 rfl fun W A=> ?_
 refine aA ?_
 refine b8 fun aR=> ?_
 refine b8 fun a0=> ?_
 refine aM ?_
 refine b2 ?_
 refine cm 1 fs ?_
 refine aT (aQ Bq) ?_
 refine bL 0 m3 bo ?_
 obtain⟨ak,bt,h⟩:=ay h
 refine ev LM (HI bt) ?_
 refine aM ?_
 refine bK ?_
 refine aA ?_
 refine aB ?_
 refine bd dJ ?_
 refine aI ?_
 refine b4 h (fun h=>?_) fun h=>?_
 ·refine aA ?_
  refine aM ?_
  refine aI ?_
  refine ag.ret ?_
  refine ab.ret ?_
  obtain rfl:=aH h
  exact cv
 ·refine cP ?_
  refine aA ?_
  refine aT (aQ sE) ?_
  refine bL 1 r7 rv ?_
  refine aB ?_
  obtain⟨aW,cc,h⟩:=ay h
  refine gk cc Tryz.underlying24 nJ ?_
  refine vV m2 Bi ?_
  refine aT (c7 bo) ?_
  refine aM ?_
  refine aI ?_
  refine ag.ret ?_
  obtain rfl:=aH h
  exact cv
theorem OY {J:aY} {aj:Int} {r:Int} (h:A0 J aj=some r):bE Tryz.prog 89 [I.of (J),I.of (aj)] (I.of (r)):=by
 unfold A0 at h
 refine bE.of Tryz.func89 rfl Tryz.ntmps89 rfl fun W A=> ?_
 refine aA ?_
 refine b8 fun aR=> ?_
 refine aM ?_
 refine bK ?_
 obtain⟨ak,bt,h⟩:=ay h
 obtain⟨aW,cc,h⟩:=ay h
 refine ag.draw mixed 8 [some 5,some 6,some 7,some 8,some 9,some 10,some 11,some 12] [[],[0],[],[],[2,3],[1,4],[5],[6]] [.val _,.val _,.val _,.val _,.val _,.val _,.val _,.val _] [false,false,false,false,false,false,false,false] (by kernel_rfl) rfl rfl rfl (fun c1=>⟨H1 (aQ sE),dI 0 r7 rv,e5 0 fs,c3,fm SB (Om bt),lB cc Tryz.underlying24 nJ,qi m2 Bi,H1 (c7 bo),trivial⟩) fun c1=> ?_
 refine aM ?_
 refine aI ?_
 refine ag.ret ?_
 obtain rfl:=aH h
 exact cv
end Go.Proofs.YtmnggbjcnoffeaaGreat
namespace Go.Proofs.YtmnggbjcnoffeaaGreat
open Go Gv
set_option linter.unusedVariables false
set_option linter.unusedSimpArgs false
set_option maxRecDepth 100000
set_option maxHeartbeats 2000000
end Go.Proofs.YtmnggbjcnoffeaaGreat
namespace Go.Proofs.YtmnggbjcnoffeaaGreat
open Go Gv
set_option linter.unusedVariables false
set_option linter.unusedSimpArgs false
set_option maxRecDepth 100000
set_option maxHeartbeats 2000000
theorem mo {J:bk} {b6:Nat} {r:Bool × bk} (h:kC J=some r):cf Tryz.prog 55 [I.eq (.pointer (some ⟨b6,0,none⟩))] [⟨some b6,.var (J:bk)⟩] (δ:=Unit) (fun d=>I.of (r.1)) (fun d=> [⟨some b6,.var (r.2:bk)⟩]):=by
 unfold kC at h
 refine cf.of Tryz.func55 rfl Tryz.ntmps55 rfl fun W A=> ?_
 refine aA ?_
 refine aM ?_
 refine b2 ?_
 refine aB ?_
 refine ai.bI 0 rfl ?_
 obtain⟨ak,bt,h⟩:=ay h
 refine eE 1 fP (fL bt) fun az=> ?_
 refine bd fz ?_
 refine aM ?_
 refine aI ?_
 refine ag.ret ?_
 refine ab.bI 0 rfl ?_
 obtain rfl:=aH h
 exact mS ()
end Go.Proofs.YtmnggbjcnoffeaaGreat
namespace Go.Proofs.YtmnggbjcnoffeaaGreat
open Go Gv
set_option linter.unusedVariables false
set_option linter.unusedSimpArgs false
set_option maxRecDepth 100000
set_option maxHeartbeats 2000000
theorem NO {J:bk} {b6:Nat} {r:(List dh) × bk} (h:wO J=some r):cf Tryz.prog 68 [I.eq (.pointer (some ⟨b6,0,none⟩))] [⟨some b6,.var (J:bk)⟩] (δ:=Unit) (fun d=>I.of (r.1)) (fun d=> [⟨some b6,.var (r.2:bk)⟩]):=by
 unfold wO at h
 refine cf.of Tryz.func68 rfl Tryz.ntmps68 rfl fun W A=> ?_
 refine aA ?_
 refine bj (eW (look_nil (α:=dh))) ?_
 refine b2 ?_
 refine gx ([0,0,65535,3]:List Int) Tryz.underlying63 bo g4 ?_
 refine aM ?_
 refine b2 ?_
 refine aB ?_
 refine aB ?_
 refine ai.bI 0 rfl ?_
 obtain⟨ak,bt,h⟩:=ay h
 refine eE 1 fP (fL bt) fun az=> ?_
 obtain⟨aW,cc,h⟩:=ay h
 refine gk cc Tryz.underlying63 bo ?_
 refine aT (c7 bo) ?_
 refine bj (oZ (b:=({ (default:dh) with bG:=1,hC:=1,mr:=4,gH:=aF ([0,0,65535,3]:List Int) aW } :dh)) [3] JE rfl EZ rk (.cons AX rfl (bD 1) rfl (by rfl) (.cons C7 rfl (bD 1) rfl (by rfl) (.cons Ht rfl (bD 4) rfl (by rfl) (.cons C3 rfl (ad rfl) rfl (by rfl) (.nil)))))) ?_
 refine ai.own (α:=ga) 195 ?_
 refine ai.o3 (z:=(default:dh)) [3] JE rk rfl fun aR=> ?_
 refine ai.own (α:=ga) 195 ?_
 refine ai.pS (i:=1) o9 (ad rfl) (ad rfl) rfl ?_
 refine b2 ?_
 refine bj (cT (b:=({ (default:al) with bS:=1#64 } :al)) rfl hl et (.cons ec rfl (fi 1 rfl) rfl (.nil))) ?_
 refine bj (cT (b:=({ (default:al) with bS:=15#64 } :al)) rfl hl et (.cons ec rfl (fi 15 rfl) rfl (.nil))) ?_
 obtain⟨bg,dd,h⟩:=ay h
 refine dp dd (cT (b:= { cL:=({ (default:al) with bS:=1#64 } :al),gK:=({ (default:al) with bS:=15#64 } :al),ob:=2:ga }) rfl BF rn (.cons AK rfl (ad rfl) rfl (.cons AT rfl (ad rfl) rfl (.cons AU rfl (bD 2) rfl (.nil))))) ?_
 refine bj (cT (b:=({ (default:al) with bS:=2#64 } :al)) rfl hl et (.cons ec rfl (fi 2 rfl) rfl (.nil))) ?_
 refine bj (cT (b:=({ (default:al) with bS:=3#64 } :al)) rfl hl et (.cons ec rfl (fi 3 rfl) rfl (.nil))) ?_
 obtain⟨dw,ha,h⟩:=ay h
 refine dp ha (cT (b:= { cL:=({ (default:al) with bS:=2#64 } :al),gK:=({ (default:al) with bS:=3#64 } :al),ob:=3:ga }) rfl BF rn (.cons AK rfl (ad rfl) rfl (.cons AT rfl (ad rfl) rfl (.cons AU rfl (bD 3) rfl (.nil))))) ?_
 refine ai.pf (α:=ga) (r:= [bg,dw]) Tryz.underlying191 BG rn rfl rfl (.cons (by simp) (ad rfl) (.cons (by simp) (ad rfl) (.nil))) rfl fun gR=> ?_
 refine aT (aQ Bk) ?_
 refine ai.jf (i:=2) (γ:=ga) (b':=(({ ({ (default:dh) with bG:=1,hC:=1,mr:=4,gH:=aF ([0,0,65535,3]:List Int) aW } :dh) with nA:= [] } :dh):dh)) (os':= [(3,aV gR [bg,dw].length 2)]) ((aK.id dh).comp AE) yt (ad rfl) (ad rfl) ic rfl rfl rfl rfl ?_
 refine bK ?_
 refine aA ?_
 refine aB ?_
 refine ai.bI 4 rfl ?_
 obtain⟨aO,cq,h⟩:=ay h
 refine eE 1 mO (mo cq) fun c6=> ?_
 refine aI ?_
 obtain⟨bB,cz,h⟩:=ay h
 refine h5 (γ:=(Option Nat × Nat)) [0,2,3,4,23] (fun aw=> []) (fun aw=> [(0,⟨some b6,.var (bB.1:bk)⟩),(1,⟨aw.1,.row 195 (bB.2:List ga) aw.2⟩),(3,⟨some aR,.cg (({ ({ (default:dh) with bG:=1,hC:=1,mr:=4,gH:=aF ([0,0,65535,3]:List Int) aW } :dh) with nA:= [] } :dh):dh) [(3,aV aw.1 bB.2.length aw.2)]⟩)]) (fun aw=> ?_) (fun hm ar=> ?_) fun hm ar=> ?_
 ·clear cz
  refine ab.next ?_
  refine aA ?_
  refine aB ?_
  refine aB ?_
  refine ai.bI 0 rfl ?_
  obtain⟨bc,fb,h⟩:=ay h
  refine eE 1 fP (fL fb) fun e6=> ?_
  obtain⟨bR,cN,h⟩:=ay h
  refine gk cN Tryz.underlying63 bo ?_
  refine aT (c7 bo) ?_
  obtain⟨ft,km,h⟩:=ay h
  refine dp km (cT (b:=({ (default:dh) with bG:=2,hC:=2,gH:=aF ([0,0,65535,3]:List Int) bR } :dh)) rfl EZ rk (.cons AX rfl (bD 2) rfl (.cons C7 rfl (bD 2) rfl (.cons C3 rfl (ad rfl) rfl (.nil))))) ?_
  refine cM rk fun a0=> ?_
  refine ck 0 o9 ?_
  refine b2 ?_
  obtain⟨hz,l4,h⟩:=ay h
  refine dp l4 (cT (b:=({ (default:dh) with bG:=3,hC:=3,mr:=9,gH:=0 } :dh)) rfl EZ rk (.cons AX rfl (bD 3) rfl (.cons C7 rfl (bD 3) rfl (.cons Ht rfl (bD 9) rfl (.cons C3 rfl (bD 0) rfl (.nil)))))) ?_
  refine cM rk fun bF=> ?_
  refine ck 0 o9 ?_
  refine bK ?_
  refine aA ?_
  refine aB ?_
  refine ai.bI 2 rfl ?_
  obtain⟨br,fY,h⟩:=ay h
  refine eE 1 fP (fL fY) fun h9=> ?_
  refine bd fz ?_
  refine aI ?_
  obtain⟨cu,du,h⟩:=ay h
  refine h5 (γ:=Unit) [0,2,3,4,5,6,23,50] (fun a5=> []) (fun a5=> [(0,⟨some b6,.var (cu.1:bk)⟩),(1,⟨some bF,.var (cu.2:dh)⟩)]) (fun a5=> ?_) (fun hm ar=> ?_) fun hm ar=> ?_
  ·clear du
   refine ab.next ?_
   refine aA ?_
   refine ai.iA (β:=dh) (γ:=ga) (b':=(({ ({ (default:dh) with bG:=1,hC:=1,mr:=4,gH:=aF ([0,0,65535,3]:List Int) aW } :dh) with nA:=bB.2 } :dh):dh)) ((aK.id dh).comp AE) 5 3 0 rfl rfl rfl rfl rfl rfl ?_
   refine ai.nM 5 rfl ?_
   obtain⟨gy,l5,h⟩:=ay h
   refine dp l5 (dP (i:=5) (aK.id dh) (r:=({ ({ (default:dh) with bG:=1,hC:=1,mr:=4,gH:=aF ([0,0,65535,3]:List Int) aW } :dh) with nA:=bB.2 } :dh)) o9 (ad rfl) rfl rfl rfl) ?_
   refine cm 2 o9 ?_
   refine cm 1 o9 ?_
   refine gx [gy,ft,cu.2] Tryz.underlying26 o9 rk ?_
   refine aM ?_
   refine aI ?_
   refine ag.ret ?_
   refine ab.bI 0 rfl ?_
   obtain rfl:=aH h
   exact mS ()
  ·have h:=gI ar du
   refine ag.cj ?_
   refine bj (cT (b:=({ (default:al) with bS:=5#64 } :al)) rfl hl et (.cons ec rfl (fi 5 rfl) rfl (.nil))) ?_
   refine bj (cT (b:=({ (default:al) with bS:=15#64 } :al)) rfl hl et (.cons ec rfl (fi 15 rfl) rfl (.nil))) ?_
   refine aB ?_
   refine ai.bI 0 rfl ?_
   obtain⟨cx,ih,h⟩:=ay h
   refine eE 1 fP (fL ih) fun fZ=> ?_
   refine bd c8 ?_
   obtain⟨ir,oy,h⟩:=ay h
   refine dp oy (cT (b:= { cL:=({ (default:al) with bS:=5#64 } :al),gK:=({ (default:al) with bS:=15#64 } :al),ob:=bw (1 + cx.1):ga }) rfl BF rn (.cons AK rfl (ad rfl) rfl (.cons AT rfl (ad rfl) rfl (.cons AU rfl (ad rfl) rfl (.nil))))) ?_
   refine gx [ir] Tryz.underlying191 BG rn ?_
   refine aT (aQ Bk) ?_
   refine po 1 AE yt ?_
   refine ai.nil ?_
   obtain rfl:=aH h
   exact df 0 (hm ())
  ·have h:=gJ ar du
   refine ag.skip ?_
   obtain rfl:=aH h
   exact df 0 (hm ())
 ·have h:=gI ar cz
  obtain⟨dr,jG,h⟩:=ay h
  obtain⟨iu,oz,h⟩:=ay h
  obtain⟨dC,l6,h⟩:=ay h
  obtain⟨dj,gp,h⟩:=ay h
  obtain⟨g5,qj,h⟩:=ay h
  obtain⟨e7,nr,h⟩:=ay h
  refine iC [0,2,3,4,7,8,9,10,11,12,13,14,15,16,17,18,19,20,21,22,23] ?_
  refine ag.jV mixed (bb 24 [] [] _ :: bb 25 (0 :: []) (3 :: []) _ :: bb 26 [] [] _ :: ⟨some 27,(2 :: []),(0 :: []),(0 :: []),fun _=>I.of (dr.1),fun hd _=>⟨some b6,.var (dr.2:bk)⟩⟩ :: bb 28 (3 :: []) [] _ :: bb 29 (4 :: []) [] _ :: bb 30 (5 :: []) [] _ :: bb 31 [] [] _ :: bb 32 [] [] _ :: bb 33 [] [] _ :: ⟨some 34,(3 :: 9 :: []),(0 :: []),(0 :: []),fun _=>I.of (dC.1),fun hd _=>⟨some b6,.var (dC.2:bk)⟩⟩ :: bb 35 (8 :: 10 :: []) [] _ :: bb 36 (11 :: []) [] _ :: bb 37 (6 :: 7 :: 12 :: []) [] _ :: bb 38 (13 :: []) [] _ :: ⟨some 39,(1 :: 14 :: []),(1 :: []),(1 :: []),fun hd=>I.eq (aV (hd 15 0) e7.length ((hd 15 1).getD 0)),fun hd _=>⟨(hd 15 0),.row 195 (e7:List ga) ((hd 15 1).getD 0)⟩⟩ :: bb 40 [] [] _ :: ⟨none,(1 :: 15 :: 16 :: []),(3 :: []),(3 :: []),fun _=>I.any,fun hd _=>⟨some aR,.cg (({ ({ (default:dh) with bG:=1,hC:=1,mr:=4,gH:=aF ([0,0,65535,3]:List Int) aW } :dh) with nA:= [] } :dh):dh) [(3,aV (hd 15 0) e7.length ((hd 15 1).getD 0))]⟩⟩ :: []) _ (0 :: 2 :: 3 :: 4 :: 7 :: 8 :: 9 :: 10 :: 11 :: 12 :: 13 :: 14 :: 15 :: 16 :: 17 :: 18 :: 19 :: 20 :: 21 :: 22 :: 23 :: []) rfl rfl (by kernel_rfl) ⟨e1 (aQ Bk),cw fun hd E' L' aE ao=>iO (i:=3) (q:=0) (β:=dh) (γ:=ga) yt (ad (aE _ _ rfl)) (ao 3 _ rfl rfl) rfl,fJ,?_,z6 SC,e1 (h1 Tryz.underlying3 Tryz.underlying41),cw fun hd E' L' aE ao=>(cT (b:=({ (default:al) with bS:=BitVec.ofInt 64 (bw (8 * dr.1)) } :al)) rfl hl et (.cons ec rfl (ad (aE _ _ rfl)) rfl (.nil))).as (aH oz),cw fun hd E' L' aE ao=>cT (b:=({ (default:al) with bS:=8#64 } :al)) rfl hl et (.cons ec rfl (fi 8 rfl) rfl (.nil)),fJ,fJ,?_,cw fun hd E' L' aE ao=>o7 (k:=dj) Tryz.underlying63 bo (ad (aE _ _ rfl)) (ad (aE _ _ rfl)) (cK gp),e1 (c7 bo),cw fun hd E' L' aE ao=>(cT (b:= { cL:=iu,gK:=({ (default:al) with bS:=8#64 } :al),ob:=aF ([0,0,65535,3]:List Int) dj:ga }) rfl BF rn (.cons AK rfl (ad (aE _ _ rfl)) rfl (.cons AT rfl (ad (aE _ _ rfl)) rfl (.cons AU rfl (ad (aE _ _ rfl)) rfl (.nil))))).as (aH qj),cw fun hd E' L' aE ao=>iR (r:= [g5]) Tryz.underlying191 BG rn rfl rfl (.cons (by simp) (ad (aE _ _ rfl)) (.nil)),?_,e1 (aQ Bk),?_,trivial⟩ fun fl=> ?_
  ·intro hd E' L' aE ao
   refine ai.bI 0 (ao 0 _ rfl rfl) ?_
   refine ai.kZ (Lin:= [⟨some b6,.var (aO.2:bk)⟩]) (Lr:=L'.eraseIdx 0) fP (fL jG) ⟨ad (aE _ _ rfl),bD 2,trivial⟩ rfl fun gX=> ?_
   refine ai.nil ?_
   refine ab.back 0 (ao 0 _ rfl rfl) ?_
   exact ab.fin (eh []) rfl rfl
  ·intro hd E' L' aE ao
   refine ai.bI 0 (ao 0 _ rfl rfl) ?_
   refine ai.kZ (Lin:= [⟨some b6,.var (dr.2:bk)⟩]) (Lr:=L'.eraseIdx 0) fP (fL l6) ⟨ad (aE _ _ rfl),bD 4,trivial⟩ rfl fun wh=> ?_
   refine ai.nil ?_
   refine ab.back 0 (ao 0 _ rfl rfl) ?_
   exact ab.fin (eh []) rfl rfl
  ·intro hd E' L' aE ao
   refine ai.app (i:=1) Tryz.underlying191 BG rn (bytes:=40) (by kernel_rfl) (ad (aE _ _ rfl)) (ao 1 _ rfl rfl) (ad (aE _ _ rfl)) nr rfl fun kH fH=> ?_
   refine ai.nil ?_
   exact ab.fin (eh [kH,some fH]) rfl rfl
  ·intro hd E' L' aE ao
   refine ai.jf (i:=3) (γ:=ga) (b':=(({ ({ (default:dh) with bG:=1,hC:=1,mr:=4,gH:=aF ([0,0,65535,3]:List Int) aW } :dh) with nA:= [] } :dh):dh)) (os':= [(3,aV (hd 15 0) e7.length ((hd 15 1).getD 0))]) ((aK.id dh).comp AE) yt (ad (aE _ _ rfl)) (ad (aE _ _ rfl)) ic (ao 3 _ rfl rfl) rfl rfl rfl ?_
   refine ai.nil ?_
   exact ab.fin (eh []) rfl rfl
  refine ab.en (L2:= [⟨some b6,.var (dC.2:bk)⟩,⟨(fl 15 0),.row 195 (e7:List ga) ((fl 15 1).getD 0)⟩,⟨none,.row 195 (([]:List ga):List ga) 0⟩,⟨some aR,.cg (({ ({ (default:dh) with bG:=1,hC:=1,mr:=4,gH:=aF ([0,0,65535,3]:List Int) aW } :dh) with nA:= [] } :dh):dh) [(3,aV (fl 15 0) e7.length ((fl 15 1).getD 0))]⟩,⟨none,.row 195 (([]:List ga):List ga) 0⟩]) rfl ?_
  refine jF [0,2,3,4,7,8,9,10,11,12,13,14,15,16,17,18,19,21,22,23,24,26,27,28,29,30,31,32,33,34,35,36,37,38,39,40] ?_
  obtain rfl:=aH h
  exact df 0 (hm ((fl 15 0),((fl 15 1).getD 0)))
 ·have h:=gJ ar cz
  refine ag.skip ?_
  obtain rfl:=aH h
  exact df 0 (hm (gR,2))
end Go.Proofs.YtmnggbjcnoffeaaGreat
