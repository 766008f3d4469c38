/-
  Each function meets its functional program. Conditions: none.
-/
import Derived.Test.YthkfkliknjiecaaGreatMc0
import Derived.Test.YthkfkliknjiecaaGreatMd
set_option linter.unusedVariables false
set_option linter.unusedSimpArgs false
set_option maxRecDepth 100000
set_option maxHeartbeats 2000000
namespace Go.Proofs.YthkfkliknjiecaaGreat
open Go Gv
theorem P8 {hp:aH Cell} {ab:gp} {al:Vector aw 4} {r:Int × Bool} (h:uD hp ab al=some r):bN Tryz.prog 201 [I.of (ab),I.of (al)] ([] ++ aZ hp) (δ:=Unit) (fun _=>I.eA [I.of (r.1),I.of (r.2)]) (fun _=> [] ++ aZ hp):=by
 unfold uD at h
 refine bN.of Tryz.func201 rfl Tryz.ntmps201 rfl fun W A=> ?_
 refine aM ?_
 refine cM fun ba=> ?_
 refine cM fun bh=> ?_
 refine aW ?_
 refine aW ?_
 refine cc ?_
 refine cV 1 zY ?_
 refine cV 0 lz ?_
 obtain⟨aG,bF,h⟩:=aC h
 refine gY M1 (JQ bF) ?_
 refine aL ?_
 refine gZ ?_
 refine gZ ?_
 refine dL vq fun cH=> ?_
 refine dL fw fun fa=> ?_
 refine dh 1 j4 ?_
 refine dh 0 cB ?_
 refine cm ?_
 obtain⟨bT,c7,h⟩:=aC h
 obtain⟨bw,di,h⟩:=aC h
 obtain⟨bJ,eC,h⟩:=aC h
 obtain⟨aQ,cR,h⟩:=aC h
 obtain⟨bm,hh,h⟩:=aC h
 obtain⟨cD,h9,h⟩:=aC h
 refine kc [0,1,2,3,4,5,6,7,11,12,13,14,15,16] ?_
 refine ak.pG 4 mixed (bk 18 [] [] _ :: bk 19 (0 :: []) (3 :: []) _ :: bk 20 [] (1 :: []) _ :: ⟨some 21,(1 :: 2 :: []),[],[],fun _=>I.of (bJ),fun _ _=>⟨none,.dead⟩⟩ :: bk 22 [] (0 :: []) _ :: bk 23 [] [] _ :: bk 24 (5 :: []) (3 :: []) _ :: bk 25 (6 :: []) [] _ :: bk 26 (4 :: 7 :: []) [] _ :: ⟨some 27,(3 :: 8 :: []),[],[],fun _=>I.eA [I.of (cD.1),I.of (cD.2.1),I.of (cD.2.2)],fun _ _=>⟨none,.dead⟩⟩ :: bk 17 (9 :: []) [] _ :: bk 28 (10 :: []) [] _ :: bk 29 (10 :: []) [] _ :: bk 30 (10 :: []) [] _ :: bk 8 (11 :: []) [] _ :: bk 9 (12 :: []) [] _ :: bk 10 (13 :: []) [] _ :: []) _ (0 :: 1 :: 2 :: 3 :: 4 :: 5 :: 6 :: 7 :: 11 :: 12 :: 13 :: 14 :: 15 :: 16 :: []) rfl rfl (by kernel_rfl) (by kernel_rfl) ⟨b8.q (g8 (bc rQ)),b8.q (uf 3 qo qN),b8.q (mO 1 j4),?_,b8.q (mO 0 cB),b8.q (g8 (bc Gr)),b8.q (uf 3 BW cf),b8.q (cr fun hd E' L' ay aq=>k7 Hc (FC cR) ⟨ad (ay _ _ rfl),trivial⟩),b8.q (cr fun hd E' L' ay aq=>k7 z4 (y9 hh) ⟨ad (ay _ _ rfl),ad (ay _ _ rfl),trivial⟩),?_,b8.q (gb),b8.q (cr fun hd E' L' ay aq=>lb (ad (ay _ _ rfl)) rfl),b8.q (cr fun hd E' L' ay aq=>lb (ad (ay _ _ rfl)) rfl),b8.q (cr fun hd E' L' ay aq=>lb (ad (ay _ _ rfl)) rfl),b8.q (cr fun hd E' L' ay aq=>e5 (ad (ay _ _ rfl))),b8.q (cr fun hd E' L' ay aq=>e5 (ad (ay _ _ rfl))),b8.q (cr fun hd E' L' ay aq=>e5 (ad (ay _ _ rfl))),trivial⟩ fun fG=> ?_
 ·intro hd E' L' ay aq ck
  refine bp (vd (r:=bJ) Tryz.underlying128 tN xL (lQ (ad (ay _ _ rfl)) c7) (ad (ay _ _ rfl)) (eK (n:=4) (ck.trans rfl) (iR di) rfl) (aT eC)) ?_
  refine ah.nil ?_
  exact aj.fin (ek []) rfl rfl
 ·intro hd E' L' ay aq ck
  refine ah.iK (fr.iG 4 (ck.trans rfl) V7 (QG h9) ⟨ad (ay _ _ rfl),ad (ay _ _ rfl),trivial⟩) rfl rfl rfl ?_
  refine ah.nil ?_
  exact aj.fin (ek []) rfl rfl
 refine aj.eH (L2:=(⟨some fa,.var (aG.2:aw)⟩ :: ⟨some cH,.var (aG.1:Vector aw 4)⟩ :: ⟨some bh,.var (al:Vector aw 4)⟩ :: ⟨some ba,.var (ab:gp)⟩ :: aZ hp)) rfl ?_
 refine lF [0,1,2,3,4,5,6,7,8,9,10,11,12,13,14,15,16,17,18,19,20,21,22,23,24,25,26,27,28,29,30] ?_
 refine aj.next ?_
 refine aM ?_
 refine aL ?_
 refine aL ?_
 refine aW ?_
 refine aW ?_
 refine a0 ?_
 refine ak.ret ?_
 obtain rfl:=aT h
 exact aj.kL () (.cons _ (.cons _ (.cons _ (.cons _ (.refl _))))) rfl rfl (dG rfl) (dG rfl)
theorem Q1 {ab:a2} {al:b1} {aU:Vector aw 4} {r:Bool} (h:pA ab al aU=some r):cl Tryz.prog 243 [I.of (ab),I.of (al),I.of (aU)] (I.of (r)):=by
 unfold pA at h
 refine cl.of Tryz.func243 rfl Tryz.ntmps243 rfl fun W A=> ?_
 refine aM ?_
 refine cM fun ba=> ?_
 refine cM fun bh=> ?_
 refine cM fun cH=> ?_
 refine aW ?_
 refine cc ?_
 refine cV 2 h5 ?_
 refine cV 1 iS ?_
 obtain⟨aG,bF,h⟩:=aC h
 refine gY Nl (Ko bF) ?_
 refine aL ?_
 refine gZ ?_
 refine gZ ?_
 refine dL l4 fun fa=> ?_
 refine dh 0 hv ?_
 refine aW ?_
 refine cm ?_
 refine aM ?_
 refine aL ?_
 refine bj kt ?_
 refine a0 ?_
 refine dz h (fun h=>?_) fun h=>?_
 ·refine aM ?_
  refine aW ?_
  refine a0 ?_
  refine ak.ret ?_
  refine aj.ret ?_
  obtain rfl:=aT h
  exact ez
 ·refine dT ?_
  refine ak.seq ?_
  refine aM ?_
  refine bj (bc mC) ?_
  refine dg 0 kJ l2 ?_
  refine bj (iq Tryz.underlying40) ?_
  refine aL ?_
  refine a0 ?_
  refine ak.block ?_
  obtain⟨az,an,h⟩:=aC h
  refine nZ (γ:=Unit) (δ:=Unit) an [0,1,2,3,4,5,6,7,8,18,20,21] (fun s1 ax=> [(22,I.of (s1))]) (fun s1 ax=> []) (fun aN=>Sum.elim (fun aN=>Exit.exit 0) (fun aN=>Exit.ret) aN) (fun aN ax=>Sum.elim (fun aN=> [(22,I.of (aN.1)),(23,I.of (aN.2))]) (fun aN=> [(9,I.of (aN.1)),(22,I.of (aN.2.1)),(23,I.of (aN.2.2.1)),(52,I.of (aN.2.2.2))]) aN) (fun aN ax=>Sum.elim (fun aN=> []) (fun aN=> []) aN) () (fun s1 r h ax=> ?_) fun ax=> ?_
  ·clear an
   refine aM ?_
   refine bQ hf ?_
   refine cm ?_
   refine dz h (fun h=>?_) fun h=>?_
   ·refine dT ?_
    refine ak.seq ?_
    refine ak.block ?_
    refine aM ?_
    refine aL ?_
    obtain⟨bn,dJ,h⟩:=aC h
    refine lh dJ Tryz.underlying40 ku ?_
    refine bj (fy ku) ?_
    refine dL jN fun iA=> ?_
    refine aW ?_
    refine dh 0 ku ?_
    refine cm ?_
    obtain⟨c3,dj,h⟩:=aC h
    obtain⟨aQ,cR,h⟩:=aC h
    obtain⟨eI,kd,h⟩:=aC h
    obtain⟨bm,hh,h⟩:=aC h
    obtain⟨bJ,eC,h⟩:=aC h
    refine ak.draw mixed 26 ((some 27) :: (some 28) :: (some 29) :: (some 30) :: (some 31) :: (some 32) :: (some 33) :: (some 34) :: (some 35) :: (some 36) :: (some 37) :: (some 38) :: (some 39) :: (some 40) :: (some 41) :: (some 42) :: (some 43) :: (some 44) :: (some 45) :: (some 46) :: (some 47) :: (some 48) :: (some 49) :: (some 50) :: (some 51) :: (some 52) :: []) ([] :: [] :: [1] :: [2] :: [0,3] :: [4] :: [5] :: [5,6] :: [5,7] :: [8] :: [9] :: [9,10] :: [9] :: [9,11,12] :: [9,13] :: [9] :: [9,15] :: [9] :: [9] :: [9,17,18] :: [9] :: [9,20] :: [9,21] :: [9,14,16,19,22] :: [9,23] :: [9,24] :: []) (.val _ :: .val _ :: .val _ :: .val _ :: .val _ :: .val _ :: .val _ :: .val _ :: .val _ :: .val _ :: .val _ :: .val _ :: .val _ :: .val _ :: .val _ :: .val _ :: .val _ :: .val _ :: .val _ :: .val _ :: .val _ :: .val _ :: .val _ :: .val _ :: .val _ :: .val _ :: []) (false :: false :: false :: false :: false :: false :: false :: false :: false :: false :: false :: false :: false :: false :: false :: false :: false :: false :: false :: false :: false :: false :: false :: false :: false :: false :: []) (by kernel_rfl) rfl rfl rfl (fun eL=>⟨eE,H1 (bc o6),hT 3 ob oA,H1 (iq Tryz.underlying51),mo nO,eE,e8 fun L' aq=>fun hb=>cZ (ad rfl),e8 fun L' aq=>fun hb=>nO (cy rfl hb) (bG 4),e7 fun L' aq=>tT (ad rfl) (ad rfl) (fun h=>h),eE,e8 fun L' aq=>fun hb=>bc o6 (ad rfl),e8 fun L' aq=>fun hb=>fl (i:=3) ((aP.id b1).comp ob) (r:=al.cd) oA (cy rfl hb) (aq _ _ rfl rfl) rfl rfl,e8 fun L' aq=>fun hb=>cZ (ad rfl),e8 fun L' aq=>fun hb=>r1 (k:=c3) Tryz.underlying51 kO (cy rfl hb) (cy rfl hb) (eh (gr dj hb)),e8 fun L' aq=>fun hb=>fy kO (cy rfl hb),e8 fun L' aq=>fun hb=>bc GL (ad rfl),e8 fun L' aq=>fun hb=>fl (i:=0) ((aP.id cJ).comp oc) (r:=(aJ aG.1.cj bn).du) cf (cy rfl hb) (aq _ _ rfl rfl) rfl rfl,e8 fun L' aq=>fun hb=>fl (i:=4) (aP.id a2) (r:=ab) h5 (ad rfl) (aq _ _ rfl rfl) rfl rfl,e8 fun L' aq=>fun hb=>fl (i:=0) (aP.id cJ) (r:=(aJ aG.1.cj bn)) ku (ad rfl) (aq _ _ rfl rfl) rfl rfl,e8 fun L' aq=>fun hb=>k7 V8 (Q6 (gr cR hb)) ⟨cy rfl hb,cy rfl hb,trivial⟩,e8 fun L' aq=>fun hb=>cZ (ad rfl),e8 fun L' aq=>fun hb=>l3 (k:=eI) Ai (ad rfl) (cy rfl hb) (eh (gr kd hb)),e8 fun L' aq=>fun hb=>fl (i:=2) ((aP.id (Vector aw 4)).comp (aP.idx (α:=aw) 4 eI (eh (gr kd hb)).1)) (r:=bB aU eI) cB (cy rfl hb) (aq _ _ rfl rfl) rfl rfl,e8 fun L' aq=>fun hb=>k7 V9 (Q7 (gr hh hb)) ⟨cy rfl hb,cy rfl hb,cy rfl hb,cy rfl hb,trivial⟩,e8 fun L' aq=>fun hb=>kt (cy rfl hb),Pq eC fun L' aq=>tT (ad rfl) (ad rfl) (fun h=>h),trivial⟩) fun eL=> ?_
    refine a0 ?_
    refine dz h (fun h=>?_) fun h=>?_
    ·refine aM ?_
     refine aW ?_
     refine a0 ?_
     refine ak.ret ?_
     refine aj.fS ?_
     refine aj.ret ?_
     obtain rfl:=aT h
     exact hg () 1
    ·refine ak.skip ?_
     refine aj.fV ?_
     refine aj.next ?_
     refine ak.cU ?_
     refine bQ eR ?_
     refine aL ?_
     refine ah.nil ?_
     obtain rfl:=aT h
     exact kb () 1
   ·refine ak.exit ?_
    refine aj.exit ?_
    obtain rfl:=aT h
    exact hg () 0
  ·clear an
   rcases az with az | az
   ·simp only [Sum.elim_inl] at h
    refine aj.jd ?_
    refine aj.next ?_
    refine aM ?_
    refine aW ?_
    refine a0 ?_
    refine ak.ret ?_
    obtain rfl:=aT h
    exact ez
   ·simp only [Sum.elim_inr] at h
    refine aj.fS ?_
    refine aj.ret ?_
    obtain rfl:=aT h
    exact ez
theorem Ke {hp:aH Cell} {ab:Ref} {al:aw} {aU:Int} {r:Int × Bool} (h:qw hp ab al aU=some r):bN Tryz.prog 205 [I.of (ab),I.of (al),I.of (aU)] ([] ++ aZ hp) (δ:=Unit) (fun _=>I.eA [I.of (r.1),I.of (r.2)]) (fun _=> [] ++ aZ hp):=by
 unfold qw at h
 refine bN.of Tryz.func205 rfl Tryz.ntmps205 rfl fun W A=> ?_
 refine aM ?_
 refine cM fun ba=> ?_
 refine aW ?_
 refine aW ?_
 refine cc ?_
 refine aL ?_
 refine cV 0 cB ?_
 refine aL ?_
 obtain⟨aG,bF,h⟩:=aC h
 refine ah.iK (fr.iG 1 rfl No (J7 bF) ⟨ad rfl,ad rfl,ad rfl,trivial⟩) rfl rfl rfl ?_
 refine aW ?_
 refine cm ?_
 refine aM ?_
 refine aL ?_
 refine bp (mz Tryz.underlying299 (ad rfl)) ?_
 refine aL ?_
 refine gH cZ ?_
 obtain⟨bT,c7,h⟩:=aC h
 refine fB (fun hb=>dv (eb (cy rfl hb) (gr c7 hb))) ?_
 refine gH (bc qD) ?_
 obtain⟨bw,di,h⟩:=aC h
 refine fB (fun hb=>fv ((aP.id dn).comp qt) (r:=bw.cW) ix (cy rfl hb) (eK (n:=1) rfl (iO (gr di hb)) rfl) rfl rfl) ?_
 refine gH kt ?_
 refine AL ?_
 refine a0 ?_
 refine dz h (fun h=>?_) fun h=>?_
 ·refine aM ?_
  refine aW ?_
  refine aW ?_
  refine a0 ?_
  refine ak.ret ?_
  refine aj.ret ?_
  obtain rfl:=aT h
  exact aj.kL () (.cons _ (.refl _)) rfl rfl (dG rfl) (dG rfl)
 ·refine dT ?_
  refine aM ?_
  refine aL ?_
  obtain⟨bU,eS,h⟩:=aC h
  refine bp (dv (eb (ad rfl) eS)) ?_
  refine bj (bc zu) ?_
  obtain⟨b5,eW,h⟩:=aC h
  refine bp (fv ((aP.id dn).comp yU) (r:=b5.gi) cf (ad rfl) (eK (n:=1) rfl (iO eW) rfl) rfl rfl) ?_
  refine aW ?_
  refine aW ?_
  refine a0 ?_
  refine ak.ret ?_
  obtain rfl:=aT h
  exact aj.kL () (.cons _ (.refl _)) rfl rfl (dG rfl) (dG rfl)
theorem Ra {hp:aH Cell} {Q:Bool × (aH Cell)→Prop} (h:y4 hp Q):bN Tryz.prog 14 [] ([] ++ aZ hp) (δ:= {r:Bool × (aH Cell) // Q r} × Unit) (fun d=>I.of (d.1.1.1)) (fun d=> [] ++ aZ d.1.1.2):=by
 unfold y4 at h
 refine bN.of Tryz.func14 rfl Tryz.ntmps14 rfl fun W A=> ?_
 refine aM ?_
 refine aW ?_
 refine cc ?_
 obtain⟨aG,bF,h⟩:=au.cu h
 refine gz 0 OL (Kw bF) fun aN=> ?_
 refine ah.b2 0 rfl ?_
 obtain⟨aQ,cR,h⟩:=au.cu h
 refine gz 1 OM (JU cR) fun dR=> ?_
 refine dL xT fun ba=> ?_
 refine dh 0 h5 ?_
 refine cc ?_
 refine cV 0 h5 ?_
 refine ah.kM 2 0 rfl x8 (xl h) rfl rfl ⟨ad rfl,bG 1,trivial⟩ rfl fun⟨⟨bm,h⟩,hJ⟩=> ?_
 refine ah.eH (L2:=(⟨some ba,.var (aQ.1:a2)⟩ :: ⟨some aN,.var (aQ.2:b0)⟩ :: aZ bm.2)) rfl ?_
 obtain⟨cD,h9,h⟩:=au.cu h
 refine ah.iK (fr.iG 2 rfl DZ (Co h9) ⟨ad rfl,trivial⟩) rfl rfl rfl ?_
 refine bQ ir ?_
 refine aL ?_
 refine fB (fun hb=>fl (i:=0) (aP.id a2) (r:=aQ.1) h5 (ad rfl) rfl rfl rfl) ?_
 refine ah.ER (γ:=Unit) h (fun y=>I.of (y.1)) (fun y g=>(⟨some ba,.var (aQ.1:a2)⟩ :: ⟨some aN,.var (aQ.2:b0)⟩ :: aZ y.2)) () rfl rfl rfl rfl rfl rfl (fun hb hm=>by refine eO.to ?_ (eO.kM 2 0 rfl x8 (xl hm) rfl rfl ?_); exact fun _=>rfl; exact⟨cy rfl hb,bG 2,trivial⟩) fun c8 uq h=> ?_
 obtain⟨e9,sl,h⟩:=au.cu h
 refine ah.yn (fun hb=>fr.iG 2 rfl DZ (Co (gr sl hb)) ⟨cy rfl hb,trivial⟩) rfl rfl rfl rfl rfl ?_
 refine mP ir ?_
 refine lE ?_
 refine aL ?_
 refine fB (fun hb=>fl (i:=0) (aP.id a2) (r:=aQ.1) h5 (ad rfl) rfl rfl rfl) ?_
 refine ah.ER (γ:=Unit) h (fun y=>I.of (y.1)) (fun y g=>(⟨some ba,.var (aQ.1:a2)⟩ :: ⟨some aN,.var (aQ.2:b0)⟩ :: aZ y.2)) () rfl rfl rfl rfl rfl rfl (fun hb hm=>by refine eO.to ?_ (eO.kM 2 0 rfl x8 (xl hm) rfl rfl ?_); exact fun _=>rfl; exact⟨cy rfl hb,bG 3,trivial⟩) fun gm iX h=> ?_
 obtain⟨ib,r9,h⟩:=au.cu h
 refine ah.yn (fun hb=>fr.iG 2 rfl DZ (Co (gr r9 hb)) ⟨cy rfl hb,trivial⟩) rfl rfl rfl rfl rfl ?_
 refine mP ir ?_
 refine lE ?_
 refine aL ?_
 refine fB (fun hb=>fl (i:=0) (aP.id a2) (r:=aQ.1) h5 (ad rfl) rfl rfl rfl) ?_
 refine ah.ER (γ:=Unit) h (fun y=>I.of (y.1)) (fun y g=>(⟨some ba,.var (aQ.1:a2)⟩ :: ⟨some aN,.var (aQ.2:b0)⟩ :: aZ y.2)) () rfl rfl rfl rfl rfl rfl (fun hb hm=>by refine eO.to ?_ (eO.kM 2 0 rfl x8 (xl hm) rfl rfl ?_); exact fun _=>rfl; exact⟨cy rfl hb,bG 4,trivial⟩) fun hU mY h=> ?_
 obtain⟨fx,vR,h⟩:=au.cu h
 refine ah.yn (fun hb=>fr.iG 2 rfl DZ (Co (gr vR hb)) ⟨cy rfl hb,trivial⟩) rfl rfl rfl rfl rfl ?_
 refine mP ir ?_
 refine lE ?_
 refine aL ?_
 refine fB (fun hb=>fl (i:=0) (aP.id a2) (r:=aQ.1) h5 (ad rfl) rfl rfl rfl) ?_
 refine ah.ER (γ:=Unit) h (fun y=>I.of (y.1)) (fun y g=>(⟨some ba,.var (aQ.1:a2)⟩ :: ⟨some aN,.var (aQ.2:b0)⟩ :: aZ y.2)) () rfl rfl rfl rfl rfl rfl (fun hb hm=>by refine eO.to ?_ (eO.kM 2 0 rfl x8 (xl hm) rfl rfl ?_); exact fun _=>rfl; exact⟨cy rfl hb,bG 9,trivial⟩) fun ke BA h=> ?_
 refine fB (fun hb=>mz Tryz.underlying36 (cy rfl hb)) ?_
 obtain⟨bJ,eC,h⟩:=au.cu h
 refine dU eC (tG (ad rfl) (ad rfl) (fun h=>h)) ?_
 refine aW ?_
 refine a0 ?_
 refine ak.ret ?_
 exact aj.gF (⟨⟨(bJ,ke.2),h⟩,()⟩: {r // _} × _) (.cons _ (.cons _ (.refl _))) rfl rfl (dG rfl)
theorem Qq {hp:aH Cell} {ab:gp} {al:b1} {r:Int × Bool} (h:uI hp ab al=some r):bN Tryz.prog 200 [I.of (ab),I.of (al)] ([] ++ aZ hp) (δ:=Unit) (fun _=>I.eA [I.of (r.1),I.of (r.2)]) (fun _=> [] ++ aZ hp):=by
 unfold uI at h
 refine bN.of Tryz.func200 rfl Tryz.ntmps200 rfl fun W A=> ?_
 refine aM ?_
 refine cM fun ba=> ?_
 refine cM fun bh=> ?_
 refine aW ?_
 refine aW ?_
 refine cc ?_
 refine cV 1 zY ?_
 refine cV 0 iS ?_
 obtain⟨aG,bF,h⟩:=aC h
 refine gY Ht (E7 bF) ?_
 refine aL ?_
 refine gZ ?_
 refine gZ ?_
 refine gZ ?_
 refine dL vq fun cH=> ?_
 refine dL fw fun fa=> ?_
 refine dh 1 j4 ?_
 refine dh 0 cB ?_
 refine aW ?_
 refine cm ?_
 obtain⟨bT,c7,h⟩:=aC h
 obtain⟨bw,di,h⟩:=aC h
 obtain⟨bJ,eC,h⟩:=aC h
 obtain⟨aQ,cR,h⟩:=aC h
 refine kc [0,1,2,3,6,7,8,9,10,11,12,13,14,15] ?_
 refine ak.pG 4 mixed (bk 16 [] [] _ :: bk 17 (0 :: []) (3 :: []) _ :: bk 18 [] (1 :: []) _ :: ⟨some 19,(1 :: 2 :: []),[],[],fun _=>I.of (bJ),fun _ _=>⟨none,.dead⟩⟩ :: bk 20 [] (0 :: []) _ :: bk 21 [] [] _ :: ⟨some 22,(3 :: 4 :: 5 :: []),[],[],fun _=>I.eA [I.of (aQ.1),I.of (aQ.2)],fun _ _=>⟨none,.dead⟩⟩ :: bk 23 (6 :: []) [] _ :: bk 24 (6 :: []) [] _ :: bk 4 (7 :: []) [] _ :: bk 5 (8 :: []) [] _ :: []) _ (0 :: 1 :: 2 :: 3 :: 6 :: 7 :: 8 :: 9 :: 10 :: 11 :: 12 :: 13 :: 14 :: 15 :: []) rfl rfl (by kernel_rfl) (by kernel_rfl) ⟨b8.q (g8 (bc rQ)),b8.q (uf 3 qo qN),b8.q (mO 1 j4),?_,b8.q (mO 0 cB),b8.q (gb),?_,b8.q (cr fun hd E' L' ay aq=>lb (ad (ay _ _ rfl)) rfl),b8.q (cr fun hd E' L' ay aq=>lb (ad (ay _ _ rfl)) rfl),b8.q (cr fun hd E' L' ay aq=>e5 (ad (ay _ _ rfl))),b8.q (cr fun hd E' L' ay aq=>e5 (ad (ay _ _ rfl))),trivial⟩ fun fG=> ?_
 ·intro hd E' L' ay aq ck
  refine bp (vd (r:=bJ) Tryz.underlying128 tN xL (lQ (ad (ay _ _ rfl)) c7) (ad (ay _ _ rfl)) (eK (n:=4) (ck.trans rfl) (iR di) rfl) (aT eC)) ?_
  refine ah.nil ?_
  exact aj.fin (ek []) rfl rfl
 ·intro hd E' L' ay aq ck
  refine ah.iK (fr.iG 4 (ck.trans rfl) Np (Ke cR) ⟨ad (ay _ _ rfl),ad (ay _ _ rfl),ad (ay _ _ rfl),trivial⟩) rfl rfl rfl ?_
  refine ah.nil ?_
  exact aj.fin (ek []) rfl rfl
 refine aj.eH (L2:=(⟨some fa,.var (aG.2.1:aw)⟩ :: ⟨some cH,.var (aG.1:Vector aw 4)⟩ :: ⟨some bh,.var (al:b1)⟩ :: ⟨some ba,.var (ab:gp)⟩ :: aZ hp)) rfl ?_
 refine lF [0,1,2,3,4,5,6,7,8,9,10,11,12,13,14,15,16,17,18,19,20,21,22,23,24] ?_
 refine aj.next ?_
 refine ak.ret ?_
 obtain rfl:=aT h
 exact aj.kL () (.cons _ (.cons _ (.cons _ (.cons _ (.refl _))))) rfl rfl (dG rfl) (dG rfl)
theorem QH {hp:aH Cell} {ab:ja} {al:b1} {r:Int × Bool} (h:uN hp ab al=some r):bN Tryz.prog 225 [I.of (ab),I.of (al)] ([] ++ aZ hp) (δ:=Unit) (fun _=>I.eA [I.of (r.1),I.of (r.2)]) (fun _=> [] ++ aZ hp):=by
 unfold uN at h
 refine bN.of Tryz.func225 rfl Tryz.ntmps225 rfl fun W A=> ?_
 refine aM ?_
 refine cM fun ba=> ?_
 refine cM fun bh=> ?_
 refine aW ?_
 refine aW ?_
 refine cm ?_
 refine aM ?_
 refine bj (bc C7) ?_
 refine dg 1 yQ z5 ?_
 obtain⟨bT,c7,h⟩:=aC h
 obtain⟨bw,di,h⟩:=aC h
 obtain⟨aG,bF,h⟩:=aC h
 refine ah.iK (fr.obj 2 rfl (pa di) Wa (Qg bF) rfl ⟨eb (ad rfl) c7,trivial⟩) rfl rfl rfl ?_
 refine bj (iq Tryz.underlying67) ?_
 refine aL ?_
 refine a0 ?_
 refine ak.block ?_
 obtain⟨az,an,h⟩:=aC h
 refine ak.tL (σ:=Int) (ε:=(Int × Bool) ⊕ (Int × Bool × Int × Bool × Bool)) (γ:=Unit) (δ:=Unit) an (fun s1 ax=> [(0,I.of (ab)),(1,I.of (al)),(2,I.eq (.pointer (some ⟨ba,0,none⟩))),(3,I.eq (.pointer (some ⟨bh,0,none⟩))),(4,I.of (0:Int)),(5,I.of (false)),(10,I.of (aG)),(11,I.of (aG.length:Int)),(12,I.of (s1))]) (fun s1 ax=>(⟨some bh,.var (al:b1)⟩ :: ⟨some ba,.var (ab:ja)⟩ :: aZ hp)) (fun aN=>Sum.elim (fun aN=>Exit.exit 0) (fun aN=>Exit.ret) aN) (fun aN ax=>Sum.elim (fun aN=> [(0,I.of (ab)),(1,I.of (al)),(2,I.eq (.pointer (some ⟨ba,0,none⟩))),(3,I.eq (.pointer (some ⟨bh,0,none⟩))),(4,I.of (0:Int)),(5,I.of (false)),(10,I.of (aG)),(11,I.of (aG.length:Int)),(12,I.of (aN.1)),(13,I.of (aN.2))]) (fun aN=> [(0,I.of (ab)),(1,I.of (al)),(2,I.eq (.pointer (some ⟨ba,0,none⟩))),(3,I.eq (.pointer (some ⟨bh,0,none⟩))),(4,I.of (aN.1)),(5,I.of (aN.2.1)),(10,I.of (aG)),(11,I.of (aG.length:Int)),(12,I.of (aN.2.2.1)),(13,I.of (aN.2.2.2.1)),(19,I.of (aN.2.2.2.2))]) aN) (fun aN ax=>Sum.elim (fun aN=>(⟨some bh,.var (al:b1)⟩ :: ⟨some ba,.var (ab:ja)⟩ :: aZ hp)) (fun aN=>(⟨some bh,.var (al:b1)⟩ :: ⟨some ba,.var (ab:ja)⟩ :: aZ hp)) aN) () rfl (.same rfl (.same rfl (.same rfl (.same rfl (.same rfl (.same rfl (.same rfl (.same rfl (.same rfl .nil))))))))) (fun s1 r h ax=> ?_) (fun ax=> ?_)
 ·clear an
  refine aM ?_
  refine bQ hf ?_
  refine cm ?_
  refine dz h (fun h=>?_) fun h=>?_
  ·refine dT ?_
   refine ak.seq ?_
   refine ak.block ?_
   refine aM ?_
   obtain⟨bn,dJ,h⟩:=aC h
   refine lh dJ Tryz.underlying67 c6 ?_
   refine bj (fy c6) ?_
   refine dL iv fun cH=> ?_
   refine dh 0 c6 ?_
   refine cc ?_
   refine bj (bc oq) ?_
   refine dg 0 nB iS ?_
   refine cV 1 iS ?_
   obtain⟨aQ,cR,h⟩:=aC h
   refine gY Wb (QY cR) ?_
   refine a0 ?_
   refine dz h (fun h=>?_) fun h=>?_
   ·refine aM ?_
    refine bj (bc nM) ?_
    refine dg 0 m3 cf ?_
    refine aW ?_
    refine aW ?_
    refine a0 ?_
    refine ak.ret ?_
    refine aj.fS ?_
    refine aj.ret ?_
    obtain rfl:=aT h
    exact hg () 1
   ·refine ak.skip ?_
    refine aj.fV ?_
    refine aj.next ?_
    refine ak.cU ?_
    refine bQ eR ?_
    refine aL ?_
    refine ah.nil ?_
    obtain rfl:=aT h
    exact kb () 1
  ·refine ak.exit ?_
   refine aj.exit ?_
   obtain rfl:=aT h
   exact hg () 0
 ·clear an
  rcases az with az | az
  ·simp only [Sum.elim_inl] at h
   refine aj.jd ?_
   refine aj.next ?_
   refine aM ?_
   refine aW ?_
   refine aW ?_
   refine a0 ?_
   refine ak.ret ?_
   obtain rfl:=aT h
   exact aj.kL () (.cons _ (.cons _ (.refl _))) rfl rfl (dG rfl) (dG rfl)
  ·simp only [Sum.elim_inr] at h
   refine aj.fS ?_
   refine aj.ret ?_
   obtain rfl:=aT h
   exact aj.kL () (.cons _ (.cons _ (.refl _))) rfl rfl (dG rfl) (dG rfl)
theorem Qh {ab:ca} {al:aA} {aU:aA} {r:Int} (h:s4 ab al aU=some r):cl Tryz.prog 238 [I.ptr ab,I.of (al),I.of (aU)] (I.of (r)):=by
 unfold s4 at h
 refine cl.of Tryz.func238 rfl Tryz.ntmps238 rfl fun W A=> ?_
 refine aM ?_
 refine cM fun ba=> ?_
 refine cM fun bh=> ?_
 refine aW ?_
 refine cm ?_
 refine ak.block ?_
 refine ak.seq ?_
 obtain⟨aG,bF,h⟩:=aC h
 refine ak.draw mixed 7 [some 8,some 9,some 10,some 11,some 12,some 13,some 14] [[],[0],[1],[2],[],[],[3,4,5]] [.val _,.val _,.val _,.val _,.val _,.val _,.val _] [false,false,false,false,false,false,false] (by kernel_rfl) rfl rfl rfl (fun eL=>⟨eE,H1 GU,Ei BV Gs,H1 (fy h5),fY 1 c6,fY 0 c6,jg Nq (Kp bF),trivial⟩) fun eL=> ?_
 refine aW ?_
 refine a0 ?_
 refine dz h (fun h=>?_) fun h=>?_
 ·refine aM ?_
  refine aW ?_
  refine a0 ?_
  refine ak.ret ?_
  refine aj.fS ?_
  refine aj.ret ?_
  obtain rfl:=aT h
  exact ez
 ·refine ak.seq ?_
  obtain⟨aQ,cR,h⟩:=aC h
  refine ak.draw mixed 7 [some 16,some 17,some 18,some 19,some 20,some 21,some 22] [[],[0],[1],[2],[],[],[3,4,5]] [.val _,.val _,.val _,.val _,.val _,.val _,.val _] [false,false,false,false,false,false,false] (by kernel_rfl) rfl rfl rfl (fun ma=>⟨eE,H1 GU,Ei BV Gs,H1 (fy h5),fY 0 c6,fY 1 c6,jg Nq (Kp cR),trivial⟩) fun ma=> ?_
  refine aW ?_
  refine a0 ?_
  refine dz h (fun h=>?_) fun h=>?_
  ·refine aM ?_
   refine aW ?_
   refine a0 ?_
   refine ak.ret ?_
   refine aj.fS ?_
   refine aj.ret ?_
   obtain rfl:=aT h
   exact ez
  ·refine ak.skip ?_
   refine aj.fV ?_
   refine aj.next ?_
   refine aM ?_
   refine aW ?_
   refine a0 ?_
   refine ak.ret ?_
   obtain rfl:=aT h
   exact ez
theorem PN {al:ca} {aU:Vector aw 4} {lD:Nat} {lR:Option Nat} {lS:Nat} :zK Tryz.prog 242 [I.uo (I.eq (.pointer (some ⟨lD,0,none⟩))),I.ptr aU] [⟨some lD,.bZ (({ al with bP:= [] } :ca):ca) [(10,bf lR al.bP.length lS)]⟩,⟨lR,.row 56 (al.bP:List aA) lS⟩] (fun v:aA=>I.of v) (fun {σ ε} =>w3 (σ:=σ) (ε:=ε) al aU):=by
 refine zK.of Tryz.func242 rfl Tryz.ntmps242 rfl ?_
 intro σ ε γ Ls Lx step bX g0 r h W A u ur
 replace h:w3 al aU step bX=some r:=h
 unfold w3 at h
 refine aM ?_
 refine bp (L3 Tryz.underlying131 rfl (ad rfl)) ?_
 refine bj dv ?_
 refine bj (bc rM) ?_
 refine bp (il (i:=0) (q:=0) (β:=ca) (γ:=aA) qT (ad rfl) rfl rfl) ?_
 refine bp (rR (i:=1) Tryz.underlying67 (ad rfl) rfl rfl) ?_
 refine aL ?_
 refine a0 ?_
 refine ak.block ?_
 obtain⟨az,an,h⟩:=aC h
 refine ak.tL (σ:=Int × (σ)) (ε:=(Int × Bool × (σ)) ⊕ (Int × Bool × Bool × (ε))) (γ:=γ) (δ:=γ) an (fun s1 ax=> [(0,I.eq u),(1,I.uo (I.eq (.pointer (some ⟨lD,0,none⟩)))),(2,I.ptr aU),(9,I.eq (bf lR al.bP.length lS)),(10,I.of (al.bP.length:Int)),(11,I.of (s1.1))]) (fun s1 ax=>(⟨some lD,.bZ (({ al with bP:= [] } :ca):ca) [(10,bf lR al.bP.length lS)]⟩ :: ⟨lR,.row 56 (al.bP:List aA) lS⟩ :: Ls s1.2 ax)) (fun aN=>Sum.elim (fun aN=>Exit.exit 0) (fun aN=>Exit.ret) aN) (fun aN ax=>Sum.elim (fun aN=> [(0,I.eq u),(1,I.uo (I.eq (.pointer (some ⟨lD,0,none⟩)))),(2,I.ptr aU),(9,I.eq (bf lR al.bP.length lS)),(10,I.of (al.bP.length:Int)),(11,I.of (aN.1)),(12,I.of (aN.2.1))]) (fun aN=> [(0,I.eq u),(1,I.uo (I.eq (.pointer (some ⟨lD,0,none⟩)))),(2,I.ptr aU),(9,I.eq (bf lR al.bP.length lS)),(10,I.of (al.bP.length:Int)),(11,I.of (aN.1)),(12,I.of (aN.2.1)),(28,I.of (aN.2.2.1))]) aN) (fun aN ax=>Sum.elim (fun aN=>(⟨some lD,.bZ (({ al with bP:= [] } :ca):ca) [(10,bf lR al.bP.length lS)]⟩ :: ⟨lR,.row 56 (al.bP:List aA) lS⟩ :: Ls aN.2.2 ax)) (fun aN=>(⟨some lD,.bZ (({ al with bP:= [] } :ca):ca) [(10,bf lR al.bP.length lS)]⟩ :: ⟨lR,.row 56 (al.bP:List aA) lS⟩ :: Lx aN.2.2.2 ax)) aN) g0 rfl (.same rfl (.same rfl (.same rfl (.same rfl (.same rfl (.same rfl .nil)))))) (fun s1 r h ax=> ?_) (fun ax=> ?_)
 ·clear an
  refine aM ?_
  refine bQ hf ?_
  refine cm ?_
  refine dz h (fun h=>?_) fun h=>?_
  ·refine dT ?_
   refine ak.seq ?_
   refine ak.block ?_
   refine aM ?_
   obtain⟨bn,dJ,h⟩:=aC h
   refine bp (ow (i:=1) (k:=bn) (xs:=(al.bP:List aA)) Tryz.underlying67 c6 (ad rfl) (ad rfl) rfl (eh dJ)) ?_
   refine bp (vc (i:=1) (k:=bn) (aP.id aA) (r:=(aJ al.bP bn)) c6 (ad rfl) rfl (eh dJ).1 rfl rfl) ?_
   refine dL iv fun ba=> ?_
   refine dh 0 c6 ?_
   refine cm ?_
   obtain⟨aG,bF,h⟩:=aC h
   refine ak.draw mixed 11 [some 15,some 16,some 17,some 18,some 19,some 20,some 21,some 22,some 23,some 24,some 25] [[],[0],[1],[2],[],[4],[],[3,5,6],[7],[8],[8]] [.val _,.val _,.val _,.val _,.val _,.val _,.val _,.val _,.val _,.val _,.val _] [false,false,false,false,false,false,false,false,false,false,false] (by kernel_rfl) rfl rfl rfl (fun eL=>⟨e7 fun L' aq=>L3 Tryz.underlying131 rfl (ad rfl),H1 dv,H1 (bc Gs),e7 fun L' aq=>C6 (i:=1) ((aP.id ca).comp BV) (r:=al.mA) h5 (ad rfl) (aq _ _ rfl rfl) rfl rfl (by rfl),H1 (bc oq),hT 0 nB iS,H1 (fy lz),jg Wc (Q1 bF),eE,e8 fun L' aq=>fun hb=>cZ (ad rfl),e8 fun L' aq=>fun hb=>fl (i:=0) (aP.id aA) (r:=(aJ al.bP bn)) c6 (ad rfl) (aq _ _ rfl rfl) rfl rfl,trivial⟩) fun eL=> ?_
   refine ah.cases aG (fun hb=> ?_) (fun hb=> ?_)
   ·replace h:=hC hb h
    obtain⟨aQ,cR,h⟩:=aC h
    refine ah.Up (Lin:= [⟨some ba,.var ((aJ al.bP bn):aA)⟩,⟨some lD,.bZ (({ al with bP:= [] } :ca):ca) [(10,bf lR al.bP.length lS)]⟩,⟨lR,.row 56 (al.bP:List aA) lS⟩]) (Ls:=Ls) (Lx:=Lx) (step:=step) (s:=s1.2) (gg:=ax) rfl ur hb rfl rfl rfl (cy rfl hb) cR rfl (fun s2 aD a5=> ?_) (fun dR aD a5=> ?_)
    ·subst aD; simp only [Sum.elim_inl] at h
     refine ah.eH (L2:=(⟨some ba,.var ((aJ al.bP bn):aA)⟩ :: ⟨some lD,.bZ (({ al with bP:= [] } :ca):ca) [(10,bf lR al.bP.length lS)]⟩ :: ⟨lR,.row 56 (al.bP:List aA) lS⟩ :: Ls s2 a5)) rfl ?_
     refine gH kt ?_
     refine lE ?_
     refine a0 ?_
     refine ak.tI (ad rfl) (by first | rfl | (rw [hb]; rfl)) ?_
     refine ak.skip ?_
     refine aj.fV ?_
     refine aj.next ?_
     refine ak.cU ?_
     refine bQ eR ?_
     refine aL ?_
     refine ah.nil ?_
     obtain rfl:=aT h
     exact kb a5 1
    ·subst aD; simp only [Sum.elim_inr] at h
     refine ah.eH (L2:=(⟨some ba,.var ((aJ al.bP bn):aA)⟩ :: ⟨some lD,.bZ (({ al with bP:= [] } :ca):ca) [(10,bf lR al.bP.length lS)]⟩ :: ⟨lR,.row 56 (al.bP:List aA) lS⟩ :: Lx dR a5)) rfl ?_
     refine gH kt ?_
     refine lE ?_
     refine a0 ?_
     refine ak.Hq (ad rfl) (by first | rfl | (rw [hb]; rfl)) ?_
     refine ak.ret ?_
     refine aj.fS ?_
     refine aj.ret ?_
     obtain rfl:=aT h
     exact hg a5 1
   ·replace h:=hD hb h
    refine ah.Wd (.of false) hb rfl rfl rfl rfl rfl ?_
    refine gH kt ?_
    refine lE ?_
    refine a0 ?_
    refine ak.tI (ad rfl) (by first | rfl | (rw [hb]; rfl)) ?_
    refine ak.skip ?_
    refine aj.fV ?_
    refine aj.next ?_
    refine ak.cU ?_
    refine bQ eR ?_
    refine aL ?_
    refine ah.nil ?_
    obtain rfl:=aT h
    exact kb ax 1
  ·refine ak.exit ?_
   refine aj.exit ?_
   obtain rfl:=aT h
   exact hg ax 0
 ·clear an
  rcases az with az | az
  ·simp only [Sum.elim_inl] at h
   refine aj.jd ?_
   refine aj.oz ?_
   refine aj.b2 1 rfl ?_
   refine aj.b2 1 rfl ?_
   obtain rfl:=aT h
   exact aj.lY ax (.cons_cons _ (.cons_cons _ (.refl _))) rfl rfl
  ·simp only [Sum.elim_inr] at h
   refine aj.fS ?_
   refine aj.b2 1 rfl ?_
   refine aj.b2 1 rfl ?_
   obtain rfl:=aT h
   exact aj.lY ax (.cons_cons _ (.cons_cons _ (.refl _))) rfl rfl
theorem PL {ab aU:List aA} {al:Int} {qK Nr:Option Nat} {fE vB:Nat} {r:List aA} (h:yx ab al aU=some r):bN Tryz.prog 240 [I.eq (bf qK ab.length fE),I.of al,I.eq (bf Nr aU.length vB)] [⟨qK,.row 56 ab fE⟩,⟨Nr,.row 56 aU vB⟩] (δ:=(Option Nat × Nat)) (fun d=>I.eq (bf d.1 r.length d.2)) (fun d=> [⟨d.1,.row 56 r d.2⟩]):=by
 unfold yx at h
 obtain⟨k,rfl,ar,a3,wi,ni,rfl⟩:=R9 h
 refine bN.of Tryz.func240 rfl Tryz.ntmps240 rfl fun W A=> ?_
 refine ak.seq ?_
 refine ak.cU ?_
 refine ah.v (e5 xn) rfl rfl rfl ?_
 refine ah.nil ?_
 refine aj.next ?_
 refine ak.seq ?_
 refine ak.cU ?_
 refine ah.v (cZ (ad rfl)) rfl rfl rfl ?_
 refine ah.v (cZ (ad rfl)) rfl rfl rfl ?_
 refine ah.v (CO (i:=0) (xs:=ab) Tryz.underlying67 c6 (ad rfl) rfl (.some (ad rfl)) .none rfl rfl ⟨ar,Nat.le_refl _⟩) rfl rfl rfl ?_
 refine ah.nil ?_
 refine aj.next ?_
 refine ak.seq ?_
 refine ak.cU ?_
 refine ah.v (cZ (ad rfl)) rfl rfl rfl ?_
 refine ah.v (rR (i:=1) (xs:=aU) Tryz.underlying67 (ad rfl) rfl rfl) rfl rfl rfl ?_
 refine ah.v (e5 (ad rfl)) rfl rfl rfl ?_
 refine ah.nil ?_
 refine aj.next ?_
 refine ak.seq ?_
 refine ak.seq ?_
 refine ak.cU ?_
 refine ah.v (cZ (ad rfl)) rfl rfl rfl ?_
 refine ah.v (ir (ad rfl) (bG 0)) rfl rfl rfl ?_
 refine ah.nil ?_
 refine aj.next ?_
 refine ak.cond (ad rfl) (fun ag=> ?_) (fun _=> ?_)
 ·exfalso; simp only [beq_iff_eq] at ag; omega
 refine ak.skip ?_
 refine aj.next ?_
 refine ak.seq ?_
 refine ak.cU ?_
 refine ah.v (cZ (ad rfl)) rfl rfl rfl ?_
 refine ah.v (rR (i:=0) (xs:=ab) Tryz.underlying67 (ad rfl) rfl rfl) rfl rfl rfl ?_
 refine ah.v (e5 (ad rfl)) rfl rfl rfl ?_
 refine ah.nil ?_
 refine aj.next ?_
 refine ak.seq ?_
 refine ak.seq ?_
 refine ak.cU ?_
 refine ah.v (cZ (ad rfl)) rfl rfl rfl ?_
 refine ah.v (cZ (ad rfl)) rfl rfl rfl ?_
 refine ah.v (ir (ad rfl) (ad rfl)) rfl rfl rfl ?_
 refine ah.nil ?_
 refine aj.next ?_
 refine ak.cond (ad rfl) (fun ag=> ?_) (fun ag=> ?_)
 ·have gM:k=ab.length:=by simp only [beq_iff_eq] at ag; omega
  subst gM
  refine ak.seq ?_
  refine ak.cU ?_
  refine ah.v (cZ (ad rfl)) rfl rfl rfl ?_
  refine ah.oh (α:=aA) 1 [2,13] ⟨rfl,rfl,trivial⟩ rfl ?_
  refine ah.v (cZ (ad rfl)) rfl rfl rfl ?_
  refine ah.app (i:=0) (xs:=ab) (ys:=aU) (r:=ab ++ aU) Tryz.underlying67 c6 iv (by kernel_rfl) (ad rfl) rfl (ad rfl) (by unfold iI; rw [if_pos ⟨wi,ni⟩]) rfl fun h6 gj=> ?_
  refine ah.v (e5 (ad rfl)) rfl rfl rfl ?_
  refine ah.nil ?_
  refine aj.next ?_
  refine ak.ret ?_
  have aD:ab.take ab.length ++ aU ++ ab.drop ab.length=ab ++ aU:=by simp
  rw [aD]
  exact aj.gF (h6,gj) (.cons_cons _ (List.nil_sublist _)) rfl rfl (dG rfl)
 have gM:k < ab.length:=by simp only [beq_eq_false_iff_ne] at ag; omega
 refine ak.skip ?_
 refine aj.next ?_
 refine ak.some (i:=0) (xs:=ab) rfl (by omega) fun p hp tV wc=> ?_
 subst hp
 refine ak.some (i:=1) (xs:=aU) rfl (by omega) fun q hq aay aaB=> ?_
 subst hq
 refine ak.apart rfl fun Eo=> ?_
 refine ak.seq ?_
 refine ak.seq ?_
 refine ak.cU ?_
 refine ah.v (cZ (ad rfl)) rfl rfl rfl ?_
 refine ah.v (cZ (ad rfl)) rfl rfl rfl ?_
 refine ah.v (eR (ad rfl) (ad rfl)) rfl rfl rfl ?_
 refine ah.v (cZ (ad rfl)) rfl rfl rfl ?_
 refine ah.v (Uq Tryz.underlying67 (ad rfl)) rfl rfl rfl ?_
 refine ah.v (xI (ad rfl) (ad rfl)) rfl rfl rfl ?_
 refine ah.nil ?_
 refine aj.next ?_
 have hw:bE ((ab.length:Int) + (aU.length:Int))=((ab.length + aU.length:Nat):Int):=by
  have mc:maxLen=9223372036854775807:=rfl
  rw [hr (by omega) (by omega)]; simp
 refine ak.cond (ad rfl) (fun eW=> ?_) (fun eW=> ?_)
 ·have xM:fE < ab.length + aU.length:=by rw [hw] at eW; simp only [decide_eq_true_eq] at eW; omega
  have mc:maxLen=9223372036854775807:=rfl
  have aB:bE (bE ((ab.length:Int) + (aU.length:Int)) - (k:Int))=((ab.length + aU.length - k:Nat):Int):=by
   rw [hw,hr (by omega) (by omega)]; omega
  refine ak.seq ?_
  refine ak.cU ?_
  refine ah.v (cZ (ad rfl)) rfl rfl rfl ?_
  refine ah.v (cZ (ad rfl)) rfl rfl rfl ?_
  refine ah.v (CO (i:=0) (xs:=ab) Tryz.underlying67 c6 (ad rfl) rfl .none (.some (ad rfl)) rfl rfl ⟨Nat.zero_le _,ar⟩) rfl rfl rfl ?_
  refine ah.v (cZ (ad rfl)) rfl rfl rfl ?_
  refine ah.v (cZ (ad rfl)) rfl rfl rfl ?_
  refine ah.v (eR (ad rfl) (ad rfl)) rfl rfl rfl ?_
  refine ah.v (cZ (ad rfl)) rfl rfl rfl ?_
  refine ah.v (la (ad rfl) (ad rfl)) rfl rfl rfl ?_
  refine ah.XU (i:=0) (m:=k) (k:=ab.length + aU.length - k) (xs:=ab) (z:=(default:aA)) Tryz.underlying67 Tryz.underlying3 c6 iv (by rfl) (by kernel_rfl) (ad rfl) (by rw [← aB]; exact ad rfl) rfl ar (by omega) (by omega) (by rw [show k + (ab.length + aU.length - k)=ab.length + aU.length by omega]; exact wi) (by omega) rfl fun aN gj=> ?_
  refine ah.v (e5 (ad rfl)) rfl rfl rfl ?_
  refine ah.nil ?_
  refine aj.next ?_
  have hlen:(ab.take k ++ List.replicate (ab.length + aU.length - k) (default:aA)).length=ab.length + aU.length:=by simp; omega
  refine ak.some (i:=0) (xs:=ab.take k ++ List.replicate (ab.length + aU.length - k) (default:aA)) rfl (by omega) fun dR iy We aaC=> ?_
  rw [hlen] at We
  refine ak.seq ?_
  refine ak.cU ?_
  refine ah.v (cZ (ad rfl)) rfl rfl rfl ?_
  refine ah.v (cZ (ad rfl)) rfl rfl rfl ?_
  refine ah.v (rH (α:=aA) (m:=k) (h:=k + (ab.length + aU.length - k)) Tryz.underlying67 c6 (ad rfl) (.some (ad rfl)) .none rfl rfl ⟨by omega,by omega⟩) rfl rfl rfl ?_
  refine ah.v (cZ (ad rfl)) rfl rfl rfl ?_
  refine ah.DQ (i:=0) (p:=aN) (off:=k * ae.size aA) (dLen:=k + (ab.length + aU.length - k) - k) (dCap:=gj - k) (N:=aU.length) (vs:=aU) (T:=56) Tryz.underlying67 c6 (by rw [← Gt (by omega)]; exact ad rfl) (L4 (i:=2) (ad rfl) rfl a3) (Nat.min_eq_left (by omega)) rfl rfl (fun A W o cells h cS=>F3 (by omega) h cS) ?_
  refine ah.nil ?_
  refine aj.next ?_
  have az:(ab.take k ++ List.replicate (ab.length + aU.length - k) (default:aA)).take k ++ aU ++ (ab.take k ++ List.replicate (ab.length + aU.length - k) (default:aA)).drop (k + aU.length)=ab.take k ++ aU ++ List.replicate (ab.length - k) (default:aA):=by
   have jB:(ab.take k).length=k:=by rw [List.length_take]; omega
   rw [List.take_left' jB,List.drop_append,jB,List.drop_eq_nil_of_le (by omega),List.nil_append,List.drop_replicate]
   congr 2
   omega
  have q2:bE ((k:Int) + (aU.length:Int))=((k + aU.length:Nat):Int):=by rw [hr (by omega) (by omega)]; simp
  refine ak.seq ?_
  refine ak.le (E':= [(0,I.eq (bf (some p) ab.length fE)),(1,I.of (k:Int)),(7,I.of (aU.length:Int)),(9,I.eq (bf (some aN) (k + (ab.length + aU.length - k)) gj))]) (.same rfl (.same rfl (.same rfl (.same rfl .nil)))) ?_
  refine ak.mE mixed (⟨some 46,[],[],[],fun _=>I.eq (bf (some aN) (k + (ab.length + aU.length - k)) gj),fun _ _=>⟨none,.dead⟩⟩ :: ⟨some 47,[],[],[],fun _=>I.of (k:Int),fun _ _=>⟨none,.dead⟩⟩ :: ⟨some 48,[],[],[],fun _=>I.of (aU.length:Int),fun _ _=>⟨none,.dead⟩⟩ :: ⟨some 49,(1 :: 2 :: []),[],[],fun _=>I.of (bE ((k:Int) + (aU.length:Int))),fun _ _=>⟨none,.dead⟩⟩ :: ⟨some 50,(0 :: 3 :: []),[],[],fun _=>I.eq (hF (some aN) (k + aU.length) ((k + (ab.length + aU.length - k)) - (k + aU.length)) gj (ae.size aA)),fun _ _=>⟨none,.dead⟩⟩ :: ⟨some 51,[],[],[],fun _=>I.eq (bf (some p) ab.length fE),fun _ _=>⟨none,.dead⟩⟩ :: ⟨some 52,[],[],[],fun _=>I.of (k:Int),fun _ _=>⟨none,.dead⟩⟩ :: ⟨some 53,(5 :: 6 :: []),[],[],fun _=>I.eq (hF (some p) k (ab.length - k) fE (ae.size aA)),fun _ _=>⟨none,.dead⟩⟩ :: ⟨some 54,(4 :: 7 :: []),(0 :: 1 :: []),(0 :: []),fun _=>I.of ((((ab.drop k).take (ab.length - k)).length:Nat):Int),fun _ _=>⟨some aN,.row 56 ((ab.take k ++ aU ++ List.replicate (ab.length - k) (default:aA)).take (k + aU.length) ++ (ab.drop k).take (ab.length - k) ++ (ab.take k ++ aU ++ List.replicate (ab.length - k) (default:aA)).drop (k + aU.length + ((ab.drop k).take (ab.length - k)).length)) gj⟩⟩ :: []) ((some 46,[],[],[]) :: (some 47,[],[],[]) :: (some 48,[],[],[]) :: (some 49,(1 :: 2 :: []),[],[]) :: (some 50,(0 :: 3 :: []),[],[]) :: (some 51,[],[],[]) :: (some 52,[],[],[]) :: (some 53,(5 :: 6 :: []),[],[]) :: (some 54,(4 :: 7 :: []),(0 :: 1 :: []),(0 :: [])) :: []) (0 :: 1 :: 7 :: 9 :: []) rfl rfl (by kernel_rfl) ⟨?_,?_,?_,?_,?_,?_,?_,?_,?_,trivial⟩ fun hd=> ?_
  ·exact h7 rfl rfl rfl fun hd E' L' ay aq=>cZ (ad (ay _ _ rfl))
  ·exact h7 rfl rfl rfl fun hd E' L' ay aq=>cZ (ad (ay _ _ rfl))
  ·exact h7 rfl rfl rfl fun hd E' L' ay aq=>cZ (ad (ay _ _ rfl))
  ·exact h7 rfl rfl rfl fun hd E' L' ay aq=>eR (ad (ay _ _ rfl)) (ad (ay _ _ rfl))
  ·exact h7 rfl rfl rfl fun hd E' L' ay aq=>rH (α:=aA) (m:=k + aU.length) (h:=(k + (ab.length + aU.length - k))) Tryz.underlying67 c6 (ad (ay _ _ rfl)) (.some (ad (ay _ _ rfl))) .none q2 rfl ⟨by omega,by omega⟩
  ·exact h7 rfl rfl rfl fun hd E' L' ay aq=>cZ (ad (ay _ _ rfl))
  ·exact h7 rfl rfl rfl fun hd E' L' ay aq=>cZ (ad (ay _ _ rfl))
  ·exact h7 rfl rfl rfl fun hd E' L' ay aq=>rH (α:=aA) (m:=k) (h:=ab.length) Tryz.underlying67 c6 (ad (ay _ _ rfl)) (.some (ad (ay _ _ rfl))) .none rfl rfl ⟨by omega,by omega⟩
  ·intro hd E' L' ay aq
   have bA:=aq 0 _ rfl rfl
   rw [az] at bA
   refine ah.DQ (i:=0) (p:=aN) (off:=(k + aU.length) * ae.size aA) (T:=56) (vs:=(ab.drop k).take (ab.length - k)) (N:=ab.length - k) (dLen:=(k + (ab.length + aU.length - k)) - (k + aU.length)) (dCap:=gj - (k + aU.length)) Tryz.underlying67 c6 (by rw [← Gt (p:=aN) (lo:=k + aU.length) (cap:=gj) (size:=ae.size aA) (by omega)]; exact ad (ay _ _ rfl)) (C8 (i:=1) (ad (ay _ _ rfl)) (aq 1 _ rfl rfl) (by omega) (by omega)) (by rw [show((ab.drop k).take (ab.length - k)).length=ab.length - k by simp]; exact Nat.min_eq_left (by omega)) bA rfl (fun A W o cells h cS=>F3 (by simp; omega) h cS) ?_
   refine ah.nil ?_
   exact aj.fin (ek []) rfl rfl
  have aX:((ab.take k ++ aU ++ List.replicate (ab.length - k) (default:aA)).take (k + aU.length) ++ (ab.drop k).take (ab.length - k) ++ (ab.take k ++ aU ++ List.replicate (ab.length - k) (default:aA)).drop (k + aU.length + ((ab.drop k).take (ab.length - k)).length))=ab.take k ++ aU ++ ab.drop k:=by
   have jB:(ab.take k ++ aU).length=k + aU.length:=by simp; omega
   have dj:(ab.drop k).take (ab.length - k)=ab.drop k:=List.take_of_length_le (by simp)
   have kd:(ab.take k ++ aU ++ List.replicate (ab.length - k) (default:aA)).drop (k + aU.length + (ab.drop k).length)= []:=List.drop_eq_nil_of_le (by rw [List.length_append,jB,List.length_replicate,List.length_drop]; omega)
   rw [dj,List.take_left' jB,kd,List.append_nil]
  refine aj.eH (L2:= [⟨some aN,.row 56 ((ab.take k ++ aU ++ List.replicate (ab.length - k) (default:aA)).take (k + aU.length) ++ (ab.drop k).take (ab.length - k) ++ (ab.take k ++ aU ++ List.replicate (ab.length - k) (default:aA)).drop (k + aU.length + ((ab.drop k).take (ab.length - k)).length)) gj⟩,⟨some p,.row 56 ab fE⟩,⟨some q,.row 56 aU vB⟩]) rfl ?_
  rw [aX]
  refine aj.le (E':= [(9,I.eq (bf (some aN) (k + (ab.length + aU.length - k)) gj))]) (.same rfl .nil) ?_
  refine aj.next ?_
  refine ak.seq ?_
  refine ak.cU ?_
  refine ah.v (cZ (ad rfl)) rfl rfl rfl ?_
  refine ah.v (e5 (ad rfl)) rfl rfl rfl ?_
  refine ah.nil ?_
  refine aj.next ?_
  refine ak.ret ?_
  have dS:k + (ab.length + aU.length - k)=(ab.take k ++ aU ++ ab.drop k).length:=by simp; omega
  rw [dS]
  exact aj.gF (some aN,gj) (.cons_cons _ (List.nil_sublist _)) rfl rfl (dG rfl)
 have xM:ab.length + aU.length≤fE:=by rw [hw] at eW; simp only [decide_eq_false_iff_not] at eW; omega
 have mc:maxLen=9223372036854775807:=rfl
 have q2:bE ((k:Int) + (aU.length:Int))=((k + aU.length:Nat):Int):=by rw [hr (by omega) (by omega)]; simp
 refine ak.skip ?_
 refine aj.next ?_
 refine ak.seq ?_
 refine ak.cU ?_
 refine ah.v (cZ (ad rfl)) rfl rfl rfl ?_
 refine ah.v (cZ (ad rfl)) rfl rfl rfl ?_
 refine ah.v (cZ (ad rfl)) rfl rfl rfl ?_
 refine ah.v (eR (ad rfl) (ad rfl)) rfl rfl rfl ?_
 refine ah.v (rH (α:=aA) (m:=0) (h:=ab.length + aU.length) Tryz.underlying67 c6 (ad rfl) .none (.some (ad rfl)) rfl hw ⟨by omega,by omega⟩) rfl rfl rfl ?_
 refine ah.v (e5 (ad rfl)) rfl rfl rfl ?_
 refine ah.nil ?_
 refine aj.next ?_
 refine ak.seq ?_
 refine ak.seq ?_
 refine ak.cU ?_
 refine ah.v (cZ (ad rfl)) rfl rfl rfl ?_
 refine ah.v (cZ (ad rfl)) rfl rfl rfl ?_
 refine ah.v (cZ (ad rfl)) rfl rfl rfl ?_
 refine ah.v (cZ (ad rfl)) rfl rfl rfl ?_
 refine ah.v (eR (ad rfl) (ad rfl)) rfl rfl rfl ?_
 refine ah.v (rH (α:=aA) (p:=p) (n:=ab.length + aU.length) (cap:=fE) (m:=k + aU.length) (h:=ab.length + aU.length) Tryz.underlying67 c6 (Du (size:=ae.size aA) (ad rfl)) (.some (ad rfl)) .none q2 rfl ⟨by omega,by omega⟩) rfl rfl rfl ?_
 refine ah.v (Wf (α:=aA) (p:=p) (q:=q) (T:=56) (U:=56) (xs:=ab) (vs:=aU) (cap:=fE) (cap':=vB) (i:=0) (j:=1) (tR:=4) (by kernel_rfl) Tryz.func245 (by kernel_rfl) (by kernel_rfl) (by kernel_rfl) (by kernel_rfl) Tryz.underlying67 c6 (ad rfl) (GY (p:=p) (lo:=k + aU.length) (cap:=fE) (size:=ae.size aA) (by omega) (ad rfl)) rfl rfl Eo (by omega)) rfl rfl rfl ?_
 refine ah.v (kt (ad rfl)) rfl rfl rfl ?_
 refine ah.nil ?_
 refine aj.next ?_
 refine ak.cond (ad rfl) (fun _=> ?_) (fun jT=>by cases jT)
 ·have kD:(ab.length + aU.length - 0)=ab.length + aU.length:=by omega
  have ON:(ab.drop k).take (ab.length - k)=ab.drop k:=List.take_of_length_le (by simp)
  refine ak.seq ?_
  refine ak.le (E':= [(0,I.eq (hF (some p) 0 (ab.length + aU.length - 0) fE (ae.size aA))),(1,I.of (k:Int)),(2,I.eq (bf (some q) aU.length vB)),(7,I.of (aU.length:Int))]) (.same rfl (.same rfl (.same rfl (.same rfl .nil)))) ?_
  refine ak.mE mixed (⟨some 69,[],[],[],fun _=>I.eq (hF (some p) 0 (ab.length + aU.length - 0) fE (ae.size aA)),fun _ _=>⟨none,.dead⟩⟩ :: ⟨some 70,[],[],[],fun _=>I.of (k:Int),fun _ _=>⟨none,.dead⟩⟩ :: ⟨some 71,[],[],[],fun _=>I.of (aU.length:Int),fun _ _=>⟨none,.dead⟩⟩ :: ⟨some 72,(1 :: 2 :: []),[],[],fun _=>I.of (bE ((k:Int) + (aU.length:Int))),fun _ _=>⟨none,.dead⟩⟩ :: ⟨some 73,(0 :: 3 :: []),[],[],fun _=>I.eq (hF (some p) (k + aU.length) (ab.length + aU.length - (k + aU.length)) fE (ae.size aA)),fun _ _=>⟨none,.dead⟩⟩ :: ⟨some 74,[],[],[],fun _=>I.eq (hF (some p) 0 (ab.length + aU.length - 0) fE (ae.size aA)),fun _ _=>⟨none,.dead⟩⟩ :: ⟨some 75,[],[],[],fun _=>I.of (k:Int),fun _ _=>⟨none,.dead⟩⟩ :: ⟨some 76,(5 :: 6 :: []),[],[],fun _=>I.eq (hF (some p) k (ab.length + aU.length - k) fE (ae.size aA)),fun _ _=>⟨none,.dead⟩⟩ :: ⟨some 77,(4 :: 7 :: []),(0 :: []),(0 :: []),fun _=>I.of ((((ab.drop k).take (ab.length - k)).length:Nat):Int),fun _ _=>⟨some p,.AN 56 ab k aU.length fE⟩⟩ :: []) ((some 69,[],[],[]) :: (some 70,[],[],[]) :: (some 71,[],[],[]) :: (some 72,(1 :: 2 :: []),[],[]) :: (some 73,(0 :: 3 :: []),[],[]) :: (some 74,[],[],[]) :: (some 75,[],[],[]) :: (some 76,(5 :: 6 :: []),[],[]) :: (some 77,(4 :: 7 :: []),(0 :: []),(0 :: [])) :: []) (0 :: 1 :: 2 :: 7 :: []) rfl rfl (by kernel_rfl) ⟨?_,?_,?_,?_,?_,?_,?_,?_,?_,trivial⟩ fun hd=> ?_
  ·exact h7 rfl rfl rfl fun hd E' L' ay aq=>cZ (ad (ay _ _ rfl))
  ·exact h7 rfl rfl rfl fun hd E' L' ay aq=>cZ (ad (ay _ _ rfl))
  ·exact h7 rfl rfl rfl fun hd E' L' ay aq=>cZ (ad (ay _ _ rfl))
  ·exact h7 rfl rfl rfl fun hd E' L' ay aq=>eR (ad (ay _ _ rfl)) (ad (ay _ _ rfl))
  ·exact h7 rfl rfl rfl fun hd E' L' ay aq=>rH (α:=aA) (n:=ab.length + aU.length) (m:=k + aU.length) (h:=ab.length + aU.length) Tryz.underlying67 c6 (Du (size:=ae.size aA) (ad (ay _ _ rfl))) (.some (ad (ay _ _ rfl))) .none q2 rfl ⟨by omega,by omega⟩
  ·exact h7 rfl rfl rfl fun hd E' L' ay aq=>cZ (ad (ay _ _ rfl))
  ·exact h7 rfl rfl rfl fun hd E' L' ay aq=>cZ (ad (ay _ _ rfl))
  ·exact h7 rfl rfl rfl fun hd E' L' ay aq=>rH (α:=aA) (n:=ab.length + aU.length) (m:=k) (h:=ab.length + aU.length) Tryz.underlying67 c6 (Du (size:=ae.size aA) (ad (ay _ _ rfl))) (.some (ad (ay _ _ rfl))) .none rfl rfl ⟨by omega,by omega⟩
  ·intro hd E' L' ay aq
   have bA:=aq 0 _ rfl rfl
   refine ah.DQ (i:=0) (p:=p) (off:=(k + aU.length) * ae.size aA) (T:=56) (vs:=(ab.drop k).take (ab.length - k)) (N:=ab.length + aU.length - k) (dLen:=ab.length + aU.length - (k + aU.length)) (dCap:=fE - (k + aU.length)) (cp':= .AN 56 ab k aU.length fE) Tryz.underlying67 c6 (GY (p:=p) (lo:=k + aU.length) (cap:=fE) (size:=ae.size aA) (by omega) (ad (ay _ _ rfl))) (C8 (i:=0) (ad (ay _ _ rfl)) bA (by omega) (by omega)) (by rw [ON]; rw [show(ab.drop k).length=ab.length + aU.length - (k + aU.length) by simp; omega]; exact Nat.min_eq_right (by omega)) bA rfl (fun A W o cells h cS=>Tr ar xM h (by rw [← ON]; exact cS)) ?_
   refine ah.nil ?_
   exact aj.fin (ek []) rfl rfl
  refine aj.eH (L2:= [⟨some p,.AN 56 ab k aU.length fE⟩,⟨some q,.row 56 aU vB⟩]) rfl ?_
  refine aj.le (E':= [(0,I.eq (hF (some p) 0 (ab.length + aU.length - 0) fE (ae.size aA))),(1,I.of (k:Int)),(2,I.eq (bf (some q) aU.length vB))]) (.same rfl (.same rfl (.same rfl .nil))) ?_
  refine aj.next ?_
  refine ak.seq ?_
  refine ak.cU ?_
  refine ah.v (cZ (ad rfl)) rfl rfl rfl ?_
  refine ah.v (cZ (ad rfl)) rfl rfl rfl ?_
  refine ah.v (rH (α:=aA) (n:=ab.length + aU.length) (m:=k) (h:=ab.length + aU.length) Tryz.underlying67 c6 (Du (size:=ae.size aA) (ad rfl)) (.some (ad rfl)) .none rfl rfl ⟨by omega,by omega⟩) rfl rfl rfl ?_
  refine ah.v (cZ (ad rfl)) rfl rfl rfl ?_
  refine ah.DQ (i:=0) (p:=p) (off:=k * ae.size aA) (dLen:=ab.length + aU.length - k) (dCap:=fE - k) (N:=aU.length) (vs:=aU) (T:=56) (cp':= .row 56 (ab.take k ++ aU ++ ab.drop k) fE) Tryz.underlying67 c6 (GY (p:=p) (lo:=k) (cap:=fE) (size:=ae.size aA) (by omega) (ad rfl)) (L4 (i:=1) (ad rfl) rfl a3) (Nat.min_eq_left (by omega)) rfl rfl (fun A W o cells h cS=>SM ar h cS) ?_
  refine ah.nil ?_
  refine aj.next ?_
  refine ak.seq ?_
  refine ak.cU ?_
  refine ah.v (cZ (ad rfl)) rfl rfl rfl ?_
  refine ah.v (e5 (ad rfl)) rfl rfl rfl ?_
  refine ah.nil ?_
  refine aj.next ?_
  refine ak.ret ?_
  have dS:ab.length + aU.length - 0=(ab.take k ++ aU ++ ab.drop k).length:=by simp; omega
  rw [zk,dS]
  exact aj.gF (some p,fE) (.cons_cons _ (List.nil_sublist _)) rfl rfl (dG rfl)
theorem Qi {ab:ca} {al:aA} {cP:Nat} {hQ:Option Nat} {hR:Nat} {r:Bool × ca} (h:uH ab al=some r):bN Tryz.prog 232 [I.eq (.pointer (some ⟨cP,0,none⟩)),I.of (al)] [⟨some cP,.bZ (({ ab with bP:= [] } :ca):ca) [(10,bf hQ ab.bP.length hR)]⟩,⟨hQ,.row 56 (ab.bP:List aA) hR⟩] (δ:=(Option Nat × Nat)) (fun d=>I.of (r.1)) (fun d=> [⟨some cP,.bZ (({ r.2 with bP:= [] } :ca):ca) [(10,bf d.1 (r.2.bP).length d.2)]⟩,⟨d.1,.row 56 (r.2.bP:List aA) d.2⟩]):=by
 unfold uH at h
 refine bN.of Tryz.func232 rfl Tryz.ntmps232 rfl fun W A=> ?_
 refine aM ?_
 refine cM fun ba=> ?_
 refine aW ?_
 refine cm ?_
 refine aM ?_
 refine aL ?_
 refine bp (Ds Tryz.underlying131 (ad rfl)) ?_
 refine aL ?_
 refine gH cZ ?_
 refine gH (bc nM) ?_
 refine fB (fun hb=>fl (i:=0) ((aP.id aA).comp m3) (r:=al.bt) cf (cy rfl hb) rfl rfl rfl) ?_
 obtain⟨aG,bF,h⟩:=aC h
 refine fB (fun hb=>bO.Wg (β:=ca) (γ:=aA) (b':=(ab:ca)) ((aP.id ca).comp w8) 1 2 0 rfl rfl rfl rfl rfl rfl u3 (bO.Ns 1 rfl u3 (bO.Wh (z:=(ab:ca)) 1 11 rfl (fun _ _ _ h=>h.1 hb) rfl u3 (k7 Ng (Qo (gr bF hb)) ⟨ad rfl,cy rfl hb,trivial⟩)))) ?_
 refine mP nO ?_
 refine AL ?_
 refine a0 ?_
 refine dz h (fun h=>?_) fun h=>?_
 ·refine aM ?_
  refine aW ?_
  refine a0 ?_
  refine ak.ret ?_
  refine aj.ret ?_
  refine aj.b2 2 rfl ?_
  refine aj.b2 2 rfl ?_
  obtain rfl:=aT h
  exact l9 (hQ,hR)
 ·refine dT ?_
  refine aM ?_
  refine aL ?_
  refine bp (Wi (ad rfl)) ?_
  refine aW ?_
  refine cm ?_
  obtain⟨aQ,cR,h⟩:=aC h
  refine kc [0,1,3,4,5,8,9,10,11,12,13,14,15,16,17,18] ?_
  refine ak.mE mixed (bk 20 [] [] _ :: bk 21 (0 :: []) [] _ :: bk 22 (1 :: []) [] _ :: bk 23 (2 :: []) (1 :: []) _ :: bk 24 [] (0 :: []) _ :: bk 25 [] [] _ :: bk 26 (3 :: 4 :: 5 :: []) (1 :: 2 :: []) _ :: bk 19 (6 :: []) [] _ :: bk 27 (7 :: []) [] _ :: bk 28 (7 :: []) [] _ :: bk 6 (8 :: []) [] _ :: bk 7 (9 :: []) [] _ :: []) _ (0 :: 1 :: 3 :: 4 :: 5 :: 8 :: 9 :: 10 :: 11 :: 12 :: 13 :: 14 :: 15 :: 16 :: 17 :: 18 :: []) rfl rfl (by kernel_rfl) ⟨gb,g8 dv,g8 (bc rM),cr fun hd E' L' ay aq=>il (i:=1) (q:=0) (β:=ca) (γ:=aA) qT (ad (ay _ _ rfl)) (aq 1 _ rfl rfl) rfl,mO 0 c6,gb,cr fun hd E' L' ay aq=>bO.Ur (β:=ca) (γ:=aA) (b':=(ab:ca)) ((aP.id ca).comp w8) 1 2 0 23 rfl (aq 1 _ rfl rfl) (aq 2 _ rfl rfl) rfl rfl rfl (ay _ _ rfl) (FT u3 FU) (bO.Ns 1 (Ip (OO rfl (aq 1 _ rfl rfl))) (FT u3 FU) (bO.Us (F:=(fun hy cq=>s4 ab hy cq)) 1 25 (ay _ _ rfl) (Ip (Ip (OO rfl (aq 1 _ rfl rfl)))) Wj (fun _ _ _ h=>Qh h) (FT u3 FU) (k7 Wk (PK cR) ⟨ad rfl,ad (ay _ _ rfl),ad rfl,trivial⟩))),gb,cr fun hd E' L' ay aq=>lb (ad (ay _ _ rfl)) rfl,cr fun hd E' L' ay aq=>lb (ad (ay _ _ rfl)) rfl,cr fun hd E' L' ay aq=>e5 (ad (ay _ _ rfl)),cr fun hd E' L' ay aq=>e5 (ad (ay _ _ rfl)),trivial⟩ fun fG=> ?_
  refine aj.eH (L2:= [⟨some ba,.var (al:aA)⟩,⟨some cP,.bZ (({ ab with bP:= [] } :ca):ca) [(10,bf hQ ab.bP.length hR)]⟩,⟨hQ,.row 56 (ab.bP:List aA) hR⟩]) rfl ?_
  refine lF [0,1,3,4,5,6,7,8,9,10,11,12,13,14,15,16,17,18,19,20,21,22,23,24,25,26,27,28] ?_
  refine aj.next ?_
  refine ak.seq ?_
  obtain⟨bm,hh,h⟩:=aC h
  obtain⟨cD,h9,h⟩:=aC h
  refine ak.nW 1 ?_
  refine kc [0,1,3,4,5,6,7,8,9,10,11,12,13,14,15,16,17,18,19,20,21,22,23,24,25,26,27,28] ?_
  refine ak.mE mixed (bk 29 [] [] _ :: bk 30 [] [] _ :: bk 31 (1 :: []) [] _ :: bk 32 (2 :: []) [] _ :: bk 33 (3 :: []) (1 :: []) _ :: bk 34 [] [] _ :: bk 35 [] (0 :: []) _ :: bk 36 (6 :: []) [] _ :: ⟨some 37,(7 :: []),(3 :: []),(3 :: []),fun hd=>I.eq (bf (hd 8 0) [bm].length 1),fun hd _=>⟨(hd 8 0),.row 56 ([bm]:List aA) 1⟩⟩ :: ⟨some 38,(4 :: 5 :: 8 :: []),(2 :: 3 :: []),(2 :: 3 :: []),fun hd=>I.eq (bf (hd 9 0) cD.length ((hd 9 1).getD 0)),fun hd j=>bif Nat.beq j 2 then⟨(hd 9 0),.row 56 (cD:List aA) ((hd 9 1).getD 0)⟩ else⟨none,.dead⟩⟩ :: bk 39 (0 :: []) [] _ :: bk 40 (10 :: []) [] _ :: ⟨none,(4 :: 9 :: 11 :: []),(1 :: []),(1 :: []),fun _=>I.any,fun hd _=>⟨some cP,.bZ (({ ab with bP:= [] } :ca):ca) [(10,bf (hd 9 0) cD.length ((hd 9 1).getD 0))]⟩⟩ :: []) _ (0 :: 1 :: 3 :: 4 :: 5 :: 6 :: 7 :: 8 :: 9 :: 10 :: 11 :: 12 :: 13 :: 14 :: 15 :: 16 :: 17 :: 18 :: 19 :: 20 :: 21 :: 22 :: 23 :: 24 :: 25 :: 26 :: 27 :: 28 :: []) rfl rfl (by kernel_rfl) ⟨gb,gb,g8 dv,g8 (bc rM),cr fun hd E' L' ay aq=>il (i:=1) (q:=0) (β:=ca) (γ:=aA) qT (ad (ay _ _ rfl)) (aq 1 _ rfl rfl) rfl,gb,mO 0 c6,cr fun hd E' L' ay aq=>k7 Au (yX hh) ⟨ad (ay _ _ rfl),trivial⟩,?_,?_,g8 dv,g8 (bc rM),?_,trivial⟩ fun hi=> ?_
  ·intro hd E' L' ay aq
   refine ah.pM (α:=aA) (r:= [bm]) Tryz.underlying67 c6 iv rfl rfl (.cons (by simp) (ad (ay _ _ rfl)) (.nil)) rfl fun h6=> ?_
   refine ah.nil ?_
   refine aj.place 3 (aq 3 _ rfl rfl) ?_
   exact aj.fin (ek [h6]) rfl rfl
  ·intro hd E' L' ay aq
   refine ah.Ut (fun q=>⟨q.1,.row 56 (cD:List aA) q.2⟩) 2 3 Wl (PL h9) ⟨ad (ay _ _ rfl),ad (ay _ _ rfl),ad (ay _ _ rfl),trivial⟩ rfl (aq 2 _ rfl rfl) (aq 3 _ rfl rfl) (fun _=>rfl) rfl fun⟨mM,gj⟩=> ?_
   refine ah.nil ?_
   exact aj.fin (ek [mM,some gj]) rfl rfl
  ·intro hd E' L' ay aq
   refine ah.kq (i:=1) (γ:=aA) (b':=(({ ab with bP:= [] } :ca):ca)) (os':= [(10,bf (hd 9 0) cD.length ((hd 9 1).getD 0))]) ((aP.id ca).comp w8) qT (ad (ay _ _ rfl)) (ad (ay _ _ rfl)) jy (aq 1 _ rfl rfl) rfl rfl rfl ?_
   refine ah.nil ?_
   exact aj.fin (ek []) rfl rfl
  refine aj.eH (L2:= [⟨some ba,.var (al:aA)⟩,⟨some cP,.bZ (({ ab with bP:= [] } :ca):ca) [(10,bf (hi 9 0) cD.length ((hi 9 1).getD 0))]⟩,⟨(hi 9 0),.row 56 (cD:List aA) ((hi 9 1).getD 0)⟩,⟨none,.dead⟩]) rfl ?_
  refine lF [0,1,3,4,5,6,7,8,9,10,11,12,13,14,15,16,17,18,19,20,21,22,24,25,26,27,28,29,30,31,32,34,35,36,38,39,40] ?_
  refine aj.b2 3 rfl ?_
  refine aj.next ?_
  refine aM ?_
  refine aW ?_
  refine a0 ?_
  refine ak.ret ?_
  refine aj.b2 3 rfl ?_
  refine aj.b2 3 rfl ?_
  obtain rfl:=aT h
  exact l9 ((hi 9 0),((hi 9 1).getD 0))
theorem QN {hp:aH Cell} {ab:Ref} {al:aw} {aU:Int} {r:Bool × (aH Cell)} (h:rq hp ab al aU=some r):bN Tryz.prog 210 [I.of (ab),I.of (al),I.of (aU)] ([] ++ aZ hp) (δ:=Unit) (fun d=>I.of (r.1)) (fun d=> [] ++ aZ r.2):=by
 unfold rq at h
 refine bN.ofM Tryz.func210 rfl Tryz.ntmps210 rfl fun W A=> ?_
 refine aM ?_
 refine cM fun ba=> ?_
 refine aW ?_
 refine cm ?_
 refine aM ?_
 refine aL ?_
 refine cV 0 cB ?_
 refine aL ?_
 obtain⟨aG,bF,h⟩:=aC h
 refine ah.iK (fr.iG 1 rfl Np (Ke bF) ⟨ad rfl,ad rfl,ad rfl,trivial⟩) rfl rfl rfl ?_
 refine aL ?_
 refine gZ ?_
 refine gZ ?_
 refine aW ?_
 refine aW ?_
 refine cc ?_
 refine aL ?_
 refine bj kt ?_
 refine a0 ?_
 refine dz h (fun h=>?_) fun h=>?_
 ·refine aM ?_
  refine aW ?_
  refine a0 ?_
  refine ak.ret ?_
  refine aj.ret ?_
  obtain rfl:=aT h
  refine aj.At ?_
  exact aj.gF () (.cons _ (.refl _)) rfl rfl (dG rfl)
 ·refine dT ?_
  refine aM ?_
  refine aL ?_
  obtain⟨bT,c7,h⟩:=aC h
  refine bp (dv (eb (ad rfl) c7)) ?_
  refine bj (bc rP) ?_
  obtain⟨bw,di,h⟩:=aC h
  refine bp (fv ((aP.id eJ).comp rp) (r:=bw.bK) dO (ad rfl) (eK (n:=1) rfl (lU di) rfl) rfl rfl) ?_
  refine ah.pM (α:=Ref) (r:= [bw.bK]) Tryz.underlying309 dO vA rfl rfl (.cons (by simp) (ad rfl) (.nil)) rfl fun h6=> ?_
  refine ah.o9 (z:=(default:List Ref)) [0] Ts Wm rfl fun bh=> ?_
  refine ah.own (α:=Ref) 299 ?_
  refine ah.o9 (z:=(default:List Int)) [0] Uu XV rfl fun cH=> ?_
  refine ah.own (α:=Int) 3 ?_
  refine ah.kq (i:=3) (γ:=Ref) (b':=([]:List Ref)) (os':= [(0,bf h6 [bw.bK].length 1)]) (aP.id (List Ref)) tO (ad rfl) (ad rfl) jy rfl rfl rfl rfl ?_
  refine ah.own (α:=Int) 3 ?_
  refine ah.kq (i:=2) (γ:=Int) (b':=([]:List Int)) (os':= [(0,bf none ([]:List Int).length 0)]) (aP.id (List Int)) D0 (ad rfl) (xn) jy rfl rfl rfl rfl ?_
  refine cm ?_
  refine aM ?_
  refine aL ?_
  refine cV 6 cB ?_
  refine aL ?_
  obtain⟨aQ,cR,h⟩:=aC h
  refine gY DO (Ct cR) ?_
  refine a0 ?_
  refine ak.block ?_
  obtain⟨az,an,h⟩:=aC h
  refine FR (hp:=hp) (γ:=(Option Nat × Nat) × (Option Nat × Nat)) (g0:=((none,0),(h6,1))) (Ls:=fun s1 ax=>(⟨ax.1.1,.row 3 (s1.1:List Int) ax.1.2⟩ :: ⟨none,.row 3 (([]:List Int):List Int) 0⟩ :: ⟨some cH,.bZ ([]:List Int) [(0,bf ax.1.1 s1.1.length ax.1.2)]⟩ :: ⟨none,.row 299 (([]:List Ref):List Ref) 0⟩ :: ⟨some bh,.bZ ([]:List Ref) [(0,bf ax.2.1 s1.2.length ax.2.2)]⟩ :: ⟨ax.2.1,.row 299 (s1.2:List Ref) ax.2.2⟩ :: ⟨some ba,.var (al:aw)⟩ :: aZ hp)) (Lx:=fun aN ax=>Empty.elim aN) (fun s1 ax=> [⟨ax.1.1,.row 3 (s1.1:List Int) ax.1.2⟩,⟨none,.row 3 (([]:List Int):List Int) 0⟩,⟨some cH,.bZ ([]:List Int) [(0,bf ax.1.1 s1.1.length ax.1.2)]⟩,⟨none,.row 299 (([]:List Ref):List Ref) 0⟩,⟨some bh,.bZ ([]:List Ref) [(0,bf ax.2.1 s1.2.length ax.2.2)]⟩,⟨ax.2.1,.row 299 (s1.2:List Ref) ax.2.2⟩,⟨some ba,.var (al:aw)⟩]) (fun aN=>Empty.elim aN) rfl DP rfl Fh an (fun _ _=>rfl) rfl rfl (fun oI s1 r h ax kV kZ kW l D rec sq=> ?_) (fun s1 aD ax D=> ?_) (fun aN aD ax D=> ?_)
  ·clear an
   refine ak.cU ?_
   refine aW ?_
   refine ah.nil ?_
   refine aj.begin 0 rfl sq ?_
   refine ak.block ?_
   obtain⟨bn,dJ,h⟩:=aC h
   obtain⟨bU,eS,h⟩:=aC h
   obtain⟨c3,dj,h⟩:=aC h
   obtain⟨b5,eW,h⟩:=aC h
   obtain⟨bm,hh,h⟩:=aC h
   obtain⟨cD,h9,h⟩:=aC h
   refine kc [0,1,2,4,6,7,8,9,10,11,14,15,16,17,18,19,20,21,22,23,24,25,26,28,29,30,31,32] ?_
   refine ak.pG 9 mixed (bk 33 [] (6 :: []) _ :: bk 34 [] (6 :: []) _ :: bk 35 [] (6 :: []) _ :: bk 36 (2 :: []) (7 :: []) _ :: bk 37 (3 :: []) [] _ :: bk 38 (1 :: 3 :: 4 :: []) (7 :: []) _ :: bk 39 (3 :: 5 :: []) (7 :: []) _ :: bk 40 [] [] _ :: bk 41 (3 :: 5 :: 6 :: []) [] _ :: bk 42 (3 :: 5 :: 6 :: 8 :: []) [] _ :: bk 43 (3 :: 5 :: 6 :: 7 :: 9 :: []) [] _ :: ⟨some 44,(3 :: 5 :: 6 :: 10 :: []),[],[],fun _=>I.of (bB b5.ct c3),fun _ _=>⟨none,.dead⟩⟩ :: bk 45 (3 :: 5 :: 6 :: 11 :: []) [] _ :: ⟨some 46,(0 :: 3 :: 5 :: 6 :: 12 :: []),(7 :: []),(7 :: []),fun hd=>I.eq (bf (hd 13 0) bm.length ((hd 13 1).getD 0)),fun hd _=>⟨(hd 13 0),.row 299 (bm:List Ref) ((hd 13 1).getD 0)⟩⟩ :: bk 47 [] (4 :: []) _ :: bk 48 [] [] _ :: bk 49 (15 :: []) [] _ :: ⟨some 50,(14 :: 16 :: []),(2 :: []),(2 :: []),fun hd=>I.eq (bf (hd 17 0) cD.length ((hd 17 1).getD 0)),fun hd _=>⟨(hd 17 0),.row 3 (cD:List Int) ((hd 17 1).getD 0)⟩⟩ :: ⟨none,(0 :: 1 :: 2 :: 13 :: []),(6 :: []),(6 :: []),fun _=>I.any,fun hd _=>⟨some bh,.bZ ([]:List Ref) [(0,bf (hd 13 0) bm.length ((hd 13 1).getD 0))]⟩⟩ :: ⟨none,(14 :: 17 :: []),(4 :: []),(4 :: []),fun _=>I.any,fun hd _=>⟨some cH,.bZ ([]:List Int) [(0,bf (hd 17 0) cD.length ((hd 17 1).getD 0))]⟩⟩ :: []) _ (0 :: 1 :: 2 :: 4 :: 6 :: 7 :: 8 :: 9 :: 10 :: 11 :: 14 :: 15 :: 16 :: 17 :: 18 :: 19 :: 20 :: 21 :: 22 :: 23 :: 24 :: 25 :: 26 :: 28 :: 29 :: 30 :: 31 :: 32 :: []) rfl rfl (by kernel_rfl) (by kernel_rfl) ⟨b8.q (cr fun hd E' L' ay aq=>il (i:=6) (q:=0) (β:=List Ref) (γ:=Ref) tO (ad (ay _ _ rfl)) (aq 6 _ rfl rfl) rfl),b8.q (cr fun hd E' L' ay aq=>il (i:=6) (q:=0) (β:=List Ref) (γ:=Ref) tO (ad (ay _ _ rfl)) (aq 6 _ rfl rfl) rfl),b8.q (cr fun hd E' L' ay aq=>il (i:=6) (q:=0) (β:=List Ref) (γ:=Ref) tO (ad (ay _ _ rfl)) (aq 6 _ rfl rfl) rfl),b8.q (cr fun hd E' L' ay aq=>rR (i:=7) Tryz.underlying309 (ad (ay _ _ rfl)) rfl (aq 7 _ rfl rfl)),b8.q (ym la),b8.q (cr fun hd E' L' ay aq=>ow (i:=7) (k:=bn) (xs:=(s1.2:List Ref)) Tryz.underlying309 dO (ad (ay _ _ rfl)) (ad (ay _ _ rfl)) (aq 7 _ rfl rfl) (eh dJ)),b8.q (cr fun hd E' L' ay aq=>vc (i:=7) (k:=bn) (aP.id Ref) (r:=(aJ s1.2 bn)) dO (ad (ay _ _ rfl)) (aq 7 _ rfl rfl) (eh dJ).1 rfl rfl),b8.q (gb),b8.q (cr fun hd E' L' ay aq=>dv (eb (ad (ay _ _ rfl)) eS)),b8.q (g8 (bc qE)),b8.q (cr fun hd E' L' ay aq=>l3 (k:=c3) r2 (ad (ay _ _ rfl)) (ad (ay _ _ rfl)) (eh dj)),?_,b8.q (cr fun hd E' L' ay aq=>j5 (r:= [bB b5.ct c3]) Tryz.underlying309 dO vA rfl rfl (.cons (by simp) (ad (ay _ _ rfl)) (.nil))),?_,b8.q (cr fun hd E' L' ay aq=>il (i:=4) (q:=0) (β:=List Int) (γ:=Int) D0 (ad (ay _ _ rfl)) (aq 4 _ rfl rfl) rfl),b8.q (gb),b8.q (cr fun hd E' L' ay aq=>j5 (r:= [oI]) Tryz.underlying41 cf lk rfl rfl (.cons (by simp) (ad (ay _ _ rfl)) (.nil))),?_,?_,?_,trivial⟩ fun fG=> ?_
   ·intro hd E' L' ay aq ck
    refine bp (fv (((aP.id dn).comp qp).comp (aP.idx (α:=Ref) 2 c3 (eh dj).1)) (r:=bB b5.ct c3) dO (ad (ay _ _ rfl)) (eK (n:=9) (ck.trans rfl) (iO eW) rfl) rfl rfl) ?_
    refine ah.nil ?_
    exact aj.fin (ek []) rfl rfl
   ·intro hd E' L' ay aq ck
    refine ah.app (i:=7) Tryz.underlying309 dO vA (bytes:=8) (by kernel_rfl) (ad (ay _ _ rfl)) (aq 7 _ rfl rfl) (ad (ay _ _ rfl)) hh rfl fun mM gj=> ?_
    refine ah.nil ?_
    exact aj.fin (ek [mM,some gj]) rfl rfl
   ·intro hd E' L' ay aq ck
    refine ah.app (i:=2) Tryz.underlying41 cf lk (bytes:=8) (by kernel_rfl) (ad (ay _ _ rfl)) (aq 2 _ rfl rfl) (ad (ay _ _ rfl)) h9 rfl fun oB sa=> ?_
    refine ah.nil ?_
    exact aj.fin (ek [oB,some sa]) rfl rfl
   ·intro hd E' L' ay aq ck
    refine ah.kq (i:=6) (γ:=Ref) (b':=([]:List Ref)) (os':= [(0,bf (hd 13 0) bm.length ((hd 13 1).getD 0))]) (aP.id (List Ref)) tO (ad (ay _ _ rfl)) (ad (ay _ _ rfl)) jy (aq 6 _ rfl rfl) rfl rfl rfl ?_
    refine ah.nil ?_
    exact aj.fin (ek []) rfl rfl
   ·intro hd E' L' ay aq ck
    refine ah.kq (i:=4) (γ:=Int) (b':=([]:List Int)) (os':= [(0,bf (hd 17 0) cD.length ((hd 17 1).getD 0))]) (aP.id (List Int)) D0 (ad (ay _ _ rfl)) (ad (ay _ _ rfl)) jy (aq 4 _ rfl rfl) rfl rfl rfl ?_
    refine ah.nil ?_
    exact aj.fin (ek []) rfl rfl
   refine aj.eH (L2:=(⟨some l,.is (.loop { rec with state:= .busy })⟩ :: ⟨some D,.db⟩ :: ⟨(fG 17 0),.row 3 (cD:List Int) ((fG 17 1).getD 0)⟩ :: ⟨none,.row 3 (([]:List Int):List Int) 0⟩ :: ⟨some cH,.bZ ([]:List Int) [(0,bf (fG 17 0) cD.length ((fG 17 1).getD 0))]⟩ :: ⟨none,.row 299 (([]:List Ref):List Ref) 0⟩ :: ⟨some bh,.bZ ([]:List Ref) [(0,bf (fG 13 0) bm.length ((fG 13 1).getD 0))]⟩ :: ⟨(fG 13 0),.row 299 (bm:List Ref) ((fG 13 1).getD 0)⟩ :: ⟨some ba,.var (al:aw)⟩ :: aZ hp)) rfl ?_
   refine lF [0,1,2,4,6,7,8,9,10,11,14,15,16,17,18,19,20,21,22,23,24,25,26,28,29,30,31,32,36,37,39,40,41,42,43,44,45,46,48,49,50] ?_
   refine aj.fV ?_
   obtain rfl:=aT h
   exact aj.Io (((fG 17 0),((fG 17 1).getD 0)),((fG 13 0),((fG 13 1).getD 0))) 0 rfl
  ·clear an; subst aD; simp only [Sum.elim_inl] at h
   refine aj.eH (L2:=(⟨some D,.db⟩ :: ⟨ax.1.1,.row 3 (s1.1:List Int) ax.1.2⟩ :: ⟨none,.row 3 (([]:List Int):List Int) 0⟩ :: ⟨some cH,.bZ ([]:List Int) [(0,bf ax.1.1 s1.1.length ax.1.2)]⟩ :: ⟨none,.row 299 (([]:List Ref):List Ref) 0⟩ :: ⟨some bh,.bZ ([]:List Ref) [(0,bf ax.2.1 s1.2.length ax.2.2)]⟩ :: ⟨ax.2.1,.row 299 (s1.2:List Ref) ax.2.2⟩ :: ⟨some ba,.var (al:aw)⟩ :: aZ hp)) rfl ?_
   refine aj.fV ?_
   refine aj.next ?_
   refine aM ?_
   refine bp (il (i:=5) (q:=0) (β:=List Ref) (γ:=Ref) tO (ad rfl) rfl rfl) ?_
   refine aL ?_
   obtain⟨eI,kd,h⟩:=aC h
   refine bp (ow (i:=6) (k:=eI) (xs:=(s1.2:List Ref)) Tryz.underlying309 dO (ad rfl) (ad rfl) rfl (eh kd)) ?_
   refine bp (vc (i:=6) (k:=eI) (aP.id Ref) (r:=(aJ s1.2 eI)) dO (ad rfl) rfl (eh kd).1 rfl rfl) ?_
   refine aW ?_
   refine cc ?_
   refine aL ?_
   refine aL ?_
   obtain⟨lr,q1,h⟩:=aC h
   refine bp (dv (eb (ad rfl) q1)) ?_
   refine bj (bc qD) ?_
   obtain⟨eo,jT,h⟩:=aC h
   obtain⟨b9,kv,h⟩:=aC h
   refine ah.nL (k':=Cell.ev ({ eo with cW:=false } :dn)) 8 rfl ((aP.id dn).comp qt) (v:=(false:Bool)) ix (ad rfl) (fQ false) (iO jT) rfl rfl rfl rfl (aT kv) ?_
   refine bp (dv (eb (ad rfl) q1)) ?_
   refine bj (bc zu) ?_
   obtain⟨n5,AO,h⟩:=aC h
   obtain⟨bI,tU,h⟩:=aC h
   refine ah.nL (k':=Cell.ev ({ n5 with gi:=0 } :dn)) 8 rfl ((aP.id dn).comp yU) (v:=(0:Int)) cf (ad rfl) (bG 0) (iO AO) rfl rfl rfl rfl (aT tU) ?_
   refine cm ?_
   refine aM ?_
   refine aL ?_
   refine bQ la ?_
   refine aW ?_
   refine a0 ?_
   refine ak.block ?_
   obtain⟨aX,an,h⟩:=aC h
   refine ak.tL (σ:=Int × (aH Cell)) (ε:=(Int × Bool × (aH Cell))) (γ:=Unit) (δ:=Unit) an (fun s2 a5=> [(0,I.of (ab)),(1,I.of (al)),(2,I.of (aU)),(4,I.eq (.pointer (some ⟨ba,0,none⟩))),(6,I.of (false)),(8,I.of (aG.2)),(9,I.eq (.pointer (some ⟨bh,0,none⟩))),(10,I.eq (.pointer (some ⟨cH,0,none⟩))),(12,I.of (aJ s1.2 eI)),(13,I.of (s2.1)),(22,I.of (!aG.2)),(31,I.gy 220 [I.ptr aQ.1,I.ptr aQ.2.1,I.ptr aQ.2.2])]) (fun s2 a5=>(⟨some D,.db⟩ :: ⟨ax.1.1,.row 3 (s1.1:List Int) ax.1.2⟩ :: ⟨none,.row 3 (([]:List Int):List Int) 0⟩ :: ⟨some cH,.bZ ([]:List Int) [(0,bf ax.1.1 s1.1.length ax.1.2)]⟩ :: ⟨none,.row 299 (([]:List Ref):List Ref) 0⟩ :: ⟨some bh,.bZ ([]:List Ref) [(0,bf ax.2.1 s1.2.length ax.2.2)]⟩ :: ⟨ax.2.1,.row 299 (s1.2:List Ref) ax.2.2⟩ :: ⟨some ba,.var (al:aw)⟩ :: aZ s2.2)) (fun dR=>Exit.exit 2) (fun dR a5=> [(0,I.of (ab)),(1,I.of (al)),(2,I.of (aU)),(4,I.eq (.pointer (some ⟨ba,0,none⟩))),(6,I.of (false)),(8,I.of (aG.2)),(9,I.eq (.pointer (some ⟨bh,0,none⟩))),(10,I.eq (.pointer (some ⟨cH,0,none⟩))),(12,I.of (aJ s1.2 eI)),(13,I.of (dR.1)),(22,I.of (!aG.2)),(31,I.gy 220 [I.ptr aQ.1,I.ptr aQ.2.1,I.ptr aQ.2.2]),(72,I.of (dR.2.1))]) (fun dR a5=>(⟨some D,.db⟩ :: ⟨ax.1.1,.row 3 (s1.1:List Int) ax.1.2⟩ :: ⟨none,.row 3 (([]:List Int):List Int) 0⟩ :: ⟨some cH,.bZ ([]:List Int) [(0,bf ax.1.1 s1.1.length ax.1.2)]⟩ :: ⟨none,.row 299 (([]:List Ref):List Ref) 0⟩ :: ⟨some bh,.bZ ([]:List Ref) [(0,bf ax.2.1 s1.2.length ax.2.2)]⟩ :: ⟨ax.2.1,.row 299 (s1.2:List Ref) ax.2.2⟩ :: ⟨some ba,.var (al:aw)⟩ :: aZ dR.2.2)) () rfl (.same rfl (.same rfl (.same rfl (.same rfl (.same rfl (.same rfl (.same rfl (.same rfl (.same rfl (.same rfl (.same rfl (.same rfl .nil)))))))))))) (fun s2 r h a5=> ?_) (fun a5=> ?_)
   ·clear an
    refine ak.seq ?_
    refine aM ?_
    refine aL ?_
    refine bQ nO ?_
    refine aL ?_
    refine fB (fun hb=>il (i:=5) (q:=0) (β:=List Ref) (γ:=Ref) tO (ad rfl) rfl rfl) ?_
    refine gH cZ ?_
    refine mP eR ?_
    obtain⟨jD,p0,h⟩:=aC h
    refine fB (fun hb=>ow (i:=6) (k:=jD) (xs:=(s1.2:List Ref)) Tryz.underlying309 dO (cy rfl hb) (cy rfl hb) rfl (eh (gr p0 hb))) ?_
    refine fB (fun hb=>vc (i:=6) (k:=jD) (aP.id Ref) (r:=(aJ s1.2 jD)) dO (cy rfl hb) rfl (eh (gr p0 hb)).1 rfl rfl) ?_
    obtain⟨c8,jS,h⟩:=aC h
    refine ah.yn (fun hb=>fr.iG 8 rfl Nt (J4 (gr jS hb)) ⟨cy rfl hb,trivial⟩) rfl rfl rfl rfl rfl ?_
    refine lE ?_
    refine a0 ?_
    refine dz h (fun h=>?_) fun h=>?_
    ·refine dT ?_
     refine ak.seq ?_
     refine ak.block ?_
     obtain⟨wT,OP,h⟩:=aC h
     obtain⟨wU,OQ,h⟩:=aC h
     obtain⟨qg,Iq,h⟩:=aC h
     refine kc [0,1,2,4,6,8,9,10,12,13,22,31,63,64,65,66,67,68,69,70,71,72] ?_
     refine ak.xN 10 8 mixed (bk 75 [] (5 :: []) _ :: bk 76 [] [] _ :: bk 77 (0 :: 1 :: []) (6 :: []) _ :: bk 78 (2 :: []) (6 :: []) _ :: bk 79 [] (3 :: []) _ :: bk 80 [] [] _ :: bk 81 (4 :: 5 :: []) (1 :: []) _ :: bk 82 (6 :: []) (1 :: []) _ :: bk 83 (3 :: []) [] _ :: bk 84 (8 :: []) [] _ :: []) _ (0 :: 1 :: 2 :: 4 :: 6 :: 8 :: 9 :: 10 :: 12 :: 13 :: 22 :: 31 :: 63 :: 64 :: 65 :: 66 :: 67 :: 68 :: 69 :: 70 :: 71 :: 72 :: []) rfl rfl (by kernel_rfl) (by kernel_rfl) ⟨b8.q (cr fun hd E' L' ay aq=>il (i:=5) (q:=0) (β:=List Ref) (γ:=Ref) tO (ad (ay _ _ rfl)) (aq 5 _ rfl rfl) rfl),b8.q (gb),b8.q (cr fun hd E' L' ay aq=>ow (i:=6) (k:=wT) (xs:=(s1.2:List Ref)) Tryz.underlying309 dO (ad (ay _ _ rfl)) (ad (ay _ _ rfl)) (aq 6 _ rfl rfl) (eh OP)),b8.q (cr fun hd E' L' ay aq=>vc (i:=6) (k:=wT) (aP.id Ref) (r:=(aJ s1.2 wT)) dO (ad (ay _ _ rfl)) (aq 6 _ rfl rfl) (eh OP).1 rfl rfl),b8.q (cr fun hd E' L' ay aq=>il (i:=3) (q:=0) (β:=List Int) (γ:=Int) D0 (ad (ay _ _ rfl)) (aq 3 _ rfl rfl) rfl),b8.q (gb),b8.q (cr fun hd E' L' ay aq=>ow (i:=1) (k:=wU) (xs:=(s1.1:List Int)) Tryz.underlying41 cf (ad (ay _ _ rfl)) (ad (ay _ _ rfl)) (aq 1 _ rfl rfl) (eh OQ)),b8.q (cr fun hd E' L' ay aq=>vc (i:=1) (k:=wU) (aP.id Int) (r:=(aJ s1.1 wU)) cf (ad (ay _ _ rfl)) (aq 1 _ rfl rfl) (eh OQ).1 rfl rfl),b8.q (cr fun hd E' L' ay aq=>dv (eb (ad (ay _ _ rfl)) Iq)),b8.q (g8 (bc qE)),trivial⟩ fun hi=> ?_
     refine ah.eH (L2:=(⟨some D,.db⟩ :: ⟨ax.1.1,.row 3 (s1.1:List Int) ax.1.2⟩ :: ⟨none,.row 3 (([]:List Int):List Int) 0⟩ :: ⟨some cH,.bZ ([]:List Int) [(0,bf ax.1.1 s1.1.length ax.1.2)]⟩ :: ⟨none,.row 299 (([]:List Ref):List Ref) 0⟩ :: ⟨some bh,.bZ ([]:List Ref) [(0,bf ax.2.1 s1.2.length ax.2.2)]⟩ :: ⟨ax.2.1,.row 299 (s1.2:List Ref) ax.2.2⟩ :: ⟨some ba,.var (al:aw)⟩ :: aZ s2.2)) rfl ?_
     refine ah.le (E':= [(0,I.of (ab)),(1,I.of (al)),(2,I.of (aU)),(4,I.eq (.pointer (some ⟨ba,0,none⟩))),(6,I.of (false)),(8,I.of (aG.2)),(9,I.eq (.pointer (some ⟨bh,0,none⟩))),(10,I.eq (.pointer (some ⟨cH,0,none⟩))),(12,I.of (aJ s1.2 eI)),(13,I.of (s2.1)),(22,I.of (!aG.2)),(31,I.gy 220 [I.ptr aQ.1,I.ptr aQ.2.1,I.ptr aQ.2.2]),(63,I.of (s2.1)),(64,I.of (decide (s2.1≥0))),(65,I.of (decide (s2.1≥0))),(66,I.cond ((decide (s2.1≥0))=true) (I.eq (bf ax.2.1 s1.2.length ax.2.2))),(67,I.cond ((decide (s2.1≥0))=true) (I.of (s2.1))),(68,I.cond ((decide (s2.1≥0))=true) (I.of (bE (s2.1 + 1)))),(69,I.cond ((decide (s2.1≥0))=true) (I.eq (.pointer (some ⟨ax.2.1.getD 0,jD * 1,none⟩)))),(70,I.cond ((decide (s2.1≥0))=true) (I.of (aJ s1.2 jD))),(71,I.cond ((decide (s2.1≥0))=true) (I.of (c8))),(72,I.of ((decide (s2.1≥0)) && c8)),(75,I.eq (bf ax.2.1 s1.2.length ax.2.2)),(76,I.of (s2.1)),(77,I.eq (.pointer (some ⟨ax.2.1.getD 0,wT * 1,none⟩))),(78,I.of (aJ s1.2 wT)),(79,I.eq (bf ax.1.1 s1.1.length ax.1.2)),(80,I.of (s2.1)),(81,I.eq (.pointer (some ⟨ax.1.1.getD 0,wU * 1,none⟩))),(82,I.of (aJ s1.1 wU)),(83,I.eq (.pointer (some ⟨qg,0,none⟩))),(84,I.eq (.pointer (some ⟨qg,0 + 0,none⟩)))]) (.same rfl (.same rfl (.same rfl (.same rfl (.same rfl (.same rfl (.same rfl (.same rfl (.same rfl (.same rfl (.same rfl (.same rfl (.same rfl (.same rfl (.same rfl (.same rfl (.same rfl (.same rfl (.same rfl (.same rfl (.same rfl (.same rfl (.same rfl (.same rfl (.same rfl (.same rfl (.same rfl (.same rfl (.same rfl (.same rfl (.same rfl (.same rfl .nil)))))))))))))))))))))))))))))))) ?_
     obtain⟨AP,Oi,h⟩:=aC h
     refine bp (l3 (k:=AP) r2 (ad rfl) (ad rfl) (eh Oi)) ?_
     obtain⟨oS,AQ,h⟩:=aC h
     obtain⟨fH,Ak,h⟩:=aC h
     refine ah.nL (k':=Cell.ev ({ oS with ct:=fW oS.ct AP (none:Ref) } :dn)) 8 rfl (((aP.id dn).comp qp).comp (aP.idx (α:=Ref) 2 AP (eh Oi).1)) (v:=((none:Ref):Ref)) dO (ad rfl) (rC) (iO AQ) rfl rfl rfl rfl (aT Ak) ?_
     refine ah.nil ?_
     refine aj.fV ?_
     refine aj.next ?_
     refine ak.cU ?_
     refine aL ?_
     refine bQ la ?_
     refine aW ?_
     refine ah.nil ?_
     obtain rfl:=aT h
     exact kb () 0
    ·refine ak.exit ?_
     refine aj.exit ?_
     obtain rfl:=aT h
     exact hg () 0
   ·clear an
    refine aj.jd ?_
    refine aj.next ?_
    refine ak.seq ?_
    refine aM ?_
    refine aL ?_
    refine bp (dv (eb (ad rfl) c7)) ?_
    refine bj (bc rP) ?_
    obtain⟨jX,x9,h⟩:=aC h
    refine bp (fv ((aP.id eJ).comp rp) (r:=jX.bK) dO (ad rfl) (eK (n:=8) rfl (lU x9) rfl) rfl rfl) ?_
    obtain⟨eU,kB,h⟩:=aC h
    refine ah.iK (fr.iG 8 rfl Nt (J4 kB) ⟨ad rfl,trivial⟩) rfl rfl rfl ?_
    refine a0 ?_
    obtain⟨bq,cn,h⟩:=aC h
    refine ak.cb (γ:=Unit) (fun bH=> [(0,I.of (ab)),(1,I.of (al)),(2,I.of (aU)),(4,I.eq (.pointer (some ⟨ba,0,none⟩))),(6,I.of (false)),(8,I.of (aG.2)),(9,I.eq (.pointer (some ⟨bh,0,none⟩))),(10,I.eq (.pointer (some ⟨cH,0,none⟩))),(12,I.of (aJ s1.2 eI)),(13,I.of (aX.1)),(22,I.of (!aG.2)),(31,I.gy 220 [I.ptr aQ.1,I.ptr aQ.2.1,I.ptr aQ.2.2]),(72,I.of (aX.2.1)),(90,I.of (eU))]) (fun bH=>(⟨some D,.db⟩ :: ⟨ax.1.1,.row 3 (s1.1:List Int) ax.1.2⟩ :: ⟨none,.row 3 (([]:List Int):List Int) 0⟩ :: ⟨some cH,.bZ ([]:List Int) [(0,bf ax.1.1 s1.1.length ax.1.2)]⟩ :: ⟨none,.row 299 (([]:List Ref):List Ref) 0⟩ :: ⟨some bh,.bZ ([]:List Ref) [(0,bf ax.2.1 s1.2.length ax.2.2)]⟩ :: ⟨ax.2.1,.row 299 (s1.2:List Ref) ax.2.2⟩ :: ⟨some ba,.var (al:aw)⟩ :: aZ bq)) (ad rfl) (fun bH=> ?_) (fun hm ag=> ?_) (fun hm ag=> ?_)
    ·clear cn
     refine aj.next ?_
     refine aM ?_
     refine aW ?_
     refine a0 ?_
     refine ak.ret ?_
     obtain rfl:=aT h
     refine aj.tW 0 rfl rfl ?_
     exact aj.gF () (.cons _ (.cons _ (.cons _ (.cons _ (.cons _ (.cons _ (.cons _ (.cons _ (.refl _))))))))) rfl rfl (dG rfl)
    ·have h:=hC ag cn
     refine ak.cU ?_
     refine aL ?_
     refine bp (dv (eb (ad rfl) c7)) ?_
     refine bj (bc rP) ?_
     obtain⟨q3,HW,h⟩:=aC h
     refine ah.nL (k':=Cell.gL ({ jX with bK:=(none:Ref) } :eJ)) 8 rfl ((aP.id eJ).comp rp) (v:=((none:Ref):Ref)) dO (ad rfl) (rC) (lU x9) rfl rfl rfl rfl (aT HW) ?_
     refine ah.nil ?_
     obtain rfl:=aT h
     exact dI 0 (hm ())
    ·have h:=hD ag cn
     refine ak.skip ?_
     obtain rfl:=aT h
     exact dI 0 (hm ())
  ·exact Empty.elim aN
theorem PY {ab:ca} {al:Vector aw 4} {cP:Nat} {hQ:Option Nat} {hR:Nat} {r:aA × Bool} (h:rj ab al=some r):bN Tryz.prog 231 [I.eq (.pointer (some ⟨cP,0,none⟩)),I.of (al)] [⟨some cP,.bZ (({ ab with bP:= [] } :ca):ca) [(10,bf hQ ab.bP.length hR)]⟩,⟨hQ,.row 56 (ab.bP:List aA) hR⟩] (δ:=Unit) (fun d=>I.eA [I.of (r.1),I.of (r.2)]) (fun d=> [⟨some cP,.bZ (({ ab with bP:= [] } :ca):ca) [(10,bf hQ (ab.bP).length hR)]⟩,⟨hQ,.row 56 (ab.bP:List aA) hR⟩]):=by
 unfold rj at h
 refine bN.ofM Tryz.func231 rfl Tryz.ntmps231 rfl fun W A=> ?_
 refine aM ?_
 refine cM fun ba=> ?_
 refine dL iv fun bh=> ?_
 refine dL Em fun cH=> ?_
 refine cm ?_
 refine aM ?_
 refine aL ?_
 refine bp (Ds Tryz.underlying131 (ad rfl)) ?_
 refine a0 ?_
 refine ak.tI (ad rfl) rfl ?_
 refine dT ?_
 refine ak.seq ?_
 refine aM ?_
 refine aL ?_
 refine cV 2 lz ?_
 obtain⟨aG,bF,h⟩:=aC h
 refine gY Wn (P3 bF) ?_
 refine a0 ?_
 refine ak.block ?_
 refine ak.b2 4 rfl ?_
 refine ak.b2 4 rfl ?_
 obtain⟨az,an,h⟩:=aC h
 refine SN (γ:=Unit) (g0:=()) (Lin:= [⟨some cP,.bZ (({ ab with bP:= [] } :ca):ca) [(10,bf hQ ab.bP.length hR)]⟩,⟨hQ,.row 56 (ab.bP:List aA) hR⟩]) (Ls:=fun s1 ax=> [⟨some cH,.var ((default:Bool):Bool)⟩,⟨some bh,.var ((default:aA):aA)⟩,⟨some ba,.var (al:Vector aw 4)⟩]) (Lx:=fun aN ax=> [⟨some cH,.var (aN.1:Bool)⟩,⟨some bh,.var (aN.2:aA)⟩,⟨some ba,.var (al:Vector aw 4)⟩]) (fun aN=> .ret) rfl Wo rfl PN an rfl rfl (fun oI s1 r h ax kV kZ kW l D rec sq=> ?_) (fun s1 aD ax D=> ?_) (fun aN aD ax D=> ?_)
 ·clear an
  refine ak.cU ?_
  refine dL iv fun fa=> ?_
  refine dh 0 c6 ?_
  refine ah.nil ?_
  refine aj.begin 1 rfl sq ?_
  refine ak.block ?_
  refine aM ?_
  refine cV 0 c6 ?_
  obtain⟨aQ,cR,h⟩:=aC h
  refine gY Au (yX cR) ?_
  refine dh 4 c6 ?_
  refine dh 3 ix ?_
  refine a0 ?_
  refine ak.ret ?_
  refine aj.fS ?_
  obtain rfl:=aT h
  exact aj.GX () 1 rfl rfl rfl
 ·clear an; subst aD; simp only [Sum.elim_inl] at h
  refine aj.eH (L2:= [⟨some D,.db⟩,⟨some cP,.bZ (({ ab with bP:= [] } :ca):ca) [(10,bf hQ ab.bP.length hR)]⟩,⟨hQ,.row 56 (ab.bP:List aA) hR⟩,⟨some cH,.var ((default:Bool):Bool)⟩,⟨some bh,.var ((default:aA):aA)⟩,⟨some ba,.var (al:Vector aw 4)⟩]) rfl ?_
  refine aj.fV ?_
  refine aj.next ?_
  refine aM ?_
  refine jQ Av iv (default:aA) .nil ?_
  refine dh 4 c6 ?_
  refine dh 3 ix ?_
  refine a0 ?_
  refine ak.ret ?_
  refine aj.b2 2 rfl ?_
  refine aj.b2 2 rfl ?_
  obtain rfl:=aT h
  refine aj.tW 2 rfl rfl ?_
  exact aj.kL () (.cons_cons _ (.cons_cons _ (List.nil_sublist _))) rfl rfl (nc (i:=4) c6 rfl rfl) (nc (i:=3) ix rfl rfl)
 ·clear an; subst aD; simp only [Sum.elim_inr] at h
  refine ak.ret ?_
  refine aj.eH (L2:= [⟨some D,.db⟩,⟨some cP,.bZ (({ ab with bP:= [] } :ca):ca) [(10,bf hQ ab.bP.length hR)]⟩,⟨hQ,.row 56 (ab.bP:List aA) hR⟩,⟨some cH,.var (aN.1:Bool)⟩,⟨some bh,.var (aN.2:aA)⟩,⟨some ba,.var (al:Vector aw 4)⟩]) rfl ?_
  refine aj.fS ?_
  refine aj.ret ?_
  refine aj.b2 2 rfl ?_
  refine aj.b2 2 rfl ?_
  obtain rfl:=aT h
  refine aj.tW 2 rfl rfl ?_
  exact aj.kL () (.cons_cons _ (.cons_cons _ (List.nil_sublist _))) rfl rfl (nc (i:=4) c6 rfl rfl) (nc (i:=3) ix rfl rfl)
theorem JV {hp:aH Cell} {y:ft} {ab:b1} {r:Int × Bool} (h:yN hp y ab=some r):kr Tryz.prog "matchguard/index.find" (I.of y) [I.of (ab)] ([] ++ aZ hp) (δ:=Unit) (fun _=>I.eA [I.of (r.1),I.of (r.2)]) (fun _=> [] ++ aZ hp):=by
 cases y with
 | nil=>cases h
 | l5 z=>exact kr.of Sa (fun A W u hu=>CC hu) (QC h)
 | kP z=>exact kr.of Sb (fun A W u hu=>CD hu) (Qq h)
 | kQ z=>exact kr.of Sc (fun A W u hu=>CE hu) (QH h)
theorem QO {hp:aH Cell} {ab:ja} {al:aA} {Q:(aH Cell)→Prop} (h:uO hp ab al Q):bN Tryz.prog 227 [I.of (ab),I.of (al)] ([] ++ aZ hp) (δ:= {r:(aH Cell) // Q r} × Unit) (fun d=>I.eA []) (fun d=> [] ++ aZ d.1.1):=by
 unfold uO at h
 refine bN.of Tryz.func227 rfl Tryz.ntmps227 rfl fun W A=> ?_
 refine aM ?_
 refine cM fun ba=> ?_
 refine cM fun bh=> ?_
 refine a0 ?_
 refine ak.cU ?_
 refine bj (bc C7) ?_
 refine dg 1 yQ z5 ?_
 refine cV 0 c6 ?_
 obtain⟨bT,c7,h⟩:=au.cu h
 obtain⟨bw,di,h⟩:=au.cu h
 obtain⟨aG,bF,h⟩:=au.cu h
 refine ah.sL (eO.obj 2 (fun q:Option Nat × Nat=>Cell.qS aG.2 q.1 q.2) rfl (pa di) Wp (Qi bF) rfl (fun _=>rfl) ⟨eb (ad rfl) c7,ad rfl,trivial⟩) rfl rfl rfl fun aN=> ?_
 replace h:=au.any_bind h aN
 obtain⟨b9,kv,h⟩:=au.cu h
 refine ah.eH (L2:=(⟨some bh,.var (al:aA)⟩ :: ⟨some ba,.var (ab:ja)⟩ :: aZ b9)) (by rw [← aT kv]; rfl) ?_
 refine ah.nil ?_
 refine aj.oz ?_
 exact aj.lY (⟨⟨b9,h⟩,()⟩: {r // _} × _) (.cons _ (.cons _ (.refl _))) rfl rfl
theorem P9 {hp:aH Cell} {ab:gp} {al:aA} {r:(aH Cell)} (h:uE hp ab al=some r):bN Tryz.prog 203 [I.of (ab),I.of (al)] ([] ++ aZ hp) (δ:=Unit) (fun d=>I.eA []) (fun d=> [] ++ aZ r):=by
 unfold uE at h
 refine bN.of Tryz.func203 rfl Tryz.ntmps203 rfl fun W A=> ?_
 refine aM ?_
 refine cM fun ba=> ?_
 refine cM fun bh=> ?_
 refine cc ?_
 refine cV 1 zY ?_
 refine bj (bc oq) ?_
 refine dg 0 nB iS ?_
 obtain⟨aG,bF,h⟩:=aC h
 refine gY Ht (E7 bF) ?_
 refine aL ?_
 refine gZ ?_
 refine gZ ?_
 refine gZ ?_
 refine dL vq fun cH=> ?_
 refine dL fw fun fa=> ?_
 refine dh 1 j4 ?_
 refine dh 0 cB ?_
 refine aW ?_
 refine cm ?_
 obtain⟨bT,c7,h⟩:=aC h
 obtain⟨bw,di,h⟩:=aC h
 obtain⟨bJ,eC,h⟩:=aC h
 refine ak.draw mixed 6 [some 15,some 16,some 17,some 18,some 19,some 20] [[],[0],[],[1,2],[],[]] [.val _,.val _,.val _,.val _,.val _,.val _] [false,false,false,false,false,false] (by kernel_rfl) rfl rfl rfl (fun eL=>⟨H1 (bc rQ),hT 3 qo qN,fY 1 j4,e7 fun L' aq=>vd (r:=bJ) Tryz.underlying128 tN xL (lQ (ad rfl) c7) (ad rfl) (j7 (fun i e q=>aq i e q rfl) (eK (n:=4) rfl (iR di) rfl)) (aT eC),fY 0 cB,eE,trivial⟩) fun eL=> ?_
 obtain⟨aQ,cR,h⟩:=aC h
 refine ah.kM 4 0 rfl Wq (QN cR) rfl rfl ⟨ad rfl,ad rfl,ad rfl,trivial⟩ rfl fun aN=> ?_
 refine ah.eH (L2:=(⟨some fa,.var (aG.2.1:aw)⟩ :: ⟨some cH,.var (aG.1:Vector aw 4)⟩ :: ⟨some bh,.var (al:aA)⟩ :: ⟨some ba,.var (ab:gp)⟩ :: aZ aQ.2)) rfl ?_
 refine cc ?_
 refine bj (bc rQ) ?_
 refine dg 3 qo qN ?_
 refine cV 1 j4 ?_
 obtain⟨b5,eW,h⟩:=aC h
 obtain⟨en,kA,h⟩:=aC h
 refine bp (vd (r:=en) Tryz.underlying128 tN xL (lQ (ad rfl) c7) (ad rfl) (eK (n:=4) rfl (iR eW) rfl) (aT kA)) ?_
 obtain⟨bm,hh,h⟩:=aC h
 refine ah.iK (fr.iG 4 rfl Wr (Q0 hh) ⟨ad rfl,trivial⟩) rfl rfl rfl ?_
 refine bQ ir ?_
 refine a0 ?_
 obtain⟨bq,cn,h⟩:=aC h
 refine ak.cb (γ:=Unit) (fun ax=> [(0,I.of (ab)),(1,I.of (al)),(2,I.eq (.pointer (some ⟨ba,0,none⟩))),(3,I.eq (.pointer (some ⟨bh,0,none⟩))),(4,I.eq (.pointer (some ⟨cH,0,none⟩))),(5,I.eq (.pointer (some ⟨fa,0,none⟩))),(6,I.of (aG.2.2)),(27,I.of (bm ==0))]) (fun ax=>(⟨some fa,.var (aG.2.1:aw)⟩ :: ⟨some cH,.var (aG.1:Vector aw 4)⟩ :: ⟨some bh,.var (al:aA)⟩ :: ⟨some ba,.var (ab:gp)⟩ :: aZ bq)) (ad rfl) (fun ax=> ?_) (fun hm ag=> ?_) (fun hm ag=> ?_)
 ·clear cn
  refine aj.oz ?_
  obtain rfl:=aT h
  exact aj.lY () (.cons _ (.cons _ (.cons _ (.cons _ (.refl _))))) rfl rfl
 ·have h:=hC ag cn
  refine ak.cU ?_
  refine bj (bc rQ) ?_
  refine dg 3 qo qN ?_
  refine cV 1 j4 ?_
  obtain⟨b9,kv,h⟩:=aC h
  refine ah.Hp (k':=Cell.iT (gW b5 aG.1)) 4 rfl Tryz.underlying128 tN (lQ (ad rfl) c7) (ad rfl) (iR eW) rfl rfl rfl (aT kv) ?_
  refine ah.nil ?_
  obtain rfl:=aT h
  exact dI 0 (hm ())
 ·have h:=hD ag cn
  refine ak.skip ?_
  obtain rfl:=aT h
  exact dI 0 (hm ())
theorem Qr {hp:aH Cell} {ab:ja} {al:aA} {Q:(aH Cell)→Prop} (h:uJ hp ab al Q):bN Tryz.prog 228 [I.of (ab),I.of (al)] ([] ++ aZ hp) (δ:= {r:(aH Cell) // Q r} × Unit) (fun d=>I.eA []) (fun d=> [] ++ aZ d.1.1):=by
 unfold uJ at h
 refine bN.of Tryz.func228 rfl Tryz.ntmps228 rfl fun W A=> ?_
 refine aM ?_
 refine cM fun ba=> ?_
 refine cM fun bh=> ?_
 refine a0 ?_
 refine ak.cU ?_
 refine bj (bc C7) ?_
 refine dg 1 yQ z5 ?_
 refine bj (bc nM) ?_
 refine dg 0 m3 cf ?_
 obtain⟨bT,c7,h⟩:=au.cu h
 obtain⟨bw,di,h⟩:=au.cu h
 obtain⟨aG,bF,h⟩:=au.cu h
 refine ah.sL (eO.obj 2 (fun q:Option Nat × Nat=>Cell.qS aG.2 q.1 q.2) rfl (pa di) Ws (PX bF) rfl (fun _=>rfl) ⟨eb (ad rfl) c7,ad rfl,trivial⟩) rfl rfl rfl fun aN=> ?_
 replace h:=au.any_bind h aN
 obtain⟨b9,kv,h⟩:=au.cu h
 refine ah.eH (L2:=(⟨some bh,.var (al:aA)⟩ :: ⟨some ba,.var (ab:ja)⟩ :: aZ b9)) (by rw [← aT kv]; rfl) ?_
 refine ah.nil ?_
 refine aj.oz ?_
 exact aj.lY (⟨⟨b9,h⟩,()⟩: {r // _} × _) (.cons _ (.cons _ (.refl _))) rfl rfl
theorem Q2 {hp:aH Cell} {ab:Ref} {al:aw} {aU:Int} {cE:Int} {Q:Bool × (aH Cell)→Prop} (h:rA hp ab al aU cE Q):bN Tryz.prog 209 [I.of (ab),I.of (al),I.of (aU),I.of (cE)] ([] ++ aZ hp) (δ:= {r:Bool × (aH Cell) // Q r} × Unit) (fun d=>I.of (d.1.1.1)) (fun d=> [] ++ aZ d.1.1.2):=by
 unfold rA at h
 refine bN.ofM Tryz.func209 rfl Tryz.ntmps209 rfl fun W A=> ?_
 refine aM ?_
 refine cM fun ba=> ?_
 refine aW ?_
 refine cm ?_
 refine aM ?_
 refine aL ?_
 refine cV 0 cB ?_
 refine aL ?_
 obtain⟨aG,bF,h⟩:=au.cu h
 refine ah.iK (fr.iG 1 rfl Nm (J2 bF) ⟨ad rfl,ad rfl,ad rfl,trivial⟩) rfl rfl rfl ?_
 refine bj kt ?_
 refine a0 ?_
 refine ak.cond (ad rfl) (fun ag=> ?_) (fun ag=> ?_)
 ·replace h:=rI ag h
  refine aM ?_
  refine aW ?_
  refine a0 ?_
  refine ak.ret ?_
  refine aj.ret ?_
  refine aj.At ?_
  exact aj.gF (⟨⟨(false,hp),h⟩,()⟩: {r // _} × _) (.cons _ (.refl _)) rfl rfl (dG rfl)
 ·replace h:=rJ ag h
  refine dT ?_
  refine ak.seq ?_
  refine aM ?_
  refine aL ?_
  refine cV 0 cB ?_
  refine aL ?_
  obtain⟨aQ,cR,h⟩:=au.cu h
  refine ah.iK (fr.iG 1 rfl No (J7 cR) ⟨ad rfl,ad rfl,ad rfl,trivial⟩) rfl rfl rfl ?_
  refine aW ?_
  refine cc ?_
  refine aL ?_
  refine bp (CB Tryz.underlying299 (ad rfl)) ?_
  refine aL ?_
  refine gH cZ ?_
  obtain⟨bT,c7,h⟩:=au.cu h
  refine fB (fun hb=>dv (eb (cy rfl hb) (gr c7 hb))) ?_
  refine gH (bc qD) ?_
  obtain⟨bw,di,h⟩:=au.cu h
  refine fB (fun hb=>fv ((aP.id dn).comp qt) (r:=bw.cW) ix (cy rfl hb) (eK (n:=1) rfl (iO (gr di hb)) rfl) rfl rfl) ?_
  refine lE ?_
  refine a0 ?_
  refine ak.cond (ad rfl) (fun ag=> ?_) (fun ag=> ?_)
  ·replace h:=rI ag h
   refine aM ?_
   refine aW ?_
   refine a0 ?_
   refine ak.ret ?_
   refine aj.ret ?_
   refine aj.At ?_
   exact aj.gF (⟨⟨(false,hp),h⟩,()⟩: {r // _} × _) (.cons _ (.refl _)) rfl rfl (dG rfl)
  ·replace h:=rJ ag h
   refine dT ?_
   refine ak.seq ?_
   refine aM ?_
   refine aL ?_
   obtain⟨bU,eS,h⟩:=au.cu h
   refine bp (dv (eb (ad rfl) eS)) ?_
   refine bj (bc rP) ?_
   obtain⟨b5,eW,h⟩:=au.cu h
   refine bp (fv ((aP.id eJ).comp rp) (r:=b5.bK) dO (ad rfl) (eK (n:=1) rfl (lU eW) rfl) rfl rfl) ?_
   refine bp (mz Tryz.underlying299 (ad rfl)) ?_
   refine a0 ?_
   refine ak.vi (γ:=Unit) h (fun bq ax=> [(0,I.of (ab)),(1,I.of (al)),(2,I.of (aU)),(3,I.of (cE)),(5,I.eq (.pointer (some ⟨ba,0,none⟩))),(8,I.of (false)),(9,I.of (aQ)),(16,I.of (!aG)),(28,I.of (aQ.isSome && bw.cW)),(33,I.of (b5.bK.isNone))]) (fun bq ax=>(⟨some ba,.var (al:aw)⟩ :: aZ bq)) (ad rfl) (fun bq ax h=> ?_) (fun hm ag h=> ?_) (fun hm ag h=> ?_)
   ·refine aj.next ?_
    refine aM ?_
    refine aL ?_
    refine bp (dv (eb (ad rfl) eS)) ?_
    refine bj (bc rP) ?_
    obtain⟨eo,jT,h⟩:=au.cu h
    refine bp (fv ((aP.id eJ).comp rp) (r:=eo.bK) dO (ad rfl) (eK (n:=1) rfl (lU jT) rfl) rfl rfl) ?_
    refine dL vA fun bh=> ?_
    refine dh 0 dO ?_
    refine cm ?_
    refine aM ?_
    refine aL ?_
    refine cV 1 cB ?_
    refine aL ?_
    obtain⟨bm,hh,h⟩:=au.cu h
    refine gY DO (Ct hh) ?_
    refine a0 ?_
    refine ak.block ?_
    refine Sd (σ:=Ref × (aH Cell)) (ε:=Empty) (γ:=Unit) (g0:=()) (Ls:=fun s2 bH=>(⟨some bh,.var (s2.1:Ref)⟩ :: ⟨some ba,.var (al:aw)⟩ :: aZ s2.2)) (Lx:=fun dR bH=>Empty.elim dR) (hq:=fun s2=>s2.2) (fun s2 bH=> [⟨some bh,.var (s2.1:Ref)⟩,⟨some ba,.var (al:aw)⟩]) (fun dR=>Empty.elim dR) rfl DP rfl Qx h (fun _ _=>rfl) rfl rfl (fun ya s2 R h bH kV kZ kW l D rec sq=> ?_) (fun s2 h bH D=> ?_) (fun dR h bH D=> ?_)
    ·refine ak.cU ?_
     refine aW ?_
     refine ah.nil ?_
     refine aj.begin 0 rfl sq ?_
     refine ak.block ?_
     refine ak.seq ?_
     refine aM ?_
     refine cV 2 dO ?_
     refine aL ?_
     obtain⟨lr,q1,h⟩:=au.cu h
     refine bp (dv (eb (ad rfl) q1)) ?_
     refine bj (bc qE) ?_
     obtain⟨bn,dJ,h⟩:=au.cu h
     refine bp (l3 (k:=bn) r2 (ad rfl) (ad rfl) (eh dJ)) ?_
     obtain⟨n5,AO,h⟩:=au.cu h
     refine bp (fv (((aP.id dn).comp qp).comp (aP.idx (α:=Ref) 2 bn (eh dJ).1)) (r:=bB n5.ct bn) dO (ad rfl) (eK (n:=4) rfl (iO AO) rfl) rfl rfl) ?_
     refine bp (mz Tryz.underlying299 (ad rfl)) ?_
     refine a0 ?_
     refine ak.vi (γ:=Unit) h (fun cx c9=> [(0,I.of (ab)),(1,I.of (al)),(2,I.of (aU)),(3,I.of (cE)),(5,I.eq (.pointer (some ⟨ba,0,none⟩))),(8,I.of (false)),(9,I.of (aQ)),(10,I.eq (.pointer (some ⟨bh,0,none⟩))),(11,I.of (ya)),(16,I.of (!aG)),(28,I.of (aQ.isSome && bw.cW)),(33,I.of (b5.bK.isNone)),(46,I.gy 220 [I.ptr bm.1,I.ptr bm.2.1,I.ptr bm.2.2]),(47,I.of (ya)),(54,I.of ((bB n5.ct bn).isNone))]) (fun cx c9=>(⟨some l,.is (.loop { rec with state:= .busy })⟩ :: ⟨some D,.db⟩ :: ⟨some bh,.var (s2.1:Ref)⟩ :: ⟨some ba,.var (al:aw)⟩ :: aZ cx)) (ad rfl) (fun cx c9 h=> ?_) (fun hm ag h=> ?_) (fun hm ag h=> ?_)
     ·refine aj.next ?_
      refine ak.cU ?_
      refine cV 2 dO ?_
      refine aL ?_
      refine bp (dv (eb (ad rfl) q1)) ?_
      refine bj (bc qE) ?_
      obtain⟨c3,dj,h⟩:=au.cu h
      refine bp (l3 (k:=c3) r2 (ad rfl) (ad rfl) (eh dj)) ?_
      obtain⟨oS,AQ,h⟩:=au.cu h
      refine bp (fv (((aP.id dn).comp qp).comp (aP.idx (α:=Ref) 2 c3 (eh dj).1)) (r:=bB oS.ct c3) dO (ad rfl) (eK (n:=4) rfl (iO AQ) rfl) rfl rfl) ?_
      refine dh 2 dO ?_
      refine ah.nil ?_
      refine aj.fV ?_
      exact aj.XW h () 0 rfl
     ·refine ak.cU ?_
      refine cV 2 dO ?_
      refine aL ?_
      refine jQ Nu Nv (default:dn) .nil ?_
      refine ah.Ah 4 rfl (Cell.ev (default:dn)) (fun _=>rfl) (ad rfl) rfl fun cq wa=> ?_
      replace h:=au.ts h cq wa
      refine bp (dv (eb (ad rfl) q1)) ?_
      refine bj (bc qE) ?_
      obtain⟨eI,kd,h⟩:=au.cu h
      refine bp (l3 (k:=eI) r2 (ad rfl) (ad rfl) (eh kd)) ?_
      obtain⟨jX,x9,h⟩:=au.cu h
      obtain⟨b9,kv,h⟩:=au.cu h
      refine ah.nL (k':=Cell.ev ({ jX with ct:=fW jX.ct eI (some cq.1:Ref) } :dn)) 4 rfl (((aP.id dn).comp qp).comp (aP.idx (α:=Ref) 2 eI (eh kd).1)) (v:=((some cq.1:Ref):Ref)) dO (ad rfl) (ad rfl) (iO x9) rfl rfl rfl rfl (aT kv) ?_
      refine ah.nil ?_
      exact dI 0 (hm b9 () h)
     ·refine ak.skip ?_
      exact dI 0 (hm s2.2 () h)
    ·simp only [Sum.elim_inl] at h
     refine aj.eH (L2:=(⟨some D,.db⟩ :: ⟨some bh,.var (s2.1:Ref)⟩ :: ⟨some ba,.var (al:aw)⟩ :: aZ s2.2)) rfl ?_
     refine aj.fV ?_
     refine aj.next ?_
     refine ak.seq ?_
     obtain⟨jY,Ep,h⟩:=au.cu h
     obtain⟨yo,Er,h⟩:=au.cu h
     obtain⟨bI,tU,h⟩:=au.cu h
     refine ak.Wt mixed 9 (Array.mk (false :: false :: false :: false :: false :: false :: false :: false :: false :: [])) rfl rfl ?_
     refine c0.cut (γ:=Unit) 3 (Array.mk (true :: true :: true :: true :: true :: true :: false :: false :: false :: [])) (fun Mt=> [(0,I.of (ab)),(1,I.of (al)),(2,I.of (aU)),(3,I.of (cE)),(5,I.eq (.pointer (some ⟨ba,0,none⟩))),(8,I.of (false)),(9,I.of (aQ)),(10,I.eq (.pointer (some ⟨bh,0,none⟩))),(16,I.of (!aG)),(28,I.of (aQ.isSome && bw.cW)),(33,I.of (b5.bK.isNone)),(39,I.of (ab)),(40,I.eq (.pointer (some ⟨bU,0,none⟩))),(41,I.eq (.pointer (some ⟨bU,0 + 1,none⟩))),(42,I.of (eo.bK)),(43,I.of (ab)),(44,I.of (al)),(45,I.of (aU)),(46,I.gy 220 [I.ptr bm.1,I.ptr bm.2.1,I.ptr bm.2.2]),(68,I.of (s2.1)),(69,I.of (s2.1)),(70,I.of (cE)),(71,I.eq (.pointer (some ⟨jY,0,none⟩))),(72,I.eq (.pointer (some ⟨jY,0 + 2,none⟩)))]) (fun Mt=>(⟨some D,.db⟩ :: ⟨some bh,.var (s2.1:Ref)⟩ :: ⟨some ba,.var (al:aw)⟩ :: aZ bI)) (fun Mt=> ?_) (fun Hu=> ?_)
     ·refine c0.tail 6 rfl (by kernel_rfl) ?_
      obtain⟨Jm,YW,h⟩:=au.cu h
      refine bp (dv (eb (ad rfl) YW)) ?_
      refine bj (bc zu) ?_
      obtain⟨Jn,YX,h⟩:=au.cu h
      obtain⟨fH,Ak,h⟩:=au.cu h
      refine ah.nL (k':=Cell.ev ({ Jn with gi:=cE } :dn)) 3 rfl ((aP.id dn).comp yU) (v:=(cE:Int)) cf (ad rfl) (ad rfl) (iO YX) rfl rfl rfl rfl (aT Ak) ?_
      refine cc ?_
      refine aW ?_
      refine a0 ?_
      refine ak.ret ?_
      refine aj.tW 0 rfl rfl ?_
      exact aj.gF (⟨⟨(true,fH),h⟩,()⟩: {r // _} × _) (.cons _ (.cons _ (.cons _ (.refl _)))) rfl rfl (dG rfl)
     refine c0.cut (γ:=Unit) 4 (Array.mk (true :: false :: true :: true :: true :: true :: false :: false :: false :: [])) (fun Mu=> [(0,I.of (ab)),(1,I.of (al)),(2,I.of (aU)),(3,I.of (cE)),(5,I.eq (.pointer (some ⟨ba,0,none⟩))),(8,I.of (false)),(9,I.of (aQ)),(10,I.eq (.pointer (some ⟨bh,0,none⟩))),(16,I.of (!aG)),(28,I.of (aQ.isSome && bw.cW)),(33,I.of (b5.bK.isNone)),(39,I.of (ab)),(40,I.eq (.pointer (some ⟨bU,0,none⟩))),(41,I.eq (.pointer (some ⟨bU,0 + 1,none⟩))),(42,I.of (eo.bK)),(43,I.of (ab)),(44,I.of (al)),(45,I.of (aU)),(46,I.gy 220 [I.ptr bm.1,I.ptr bm.2.1,I.ptr bm.2.2]),(68,I.of (s2.1)),(70,I.of (cE)),(71,I.eq (.pointer (some ⟨jY,0,none⟩))),(72,I.eq (.pointer (some ⟨jY,0 + 2,none⟩)))]) (fun Mu=>(⟨some D,.db⟩ :: ⟨some bh,.var (s2.1:Ref)⟩ :: ⟨some ba,.var (al:aw)⟩ :: aZ bI)) (fun Mu=> ?_) (fun Nw=> ?_)
     ·clear h
      refine c0.step [1] (by kernel_rfl) rfl ⟨⟨_,rfl,?_⟩,trivial⟩
      ·refine cV 1 dO ?_
       refine ah.nil ?_
       exact aj.any rfl (c0.le (.same rfl (.same rfl (.same rfl (.same rfl (.same rfl (.same rfl (.same rfl (.same rfl (.same rfl (.same rfl (.same rfl (.same rfl (.same rfl (.same rfl (.same rfl (.same rfl (.same rfl (.same rfl (.same rfl (.same rfl (.same rfl (.same rfl (.same rfl (.same rfl .nil)))))))))))))))))))))))) (Hu ()))
     refine c0.cut (γ:=Unit) 4 (Array.mk (true :: true :: false :: true :: true :: true :: false :: false :: false :: [])) (fun Mv=> [(0,I.of (ab)),(1,I.of (al)),(2,I.of (aU)),(3,I.of (cE)),(5,I.eq (.pointer (some ⟨ba,0,none⟩))),(8,I.of (false)),(9,I.of (aQ)),(10,I.eq (.pointer (some ⟨bh,0,none⟩))),(16,I.of (!aG)),(28,I.of (aQ.isSome && bw.cW)),(33,I.of (b5.bK.isNone)),(39,I.of (ab)),(40,I.eq (.pointer (some ⟨bU,0,none⟩))),(41,I.eq (.pointer (some ⟨bU,0 + 1,none⟩))),(42,I.of (eo.bK)),(43,I.of (ab)),(44,I.of (al)),(45,I.of (aU)),(46,I.gy 220 [I.ptr bm.1,I.ptr bm.2.1,I.ptr bm.2.2]),(68,I.of (s2.1)),(69,I.of (s2.1)),(71,I.eq (.pointer (some ⟨jY,0,none⟩))),(72,I.eq (.pointer (some ⟨jY,0 + 2,none⟩)))]) (fun Mv=>(⟨some D,.db⟩ :: ⟨some bh,.var (s2.1:Ref)⟩ :: ⟨some ba,.var (al:aw)⟩ :: aZ bI)) (fun Mv=> ?_) (fun Nx=> ?_)
     ·clear h
      refine c0.step [2] (by kernel_rfl) rfl ⟨⟨_,rfl,?_⟩,trivial⟩
      ·refine aL ?_
       refine ah.nil ?_
       exact aj.any rfl (c0.le (.same rfl (.same rfl (.same rfl (.same rfl (.same rfl (.same rfl (.same rfl (.same rfl (.same rfl (.same rfl (.same rfl (.same rfl (.same rfl (.same rfl (.same rfl (.same rfl (.same rfl (.same rfl (.same rfl (.same rfl (.same rfl (.same rfl (.same rfl (.same rfl .nil)))))))))))))))))))))))) (Hu ()))
     refine c0.cut (γ:=Unit) 4 (Array.mk (true :: true :: true :: true :: true :: false :: false :: false :: false :: [])) (fun Mw=> [(0,I.of (ab)),(1,I.of (al)),(2,I.of (aU)),(3,I.of (cE)),(5,I.eq (.pointer (some ⟨ba,0,none⟩))),(8,I.of (false)),(9,I.of (aQ)),(10,I.eq (.pointer (some ⟨bh,0,none⟩))),(16,I.of (!aG)),(28,I.of (aQ.isSome && bw.cW)),(33,I.of (b5.bK.isNone)),(39,I.of (ab)),(40,I.eq (.pointer (some ⟨bU,0,none⟩))),(41,I.eq (.pointer (some ⟨bU,0 + 1,none⟩))),(42,I.of (eo.bK)),(43,I.of (ab)),(44,I.of (al)),(45,I.of (aU)),(46,I.gy 220 [I.ptr bm.1,I.ptr bm.2.1,I.ptr bm.2.2]),(68,I.of (s2.1)),(69,I.of (s2.1)),(70,I.of (cE)),(71,I.eq (.pointer (some ⟨jY,0,none⟩))),(72,I.eq (.pointer (some ⟨jY,0 + 2,none⟩)))]) (fun Mw=>(⟨some D,.db⟩ :: ⟨some bh,.var (s2.1:Ref)⟩ :: ⟨some ba,.var (al:aw)⟩ :: aZ s2.2)) (fun Mw=> ?_) (fun Hv=> ?_)
     ·clear h
      refine c0.step [5] (by kernel_rfl) rfl ⟨⟨_,rfl,?_⟩,trivial⟩
      ·refine ah.nL (k':=Cell.ev ({ yo with cW:=true } :dn)) 3 rfl ((aP.id dn).comp qt) (v:=(true:Bool)) ix (ad rfl) (fQ true) (iO Er) rfl rfl rfl rfl (aT tU) ?_
       refine ah.nil ?_
       exact aj.any rfl (c0.le (.same rfl (.same rfl (.same rfl (.same rfl (.same rfl (.same rfl (.same rfl (.same rfl (.same rfl (.same rfl (.same rfl (.same rfl (.same rfl (.same rfl (.same rfl (.same rfl (.same rfl (.same rfl (.same rfl (.same rfl (.same rfl (.same rfl (.same rfl (.same rfl .nil)))))))))))))))))))))))) (Hu ()))
     refine c0.cut (γ:=Unit) 5 (Array.mk (true :: false :: false :: true :: true :: true :: false :: false :: false :: [])) (fun Mx=> [(0,I.of (ab)),(1,I.of (al)),(2,I.of (aU)),(3,I.of (cE)),(5,I.eq (.pointer (some ⟨ba,0,none⟩))),(8,I.of (false)),(9,I.of (aQ)),(10,I.eq (.pointer (some ⟨bh,0,none⟩))),(16,I.of (!aG)),(28,I.of (aQ.isSome && bw.cW)),(33,I.of (b5.bK.isNone)),(39,I.of (ab)),(40,I.eq (.pointer (some ⟨bU,0,none⟩))),(41,I.eq (.pointer (some ⟨bU,0 + 1,none⟩))),(42,I.of (eo.bK)),(43,I.of (ab)),(44,I.of (al)),(45,I.of (aU)),(46,I.gy 220 [I.ptr bm.1,I.ptr bm.2.1,I.ptr bm.2.2]),(68,I.of (s2.1)),(71,I.eq (.pointer (some ⟨jY,0,none⟩))),(72,I.eq (.pointer (some ⟨jY,0 + 2,none⟩)))]) (fun Mx=>(⟨some D,.db⟩ :: ⟨some bh,.var (s2.1:Ref)⟩ :: ⟨some ba,.var (al:aw)⟩ :: aZ bI)) (fun Mx=> ?_) (fun Wu=> ?_)
     ·clear h
      refine c0.step [1,2] (by kernel_rfl) rfl ⟨⟨_,rfl,?_⟩,⟨_,rfl,?_⟩,trivial⟩
      ·refine cV 1 dO ?_
       refine ah.nil ?_
       exact aj.any rfl (c0.le (.same rfl (.same rfl (.same rfl (.same rfl (.same rfl (.same rfl (.same rfl (.same rfl (.same rfl (.same rfl (.same rfl (.same rfl (.same rfl (.same rfl (.same rfl (.same rfl (.same rfl (.same rfl (.same rfl (.same rfl (.same rfl (.same rfl (.same rfl .nil))))))))))))))))))))))) (Nx ()))
      ·refine aL ?_
       refine ah.nil ?_
       exact aj.any rfl (c0.le (.same rfl (.same rfl (.same rfl (.same rfl (.same rfl (.same rfl (.same rfl (.same rfl (.same rfl (.same rfl (.same rfl (.same rfl (.same rfl (.same rfl (.same rfl (.same rfl (.same rfl (.same rfl (.same rfl (.same rfl (.same rfl (.same rfl (.same rfl .nil))))))))))))))))))))))) (Nw ()))
     refine c0.cut (γ:=Unit) 5 (Array.mk (true :: false :: true :: true :: true :: false :: false :: false :: false :: [])) (fun My=> [(0,I.of (ab)),(1,I.of (al)),(2,I.of (aU)),(3,I.of (cE)),(5,I.eq (.pointer (some ⟨ba,0,none⟩))),(8,I.of (false)),(9,I.of (aQ)),(10,I.eq (.pointer (some ⟨bh,0,none⟩))),(16,I.of (!aG)),(28,I.of (aQ.isSome && bw.cW)),(33,I.of (b5.bK.isNone)),(39,I.of (ab)),(40,I.eq (.pointer (some ⟨bU,0,none⟩))),(41,I.eq (.pointer (some ⟨bU,0 + 1,none⟩))),(42,I.of (eo.bK)),(43,I.of (ab)),(44,I.of (al)),(45,I.of (aU)),(46,I.gy 220 [I.ptr bm.1,I.ptr bm.2.1,I.ptr bm.2.2]),(68,I.of (s2.1)),(70,I.of (cE)),(71,I.eq (.pointer (some ⟨jY,0,none⟩))),(72,I.eq (.pointer (some ⟨jY,0 + 2,none⟩)))]) (fun My=>(⟨some D,.db⟩ :: ⟨some bh,.var (s2.1:Ref)⟩ :: ⟨some ba,.var (al:aw)⟩ :: aZ s2.2)) (fun My=> ?_) (fun Ny=> ?_)
     ·clear h
      refine c0.step [1,5] (by kernel_rfl) rfl ⟨⟨_,rfl,?_⟩,⟨_,rfl,?_⟩,trivial⟩
      ·refine cV 1 dO ?_
       refine ah.nil ?_
       exact aj.any rfl (c0.le (.same rfl (.same rfl (.same rfl (.same rfl (.same rfl (.same rfl (.same rfl (.same rfl (.same rfl (.same rfl (.same rfl (.same rfl (.same rfl (.same rfl (.same rfl (.same rfl (.same rfl (.same rfl (.same rfl (.same rfl (.same rfl (.same rfl (.same rfl (.same rfl .nil)))))))))))))))))))))))) (Hv ()))
      ·refine ah.nL (k':=Cell.ev ({ yo with cW:=true } :dn)) 3 rfl ((aP.id dn).comp qt) (v:=(true:Bool)) ix (ad rfl) (fQ true) (iO Er) rfl rfl rfl rfl (aT tU) ?_
       refine ah.nil ?_
       exact aj.any rfl (c0.le (.same rfl (.same rfl (.same rfl (.same rfl (.same rfl (.same rfl (.same rfl (.same rfl (.same rfl (.same rfl (.same rfl (.same rfl (.same rfl (.same rfl (.same rfl (.same rfl (.same rfl (.same rfl (.same rfl (.same rfl (.same rfl (.same rfl (.same rfl .nil))))))))))))))))))))))) (Nw ()))
     refine c0.cut (γ:=Unit) 5 (Array.mk (true :: true :: false :: true :: true :: false :: false :: false :: false :: [])) (fun Mz=> [(0,I.of (ab)),(1,I.of (al)),(2,I.of (aU)),(3,I.of (cE)),(5,I.eq (.pointer (some ⟨ba,0,none⟩))),(8,I.of (false)),(9,I.of (aQ)),(10,I.eq (.pointer (some ⟨bh,0,none⟩))),(16,I.of (!aG)),(28,I.of (aQ.isSome && bw.cW)),(33,I.of (b5.bK.isNone)),(39,I.of (ab)),(40,I.eq (.pointer (some ⟨bU,0,none⟩))),(41,I.eq (.pointer (some ⟨bU,0 + 1,none⟩))),(42,I.of (eo.bK)),(43,I.of (ab)),(44,I.of (al)),(45,I.of (aU)),(46,I.gy 220 [I.ptr bm.1,I.ptr bm.2.1,I.ptr bm.2.2]),(68,I.of (s2.1)),(69,I.of (s2.1)),(71,I.eq (.pointer (some ⟨jY,0,none⟩))),(72,I.eq (.pointer (some ⟨jY,0 + 2,none⟩)))]) (fun Mz=>(⟨some D,.db⟩ :: ⟨some bh,.var (s2.1:Ref)⟩ :: ⟨some ba,.var (al:aw)⟩ :: aZ s2.2)) (fun Mz=> ?_) (fun Nz=> ?_)
     ·clear h
      refine c0.step [2,5] (by kernel_rfl) rfl ⟨⟨_,rfl,?_⟩,⟨_,rfl,?_⟩,trivial⟩
      ·refine aL ?_
       refine ah.nil ?_
       exact aj.any rfl (c0.le (.same rfl (.same rfl (.same rfl (.same rfl (.same rfl (.same rfl (.same rfl (.same rfl (.same rfl (.same rfl (.same rfl (.same rfl (.same rfl (.same rfl (.same rfl (.same rfl (.same rfl (.same rfl (.same rfl (.same rfl (.same rfl (.same rfl (.same rfl (.same rfl .nil)))))))))))))))))))))))) (Hv ()))
      ·refine ah.nL (k':=Cell.ev ({ yo with cW:=true } :dn)) 3 rfl ((aP.id dn).comp qt) (v:=(true:Bool)) ix (ad rfl) (fQ true) (iO Er) rfl rfl rfl rfl (aT tU) ?_
       refine ah.nil ?_
       exact aj.any rfl (c0.le (.same rfl (.same rfl (.same rfl (.same rfl (.same rfl (.same rfl (.same rfl (.same rfl (.same rfl (.same rfl (.same rfl (.same rfl (.same rfl (.same rfl (.same rfl (.same rfl (.same rfl (.same rfl (.same rfl (.same rfl (.same rfl (.same rfl (.same rfl .nil))))))))))))))))))))))) (Nx ()))
     refine c0.cut (γ:=Unit) 5 (Array.mk (true :: true :: true :: true :: false :: false :: false :: false :: false :: [])) (fun MA=> [(0,I.of (ab)),(1,I.of (al)),(2,I.of (aU)),(3,I.of (cE)),(5,I.eq (.pointer (some ⟨ba,0,none⟩))),(8,I.of (false)),(9,I.of (aQ)),(10,I.eq (.pointer (some ⟨bh,0,none⟩))),(16,I.of (!aG)),(28,I.of (aQ.isSome && bw.cW)),(33,I.of (b5.bK.isNone)),(39,I.of (ab)),(40,I.eq (.pointer (some ⟨bU,0,none⟩))),(41,I.eq (.pointer (some ⟨bU,0 + 1,none⟩))),(42,I.of (eo.bK)),(43,I.of (ab)),(44,I.of (al)),(45,I.of (aU)),(46,I.gy 220 [I.ptr bm.1,I.ptr bm.2.1,I.ptr bm.2.2]),(68,I.of (s2.1)),(69,I.of (s2.1)),(70,I.of (cE)),(71,I.eq (.pointer (some ⟨jY,0,none⟩)))]) (fun MA=>(⟨some D,.db⟩ :: ⟨some bh,.var (s2.1:Ref)⟩ :: ⟨some ba,.var (al:aw)⟩ :: aZ s2.2)) (fun MA=> ?_) (fun Hw=> ?_)
     ·clear h
      refine c0.step [4] (by kernel_rfl) rfl ⟨⟨_,rfl,?_⟩,trivial⟩
      ·refine bj (bc qD) ?_
       refine ah.nil ?_
       exact aj.any rfl (c0.le (.same rfl (.same rfl (.same rfl (.same rfl (.same rfl (.same rfl (.same rfl (.same rfl (.same rfl (.same rfl (.same rfl (.same rfl (.same rfl (.same rfl (.same rfl (.same rfl (.same rfl (.same rfl (.same rfl (.same rfl (.same rfl (.same rfl (.same rfl (.same rfl .nil)))))))))))))))))))))))) (Hv ()))
     refine c0.cut (γ:=Unit) 6 (Array.mk (true :: false :: false :: true :: true :: false :: false :: false :: false :: [])) (fun MB=> [(0,I.of (ab)),(1,I.of (al)),(2,I.of (aU)),(3,I.of (cE)),(5,I.eq (.pointer (some ⟨ba,0,none⟩))),(8,I.of (false)),(9,I.of (aQ)),(10,I.eq (.pointer (some ⟨bh,0,none⟩))),(16,I.of (!aG)),(28,I.of (aQ.isSome && bw.cW)),(33,I.of (b5.bK.isNone)),(39,I.of (ab)),(40,I.eq (.pointer (some ⟨bU,0,none⟩))),(41,I.eq (.pointer (some ⟨bU,0 + 1,none⟩))),(42,I.of (eo.bK)),(43,I.of (ab)),(44,I.of (al)),(45,I.of (aU)),(46,I.gy 220 [I.ptr bm.1,I.ptr bm.2.1,I.ptr bm.2.2]),(68,I.of (s2.1)),(71,I.eq (.pointer (some ⟨jY,0,none⟩))),(72,I.eq (.pointer (some ⟨jY,0 + 2,none⟩)))]) (fun MB=>(⟨some D,.db⟩ :: ⟨some bh,.var (s2.1:Ref)⟩ :: ⟨some ba,.var (al:aw)⟩ :: aZ s2.2)) (fun MB=> ?_) (fun Wv=> ?_)
     ·clear h
      refine c0.step [1,2,5] (by kernel_rfl) rfl ⟨⟨_,rfl,?_⟩,⟨_,rfl,?_⟩,⟨_,rfl,?_⟩,trivial⟩
      ·refine cV 1 dO ?_
       refine ah.nil ?_
       exact aj.any rfl (c0.le (.same rfl (.same rfl (.same rfl (.same rfl (.same rfl (.same rfl (.same rfl (.same rfl (.same rfl (.same rfl (.same rfl (.same rfl (.same rfl (.same rfl (.same rfl (.same rfl (.same rfl (.same rfl (.same rfl (.same rfl (.same rfl (.same rfl (.same rfl .nil))))))))))))))))))))))) (Nz ()))
      ·refine aL ?_
       refine ah.nil ?_
       exact aj.any rfl (c0.le (.same rfl (.same rfl (.same rfl (.same rfl (.same rfl (.same rfl (.same rfl (.same rfl (.same rfl (.same rfl (.same rfl (.same rfl (.same rfl (.same rfl (.same rfl (.same rfl (.same rfl (.same rfl (.same rfl (.same rfl (.same rfl (.same rfl (.same rfl .nil))))))))))))))))))))))) (Ny ()))
      ·refine ah.nL (k':=Cell.ev ({ yo with cW:=true } :dn)) 3 rfl ((aP.id dn).comp qt) (v:=(true:Bool)) ix (ad rfl) (fQ true) (iO Er) rfl rfl rfl rfl (aT tU) ?_
       refine ah.nil ?_
       exact aj.any rfl (c0.le (.same rfl (.same rfl (.same rfl (.same rfl (.same rfl (.same rfl (.same rfl (.same rfl (.same rfl (.same rfl (.same rfl (.same rfl (.same rfl (.same rfl (.same rfl (.same rfl (.same rfl (.same rfl (.same rfl (.same rfl (.same rfl (.same rfl .nil)))))))))))))))))))))) (Wu ()))
     refine c0.cut (γ:=Unit) 6 (Array.mk (true :: false :: true :: true :: false :: false :: false :: false :: false :: [])) (fun MC=> [(0,I.of (ab)),(1,I.of (al)),(2,I.of (aU)),(3,I.of (cE)),(5,I.eq (.pointer (some ⟨ba,0,none⟩))),(8,I.of (false)),(9,I.of (aQ)),(10,I.eq (.pointer (some ⟨bh,0,none⟩))),(16,I.of (!aG)),(28,I.of (aQ.isSome && bw.cW)),(33,I.of (b5.bK.isNone)),(39,I.of (ab)),(40,I.eq (.pointer (some ⟨bU,0,none⟩))),(41,I.eq (.pointer (some ⟨bU,0 + 1,none⟩))),(42,I.of (eo.bK)),(43,I.of (ab)),(44,I.of (al)),(45,I.of (aU)),(46,I.gy 220 [I.ptr bm.1,I.ptr bm.2.1,I.ptr bm.2.2]),(68,I.of (s2.1)),(70,I.of (cE)),(71,I.eq (.pointer (some ⟨jY,0,none⟩)))]) (fun MC=>(⟨some D,.db⟩ :: ⟨some bh,.var (s2.1:Ref)⟩ :: ⟨some ba,.var (al:aw)⟩ :: aZ s2.2)) (fun MC=> ?_) (fun NA=> ?_)
     ·clear h
      refine c0.step [1,4] (by kernel_rfl) rfl ⟨⟨_,rfl,?_⟩,⟨_,rfl,?_⟩,trivial⟩
      ·refine cV 1 dO ?_
       refine ah.nil ?_
       exact aj.any rfl (c0.le (.same rfl (.same rfl (.same rfl (.same rfl (.same rfl (.same rfl (.same rfl (.same rfl (.same rfl (.same rfl (.same rfl (.same rfl (.same rfl (.same rfl (.same rfl (.same rfl (.same rfl (.same rfl (.same rfl (.same rfl (.same rfl (.same rfl (.same rfl .nil))))))))))))))))))))))) (Hw ()))
      ·refine bj (bc qD) ?_
       refine ah.nil ?_
       exact aj.any rfl (c0.le (.same rfl (.same rfl (.same rfl (.same rfl (.same rfl (.same rfl (.same rfl (.same rfl (.same rfl (.same rfl (.same rfl (.same rfl (.same rfl (.same rfl (.same rfl (.same rfl (.same rfl (.same rfl (.same rfl (.same rfl (.same rfl (.same rfl (.same rfl .nil))))))))))))))))))))))) (Ny ()))
     refine c0.cut (γ:=Unit) 6 (Array.mk (true :: true :: false :: true :: false :: false :: false :: false :: false :: [])) (fun NB=> [(0,I.of (ab)),(1,I.of (al)),(2,I.of (aU)),(3,I.of (cE)),(5,I.eq (.pointer (some ⟨ba,0,none⟩))),(8,I.of (false)),(9,I.of (aQ)),(10,I.eq (.pointer (some ⟨bh,0,none⟩))),(16,I.of (!aG)),(28,I.of (aQ.isSome && bw.cW)),(33,I.of (b5.bK.isNone)),(39,I.of (ab)),(40,I.eq (.pointer (some ⟨bU,0,none⟩))),(41,I.eq (.pointer (some ⟨bU,0 + 1,none⟩))),(42,I.of (eo.bK)),(43,I.of (ab)),(44,I.of (al)),(45,I.of (aU)),(46,I.gy 220 [I.ptr bm.1,I.ptr bm.2.1,I.ptr bm.2.2]),(68,I.of (s2.1)),(69,I.of (s2.1)),(71,I.eq (.pointer (some ⟨jY,0,none⟩)))]) (fun NB=>(⟨some D,.db⟩ :: ⟨some bh,.var (s2.1:Ref)⟩ :: ⟨some ba,.var (al:aw)⟩ :: aZ s2.2)) (fun NB=> ?_) (fun Oj=> ?_)
     ·clear h
      refine c0.step [2,4] (by kernel_rfl) rfl ⟨⟨_,rfl,?_⟩,⟨_,rfl,?_⟩,trivial⟩
      ·refine aL ?_
       refine ah.nil ?_
       exact aj.any rfl (c0.le (.same rfl (.same rfl (.same rfl (.same rfl (.same rfl (.same rfl (.same rfl (.same rfl (.same rfl (.same rfl (.same rfl (.same rfl (.same rfl (.same rfl (.same rfl (.same rfl (.same rfl (.same rfl (.same rfl (.same rfl (.same rfl (.same rfl (.same rfl .nil))))))))))))))))))))))) (Hw ()))
      ·refine bj (bc qD) ?_
       refine ah.nil ?_
       exact aj.any rfl (c0.le (.same rfl (.same rfl (.same rfl (.same rfl (.same rfl (.same rfl (.same rfl (.same rfl (.same rfl (.same rfl (.same rfl (.same rfl (.same rfl (.same rfl (.same rfl (.same rfl (.same rfl (.same rfl (.same rfl (.same rfl (.same rfl (.same rfl (.same rfl .nil))))))))))))))))))))))) (Nz ()))
     refine c0.cut (γ:=Unit) 6 (Array.mk (true :: true :: true :: false :: false :: false :: false :: false :: false :: [])) (fun NC=> [(0,I.of (ab)),(1,I.of (al)),(2,I.of (aU)),(3,I.of (cE)),(5,I.eq (.pointer (some ⟨ba,0,none⟩))),(8,I.of (false)),(9,I.of (aQ)),(10,I.eq (.pointer (some ⟨bh,0,none⟩))),(16,I.of (!aG)),(28,I.of (aQ.isSome && bw.cW)),(33,I.of (b5.bK.isNone)),(39,I.of (ab)),(40,I.eq (.pointer (some ⟨bU,0,none⟩))),(41,I.eq (.pointer (some ⟨bU,0 + 1,none⟩))),(42,I.of (eo.bK)),(43,I.of (ab)),(44,I.of (al)),(45,I.of (aU)),(46,I.gy 220 [I.ptr bm.1,I.ptr bm.2.1,I.ptr bm.2.2]),(68,I.of (s2.1)),(69,I.of (s2.1)),(70,I.of (cE))]) (fun NC=>(⟨some D,.db⟩ :: ⟨some bh,.var (s2.1:Ref)⟩ :: ⟨some ba,.var (al:aw)⟩ :: aZ s2.2)) (fun NC=> ?_) (fun HX=> ?_)
     ·clear h
      refine c0.step [3] (by kernel_rfl) rfl ⟨⟨_,rfl,?_⟩,trivial⟩
      ·refine bp (dv (eb (ad rfl) Ep)) ?_
       refine ah.nil ?_
       exact aj.any rfl (c0.le (.same rfl (.same rfl (.same rfl (.same rfl (.same rfl (.same rfl (.same rfl (.same rfl (.same rfl (.same rfl (.same rfl (.same rfl (.same rfl (.same rfl (.same rfl (.same rfl (.same rfl (.same rfl (.same rfl (.same rfl (.same rfl (.same rfl (.same rfl .nil))))))))))))))))))))))) (Hw ()))
     refine c0.cut (γ:=Unit) 7 (Array.mk (false :: true :: true :: false :: false :: false :: false :: false :: false :: [])) (fun ND=> [(0,I.of (ab)),(1,I.of (al)),(2,I.of (aU)),(3,I.of (cE)),(5,I.eq (.pointer (some ⟨ba,0,none⟩))),(8,I.of (false)),(9,I.of (aQ)),(10,I.eq (.pointer (some ⟨bh,0,none⟩))),(16,I.of (!aG)),(28,I.of (aQ.isSome && bw.cW)),(33,I.of (b5.bK.isNone)),(39,I.of (ab)),(40,I.eq (.pointer (some ⟨bU,0,none⟩))),(41,I.eq (.pointer (some ⟨bU,0 + 1,none⟩))),(42,I.of (eo.bK)),(43,I.of (ab)),(44,I.of (al)),(45,I.of (aU)),(46,I.gy 220 [I.ptr bm.1,I.ptr bm.2.1,I.ptr bm.2.2]),(69,I.of (s2.1)),(70,I.of (cE))]) (fun ND=>(⟨some D,.db⟩ :: ⟨some bh,.var (s2.1:Ref)⟩ :: ⟨some ba,.var (al:aw)⟩ :: aZ s2.2)) (fun ND=> ?_) (fun Ok=> ?_)
     ·clear h
      refine c0.step [0] (by kernel_rfl) rfl ⟨⟨_,rfl,?_⟩,trivial⟩
      ·refine cV 1 dO ?_
       refine ah.nil ?_
       exact aj.any rfl (c0.le (.same rfl (.same rfl (.same rfl (.same rfl (.same rfl (.same rfl (.same rfl (.same rfl (.same rfl (.same rfl (.same rfl (.same rfl (.same rfl (.same rfl (.same rfl (.same rfl (.same rfl (.same rfl (.same rfl (.same rfl (.same rfl (.same rfl .nil)))))))))))))))))))))) (HX ()))
     refine c0.cut (γ:=Unit) 7 (Array.mk (true :: false :: false :: true :: false :: false :: false :: false :: false :: [])) (fun NF=> [(0,I.of (ab)),(1,I.of (al)),(2,I.of (aU)),(3,I.of (cE)),(5,I.eq (.pointer (some ⟨ba,0,none⟩))),(8,I.of (false)),(9,I.of (aQ)),(10,I.eq (.pointer (some ⟨bh,0,none⟩))),(16,I.of (!aG)),(28,I.of (aQ.isSome && bw.cW)),(33,I.of (b5.bK.isNone)),(39,I.of (ab)),(40,I.eq (.pointer (some ⟨bU,0,none⟩))),(41,I.eq (.pointer (some ⟨bU,0 + 1,none⟩))),(42,I.of (eo.bK)),(43,I.of (ab)),(44,I.of (al)),(45,I.of (aU)),(46,I.gy 220 [I.ptr bm.1,I.ptr bm.2.1,I.ptr bm.2.2]),(68,I.of (s2.1)),(71,I.eq (.pointer (some ⟨jY,0,none⟩)))]) (fun NF=>(⟨some D,.db⟩ :: ⟨some bh,.var (s2.1:Ref)⟩ :: ⟨some ba,.var (al:aw)⟩ :: aZ s2.2)) (fun NF=> ?_) (fun XX=> ?_)
     ·clear h
      refine c0.step [1,2,4] (by kernel_rfl) rfl ⟨⟨_,rfl,?_⟩,⟨_,rfl,?_⟩,⟨_,rfl,?_⟩,trivial⟩
      ·refine cV 1 dO ?_
       refine ah.nil ?_
       exact aj.any rfl (c0.le (.same rfl (.same rfl (.same rfl (.same rfl (.same rfl (.same rfl (.same rfl (.same rfl (.same rfl (.same rfl (.same rfl (.same rfl (.same rfl (.same rfl (.same rfl (.same rfl (.same rfl (.same rfl (.same rfl (.same rfl (.same rfl (.same rfl .nil)))))))))))))))))))))) (Oj ()))
      ·refine aL ?_
       refine ah.nil ?_
       exact aj.any rfl (c0.le (.same rfl (.same rfl (.same rfl (.same rfl (.same rfl (.same rfl (.same rfl (.same rfl (.same rfl (.same rfl (.same rfl (.same rfl (.same rfl (.same rfl (.same rfl (.same rfl (.same rfl (.same rfl (.same rfl (.same rfl (.same rfl (.same rfl .nil)))))))))))))))))))))) (NA ()))
      ·refine bj (bc qD) ?_
       refine ah.nil ?_
       exact aj.any rfl (c0.le (.same rfl (.same rfl (.same rfl (.same rfl (.same rfl (.same rfl (.same rfl (.same rfl (.same rfl (.same rfl (.same rfl (.same rfl (.same rfl (.same rfl (.same rfl (.same rfl (.same rfl (.same rfl (.same rfl (.same rfl (.same rfl (.same rfl .nil)))))))))))))))))))))) (Wv ()))
     refine c0.cut (γ:=Unit) 7 (Array.mk (true :: false :: true :: false :: false :: false :: false :: false :: false :: [])) (fun NG=> [(0,I.of (ab)),(1,I.of (al)),(2,I.of (aU)),(3,I.of (cE)),(5,I.eq (.pointer (some ⟨ba,0,none⟩))),(8,I.of (false)),(9,I.of (aQ)),(10,I.eq (.pointer (some ⟨bh,0,none⟩))),(16,I.of (!aG)),(28,I.of (aQ.isSome && bw.cW)),(33,I.of (b5.bK.isNone)),(39,I.of (ab)),(40,I.eq (.pointer (some ⟨bU,0,none⟩))),(41,I.eq (.pointer (some ⟨bU,0 + 1,none⟩))),(42,I.of (eo.bK)),(43,I.of (ab)),(44,I.of (al)),(45,I.of (aU)),(46,I.gy 220 [I.ptr bm.1,I.ptr bm.2.1,I.ptr bm.2.2]),(68,I.of (s2.1)),(70,I.of (cE))]) (fun NG=>(⟨some D,.db⟩ :: ⟨some bh,.var (s2.1:Ref)⟩ :: ⟨some ba,.var (al:aw)⟩ :: aZ s2.2)) (fun NG=> ?_) (fun Ol=> ?_)
     ·clear h
      refine c0.step [1,3] (by kernel_rfl) rfl ⟨⟨_,rfl,?_⟩,⟨_,rfl,?_⟩,trivial⟩
      ·refine cV 1 dO ?_
       refine ah.nil ?_
       exact aj.any rfl (c0.le (.same rfl (.same rfl (.same rfl (.same rfl (.same rfl (.same rfl (.same rfl (.same rfl (.same rfl (.same rfl (.same rfl (.same rfl (.same rfl (.same rfl (.same rfl (.same rfl (.same rfl (.same rfl (.same rfl (.same rfl (.same rfl (.same rfl .nil)))))))))))))))))))))) (HX ()))
      ·refine bp (dv (eb (ad rfl) Ep)) ?_
       refine ah.nil ?_
       exact aj.any rfl (c0.le (.same rfl (.same rfl (.same rfl (.same rfl (.same rfl (.same rfl (.same rfl (.same rfl (.same rfl (.same rfl (.same rfl (.same rfl (.same rfl (.same rfl (.same rfl (.same rfl (.same rfl (.same rfl (.same rfl (.same rfl (.same rfl (.same rfl .nil)))))))))))))))))))))) (NA ()))
     refine c0.cut (γ:=Unit) 7 (Array.mk (true :: true :: false :: false :: false :: false :: false :: false :: false :: [])) (fun NH=> [(0,I.of (ab)),(1,I.of (al)),(2,I.of (aU)),(3,I.of (cE)),(5,I.eq (.pointer (some ⟨ba,0,none⟩))),(8,I.of (false)),(9,I.of (aQ)),(10,I.eq (.pointer (some ⟨bh,0,none⟩))),(16,I.of (!aG)),(28,I.of (aQ.isSome && bw.cW)),(33,I.of (b5.bK.isNone)),(39,I.of (ab)),(40,I.eq (.pointer (some ⟨bU,0,none⟩))),(41,I.eq (.pointer (some ⟨bU,0 + 1,none⟩))),(42,I.of (eo.bK)),(43,I.of (ab)),(44,I.of (al)),(45,I.of (aU)),(46,I.gy 220 [I.ptr bm.1,I.ptr bm.2.1,I.ptr bm.2.2]),(68,I.of (s2.1)),(69,I.of (s2.1))]) (fun NH=>(⟨some D,.db⟩ :: ⟨some bh,.var (s2.1:Ref)⟩ :: ⟨some ba,.var (al:aw)⟩ :: aZ s2.2)) (fun NH=> ?_) (fun Om=> ?_)
     ·clear h
      refine c0.step [2,3] (by kernel_rfl) rfl ⟨⟨_,rfl,?_⟩,⟨_,rfl,?_⟩,trivial⟩
      ·refine aL ?_
       refine ah.nil ?_
       exact aj.any rfl (c0.le (.same rfl (.same rfl (.same rfl (.same rfl (.same rfl (.same rfl (.same rfl (.same rfl (.same rfl (.same rfl (.same rfl (.same rfl (.same rfl (.same rfl (.same rfl (.same rfl (.same rfl (.same rfl (.same rfl (.same rfl (.same rfl (.same rfl .nil)))))))))))))))))))))) (HX ()))
      ·refine bp (dv (eb (ad rfl) Ep)) ?_
       refine ah.nil ?_
       exact aj.any rfl (c0.le (.same rfl (.same rfl (.same rfl (.same rfl (.same rfl (.same rfl (.same rfl (.same rfl (.same rfl (.same rfl (.same rfl (.same rfl (.same rfl (.same rfl (.same rfl (.same rfl (.same rfl (.same rfl (.same rfl (.same rfl (.same rfl (.same rfl .nil)))))))))))))))))))))) (Oj ()))
     refine c0.cut (γ:=Unit) 8 (Array.mk (false :: false :: true :: false :: false :: false :: false :: false :: false :: [])) (fun NI=> [(0,I.of (ab)),(1,I.of (al)),(2,I.of (aU)),(3,I.of (cE)),(5,I.eq (.pointer (some ⟨ba,0,none⟩))),(8,I.of (false)),(9,I.of (aQ)),(10,I.eq (.pointer (some ⟨bh,0,none⟩))),(16,I.of (!aG)),(28,I.of (aQ.isSome && bw.cW)),(33,I.of (b5.bK.isNone)),(39,I.of (ab)),(40,I.eq (.pointer (some ⟨bU,0,none⟩))),(41,I.eq (.pointer (some ⟨bU,0 + 1,none⟩))),(42,I.of (eo.bK)),(43,I.of (ab)),(44,I.of (al)),(45,I.of (aU)),(46,I.gy 220 [I.ptr bm.1,I.ptr bm.2.1,I.ptr bm.2.2]),(70,I.of (cE))]) (fun NI=>(⟨some D,.db⟩ :: ⟨some bh,.var (s2.1:Ref)⟩ :: ⟨some ba,.var (al:aw)⟩ :: aZ s2.2)) (fun NI=> ?_) (fun XY=> ?_)
     ·clear h
      refine c0.step [0,1] (by kernel_rfl) rfl ⟨⟨_,rfl,?_⟩,⟨_,rfl,?_⟩,trivial⟩
      ·refine cV 1 dO ?_
       refine ah.nil ?_
       exact aj.any rfl (c0.le (.same rfl (.same rfl (.same rfl (.same rfl (.same rfl (.same rfl (.same rfl (.same rfl (.same rfl (.same rfl (.same rfl (.same rfl (.same rfl (.same rfl (.same rfl (.same rfl (.same rfl (.same rfl (.same rfl (.same rfl (.same rfl .nil))))))))))))))))))))) (Ol ()))
      ·refine cV 1 dO ?_
       refine ah.nil ?_
       exact aj.any rfl (c0.le (.same rfl (.same rfl (.same rfl (.same rfl (.same rfl (.same rfl (.same rfl (.same rfl (.same rfl (.same rfl (.same rfl (.same rfl (.same rfl (.same rfl (.same rfl (.same rfl (.same rfl (.same rfl (.same rfl (.same rfl (.same rfl .nil))))))))))))))))))))) (Ok ()))
     refine c0.cut (γ:=Unit) 8 (Array.mk (false :: true :: false :: false :: false :: false :: false :: false :: false :: [])) (fun NJ=> [(0,I.of (ab)),(1,I.of (al)),(2,I.of (aU)),(3,I.of (cE)),(5,I.eq (.pointer (some ⟨ba,0,none⟩))),(8,I.of (false)),(9,I.of (aQ)),(10,I.eq (.pointer (some ⟨bh,0,none⟩))),(16,I.of (!aG)),(28,I.of (aQ.isSome && bw.cW)),(33,I.of (b5.bK.isNone)),(39,I.of (ab)),(40,I.eq (.pointer (some ⟨bU,0,none⟩))),(41,I.eq (.pointer (some ⟨bU,0 + 1,none⟩))),(42,I.of (eo.bK)),(43,I.of (ab)),(44,I.of (al)),(45,I.of (aU)),(46,I.gy 220 [I.ptr bm.1,I.ptr bm.2.1,I.ptr bm.2.2]),(69,I.of (s2.1))]) (fun NJ=>(⟨some D,.db⟩ :: ⟨some bh,.var (s2.1:Ref)⟩ :: ⟨some ba,.var (al:aw)⟩ :: aZ s2.2)) (fun NJ=> ?_) (fun XZ=> ?_)
     ·clear h
      refine c0.step [0,2] (by kernel_rfl) rfl ⟨⟨_,rfl,?_⟩,⟨_,rfl,?_⟩,trivial⟩
      ·refine cV 1 dO ?_
       refine ah.nil ?_
       exact aj.any rfl (c0.le (.same rfl (.same rfl (.same rfl (.same rfl (.same rfl (.same rfl (.same rfl (.same rfl (.same rfl (.same rfl (.same rfl (.same rfl (.same rfl (.same rfl (.same rfl (.same rfl (.same rfl (.same rfl (.same rfl (.same rfl (.same rfl .nil))))))))))))))))))))) (Om ()))
      ·refine aL ?_
       refine ah.nil ?_
       exact aj.any rfl (c0.le (.same rfl (.same rfl (.same rfl (.same rfl (.same rfl (.same rfl (.same rfl (.same rfl (.same rfl (.same rfl (.same rfl (.same rfl (.same rfl (.same rfl (.same rfl (.same rfl (.same rfl (.same rfl (.same rfl (.same rfl (.same rfl .nil))))))))))))))))))))) (Ok ()))
     refine c0.cut (γ:=Unit) 8 (Array.mk (true :: false :: false :: false :: false :: false :: false :: false :: false :: [])) (fun NK=> [(0,I.of (ab)),(1,I.of (al)),(2,I.of (aU)),(3,I.of (cE)),(5,I.eq (.pointer (some ⟨ba,0,none⟩))),(8,I.of (false)),(9,I.of (aQ)),(10,I.eq (.pointer (some ⟨bh,0,none⟩))),(16,I.of (!aG)),(28,I.of (aQ.isSome && bw.cW)),(33,I.of (b5.bK.isNone)),(39,I.of (ab)),(40,I.eq (.pointer (some ⟨bU,0,none⟩))),(41,I.eq (.pointer (some ⟨bU,0 + 1,none⟩))),(42,I.of (eo.bK)),(43,I.of (ab)),(44,I.of (al)),(45,I.of (aU)),(46,I.gy 220 [I.ptr bm.1,I.ptr bm.2.1,I.ptr bm.2.2]),(68,I.of (s2.1))]) (fun NK=>(⟨some D,.db⟩ :: ⟨some bh,.var (s2.1:Ref)⟩ :: ⟨some ba,.var (al:aw)⟩ :: aZ s2.2)) (fun NK=> ?_) (fun X0=> ?_)
     ·clear h
      refine c0.step [1,2,3] (by kernel_rfl) rfl ⟨⟨_,rfl,?_⟩,⟨_,rfl,?_⟩,⟨_,rfl,?_⟩,trivial⟩
      ·refine cV 1 dO ?_
       refine ah.nil ?_
       exact aj.any rfl (c0.le (.same rfl (.same rfl (.same rfl (.same rfl (.same rfl (.same rfl (.same rfl (.same rfl (.same rfl (.same rfl (.same rfl (.same rfl (.same rfl (.same rfl (.same rfl (.same rfl (.same rfl (.same rfl (.same rfl (.same rfl (.same rfl .nil))))))))))))))))))))) (Om ()))
      ·refine aL ?_
       refine ah.nil ?_
       exact aj.any rfl (c0.le (.same rfl (.same rfl (.same rfl (.same rfl (.same rfl (.same rfl (.same rfl (.same rfl (.same rfl (.same rfl (.same rfl (.same rfl (.same rfl (.same rfl (.same rfl (.same rfl (.same rfl (.same rfl (.same rfl (.same rfl (.same rfl .nil))))))))))))))))))))) (Ol ()))
      ·refine bp (dv (eb (ad rfl) Ep)) ?_
       refine ah.nil ?_
       exact aj.any rfl (c0.le (.same rfl (.same rfl (.same rfl (.same rfl (.same rfl (.same rfl (.same rfl (.same rfl (.same rfl (.same rfl (.same rfl (.same rfl (.same rfl (.same rfl (.same rfl (.same rfl (.same rfl (.same rfl (.same rfl (.same rfl (.same rfl .nil))))))))))))))))))))) (XX ()))
     refine c0.step [0,1,2] (by kernel_rfl) rfl ⟨⟨_,rfl,?_⟩,⟨_,rfl,?_⟩,⟨_,rfl,?_⟩,trivial⟩
     ·refine cV 1 dO ?_
      refine ah.nil ?_
      exact aj.any rfl (c0.le (.same rfl (.same rfl (.same rfl (.same rfl (.same rfl (.same rfl (.same rfl (.same rfl (.same rfl (.same rfl (.same rfl (.same rfl (.same rfl (.same rfl (.same rfl (.same rfl (.same rfl (.same rfl (.same rfl (.same rfl .nil)))))))))))))))))))) (X0 ()))
     ·refine cV 1 dO ?_
      refine ah.nil ?_
      exact aj.any rfl (c0.le (.same rfl (.same rfl (.same rfl (.same rfl (.same rfl (.same rfl (.same rfl (.same rfl (.same rfl (.same rfl (.same rfl (.same rfl (.same rfl (.same rfl (.same rfl (.same rfl (.same rfl (.same rfl (.same rfl (.same rfl .nil)))))))))))))))))))) (XZ ()))
     ·refine aL ?_
      refine ah.nil ?_
      exact aj.any rfl (c0.le (.same rfl (.same rfl (.same rfl (.same rfl (.same rfl (.same rfl (.same rfl (.same rfl (.same rfl (.same rfl (.same rfl (.same rfl (.same rfl (.same rfl (.same rfl (.same rfl (.same rfl (.same rfl (.same rfl (.same rfl .nil)))))))))))))))))))) (XY ()))
    ·exact Empty.elim dR
   ·refine ak.cU ?_
    refine aL ?_
    refine jQ Nu Nv (default:dn) .nil ?_
    refine ah.Ah 1 rfl (Cell.ev (default:dn)) (fun _=>rfl) (ad rfl) rfl fun cF AK=> ?_
    replace h:=au.ts h cF AK
    refine bp (dv (eb (ad rfl) eS)) ?_
    refine bj (bc rP) ?_
    obtain⟨wV,wj,h⟩:=au.cu h
    obtain⟨q3,HW,h⟩:=au.cu h
    refine ah.nL (k':=Cell.gL ({ wV with bK:=(some cF.1:Ref) } :eJ)) 1 rfl ((aP.id eJ).comp rp) (v:=((some cF.1:Ref):Ref)) dO (ad rfl) (ad rfl) (lU wj) rfl rfl rfl rfl (aT HW) ?_
    refine ah.nil ?_
    exact dI 0 (hm q3 () h)
   ·refine ak.skip ?_
    exact dI 0 (hm hp () h)
theorem Qy {hp:aH Cell} {ab:gp} {al:aA} {Q:(aH Cell)→Prop} (h:uL hp ab al Q):bN Tryz.prog 202 [I.of (ab),I.of (al)] ([] ++ aZ hp) (δ:= {r:(aH Cell) // Q r} × Unit) (fun d=>I.eA []) (fun d=> [] ++ aZ d.1.1):=by
 unfold uL at h
 refine bN.of Tryz.func202 rfl Tryz.ntmps202 rfl fun W A=> ?_
 refine aM ?_
 refine cM fun ba=> ?_
 refine cM fun bh=> ?_
 refine cc ?_
 refine cV 1 zY ?_
 refine bj (bc oq) ?_
 refine dg 0 nB iS ?_
 obtain⟨aG,bF,h⟩:=au.cu h
 refine gY Ht (E7 bF) ?_
 refine aL ?_
 refine gZ ?_
 refine gZ ?_
 refine gZ ?_
 refine dL vq fun cH=> ?_
 refine dL fw fun fa=> ?_
 refine dh 1 j4 ?_
 refine dh 0 cB ?_
 refine aW ?_
 refine cm ?_
 refine aM ?_
 refine bj (bc rQ) ?_
 refine dg 3 qo qN ?_
 refine cV 1 j4 ?_
 obtain⟨bT,c7,h⟩:=au.cu h
 obtain⟨bw,di,h⟩:=au.cu h
 obtain⟨bJ,eC,h⟩:=au.cu h
 refine bp (vd (r:=bJ) Tryz.underlying128 tN xL (lQ (ad rfl) c7) (ad rfl) (eK (n:=4) rfl (iR di) rfl) (aT eC)) ?_
 refine bp (mz Tryz.underlying289 (ad rfl)) ?_
 refine a0 ?_
 refine ak.vi (γ:=Unit) h (fun bq ax=> [(0,I.of (ab)),(1,I.of (al)),(2,I.eq (.pointer (some ⟨ba,0,none⟩))),(3,I.eq (.pointer (some ⟨bh,0,none⟩))),(4,I.eq (.pointer (some ⟨cH,0,none⟩))),(5,I.eq (.pointer (some ⟨fa,0,none⟩))),(6,I.of (aG.2.2)),(19,I.of (bJ.isNone))]) (fun bq ax=>(⟨some fa,.var (aG.2.1:aw)⟩ :: ⟨some cH,.var (aG.1:Vector aw 4)⟩ :: ⟨some bh,.var (al:aA)⟩ :: ⟨some ba,.var (ab:gp)⟩ :: aZ bq)) (ad rfl) (fun bq ax h=> ?_) (fun hm ag h=> ?_) (fun hm ag h=> ?_)
 ·refine aj.next ?_
  obtain⟨b5,eW,h⟩:=au.cu h
  obtain⟨en,kA,h⟩:=au.cu h
  refine ak.draw mixed 8 [some 26,some 27,some 28,some 29,some 30,some 31,some 32,some 33] [[],[0],[],[1,2],[],[],[],[6]] [.val _,.val _,.val _,.val _,.val _,.val _,.val _,.val _] [false,false,false,false,false,false,false,false] (by kernel_rfl) rfl rfl rfl (fun eL=>⟨H1 (bc rQ),hT 3 qo qN,fY 1 j4,e7 fun L' aq=>vd (r:=en) Tryz.underlying128 tN xL (lQ (ad rfl) c7) (ad rfl) (j7 (fun i e q=>aq i e q rfl) (eK (n:=4) rfl (iR eW) rfl)) (aT kA),fY 0 cB,eE,H1 (bc nM),hT 2 m3 cf,trivial⟩) fun eL=> ?_
  refine ah.kM 4 0 rfl Ww (Q2 h) rfl rfl ⟨ad rfl,ad rfl,ad rfl,ad rfl,trivial⟩ rfl fun⟨⟨aQ,h⟩,aN⟩=> ?_
  refine ah.eH (L2:=(⟨some fa,.var (aG.2.1:aw)⟩ :: ⟨some cH,.var (aG.1:Vector aw 4)⟩ :: ⟨some bh,.var (al:aA)⟩ :: ⟨some ba,.var (ab:gp)⟩ :: aZ aQ.2)) rfl ?_
  refine ah.nil ?_
  refine aj.oz ?_
  exact aj.lY (⟨⟨aQ.2,h⟩,()⟩: {r // _} × _) (.cons _ (.cons _ (.cons _ (.cons _ (.refl _))))) rfl rfl
 ·obtain⟨YY,X1,X2⟩:=au.ex h
  refine Uv mixed 6 5 25 _ (K:=YY) [some (20,I.eq (.pointer (some ⟨ba,0 + 2,none⟩))),some (21,I.of (ab.nI)),some (22,I.of (aG.1)),some (23,I.eq (.pointer (some ⟨ba,0 + 1,none⟩))),some (24,I.of (ab.eu)),none] _ [[],[0],[],[],[3],[4]] _ (fun bm=>I.of (bm.1)) (fun bm=>(⟨some fa,.var (aG.2.1:aw)⟩ :: ⟨some cH,.var (aG.1:Vector aw 4)⟩ :: ⟨some bh,.var (al:aA)⟩ :: ⟨some ba,.var (ab:gp)⟩ :: aZ bm.2)) rfl rfl rfl rfl rfl rfl (by kernel_rfl) ⟨⟨bc rQ (ad rfl),fun bm tX=>bc rQ (ad rfl)⟩,⟨fl (i:=3) ((aP.id gp).comp qo) (r:=ab.nI) qN (ad rfl) rfl rfl rfl,fun bm tX=>fl (i:=3) ((aP.id gp).comp qo) (r:=ab.nI) qN (ad rfl) rfl rfl rfl⟩,⟨fl (i:=1) (aP.id (Vector aw 4)) (r:=aG.1) j4 (ad rfl) rfl rfl rfl,fun bm tX=>fl (i:=1) (aP.id (Vector aw 4)) (r:=aG.1) j4 (ad rfl) rfl rfl rfl⟩,⟨bc Gr (ad rfl),fun bm tX=>bc Gr (ad rfl)⟩,⟨fl (i:=3) ((aP.id gp).comp BW) (r:=ab.eu) cf (ad rfl) rfl rfl rfl,fun bm tX=>fl (i:=3) ((aP.id gp).comp BW) (r:=ab.eu) cf (ad rfl) rfl rfl rfl⟩,trivial⟩ (fun bQ yp ay c3=> ?_) (fun bm tX=> ?_)
  ·refine ah.kM 4 0 rfl Wx (RI X1) rfl rfl ⟨ad (ay rfl),trivial⟩ rfl fun⟨⟨bm,tX⟩,_⟩=> ?_
   refine ah.eH (L2:=(⟨some fa,.var (aG.2.1:aw)⟩ :: ⟨some cH,.var (aG.1:Vector aw 4)⟩ :: ⟨some bh,.var (al:aA)⟩ :: ⟨some ba,.var (ab:gp)⟩ :: aZ bm.2)) rfl ?_
   refine ah.nil ?_
   exact c3 bm tX
  have h:=X2 bm tX
  refine ah.le (E':= [(0,I.of (ab)),(1,I.of (al)),(2,I.eq (.pointer (some ⟨ba,0,none⟩))),(3,I.eq (.pointer (some ⟨bh,0,none⟩))),(4,I.eq (.pointer (some ⟨cH,0,none⟩))),(5,I.eq (.pointer (some ⟨fa,0,none⟩))),(6,I.of (aG.2.2)),(7,I.eA [I.of (aG.1),I.of (aG.2.1),I.of (aG.2.2)]),(8,I.of (ab)),(9,I.eq (.pointer (some ⟨bh,0 + 0,none⟩))),(10,I.of (al.bd)),(11,I.eA [I.of (aG.1),I.of (aG.2.1),I.of (aG.2.2)]),(12,I.of (aG.1)),(13,I.of (aG.2.1)),(14,I.of (aG.2.2)),(15,I.eq (.pointer (some ⟨ba,0 + 2,none⟩))),(16,I.of (ab.nI)),(17,I.of (aG.1)),(18,I.of (bJ)),(19,I.of (bJ.isNone)),(20,I.eq (.pointer (some ⟨ba,0 + 2,none⟩))),(21,I.of (ab.nI)),(22,I.of (aG.1)),(23,I.eq (.pointer (some ⟨ba,0 + 1,none⟩))),(24,I.of (ab.eu)),(25,I.of (bm.1))]) (.same rfl (.same rfl (.same rfl (.same rfl (.same rfl (.same rfl (.same rfl (.same rfl (.same rfl (.same rfl (.same rfl (.same rfl (.same rfl (.same rfl (.same rfl (.same rfl (.same rfl (.same rfl (.same rfl (.same rfl (.same rfl (.same rfl (.same rfl (.same rfl (.same rfl (.same rfl .nil)))))))))))))))))))))))))) ?_
  obtain⟨eo,jT,h⟩:=au.cu h
  obtain⟨b9,kv,h⟩:=au.cu h
  refine ah.Hd (k':=Cell.iT (fc eo aG.1 bm.1)) 4 rfl (by first | exact .inl rfl | exact .inr rfl) Tryz.underlying128 tN (lQ (ad rfl) c7) (ad rfl) (ad rfl) (iR jT) rfl rfl rfl (aT kv) ?_
  refine ah.nil ?_
  exact dI 0 (hm b9 () h)
 ·refine ak.skip ?_
  exact dI 0 (hm hp () h)
theorem Qs {hp:aH Cell} {ab:ja} {al:Vector aw 4} {r:Int × Bool} (h:uK hp ab al=some r):bN Tryz.prog 226 [I.of (ab),I.of (al)] ([] ++ aZ hp) (δ:=Unit) (fun _=>I.eA [I.of (r.1),I.of (r.2)]) (fun _=> [] ++ aZ hp):=by
 unfold uK at h
 refine bN.of Tryz.func226 rfl Tryz.ntmps226 rfl fun W A=> ?_
 refine aM ?_
 refine cM fun ba=> ?_
 refine cM fun bh=> ?_
 refine aW ?_
 refine aW ?_
 refine cc ?_
 refine bj (bc C7) ?_
 refine dg 1 yQ z5 ?_
 refine cV 0 lz ?_
 obtain⟨bT,c7,h⟩:=aC h
 obtain⟨bw,di,h⟩:=aC h
 obtain⟨aG,bF,h⟩:=aC h
 refine ah.iK (fr.obj 2 rfl (pa di) Wy (PY bF) rfl ⟨eb (ad rfl) c7,ad rfl,trivial⟩) rfl rfl rfl ?_
 refine aL ?_
 refine gZ ?_
 refine gZ ?_
 refine dL iv fun cH=> ?_
 refine dh 0 c6 ?_
 refine aW ?_
 refine cc ?_
 refine bj (bc nM) ?_
 refine dg 0 m3 cf ?_
 refine aL ?_
 refine aW ?_
 refine aW ?_
 refine a0 ?_
 refine ak.ret ?_
 obtain rfl:=aT h
 exact aj.kL () (.cons _ (.cons _ (.cons _ (.refl _)))) rfl rfl (dG rfl) (dG rfl)
theorem QI {hp:aH Cell} {y:ft} {ab:aA} {Q:(aH Cell)→Prop} (h:Cm hp y ab Q):kr Tryz.prog "matchguard/index.put" (I.of y) [I.of (ab)] ([] ++ aZ hp) (δ:= {r:(aH Cell) // Q r} × Unit) (fun d=>I.eA []) (fun d=> [] ++ aZ d.1.1):=by
 cases y with
 | nil=>exact h.elim
 | l5 z=>
   obtain⟨r,J,aa⟩:=h
   exact kr.of Se (fun A W u hu=>CC hu) (bN.map (fun d=>(⟨r,aa⟩,d)) (fun _=>rfl) (fun _=>rfl) (QM J))
 | kP z=>exact kr.of Sf (fun A W u hu=>CD hu) (Qy h)
 | kQ z=>exact kr.of Sg (fun A W u hu=>CE hu) (QO h)
theorem QP {hp:aH Cell} {ab:Ref} {al:b1} {r:aA × Bool} (h:uP hp ab al=some r):bN Tryz.prog 32 [I.of (ab),I.of (al)] ([] ++ aZ hp) (δ:=Unit) (fun _=>I.eA [I.of (r.1),I.of (r.2)]) (fun _=> [] ++ aZ hp):=by
 unfold uP at h
 refine bN.of Tryz.func32 rfl Tryz.ntmps32 rfl fun W A=> ?_
 refine aM ?_
 refine cM fun ba=> ?_
 refine dL iv fun bh=> ?_
 refine aW ?_
 refine cm ?_
 refine aM ?_
 refine aL ?_
 refine bp (mz Tryz.underlying36 (ad rfl)) ?_
 refine a0 ?_
 refine dz h (fun h=>?_) fun h=>?_
 ·refine aM ?_
  refine jQ Av iv (default:aA) .nil ?_
  refine dh 0 c6 ?_
  refine aW ?_
  refine a0 ?_
  refine ak.ret ?_
  refine aj.ret ?_
  obtain rfl:=aT h
  exact aj.kL () (.cons _ (.cons _ (.refl _))) rfl rfl (nc (i:=0) c6 rfl rfl) (dG rfl)
 ·refine dT ?_
  refine ak.seq ?_
  obtain⟨bT,c7,h⟩:=aC h
  obtain⟨bw,di,h⟩:=aC h
  obtain⟨aG,bF,h⟩:=aC h
  refine kc [0,1,3,4,5,8,9] ?_
  refine ak.pG 2 mixed (bk 12 [] [] _ :: bk 13 (0 :: []) [] _ :: bk 14 (1 :: []) [] _ :: ⟨some 15,(2 :: []),[],[],fun _=>I.of (bw.ik),fun _ _=>⟨none,.dead⟩⟩ :: bk 16 [] (1 :: []) _ :: ⟨some 17,(3 :: 4 :: []),[],[],fun _=>I.eA [I.of (aG.1),I.of (aG.2)],fun _ _=>⟨none,.dead⟩⟩ :: bk 11 (5 :: []) [] _ :: bk 18 (6 :: []) [] _ :: bk 19 (6 :: []) [] _ :: bk 6 (7 :: []) [] _ :: bk 7 (8 :: []) [] _ :: []) _ (0 :: 1 :: 3 :: 4 :: 5 :: 8 :: 9 :: []) rfl rfl (by kernel_rfl) (by kernel_rfl) ⟨b8.q (gb),b8.q (cr fun hd E' L' ay aq=>dv (eb (ad (ay _ _ rfl)) c7)),b8.q (g8 (bc tu)),?_,b8.q (mO 1 iS),?_,b8.q (gb),b8.q (cr fun hd E' L' ay aq=>lb (ad (ay _ _ rfl)) rfl),b8.q (cr fun hd E' L' ay aq=>lb (ad (ay _ _ rfl)) rfl),b8.q (cr fun hd E' L' ay aq=>e5 (ad (ay _ _ rfl))),b8.q (cr fun hd E' L' ay aq=>e5 (ad (ay _ _ rfl))),trivial⟩ fun fG=> ?_
  ·intro hd E' L' ay aq ck
   refine bp (fv ((aP.id gq).comp s0) (r:=bw.ik) rY (ad (ay _ _ rfl)) (eK (n:=2) (ck.trans rfl) (kp di) rfl) rfl rfl) ?_
   refine ah.nil ?_
   exact aj.fin (ek []) rfl rfl
  ·intro hd E' L' ay aq ck
   refine ah.iK (fr.xU 2 (ck.trans rfl) (JV bF) ⟨ad (ay _ _ rfl),ad (ay _ _ rfl),trivial⟩) rfl rfl rfl ?_
   refine ah.nil ?_
   exact aj.fin (ek []) rfl rfl
  refine aj.eH (L2:=(⟨some bh,.var ((default:aA):aA)⟩ :: ⟨some ba,.var (al:b1)⟩ :: aZ hp)) rfl ?_
  refine lF [0,1,3,4,5,6,7,8,9,11,12,13,14,15,16,17,18,19] ?_
  refine aj.next ?_
  refine aM ?_
  refine aL ?_
  refine aL ?_
  refine aL ?_
  obtain⟨aQ,cR,h⟩:=aC h
  refine ah.iK (fr.iG 2 rfl On (JZ cR) ⟨ad rfl,ad rfl,ad rfl,trivial⟩) rfl rfl rfl ?_
  refine gZ ?_
  refine gZ ?_
  refine dh 0 c6 ?_
  refine aW ?_
  refine a0 ?_
  refine ak.ret ?_
  obtain rfl:=aT h
  exact aj.kL () (.cons _ (.cons _ (.refl _))) rfl rfl (nc (i:=0) c6 rfl rfl) (dG rfl)
theorem Qj {hp:aH Cell} {y:ft} {ab:aA} {Q:(aH Cell)→Prop} (h:B4 hp y ab Q):kr Tryz.prog "matchguard/index.remove" (I.of y) [I.of (ab)] ([] ++ aZ hp) (δ:= {r:(aH Cell) // Q r} × Unit) (fun d=>I.eA []) (fun d=> [] ++ aZ d.1.1):=by
 cases y with
 | nil=>exact h.elim
 | l5 z=>
   obtain⟨r,J,aa⟩:=h
   exact kr.of Sh (fun A W u hu=>CC hu) (bN.map (fun d=>(⟨r,aa⟩,d)) (fun _=>rfl) (fun _=>rfl) (Qp J))
 | kP z=>
   obtain⟨r,J,aa⟩:=h
   exact kr.of Si (fun A W u hu=>CD hu) (bN.map (fun d=>(⟨r,aa⟩,d)) (fun _=>rfl) (fun _=>rfl) (P9 J))
 | kQ z=>exact kr.of Sj (fun A W u hu=>CE hu) (Qr h)
theorem Qk {hp:aH Cell} {y:ft} {ab:Vector aw 4} {r:Int × Bool} (h:B5 hp y ab=some r):kr Tryz.prog "matchguard/index.lookup" (I.of y) [I.of (ab)] ([] ++ aZ hp) (δ:=Unit) (fun _=>I.eA [I.of (r.1),I.of (r.2)]) (fun _=> [] ++ aZ hp):=by
 cases y with
 | nil=>cases h
 | l5 z=>exact kr.of Sk (fun A W u hu=>CC hu) (Ql h)
 | kP z=>exact kr.of Sl (fun A W u hu=>CD hu) (P8 h)
 | kQ z=>exact kr.of Sm (fun A W u hu=>CE hu) (Qs h)
theorem QT {hp:aH Cell} {ab:Ref} {al:aA} {Q:Bool × (aH Cell)→Prop} (h:ru hp ab al Q):bN Tryz.prog 10 [I.of (ab),I.of (al)] ([] ++ aZ hp) (δ:= {r:Bool × (aH Cell) // Q r} × Unit) (fun d=>I.of (d.1.1.1)) (fun d=> [] ++ aZ d.1.1.2):=by
 unfold ru at h
 refine bN.of Tryz.func10 rfl Tryz.ntmps10 rfl fun W A=> ?_
 refine aM ?_
 refine cM fun ba=> ?_
 refine aW ?_
 refine cm ?_
 refine aM ?_
 refine aL ?_
 refine bp (mz Tryz.underlying36 (ad rfl)) ?_
 refine a0 ?_
 refine ak.cond (ad rfl) (fun ag=> ?_) (fun ag=> ?_)
 ·replace h:=rI ag h
  refine aM ?_
  refine aW ?_
  refine a0 ?_
  refine ak.ret ?_
  refine aj.ret ?_
  exact aj.gF (⟨⟨(false,hp),h⟩,()⟩: {r // _} × _) (.cons _ (.refl _)) rfl rfl (dG rfl)
 ·replace h:=rJ ag h
  refine dT ?_
  refine ak.seq ?_
  obtain⟨bT,c7,h⟩:=au.cu h
  obtain⟨bw,di,h⟩:=au.cu h
  obtain⟨bU,eS,h⟩:=au.cu h
  obtain⟨b5,eW,h⟩:=au.cu h
  obtain⟨bJ,eC,h⟩:=au.cu h
  refine ak.Wz 1 1 ?_
  refine kc [0,1,3,4,9,10] ?_
  refine ak.pG 2 mixed (bk 12 [] [] _ :: bk 13 (0 :: []) [] _ :: bk 14 (1 :: []) [] _ :: ⟨some 15,(2 :: []),[],[],fun _=>I.of (bw.j2),fun _ _=>⟨none,.dead⟩⟩ :: bk 16 [] [] _ :: bk 17 (4 :: []) (0 :: []) _ :: ⟨some 18,(3 :: 5 :: []),[],[],fun _=>I.eA [I.of (bJ.getD default),I.of (bJ.isSome)],fun _ _=>⟨none,.dead⟩⟩ :: bk 11 (6 :: []) [] _ :: bk 19 (7 :: []) [] _ :: bk 20 (7 :: []) [] _ :: ⟨some 5,[],(1 :: []),(1 :: []),fun hd=>I.eq (.pointer (some ⟨((hd 10 0).getD 0),0,none⟩)),fun hd _=>⟨some ((hd 10 0).getD 0),.var ((default:aA):aA)⟩⟩ :: ⟨none,(8 :: 10 :: []),(1 :: []),(1 :: []),fun _=>I.any,fun hd _=>⟨some ((hd 10 0).getD 0),.var (bJ.getD default:aA)⟩⟩ :: bk 6 (9 :: []) [] _ :: []) _ (0 :: 1 :: 3 :: 4 :: 9 :: 10 :: []) rfl rfl (by kernel_rfl) (by kernel_rfl) ⟨b8.q (gb),b8.q (cr fun hd E' L' ay aq=>dv (eb (ad (ay _ _ rfl)) c7)),b8.q (g8 (bc zv)),?_,b8.q (g8 (bc nM)),b8.q (uf 0 m3 cf),?_,b8.q (gb),b8.q (cr fun hd E' L' ay aq=>lb (ad (ay _ _ rfl)) rfl),b8.q (cr fun hd E' L' ay aq=>lb (ad (ay _ _ rfl)) rfl),?_,?_,b8.q (cr fun hd E' L' ay aq=>e5 (ad (ay _ _ rfl))),trivial⟩ fun fG=> ?_
  ·intro hd E' L' ay aq ck
   refine bp (fv ((aP.id gq).comp w4) (r:=bw.j2) xG (ad (ay _ _ rfl)) (eK (n:=2) (ck.trans rfl) (kp di) rfl) rfl rfl) ?_
   refine ah.nil ?_
   exact aj.fin (ek []) rfl rfl
  ·intro hd E' L' ay aq ck
   refine bp (F0 (r:=bJ) Tryz.underlying119 En iv (lQ (ad (ay _ _ rfl)) eS) (ad (ay _ _ rfl)) (eK (n:=2) (ck.trans rfl) (pD eW) rfl) (aT eC)) ?_
   refine ah.nil ?_
   exact aj.fin (ek []) rfl rfl
  ·intro hd E' L' ay aq ck
   refine dL iv fun bh=> ?_
   refine ah.nil ?_
   refine aj.place 1 (aq 1 _ rfl rfl) ?_
   exact aj.fin (ek [some bh]) rfl rfl
  ·intro hd E' L' ay aq ck
   refine ah.store (i:=1) (aP.id aA) (v:=(bJ.getD default:aA)) (b':=(bJ.getD default:aA)) c6 (ad (ay _ _ rfl)) (ad (ay _ _ rfl)) (aq 1 _ rfl rfl) rfl rfl ?_
   refine ah.nil ?_
   exact aj.fin (ek []) rfl rfl
  refine aj.eH (L2:=(⟨some ba,.var (al:aA)⟩ :: ⟨some ((fG 10 0).getD 0),.var (bJ.getD default:aA)⟩ :: aZ hp)) rfl ?_
  refine lF [0,1,3,4,5,6,9,10,11,12,13,14,15,16,17,18,19,20] ?_
  refine aj.b2 1 rfl ?_
  refine aj.next ?_
  refine ak.seq ?_
  refine ak.seq ?_
  obtain⟨lr,q1,h⟩:=au.cu h
  obtain⟨eo,jT,h⟩:=au.cu h
  obtain⟨aG,bF,h⟩:=au.cu h
  refine kc [0,1,3,4,5,6,9,10,11,12,13,14,15,16,17,18,19,20] ?_
  refine ak.pG 2 mixed (bk 22 [] [] _ :: bk 23 (0 :: []) [] _ :: bk 24 (1 :: []) [] _ :: ⟨some 25,(2 :: []),[],[],fun _=>I.of (eo.ik),fun _ _=>⟨none,.dead⟩⟩ :: bk 26 [] [] _ :: bk 27 (4 :: []) (1 :: []) _ :: ⟨some 28,(3 :: 5 :: []),[],[],fun _=>I.eA [I.of (aG.1),I.of (aG.2)],fun _ _=>⟨none,.dead⟩⟩ :: bk 21 (6 :: []) [] _ :: bk 29 (7 :: []) [] _ :: bk 30 (7 :: []) [] _ :: bk 7 (8 :: []) [] _ :: bk 8 (9 :: []) [] _ :: []) _ (0 :: 1 :: 3 :: 4 :: 5 :: 6 :: 9 :: 10 :: 11 :: 12 :: 13 :: 14 :: 15 :: 16 :: 17 :: 18 :: 19 :: 20 :: []) rfl rfl (by kernel_rfl) (by kernel_rfl) ⟨b8.q (gb),b8.q (cr fun hd E' L' ay aq=>dv (eb (ad (ay _ _ rfl)) q1)),b8.q (g8 (bc tu)),?_,b8.q (g8 (bc oq)),b8.q (uf 1 nB iS),?_,b8.q (gb),b8.q (cr fun hd E' L' ay aq=>lb (ad (ay _ _ rfl)) rfl),b8.q (cr fun hd E' L' ay aq=>lb (ad (ay _ _ rfl)) rfl),b8.q (cr fun hd E' L' ay aq=>e5 (ad (ay _ _ rfl))),b8.q (cr fun hd E' L' ay aq=>e5 (ad (ay _ _ rfl))),trivial⟩ fun hi=> ?_
  ·intro hd E' L' ay aq ck
   refine bp (fv ((aP.id gq).comp s0) (r:=eo.ik) rY (ad (ay _ _ rfl)) (eK (n:=2) (ck.trans rfl) (kp jT) rfl) rfl rfl) ?_
   refine ah.nil ?_
   exact aj.fin (ek []) rfl rfl
  ·intro hd E' L' ay aq ck
   refine ah.iK (fr.xU 2 (ck.trans rfl) (JV bF) ⟨ad (ay _ _ rfl),ad (ay _ _ rfl),trivial⟩) rfl rfl rfl ?_
   refine ah.nil ?_
   exact aj.fin (ek []) rfl rfl
  refine aj.eH (L2:=(⟨some ((fG 10 0).getD 0),.var (bJ.getD default:aA)⟩ :: ⟨some ba,.var (al:aA)⟩ :: aZ hp)) rfl ?_
  refine lF [0,1,3,4,5,6,7,8,9,10,11,12,13,14,15,16,17,18,19,20,21,22,23,24,25,26,27,28,29,30] ?_
  refine aj.next ?_
  refine aM ?_
  refine aL ?_
  refine aL ?_
  refine gH cZ ?_
  refine AL ?_
  refine a0 ?_
  refine ak.cond (ad rfl) (fun ag=> ?_) (fun ag=> ?_)
  ·replace h:=rI ag h
   refine aM ?_
   refine aW ?_
   refine a0 ?_
   refine ak.ret ?_
   refine aj.ret ?_
   exact aj.gF (⟨⟨(false,hp),h⟩,()⟩: {r // _} × _) (.cons _ (.cons _ (.refl _))) rfl rfl (dG rfl)
  ·replace h:=rJ ag h
   refine dT ?_
   refine ak.seq ?_
   obtain⟨ES,OR,h⟩:=au.cu h
   obtain⟨n5,AO,h⟩:=au.cu h
   obtain⟨aQ,cR,h⟩:=au.cu h
   refine ak.draw mixed 8 [some 35,some 36,some 37,some 38,some 39,some 40,some 41,some 42] [[],[0],[1],[2],[],[4],[],[6]] [.val _,.val _,.val _,.val _,.val _,.val _,.val _,.val _] [false,false,false,false,false,false,false,false] (by kernel_rfl) rfl rfl rfl (fun eL=>⟨eE,e7 fun L' aq=>dv (eb (ad rfl) OR),H1 (bc zv),e7 fun L' aq=>fv ((aP.id gq).comp w4) (r:=n5.j2) xG (ad rfl) (j7 (fun i e q=>aq i e q rfl) (eK (n:=2) rfl (kp AO) rfl)) rfl rfl,H1 (bc nM),hT 1 m3 cf,fY 1 c6,jg Au (yX cR),trivial⟩) fun eL=> ?_
   obtain⟨qg,Iq,h⟩:=au.cu h
   obtain⟨oS,AQ,h⟩:=au.cu h
   obtain⟨b9,kv,h⟩:=au.cu h
   refine ah.Hd (k':=Cell.hE (fc oS al.bt aQ)) 2 rfl (by first | exact .inl rfl | exact .inr rfl) Tryz.underlying119 En (lQ (ad rfl) Iq) (ad rfl) (ad rfl) (pD AQ) rfl rfl rfl (aT kv) ?_
   refine cm ?_
   obtain⟨jX,x9,h⟩:=au.cu h
   refine ak.draw mixed 5 [some 43,some 44,some 45,some 46,some 47] [[],[0],[1],[2],[]] [.val _,.val _,.val _,.val _,.val _] [false,false,false,false,false] (by kernel_rfl) rfl rfl rfl (fun ma=>⟨eE,e7 fun L' aq=>dv (eb (ad rfl) OR),H1 (bc tu),e7 fun L' aq=>fv ((aP.id gq).comp s0) (r:=jX.ik) rY (ad rfl) (j7 (fun i e q=>aq i e q rfl) (eK (n:=2) rfl (kp x9) rfl)) rfl rfl,fY 1 c6,trivial⟩) fun ma=> ?_
   refine ah.xU 2 0 rfl (QI h) rfl rfl ⟨ad rfl,ad rfl,trivial⟩ rfl fun⟨⟨bm,h⟩,aN⟩=> ?_
   refine ah.eH (L2:=(⟨some ((fG 10 0).getD 0),.var (bJ.getD default:aA)⟩ :: ⟨some ba,.var (al:aA)⟩ :: aZ bm)) rfl ?_
   refine cc ?_
   refine aW ?_
   refine a0 ?_
   refine ak.ret ?_
   exact aj.gF (⟨⟨(true,bm),h⟩,()⟩: {r // _} × _) (.cons _ (.cons _ (.refl _))) rfl rfl (dG rfl)
theorem Qz {hp:aH Cell} {ab:Ref} {al:b1} {Q:aA × Bool × (aH Cell)→Prop} (h:rl hp ab al Q):bN Tryz.prog 11 [I.of (ab),I.of (al)] ([] ++ aZ hp) (δ:= {r:aA × Bool × (aH Cell) // Q r} × Unit) (fun d=>I.eA [I.of (d.1.1.1),I.of (d.1.1.2.1)]) (fun d=> [] ++ aZ d.1.1.2.2):=by
 unfold rl at h
 refine bN.of Tryz.func11 rfl Tryz.ntmps11 rfl fun W A=> ?_
 refine aM ?_
 refine cM fun ba=> ?_
 refine dL iv fun bh=> ?_
 refine aW ?_
 refine cc ?_
 refine aL ?_
 refine cV 1 iS ?_
 obtain⟨aG,bF,h⟩:=au.cu h
 refine ah.iK (fr.iG 2 rfl X3 (QP bF) ⟨ad rfl,ad rfl,trivial⟩) rfl rfl rfl ?_
 refine aL ?_
 refine gZ ?_
 refine gZ ?_
 refine dL iv fun cH=> ?_
 refine dh 0 c6 ?_
 refine aW ?_
 refine cm ?_
 refine aM ?_
 refine aL ?_
 refine a0 ?_
 refine ak.vi (γ:=Unit) h (fun bq ax=> [(0,I.of (ab)),(1,I.of (al)),(3,I.eq (.pointer (some ⟨ba,0,none⟩))),(4,I.eq (.pointer (some ⟨bh,0,none⟩))),(5,I.of (false)),(6,I.eq (.pointer (some ⟨cH,0,none⟩))),(7,I.of (aG.2)),(14,I.of (aG.2))]) (fun bq ax=>(⟨some cH,.var (aG.1:aA)⟩ :: ⟨some bh,.var ((default:aA):aA)⟩ :: ⟨some ba,.var (al:b1)⟩ :: aZ bq)) (ad rfl) (fun bq ax h=> ?_) (fun hm ag h=> ?_) (fun hm ag h=> ?_)
 ·refine aj.next ?_
  refine aM ?_
  refine cV 0 c6 ?_
  refine aL ?_
  refine dh 1 c6 ?_
  refine aW ?_
  refine a0 ?_
  refine ak.ret ?_
  exact aj.kL (⟨⟨(aG.1,aG.2,bq),h⟩,()⟩: {r // _} × _) (.cons _ (.cons _ (.cons _ (.refl _)))) rfl rfl (nc (i:=1) c6 rfl rfl) (dG rfl)
 ·refine ak.seq ?_
  obtain⟨bT,c7,h⟩:=au.cu h
  obtain⟨bw,di,h⟩:=au.cu h
  refine ak.draw mixed 5 [some 15,some 16,some 17,some 18,some 19] [[],[0],[1],[2],[]] [.val _,.val _,.val _,.val _,.val _] [false,false,false,false,false] (by kernel_rfl) rfl rfl rfl (fun eL=>⟨eE,e7 fun L' aq=>dv (eb (ad rfl) c7),H1 (bc tu),e7 fun L' aq=>fv ((aP.id gq).comp s0) (r:=bw.ik) rY (ad rfl) (j7 (fun i e q=>aq i e q rfl) (eK (n:=3) rfl (kp di) rfl)) rfl rfl,fY 0 c6,trivial⟩) fun eL=> ?_
  refine ah.xU 3 0 rfl (Qj h) rfl rfl ⟨ad rfl,ad rfl,trivial⟩ rfl fun⟨⟨aQ,h⟩,aN⟩=> ?_
  refine ah.eH (L2:=(⟨some cH,.var (aG.1:aA)⟩ :: ⟨some bh,.var ((default:aA):aA)⟩ :: ⟨some ba,.var (al:b1)⟩ :: aZ aQ)) rfl ?_
  refine a0 ?_
  obtain⟨b5,eW,h⟩:=au.cu h
  refine ak.draw mixed 6 [some 21,some 22,some 23,some 24,some 25,some 26] [[],[0],[1],[2],[],[4]] [.val _,.val _,.val _,.val _,.val _,.val _] [false,false,false,false,false,false] (by kernel_rfl) rfl rfl rfl (fun ma=>⟨eE,e7 fun L' aq=>dv (eb (ad rfl) c7),H1 (bc zv),e7 fun L' aq=>fv ((aP.id gq).comp w4) (r:=b5.j2) xG (ad rfl) (j7 (fun i e q=>aq i e q rfl) (eK (n:=3) rfl (kp eW) rfl)) rfl rfl,H1 (bc nM),hT 0 m3 cf,trivial⟩) fun ma=> ?_
  obtain⟨bU,eS,h⟩:=au.cu h
  obtain⟨eo,jT,h⟩:=au.cu h
  obtain⟨b9,kv,h⟩:=au.cu h
  refine ah.Hp (k':=Cell.hE (gW eo aG.1.bt)) 3 rfl Tryz.underlying119 En (lQ (ad rfl) eS) (ad rfl) (pD jT) rfl rfl rfl (aT kv) ?_
  refine ah.nil ?_
  exact dI 0 (hm b9 () h)
 ·refine ak.skip ?_
  exact dI 0 (hm hp () h)
theorem JW {hp:aH Cell} {ab:Ref} {al:Vector aw 4} {r:aA × Bool} (h:rm hp ab al=some r):bN Tryz.prog 12 [I.of (ab),I.of (al)] ([] ++ aZ hp) (δ:=Unit) (fun _=>I.eA [I.of (r.1),I.of (r.2)]) (fun _=> [] ++ aZ hp):=by
 unfold rm at h
 refine bN.of Tryz.func12 rfl Tryz.ntmps12 rfl fun W A=> ?_
 refine aM ?_
 refine cM fun ba=> ?_
 refine dL iv fun bh=> ?_
 refine aW ?_
 refine cm ?_
 refine aM ?_
 refine aL ?_
 refine bp (mz Tryz.underlying36 (ad rfl)) ?_
 refine a0 ?_
 refine dz h (fun h=>?_) fun h=>?_
 ·refine aM ?_
  refine jQ Av iv (default:aA) .nil ?_
  refine dh 0 c6 ?_
  refine aW ?_
  refine a0 ?_
  refine ak.ret ?_
  refine aj.ret ?_
  obtain rfl:=aT h
  exact aj.kL () (.cons _ (.cons _ (.refl _))) rfl rfl (nc (i:=0) c6 rfl rfl) (dG rfl)
 ·refine dT ?_
  refine ak.seq ?_
  refine aM ?_
  refine aL ?_
  refine a0 ?_
  refine ak.block ?_
  obtain⟨az,an,h⟩:=aC h
  refine ak.tL (σ:=Int × (Vector aw 4)) (ε:=(Int × Bool × (Vector aw 4))) (γ:=Unit) (δ:=Unit) an (fun s1 ax=> [(0,I.of (ab)),(1,I.of (al)),(3,I.eq (.pointer (some ⟨ba,0,none⟩))),(4,I.eq (.pointer (some ⟨bh,0,none⟩))),(5,I.of (false)),(10,I.of (ab.isNone)),(12,I.of (s1.1))]) (fun s1 ax=>(⟨some bh,.var ((default:aA):aA)⟩ :: ⟨some ba,.var (s1.2:Vector aw 4)⟩ :: aZ hp)) (fun aN=>Exit.exit 0) (fun aN ax=> [(0,I.of (ab)),(1,I.of (al)),(3,I.eq (.pointer (some ⟨ba,0,none⟩))),(4,I.eq (.pointer (some ⟨bh,0,none⟩))),(5,I.of (false)),(10,I.of (ab.isNone)),(12,I.of (aN.1)),(13,I.of (aN.2.1))]) (fun aN ax=>(⟨some bh,.var ((default:aA):aA)⟩ :: ⟨some ba,.var (aN.2.2:Vector aw 4)⟩ :: aZ hp)) () rfl (.same rfl (.same rfl (.same rfl (.same rfl (.same rfl (.same rfl (.same rfl .nil))))))) (fun s1 r h ax=> ?_) (fun ax=> ?_)
  ·clear an
   refine aM ?_
   refine bQ hf ?_
   refine cm ?_
   refine dz h (fun h=>?_) fun h=>?_
   ·refine dT ?_
    refine ak.seq ?_
    refine ak.block ?_
    refine aM ?_
    refine aL ?_
    refine aW ?_
    refine cc ?_
    refine aL ?_
    refine aL ?_
    obtain⟨bT,c7,h⟩:=aC h
    refine bp (dv (eb (ad rfl) c7)) ?_
    refine bj (bc Tt) ?_
    obtain⟨bw,di,h⟩:=aC h
    refine bp (fv ((aP.id gq).comp JS) (r:=bw.o8) cf (ad rfl) (eK (n:=2) rfl (kp di) rfl) rfl rfl) ?_
    refine bQ nO ?_
    refine a0 ?_
    obtain⟨bq,cn,h⟩:=aC h
    refine ak.cb (γ:=Unit) (fun a5=> [(0,I.of (ab)),(1,I.of (al)),(3,I.eq (.pointer (some ⟨ba,0,none⟩))),(4,I.eq (.pointer (some ⟨bh,0,none⟩))),(5,I.of (false)),(6,I.of (s1.1)),(10,I.of (ab.isNone)),(12,I.of (s1.1)),(13,I.of (decide (s1.1 < 4))),(20,I.of (decide (s1.1≥bw.o8)))]) (fun a5=>(⟨some bh,.var ((default:aA):aA)⟩ :: ⟨some ba,.var (bq:Vector aw 4)⟩ :: aZ hp)) (ad rfl) (fun a5=> ?_) (fun hm ag=> ?_) (fun hm ag=> ?_)
    ·clear cn
     refine aj.fV ?_
     refine aj.next ?_
     refine ak.cU ?_
     refine bQ eR ?_
     refine aL ?_
     refine ah.nil ?_
     obtain rfl:=aT h
     exact kb () 0
    ·have h:=hC ag cn
     refine ak.cU ?_
     refine aL ?_
     refine jQ jf fw (default:aw) .nil ?_
     obtain⟨bn,dJ,h⟩:=aC h
     refine bp (l3 (k:=bn) Ai (ad rfl) (ad rfl) (eh dJ)) ?_
     refine si 1 ((aP.id (Vector aw 4)).comp (aP.idx (α:=aw) 4 bn (eh dJ).1)) cB ?_
     refine ah.nil ?_
     obtain rfl:=aT h
     exact dI 0 (hm ())
    ·have h:=hD ag cn
     refine ak.skip ?_
     obtain rfl:=aT h
     exact dI 0 (hm ())
   ·refine ak.exit ?_
    refine aj.exit ?_
    obtain rfl:=aT h
    exact hg () 0
  ·clear an
   refine aj.jd ?_
   refine aj.next ?_
   refine ak.seq ?_
   obtain⟨bU,eS,h⟩:=aC h
   obtain⟨b5,eW,h⟩:=aC h
   obtain⟨aG,bF,h⟩:=aC h
   refine kc [0,1,3,4,5,10,12,13] ?_
   refine ak.pG 2 mixed (bk 26 [] [] _ :: bk 27 (0 :: []) [] _ :: bk 28 (1 :: []) [] _ :: ⟨some 29,(2 :: []),[],[],fun _=>I.of (b5.ik),fun _ _=>⟨none,.dead⟩⟩ :: bk 30 [] (1 :: []) _ :: ⟨some 31,(3 :: 4 :: []),[],[],fun _=>I.eA [I.of (aG.1),I.of (aG.2)],fun _ _=>⟨none,.dead⟩⟩ :: bk 25 (5 :: []) [] _ :: bk 32 (6 :: []) [] _ :: bk 33 (6 :: []) [] _ :: bk 7 (7 :: []) [] _ :: bk 8 (8 :: []) [] _ :: []) _ (0 :: 1 :: 3 :: 4 :: 5 :: 10 :: 12 :: 13 :: []) rfl rfl (by kernel_rfl) (by kernel_rfl) ⟨b8.q (gb),b8.q (cr fun hd E' L' ay aq=>dv (eb (ad (ay _ _ rfl)) eS)),b8.q (g8 (bc tu)),?_,b8.q (mO 1 lz),?_,b8.q (gb),b8.q (cr fun hd E' L' ay aq=>lb (ad (ay _ _ rfl)) rfl),b8.q (cr fun hd E' L' ay aq=>lb (ad (ay _ _ rfl)) rfl),b8.q (cr fun hd E' L' ay aq=>e5 (ad (ay _ _ rfl))),b8.q (cr fun hd E' L' ay aq=>e5 (ad (ay _ _ rfl))),trivial⟩ fun fG=> ?_
   ·intro hd E' L' ay aq ck
    refine bp (fv ((aP.id gq).comp s0) (r:=b5.ik) rY (ad (ay _ _ rfl)) (eK (n:=2) (ck.trans rfl) (kp eW) rfl) rfl rfl) ?_
    refine ah.nil ?_
    exact aj.fin (ek []) rfl rfl
   ·intro hd E' L' ay aq ck
    refine ah.iK (fr.xU 2 (ck.trans rfl) (Qk bF) ⟨ad (ay _ _ rfl),ad (ay _ _ rfl),trivial⟩) rfl rfl rfl ?_
    refine ah.nil ?_
    exact aj.fin (ek []) rfl rfl
   refine aj.eH (L2:=(⟨some bh,.var ((default:aA):aA)⟩ :: ⟨some ba,.var (az.2.2:Vector aw 4)⟩ :: aZ hp)) rfl ?_
   refine lF [0,1,3,4,5,7,8,10,12,13,25,26,27,28,29,30,31,32,33] ?_
   refine aj.next ?_
   refine aM ?_
   refine aL ?_
   refine aL ?_
   refine aL ?_
   obtain⟨aQ,cR,h⟩:=aC h
   refine ah.iK (fr.iG 2 rfl On (JZ cR) ⟨ad rfl,ad rfl,ad rfl,trivial⟩) rfl rfl rfl ?_
   refine gZ ?_
   refine gZ ?_
   refine dh 0 c6 ?_
   refine aW ?_
   refine a0 ?_
   refine ak.ret ?_
   obtain rfl:=aT h
   exact aj.kL () (.cons _ (.cons _ (.refl _))) rfl rfl (nc (i:=0) c6 rfl rfl) (dG rfl)
theorem QQ {hp:aH Cell} {ab:List (BitVec 8)} {al:BitVec 8} {Q:Bool × (aH Cell)→Prop} (h:yT hp ab al Q):bN Tryz.prog 3 [I.of (ab),I.of (al)] ([] ++ aZ hp) (δ:= {r:Bool × (aH Cell) // Q r} × Unit) (fun d=>I.of (d.1.1.1)) (fun d=> [] ++ aZ d.1.1.2):=by
 unfold yT at h
 refine bN.of Tryz.func3 rfl Tryz.ntmps3 rfl fun W A=> ?_
 refine aM ?_
 refine aW ?_
 refine cc ?_
 obtain⟨aG,bF,h⟩:=au.cu h
 refine gz 0 OL (Kw bF) fun aN=> ?_
 refine ah.b2 0 rfl ?_
 obtain⟨aQ,cR,h⟩:=au.cu h
 refine gz 1 OM (JU cR) fun dR=> ?_
 refine dL xT fun ba=> ?_
 refine dh 0 h5 ?_
 refine cc ?_
 refine dL X4 fun bh=> ?_
 refine cm ?_
 refine aM ?_
 refine aW ?_
 refine a0 ?_
 refine ak.block ?_
 refine ak.GV (σ:=Int × (Vector Ref 4) × (aH Cell)) (ε:=(Int × Bool × (Vector Ref 4) × (aH Cell))) (γ:=Unit) (δ:=Unit) h (fun s1 ax=> [(0,I.of (ab)),(1,I.of (al)),(4,I.of (false)),(5,I.eq (.pointer (some ⟨ba,0,none⟩))),(6,I.eq (.pointer (some ⟨bh,0,none⟩))),(7,I.of (s1.1))]) (fun s1 ax=>(⟨some bh,.var (s1.2.1:Vector Ref 4)⟩ :: ⟨some ba,.var (aQ.1:a2)⟩ :: ⟨some aN,.var (aQ.2:b0)⟩ :: aZ s1.2.2)) (fun hJ=>Exit.exit 0) (fun hJ ax=> [(0,I.of (ab)),(1,I.of (al)),(4,I.of (false)),(5,I.eq (.pointer (some ⟨ba,0,none⟩))),(6,I.eq (.pointer (some ⟨bh,0,none⟩))),(7,I.of (hJ.1)),(26,I.of (hJ.2.1))]) (fun hJ ax=>(⟨some bh,.var (hJ.2.2.1:Vector Ref 4)⟩ :: ⟨some ba,.var (aQ.1:a2)⟩ :: ⟨some aN,.var (aQ.2:b0)⟩ :: aZ hJ.2.2.2)) () rfl (.same rfl (.same rfl (.same rfl (.same rfl (.same rfl (.same rfl .nil)))))) (fun s1 R h ax=> ?_) (fun az h ax=> ?_)
 ·refine ak.seq ?_
  refine aM ?_
  refine aL ?_
  refine bQ tH ?_
  refine a0 ?_
  refine ak.cond (ad rfl) (fun ag=> ?_) (fun ag=> ?_)
  ·replace h:=rI ag h
   refine dT ?_
   refine ak.seq ?_
   refine ak.block ?_
   refine aM ?_
   refine cV 1 h5 ?_
   refine ah.o9 (z:=(default:a2)) [4] Uw xT rfl fun cH=> ?_
   refine ah.own (α:=bx) 44 ?_
   refine ah.rS (i:=1) (os':= []) h5 (ad rfl) (SO (ad rfl)) rfl ?_
   refine ah.ov 1 rfl ?_
   refine cc ?_
   refine ah.pM (α:=bx) (r:=([]:List bx)) Tryz.underlying27 hv l4 rfl rfl (.nil) rfl fun h6=> ?_
   refine bj (bc qG) ?_
   refine dg 4 qq pL ?_
   obtain⟨bm,hh,h⟩:=au.cu h
   refine oE 0 Tryz.underlying27 hv l4 hh fun mM gj=> ?_
   refine bj (bc qG) ?_
   refine ah.YZ 2 rfl ?_
   refine ah.kq (i:=2) (γ:=bx) (b':=(({ aQ.1 with cA:= [] } :a2):a2)) (os':= [(4,bf mM bm.length gj)]) ((aP.id a2).comp qq) pL (ad rfl) (ad rfl) jy rfl rfl rfl rfl ?_
   refine cc ?_
   refine bj (bc qG) ?_
   refine bp (il (i:=2) (q:=0) (β:=a2) (γ:=bx) pL (ad rfl) rfl rfl) ?_
   refine aL ?_
   obtain⟨bJ,eC,h⟩:=au.cu h
   refine dU eC (c2 (b:= { b6:=ByteArray.mk #[97],gf:=4,du:=s1.1:cJ }) rfl qU jN (.cons qv rfl (dy (ByteArray.mk #[97])) rfl (.cons oZ rfl (bG 4) rfl (.cons oc rfl (ad rfl) rfl (.nil))))) ?_
   refine ia [bJ] Tryz.underlying40 ku jN ?_
   obtain⟨bn,dJ,h⟩:=au.cu h
   refine bp (ow (i:=0) (k:=bn) (xs:=(bm:List bx)) Tryz.underlying27 hv (ad rfl) (bG 0) rfl (eh dJ)) ?_
   refine bj (bc mC) ?_
   refine ah.xw (i:=0) (k:=bn) ((aP.id bx).comp kJ) (v:=([bJ]:List cJ)) (r:=(gv bm bn ({ (aJ bm bn) with cj:= [bJ] } :bx):List bx)) l2 (ad rfl) (ad rfl) rfl (eh dJ).1 rfl rfl ?_
   refine ah.nQ (m:=(gv bm bn ({ (aJ bm bn) with cj:= [bJ] } :bx)).length) 33 rfl (nE rfl) ?_
   refine ah.nQ (m:=(gv bm bn ({ (aJ bm bn) with cj:= [bJ] } :bx)).length) 36 rfl (nE rfl) ?_
   refine ah.Ux (m:=(gv bm bn ({ (aJ bm bn) with cj:= [bJ] } :bx)).length) 2 0 rfl rfl (nE rfl) ?_
   refine cc ?_
   refine ah.l6 (β:=a2) (γ:=bx) (b':=(({ aQ.1 with cA:=gv bm bn ({ (aJ bm bn) with cj:= [bJ] } :bx) } :a2):a2)) ((aP.id a2).comp qq) 2 0 0 rfl rfl rfl rfl rfl rfl ?_
   refine ah.ov 2 rfl ?_
   obtain⟨en,kA,h⟩:=au.cu h
   refine dU kA (fl (i:=2) (aP.id a2) (r:=({ aQ.1 with cA:=gv bm bn ({ (aJ bm bn) with cj:= [bJ] } :bx) } :a2)) h5 (ad rfl) rfl rfl rfl) ?_
   refine ah.kM 6 0 rfl x8 (xl h) rfl rfl ⟨ad rfl,bG 1,trivial⟩ rfl fun⟨⟨cD,h⟩,uq⟩=> ?_
   refine ah.eH (L2:=(⟨none,.dead⟩ :: ⟨none,.row 44 (([]:List bx):List bx) 0⟩ :: ⟨some cH,.var (({ aQ.1 with cA:=gv bm bn ({ (aJ bm bn) with cj:= [bJ] } :bx) } :a2):a2)⟩ :: ⟨some bh,.var (s1.2.1:Vector Ref 4)⟩ :: ⟨some ba,.var (aQ.1:a2)⟩ :: ⟨some aN,.var (aQ.2:b0)⟩ :: aZ cD.2)) rfl ?_
   refine aW ?_
   refine cm ?_
   refine aM ?_
   refine aL ?_
   refine aL ?_
   refine bj (iq Tryz.underlying22) ?_
   refine bQ xF ?_
   obtain⟨c8,jS,h⟩:=au.cu h
   refine bp (Gl Tryz.underlying22 x4 (ad rfl) .none (.some (ad rfl)) jS) ?_
   refine bj (iq Tryz.underlying22) ?_
   refine aL ?_
   refine a0 ?_
   refine ak.block ?_
   refine ak.GV (σ:=Int × (aH Cell)) (ε:=(Int × Bool × (aH Cell))) (γ:=Unit) (δ:=Unit) h (fun s2 a5=> [(0,I.of (ab)),(1,I.of (al)),(4,I.of (false)),(5,I.eq (.pointer (some ⟨ba,0,none⟩))),(6,I.eq (.pointer (some ⟨bh,0,none⟩))),(7,I.of (s1.1)),(8,I.eq (.pointer (some ⟨cH,0,none⟩))),(9,I.of (cD.1)),(26,I.of (decide (s1.1≤4))),(48,I.of (c8)),(49,I.of (c8.length:Int)),(50,I.of (s2.1))]) (fun s2 a5=>(⟨none,.dead⟩ :: ⟨none,.row 44 (([]:List bx):List bx) 0⟩ :: ⟨some cH,.var (({ aQ.1 with cA:=gv bm bn ({ (aJ bm bn) with cj:= [bJ] } :bx) } :a2):a2)⟩ :: ⟨some bh,.var (s1.2.1:Vector Ref 4)⟩ :: ⟨some ba,.var (aQ.1:a2)⟩ :: ⟨some aN,.var (aQ.2:b0)⟩ :: aZ s2.2)) (fun iX=>Exit.exit 2) (fun iX a5=> [(0,I.of (ab)),(1,I.of (al)),(4,I.of (false)),(5,I.eq (.pointer (some ⟨ba,0,none⟩))),(6,I.eq (.pointer (some ⟨bh,0,none⟩))),(7,I.of (s1.1)),(8,I.eq (.pointer (some ⟨cH,0,none⟩))),(9,I.of (cD.1)),(26,I.of (decide (s1.1≤4))),(48,I.of (c8)),(49,I.of (c8.length:Int)),(50,I.of (iX.1)),(51,I.of (iX.2.1))]) (fun iX a5=>(⟨none,.dead⟩ :: ⟨none,.row 44 (([]:List bx):List bx) 0⟩ :: ⟨some cH,.var (({ aQ.1 with cA:=gv bm bn ({ (aJ bm bn) with cj:= [bJ] } :bx) } :a2):a2)⟩ :: ⟨some bh,.var (s1.2.1:Vector Ref 4)⟩ :: ⟨some ba,.var (aQ.1:a2)⟩ :: ⟨some aN,.var (aQ.2:b0)⟩ :: aZ iX.2.2)) () rfl (.same rfl (.same rfl (.same rfl (.same rfl (.same rfl (.same rfl (.same rfl (.same rfl (.same rfl (.same rfl (.same rfl (.same rfl .nil)))))))))))) (fun s2 R h a5=> ?_) (fun aX h a5=> ?_)
   ·refine aM ?_
    refine bQ hf ?_
    refine cm ?_
    refine ak.cond (ad rfl) (fun ag=> ?_) (fun ag=> ?_)
    ·replace h:=rI ag h
     refine dT ?_
     refine ak.seq ?_
     refine ak.block ?_
     refine aM ?_
     refine aL ?_
     obtain⟨c3,dj,h⟩:=au.cu h
     refine lh dj Tryz.underlying22 x4 ?_
     refine bj (fy x4) ?_
     refine aW ?_
     refine aW ?_
     refine cc ?_
     refine aL ?_
     obtain⟨eU,kB,h⟩:=au.cu h
     refine bp (GZ (ad rfl) (Gu 16 rfl) (FK kB)) ?_
     refine bj (Tu Tryz.underlying5 Tryz.underlying46) ?_
     obtain⟨fP,nf,h⟩:=au.cu h
     refine dU nf (c2 (b:=({ (default:aw) with cv:=eU.setWidth 64 } :aw)) rfl jf fw (.cons gD rfl (ad rfl) rfl (.nil))) ?_
     refine dL fw fun fa=> ?_
     refine dh 0 cB ?_
     refine cc ?_
     refine cV 0 cB ?_
     obtain⟨hz,pX,h⟩:=au.cu h
     refine dU pX (c2 (b:=({ (default:c5) with ho:=true,cL:=fP } :c5)) rfl D1 qR (.cons uF rfl (fQ true) rfl (.cons py rfl (ad rfl) rfl (.nil)))) ?_
     refine cV 0 cB ?_
     obtain⟨gJ,pY,h⟩:=au.cu h
     refine dU pY (c2 (b:=({ (default:c5) with ho:=true,cL:=fP,fk:=4 } :c5)) rfl D1 qR (.cons uF rfl (fQ true) rfl (.cons py rfl (ad rfl) rfl (.cons w5 rfl (bG 4) rfl (.nil))))) ?_
     refine cV 0 cB ?_
     refine bp (c2 (b:=({ (default:aw) with cv:=15#64 } :aw)) rfl jf fw (.cons gD rfl (j3 15 rfl) rfl (.nil))) ?_
     obtain⟨iB,sj,h⟩:=au.cu h
     refine dU sj (c2 (b:=({ (default:c5) with ho:=true,cL:=fP,iP:=({ (default:aw) with cv:=15#64 } :aw) } :c5)) rfl D1 qR (.cons uF rfl (fQ true) rfl (.cons py rfl (ad rfl) rfl (.cons Ck rfl (ad rfl) rfl (.nil))))) ?_
     refine cV 0 cB ?_
     refine cV 0 cB ?_
     obtain⟨hX,sk,h⟩:=au.cu h
     refine dU sk (c2 (b:=({ (default:c5) with ho:=true,cL:=fP,lV:=fP } :c5)) rfl D1 qR (.cons uF rfl (fQ true) rfl (.cons py rfl (ad rfl) rfl (.cons Cl rfl (ad rfl) rfl (.nil))))) ?_
     refine ia [hz,gJ,iB,hX] Tryz.underlying51 kO qR ?_
     refine aL ?_
     refine bQ la ?_
     obtain⟨eI,kd,h⟩:=au.cu h
     refine lh kd Tryz.underlying51 kO ?_
     refine bj (fy kO) ?_
     refine dL qR fun iA=> ?_
     refine dh 0 kO ?_
     refine cc ?_
     refine cV 0 kO ?_
     refine ia [(aJ [hz,gJ,iB,hX] eI)] Tryz.underlying51 kO qR ?_
     obtain⟨hY,sm,h⟩:=au.cu h
     refine dU sm (c2 (b:=({ (default:b1) with et:=1,cd:= [(aJ [hz,gJ,iB,hX] eI)],m6:=1 } :b1)) rfl X5 HU (.cons Ca rfl (bG 1) rfl (.cons ob rfl (ad rfl) rfl (.cons Qt rfl (bG 1) rfl (.nil))))) ?_
     refine dL HU fun iY=> ?_
     refine dh 0 iS ?_
     refine cm ?_
     refine aM ?_
     refine aL ?_
     refine bQ nO ?_
     refine a0 ?_
     obtain⟨bq,cn,h⟩:=au.cu h
     refine ak.cb (γ:=Unit) (fun bH=> [(0,I.of (ab)),(1,I.of (al)),(4,I.of (false)),(5,I.eq (.pointer (some ⟨ba,0,none⟩))),(6,I.eq (.pointer (some ⟨bh,0,none⟩))),(7,I.of (s1.1)),(8,I.eq (.pointer (some ⟨cH,0,none⟩))),(9,I.of (cD.1)),(10,I.of (s2.1)),(11,I.of (aJ c8 c3)),(12,I.eq (.pointer (some ⟨fa,0,none⟩))),(13,I.eq (.pointer (some ⟨iA,0,none⟩))),(14,I.eq (.pointer (some ⟨iY,0,none⟩))),(26,I.of (decide (s1.1≤4))),(48,I.of (c8)),(49,I.of (c8.length:Int)),(50,I.of (s2.1)),(51,I.of (decide (s2.1 < (c8.length:Int)))),(78,I.of (decide (s1.1≥3)))]) (fun bH=>(⟨some iY,.var (bq:b1)⟩ :: ⟨some iA,.var (aJ [hz,gJ,iB,hX] eI:c5)⟩ :: ⟨some fa,.var (fP:aw)⟩ :: ⟨none,.dead⟩ :: ⟨none,.row 44 (([]:List bx):List bx) 0⟩ :: ⟨some cH,.var (({ aQ.1 with cA:=gv bm bn ({ (aJ bm bn) with cj:= [bJ] } :bx) } :a2):a2)⟩ :: ⟨some bh,.var (s1.2.1:Vector Ref 4)⟩ :: ⟨some ba,.var (aQ.1:a2)⟩ :: ⟨some aN,.var (aQ.2:b0)⟩ :: aZ s2.2)) (ad rfl) (fun bH=> ?_) (fun hm ag=> ?_) (fun hm ag=> ?_)
     ·clear cn
      refine aj.next ?_
      refine aM ?_
      refine aL ?_
      refine cV 0 iS ?_
      refine aL ?_
      refine bQ eR ?_
      obtain⟨lN,we,h⟩:=au.cu h
      refine dU we (c2 (b:=({ (default:aA) with bd:=bq,bt:=bE (s2.1 + 1) } :aA)) rfl Av iv (.cons nB rfl (ad rfl) rfl (.cons m3 rfl (ad rfl) rfl (.nil)))) ?_
      refine ah.kM 9 0 rfl X6 (QT h) rfl rfl ⟨ad rfl,ad rfl,trivial⟩ rfl fun⟨⟨e9,h⟩,mY⟩=> ?_
      refine ah.eH (L2:=(⟨some iY,.var (bq:b1)⟩ :: ⟨some iA,.var (aJ [hz,gJ,iB,hX] eI:c5)⟩ :: ⟨some fa,.var (fP:aw)⟩ :: ⟨none,.dead⟩ :: ⟨none,.row 44 (([]:List bx):List bx) 0⟩ :: ⟨some cH,.var (({ aQ.1 with cA:=gv bm bn ({ (aJ bm bn) with cj:= [bJ] } :bx) } :a2):a2)⟩ :: ⟨some bh,.var (s1.2.1:Vector Ref 4)⟩ :: ⟨some ba,.var (aQ.1:a2)⟩ :: ⟨some aN,.var (aQ.2:b0)⟩ :: aZ e9.2)) rfl ?_
      refine cc ?_
      refine aL ?_
      obtain⟨gm,sn,h⟩:=au.cu h
      refine bp (GZ (ad rfl) (Gu 16 rfl) (FK sn)) ?_
      refine aL ?_
      obtain⟨iD,wh,h⟩:=au.cu h
      refine bp (GZ (ad rfl) (Gu 16 rfl) (FK wh)) ?_
      refine bQ Uy ?_
      refine aL ?_
      refine gH cZ ?_
      obtain⟨ib,r9,h⟩:=au.cu h
      refine fB (fun hb=>M0 (cy rfl hb) (bG 2) (KZ (gr r9 hb))) ?_
      refine mP ir ?_
      refine lE ?_
      refine a0 ?_
      refine ak.vi (γ:=Unit) h (fun cx c9=> [(0,I.of (ab)),(1,I.of (al)),(4,I.of (false)),(5,I.eq (.pointer (some ⟨ba,0,none⟩))),(6,I.eq (.pointer (some ⟨bh,0,none⟩))),(7,I.of (s1.1)),(8,I.eq (.pointer (some ⟨cH,0,none⟩))),(9,I.of (cD.1)),(10,I.of (s2.1)),(11,I.of (aJ c8 c3)),(12,I.eq (.pointer (some ⟨fa,0,none⟩))),(13,I.eq (.pointer (some ⟨iA,0,none⟩))),(14,I.eq (.pointer (some ⟨iY,0,none⟩))),(26,I.of (decide (s1.1≤4))),(48,I.of (c8)),(49,I.of (c8.length:Int)),(50,I.of (s2.1)),(51,I.of (decide (s2.1 < (c8.length:Int)))),(78,I.of (decide (s1.1≥3))),(95,I.of ((gm ==iD) && (ib ==1)))]) (fun cx c9=>(⟨some iY,.var (bq:b1)⟩ :: ⟨some iA,.var (aJ [hz,gJ,iB,hX] eI:c5)⟩ :: ⟨some fa,.var (fP:aw)⟩ :: ⟨none,.dead⟩ :: ⟨none,.row 44 (([]:List bx):List bx) 0⟩ :: ⟨some cH,.var (({ aQ.1 with cA:=gv bm bn ({ (aJ bm bn) with cj:= [bJ] } :bx) } :a2):a2)⟩ :: ⟨some bh,.var (s1.2.1:Vector Ref 4)⟩ :: ⟨some ba,.var (aQ.1:a2)⟩ :: ⟨some aN,.var (aQ.2:b0)⟩ :: aZ cx)) (ad rfl) (fun cx c9 h=> ?_) (fun hm ag h=> ?_) (fun hm ag h=> ?_)
      ·refine aj.fV ?_
       refine aj.next ?_
       refine ak.cU ?_
       refine bQ eR ?_
       refine aL ?_
       refine ah.nil ?_
       exact aj.GW h () 3 rfl (.same rfl (.same rfl (.same rfl (.same rfl (.same rfl (.same rfl (.same rfl (.same rfl (.same rfl (.same rfl (.same rfl (.same rfl .nil))))))))))))
      ·refine ak.cU ?_
       refine aL ?_
       refine cV 0 iS ?_
       refine ah.kM 9 0 rfl X7 (Qz h) rfl rfl ⟨ad rfl,ad rfl,trivial⟩ rfl fun⟨⟨hU,h⟩,BA⟩=> ?_
       refine ah.eH (L2:=(⟨some iY,.var (bq:b1)⟩ :: ⟨some iA,.var (aJ [hz,gJ,iB,hX] eI:c5)⟩ :: ⟨some fa,.var (fP:aw)⟩ :: ⟨none,.dead⟩ :: ⟨none,.row 44 (([]:List bx):List bx) 0⟩ :: ⟨some cH,.var (({ aQ.1 with cA:=gv bm bn ({ (aJ bm bn) with cj:= [bJ] } :bx) } :a2):a2)⟩ :: ⟨some bh,.var (s1.2.1:Vector Ref 4)⟩ :: ⟨some ba,.var (aQ.1:a2)⟩ :: ⟨some aN,.var (aQ.2:b0)⟩ :: aZ hU.2.2)) rfl ?_
       refine ah.nil ?_
       exact dI 0 (hm hU.2.2 () h)
      ·refine ak.skip ?_
       exact dI 0 (hm e9.2 () h)
     ·have h:=hC ag cn
      refine ak.cU ?_
      refine bj (bc zH) ?_
      refine si 0 yE cf ?_
      refine ah.nil ?_
      obtain rfl:=aT h
      exact dI 0 (hm ())
     ·have h:=hD ag cn
      refine ak.skip ?_
      obtain rfl:=aT h
      exact dI 0 (hm ())
    ·replace h:=rJ ag h
     refine ak.exit ?_
     refine aj.exit ?_
     exact aj.Dt h () 0 rfl (by simp) rfl (.same rfl (.same rfl (.same rfl (.same rfl (.same rfl (.same rfl (.same rfl (.same rfl (.same rfl (.same rfl (.same rfl (.same rfl (.same rfl .nil)))))))))))))
   ·refine aj.jd ?_
    refine aj.next ?_
    refine ak.cU ?_
    refine aL ?_
    refine bQ la ?_
    refine aL ?_
    obtain⟨jD,p0,h⟩:=au.cu h
    refine bp (l3 (k:=jD) HY (ad rfl) (ad rfl) (eh p0)) ?_
    refine si 3 ((aP.id (Vector Ref 4)).comp (aP.idx (α:=Ref) 4 jD (eh p0).1)) Aw ?_
    refine ah.nil ?_
    refine aj.fV ?_
    refine aj.next ?_
    refine ak.cU ?_
    refine aL ?_
    refine bQ eR ?_
    refine aW ?_
    refine ah.nil ?_
    exact aj.GW h () 3 rfl (.same rfl (.same rfl (.same rfl (.same rfl (.same rfl (.same rfl .nil))))))
  ·replace h:=rJ ag h
   refine ak.exit ?_
   refine aj.exit ?_
   exact aj.Dt h () 0 rfl (by simp) rfl (.same rfl (.same rfl (.same rfl (.same rfl (.same rfl (.same rfl (.same rfl .nil)))))))
 ·refine aj.jd ?_
  refine aj.next ?_
  refine ak.seq ?_
  refine aM ?_
  refine aW ?_
  refine a0 ?_
  refine ak.block ?_
  obtain⟨dS,an,h⟩:=au.cu h
  refine ak.tL (σ:=Int) (ε:=(Int × Bool) ⊕ (Int × Bool × Ref × Bool × Bool × (Vector Ref 4) × Int × Bool × Bool)) (γ:=Unit) (δ:=Unit) an (fun k0 kj=> [(0,I.of (ab)),(1,I.of (al)),(4,I.of (false)),(5,I.eq (.pointer (some ⟨ba,0,none⟩))),(6,I.eq (.pointer (some ⟨bh,0,none⟩))),(7,I.of (az.1)),(15,I.of (k0)),(26,I.of (az.2.1))]) (fun k0 kj=>(⟨some bh,.var (az.2.2.1:Vector Ref 4)⟩ :: ⟨some ba,.var (aQ.1:a2)⟩ :: ⟨some aN,.var (aQ.2:b0)⟩ :: aZ az.2.2.2)) (fun jm=>Sum.elim (fun jm=>Exit.exit 4) (fun jm=>Exit.ret) jm) (fun jm kj=>Sum.elim (fun jm=> [(0,I.of (ab)),(1,I.of (al)),(4,I.of (false)),(5,I.eq (.pointer (some ⟨ba,0,none⟩))),(6,I.eq (.pointer (some ⟨bh,0,none⟩))),(7,I.of (az.1)),(15,I.of (jm.1)),(26,I.of (az.2.1)),(105,I.of (jm.2))]) (fun jm=> [(0,I.of (ab)),(1,I.of (al)),(4,I.of (false)),(5,I.eq (.pointer (some ⟨ba,0,none⟩))),(6,I.eq (.pointer (some ⟨bh,0,none⟩))),(7,I.of (az.1)),(15,I.of (jm.1)),(18,I.of (jm.2.1)),(20,I.of (jm.2.2.1)),(22,I.of (jm.2.2.2.1)),(26,I.of (az.2.1)),(105,I.of (jm.2.2.2.2.1)),(119,I.of (jm.2.2.2.2.2.1)),(120,I.of (jm.2.2.2.2.2.2.1)),(121,I.of (jm.2.2.2.2.2.2.2.1)),(146,I.of (jm.2.2.2.2.2.2.2.2))]) jm) (fun jm kj=>Sum.elim (fun jm=>(⟨some bh,.var (az.2.2.1:Vector Ref 4)⟩ :: ⟨some ba,.var (aQ.1:a2)⟩ :: ⟨some aN,.var (aQ.2:b0)⟩ :: aZ az.2.2.2)) (fun jm=>(⟨some bh,.var (az.2.2.1:Vector Ref 4)⟩ :: ⟨some ba,.var (aQ.1:a2)⟩ :: ⟨some aN,.var (aQ.2:b0)⟩ :: aZ az.2.2.2)) jm) () rfl (.same rfl (.same rfl (.same rfl (.same rfl (.same rfl (.same rfl (.same rfl (.same rfl .nil)))))))) (fun k0 r h kj=> ?_) (fun kj=> ?_)
  ·clear an
   refine ak.seq ?_
   refine aM ?_
   refine aL ?_
   refine bQ hf ?_
   refine a0 ?_
   refine dz h (fun h=>?_) fun h=>?_
   ·refine dT ?_
    refine ak.seq ?_
    refine ak.block ?_
    refine aM ?_
    refine aL ?_
    refine bj (o7 Tryz.underlying3 Tryz.underlying46) ?_
    obtain⟨jh,vL,h⟩:=aC h
    refine dU vL (c2 (b:=({ (default:aw) with cv:=BitVec.ofInt 64 k0 } :aw)) rfl jf fw (.cons gD rfl (ad rfl) rfl (.nil))) ?_
    refine bp (Lt (b:=fW (default:Vector aw 4) 0 jh) (sz:=2) rfl Tryz.underlying60 (by kernel_rfl) DW (.cons (aP.idx 4 0 (by decide)) rfl (ad rfl) rfl (.nil))) ?_
    refine dL DW fun mZ=> ?_
    refine dh 0 lz ?_
    refine cc ?_
    refine bp (l3 (k:=0) HY (ad rfl) (bG 0) ⟨by decide,rfl⟩) ?_
    refine dg 1 ((aP.id (Vector Ref 4)).comp (aP.idx (α:=Ref) 4 0 (⟨by decide,rfl⟩:0 < 4∧ (0:Int)=0).1)) Aw ?_
    refine cV 0 lz ?_
    obtain⟨e6,vP,h⟩:=aC h
    refine ah.iK (fr.iG 4 rfl Oo (JW vP) ⟨ad rfl,ad rfl,trivial⟩) rfl rfl rfl ?_
    refine aL ?_
    refine gZ ?_
    refine gZ ?_
    refine dL iv fun uu=> ?_
    refine dh 0 c6 ?_
    refine aW ?_
    refine cc ?_
    refine cV 2 X8 ?_
    refine aL ?_
    refine a0 ?_
    refine ak.block ?_
    obtain⟨gP,an,h⟩:=aC h
    refine ak.tL (σ:=Int) (ε:=(Int × Bool) ⊕ (Ref × Bool × Int × Bool × Bool)) (γ:=Unit) (δ:=Unit) an (fun qh BB=> [(0,I.of (ab)),(1,I.of (al)),(4,I.of (false)),(5,I.eq (.pointer (some ⟨ba,0,none⟩))),(6,I.eq (.pointer (some ⟨bh,0,none⟩))),(7,I.of (az.1)),(15,I.of (k0)),(16,I.eq (.pointer (some ⟨mZ,0,none⟩))),(17,I.eq (.pointer (some ⟨uu,0,none⟩))),(18,I.of (e6.2)),(26,I.of (az.2.1)),(105,I.of (decide (k0 < 16))),(119,I.of (az.2.2.1)),(120,I.of (qh))]) (fun qh BB=>(⟨some uu,.var (e6.1:aA)⟩ :: ⟨some mZ,.var (fW (default:Vector aw 4) 0 jh:Vector aw 4)⟩ :: ⟨some bh,.var (az.2.2.1:Vector Ref 4)⟩ :: ⟨some ba,.var (aQ.1:a2)⟩ :: ⟨some aN,.var (aQ.2:b0)⟩ :: aZ az.2.2.2)) (fun iC=>Sum.elim (fun iC=>Exit.exit 6) (fun iC=>Exit.ret) iC) (fun iC BB=>Sum.elim (fun iC=> [(0,I.of (ab)),(1,I.of (al)),(4,I.of (false)),(5,I.eq (.pointer (some ⟨ba,0,none⟩))),(6,I.eq (.pointer (some ⟨bh,0,none⟩))),(7,I.of (az.1)),(15,I.of (k0)),(16,I.eq (.pointer (some ⟨mZ,0,none⟩))),(17,I.eq (.pointer (some ⟨uu,0,none⟩))),(18,I.of (e6.2)),(26,I.of (az.2.1)),(105,I.of (decide (k0 < 16))),(119,I.of (az.2.2.1)),(120,I.of (iC.1)),(121,I.of (iC.2))]) (fun iC=> [(0,I.of (ab)),(1,I.of (al)),(4,I.of (false)),(5,I.eq (.pointer (some ⟨ba,0,none⟩))),(6,I.eq (.pointer (some ⟨bh,0,none⟩))),(7,I.of (az.1)),(15,I.of (k0)),(16,I.eq (.pointer (some ⟨mZ,0,none⟩))),(17,I.eq (.pointer (some ⟨uu,0,none⟩))),(18,I.of (e6.2)),(20,I.of (iC.1)),(22,I.of (iC.2.1)),(26,I.of (az.2.1)),(105,I.of (decide (k0 < 16))),(119,I.of (az.2.2.1)),(120,I.of (iC.2.2.1)),(121,I.of (iC.2.2.2.1)),(146,I.of (iC.2.2.2.2))]) iC) (fun iC BB=>Sum.elim (fun iC=>(⟨some uu,.var (e6.1:aA)⟩ :: ⟨some mZ,.var (fW (default:Vector aw 4) 0 jh:Vector aw 4)⟩ :: ⟨some bh,.var (az.2.2.1:Vector Ref 4)⟩ :: ⟨some ba,.var (aQ.1:a2)⟩ :: ⟨some aN,.var (aQ.2:b0)⟩ :: aZ az.2.2.2)) (fun iC=>(⟨some uu,.var (e6.1:aA)⟩ :: ⟨some mZ,.var (fW (default:Vector aw 4) 0 jh:Vector aw 4)⟩ :: ⟨some bh,.var (az.2.2.1:Vector Ref 4)⟩ :: ⟨some ba,.var (aQ.1:a2)⟩ :: ⟨some aN,.var (aQ.2:b0)⟩ :: aZ az.2.2.2)) iC) () rfl (.same rfl (.same rfl (.same rfl (.same rfl (.same rfl (.same rfl (.same rfl (.same rfl (.same rfl (.same rfl (.same rfl (.same rfl (.same rfl (.same rfl .nil)))))))))))))) (fun qh r h BB=> ?_) (fun BB=> ?_)
    ·clear an
     refine aM ?_
     refine bQ hf ?_
     refine cm ?_
     refine dz h (fun h=>?_) fun h=>?_
     ·refine dT ?_
      refine ak.seq ?_
      refine ak.block ?_
      refine aM ?_
      obtain⟨yq,Y0,h⟩:=aC h
      refine bp (Tv (k:=yq) Tryz.underlying37 Aw (ad rfl) (ad rfl) (eh Y0)) ?_
      refine aW ?_
      refine cc ?_
      refine aL ?_
      refine cV 1 lz ?_
      obtain⟨fx,vR,h⟩:=aC h
      refine ah.iK (fr.iG 5 rfl Oo (JW vR) ⟨ad rfl,ad rfl,trivial⟩) rfl rfl rfl ?_
      refine aL ?_
      refine gZ ?_
      refine gZ ?_
      refine dL iv fun Pr=> ?_
      refine dh 0 c6 ?_
      refine aW ?_
      refine cm ?_
      obtain⟨ke,As,h⟩:=aC h
      obtain⟨oH,HT,h⟩:=aC h
      obtain⟨kC,vM,h⟩:=aC h
      refine kc [0,1,4,5,6,7,15,16,17,18,20,21,22,26,105,119,120,121,122,123,124,125,126,127,128] ?_
      refine ak.pG 6 mixed (bk 129 [] [] _ :: bk 130 [] [] _ :: bk 131 (0 :: 1 :: []) [] _ :: bk 132 (2 :: []) [] _ :: ⟨some 133,(3 :: []),[],[],fun _=>I.cond ((e6.2 !=fx.2)=false) (I.eq (.pointer (some ⟨uu,0 + 5,none⟩))),fun _ _=>⟨none,.dead⟩⟩ :: ⟨some 134,(3 :: 4 :: []),(1 :: []),[],fun _=>I.cond ((e6.2 !=fx.2)=false) (I.of (e6.1.bt)),fun _ _=>⟨none,.dead⟩⟩ :: ⟨some 135,(3 :: []),[],[],fun _=>I.cond ((e6.2 !=fx.2)=false) (I.eq (.pointer (some ⟨Pr,0 + 5,none⟩))),fun _ _=>⟨none,.dead⟩⟩ :: ⟨some 136,(3 :: 6 :: []),(0 :: []),[],fun _=>I.cond ((e6.2 !=fx.2)=false) (I.of (fx.1.bt)),fun _ _=>⟨none,.dead⟩⟩ :: ⟨some 137,(3 :: 5 :: 7 :: []),[],[],fun _=>I.cond ((e6.2 !=fx.2)=false) (I.of (e6.1.bt !=fx.1.bt)),fun _ _=>⟨none,.dead⟩⟩ :: bk 138 (3 :: 8 :: []) [] _ :: bk 139 (9 :: []) [] _ :: ⟨some 140,(10 :: []),[],[],fun _=>I.cond (((e6.2 !=fx.2) || (e6.1.bt !=fx.1.bt))=false) (I.of (bB az.2.2.1 yq)),fun _ _=>⟨none,.dead⟩⟩ :: ⟨some 141,(10 :: 11 :: []),[],[],fun _=>I.cond (((e6.2 !=fx.2) || (e6.1.bt !=fx.1.bt))=false) (I.of (ke)),fun _ _=>⟨none,.dead⟩⟩ :: ⟨some 142,(10 :: []),[],[],fun _=>I.cond (((e6.2 !=fx.2) || (e6.1.bt !=fx.1.bt))=false) (I.eq (.pointer (some ⟨bh,0 + 0 * 1,none⟩))),fun _ _=>⟨none,.dead⟩⟩ :: ⟨some 143,(10 :: 13 :: []),(3 :: []),[],fun _=>I.cond (((e6.2 !=fx.2) || (e6.1.bt !=fx.1.bt))=false) (I.of (bB az.2.2.1 0)),fun _ _=>⟨none,.dead⟩⟩ :: ⟨some 144,(10 :: 14 :: []),[],[],fun _=>I.cond (((e6.2 !=fx.2) || (e6.1.bt !=fx.1.bt))=false) (I.of (oH)),fun _ _=>⟨none,.dead⟩⟩ :: ⟨some 145,(10 :: 12 :: 15 :: []),[],[],fun _=>I.cond (((e6.2 !=fx.2) || (e6.1.bt !=fx.1.bt))=false) (I.of (ke !=oH)),fun _ _=>⟨none,.dead⟩⟩ :: bk 146 (10 :: 16 :: []) [] _ :: []) _ (0 :: 1 :: 4 :: 5 :: 6 :: 7 :: 15 :: 16 :: 17 :: 18 :: 20 :: 21 :: 22 :: 26 :: 105 :: 119 :: 120 :: 121 :: 122 :: 123 :: 124 :: 125 :: 126 :: 127 :: 128 :: []) rfl rfl (by kernel_rfl) (by kernel_rfl) ⟨b8.q (gb),b8.q (gb),b8.q (ym (WA Tryz.underlying4)),b8.q (gb),?_,?_,?_,?_,?_,b8.q (cr fun hd E' L' ay aq=>tT (ad (ay _ _ rfl)) (ad (ay _ _ rfl)) (fun h=>h)),b8.q (gb),?_,?_,?_,?_,?_,?_,b8.q (cr fun hd E' L' ay aq=>(tT (ad (ay _ _ rfl)) (ad (ay _ _ rfl)) (fun h=>h)).as (aT vM)),trivial⟩ fun fG=> ?_
      ·intro hd E' L' ay aq ck
       refine ah.g (fun hb=>bc nM (ad (ay _ _ rfl))) rfl rfl (ay _ _ rfl) rfl rfl ?_
       refine ah.nil ?_
       exact aj.fin (ek []) rfl rfl
      ·intro hd E' L' ay aq ck
       refine ah.g (fun hb=>fl (i:=1) ((aP.id aA).comp m3) (r:=e6.1.bt) cf (cy (ay _ _ rfl) hb) (aq 1 _ rfl rfl) rfl rfl) rfl rfl (ay _ _ rfl) rfl rfl ?_
       refine ah.nil ?_
       exact aj.fin (ek []) rfl rfl
      ·intro hd E' L' ay aq ck
       refine ah.g (fun hb=>bc nM (ad (ay _ _ rfl))) rfl rfl (ay _ _ rfl) rfl rfl ?_
       refine ah.nil ?_
       exact aj.fin (ek []) rfl rfl
      ·intro hd E' L' ay aq ck
       refine ah.g (fun hb=>fl (i:=0) ((aP.id aA).comp m3) (r:=fx.1.bt) cf (cy (ay _ _ rfl) hb) (aq 0 _ rfl rfl) rfl rfl) rfl rfl (ay _ _ rfl) rfl rfl ?_
       refine ah.nil ?_
       exact aj.fin (ek []) rfl rfl
      ·intro hd E' L' ay aq ck
       refine ah.g (fun hb=>zZ (cy (ay _ _ rfl) hb) (cy (ay _ _ rfl) hb)) rfl rfl (ay _ _ rfl) rfl rfl ?_
       refine ah.nil ?_
       exact aj.fin (ek []) rfl rfl
      ·intro hd E' L' ay aq ck
       refine ah.g (fun hb=>cZ (ad (ay _ _ rfl))) rfl rfl (ay _ _ rfl) rfl rfl ?_
       refine ah.nil ?_
       exact aj.fin (ek []) rfl rfl
      ·intro hd E' L' ay aq ck
       refine ah.yn (fun hb=>fr.iG 6 (ck.trans rfl) Oq (J3 (gr As hb)) ⟨cy (ay _ _ rfl) hb,trivial⟩) rfl rfl (ay _ _ rfl) rfl rfl ?_
       refine ah.nil ?_
       exact aj.fin (ek []) rfl rfl
      ·intro hd E' L' ay aq ck
       refine ah.g (fun hb=>l3 (k:=0) HY (ad (ay _ _ rfl)) (bG 0) ⟨by decide,rfl⟩) rfl rfl (ay _ _ rfl) rfl rfl ?_
       refine ah.nil ?_
       exact aj.fin (ek []) rfl rfl
      ·intro hd E' L' ay aq ck
       refine ah.g (fun hb=>fl (i:=3) ((aP.id (Vector Ref 4)).comp (aP.idx (α:=Ref) 4 0 (⟨by decide,rfl⟩:0 < 4∧ (0:Int)=0).1)) (r:=bB az.2.2.1 0) Aw (cy (ay _ _ rfl) hb) (aq 3 _ rfl rfl) rfl rfl) rfl rfl (ay _ _ rfl) rfl rfl ?_
       refine ah.nil ?_
       exact aj.fin (ek []) rfl rfl
      ·intro hd E' L' ay aq ck
       refine ah.yn (fun hb=>fr.iG 6 (ck.trans rfl) Oq (J3 (gr HT hb)) ⟨cy (ay _ _ rfl) hb,trivial⟩) rfl rfl (ay _ _ rfl) rfl rfl ?_
       refine ah.nil ?_
       exact aj.fin (ek []) rfl rfl
      ·intro hd E' L' ay aq ck
       refine ah.g (fun hb=>zZ (cy (ay _ _ rfl) hb) (cy (ay _ _ rfl) hb)) rfl rfl (ay _ _ rfl) rfl rfl ?_
       refine ah.nil ?_
       exact aj.fin (ek []) rfl rfl
      refine aj.eH (L2:=(⟨some Pr,.var (fx.1:aA)⟩ :: ⟨some uu,.var (e6.1:aA)⟩ :: ⟨some mZ,.var (fW (default:Vector aw 4) 0 jh:Vector aw 4)⟩ :: ⟨some bh,.var (az.2.2.1:Vector Ref 4)⟩ :: ⟨some ba,.var (aQ.1:a2)⟩ :: ⟨some aN,.var (aQ.2:b0)⟩ :: aZ az.2.2.2)) rfl ?_
      refine lF [0,1,4,5,6,7,15,16,17,18,20,21,22,26,105,119,120,121,122,123,124,125,126,127,128,129,130,131,132,133,134,135,136,137,138,139,140,141,142,143,144,145,146] ?_
      refine aj.next ?_
      refine dz h (fun h=>?_) fun h=>?_
      ·refine aM ?_
       refine aW ?_
       refine a0 ?_
       refine ak.ret ?_
       refine aj.fS ?_
       refine aj.ret ?_
       obtain rfl:=aT h
       exact hg () 1
      ·refine ak.skip ?_
       refine aj.fV ?_
       refine aj.next ?_
       refine ak.cU ?_
       refine bQ eR ?_
       refine aL ?_
       refine ah.nil ?_
       obtain rfl:=aT h
       exact kb () 1
     ·refine ak.exit ?_
      refine aj.exit ?_
      obtain rfl:=aT h
      exact hg () 0
    ·clear an
     rcases gP with gP | gP
     ·simp only [Sum.elim_inl] at h
      refine aj.jd ?_
      refine aj.fV ?_
      refine aj.next ?_
      refine ak.cU ?_
      refine aL ?_
      refine bQ eR ?_
      refine aW ?_
      refine ah.nil ?_
      obtain rfl:=aT h
      exact kb () 2
     ·simp only [Sum.elim_inr] at h
      refine aj.fS ?_
      refine aj.fS ?_
      refine aj.ret ?_
      obtain rfl:=aT h
      exact hg () 2
   ·refine ak.exit ?_
    refine aj.exit ?_
    obtain rfl:=aT h
    exact hg () 0
  ·clear an
   rcases dS with dS | dS
   ·simp only [Sum.elim_inl] at h
    refine aj.jd ?_
    refine aj.next ?_
    refine aM ?_
    refine ah.kM 3 0 rfl X9 (Ra h) rfl rfl trivial rfl fun⟨⟨mR,h⟩,Ik⟩=> ?_
    refine ah.eH (L2:=(⟨some bh,.var (az.2.2.1:Vector Ref 4)⟩ :: ⟨some ba,.var (aQ.1:a2)⟩ :: ⟨some aN,.var (aQ.2:b0)⟩ :: aZ mR.2)) rfl ?_
    refine aW ?_
    refine a0 ?_
    refine ak.ret ?_
    exact aj.gF (⟨⟨(mR.1,mR.2),h⟩,()⟩: {r // _} × _) (.cons _ (.cons _ (.cons _ (.refl _)))) rfl rfl (dG rfl)
   ·simp only [Sum.elim_inr] at h
    refine aj.fS ?_
    refine aj.ret ?_
    exact aj.gF (⟨⟨(false,az.2.2.2),h⟩,()⟩: {r // _} × _) (.cons _ (.cons _ (.cons _ (.refl _)))) rfl rfl (dG rfl)
end Go.Proofs.YthkfkliknjiecaaGreat
