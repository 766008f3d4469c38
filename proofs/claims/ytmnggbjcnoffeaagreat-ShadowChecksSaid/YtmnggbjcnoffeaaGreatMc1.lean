/-
  Each function meets its functional program. Conditions: none.
-/
import Derived.Test.YtmnggbjcnoffeaaGreatMc0
import Derived.Test.YtmnggbjcnoffeaaGreatMd
namespace Go.Proofs.YtmnggbjcnoffeaaGreat
open Go Gv
set_option linter.unusedVariables false
set_option linter.unusedSimpArgs false
set_option maxRecDepth 100000
set_option maxHeartbeats 2000000
theorem Rp (n:Nat):∀ (aa:Vector (BitVec 8) 512) (ai:List (Vector (BitVec 8) 512)) (r:Bool),rS n aa ai=some r→bn Tryz.prog 129 [I.of (aa),I.of (ai)] (I.of (r)):=by
 induction n with
 | zero=>intro aa ai r h; simp [rS] at h
 | succ n bO=>
   intro aa ai r h
   simp only [rS] at h
   refine bn.of Tryz.func129 rfl Tryz.ntmps129 rfl fun W A=> ?_
   refine aA ?_
   refine ca fun bf=> ?_
   refine aH ?_
   refine bE ?_
   refine bY 0 ej ?_
   refine ax ?_
   obtain⟨aD,bp,h⟩:=ar h
   refine cH GR (EV bp) ?_
   refine aH ?_
   refine bx ?_
   refine aA ?_
   refine ax ?_
   refine aY (er Tryz.underlying182) ?_
   refine a5 fW ?_
   refine aJ ?_
   refine b0 h (fun h=>?_) fun h=>?_
   ·refine aA ?_
    refine aH ?_
    refine aJ ?_
    refine ag.ret ?_
    refine ae.ret ?_
    obtain rfl:=aG h
    exact c3
   ·refine cn ?_
    refine ag.seq ?_
    refine aA ?_
    refine ax ?_
    refine aY (er Tryz.underlying182) ?_
    refine ax ?_
    refine aJ ?_
    refine ag.block ?_
    obtain⟨ay,al,h⟩:=ar h
    refine eD (γ:=Unit) (δ:=Unit) al [0,1,2,15,16,17] (fun s1 au=> [(4,I.of (false)),(18,I.of (s1))]) (fun s1 au=> []) (fun az=>Sum.elim (fun az=>Exit.exit 0) (fun az=>Exit.ret) az) (fun az au=>Sum.elim (fun az=> [(4,I.of (false)),(18,I.of (az.1)),(19,I.of (az.2))]) (fun az=> [(4,I.of (az.1)),(18,I.of (az.2.1)),(19,I.of (az.2.2.1)),(24,I.of (az.2.2.2))]) az) (fun az au=>Sum.elim (fun az=> []) (fun az=> []) az) () (fun s1 r h au=> ?_) fun au=> ?_
    ·clear al
     refine aA ?_
     refine a5 dd ?_
     refine bx ?_
     refine b0 h (fun h=>?_) fun h=>?_
     ·refine cn ?_
      refine ag.seq ?_
      refine ag.block ?_
      refine aA ?_
      obtain⟨aV,b4,h⟩:=ar h
      refine fq b4 Tryz.underlying182 ej ?_
      refine aY (cK ej) ?_
      refine ch iS fun bw=> ?_
      refine bS 0 ej ?_
      refine bE ?_
      refine bY 1 ej ?_
      refine bY 0 ej ?_
      obtain⟨aM,b9,h⟩:=ar h
      refine cH V5 (RO b9) ?_
      refine aJ ?_
      refine b0 h (fun h=>?_) fun h=>?_
      ·refine aA ?_
       refine aH ?_
       refine aJ ?_
       refine ag.ret ?_
       refine ae.dQ ?_
       refine ae.ret ?_
       obtain rfl:=aG h
       exact c6 () 1
      ·refine ag.skip ?_
       refine ae.db ?_
       refine ae.next ?_
       refine ag.b1 ?_
       refine a5 cL ?_
       refine ax ?_
       refine ak.nil ?_
       obtain rfl:=aG h
       exact dO () 1
     ·refine ag.exit ?_
      refine ae.exit ?_
      obtain rfl:=aG h
      exact c6 () 0
    ·clear al
     rcases ay with ay | ay
     ·simp only [Sum.elim_inl] at h
      refine ae.dD ?_
      refine ae.next ?_
      refine ag.seq ?_
      refine aA ?_
      refine ax ?_
      refine aJ ?_
      refine ag.block ?_
      obtain⟨aS,al,h⟩:=ar h
      refine eD (γ:=Unit) (δ:=Unit) al [0,1,2,15,16,17,18,19] (fun s2 aT=> [(4,I.of (false)),(26,I.of (s2))]) (fun s2 aT=> []) (fun ck=>Sum.elim (fun ck=>Exit.exit 2) (fun ck=>Exit.ret) ck) (fun ck aT=>Sum.elim (fun ck=> [(4,I.of (false)),(26,I.of (ck.1)),(27,I.of (ck.2))]) (fun ck=> [(4,I.of (ck.1)),(7,I.of (ck.2.1)),(26,I.of (ck.2.2.1)),(27,I.of (ck.2.2.2.1)),(40,I.of (ck.2.2.2.2))]) ck) (fun ck aT=>Sum.elim (fun ck=> []) (fun ck=> []) ck) () (fun s2 r h aT=> ?_) fun aT=> ?_
      ·clear al
       refine aA ?_
       refine a5 dd ?_
       refine bx ?_
       refine b0 h (fun h=>?_) fun h=>?_
       ·refine cn ?_
        refine ag.seq ?_
        refine ag.block ?_
        refine aA ?_
        refine ax ?_
        refine aH ?_
        refine bx ?_
        refine aA ?_
        refine ax ?_
        obtain⟨bu,cD,h⟩:=ar h
        refine bh (dc (k:=bu) jE (ad rfl) (ad rfl) (bC cD)) ?_
        refine b5 0 ((aI.id (Vector (BitVec 8) 512)).comp (aI.idx (α:=BitVec 8) 512 bu (bC cD).1)) iy ?_
        refine bh (tS (ad rfl) (nn 2 rfl)) ?_
        refine ax ?_
        refine eg cN ?_
        refine eg cN ?_
        obtain⟨cb,eu,h⟩:=ar h
        refine eN (fun hb=>oZ (k:=cb) Tryz.underlying182 ej (ct rfl hb) (bF 0) (bC (fE eu hb))) ?_
        obtain⟨du,hx,h⟩:=ar h
        refine eN (fun hb=>GS (k:=du) jE rfl (ct rfl hb) (ct rfl hb) (bC (fE hx hb))) ?_
        refine eg (cK iy) ?_
        refine eN (fun hb=>F6 (ct rfl hb) (nn 2 rfl)) ?_
        refine pb ?_
        refine aJ ?_
        refine b0 h (fun h=>?_) fun h=>?_
        ·refine ag.exit ?_
         refine ae.exit ?_
         refine ae.dD ?_
         refine ae.next ?_
         refine ag.b1 ?_
         refine a5 cL ?_
         refine ax ?_
         refine ak.nil ?_
         obtain rfl:=aG h
         exact dO () 0
        ·refine cn ?_
         refine ag.seq ?_
         refine ag.draw mixed 5 [some 41,some 42,some 8,some 9,none] [[],[],[],[],[0,2]] [.val _,.val _,.new (.var (default:Vector (BitVec 8) 512)),.new (.var (default:Vector (BitVec 8) 512)),.lb 2 (.var (aa:Vector (BitVec 8) 512))] [false,false,false,false,true] (by kernel_rfl) rfl rfl rfl (fun c5=>⟨fz 0 ej,fz 0 ej,oS iS,oS iS,⟨rfl,_,rfl,fun aC q hq=>oU (i:=q) (aI.id (Vector (BitVec 8) 512)) (v:=(aa:Vector (BitVec 8) 512)) (b':=(aa:Vector (BitVec 8) 512)) ej (ad rfl) (ad rfl) hq rfl rfl⟩,trivial⟩) fun c5=> ?_
         refine bS 1 ej ?_
         refine bx ?_
         obtain⟨dA,ij,h⟩:=ar h
         obtain⟨eM,ju,h⟩:=ar h
         obtain⟨jy,nK,h⟩:=ar h
         obtain⟨jg,nL,h⟩:=ar h
         obtain⟨mg,sU,h⟩:=ar h
         refine ag.draw mixed 15 [some 43,some 44,some 45,some 46,some 47,some 48,some 49,some 50,some 51,some 52,some 53,some 54,some 55,some 56,none] [[],[],[],[],[2],[3,4],[5],[6],[],[],[8],[9,10],[11],[0],[7,13]] [.val _,.val _,.val _,.val _,.val _,.val _,.val _,.val _,.val _,.val _,.val _,.val _,.val _,.val _,.jJ 0 (.var (cq aa mg ((1#8) - (bd (aB aD dA) eM)):Vector (BitVec 8) 512))] [false,false,false,false,false,false,false,false,false,false,false,false,false,false,true] (by kernel_rfl) rfl rfl rfl (fun iz=>⟨cw,cw,cw,cw,j0 ij Tryz.underlying182 ej,df fun aC av=>GS (k:=eM) jE rfl (ad rfl) (ad rfl) (bC ju),H1 (cK iy),df fun aC av=>U2 (nn 1 rfl) (ad rfl),cw,cw,j0 nK Tryz.underlying182 ej,df fun aC av=>GS (k:=jg) jE rfl (ad rfl) (ad rfl) (bC nL),H1 (cK iy),df fun aC av=>dc (k:=mg) jE (ad rfl) (ad rfl) (bC sU),⟨_,_,rfl,fun aC av=>oU (i:=0) ((aI.id (Vector (BitVec 8) 512)).comp (aI.idx (α:=BitVec 8) 512 mg (bC sU).1)) (v:=((1#8) - (bd (aB aD dA) eM):BitVec 8)) (b':=(cq aa mg ((1#8) - (bd (aB aD dA) eM)):Vector (BitVec 8) 512)) iy (ad rfl) (ad rfl) (av _ _ rfl) rfl rfl⟩,trivial⟩) fun iz=> ?_
         obtain⟨z4,Ow,h⟩:=ar h
         refine bh (dc (k:=z4) jE (ad rfl) (ad rfl) (bC Ow)) ?_
         refine jt 1 ((aI.id (Vector (BitVec 8) 512)).comp (aI.idx (α:=BitVec 8) 512 z4 (bC Ow).1)) iy ?_
         refine bE ?_
         refine bY 0 ej ?_
         refine ax ?_
         obtain⟨a8,dP,h⟩:=ar h
         refine cH C6 (bO _ _ _ dP) ?_
         refine ax ?_
         refine eN (fun hb=>fb (i:=1) (aI.id (Vector (BitVec 8) 512)) (r:=(cq aa z4 (bd (aB aD jy) jg))) ej (ad rfl) rfl rfl rfl) ?_
         refine eg cN ?_
         obtain⟨br,eW,h⟩:=ar h
         refine eN (fun hb=>h1 C6 (bO _ _ _ (fE eW hb)) ⟨ct rfl hb,ct rfl hb,trivial⟩) ?_
         refine j4 ?_
         refine aH ?_
         refine aJ ?_
         refine ag.ret ?_
         refine ae.dQ ?_
         refine ae.ret ?_
         obtain rfl:=aG h
         exact c6 () 2
       ·refine ag.exit ?_
        refine ae.exit ?_
        obtain rfl:=aG h
        exact c6 () 0
      ·clear al
       rcases aS with aS | aS
       ·simp only [Sum.elim_inl] at h
        refine ae.dD ?_
        refine ae.next ?_
        refine aA ?_
        refine aH ?_
        refine aJ ?_
        refine ag.ret ?_
        obtain rfl:=aG h
        exact c3
       ·simp only [Sum.elim_inr] at h
        refine ae.dQ ?_
        refine ae.ret ?_
        obtain rfl:=aG h
        exact c3
     ·simp only [Sum.elim_inr] at h
      refine ae.dQ ?_
      refine ae.ret ?_
      obtain rfl:=aG h
      exact c3
theorem JU {aa:Vector (BitVec 8) 512} {ai:List (Vector (BitVec 8) 512)} {r:Bool} (h:EO aa ai=some r):bn Tryz.prog 129 [I.of (aa),I.of (ai)] (I.of (r)):=Rp da aa ai r h
end Go.Proofs.YtmnggbjcnoffeaaGreat
namespace Go.Proofs.YtmnggbjcnoffeaaGreat
open Go Gv
set_option linter.unusedVariables false
set_option linter.unusedSimpArgs false
set_option maxRecDepth 100000
set_option maxHeartbeats 2000000
theorem B6 {aa:a1} {ai:Int} {aR:Bool} {r:a1} (h:qv aa ai aR=some r):bn Tryz.prog 123 [I.of (aa),I.of (ai),I.of (aR)] (I.of (r)):=by
 unfold qv at h
 refine bn.of Tryz.func123 rfl Tryz.ntmps123 rfl fun W A=> ?_
 refine aA ?_
 refine ca fun bf=> ?_
 refine ch hX fun bw=> ?_
 refine bx ?_
 refine aA ?_
 refine ax ?_
 refine a5 dd ?_
 refine ax ?_
 refine eg cN ?_
 refine k7 lZ ?_
 refine pb ?_
 refine ax ?_
 refine eg (a2 mR) ?_
 refine eN (fun hb=>fb (i:=1) ((aI.id a1).comp lz) (r:=aa.bR) dR (ct rfl hb) rfl rfl rfl) ?_
 refine eg cN ?_
 obtain⟨aD,bp,h⟩:=ar h
 refine eN (fun hb=>h1 V6 (SF (fE bp hb)) ⟨ct rfl hb,ct rfl hb,trivial⟩) ?_
 refine pb ?_
 refine aJ ?_
 refine b0 h (fun h=>?_) fun h=>?_
 ·refine aA ?_
  refine bY 1 cY ?_
  refine bS 0 cY ?_
  refine aJ ?_
  refine ag.ret ?_
  refine ae.ret ?_
  obtain rfl:=aG h
  exact ae.gh rfl (dF 0 cY)
 ·refine cn ?_
  refine aA ?_
  refine ax ?_
  obtain⟨aM,b9,h⟩:=ar h
  refine cH Nw (Ki b9) ?_
  refine ax ?_
  refine dG ?_
  refine dG ?_
  refine aH ?_
  refine aH ?_
  refine bE ?_
  obtain⟨a8,dP,h⟩:=ar h
  refine bh (h1 V7 (SE dP) ⟨gJ 1 rfl,trivial⟩) ?_
  refine ax ?_
  obtain⟨br,eW,h⟩:=ar h
  refine cH V8 (R7 eW) ?_
  refine ch dY fun cz=> ?_
  refine bS 0 bT ?_
  refine bx ?_
  obtain⟨aV,b4,h⟩:=ar h
  obtain⟨cj,gH,h⟩:=ar h
  obtain⟨bu,cD,h⟩:=ar h
  refine ag.draw mixed 9 [some 31,some 32,some 33,some 34,some 35,some 36,some 37,some 38,some 39] [[],[],[],[1,2],[3],[],[4,5],[],[0,7]] [.val _,.val _,.val _,.val _,.val _,.val _,.val _,.val _,.val _] [false,false,false,false,false,false,false,false,false] (by kernel_rfl) rfl rfl rfl (fun c5=>⟨cw,cw,H1 (a2 mR),df fun aC av=>dc (k:=aV) gq (ad rfl) (ad rfl) (bC b4),dN 2 (((aI.id a1).comp lz).comp (aI.idx (α:=aw) 4 aV (bC b4).1)) bT,fz 0 bT,fc qW (qu gH),H1 (a2 mR),df fun aC av=>dc (k:=bu) gq (ad rfl) (ad rfl) (bC cD),trivial⟩) fun c5=> ?_
  refine jt 2 (((aI.id a1).comp lz).comp (aI.idx (α:=aw) 4 bu (bC cD).1)) bT ?_
  refine bx ?_
  refine aA ?_
  refine ax ?_
  refine aJ ?_
  obtain⟨bJ,cB,h⟩:=ar h
  refine hQ (γ:=Unit) [0,1,2,3,6,7,8,9,21,40] (fun au=> []) (fun au=> [(2,⟨some bf,.var (bJ:a1)⟩)]) (fun au=> ?_) (fun hm ao=> ?_) fun hm ao=> ?_
  ·clear cB
   refine ae.next ?_
   refine aA ?_
   refine bY 2 cY ?_
   refine bS 1 cY ?_
   refine aJ ?_
   refine ag.ret ?_
   obtain rfl:=aG h
   exact ae.gh rfl (dF 1 cY)
  ·have h:=gK ao cB
   obtain⟨cb,eu,h⟩:=ar h
   obtain⟨cM,hh,h⟩:=ar h
   obtain⟨du,hx,h⟩:=ar h
   refine ag.draw mixed 9 [some 41,some 42,some 43,some 44,some 45,some 46,some 47,some 48,some 49] [[],[],[],[1,2],[3],[],[4,5],[],[0,7]] [.val _,.val _,.val _,.val _,.val _,.val _,.val _,.val _,.val _] [false,false,false,false,false,false,false,false,false] (by kernel_rfl) rfl rfl rfl (fun iz=>⟨cw,cw,H1 (a2 oa),df fun aC av=>dc (k:=cb) gq (ad rfl) (ad rfl) (bC eu),dN 2 (((aI.id a1).comp mi).comp (aI.idx (α:=aw) 4 cb (bC eu).1)) bT,fz 0 bT,fc qW (qu hh),H1 (a2 oa),df fun aC av=>dc (k:=du) gq (ad rfl) (ad rfl) (bC hx),trivial⟩) fun iz=> ?_
   obtain⟨bN,dg,h⟩:=ar h
   refine sP 2 (((aI.id a1).comp mi).comp (aI.idx (α:=aw) 4 du (bC hx).1)) bT (hb:=by exact dg) ?_
   refine ak.nil ?_
   obtain rfl:=aG h
   exact dj 0 (hm ())
  ·have h:=gL ao cB
   refine ag.skip ?_
   obtain rfl:=aG h
   exact dj 0 (hm ())
theorem Rx {aa:a0} {ai:bX} {aR:Int} {r:Int} (h:x7 aa ai aR=some r):bn Tryz.prog 47 [I.of (aa),I.of (ai),I.of (aR)] (I.of (r)):=by
 unfold x7 at h
 refine bn.of Tryz.func47 rfl Tryz.ntmps47 rfl fun W A=> ?_
 refine aA ?_
 refine ca fun bf=> ?_
 refine ca fun bw=> ?_
 refine aH ?_
 refine bx ?_
 obtain⟨aV,b4,h⟩:=ar h
 obtain⟨aD,bp,h⟩:=ar h
 refine ag.draw mixed 8 [some 7,some 8,some 9,some 10,some 11,some 12,some 13,some 14] [[],[],[1],[],[2,3],[4],[5],[0,6]] [.val _,.val _,.val _,.val _,.val _,.val _,.val _,.val _] [false,false,false,false,false,false,false,false] (by kernel_rfl) rfl rfl rfl (fun c5=>⟨fz 1 eP,H1 (a2 kl),dN 0 iP jW,cw,j0 b4 Tryz.underlying62 hP,m7 nj CG,H1 (cK bM),fc X9 (Sa bp),trivial⟩) fun c5=> ?_
 refine aH ?_
 refine aJ ?_
 refine ag.ret ?_
 obtain rfl:=aG h
 exact c3
theorem RY {aa:a0} {ai:aU} {aR:aU} {r:Bool} (h:ym aa ai aR=some r):bn Tryz.prog 36 [I.of (aa),I.of (ai),I.of (aR)] (I.of (r)):=by
 unfold ym at h
 refine bn.of Tryz.func36 rfl Tryz.ntmps36 rfl fun W A=> ?_
 refine aA ?_
 refine ca fun bf=> ?_
 refine ca fun bw=> ?_
 refine ca fun cz=> ?_
 refine aH ?_
 refine bx ?_
 refine aA ?_
 refine aY (a2 jT) ?_
 refine aY (a2 qJ) ?_
 refine b5 1 (iO.comp oM) bM ?_
 refine aY (a2 jT) ?_
 refine aY (a2 qJ) ?_
 refine b5 0 (iO.comp oM) bM ?_
 refine a5 mY ?_
 refine aJ ?_
 refine b0 h (fun h=>?_) fun h=>?_
 ·refine aA ?_
  refine aY (a2 jT) ?_
  refine aY (a2 qJ) ?_
  refine b5 1 (iO.comp oM) bM ?_
  refine aY (a2 jT) ?_
  refine aY (a2 qJ) ?_
  refine b5 0 (iO.comp oM) bM ?_
  refine a5 lY ?_
  refine aH ?_
  refine aJ ?_
  refine ag.ret ?_
  refine ae.ret ?_
  obtain rfl:=aG h
  exact c3
 ·refine cn ?_
  refine ag.seq ?_
  refine ag.seq ?_
  obtain⟨aD,bp,h⟩:=ar h
  obtain⟨aM,b9,h⟩:=ar h
  refine ag.draw mixed 8 [some 23,some 24,some 25,some 26,some 27,some 28,some 29,some 30] [[],[],[1],[0,2],[],[],[5],[4,6]] [.val _,.val _,.val _,.val _,.val _,.val _,.val _,.val _] [false,false,false,false,false,false,false,false] (by kernel_rfl) rfl rfl rfl (fun c5=>⟨fz 2 eP,H1 (a2 jT),dN 1 iO ig,fc Ox (J1 bp),fz 2 eP,H1 (a2 jT),dN 0 iO ig,fc Ox (J1 b9),trivial⟩) fun c5=> ?_
  refine aH ?_
  refine aH ?_
  refine bE ?_
  refine ax ?_
  refine ax ?_
  refine a5 mY ?_
  refine aJ ?_
  refine b0 h (fun h=>?_) fun h=>?_
  ·refine aA ?_
   refine ax ?_
   refine ax ?_
   refine a5 lY ?_
   refine aH ?_
   refine aJ ?_
   refine ag.ret ?_
   refine ae.ret ?_
   obtain rfl:=aG h
   exact c3
  ·refine cn ?_
   refine aA ?_
   refine aY (a2 km) ?_
   refine b5 1 ji bM ?_
   refine aY (a2 km) ?_
   refine b5 0 ji bM ?_
   refine a5 lY ?_
   refine aH ?_
   refine aJ ?_
   refine ag.ret ?_
   obtain rfl:=aG h
   exact c3
theorem JV {aa:Vector (BitVec 8) 512} {ai:List (Vector (BitVec 8) 512)} {r:Bool × Int} (h:vA aa ai=some r):bn Tryz.prog 94 [I.of (aa),I.of (ai)] (I.eI [I.of (r.1),I.of (r.2)]):=by
 unfold vA at h
 refine bn.of Tryz.func94 rfl Tryz.ntmps94 rfl fun W A=> ?_
 refine aA ?_
 refine ca fun bf=> ?_
 refine aH ?_
 refine aH ?_
 refine bx ?_
 refine aA ?_
 refine bY 0 ej ?_
 refine ax ?_
 obtain⟨aD,bp,h⟩:=ar h
 refine cH GR (EV bp) ?_
 refine aY (er Tryz.underlying182) ?_
 refine a5 lY ?_
 refine aJ ?_
 refine b0 h (fun h=>?_) fun h=>?_
 ·refine aA ?_
  refine aH ?_
  refine aH ?_
  refine aJ ?_
  refine ag.ret ?_
  refine ae.ret ?_
  obtain rfl:=aG h
  exact pa
 ·refine cn ?_
  refine aA ?_
  refine bY 0 ej ?_
  refine ax ?_
  obtain⟨aM,b9,h⟩:=ar h
  refine cH C6 (JU b9) ?_
  refine aH ?_
  refine aH ?_
  refine aJ ?_
  refine ag.ret ?_
  obtain rfl:=aG h
  exact pa
end Go.Proofs.YtmnggbjcnoffeaaGreat
namespace Go.Proofs.YtmnggbjcnoffeaaGreat
open Go Gv
set_option linter.unusedVariables false
set_option linter.unusedSimpArgs false
set_option maxRecDepth 100000
set_option maxHeartbeats 2000000
theorem Qm {aa:List a1} {ai:a1→Option Bool} {hc:Option Nat} {eH:Nat} {r:(List a1)} (h:vh aa ai=some r):cG Tryz.prog 151 [I.eq (aZ hc aa.length eH),I.o9 Tryz.prog ai] [⟨hc,.row 155 (aa:List a1) eH⟩] (δ:=Unit) (fun d=>I.of (r)) (fun d=> []):=by
 unfold vh at h
 refine cG.of Tryz.func151 rfl Tryz.ntmps151 rfl fun W A=> ?_
 refine aA ?_
 refine bh (eC (look_nil (α:=a1))) ?_
 refine bE ?_
 refine ax ?_
 refine ax ?_
 obtain⟨aD,bp,h⟩:=ar h
 refine bh (b3.Ya (α:=a1) 0 8 rfl rfl tG (h1 Ny (Jx bp) ⟨ad rfl,ad rfl,trivial⟩)) ?_
 refine aH ?_
 refine bx ?_
 refine aA ?_
 refine ax ?_
 refine a5 fW ?_
 refine aJ ?_
 refine b0 h (fun h=>?_) fun h=>?_
 ·refine aA ?_
  refine ax ?_
  refine aH ?_
  refine aJ ?_
  refine ag.ret ?_
  refine ae.ret ?_
  refine ae.kF (α:=a1) 0 [4,0,8,13] ⟨rfl,rfl,rfl,rfl,trivial⟩ rfl ?_
  obtain rfl:=aG h
  exact k6 ()
 ·refine cn ?_
  refine ag.seq ?_
  refine aA ?_
  refine ax ?_
  refine a5 cL ?_
  refine aH ?_
  refine aJ ?_
  refine ag.block ?_
  obtain⟨ay,al,h⟩:=ar h
  refine eD (γ:=(Option Nat × Nat)) (δ:=(Option Nat × Nat)) al [1,4,12] (fun s1 au=> [(0,I.eq (aZ au.1 s1.2.2.length au.2)),(5,I.of (s1.1)),(6,I.of (s1.2.1))]) (fun s1 au=> [(0,⟨au.1,.row 155 (s1.2.2:List a1) au.2⟩)]) (fun az=>Exit.exit 0) (fun az au=> [(0,I.eq (aZ au.1 az.2.2.2.length au.2)),(5,I.of (az.1)),(6,I.of (az.2.1)),(19,I.of (az.2.2.1))]) (fun az au=> [(0,⟨au.1,.row 155 (az.2.2.2:List a1) au.2⟩)]) (hc,eH) (fun s1 r h au=> ?_) fun au=> ?_
  ·clear al
   refine ag.seq ?_
   refine aA ?_
   refine ax ?_
   refine ax ?_
   refine bh (tT (i:=0) Tryz.underlying156 (ad rfl) rfl rfl) ?_
   refine a5 dd ?_
   refine aJ ?_
   refine b0 h (fun h=>?_) fun h=>?_
   ·refine cn ?_
    refine ag.seq ?_
    refine ag.block ?_
    refine aA ?_
    refine ax ?_
    refine ax ?_
    obtain⟨aV,b4,h⟩:=ar h
    refine bh (mX (i:=0) (k:=aV) (xs:=(s1.2.2:List a1)) Tryz.underlying156 cY (ad rfl) (ad rfl) rfl (bC b4)) ?_
    refine bh (wc (i:=0) (k:=aV) (aI.id a1) (r:=(aB s1.2.2 aV)) cY (ad rfl) rfl (bC b4).1 rfl rfl) ?_
    refine ch hX fun bf=> ?_
    refine bS 0 cY ?_
    refine bE ?_
    refine ax ?_
    refine bY 0 cY ?_
    obtain⟨aM,b9,h⟩:=ar h
    refine bh (v3 (ad rfl) (ad rfl) b9) ?_
    refine aY iT ?_
    refine aJ ?_
    obtain⟨bJ,cB,h⟩:=ar h
    refine hQ (γ:=(Option Nat × Nat)) [1,4,6,7,12,19,29] (fun aT=> [(0,I.eq (aZ aT.1 bJ.2.length aT.2)),(5,I.of (bJ.1))]) (fun aT=> [(1,⟨aT.1,.row 155 (bJ.2:List a1) aT.2⟩)]) (fun aT=> ?_) (fun hm ao=> ?_) fun hm ao=> ?_
    ·clear cB
     refine ae.db ?_
     refine ae.next ?_
     refine ag.b1 ?_
     refine ax ?_
     refine a5 cL ?_
     refine aH ?_
     refine ak.nil ?_
     obtain rfl:=aG h
     exact dO (aT.1,aT.2) 1
    ·have h:=gK ao cB
     refine aA ?_
     refine ax ?_
     refine ax ?_
     refine bY 0 cY ?_
     obtain⟨bu,cD,h⟩:=ar h
     refine bh (mX (i:=1) (k:=bu) (xs:=(s1.2.2:List a1)) Tryz.underlying156 cY (ad rfl) (ad rfl) rfl (bC cD)) ?_
     refine ak.si (i:=1) (k:=bu) (aI.id a1) (v:=((aB s1.2.2 aV):a1)) (r:=(et s1.2.2 bu (aB s1.2.2 aV):List a1)) cY (ad rfl) (ad rfl) rfl (bC cD).1 rfl rfl ?_
     refine ak.gY (m:=(et s1.2.2 bu (aB s1.2.2 aV)).length) 0 rfl (ir rfl) ?_
     refine ak.gY (m:=(et s1.2.2 bu (aB s1.2.2 aV)).length) 17 rfl (ir rfl) ?_
     refine ak.gY (m:=(et s1.2.2 bu (aB s1.2.2 aV)).length) 22 rfl (ir rfl) ?_
     refine ak.gY (m:=(et s1.2.2 bu (aB s1.2.2 aV)).length) 30 rfl (ir rfl) ?_
     refine aJ ?_
     refine ag.b1 ?_
     refine ax ?_
     refine a5 cL ?_
     refine aH ?_
     refine ak.nil ?_
     obtain rfl:=aG h
     exact dj 0 (hm (au.1,au.2))
    ·have h:=gL ao cB
     refine ag.skip ?_
     obtain rfl:=aG h
     exact dj 0 (hm (au.1,au.2))
   ·refine ag.exit ?_
    refine ae.exit ?_
    obtain rfl:=aG h
    exact c6 (au.1,au.2) 0
  ·clear al
   refine ae.dD ?_
   refine ae.next ?_
   refine aA ?_
   refine ax ?_
   refine ax ?_
   obtain⟨a8,dP,h⟩:=ar h
   refine bh (Ck (i:=0) (xs:=(ay.2.2.2:List a1)) (m:=a8.1) (n:=a8.2) Tryz.underlying156 cY (ad rfl) rfl (.some (ad rfl)) .none (vX dP).1 (vX dP).2.1 (vX dP).2.2) ?_
   obtain⟨bN,dg,h⟩:=ar h
   refine ak.clear (i:=0) (r:=bN) Tryz.underlying156 cY hX rfl (ad rfl) rfl (by have:=(vX dP).2.2; omega) (aG dg) ?_
   refine ak.gY (m:=bN.length) 0 rfl (KB (by have:=(vX dP).2.2; omega) (aG dg)) ?_
   refine ak.gY (m:=bN.length) 36 rfl (KB (by have:=(vX dP).2.2; omega) (aG dg)) ?_
   refine bE ?_
   refine ax ?_
   refine ax ?_
   obtain⟨cb,eu,h⟩:=ar h
   refine bh (Ck (i:=0) (xs:=(bN:List a1)) (m:=0) (n:=cb) Tryz.underlying156 cY (ad rfl) rfl .none (.some (ad rfl)) rfl (bC eu).2 ⟨Nat.zero_le _,Nat.le_of_lt_succ (bC eu).1⟩) ?_
   obtain⟨c7,gG,h⟩:=ar h
   refine ak.V9 (i:=0) (n:=cb) (xs:=(bN:List a1)) (r:=c7) 41 rfl rfl (Nat.le_of_lt_succ (bC eu).1) (aG gG) ?_
   refine aH ?_
   refine aJ ?_
   refine ag.ret ?_
   refine ae.kF (α:=a1) 0 [4,41] ⟨rfl,rfl,trivial⟩ rfl ?_
   obtain rfl:=aG h
   exact k6 ()
theorem Qn {aa:List a1} {ai:a1→Option Bool} {r:Bool} (h:xr aa ai=some r):bn Tryz.prog 155 [I.of (aa),I.o9 Tryz.prog ai] (I.of (r)):=by
 unfold xr at h
 refine bn.of Tryz.func155 rfl Tryz.ntmps155 rfl fun W A=> ?_
 refine aA ?_
 refine aH ?_
 refine bE ?_
 refine ax ?_
 refine ax ?_
 obtain⟨aD,bp,h⟩:=ar h
 refine cH Ny (Jx bp) ?_
 refine a5 lZ ?_
 refine aH ?_
 refine aJ ?_
 refine ag.ret ?_
 obtain rfl:=aG h
 exact c3
end Go.Proofs.YtmnggbjcnoffeaaGreat
namespace Go.Proofs.YtmnggbjcnoffeaaGreat
open Go Gv
set_option linter.unusedVariables false
set_option linter.unusedSimpArgs false
set_option maxRecDepth 100000
set_option maxHeartbeats 2000000
theorem JW {aa:Int} {ai:Int} {r:aw} (h:vB aa ai=some r):bn Tryz.prog 189 [I.of (aa),I.of (ai)] (I.of (r)):=by
 unfold vB at h
 refine bn.of Tryz.func189 rfl Tryz.ntmps189 rfl fun W A=> ?_
 refine aA ?_
 refine ch dY fun bf=> ?_
 refine bE ?_
 refine ax ?_
 obtain⟨aD,bp,h⟩:=ar h
 refine cH Nk (J0 bp) ?_
 refine aH ?_
 refine bE ?_
 refine ax ?_
 refine a5 wC ?_
 refine ax ?_
 refine a5 uf ?_
 refine aH ?_
 refine bE ?_
 refine ax ?_
 obtain⟨aM,b9,h⟩:=ar h
 refine cH C4 (BX b9) ?_
 refine ax ?_
 refine ax ?_
 refine a5 jn ?_
 obtain⟨a8,dP,h⟩:=ar h
 refine cH C4 (BX dP) ?_
 obtain⟨br,eW,h⟩:=ar h
 refine cH C2 (B1 eW) ?_
 refine bS 0 bT ?_
 refine aJ ?_
 refine ag.ret ?_
 obtain rfl:=aG h
 exact ae.gh rfl (dF 0 bT)
theorem QR {ai:Int} {aR:aw} {cQ:Ref} :y5 Tryz.prog 255 [I.ptr ai,I.ptr aR,I.ptr cQ] (fun v:Int=>I.of v) (fun {σ ε} hq step cf=>tn (σ:=σ) (ε:=ε) ai aR cQ hq step cf):=by
 refine y5.of Tryz.func255 rfl Tryz.ntmps255 rfl ?_
 intro σ ε γ Ls Lx hq jz my step cf g0 R h W A u te
 replace h:tn ai aR cQ hq step cf R:=h
 unfold tn at h
 refine aA ?_
 refine aY (cK bM) ?_
 refine ax ?_
 refine aJ ?_
 refine ag.block ?_
 refine ag.MA (σ:=Int × (σ)) (ε:=(Int × Bool × (σ)) ⊕ (Int × Int × Int × Bool × Bool × Bool × (ε))) (γ:=γ) (δ:=γ) h (fun s1 au=> [(0,I.eq u),(1,I.ptr ai),(2,I.ptr aR),(3,I.ptr cQ),(7,I.of (ai)),(8,I.of (s1.1))]) (fun s1 au=>(Ls s1.2 au)) (fun az=>Sum.elim (fun az=>Exit.exit 0) (fun az=>Exit.ret) az) (fun az au=>Sum.elim (fun az=> [(0,I.eq u),(1,I.ptr ai),(2,I.ptr aR),(3,I.ptr cQ),(7,I.of (ai)),(8,I.of (az.1)),(9,I.of (az.2.1))]) (fun az=> [(0,I.eq u),(1,I.ptr ai),(2,I.ptr aR),(3,I.ptr cQ),(5,I.of (az.1)),(6,I.of (az.2.1)),(7,I.of (ai)),(8,I.of (az.2.2.1)),(9,I.of (az.2.2.2.1)),(19,I.of (az.2.2.2.2.1)),(23,I.of (az.2.2.2.2.2.1))]) az) (fun az au=>Sum.elim (fun az=>(Ls az.2.2 au)) (fun az=>(Lx az.2.2.2.2.2.2 au)) az) g0 rfl (.same rfl (.same rfl (.same rfl (.same rfl (.same rfl (.same rfl .nil)))))) (fun s1 R h au=> ?_) (fun ay h au=> ?_)
 ·refine aA ?_
  refine a5 dd ?_
  refine bx ?_
  refine ag.cond (ad rfl) (fun ao=> ?_) (fun ao=> ?_)
  ·replace h:=qD ao h
   refine cn ?_
   refine ag.seq ?_
   refine ag.block ?_
   refine aA ?_
   refine ax ?_
   refine aH ?_
   refine bE ?_
   refine aH ?_
   refine bx ?_
   refine ag.seq ?_
   obtain⟨dT,fY,h⟩:=aK.c4 h
   obtain⟨cZ,hz,h⟩:=aK.c4 h
   obtain⟨aD,bp,h⟩:=aK.c4 h
   refine ag.draw mixed 9 [some 11,some 12,some 13,some 14,some 15,some 16,some 17,some 18,some 19] [[],[],[1],[2],[3],[4],[],[5,6],[0,7]] [.val _,.val _,.val _,.val _,.val _,.val _,.val _,.val _,.val _] [false,false,false,false,false,false,false,false,false] (by kernel_rfl) rfl rfl rfl (fun c5=>⟨H1 (cK bT),H1 (cK Nz),df fun aC av=>fV (ht (ad rfl) fY),H1 (a2 Cu),df fun aC av=>kk ((aI.id gA).comp xQ) (r:=cZ.fU) bM (ad rfl) (oz (fun i e q=>av i e q rfl) (NA (Ls:=Ls) (s:=s1.2) (g:=au) 0 rfl my (qK hz) rfl)) rfl rfl,lq jn,cw,lq jn,fc C5 (B2 bp),trivial⟩) fun c5=> ?_
   refine aJ ?_
   obtain⟨bJ,cB,h⟩:=aK.c4 h
   refine ag.cX (γ:=Unit) (fun aT=> [(0,I.eq u),(1,I.ptr ai),(2,I.ptr aR),(3,I.ptr cQ),(5,I.of (s1.1)),(6,I.of (bJ)),(7,I.of (ai)),(8,I.of (s1.1)),(9,I.of (decide (s1.1 < ai))),(19,I.of (aD))]) (fun aT=>(Ls s1.2 au)) (ad rfl) (fun aT=> ?_) (fun hm ao=> ?_) (fun hm ao=> ?_)
   ·clear cB
    refine ae.next ?_
    refine aA ?_
    refine ax ?_
    refine ax ?_
    refine ak.U3 (Lin:= []) (Ls:=Ls) (Lx:=Lx) (step:=step) (s:=s1.2) (gg:=au) rfl te rfl (ad rfl) h rfl (fun s2 h bq=> ?_) (fun ck h bq=> ?_)
    ·simp only [Sum.elim_inl] at h
     refine ak.gu (L2:=(Ls s2 bq)) rfl ?_
     refine aY iT ?_
     refine aJ ?_
     refine ag.wG (ad rfl) (by first | rfl | (rw [hb]; rfl)) ?_
     refine ag.skip ?_
     refine ae.db ?_
     refine ae.next ?_
     refine ag.b1 ?_
     refine a5 cL ?_
     refine ax ?_
     refine ak.nil ?_
     exact ae.MB h bq 0 rfl (.same rfl (.same rfl (.same rfl (.same rfl (.same rfl (.same rfl .nil))))))
    ·simp only [Sum.elim_inr] at h
     refine ak.gu (L2:=(Lx ck bq)) rfl ?_
     refine aY iT ?_
     refine aJ ?_
     refine ag.GU (ad rfl) (by first | rfl | (rw [hb]; rfl)) ?_
     refine ag.ret ?_
     refine ae.dQ ?_
     refine ae.ret ?_
     exact ae.Ge h bq 0 rfl (by simp) rfl (.same rfl (.same rfl (.same rfl (.same rfl (.same rfl (.same rfl (.same rfl (.same rfl (.same rfl (.same rfl (.same rfl .nil)))))))))))
   ·have h:=gK ao cB
    refine ag.b1 ?_
    refine aH ?_
    refine ak.nil ?_
    obtain rfl:=aG h
    exact dj 0 (hm ())
   ·have h:=gL ao cB
    refine ag.skip ?_
    obtain rfl:=aG h
    exact dj 0 (hm ())
  ·replace h:=qE ao h
   refine ag.exit ?_
   refine ae.exit ?_
   exact ae.Ge h au 0 rfl (by simp) rfl (.same rfl (.same rfl (.same rfl (.same rfl (.same rfl (.same rfl (.same rfl .nil)))))))
 ·rcases ay with ay | ay
  ·simp only [Sum.elim_inl] at h
   refine ae.dD ?_
   refine ae.q5 ?_
   exact ae.oq (⟨⟨(.inl ay.2.2:σ ⊕ ε),h⟩,au⟩: {r // _} × _) (.refl _) rfl rfl
  ·simp only [Sum.elim_inr] at h
   refine ae.dQ ?_
   exact ae.oq (⟨⟨(.inr ay.2.2.2.2.2.2:σ ⊕ ε),h⟩,au⟩: {r // _} × _) (.refl _) rfl rfl
theorem QK {hp:bg Cell} {ai:Int} {aR:aw} {cQ:Ref} :y6 Tryz.prog 255 [I.ptr ai,I.ptr aR,I.ptr cQ] hp (fun v:Int=>I.of v) (fun {σ ε} =>tm (σ:=σ) (ε:=ε) hp ai aR cQ):=by
 refine y6.of Tryz.func255 rfl Tryz.ntmps255 rfl ?_
 intro σ ε γ Ls Lx jz my step cf g0 r h W A u te
 replace h:tm hp ai aR cQ step cf=some r:=h
 unfold tm at h
 refine aA ?_
 refine aY (cK bM) ?_
 refine ax ?_
 refine aJ ?_
 refine ag.block ?_
 obtain⟨ay,al,h⟩:=ar h
 refine ag.zp (σ:=Int × (σ)) (ε:=(Int × Bool × (σ)) ⊕ (Int × Int × Int × Bool × Bool × Bool × (ε))) (γ:=γ) (δ:=γ) al (fun s1 au=> [(0,I.eq u),(1,I.ptr ai),(2,I.ptr aR),(3,I.ptr cQ),(7,I.of (ai)),(8,I.of (s1.1))]) (fun s1 au=>(Ls s1.2 au)) (fun az=>Sum.elim (fun az=>Exit.exit 0) (fun az=>Exit.ret) az) (fun az au=>Sum.elim (fun az=> [(0,I.eq u),(1,I.ptr ai),(2,I.ptr aR),(3,I.ptr cQ),(7,I.of (ai)),(8,I.of (az.1)),(9,I.of (az.2.1))]) (fun az=> [(0,I.eq u),(1,I.ptr ai),(2,I.ptr aR),(3,I.ptr cQ),(5,I.of (az.1)),(6,I.of (az.2.1)),(7,I.of (ai)),(8,I.of (az.2.2.1)),(9,I.of (az.2.2.2.1)),(19,I.of (az.2.2.2.2.1)),(23,I.of (az.2.2.2.2.2.1))]) az) (fun az au=>Sum.elim (fun az=>(Ls az.2.2 au)) (fun az=>(Lx az.2.2.2.2.2.2 au)) az) g0 rfl (.same rfl (.same rfl (.same rfl (.same rfl (.same rfl (.same rfl .nil)))))) (fun s1 r h au=> ?_) (fun au=> ?_)
 ·clear al
  refine aA ?_
  refine a5 dd ?_
  refine bx ?_
  refine b0 h (fun h=>?_) fun h=>?_
  ·refine cn ?_
   refine ag.seq ?_
   refine ag.block ?_
   refine aA ?_
   refine ax ?_
   refine aH ?_
   refine bE ?_
   refine aH ?_
   refine bx ?_
   refine ag.seq ?_
   obtain⟨dT,fY,h⟩:=ar h
   obtain⟨cZ,hz,h⟩:=ar h
   obtain⟨aD,bp,h⟩:=ar h
   refine ag.draw mixed 9 [some 11,some 12,some 13,some 14,some 15,some 16,some 17,some 18,some 19] [[],[],[1],[2],[3],[4],[],[5,6],[0,7]] [.val _,.val _,.val _,.val _,.val _,.val _,.val _,.val _,.val _] [false,false,false,false,false,false,false,false,false] (by kernel_rfl) rfl rfl rfl (fun c5=>⟨H1 (cK bT),H1 (cK Nz),df fun aC av=>fV (ht (ad rfl) fY),H1 (a2 Cu),df fun aC av=>kk ((aI.id gA).comp xQ) (r:=cZ.fU) bM (ad rfl) (oz (fun i e q=>av i e q rfl) (Wa (Ls:=Ls) (s:=s1.2) (g:=au) 0 rfl my (qK hz) rfl)) rfl rfl,lq jn,cw,lq jn,fc C5 (B2 bp),trivial⟩) fun c5=> ?_
   refine aJ ?_
   obtain⟨bJ,cB,h⟩:=ar h
   refine ag.cX (γ:=Unit) (fun aT=> [(0,I.eq u),(1,I.ptr ai),(2,I.ptr aR),(3,I.ptr cQ),(5,I.of (s1.1)),(6,I.of (bJ)),(7,I.of (ai)),(8,I.of (s1.1)),(9,I.of (decide (s1.1 < ai))),(19,I.of (aD))]) (fun aT=>(Ls s1.2 au)) (ad rfl) (fun aT=> ?_) (fun hm ao=> ?_) (fun hm ao=> ?_)
   ·clear cB
    refine ae.next ?_
    refine aA ?_
    refine ax ?_
    refine ax ?_
    obtain⟨aM,b9,h⟩:=ar h
    refine ak.yield (Lin:= []) (Ls:=Ls) (Lx:=Lx) (step:=step) (s:=s1.2) (gg:=au) rfl te rfl (ad rfl) b9 rfl (fun s2 aQ bq=> ?_) (fun ck aQ bq=> ?_)
    ·subst aQ; simp only [Sum.elim_inl] at h
     refine ak.gu (L2:=(Ls s2 bq)) rfl ?_
     refine aY iT ?_
     refine aJ ?_
     refine ag.wG (ad rfl) (by first | rfl | (rw [hb]; rfl)) ?_
     refine ag.skip ?_
     refine ae.db ?_
     refine ae.next ?_
     refine ag.b1 ?_
     refine a5 cL ?_
     refine ax ?_
     refine ak.nil ?_
     obtain rfl:=aG h
     exact dO bq 0
    ·subst aQ; simp only [Sum.elim_inr] at h
     refine ak.gu (L2:=(Lx ck bq)) rfl ?_
     refine aY iT ?_
     refine aJ ?_
     refine ag.GU (ad rfl) (by first | rfl | (rw [hb]; rfl)) ?_
     refine ag.ret ?_
     refine ae.dQ ?_
     refine ae.ret ?_
     obtain rfl:=aG h
     exact c6 bq 0
   ·have h:=gK ao cB
    refine ag.b1 ?_
    refine aH ?_
    refine ak.nil ?_
    obtain rfl:=aG h
    exact dj 0 (hm ())
   ·have h:=gL ao cB
    refine ag.skip ?_
    obtain rfl:=aG h
    exact dj 0 (hm ())
  ·refine ag.exit ?_
   refine ae.exit ?_
   obtain rfl:=aG h
   exact c6 au 0
 ·clear al
  rcases ay with ay | ay
  ·simp only [Sum.elim_inl] at h
   refine ae.dD ?_
   refine ae.q5 ?_
   obtain rfl:=aG h
   exact ae.oq au (.refl _) rfl rfl
  ·simp only [Sum.elim_inr] at h
   refine ae.dQ ?_
   obtain rfl:=aG h
   exact ae.oq au (.refl _) rfl rfl
theorem EP {aa:aU} {r:aU} (h:rU aa=some r):bn Tryz.prog 87 [I.of (aa)] (I.of (r)):=by
 unfold rU at h
 refine bn.of Tryz.func87 rfl Tryz.ntmps87 rfl fun W A=> ?_
 refine aA ?_
 refine ca fun bf=> ?_
 refine ch iI fun bw=> ?_
 refine bE ?_
 refine aY (a2 jT) ?_
 refine b5 1 iO ig ?_
 obtain⟨aD,bp,h⟩:=ar h
 refine cH Wb (Si bp) ?_
 refine aY (a2 jT) ?_
 refine jt 1 iO ig ?_
 refine bE ?_
 refine bY 1 c9 ?_
 refine bS 0 c9 ?_
 refine aJ ?_
 refine ag.ret ?_
 obtain rfl:=aG h
 exact ae.gh rfl (dF 0 c9)
end Go.Proofs.YtmnggbjcnoffeaaGreat
namespace Go.Proofs.YtmnggbjcnoffeaaGreat
open Go Gv
set_option linter.unusedVariables false
set_option linter.unusedSimpArgs false
set_option maxRecDepth 100000
set_option maxHeartbeats 2000000
theorem JJ {hp:bg Cell} {aa:Ref} {ai:aw} {aR:Int} {r:Bool} (h:vu hp aa ai aR=some r):cG Tryz.prog 251 [I.of (aa),I.of (ai),I.of (aR)] ([] ++ bz hp) (δ:=Unit) (fun _=>I.of (r)) (fun _=> [] ++ bz hp):=by
 unfold vu at h
 refine cG.of Tryz.func251 rfl Tryz.ntmps251 rfl fun W A=> ?_
 refine aA ?_
 refine ca fun bf=> ?_
 refine aH ?_
 refine bx ?_
 obtain⟨dT,fY,h⟩:=ar h
 obtain⟨cZ,hz,h⟩:=ar h
 obtain⟨cT,hI,h⟩:=ar h
 obtain⟨dX,iZ,h⟩:=ar h
 obtain⟨aD,bp,h⟩:=ar h
 obtain⟨aM,b9,h⟩:=ar h
 obtain⟨bN,dg,h⟩:=ar h
 refine ag.draw mixed 26 ((some 7) :: (some 8) :: (some 9) :: (some 10) :: (some 11) :: (some 12) :: (some 13) :: (some 14) :: (some 15) :: (some 16) :: (some 17) :: (some 18) :: (some 19) :: (some 20) :: (some 21) :: (some 22) :: (some 23) :: (some 24) :: (some 25) :: (some 26) :: (some 27) :: (some 28) :: (some 29) :: (some 30) :: (some 31) :: (some 32) :: []) ([] :: [0] :: [1] :: [2] :: [2,3] :: [2,4] :: [5] :: [6] :: [6] :: [6,8] :: [6,9] :: [6,10] :: [6,7,11] :: [6,12] :: [13] :: [14] :: [14] :: [14,16] :: [14,17] :: [14,18] :: [14] :: [14,19,20] :: [14,15,21] :: [14] :: [14,22,23] :: [14,24] :: []) (.val _ :: .val _ :: .val _ :: .val _ :: .val _ :: .val _ :: .val _ :: .val _ :: .val _ :: .val _ :: .val _ :: .val _ :: .val _ :: .val _ :: .val _ :: .val _ :: .val _ :: .val _ :: .val _ :: .val _ :: .val _ :: .val _ :: .val _ :: .val _ :: .val _ :: .val _ :: []) (false :: false :: false :: false :: false :: false :: false :: false :: false :: false :: false :: false :: false :: false :: false :: false :: false :: false :: false :: false :: false :: false :: false :: false :: false :: false :: []) (by kernel_rfl) rfl rfl rfl (fun c5=>⟨cw,df fun aC av=>KV Tryz.underlying321 (ad rfl),cw,ew fun aC av=>fun hb=>cN (ad rfl),ew fun aC av=>fun hb=>lZ (ct rfl hb) (bF 0),df fun aC av=>oh (ad rfl) (ad rfl) (fun h=>h),cw,ew fun aC av=>fun hb=>cN (ad rfl),ew fun aC av=>fun hb=>cN (ad rfl),ew fun aC av=>fun hb=>fV (ht (ct rfl hb) (fE fY hb)),ew fun aC av=>fun hb=>a2 Cu (ct rfl hb),ew fun aC av=>fun hb=>kk ((aI.id gA).comp xQ) (r:=cZ.fU) bM (ct rfl hb) (oz (fun i e q=>av i e q rfl) (iH (n:=1) rfl (qK (fE hz hb)) rfl)) rfl rfl,ew fun aC av=>fun hb=>zl (ct rfl hb) (ct rfl hb),df fun aC av=>oh (ad rfl) (ad rfl) (fun h=>h),cw,ew fun aC av=>fun hb=>fb (i:=0) (aI.id aw) (r:=ai) bT (ad rfl) (av _ _ rfl rfl) rfl rfl,ew fun aC av=>fun hb=>cN (ad rfl),ew fun aC av=>fun hb=>fV (ht (ct rfl hb) (fE hI hb)),ew fun aC av=>fun hb=>a2 Cu (ct rfl hb),ew fun aC av=>fun hb=>kk ((aI.id gA).comp xQ) (r:=dX.fU) bM (ct rfl hb) (oz (fun i e q=>av i e q rfl) (iH (n:=1) rfl (qK (fE iZ hb)) rfl)) rfl rfl,ew fun aC av=>fun hb=>cN (ad rfl),ew fun aC av=>fun hb=>h1 NB (JW (fE bp hb)) ⟨ct rfl hb,ct rfl hb,trivial⟩,ew fun aC av=>fun hb=>h1 qV (qs (fE b9 hb)) ⟨ct rfl hb,ct rfl hb,trivial⟩,ew fun aC av=>fun hb=>fb (i:=0) (aI.id aw) (r:=ai) bT (ad rfl) (av _ _ rfl rfl) rfl rfl,ew fun aC av=>fun hb=>GQ uk rfl Wc rfl (ct rfl hb) (ct rfl hb),AS dg fun aC av=>oh (ad rfl) (ad rfl) (fun h=>h),trivial⟩) fun c5=> ?_
 refine aH ?_
 refine aJ ?_
 refine ag.ret ?_
 obtain rfl:=aG h
 exact ae.ha () (.cons _ (.refl _)) rfl rfl (gf rfl)
theorem Sb {aa:List aU} {hc:Option Nat} {eH:Nat} {r:(List aU)} (h:vP aa=some r):cG Tryz.prog 269 [I.eq (aZ hc aa.length eH)] [⟨hc,.row 52 (aa:List aU) eH⟩] (δ:=Unit) (fun d=>I.of (r)) (fun d=> [⟨hc,.row 52 (aa:List aU) eH⟩]):=by
 unfold vP at h
 refine cG.of Tryz.func269 rfl Tryz.ntmps269 rfl fun W A=> ?_
 refine aA ?_
 refine bh (eC (look_nil (α:=aU))) ?_
 refine bE ?_
 refine ak.own (α:=aU) 52 ?_
 refine bh (eC pI) ?_
 refine bx ?_
 refine aA ?_
 refine ax ?_
 refine bh (tT (i:=1) Tryz.underlying38 (ad rfl) rfl rfl) ?_
 refine ax ?_
 refine aJ ?_
 refine ag.block ?_
 obtain⟨ay,al,h⟩:=ar h
 refine eD (γ:=(Option Nat × Nat)) (δ:=(Option Nat × Nat)) al [0,2,6,7] (fun s1 au=> [(3,I.eq (aZ au.1 s1.2.length au.2)),(8,I.of (s1.1))]) (fun s1 au=> [(0,⟨au.1,.row 52 (s1.2:List aU) au.2⟩)]) (fun az=>Exit.exit 0) (fun az au=> [(3,I.eq (aZ au.1 az.2.2.length au.2)),(8,I.of (az.1)),(9,I.of (az.2.1))]) (fun az au=> [(0,⟨au.1,.row 52 (az.2.2:List aU) au.2⟩)]) (none,0) (fun s1 r h au=> ?_) fun au=> ?_
 ·clear al
  refine aA ?_
  refine a5 dd ?_
  refine bx ?_
  refine b0 h (fun h=>?_) fun h=>?_
  ·refine cn ?_
   refine ag.seq ?_
   refine ag.block ?_
   refine aA ?_
   obtain⟨aV,b4,h⟩:=ar h
   refine bh (mX (i:=1) (k:=aV) (xs:=(aa:List aU)) Tryz.underlying38 c9 (ad rfl) (ad rfl) rfl (bC b4)) ?_
   refine bh (wc (i:=1) (k:=aV) (aI.id aU) (r:=(aB aa aV)) c9 (ad rfl) rfl (bC b4).1 rfl rfl) ?_
   refine ch iI fun bf=> ?_
   refine bS 0 c9 ?_
   refine aJ ?_
   refine ag.b1 ?_
   refine ax ?_
   refine bY 0 c9 ?_
   obtain⟨aD,bp,h⟩:=ar h
   refine cH Hl (EP bp) ?_
   refine fQ [aD] Tryz.underlying38 c9 iI ?_
   obtain⟨aM,b9,h⟩:=ar h
   refine jv 1 Tryz.underlying38 c9 iI b9 fun gE e2=> ?_
   refine aH ?_
   refine ak.nil ?_
   refine ae.db ?_
   refine ae.next ?_
   refine ag.b1 ?_
   refine a5 cL ?_
   refine ax ?_
   refine ak.nil ?_
   obtain rfl:=aG h
   exact dO (gE,e2) 1
  ·refine ag.exit ?_
   refine ae.exit ?_
   obtain rfl:=aG h
   exact c6 (au.1,au.2) 0
 ·clear al
  refine ae.dD ?_
  refine ae.next ?_
  refine aA ?_
  refine ax ?_
  refine aH ?_
  refine aJ ?_
  refine ag.ret ?_
  refine ae.kF (α:=aU) 0 [2,3,18] ⟨rfl,rfl,rfl,trivial⟩ rfl ?_
  refine ae.cd 1 rfl ?_
  obtain rfl:=aG h
  exact k6 ()
theorem J2 {aa:a0} {ai:bL} {r:Int} (h:vK aa ai=some r):bn Tryz.prog 190 [I.of (aa),I.of (ai)] (I.of (r)):=by
 unfold vK at h
 refine bn.of Tryz.func190 rfl Tryz.ntmps190 rfl fun W A=> ?_
 refine aA ?_
 refine ca fun bf=> ?_
 refine ca fun bw=> ?_
 refine aH ?_
 refine bE ?_
 refine bY 1 eP ?_
 refine bY 0 ig ?_
 obtain⟨aD,bp,h⟩:=ar h
 refine cH Wd (RW bp) ?_
 refine ax ?_
 refine dG ?_
 refine dG ?_
 refine ch l3 fun cz=> ?_
 refine bS 0 fO ?_
 refine aH ?_
 refine bE ?_
 refine aY (a2 kl) ?_
 refine b5 0 iP jW ?_
 obtain⟨aM,b9,h⟩:=ar h
 refine bh (h1 No (Jz b9) ⟨ad rfl,Lk We (fun _ _=>Rc),trivial⟩) ?_
 refine aH ?_
 refine bx ?_
 refine aA ?_
 refine ax ?_
 refine aY iT ?_
 refine ax ?_
 refine eg cN ?_
 refine k7 dd ?_
 refine pb ?_
 refine ax ?_
 refine eg cN ?_
 refine eg (a2 kY) ?_
 refine eN (fun hb=>fb (i:=1) ((aI.id bL).comp kh) (r:=ai.cu) kI (ct rfl hb) rfl rfl rfl) ?_
 refine eg (er Tryz.underlying47) ?_
 refine k7 lZ ?_
 obtain⟨bN,dg,h⟩:=ar h
 refine dm dg (sF (ad rfl) (ad rfl) (fun h=>h)) ?_
 refine aJ ?_
 refine b0 h (fun h=>?_) fun h=>?_
 ·refine aA ?_
  refine aH ?_
  refine aJ ?_
  refine ag.ret ?_
  refine ae.ret ?_
  obtain rfl:=aG h
  exact c3
 ·refine cn ?_
  refine aA ?_
  refine aY (a2 kY) ?_
  refine b5 1 kh kI ?_
  refine ax ?_
  obtain⟨aV,b4,h⟩:=ar h
  refine fq b4 Tryz.underlying47 gF ?_
  refine uO rO y4 ?_
  refine aY (cK bM) ?_
  refine aH ?_
  refine aJ ?_
  refine ag.ret ?_
  obtain rfl:=aG h
  exact c3
theorem Sc {aa:cA} {ai:Int} {aR:Int} {r:aw} (h:yt aa ai aR=some r):bn Tryz.prog 147 [I.of (aa),I.of (ai),I.of (aR)] (I.of (r)):=by
 unfold yt at h
 refine bn.of Tryz.func147 rfl Tryz.ntmps147 rfl fun W A=> ?_
 refine aA ?_
 refine ca fun bf=> ?_
 refine ch dY fun bw=> ?_
 refine bx ?_
 refine ag.block ?_
 refine aA ?_
 refine aY (a2 MC) ?_
 refine b5 1 rN hR ?_
 refine aY iT ?_
 refine aH ?_
 refine aJ ?_
 refine b0 h (fun h=>?_) fun h=>?_
 ·refine aA ?_
  refine hH hv dY (default:aw) .nil ?_
  refine bS 0 bT ?_
  refine aJ ?_
  refine ag.ret ?_
  refine ae.dQ ?_
  refine ae.ret ?_
  obtain rfl:=aG h
  exact ae.gh rfl (dF 0 bT)
 ·refine aA ?_
  refine ax ?_
  refine a5 fW ?_
  refine aH ?_
  refine aJ ?_
  refine b0 h (fun h=>?_) fun h=>?_
  ·refine aA ?_
   refine ax ?_
   obtain⟨aD,bp,h⟩:=ar h
   refine cH C4 (BX bp) ?_
   refine bS 0 bT ?_
   refine aJ ?_
   refine ag.ret ?_
   refine ae.dQ ?_
   refine ae.ret ?_
   obtain rfl:=aG h
   exact ae.gh rfl (dF 0 bT)
  ·refine aA ?_
   refine ax ?_
   refine a5 fW ?_
   refine aH ?_
   refine aJ ?_
   refine b0 h (fun h=>?_) fun h=>?_
   ·refine aA ?_
    refine ax ?_
    refine aY (a2 y4) ?_
    refine b5 1 rO bM ?_
    obtain⟨aM,b9,h⟩:=ar h
    refine cH NB (JW b9) ?_
    refine bS 0 bT ?_
    refine aJ ?_
    refine ag.ret ?_
    refine ae.dQ ?_
    refine ae.ret ?_
    obtain rfl:=aG h
    exact ae.gh rfl (dF 0 bT)
   ·refine ag.skip ?_
    refine ae.db ?_
    refine ae.next ?_
    refine aA ?_
    refine aY (a2 MD) ?_
    refine b5 1 xT bT ?_
    refine bS 0 bT ?_
    refine aJ ?_
    refine ag.ret ?_
    obtain rfl:=aG h
    exact ae.gh rfl (dF 0 bT)
theorem yu {aa:a1} {ai:List a1} {r:(List a1)} (h:qq aa ai=some r):bn Tryz.prog 116 [I.of (aa),I.of (ai)] (I.of (r)):=by
 unfold qq at h
 refine bn.of Tryz.func116 rfl Tryz.ntmps116 rfl fun W A=> ?_
 refine aA ?_
 refine ca fun bf=> ?_
 refine bh (eC (look_nil (α:=a1))) ?_
 refine bE ?_
 refine ax ?_
 obtain⟨aD,bp,h⟩:=ar h
 refine eT 0 Wf (Qt bp) fun az=> ?_
 refine ak.share (α:=a1) 1 2 rfl rfl ?_
 refine bh (wm (F:=(fun fT=>vw fT aa)) (τs:= [I.ptr aa]) Wg ⟨ad rfl,trivial⟩ (fun _ _ h=>Ro h)) ?_
 refine ak.cd 0 rfl ?_
 obtain⟨aM,b9,h⟩:=ar h
 refine eT 1 Wh (Qm b9) fun ck=> ?_
 refine aH ?_
 refine aJ ?_
 refine ag.ret ?_
 obtain rfl:=aG h
 exact c3
theorem Q3 {aa:a1} {ai:a1} {r:Bool} (h:xU aa ai=some r):bn Tryz.prog 156 [I.of (aa),I.ptr ai] (I.of (r)):=by
 unfold xU at h
 refine bn.of Tryz.func156 rfl Tryz.ntmps156 rfl fun W A=> ?_
 refine aA ?_
 refine ca fun bf=> ?_
 refine aH ?_
 refine bE ?_
 refine aY (cK cY) ?_
 refine bY 0 cY ?_
 obtain⟨aD,bp,h⟩:=ar h
 refine cH Wi (RX bp) ?_
 refine aH ?_
 refine aJ ?_
 refine ag.ret ?_
 obtain rfl:=aG h
 exact c3
end Go.Proofs.YtmnggbjcnoffeaaGreat
namespace Go.Proofs.YtmnggbjcnoffeaaGreat
open Go Gv
set_option linter.unusedVariables false
set_option linter.unusedSimpArgs false
set_option maxRecDepth 100000
set_option maxHeartbeats 2000000
theorem RR {aa:a1} {ai:List a1} {r:(Vector aw 4) × (Vector aw 4)} (h:yh aa ai=some r):bn Tryz.prog 158 [I.of (aa),I.of (ai)] (I.eI [I.of (r.1),I.of (r.2)]):=by
 unfold yh at h
 refine bn.of Tryz.func158 rfl Tryz.ntmps158 rfl fun W A=> ?_
 refine aA ?_
 refine ca fun bf=> ?_
 refine ch iV fun bw=> ?_
 refine ch iV fun cz=> ?_
 refine bx ?_
 refine aA ?_
 refine ax ?_
 refine aY (er Tryz.underlying156) ?_
 refine ax ?_
 refine aJ ?_
 refine ag.block ?_
 obtain⟨ay,al,h⟩:=ar h
 refine eD (γ:=Unit) (δ:=Unit) al [0,1,2,4,5,11,12] (fun s1 au=> [(13,I.of (s1.1))]) (fun s1 au=> [(0,⟨some cz,.var (s1.2.1:Vector aw 4)⟩),(1,⟨some bw,.var (s1.2.2:Vector aw 4)⟩)]) (fun az=>Exit.exit 0) (fun az au=> [(13,I.of (az.1)),(14,I.of (az.2.1))]) (fun az au=> [(0,⟨some cz,.var (az.2.2.1:Vector aw 4)⟩),(1,⟨some bw,.var (az.2.2.2:Vector aw 4)⟩)]) () (fun s1 r h au=> ?_) fun au=> ?_
 ·clear al
  refine aA ?_
  refine a5 dd ?_
  refine bx ?_
  refine b0 h (fun h=>?_) fun h=>?_
  ·refine cn ?_
   refine ag.seq ?_
   refine ag.block ?_
   refine aA ?_
   obtain⟨aV,b4,h⟩:=ar h
   refine fq b4 Tryz.underlying156 cY ?_
   refine aY (cK cY) ?_
   refine ch hX fun ff=> ?_
   refine bS 0 cY ?_
   refine bE ?_
   refine aY (a2 mR) ?_
   refine b5 0 lz dR ?_
   refine ax ?_
   refine aJ ?_
   refine ag.block ?_
   obtain⟨aS,al,h⟩:=ar h
   refine eD (γ:=Unit) (δ:=Unit) al [0,1,2,4,5,7,11,12,13,14,18] (fun s2 aT=> [(19,I.of (s2.1))]) (fun s2 aT=> [(1,⟨some cz,.var (s2.2.1:Vector aw 4)⟩),(2,⟨some bw,.var (s2.2.2:Vector aw 4)⟩)]) (fun ck=>Exit.exit 2) (fun ck aT=> [(19,I.of (ck.1)),(20,I.of (ck.2.1))]) (fun ck aT=> [(1,⟨some cz,.var (ck.2.2.1:Vector aw 4)⟩),(2,⟨some bw,.var (ck.2.2.2:Vector aw 4)⟩)]) () (fun s2 r h aT=> ?_) fun aT=> ?_
   ·clear al
    refine aA ?_
    refine a5 dd ?_
    refine bx ?_
    refine b0 h (fun h=>?_) fun h=>?_
    ·refine cn ?_
     refine ag.seq ?_
     refine ag.block ?_
     refine aA ?_
     refine ax ?_
     obtain⟨bu,cD,h⟩:=ar h
     refine bh (FJ (k:=bu) Tryz.underlying45 bT (ad rfl) (ad rfl) (bC cD)) ?_
     refine ch dY fun nd=> ?_
     refine aH ?_
     refine bS 0 bT ?_
     refine bx ?_
     obtain⟨cb,eu,h⟩:=ar h
     obtain⟨aD,bp,h⟩:=ar h
     obtain⟨aM,b9,h⟩:=ar h
     refine ag.draw mixed 8 [some 23,some 24,some 25,some 26,some 27,some 28,some 29,some 10] [[],[],[],[1,2],[3],[4],[0,5],[]] [.val _,.val _,.val _,.val _,.val _,.val _,.val _,.new (.var (default:aw))] [false,false,false,false,false,false,false,false] (by kernel_rfl) rfl rfl rfl (fun c5=>⟨fz 0 bT,cw,H1 (a2 mR),df fun aC av=>dc (k:=cb) gq (ad rfl) (ad rfl) (bC eu),dN 4 (((aI.id a1).comp lz).comp (aI.idx (α:=aw) 4 cb (bC eu).1)) bT,fc NC (Kq bp),fc qV (qs b9),oS dY,trivial⟩) fun c5=> ?_
     refine bS 0 bT ?_
     refine bx ?_
     obtain⟨du,hx,h⟩:=ar h
     obtain⟨dA,ij,h⟩:=ar h
     obtain⟨a8,dP,h⟩:=ar h
     obtain⟨br,eW,h⟩:=ar h
     obtain⟨eM,ju,h⟩:=ar h
     refine ag.draw mixed 12 [some 30,some 31,some 32,some 33,some 34,some 35,some 36,some 37,some 38,some 39,some 40,some 41] [[],[],[1],[2],[],[],[],[5,6],[7],[4,8],[3,9],[0]] [.val _,.val _,.val _,.val _,.val _,.val _,.val _,.val _,.val _,.val _,.val _,.val _] [false,false,false,false,false,false,false,false,false,false,false,false] (by kernel_rfl) rfl rfl rfl (fun iz=>⟨cw,cw,df fun aC av=>dc (k:=du) gq (ad rfl) (ad rfl) (bC hx),dN 3 ((aI.id (Vector aw 4)).comp (aI.idx (α:=aw) 4 du (bC hx).1)) bT,fz 0 bT,cw,H1 (a2 oa),df fun aC av=>dc (k:=dA) gq (ad rfl) (ad rfl) (bC ij),dN 2 (((aI.id a1).comp mi).comp (aI.idx (α:=aw) 4 dA (bC ij).1)) bT,fc qV (qs dP),fc qW (qu eW),df fun aC av=>dc (k:=eM) gq (ad rfl) (ad rfl) (bC ju),trivial⟩) fun iz=> ?_
     refine jt 3 ((aI.id (Vector aw 4)).comp (aI.idx (α:=aw) 4 eM (bC ju).1)) bT ?_
     refine aJ ?_
     obtain⟨jy,nK,h⟩:=ar h
     obtain⟨jg,nL,h⟩:=ar h
     obtain⟨cj,gH,h⟩:=ar h
     obtain⟨cM,hh,h⟩:=ar h
     obtain⟨dv,kM,h⟩:=ar h
     obtain⟨mg,sU,h⟩:=ar h
     refine ag.draw mixed 13 [some 42,some 43,some 44,some 45,some 46,some 47,some 48,some 49,some 50,some 51,some 52,some 53,some 54] [[],[],[1],[2],[],[],[],[5,6],[7],[8],[4,9],[3,10],[0]] [.val _,.val _,.val _,.val _,.val _,.val _,.val _,.val _,.val _,.val _,.val _,.val _,.val _] [false,false,false,false,false,false,false,false,false,false,false,false,false] (by kernel_rfl) rfl rfl rfl (fun sT=>⟨cw,cw,df fun aC av=>dc (k:=jy) gq (ad rfl) (ad rfl) (bC nK),dN 4 ((aI.id (Vector aw 4)).comp (aI.idx (α:=aw) 4 jy (bC nK).1)) bT,fz 0 bT,cw,H1 (a2 oa),df fun aC av=>dc (k:=jg) gq (ad rfl) (ad rfl) (bC nL),dN 2 (((aI.id a1).comp mi).comp (aI.idx (α:=aw) 4 jg (bC nL).1)) bT,fc NC (Kq gH),fc qV (qs hh),fc qW (qu kM),df fun aC av=>dc (k:=mg) gq (ad rfl) (ad rfl) (bC sU),trivial⟩) fun sT=> ?_
     refine jt 4 ((aI.id (Vector aw 4)).comp (aI.idx (α:=aw) 4 mg (bC sU).1)) bT ?_
     refine ak.nil ?_
     refine ae.db ?_
     refine ae.next ?_
     refine ag.b1 ?_
     refine a5 cL ?_
     refine ax ?_
     refine ak.nil ?_
     obtain rfl:=aG h
     exact dO () 2
    ·refine ag.exit ?_
     refine ae.exit ?_
     obtain rfl:=aG h
     exact c6 () 0
   ·clear al
    refine ae.dD ?_
    refine ae.db ?_
    refine ae.next ?_
    refine ag.b1 ?_
    refine a5 cL ?_
    refine ax ?_
    refine ak.nil ?_
    obtain rfl:=aG h
    exact dO () 1
  ·refine ag.exit ?_
   refine ae.exit ?_
   obtain rfl:=aG h
   exact c6 () 0
 ·clear al
  refine ae.dD ?_
  refine ae.next ?_
  refine ag.seq ?_
  refine ag.draw mixed 3 [some 57,some 58,none] [[],[],[0]] [.val _,.val _,.jJ 1 (.var (ay.2.2.2:Vector aw 4))] [false,false,true] (by kernel_rfl) rfl rfl rfl (fun HO=>⟨fz 1 dR,fz 0 dR,⟨_,_,rfl,fun aC av=>oU (i:=1) (aI.id (Vector aw 4)) (v:=(ay.2.2.2:Vector aw 4)) (b':=(ay.2.2.2:Vector aw 4)) dR (ad rfl) (ad rfl) (av _ _ rfl) rfl rfl⟩,trivial⟩) fun HO=> ?_
  refine bS 0 dR ?_
  refine aJ ?_
  refine ag.ret ?_
  obtain rfl:=aG h
  exact ae.mr rfl (dF 1 dR) (dF 0 dR)
theorem Ry {aa:Vector aw 4} {ai:List a1} {r:Int} (h:x8 aa ai=some r):bn Tryz.prog 160 [I.of (aa),I.of (ai)] (I.of (r)):=by
 unfold x8 at h
 refine bn.of Tryz.func160 rfl Tryz.ntmps160 rfl fun W A=> ?_
 refine aA ?_
 refine ca fun bf=> ?_
 refine aH ?_
 refine bE ?_
 refine aH ?_
 refine aH ?_
 refine bx ?_
 refine aA ?_
 refine ax ?_
 refine aJ ?_
 refine ag.block ?_
 obtain⟨ay,al,h⟩:=ar h
 refine eD (γ:=Unit) (δ:=Unit) al [0,1,2,4] (fun s1 au=> [(5,I.of (s1.1)),(6,I.of (s1.2.1)),(11,I.of (s1.2.2))]) (fun s1 au=> []) (fun az=>Exit.exit 0) (fun az au=> [(5,I.of (az.1)),(6,I.of (az.2.1)),(11,I.of (az.2.2.1)),(12,I.of (az.2.2.2))]) (fun az au=> []) () (fun s1 r h au=> ?_) fun au=> ?_
 ·clear al
  refine aA ?_
  refine a5 dd ?_
  refine bx ?_
  refine b0 h (fun h=>?_) fun h=>?_
  ·refine cn ?_
   refine ag.seq ?_
   refine ag.block ?_
   refine aA ?_
   refine ax ?_
   refine aH ?_
   refine bx ?_
   refine aA ?_
   refine bY 0 dR ?_
   refine ax ?_
   obtain⟨aD,bp,h⟩:=ar h
   refine cH ND (Kr bp) ?_
   refine aY iT ?_
   refine aJ ?_
   refine b0 h (fun h=>?_) fun h=>?_
   ·refine ag.exit ?_
    refine ae.exit ?_
    refine ae.dD ?_
    refine ae.next ?_
    refine ag.b1 ?_
    refine a5 cL ?_
    refine ax ?_
    refine ak.nil ?_
    obtain rfl:=aG h
    exact dO () 0
   ·refine cn ?_
    refine aA ?_
    refine aH ?_
    refine bx ?_
    refine aA ?_
    refine ax ?_
    refine aY (er Tryz.underlying156) ?_
    refine ax ?_
    refine aJ ?_
    refine ag.block ?_
    obtain⟨aS,al,h⟩:=ar h
    refine eD (γ:=Unit) (δ:=Unit) al [0,1,2,4,5,6,7,11,12,17,18,19] (fun s2 aT=> [(8,I.of (s2.1)),(20,I.of (s2.2))]) (fun s2 aT=> []) (fun ck=>Exit.exit 2) (fun ck aT=> [(8,I.of (ck.1)),(20,I.of (ck.2.1)),(21,I.of (ck.2.2))]) (fun ck aT=> []) () (fun s2 r h aT=> ?_) fun aT=> ?_
    ·clear al
     refine aA ?_
     refine a5 dd ?_
     refine bx ?_
     refine b0 h (fun h=>?_) fun h=>?_
     ·refine cn ?_
      refine ag.seq ?_
      refine ag.block ?_
      refine aA ?_
      obtain⟨aV,b4,h⟩:=ar h
      refine fq b4 Tryz.underlying156 cY ?_
      refine aY (cK cY) ?_
      refine ch hX fun bw=> ?_
      refine bS 0 cY ?_
      refine bE ?_
      refine aY (a2 mR) ?_
      refine b5 0 lz dR ?_
      refine ax ?_
      obtain⟨aM,b9,h⟩:=ar h
      refine cH ND (Kr b9) ?_
      refine aJ ?_
      obtain⟨bJ,cB,h⟩:=ar h
      refine hQ (γ:=Unit) [0,1,2,4,5,6,7,10,11,12,17,18,19,20,21,27] (fun bq=> [(8,I.of (bJ))]) (fun bq=> []) (fun bq=> ?_) (fun hm ao=> ?_) fun hm ao=> ?_
      ·clear cB
       refine ae.db ?_
       refine ae.next ?_
       refine ag.b1 ?_
       refine a5 cL ?_
       refine ax ?_
       refine ak.nil ?_
       obtain rfl:=aG h
       exact dO () 1
      ·have h:=gK ao cB
       refine ag.b1 ?_
       refine ax ?_
       refine a5 cL ?_
       refine aH ?_
       refine ak.nil ?_
       obtain rfl:=aG h
       exact dj 0 (hm ())
      ·have h:=gL ao cB
       refine ag.skip ?_
       obtain rfl:=aG h
       exact dj 0 (hm ())
     ·refine ag.exit ?_
      refine ae.exit ?_
      obtain rfl:=aG h
      exact c6 () 0
    ·clear al
     refine ae.dD ?_
     refine ae.next ?_
     refine aA ?_
     refine ax ?_
     refine ax ?_
     refine a5 lY ?_
     refine aJ ?_
     obtain⟨cy,dE,h⟩:=ar h
     refine hQ (γ:=Unit) [0,1,2,4,7,8,11,12,17,18,19,20,21,33] (fun cx=> [(5,I.of (cy.1)),(6,I.of (cy.2))]) (fun cx=> []) (fun cx=> ?_) (fun hm ao=> ?_) fun hm ao=> ?_
     ·clear dE
      refine ae.db ?_
      refine ae.next ?_
      refine ag.b1 ?_
      refine a5 cL ?_
      refine ax ?_
      refine ak.nil ?_
      obtain rfl:=aG h
      exact dO () 0
     ·have h:=gK ao dE
      refine ag.b1 ?_
      refine ax ?_
      refine ax ?_
      refine aH ?_
      refine aH ?_
      refine ak.nil ?_
      obtain rfl:=aG h
      exact dj 0 (hm ())
     ·have h:=gL ao dE
      refine ag.skip ?_
      obtain rfl:=aG h
      exact dj 0 (hm ())
  ·refine ag.exit ?_
   refine ae.exit ?_
   obtain rfl:=aG h
   exact c6 () 0
 ·clear al
  refine ae.dD ?_
  refine ae.next ?_
  refine aA ?_
  refine ax ?_
  refine aH ?_
  refine aJ ?_
  refine ag.ret ?_
  obtain rfl:=aG h
  exact c3
end Go.Proofs.YtmnggbjcnoffeaaGreat
namespace Go.Proofs.YtmnggbjcnoffeaaGreat
open Go Gv
set_option linter.unusedVariables false
set_option linter.unusedSimpArgs false
set_option maxRecDepth 100000
set_option maxHeartbeats 2000000
theorem KW {aa:a0} {ai:bL} {r:a1 × Bool} (h:r7 aa ai=some r):bn Tryz.prog 114 [I.of (aa),I.of (ai)] (I.eI [I.of (r.1),I.of (r.2)]):=by
 unfold r7 at h
 refine bn.of Tryz.func114 rfl Tryz.ntmps114 rfl fun W A=> ?_
 refine aA ?_
 refine ca fun bf=> ?_
 refine ca fun bw=> ?_
 refine ch hX fun cz=> ?_
 refine aH ?_
 refine bE ?_
 refine bY 2 eP ?_
 refine aY (a2 tW) ?_
 refine b5 1 pC bM ?_
 obtain⟨aD,bp,h⟩:=ar h
 refine cH Dj (BS bp) ?_
 refine aH ?_
 refine bx ?_
 refine aA ?_
 refine ax ?_
 refine a5 dd ?_
 refine aJ ?_
 refine b0 h (fun h=>?_) fun h=>?_
 ·refine aA ?_
  refine hH wH hX (default:a1) .nil ?_
  refine bS 0 cY ?_
  refine aH ?_
  refine aJ ?_
  refine ag.ret ?_
  refine ae.ret ?_
  obtain rfl:=aG h
  exact ae.mr rfl (dF 0 cY) (fw rfl)
 ·refine cn ?_
  refine aA ?_
  refine ch hX fun ff=> ?_
  refine bx ?_
  refine aA ?_
  refine aY (a2 lE) ?_
  refine b5 3 ly k2 ?_
  refine ax ?_
  obtain⟨aV,b4,h⟩:=ar h
  refine fq b4 Tryz.underlying28 fO ?_
  refine uO iP kl ?_
  refine aY (cK jW) ?_
  refine aY (er Tryz.underlying62) ?_
  refine ax ?_
  refine aJ ?_
  refine ag.block ?_
  obtain⟨ay,al,h⟩:=ar h
  refine eD (γ:=Unit) (δ:=Unit) al [0,1,2,3,4,5,6,7,16,23,24] (fun s1 au=> [(25,I.of (s1.1))]) (fun s1 au=> [(0,⟨some ff,.var (s1.2:a1)⟩)]) (fun az=>Sum.elim (fun az=>Exit.exit 0) (fun az=>Exit.ret) az) (fun az au=>Sum.elim (fun az=> [(25,I.of (az.1)),(26,I.of (az.2.1))]) (fun az=> [(8,I.of (az.1)),(10,I.of (az.2.1)),(25,I.of (az.2.2.1)),(26,I.of (az.2.2.2.1)),(51,I.of (az.2.2.2.2.1))]) az) (fun az au=>Sum.elim (fun az=> [(0,⟨some ff,.var (az.2.2:a1)⟩)]) (fun az=> [(0,⟨some ff,.var (az.2.2.2.2.2:a1)⟩)]) az) () (fun s1 r h au=> ?_) fun au=> ?_
  ·clear al
   refine aA ?_
   refine a5 dd ?_
   refine bx ?_
   refine b0 h (fun h=>?_) fun h=>?_
   ·refine cn ?_
    refine ag.seq ?_
    refine ag.block ?_
    refine aA ?_
    refine ax ?_
    obtain⟨bu,cD,h⟩:=ar h
    refine fq cD Tryz.underlying62 hP ?_
    refine aY (cK hP) ?_
    refine ch iU fun nd=> ?_
    refine aH ?_
    refine bS 0 hP ?_
    refine bE ?_
    refine bY 4 eP ?_
    refine aY (a2 CG) ?_
    refine b5 0 nj bM ?_
    obtain⟨aM,b9,h⟩:=ar h
    refine cH Oy (JS b9) ?_
    refine aH ?_
    refine bx ?_
    refine aA ?_
    refine aY (a2 od) ?_
    refine b5 0 jR bM ?_
    refine a5 fW ?_
    refine ax ?_
    refine eg cN ?_
    refine k7 dd ?_
    obtain⟨bN,dg,h⟩:=ar h
    refine dm dg (sF (ad rfl) (ad rfl) (fun h=>h)) ?_
    refine ax ?_
    refine eg cN ?_
    refine eg (a2 kY) ?_
    refine eN (fun hb=>fb (i:=3) ((aI.id bL).comp kh) (r:=ai.cu) kI (ct rfl hb) rfl rfl rfl) ?_
    refine eg (er Tryz.underlying47) ?_
    refine k7 lZ ?_
    refine pb ?_
    refine ax ?_
    refine eg cN ?_
    refine k7 lZ ?_
    obtain⟨c7,gG,h⟩:=ar h
    refine dm gG (sF (ad rfl) (ad rfl) (fun h=>h)) ?_
    refine aJ ?_
    refine b0 h (fun h=>?_) fun h=>?_
    ·refine aA ?_
     refine hH wH hX (default:a1) .nil ?_
     refine bS 2 cY ?_
     refine aH ?_
     refine aJ ?_
     refine ag.ret ?_
     refine ae.ret ?_
     refine ae.dQ ?_
     refine ae.ret ?_
     obtain rfl:=aG h
     exact c6 () 1
    ·refine cn ?_
     refine ag.seq ?_
     obtain⟨cb,eu,h⟩:=ar h
     obtain⟨du,hx,h⟩:=ar h
     obtain⟨a8,dP,h⟩:=ar h
     obtain⟨dA,ij,h⟩:=ar h
     refine ag.draw mixed 17 ((some 53) :: (some 54) :: (some 55) :: (some 56) :: (some 57) :: (some 58) :: (some 59) :: (some 60) :: (some 61) :: (some 62) :: (some 63) :: (some 64) :: (some 65) :: (some 66) :: (some 67) :: (some 68) :: (some 69) :: []) ([] :: [] :: [1] :: [] :: [2,3] :: [4] :: [] :: [6] :: [] :: [8] :: [] :: [9,10] :: [11] :: [12] :: [5,7,13] :: [] :: [0,15] :: []) (.val _ :: .val _ :: .val _ :: .val _ :: .val _ :: .val _ :: .val _ :: .val _ :: .val _ :: .val _ :: .val _ :: .val _ :: .val _ :: .val _ :: .val _ :: .val _ :: .val _ :: []) (false :: false :: false :: false :: false :: false :: false :: false :: false :: false :: false :: false :: false :: false :: false :: false :: false :: []) (by kernel_rfl) rfl rfl rfl (fun c5=>⟨cw,H1 (a2 kY),dN 3 kh kI,cw,j0 eu Tryz.underlying47 gF,H1 (cK gF),H1 (a2 od),dN 0 jR bM,H1 (a2 tU),dN 4 tl sE,cw,j0 hx Tryz.underlying24 oj,m7 ni Cs,H1 (cK bM),fc Wj (Sc dP),H1 (a2 mR),df fun aC av=>dc (k:=dA) gq (ad rfl) (ad rfl) (bC ij),trivial⟩) fun c5=> ?_
     refine jt 1 (((aI.id a1).comp lz).comp (aI.idx (α:=aw) 4 dA (bC ij).1)) bT ?_
     refine aJ ?_
     obtain⟨eM,ju,h⟩:=ar h
     obtain⟨jy,nK,h⟩:=ar h
     obtain⟨br,eW,h⟩:=ar h
     obtain⟨jg,nL,h⟩:=ar h
     refine ag.draw mixed 14 [some 70,some 71,some 72,some 73,some 74,some 75,some 76,some 77,some 78,some 79,some 80,some 81,some 82,some 83] [[],[],[1],[],[2,3],[4],[5],[],[],[7,8],[9],[6,10],[],[0,12]] [.val _,.val _,.val _,.val _,.val _,.val _,.val _,.val _,.val _,.val _,.val _,.val _,.val _,.val _] [false,false,false,false,false,false,false,false,false,false,false,false,false,false] (by kernel_rfl) rfl rfl rfl (fun iz=>⟨cw,H1 (a2 kY),dN 3 kh kI,cw,j0 ju Tryz.underlying47 gF,m7 qk Gb,H1 (cK bT),cw,H1 (a2 mR),df fun aC av=>dc (k:=jy) gq (ad rfl) (ad rfl) (bC nK),dN 1 (((aI.id a1).comp lz).comp (aI.idx (α:=aw) 4 jy (bC nK).1)) bT,fc qV (qs eW),H1 (a2 oa),df fun aC av=>dc (k:=jg) gq (ad rfl) (ad rfl) (bC nL),trivial⟩) fun iz=> ?_
     obtain⟨fA,j1,h⟩:=ar h
     refine sP 1 (((aI.id a1).comp mi).comp (aI.idx (α:=aw) 4 jg (bC nL).1)) bT (hb:=by exact j1) ?_
     refine ak.nil ?_
     refine ae.db ?_
     refine ae.next ?_
     refine ag.b1 ?_
     refine a5 cL ?_
     refine ax ?_
     refine ak.nil ?_
     obtain rfl:=aG h
     exact dO () 1
   ·refine ag.exit ?_
    refine ae.exit ?_
    obtain rfl:=aG h
    exact c6 () 0
  ·clear al
   rcases ay with ay | ay
   ·simp only [Sum.elim_inl] at h
    refine ae.dD ?_
    refine ae.next ?_
    refine aA ?_
    refine bY 0 cY ?_
    refine bS 1 cY ?_
    refine aH ?_
    refine aJ ?_
    refine ag.ret ?_
    obtain rfl:=aG h
    exact ae.mr rfl (dF 1 cY) (fw rfl)
   ·simp only [Sum.elim_inr] at h
    refine ae.dQ ?_
    refine ae.ret ?_
    obtain rfl:=aG h
    exact ae.mr rfl (dF 1 cY) (fw rfl)
theorem Rq (n:Nat):∀ (aa:a1) (ai:List a1) (r:Bool),qo n aa ai=some r→bn Tryz.prog 117 [I.of (aa),I.of (ai)] (I.of (r)):=by
 induction n with
 | zero=>intro aa ai r h; simp [qo] at h
 | succ n bO=>
   intro aa ai r h
   simp only [qo] at h
   refine bn.of Tryz.func117 rfl Tryz.ntmps117 rfl fun W A=> ?_
   refine aA ?_
   refine ca fun bf=> ?_
   refine aH ?_
   refine bE ?_
   refine bY 0 cY ?_
   refine ax ?_
   obtain⟨aD,bp,h⟩:=ar h
   refine cH zq (yu bp) ?_
   refine aH ?_
   refine bx ?_
   refine aA ?_
   refine ax ?_
   refine ak.share (α:=a1) 0 2 rfl rfl ?_
   refine bh (wm (F:=(fun fT=>xU fT aa)) (τs:= [I.ptr aa]) Wk ⟨ad rfl,trivial⟩ (fun _ _ h=>Q3 h)) ?_
   obtain⟨aM,b9,h⟩:=ar h
   refine cH Wl (Qn b9) ?_
   refine aJ ?_
   refine b0 h (fun h=>?_) fun h=>?_
   ·refine aA ?_
    refine aH ?_
    refine aJ ?_
    refine ag.ret ?_
    refine ae.ret ?_
    obtain rfl:=aG h
    exact c3
   ·refine cn ?_
    refine ag.seq ?_
    refine aA ?_
    refine ax ?_
    refine aY (er Tryz.underlying156) ?_
    refine a5 fW ?_
    refine aJ ?_
    refine b0 h (fun h=>?_) fun h=>?_
    ·refine aA ?_
     refine aH ?_
     refine aJ ?_
     refine ag.ret ?_
     refine ae.ret ?_
     obtain rfl:=aG h
     exact c3
    ·refine cn ?_
     refine aA ?_
     refine aY (cK cY) ?_
     refine ax ?_
     obtain⟨a8,dP,h⟩:=ar h
     refine cH Wm (RR dP) ?_
     refine ax ?_
     refine dG ?_
     refine dG ?_
     refine ch iV fun bw=> ?_
     refine ch iV fun cz=> ?_
     refine bS 1 dR ?_
     refine bS 0 dR ?_
     refine bx ?_
     refine aA ?_
     refine aY (cK cY) ?_
     refine bY 1 dR ?_
     refine bY 0 dR ?_
     obtain⟨br,eW,h⟩:=ar h
     refine cH Wn (RQ eW) ?_
     refine ch hX fun ff=> ?_
     refine bS 0 cY ?_
     refine bE ?_
     refine bY 0 cY ?_
     refine aY (cK cY) ?_
     refine a5 (zn Gc rfl Gd rfl) ?_
     refine aJ ?_
     refine b0 h (fun h=>?_) fun h=>?_
     ·refine aA ?_
      refine bY 0 cY ?_
      refine ax ?_
      obtain⟨cj,gH,h⟩:=ar h
      refine cH wI (bO _ _ _ gH) ?_
      refine aH ?_
      refine aJ ?_
      refine ag.ret ?_
      refine ae.ret ?_
      obtain rfl:=aG h
      exact c3
     ·refine cn ?_
      refine aA ?_
      refine bY 2 dR ?_
      refine ax ?_
      obtain⟨cM,hh,h⟩:=ar h
      refine cH Wo (Ry hh) ?_
      refine aH ?_
      refine bE ?_
      refine aY (cK cY) ?_
      refine ax ?_
      obtain⟨dv,kM,h⟩:=ar h
      refine cH C7 (B6 kM) ?_
      refine ax ?_
      obtain⟨eU,k9,h⟩:=ar h
      refine cH wI (bO _ _ _ k9) ?_
      refine ax ?_
      refine eg (cK cY) ?_
      refine eg cN ?_
      obtain⟨fo,nJ,h⟩:=ar h
      refine eN (fun hb=>h1 C7 (B6 (fE nJ hb)) ⟨ct rfl hb,ct rfl hb,fN true,trivial⟩) ?_
      refine eg cN ?_
      obtain⟨gP,o5,h⟩:=ar h
      refine eN (fun hb=>h1 wI (bO _ _ _ (fE o5 hb)) ⟨ct rfl hb,ct rfl hb,trivial⟩) ?_
      refine j4 ?_
      refine aH ?_
      refine aJ ?_
      refine ag.ret ?_
      obtain rfl:=aG h
      exact c3
theorem ER {aa:a1} {ai:List a1} {r:Bool} (h:x9 aa ai=some r):bn Tryz.prog 117 [I.of (aa),I.of (ai)] (I.of (r)):=Rq da aa ai r h
end Go.Proofs.YtmnggbjcnoffeaaGreat
namespace Go.Proofs.YtmnggbjcnoffeaaGreat
open Go Gv
set_option linter.unusedVariables false
set_option linter.unusedSimpArgs false
set_option maxRecDepth 100000
set_option maxHeartbeats 2000000
theorem RZ {aa:List Int} {r:Int} (h:yn aa=some r):bn Tryz.prog 133 [I.of (aa)] (I.of (r)):=by
 unfold yn at h
 refine bn.of Tryz.func133 rfl Tryz.ntmps133 rfl fun W A=> ?_
 refine aA ?_
 refine aH ?_
 refine bx ?_
 refine aA ?_
 refine ax ?_
 refine aY (er Tryz.underlying63) ?_
 refine ax ?_
 refine aJ ?_
 refine ag.block ?_
 obtain⟨ay,al,h⟩:=ar h
 refine eD (γ:=Unit) (δ:=Unit) al [0,5,6] (fun s1 au=> [(2,I.of (0:Int)),(7,I.of (s1))]) (fun s1 au=> []) (fun az=>Sum.elim (fun az=>Exit.exit 0) (fun az=>Exit.ret) az) (fun az au=>Sum.elim (fun az=> [(2,I.of (0:Int)),(7,I.of (az.1)),(8,I.of (az.2))]) (fun az=> [(2,I.of (az.1)),(4,I.of (az.2.1)),(7,I.of (az.2.2.1)),(8,I.of (az.2.2.2.1)),(12,I.of (az.2.2.2.2))]) az) (fun az au=>Sum.elim (fun az=> []) (fun az=> []) az) () (fun s1 r h au=> ?_) fun au=> ?_
 ·clear al
  refine aA ?_
  refine a5 dd ?_
  refine bx ?_
  refine b0 h (fun h=>?_) fun h=>?_
  ·refine cn ?_
   refine ag.seq ?_
   refine ag.block ?_
   refine aA ?_
   obtain⟨aV,b4,h⟩:=ar h
   refine fq b4 Tryz.underlying63 bM ?_
   refine aY (cK bM) ?_
   refine aH ?_
   refine bE ?_
   refine ax ?_
   refine a5 mY ?_
   refine aJ ?_
   refine b0 h (fun h=>?_) fun h=>?_
   ·refine aA ?_
    refine ax ?_
    refine aH ?_
    refine aJ ?_
    refine ag.ret ?_
    refine ae.dQ ?_
    refine ae.ret ?_
    obtain rfl:=aG h
    exact c6 () 0
   ·refine ag.skip ?_
    refine ae.db ?_
    refine ae.next ?_
    refine ag.b1 ?_
    refine a5 cL ?_
    refine ax ?_
    refine ak.nil ?_
    obtain rfl:=aG h
    exact dO () 0
  ·refine ag.exit ?_
   refine ae.exit ?_
   obtain rfl:=aG h
   exact c6 () 0
 ·clear al
  rcases ay with ay | ay
  ·simp only [Sum.elim_inl] at h
   refine ae.dD ?_
   refine ae.next ?_
   refine aA ?_
   refine aH ?_
   refine aJ ?_
   refine ag.ret ?_
   obtain rfl:=aG h
   exact c3
  ·simp only [Sum.elim_inr] at h
   refine ae.dQ ?_
   refine ae.ret ?_
   obtain rfl:=aG h
   exact c3
end Go.Proofs.YtmnggbjcnoffeaaGreat
namespace Go.Proofs.YtmnggbjcnoffeaaGreat
open Go Gv
set_option linter.unusedVariables false
set_option linter.unusedSimpArgs false
set_option maxRecDepth 100000
set_option maxHeartbeats 2000000
theorem JP {hp:bg Cell} {aa:Ref} {ai:aw} {aR:Int} {r:Ref} (h:vx hp aa ai aR=some r):cG Tryz.prog 247 [I.of (aa),I.of (ai),I.of (aR)] ([] ++ bz hp) (δ:=Unit) (fun _=>I.of (r)) (fun _=> [] ++ bz hp):=by
 unfold vx at h
 refine cG.ofM Tryz.func247 rfl Tryz.ntmps247 rfl fun W A=> ?_
 refine aA ?_
 refine ca fun bf=> ?_
 refine ch GV fun bw=> ?_
 refine bx ?_
 refine aA ?_
 refine ax ?_
 refine bY 1 bT ?_
 refine ax ?_
 obtain⟨aD,bp,h⟩:=ar h
 refine ak.qd (jx.sv 2 rfl NF (JJ bp) ⟨ad rfl,ad rfl,ad rfl,trivial⟩) rfl rfl rfl ?_
 refine aY iT ?_
 refine aJ ?_
 refine b0 h (fun h=>?_) fun h=>?_
 ·refine aA ?_
  refine ak.store (i:=0) (aI.id Ref) (v:=((none:Ref):Ref)) (b':=((none:Ref):Ref)) fX (ad rfl) (r2) rfl rfl rfl ?_
  refine aJ ?_
  refine ag.ret ?_
  refine ae.ret ?_
  obtain rfl:=aG h
  refine ae.zM ?_
  exact ae.ha () (.cons _ (.cons _ (.refl _))) rfl rfl (om (i:=0) fX rfl rfl)
 ·refine cn ?_
  refine aA ?_
  refine ax ?_
  obtain⟨dT,fY,h⟩:=ar h
  refine bh (fV (ht (ad rfl) fY)) ?_
  refine aY (a2 Cv) ?_
  obtain⟨cZ,hz,h⟩:=ar h
  refine bh (kk ((aI.id gA).comp BF) (r:=cZ.dr) fX (ad rfl) (iH (n:=2) rfl (qK hz) rfl) rfl rfl) ?_
  refine ch GV fun cz=> ?_
  refine bS 0 fX ?_
  refine bx ?_
  refine aA ?_
  refine ax ?_
  refine bY 2 bT ?_
  refine ax ?_
  obtain⟨aM,b9,h⟩:=ar h
  refine cH NG (JO b9) ?_
  refine aJ ?_
  refine ag.block ?_
  obtain⟨ay,al,h⟩:=ar h
  refine SW (hp:=hp) (γ:=Unit) (g0:=()) (Ls:=fun s1 au=>(⟨some cz,.var (s1:Ref)⟩ :: ⟨some bw,.var ((default:Ref):Ref)⟩ :: ⟨some bf,.var (ai:aw)⟩ :: bz hp)) (Lx:=fun az au=>(⟨some cz,.var (az.1:Ref)⟩ :: ⟨some bw,.var (az.2:Ref)⟩ :: ⟨some bf,.var (ai:aw)⟩ :: bz hp)) (fun s1 au=> [⟨some cz,.var (s1:Ref)⟩,⟨some bw,.var ((default:Ref):Ref)⟩,⟨some bf,.var (ai:aw)⟩]) (fun az=> .ret) rfl NH rfl QK al (fun _ _=>rfl) rfl rfl (fun w4 s1 r h au ld lu lf l D rec z5=> ?_) (fun s1 aQ au D=> ?_) (fun az aQ au D=> ?_)
  ·clear al
   refine ag.b1 ?_
   refine aH ?_
   refine ak.nil ?_
   refine ae.begin 0 rfl z5 ?_
   refine ag.block ?_
   refine ag.seq ?_
   refine aA ?_
   refine bY 2 fX ?_
   refine bh (sa Tryz.underlying331 (ad rfl)) ?_
   refine aJ ?_
   refine b0 h (fun h=>?_) fun h=>?_
   ·refine aA ?_
    refine ak.store (i:=3) (aI.id Ref) (v:=((none:Ref):Ref)) (b':=((none:Ref):Ref)) fX (ad rfl) (r2) rfl rfl rfl ?_
    refine aJ ?_
    refine ag.ret ?_
    refine ae.ret ?_
    refine ae.dQ ?_
    obtain rfl:=aG h
    exact ae.U4 () 0 rfl rfl rfl
   ·refine cn ?_
    refine ag.b1 ?_
    refine bY 2 fX ?_
    refine ax ?_
    obtain⟨cT,hI,h⟩:=ar h
    refine bh (fV (ht (ad rfl) hI)) ?_
    refine aY (a2 Cw) ?_
    obtain⟨aV,b4,h⟩:=ar h
    refine bh (dc (k:=aV) C8 (ad rfl) (ad rfl) (bC b4)) ?_
    obtain⟨dX,iZ,h⟩:=ar h
    refine bh (kk (((aI.id eX).comp Bk).comp (aI.idx (α:=Ref) 2 aV (bC b4).1)) (r:=bd dX.fu aV) fX (ad rfl) (iH (n:=5) rfl (nt iZ) rfl) rfl rfl) ?_
    refine bS 2 fX ?_
    refine ak.nil ?_
    refine ae.db ?_
    obtain rfl:=aG h
    exact ae.O7 () 0 rfl
  ·clear al; subst aQ; simp only [Sum.elim_inl] at h
   refine ae.gu (L2:=(⟨some D,.dI⟩ :: ⟨some cz,.var (s1:Ref)⟩ :: ⟨some bw,.var ((default:Ref):Ref)⟩ :: ⟨some bf,.var (ai:aw)⟩ :: bz hp)) rfl ?_
   refine ae.db ?_
   refine ae.next ?_
   refine aA ?_
   refine bY 1 fX ?_
   refine bS 2 fX ?_
   refine aJ ?_
   refine ag.ret ?_
   obtain rfl:=aG h
   refine ae.Dl 0 rfl rfl ?_
   exact ae.ha () (.cons _ (.cons _ (.cons _ (.cons _ (.refl _))))) rfl rfl (om (i:=2) fX rfl rfl)
  ·clear al; subst aQ; simp only [Sum.elim_inr] at h
   refine ag.ret ?_
   refine ae.gu (L2:=(⟨some D,.dI⟩ :: ⟨some cz,.var (az.1:Ref)⟩ :: ⟨some bw,.var (az.2:Ref)⟩ :: ⟨some bf,.var (ai:aw)⟩ :: bz hp)) rfl ?_
   refine ae.dQ ?_
   refine ae.ret ?_
   obtain rfl:=aG h
   refine ae.Dl 0 rfl rfl ?_
   exact ae.ha () (.cons _ (.cons _ (.cons _ (.cons _ (.refl _))))) rfl rfl (om (i:=2) fX rfl rfl)
theorem QC {aa:dM} {cO:Nat} {pJ:Option Nat} {pK:Nat} {r:(List aU)} (h:xA aa=some r):cG Tryz.prog 264 [I.eq (.pointer (some ⟨cO,0,none⟩))] [⟨some cO,.cC (({ aa with ef:= [] } :dM):dM) [(10,aZ pJ aa.ef.length pK)]⟩,⟨pJ,.row 52 (aa.ef:List aU) pK⟩] (δ:=Unit) (fun d=>I.of (r)) (fun d=> [⟨some cO,.cC (({ aa with ef:= [] } :dM):dM) [(10,aZ pJ (aa.ef).length pK)]⟩,⟨pJ,.row 52 (aa.ef:List aU) pK⟩]):=by
 unfold xA at h
 refine cG.of Tryz.func264 rfl Tryz.ntmps264 rfl fun W A=> ?_
 refine aA ?_
 refine bh (eC (look_nil (α:=aU))) ?_
 refine bx ?_
 refine aA ?_
 refine ax ?_
 refine bh (ME Tryz.underlying170 (ad rfl)) ?_
 refine aJ ?_
 refine ag.wG (ad rfl) rfl ?_
 refine cn ?_
 refine aA ?_
 refine ax ?_
 refine aY fV ?_
 refine aY (a2 yS) ?_
 refine bh (iR (i:=0) (q:=0) (β:=dM) (γ:=aU) uC (ad rfl) rfl rfl) ?_
 obtain⟨aD,bp,h⟩:=ar h
 refine ak.qd (jx.call [1] Wp (Sb bp) ⟨ad rfl,trivial⟩ rfl ⟨rfl,trivial⟩ rfl) rfl rfl rfl ?_
 refine aH ?_
 refine aJ ?_
 refine ag.ret ?_
 refine ae.cd 1 rfl ?_
 refine ae.cd 1 rfl ?_
 obtain rfl:=aG h
 exact k6 ()
theorem ET {aa:a0} {ai:aU} {aR:aU} {r:Bool} (h:tu aa ai aR=some r):bn Tryz.prog 150 [I.of (aa),I.of (ai),I.of (aR)] (I.of (r)):=by
 unfold tu at h
 refine bn.of Tryz.func150 rfl Tryz.ntmps150 rfl fun W A=> ?_
 refine aA ?_
 refine ca fun bf=> ?_
 refine ca fun bw=> ?_
 refine ca fun cz=> ?_
 refine aH ?_
 refine bx ?_
 obtain⟨aD,bp,h⟩:=ar h
 obtain⟨aM,b9,h⟩:=ar h
 obtain⟨a8,dP,h⟩:=ar h
 obtain⟨br,eW,h⟩:=ar h
 obtain⟨cj,gH,h⟩:=ar h
 obtain⟨cM,hh,h⟩:=ar h
 refine ag.draw mixed 24 ((some 7) :: (some 8) :: (some 9) :: (some 10) :: (some 11) :: (some 12) :: (some 13) :: (some 14) :: (some 15) :: (some 16) :: (some 17) :: (some 18) :: (some 19) :: (some 20) :: (some 21) :: (some 22) :: (some 23) :: (some 24) :: (some 25) :: (some 26) :: (some 27) :: (some 28) :: (some 29) :: (some 30) :: []) ([] :: [0] :: [1] :: [] :: [3] :: [4] :: [2,5] :: [] :: [] :: [8] :: [7,9] :: [] :: [] :: [12] :: [11,13] :: [10,14] :: [] :: [16] :: [] :: [18] :: [17,19] :: [6,15,20] :: [21] :: [22] :: []) (.val _ :: .val _ :: .val _ :: .val _ :: .val _ :: .val _ :: .val _ :: .val _ :: .val _ :: .val _ :: .val _ :: .val _ :: .val _ :: .val _ :: .val _ :: .val _ :: .val _ :: .val _ :: .val _ :: .val _ :: .val _ :: .val _ :: .val _ :: .val _ :: []) (false :: false :: false :: false :: false :: false :: false :: false :: false :: false :: false :: false :: false :: false :: false :: false :: false :: false :: false :: false :: false :: false :: false :: false :: []) (by kernel_rfl) rfl rfl rfl (fun c5=>⟨H1 (a2 jT),H1 (a2 qJ),dN 1 (iO.comp oM) bM,H1 (a2 jT),H1 (a2 qJ),dN 0 (iO.comp oM) bM,fc Dk (BP bp),fz 2 eP,H1 (a2 jT),dN 1 iO ig,fc NI (J2 b9),fz 2 eP,H1 (a2 jT),dN 0 iO ig,fc NI (J2 dP),fc Dk (BP eW),H1 (a2 km),dN 1 ji bM,H1 (a2 km),dN 0 ji bM,fc Dk (BP gH),df fun aC av=>jU (r:= [aD,br,cj]) Tryz.underlying63 bM h3 rfl rfl (.cons (by simp) (ad rfl) (.cons (by simp) (ad rfl) (.cons (by simp) (ad rfl) (.nil)))),fc Wq (RZ hh),lq lY,trivial⟩) fun c5=> ?_
 refine aH ?_
 refine aJ ?_
 refine ag.ret ?_
 obtain rfl:=aG h
 exact c3
end Go.Proofs.YtmnggbjcnoffeaaGreat
namespace Go.Proofs.YtmnggbjcnoffeaaGreat
open Go Gv
set_option linter.unusedVariables false
set_option linter.unusedSimpArgs false
set_option maxRecDepth 100000
set_option maxHeartbeats 2000000
theorem Rz {aa:Vector (BitVec 8) 512} {ai:List (Vector (BitVec 8) 512)} {r:(Vector aw 4) × Bool × Int} (h:ya aa ai=some r):bn Tryz.prog 95 [I.of (aa),I.of (ai)] (I.eI [I.of (r.1),I.of (r.2.1),I.of (r.2.2)]):=by
 unfold ya at h
 refine bn.of Tryz.func95 rfl Tryz.ntmps95 rfl fun W A=> ?_
 refine aA ?_
 refine ca fun bf=> ?_
 refine ch iV fun bw=> ?_
 refine aH ?_
 refine aH ?_
 refine bE ?_
 refine bY 1 ej ?_
 refine ax ?_
 obtain⟨aD,bp,h⟩:=ar h
 refine cH Oz (JV bp) ?_
 refine ax ?_
 refine dG ?_
 refine dG ?_
 refine aH ?_
 refine aH ?_
 refine bx ?_
 refine aA ?_
 refine ax ?_
 refine a5 mY ?_
 refine ax ?_
 refine eg cN ?_
 refine pb ?_
 refine aJ ?_
 refine b0 h (fun h=>?_) fun h=>?_
 ·refine aA ?_
  refine bh (oQ (b:=(default:Vector aw 4)) (sz:=2) rfl Tryz.underlying45 (by kernel_rfl) iV (.nil)) ?_
  refine ax ?_
  refine bS 0 dR ?_
  refine aH ?_
  refine aH ?_
  refine aJ ?_
  refine ag.ret ?_
  refine ae.ret ?_
  obtain rfl:=aG h
  exact ae.l5 rfl (dF 0 dR) (fw rfl) (fw rfl)
 ·refine cn ?_
  refine aA ?_
  refine bY 1 ej ?_
  refine ax ?_
  obtain⟨aM,b9,h⟩:=ar h
  refine cH GR (EV b9) ?_
  refine aH ?_
  refine bx ?_
  refine aA ?_
  refine ax ?_
  refine aJ ?_
  refine ag.block ?_
  obtain⟨ay,al,h⟩:=ar h
  refine eD (γ:=Unit) (δ:=Unit) al [0,1,2,4,5,6,7,8,23] (fun s1 au=> [(29,I.of (s1.1))]) (fun s1 au=> [(1,⟨some bf,.var (s1.2:Vector (BitVec 8) 512)⟩)]) (fun az=>Exit.exit 0) (fun az au=> [(29,I.of (az.1)),(30,I.of (az.2.1))]) (fun az au=> [(1,⟨some bf,.var (az.2.2:Vector (BitVec 8) 512)⟩)]) () (fun s1 r h au=> ?_) fun au=> ?_
  ·clear al
   refine aA ?_
   refine a5 dd ?_
   refine bx ?_
   refine b0 h (fun h=>?_) fun h=>?_
   ·refine cn ?_
    refine ag.seq ?_
    refine ag.block ?_
    refine aA ?_
    refine ax ?_
    refine aH ?_
    refine bx ?_
    refine aA ?_
    refine ax ?_
    obtain⟨aV,b4,h⟩:=ar h
    refine bh (dc (k:=aV) jE (ad rfl) (ad rfl) (bC b4)) ?_
    refine b5 1 ((aI.id (Vector (BitVec 8) 512)).comp (aI.idx (α:=BitVec 8) 512 aV (bC b4).1)) iy ?_
    refine bh (tS (ad rfl) (nn 2 rfl)) ?_
    refine aJ ?_
    refine b0 h (fun h=>?_) fun h=>?_
    ·refine ag.exit ?_
     refine ae.exit ?_
     refine ae.dD ?_
     refine ae.next ?_
     refine ag.b1 ?_
     refine a5 cL ?_
     refine ax ?_
     refine ak.nil ?_
     obtain rfl:=aG h
     exact dO () 0
    ·refine cn ?_
     refine aA ?_
     refine ax ?_
     obtain⟨bu,cD,h⟩:=ar h
     refine bh (dc (k:=bu) jE (ad rfl) (ad rfl) (bC cD)) ?_
     refine ak.store (i:=1) ((aI.id (Vector (BitVec 8) 512)).comp (aI.idx (α:=BitVec 8) 512 bu (bC cD).1)) (v:=(0#8:BitVec 8)) (b':=(cq s1.2 bu (0#8):Vector (BitVec 8) 512)) iy (ad rfl) (nn 0 rfl) rfl rfl rfl ?_
     refine bE ?_
     refine aH ?_
     refine bx ?_
     refine aA ?_
     refine ax ?_
     refine aY (er Tryz.underlying182) ?_
     refine ax ?_
     refine aJ ?_
     refine ag.block ?_
     obtain⟨aS,al,h⟩:=ar h
     refine eD (γ:=Unit) (δ:=Unit) al [0,1,2,4,5,6,7,8,9,23,29,30,35,38,39] (fun s2 aT=> [(10,I.of (s2.1)),(40,I.of (s2.2))]) (fun s2 aT=> []) (fun ck=>Exit.exit 2) (fun ck aT=> [(10,I.of (ck.1)),(40,I.of (ck.2.1)),(41,I.of (ck.2.2))]) (fun ck aT=> []) () (fun s2 r h aT=> ?_) fun aT=> ?_
     ·clear al
      refine aA ?_
      refine a5 dd ?_
      refine bx ?_
      refine b0 h (fun h=>?_) fun h=>?_
      ·refine cn ?_
       refine ag.seq ?_
       refine ag.block ?_
       refine aA ?_
       obtain⟨cb,eu,h⟩:=ar h
       refine fq eu Tryz.underlying182 ej ?_
       refine aY (cK ej) ?_
       refine ch iS fun cz=> ?_
       refine bS 0 ej ?_
       refine aJ ?_
       refine ag.b1 ?_
       refine ax ?_
       refine ax ?_
       refine eg cN ?_
       obtain⟨du,hx,h⟩:=ar h
       refine eN (fun hb=>dc (k:=du) jE (ad rfl) (ct rfl hb) (bC (fE hx hb))) ?_
       refine eN (fun hb=>fb (i:=0) ((aI.id (Vector (BitVec 8) 512)).comp (aI.idx (α:=BitVec 8) 512 du (bC (fE hx hb)).1)) (r:=bd (aB aM cb) du) iy (ct rfl hb) rfl rfl rfl) ?_
       refine eN (fun hb=>tS (ct rfl hb) (nn 2 rfl)) ?_
       refine pb ?_
       refine aH ?_
       refine ak.nil ?_
       refine ae.db ?_
       refine ae.next ?_
       refine ag.b1 ?_
       refine a5 cL ?_
       refine ax ?_
       refine ak.nil ?_
       obtain rfl:=aG h
       exact dO () 1
      ·refine ag.exit ?_
       refine ae.exit ?_
       obtain rfl:=aG h
       exact c6 () 0
     ·clear al
      refine ae.dD ?_
      refine ae.next ?_
      refine aA ?_
      refine ax ?_
      refine ax ?_
      refine eN (fun hb=>fb (i:=1) (aI.id (Vector (BitVec 8) 512)) (r:=(cq s1.2 bu (0#8))) ej (ad rfl) rfl rfl rfl) ?_
      refine eg cN ?_
      obtain⟨a8,dP,h⟩:=ar h
      refine eN (fun hb=>h1 C6 (JU (fE dP hb)) ⟨ct rfl hb,ct rfl hb,trivial⟩) ?_
      refine j4 ?_
      refine aJ ?_
      obtain⟨bJ,cB,h⟩:=ar h
      refine hQ (γ:=Unit) [0,1,2,4,5,6,7,8,9,10,23,29,30,35,38,39,40,41,57] (fun bq=> []) (fun bq=> [(1,⟨some bf,.var (bJ:Vector (BitVec 8) 512)⟩)]) (fun bq=> ?_) (fun hm ao=> ?_) fun hm ao=> ?_
      ·clear cB
       refine ae.db ?_
       refine ae.next ?_
       refine ag.b1 ?_
       refine a5 cL ?_
       refine ax ?_
       refine ak.nil ?_
       obtain rfl:=aG h
       exact dO () 0
      ·have h:=gK ao cB
       refine ag.b1 ?_
       refine ax ?_
       obtain⟨dA,ij,h⟩:=ar h
       refine bh (dc (k:=dA) jE (ad rfl) (ad rfl) (bC ij)) ?_
       refine ak.store (i:=1) ((aI.id (Vector (BitVec 8) 512)).comp (aI.idx (α:=BitVec 8) 512 dA (bC ij).1)) (v:=(1#8:BitVec 8)) (b':=(cq (cq s1.2 bu (0#8)) dA (1#8):Vector (BitVec 8) 512)) iy (ad rfl) (nn 1 rfl) rfl rfl rfl ?_
       refine ak.nil ?_
       obtain rfl:=aG h
       exact dj 0 (hm ())
      ·have h:=gL ao cB
       refine ag.skip ?_
       obtain rfl:=aG h
       exact dj 0 (hm ())
   ·refine ag.exit ?_
    refine ae.exit ?_
    obtain rfl:=aG h
    exact c6 () 0
  ·clear al
   refine ae.dD ?_
   refine ae.next ?_
   refine aA ?_
   refine bY 1 ej ?_
   obtain⟨br,eW,h⟩:=ar h
   refine cH Wr (RV eW) ?_
   refine bS 0 dR ?_
   refine aH ?_
   refine aH ?_
   refine aJ ?_
   refine ag.ret ?_
   obtain rfl:=aG h
   exact ae.l5 rfl (dF 0 dR) (fw rfl) (fw rfl)
theorem RA {hp:bg Cell} {aa:Ref} {ai:aw} {aR:Int} {r:Int × Bool} (h:vC hp aa ai aR=some r):cG Tryz.prog 240 [I.of (aa),I.of (ai),I.of (aR)] ([] ++ bz hp) (δ:=Unit) (fun _=>I.eI [I.of (r.1),I.of (r.2)]) (fun _=> [] ++ bz hp):=by
 unfold vC at h
 refine cG.of Tryz.func240 rfl Tryz.ntmps240 rfl fun W A=> ?_
 refine aA ?_
 refine ca fun bf=> ?_
 refine aH ?_
 refine aH ?_
 refine bE ?_
 refine ax ?_
 refine bY 0 bT ?_
 refine ax ?_
 obtain⟨aD,bp,h⟩:=ar h
 refine ak.qd (jx.sv 1 rfl NJ (JP bp) ⟨ad rfl,ad rfl,ad rfl,trivial⟩) rfl rfl rfl ?_
 refine aH ?_
 refine bx ?_
 refine aA ?_
 refine ax ?_
 refine bh (sa Tryz.underlying331 (ad rfl)) ?_
 refine ax ?_
 refine eg cN ?_
 obtain⟨dT,fY,h⟩:=ar h
 refine eN (fun hb=>fV (ht (ct rfl hb) (fE fY hb))) ?_
 refine eg (a2 we) ?_
 obtain⟨cZ,hz,h⟩:=ar h
 refine eN (fun hb=>kk ((aI.id eX).comp vt) (r:=cZ.fv) hR (ct rfl hb) (iH (n:=1) rfl (nt (fE hz hb)) rfl) rfl rfl) ?_
 refine eg iT ?_
 refine pb ?_
 refine aJ ?_
 refine b0 h (fun h=>?_) fun h=>?_
 ·refine aA ?_
  refine aH ?_
  refine aH ?_
  refine aJ ?_
  refine ag.ret ?_
  refine ae.ret ?_
  obtain rfl:=aG h
  exact ae.qU () (.cons _ (.refl _)) rfl rfl (gf rfl) (gf rfl)
 ·refine cn ?_
  refine aA ?_
  refine ax ?_
  obtain⟨cT,hI,h⟩:=ar h
  refine bh (fV (ht (ad rfl) hI)) ?_
  refine aY (a2 LY) ?_
  obtain⟨dX,iZ,h⟩:=ar h
  refine bh (kk ((aI.id eX).comp JK) (r:=dX.nA) bM (ad rfl) (iH (n:=1) rfl (nt iZ) rfl) rfl rfl) ?_
  refine aH ?_
  refine aH ?_
  refine aJ ?_
  refine ag.ret ?_
  obtain rfl:=aG h
  exact ae.qU () (.cons _ (.refl _)) rfl rfl (gf rfl) (gf rfl)
end Go.Proofs.YtmnggbjcnoffeaaGreat
namespace Go.Proofs.YtmnggbjcnoffeaaGreat
open Go Gv
set_option linter.unusedVariables false
set_option linter.unusedSimpArgs false
set_option maxRecDepth 100000
set_option maxHeartbeats 2000000
theorem Q4 {hp:bg Cell} {aa:ki} {ai:bL} {r:Int × Bool} (h:xV hp aa ai=some r):cG Tryz.prog 260 [I.of (aa),I.of (ai)] ([] ++ bz hp) (δ:=Unit) (fun _=>I.eI [I.of (r.1),I.of (r.2)]) (fun _=> [] ++ bz hp):=by
 unfold xV at h
 refine cG.of Tryz.func260 rfl Tryz.ntmps260 rfl fun W A=> ?_
 refine aA ?_
 refine ca fun bf=> ?_
 refine ca fun bw=> ?_
 refine aH ?_
 refine aH ?_
 refine bx ?_
 refine aA ?_
 refine aY (a2 LZ) ?_
 refine b5 1 EH GW ?_
 obtain⟨dT,fY,h⟩:=ar h
 obtain⟨cZ,hz,h⟩:=ar h
 obtain⟨aD,bp,h⟩:=ar h
 refine ak.qd (jx.obj 2 rfl (y7 hz) Ws (QC bp) rfl ⟨ht (ad rfl) fY,trivial⟩) rfl rfl rfl ?_
 refine aY (er Tryz.underlying38) ?_
 refine ax ?_
 refine aJ ?_
 refine ag.block ?_
 obtain⟨ay,al,h⟩:=ar h
 refine ag.zp (σ:=Int) (ε:=(Int × Bool) ⊕ (Int × Bool × Int × Bool × Bool)) (γ:=Unit) (δ:=Unit) al (fun s1 au=> [(0,I.of (aa)),(1,I.of (ai)),(2,I.eq (.pointer (some ⟨bf,0,none⟩))),(3,I.eq (.pointer (some ⟨bw,0,none⟩))),(4,I.of (0:Int)),(5,I.of (false)),(10,I.of (aD)),(11,I.of (aD.length:Int)),(12,I.of (s1))]) (fun s1 au=>(⟨some bw,.var (ai:bL)⟩ :: ⟨some bf,.var (aa:ki)⟩ :: bz hp)) (fun az=>Sum.elim (fun az=>Exit.exit 0) (fun az=>Exit.ret) az) (fun az au=>Sum.elim (fun az=> [(0,I.of (aa)),(1,I.of (ai)),(2,I.eq (.pointer (some ⟨bf,0,none⟩))),(3,I.eq (.pointer (some ⟨bw,0,none⟩))),(4,I.of (0:Int)),(5,I.of (false)),(10,I.of (aD)),(11,I.of (aD.length:Int)),(12,I.of (az.1)),(13,I.of (az.2))]) (fun az=> [(0,I.of (aa)),(1,I.of (ai)),(2,I.eq (.pointer (some ⟨bf,0,none⟩))),(3,I.eq (.pointer (some ⟨bw,0,none⟩))),(4,I.of (az.1)),(5,I.of (az.2.1)),(10,I.of (aD)),(11,I.of (aD.length:Int)),(12,I.of (az.2.2.1)),(13,I.of (az.2.2.2.1)),(19,I.of (az.2.2.2.2))]) az) (fun az au=>Sum.elim (fun az=>(⟨some bw,.var (ai:bL)⟩ :: ⟨some bf,.var (aa:ki)⟩ :: bz hp)) (fun az=>(⟨some bw,.var (ai:bL)⟩ :: ⟨some bf,.var (aa:ki)⟩ :: bz hp)) az) () rfl (.same rfl (.same rfl (.same rfl (.same rfl (.same rfl (.same rfl (.same rfl (.same rfl (.same rfl .nil))))))))) (fun s1 r h au=> ?_) (fun au=> ?_)
 ·clear al
  refine aA ?_
  refine a5 dd ?_
  refine bx ?_
  refine b0 h (fun h=>?_) fun h=>?_
  ·refine cn ?_
   refine ag.seq ?_
   refine ag.block ?_
   refine aA ?_
   obtain⟨aV,b4,h⟩:=ar h
   refine fq b4 Tryz.underlying38 c9 ?_
   refine aY (cK c9) ?_
   refine ch iI fun cz=> ?_
   refine bS 0 c9 ?_
   refine bE ?_
   refine aY (a2 jT) ?_
   refine b5 0 iO ig ?_
   refine bY 1 ig ?_
   obtain⟨aM,b9,h⟩:=ar h
   refine cH Wt (Ru b9) ?_
   refine aJ ?_
   refine b0 h (fun h=>?_) fun h=>?_
   ·refine aA ?_
    refine aY (a2 km) ?_
    refine b5 0 ji bM ?_
    refine aH ?_
    refine aH ?_
    refine aJ ?_
    refine ag.ret ?_
    refine ae.dQ ?_
    refine ae.ret ?_
    obtain rfl:=aG h
    exact c6 () 1
   ·refine ag.skip ?_
    refine ae.db ?_
    refine ae.next ?_
    refine ag.b1 ?_
    refine a5 cL ?_
    refine ax ?_
    refine ak.nil ?_
    obtain rfl:=aG h
    exact dO () 1
  ·refine ag.exit ?_
   refine ae.exit ?_
   obtain rfl:=aG h
   exact c6 () 0
 ·clear al
  rcases ay with ay | ay
  ·simp only [Sum.elim_inl] at h
   refine ae.dD ?_
   refine ae.next ?_
   refine aA ?_
   refine aH ?_
   refine aH ?_
   refine aJ ?_
   refine ag.ret ?_
   obtain rfl:=aG h
   exact ae.qU () (.cons _ (.cons _ (.refl _))) rfl rfl (gf rfl) (gf rfl)
  ·simp only [Sum.elim_inr] at h
   refine ae.dQ ?_
   refine ae.ret ?_
   obtain rfl:=aG h
   exact ae.qU () (.cons _ (.cons _ (.refl _))) rfl rfl (gf rfl) (gf rfl)
end Go.Proofs.YtmnggbjcnoffeaaGreat
namespace Go.Proofs.YtmnggbjcnoffeaaGreat
open Go Gv
set_option linter.unusedVariables false
set_option linter.unusedSimpArgs false
set_option maxRecDepth 100000
set_option maxHeartbeats 2000000
theorem QD {aa:dM} {ai:aU} {aR:aU} {r:Int} (h:vo aa ai aR=some r):bn Tryz.prog 273 [I.ptr aa,I.of (ai),I.of (aR)] (I.of (r)):=by
 unfold vo at h
 refine bn.of Tryz.func273 rfl Tryz.ntmps273 rfl fun W A=> ?_
 refine aA ?_
 refine ca fun bf=> ?_
 refine ca fun bw=> ?_
 refine aH ?_
 refine bx ?_
 refine ag.block ?_
 refine ag.seq ?_
 obtain⟨aD,bp,h⟩:=ar h
 refine ag.draw mixed 7 [some 8,some 9,some 10,some 11,some 12,some 13,some 14] [[],[0],[1],[2],[],[],[3,4,5]] [.val _,.val _,.val _,.val _,.val _,.val _,.val _] [false,false,false,false,false,false,false] (by kernel_rfl) rfl rfl rfl (fun c5=>⟨cw,H1 y3,m7 En L0,H1 (cK eP),fz 1 c9,fz 0 c9,fc GX (ET bp),trivial⟩) fun c5=> ?_
 refine aH ?_
 refine aJ ?_
 refine b0 h (fun h=>?_) fun h=>?_
 ·refine aA ?_
  refine aH ?_
  refine aJ ?_
  refine ag.ret ?_
  refine ae.dQ ?_
  refine ae.ret ?_
  obtain rfl:=aG h
  exact c3
 ·refine ag.seq ?_
  obtain⟨aM,b9,h⟩:=ar h
  refine ag.draw mixed 7 [some 16,some 17,some 18,some 19,some 20,some 21,some 22] [[],[0],[1],[2],[],[],[3,4,5]] [.val _,.val _,.val _,.val _,.val _,.val _,.val _] [false,false,false,false,false,false,false] (by kernel_rfl) rfl rfl rfl (fun iz=>⟨cw,H1 y3,m7 En L0,H1 (cK eP),fz 0 c9,fz 1 c9,fc GX (ET b9),trivial⟩) fun iz=> ?_
  refine aH ?_
  refine aJ ?_
  refine b0 h (fun h=>?_) fun h=>?_
  ·refine aA ?_
   refine aH ?_
   refine aJ ?_
   refine ag.ret ?_
   refine ae.dQ ?_
   refine ae.ret ?_
   obtain rfl:=aG h
   exact c3
  ·refine ag.skip ?_
   refine ae.db ?_
   refine ae.next ?_
   refine aA ?_
   refine aH ?_
   refine aJ ?_
   refine ag.ret ?_
   obtain rfl:=aG h
   exact c3
theorem QS {ai:List aU} {aR:a0} {cQ:aU} :y8 Tryz.prog 149 [I.ptr ai,I.ptr aR,I.ptr cQ] [] (fun v:a1=>I.of v) (fun {σ ε} =>xK (σ:=σ) (ε:=ε) ai aR cQ):=by
 refine y8.of Tryz.func149 rfl Tryz.ntmps149 rfl ?_
 intro σ ε γ Ls Lx step cf g0 r h W A u te
 replace h:xK ai aR cQ step cf=some r:=h
 unfold xK at h
 refine aA ?_
 refine aY (cK uC) ?_
 refine aY (er Tryz.underlying38) ?_
 refine ax ?_
 refine aJ ?_
 refine ag.block ?_
 obtain⟨ay,al,h⟩:=ar h
 refine ag.zp (σ:=Int × (σ)) (ε:=(Int × Bool × (σ)) ⊕ (Bool × Int × Bool × Bool × Bool × (ε))) (γ:=γ) (δ:=γ) al (fun s1 au=> [(0,I.eq u),(1,I.ptr ai),(2,I.ptr aR),(3,I.ptr cQ),(9,I.of (ai)),(10,I.of (ai.length:Int)),(11,I.of (s1.1))]) (fun s1 au=>(Ls s1.2 au)) (fun az=>Sum.elim (fun az=>Exit.exit 0) (fun az=>Exit.ret) az) (fun az au=>Sum.elim (fun az=> [(0,I.eq u),(1,I.ptr ai),(2,I.ptr aR),(3,I.ptr cQ),(9,I.of (ai)),(10,I.of (ai.length:Int)),(11,I.of (az.1)),(12,I.of (az.2.1))]) (fun az=> [(0,I.eq u),(1,I.ptr ai),(2,I.ptr aR),(3,I.ptr cQ),(8,I.of (az.1)),(9,I.of (ai)),(10,I.of (ai.length:Int)),(11,I.of (az.2.1)),(12,I.of (az.2.2.1)),(19,I.of (az.2.2.2.1)),(33,I.of (az.2.2.2.2.1))]) az) (fun az au=>Sum.elim (fun az=>(Ls az.2.2 au)) (fun az=>(Lx az.2.2.2.2.2 au)) az) g0 rfl (.same rfl (.same rfl (.same rfl (.same rfl (.same rfl (.same rfl (.same rfl .nil))))))) (fun s1 r h au=> ?_) (fun au=> ?_)
 ·clear al
  refine aA ?_
  refine a5 dd ?_
  refine bx ?_
  refine b0 h (fun h=>?_) fun h=>?_
  ·refine cn ?_
   refine ag.seq ?_
   refine ag.block ?_
   refine aA ?_
   obtain⟨aV,b4,h⟩:=ar h
   refine fq b4 Tryz.underlying38 c9 ?_
   refine aY (cK c9) ?_
   refine ch iI fun bf=> ?_
   refine bS 0 c9 ?_
   refine bx ?_
   refine aA ?_
   refine aY (cK eP) ?_
   refine bY 0 c9 ?_
   refine aY (cK c9) ?_
   obtain⟨aD,bp,h⟩:=ar h
   refine cH GX (ET bp) ?_
   refine aY iT ?_
   refine aJ ?_
   refine b0 h (fun h=>?_) fun h=>?_
   ·refine ag.exit ?_
    refine ae.exit ?_
    refine ae.dD ?_
    refine ae.next ?_
    refine ag.b1 ?_
    refine a5 cL ?_
    refine ax ?_
    refine ak.nil ?_
    obtain rfl:=aG h
    exact dO au 1
   ·refine cn ?_
    refine aA ?_
    refine aY (cK eP) ?_
    refine aY (a2 jT) ?_
    refine b5 0 iO ig ?_
    obtain⟨aM,b9,h⟩:=ar h
    refine cH NK (KW b9) ?_
    refine ax ?_
    refine dG ?_
    refine dG ?_
    refine ch hX fun bw=> ?_
    refine bS 0 cY ?_
    refine aH ?_
    refine bE ?_
    refine ax ?_
    refine ax ?_
    refine eg cN ?_
    refine eN (fun hb=>fb (i:=0) (aI.id a1) (r:=aM.1) cY (ad rfl) rfl rfl rfl) ?_
    refine ak.cases aM.2 (fun hb=> ?_) (fun hb=> ?_)
    ·replace h:=gK hb h
     obtain⟨a8,dP,h⟩:=ar h
     refine ak.U5 (Lin:= [⟨some bw,.var (aM.1:a1)⟩,⟨some bf,.var (aB ai aV:aU)⟩]) (Ls:=Ls) (Lx:=Lx) (step:=step) (s:=s1.2) (gg:=au) rfl te hb rfl rfl rfl (ct rfl hb) dP rfl (fun s2 aQ aT=> ?_) (fun ck aQ aT=> ?_)
     ·subst aQ; simp only [Sum.elim_inl] at h
      refine ak.gu (L2:=(⟨some bw,.var (aM.1:a1)⟩ :: ⟨some bf,.var (aB ai aV:aU)⟩ :: Ls s2 aT)) rfl ?_
      refine eg iT ?_
      refine j4 ?_
      refine aJ ?_
      refine ag.wG (ad rfl) (by first | rfl | (rw [hb]; rfl)) ?_
      refine ag.skip ?_
      refine ae.db ?_
      refine ae.next ?_
      refine ag.b1 ?_
      refine a5 cL ?_
      refine ax ?_
      refine ak.nil ?_
      obtain rfl:=aG h
      exact dO aT 2
     ·subst aQ; simp only [Sum.elim_inr] at h
      refine ak.gu (L2:=(⟨some bw,.var (aM.1:a1)⟩ :: ⟨some bf,.var (aB ai aV:aU)⟩ :: Lx ck aT)) rfl ?_
      refine eg iT ?_
      refine j4 ?_
      refine aJ ?_
      refine ag.GU (ad rfl) (by first | rfl | (rw [hb]; rfl)) ?_
      refine ag.ret ?_
      refine ae.dQ ?_
      refine ae.ret ?_
      obtain rfl:=aG h
      exact c6 aT 2
    ·replace h:=gL hb h
     refine ak.Wu (.of false) hb rfl rfl rfl rfl rfl ?_
     refine eg iT ?_
     refine j4 ?_
     refine aJ ?_
     refine ag.wG (ad rfl) (by first | rfl | (rw [hb]; rfl)) ?_
     refine ag.skip ?_
     refine ae.db ?_
     refine ae.next ?_
     refine ag.b1 ?_
     refine a5 cL ?_
     refine ax ?_
     refine ak.nil ?_
     obtain rfl:=aG h
     exact dO au 2
  ·refine ag.exit ?_
   refine ae.exit ?_
   obtain rfl:=aG h
   exact c6 au 0
 ·clear al
  rcases ay with ay | ay
  ·simp only [Sum.elim_inl] at h
   refine ae.dD ?_
   refine ae.q5 ?_
   obtain rfl:=aG h
   exact ae.oq au (.refl _) rfl rfl
  ·simp only [Sum.elim_inr] at h
   refine ae.dQ ?_
   obtain rfl:=aG h
   exact ae.oq au (.refl _) rfl rfl
theorem RB {aa:a1} {ai:List a1} {r:Bool × Int} (h:vD aa ai=some r):bn Tryz.prog 81 [I.of (aa),I.of (ai)] (I.eI [I.of (r.1),I.of (r.2)]):=by
 unfold vD at h
 refine bn.of Tryz.func81 rfl Tryz.ntmps81 rfl fun W A=> ?_
 refine aA ?_
 refine ca fun bf=> ?_
 refine aH ?_
 refine aH ?_
 refine bE ?_
 refine bY 0 cY ?_
 refine ax ?_
 obtain⟨aD,bp,h⟩:=ar h
 refine cH zq (yu bp) ?_
 refine aH ?_
 refine bx ?_
 refine aA ?_
 refine ax ?_
 refine aY (er Tryz.underlying156) ?_
 refine a5 lY ?_
 refine aJ ?_
 refine b0 h (fun h=>?_) fun h=>?_
 ·refine aA ?_
  refine aH ?_
  refine aH ?_
  refine aJ ?_
  refine ag.ret ?_
  refine ae.ret ?_
  obtain rfl:=aG h
  exact pa
 ·refine cn ?_
  refine aA ?_
  refine bY 0 cY ?_
  refine ax ?_
  obtain⟨aM,b9,h⟩:=ar h
  refine cH wI (ER b9) ?_
  refine aH ?_
  refine aH ?_
  refine aJ ?_
  refine ag.ret ?_
  obtain rfl:=aG h
  exact pa
end Go.Proofs.YtmnggbjcnoffeaaGreat
namespace Go.Proofs.YtmnggbjcnoffeaaGreat
open Go Gv
set_option linter.unusedVariables false
set_option linter.unusedSimpArgs false
set_option maxRecDepth 100000
set_option maxHeartbeats 2000000
theorem KC {aa:a0} {ai:bL} {r:(Vector (BitVec 8) 512) × Bool} (h:qw aa ai=some r):bn Tryz.prog 127 [I.of (aa),I.of (ai)] (I.eI [I.of (r.1),I.of (r.2)]):=by
 unfold qw at h
 refine bn.of Tryz.func127 rfl Tryz.ntmps127 rfl fun W A=> ?_
 refine aA ?_
 refine ca fun bf=> ?_
 refine ca fun bw=> ?_
 refine ch iS fun cz=> ?_
 refine aH ?_
 refine bE ?_
 refine bY 2 eP ?_
 refine aY (a2 tW) ?_
 refine b5 1 pC bM ?_
 obtain⟨aD,bp,h⟩:=ar h
 refine cH Nx (JT bp) ?_
 refine aH ?_
 refine bE ?_
 refine ch iV fun ff=> ?_
 refine ch iV fun nd=> ?_
 refine bx ?_
 refine aA ?_
 refine ax ?_
 refine a5 dd ?_
 refine aJ ?_
 refine b0 h (fun h=>?_) fun h=>?_
 ·refine aA ?_
  refine bh (oQ (b:=(default:Vector (BitVec 8) 512)) (sz:=1) rfl Tryz.underlying181 (by kernel_rfl) iS (.nil)) ?_
  refine bS 2 ej ?_
  refine aH ?_
  refine aJ ?_
  refine ag.ret ?_
  refine ae.ret ?_
  obtain rfl:=aG h
  exact ae.mr rfl (dF 2 ej) (fw rfl)
 ·refine cn ?_
  refine ag.seq ?_
  refine aA ?_
  refine aY (a2 lE) ?_
  refine b5 4 ly k2 ?_
  refine ax ?_
  obtain⟨aV,b4,h⟩:=ar h
  refine fq b4 Tryz.underlying28 fO ?_
  refine uO iP kl ?_
  refine aY (cK jW) ?_
  refine aY (er Tryz.underlying62) ?_
  refine ax ?_
  refine aJ ?_
  refine ag.block ?_
  obtain⟨ay,al,h⟩:=ar h
  refine eD (γ:=Unit) (δ:=Unit) al [0,1,2,3,4,5,6,7,8,18,25,26] (fun s1 au=> [(27,I.of (s1.1))]) (fun s1 au=> [(0,⟨some nd,.var (s1.2.1:Vector aw 4)⟩),(1,⟨some ff,.var (s1.2.2:Vector aw 4)⟩)]) (fun az=>Sum.elim (fun az=>Exit.exit 0) (fun az=>Exit.ret) az) (fun az au=>Sum.elim (fun az=> [(27,I.of (az.1)),(28,I.of (az.2.1))]) (fun az=> [(9,I.of (az.1)),(12,I.of (az.2.1)),(27,I.of (az.2.2.1)),(28,I.of (az.2.2.2.1)),(49,I.of (az.2.2.2.2.1))]) az) (fun az au=>Sum.elim (fun az=> [(0,⟨some nd,.var (az.2.2.1:Vector aw 4)⟩),(1,⟨some ff,.var (az.2.2.2:Vector aw 4)⟩)]) (fun az=> [(0,⟨some nd,.var (az.2.2.2.2.2.1:Vector aw 4)⟩),(1,⟨some ff,.var (az.2.2.2.2.2.2:Vector aw 4)⟩)]) az) () (fun s1 r h au=> ?_) fun au=> ?_
  ·clear al
   refine aA ?_
   refine a5 dd ?_
   refine bx ?_
   refine b0 h (fun h=>?_) fun h=>?_
   ·refine cn ?_
    refine ag.seq ?_
    refine ag.block ?_
    refine aA ?_
    refine ax ?_
    obtain⟨bu,cD,h⟩:=ar h
    refine fq cD Tryz.underlying62 hP ?_
    refine aY (cK hP) ?_
    refine ch iU fun PW=> ?_
    refine aH ?_
    refine bS 0 hP ?_
    refine bx ?_
    obtain⟨cb,eu,h⟩:=ar h
    obtain⟨du,hx,h⟩:=ar h
    obtain⟨aM,b9,h⟩:=ar h
    refine ag.draw mixed 14 [some 32,some 33,some 34,some 35,some 36,some 37,some 38,some 39,some 40,some 41,some 42,some 43,some 44,some 11] [[],[0],[],[1,2],[3],[],[],[6],[],[7,8],[9],[],[5,10,11],[]] [.val _,.val _,.val _,.val _,.val _,.val _,.val _,.val _,.val _,.val _,.val _,.val _,.val _,.new (.var (default:cA))] [false,false,false,false,false,false,false,false,false,false,false,false,false,false] (by kernel_rfl) rfl rfl rfl (fun c5=>⟨H1 (a2 kY),dN 4 kh kI,cw,j0 eu Tryz.underlying47 gF,H1 (cK gF),fz 5 eP,H1 (a2 lE),dN 5 ly k2,cw,j0 hx Tryz.underlying28 fO,H1 (cK fO),cw,fc Yb (Rx b9),oS l4,trivial⟩) fun c5=> ?_
    refine bS 0 gF ?_
    refine aH ?_
    refine bx ?_
    refine ag.block ?_
    refine aA ?_
    refine aY (a2 od) ?_
    refine b5 1 jR bM ?_
    refine a5 fW ?_
    refine aH ?_
    refine aJ ?_
    refine b0 h (fun h=>?_) fun h=>?_
    ·refine aA ?_
     refine bh (oQ (b:=(default:Vector (BitVec 8) 512)) (sz:=1) rfl Tryz.underlying181 (by kernel_rfl) iS (.nil)) ?_
     refine bS 4 ej ?_
     refine aH ?_
     refine aJ ?_
     refine ag.ret ?_
     refine ae.dQ ?_
     refine ae.ret ?_
     refine ae.dQ ?_
     refine ae.ret ?_
     obtain rfl:=aG h
     exact c6 () 2
    ·refine aA ?_
     refine aY (a2 MC) ?_
     refine b5 0 rN hR ?_
     refine aY iT ?_
     refine aH ?_
     refine aJ ?_
     refine b0 h (fun h=>?_) fun h=>?_
     ·refine ag.exit ?_
      refine ae.U6 rfl ?_
      refine ae.exit ?_
      refine ae.dD ?_
      refine ae.next ?_
      refine ag.b1 ?_
      refine a5 cL ?_
      refine ax ?_
      refine ak.nil ?_
      obtain rfl:=aG h
      exact dO () 2
     ·refine aA ?_
      refine aY (a2 od) ?_
      refine b5 1 jR bM ?_
      refine a5 fW ?_
      refine aH ?_
      refine aJ ?_
      obtain⟨bJ,cB,h⟩:=ar h
      refine hQ (γ:=Unit) [0,1,2,3,4,5,6,7,8,9,10,11,12,18,25,26,27,28,49,54,58] (fun aT=> []) (fun aT=> [(2,⟨some nd,.var (bJ:Vector aw 4)⟩)]) (fun aT=> ?_) (fun hm ao=> ?_) fun hm ao=> ?_
      ·clear cB
       refine ae.db ?_
       refine ae.next ?_
       refine ag.b1 ?_
       refine ax ?_
       refine aY (a2 Gb) ?_
       refine b5 0 qk bT ?_
       obtain⟨dA,ij,h⟩:=ar h
       refine bh (dc (k:=dA) gq (ad rfl) (ad rfl) (bC ij)) ?_
       refine jt 3 ((aI.id (Vector aw 4)).comp (aI.idx (α:=aw) 4 dA (bC ij).1)) bT ?_
       refine ak.nil ?_
       refine ae.db ?_
       refine ae.next ?_
       refine ag.b1 ?_
       refine a5 cL ?_
       refine ax ?_
       refine ak.nil ?_
       obtain rfl:=aG h
       exact dO () 2
      ·have h:=gK ao cB
       refine ag.b1 ?_
       refine ax ?_
       refine ax ?_
       obtain⟨a8,dP,h⟩:=ar h
       refine cH Wv (R9 dP) ?_
       obtain⟨eM,ju,h⟩:=ar h
       refine bh (dc (k:=eM) gq (ad rfl) (ad rfl) (bC ju)) ?_
       refine jt 2 ((aI.id (Vector aw 4)).comp (aI.idx (α:=aw) 4 eM (bC ju).1)) bT ?_
       refine ak.nil ?_
       obtain rfl:=aG h
       exact dj 0 (hm ())
      ·have h:=gL ao cB
       refine aA ?_
       refine aY (a2 od) ?_
       refine b5 1 jR bM ?_
       refine a5 fW ?_
       refine aH ?_
       refine aJ ?_
       obtain⟨cy,dE,h⟩:=ar h
       refine hQ (γ:=Unit) [0,1,2,3,4,5,6,7,8,9,10,11,12,18,25,26,27,28,49,54,58,66] (fun bq=> []) (fun bq=> [(2,⟨some nd,.var (cy:Vector aw 4)⟩)]) (fun bq=> ?_) (fun hm ao=> ?_) fun hm ao=> ?_
       ·clear dE
        obtain rfl:=aG h
        exact dj 0 (hm ())
       ·have h:=gK ao dE
        refine ag.b1 ?_
        refine ax ?_
        refine ax ?_
        refine aY (a2 y4) ?_
        refine b5 0 rO bM ?_
        obtain⟨br,eW,h⟩:=ar h
        refine cH Ww (Rv eW) ?_
        obtain⟨jy,nK,h⟩:=ar h
        refine bh (dc (k:=jy) gq (ad rfl) (ad rfl) (bC nK)) ?_
        refine jt 2 ((aI.id (Vector aw 4)).comp (aI.idx (α:=aw) 4 jy (bC nK).1)) bT ?_
        refine ak.nil ?_
        obtain rfl:=aG h
        exact dj 0 (hm ())
       ·have h:=gL ao dE
        refine ag.b1 ?_
        refine ax ?_
        refine aY (a2 MD) ?_
        refine b5 0 xT bT ?_
        obtain⟨jg,nL,h⟩:=ar h
        refine bh (dc (k:=jg) gq (ad rfl) (ad rfl) (bC nL)) ?_
        refine jt 2 ((aI.id (Vector aw 4)).comp (aI.idx (α:=aw) 4 jg (bC nL).1)) bT ?_
        refine ak.nil ?_
        obtain rfl:=aG h
        exact dj 0 (hm ())
   ·refine ag.exit ?_
    refine ae.exit ?_
    obtain rfl:=aG h
    exact c6 () 0
  ·clear al
   rcases ay with ay | ay
   ·simp only [Sum.elim_inl] at h
    refine ae.dD ?_
    refine ae.next ?_
    refine aA ?_
    refine bY 1 dR ?_
    refine bY 0 dR ?_
    obtain⟨cj,gH,h⟩:=ar h
    refine cH Wx (R8 gH) ?_
    refine bS 2 ej ?_
    refine aH ?_
    refine aJ ?_
    refine ag.ret ?_
    obtain rfl:=aG h
    exact ae.mr rfl (dF 2 ej) (fw rfl)
   ·simp only [Sum.elim_inr] at h
    refine ae.dQ ?_
    refine ae.ret ?_
    obtain rfl:=aG h
    exact ae.mr rfl (dF 2 ej) (fw rfl)
end Go.Proofs.YtmnggbjcnoffeaaGreat
namespace Go.Proofs.YtmnggbjcnoffeaaGreat
open Go Gv
set_option linter.unusedVariables false
set_option linter.unusedSimpArgs false
set_option maxRecDepth 100000
set_option maxHeartbeats 2000000
theorem Kb {aa:a0} {ai:List aU} {aR:Int} {r:(Vector (BitVec 8) 512) × (List (Vector (BitVec 8) 512)) × Int} (h:rW aa ai aR=some r):bn Tryz.prog 93 [I.of (aa),I.of (ai),I.of (aR)] (I.eI [I.of (r.1),I.of (r.2.1),I.of (r.2.2)]):=by
 unfold rW at h
 refine bn.of Tryz.func93 rfl Tryz.ntmps93 rfl fun W A=> ?_
 refine aA ?_
 refine ca fun bf=> ?_
 refine ch iS fun bw=> ?_
 refine bh (eC (look_nil (α:=Vector (BitVec 8) 512))) ?_
 refine aH ?_
 refine bx ?_
 refine aA ?_
 refine ax ?_
 refine aY (er Tryz.underlying38) ?_
 refine ax ?_
 refine aJ ?_
 refine ag.block ?_
 obtain⟨ay,al,h⟩:=ar h
 refine eD (γ:=Unit) (δ:=Unit) al [0,1,2,3,6,18,19] (fun s1 au=> [(7,I.of ([]:List (Vector (BitVec 8) 512))),(8,I.of (0:Int)),(20,I.of (s1))]) (fun s1 au=> []) (fun az=>Sum.elim (fun az=>Exit.exit 0) (fun az=>Exit.ret) az) (fun az au=>Sum.elim (fun az=> [(7,I.of ([]:List (Vector (BitVec 8) 512))),(8,I.of (0:Int)),(20,I.of (az.1)),(21,I.of (az.2))]) (fun az=> [(7,I.of (az.1)),(8,I.of (az.2.1)),(12,I.of (az.2.2.1)),(20,I.of (az.2.2.2.1)),(21,I.of (az.2.2.2.2.1)),(27,I.of (az.2.2.2.2.2.1)),(36,I.of (az.2.2.2.2.2.2.1))]) az) (fun az au=>Sum.elim (fun az=> []) (fun az=> [(0,⟨some bw,.var (az.2.2.2.2.2.2.2:Vector (BitVec 8) 512)⟩)]) az) () (fun s1 r h au=> ?_) fun au=> ?_
 ·clear al
  refine aA ?_
  refine a5 dd ?_
  refine bx ?_
  refine b0 h (fun h=>?_) fun h=>?_
  ·refine cn ?_
   refine ag.seq ?_
   refine ag.block ?_
   refine aA ?_
   obtain⟨aV,b4,h⟩:=ar h
   refine fq b4 Tryz.underlying38 c9 ?_
   refine aY (cK c9) ?_
   refine ch iI fun cz=> ?_
   refine bS 0 c9 ?_
   refine bx ?_
   refine aA ?_
   refine aY (a2 km) ?_
   refine b5 0 ji bM ?_
   refine ax ?_
   refine a5 mY ?_
   refine aJ ?_
   refine b0 h (fun h=>?_) fun h=>?_
   ·refine ag.exit ?_
    refine ae.exit ?_
    refine ae.dD ?_
    refine ae.next ?_
    refine ag.b1 ?_
    refine a5 cL ?_
    refine ax ?_
    refine ak.nil ?_
    obtain rfl:=aG h
    exact dO () 1
   ·refine cn ?_
    refine aA ?_
    refine bY 2 eP ?_
    refine aY (a2 jT) ?_
    refine b5 0 iO ig ?_
    obtain⟨aD,bp,h⟩:=ar h
    refine cH NL (KC bp) ?_
    refine ax ?_
    refine dG ?_
    refine dG ?_
    refine ch iS fun ff=> ?_
    refine bS 0 ej ?_
    refine aH ?_
    refine bx ?_
    refine aA ?_
    refine ax ?_
    refine aY iT ?_
    refine aJ ?_
    refine b0 h (fun h=>?_) fun h=>?_
    ·refine aA ?_
     refine bh (oQ (b:=(default:Vector (BitVec 8) 512)) (sz:=1) rfl Tryz.underlying181 (by kernel_rfl) iS (.nil)) ?_
     refine bS 2 ej ?_
     refine bh (eC (look_nil (α:=Vector (BitVec 8) 512))) ?_
     refine aH ?_
     refine aJ ?_
     refine ag.ret ?_
     refine ae.ret ?_
     refine ae.dQ ?_
     refine ae.ret ?_
     obtain rfl:=aG h
     exact c6 () 2
    ·refine cn ?_
     refine aA ?_
     refine ak.own (α:=Vector (BitVec 8) 512) 181 ?_
     refine bh (eC pI) ?_
     refine bx ?_
     refine aA ?_
     refine ax ?_
     refine aY (er Tryz.underlying38) ?_
     refine ax ?_
     refine aJ ?_
     refine ag.block ?_
     obtain⟨aS,al,h⟩:=ar h
     refine eD (γ:=(Option Nat × Nat)) (δ:=(Option Nat × Nat)) al [0,1,2,3,6,7,8,10,11,12,18,19,20,21,27,36,38,39] (fun s2 aT=> [(13,I.eq (aZ aT.1 s2.2.length aT.2)),(40,I.of (s2.1))]) (fun s2 aT=> [(0,⟨aT.1,.row 181 (s2.2:List (Vector (BitVec 8) 512)) aT.2⟩)]) (fun ck=>Exit.exit 2) (fun ck aT=> [(13,I.eq (aZ aT.1 ck.2.2.length aT.2)),(40,I.of (ck.1)),(41,I.of (ck.2.1))]) (fun ck aT=> [(0,⟨aT.1,.row 181 (ck.2.2:List (Vector (BitVec 8) 512)) aT.2⟩)]) (none,0) (fun s2 r h aT=> ?_) fun aT=> ?_
     ·clear al
      refine aA ?_
      refine a5 dd ?_
      refine bx ?_
      refine b0 h (fun h=>?_) fun h=>?_
      ·refine cn ?_
       refine ag.seq ?_
       refine ag.block ?_
       refine aA ?_
       obtain⟨bu,cD,h⟩:=ar h
       refine fq cD Tryz.underlying38 c9 ?_
       refine aY (cK c9) ?_
       refine ch iI fun nd=> ?_
       refine bS 0 c9 ?_
       refine bE ?_
       refine aY (a2 km) ?_
       refine b5 0 ji bM ?_
       refine ax ?_
       refine a5 mY ?_
       refine ax ?_
       refine eN (fun hb=>fb (i:=5) (aI.id a0) (r:=aa) eP (ad rfl) rfl rfl rfl) ?_
       refine eN (fun hb=>fb (i:=0) (aI.id aU) (r:=(aB ai bu)) c9 (ad rfl) rfl rfl rfl) ?_
       refine eN (fun hb=>fb (i:=3) (aI.id aU) (r:=(aB ai aV)) c9 (ad rfl) rfl rfl rfl) ?_
       obtain⟨aM,b9,h⟩:=ar h
       refine eN (fun hb=>h1 Yc (RY (fE b9 hb)) ⟨ct rfl hb,ct rfl hb,ct rfl hb,trivial⟩) ?_
       refine j4 ?_
       refine aJ ?_
       obtain⟨bJ,cB,h⟩:=ar h
       refine hQ (γ:=(Option Nat × Nat)) [0,1,2,3,6,7,8,10,11,12,15,18,19,20,21,27,36,38,39,40,41,53] (fun bq=> [(13,I.eq (aZ bq.1 bJ.length bq.2))]) (fun bq=> [(1,⟨bq.1,.row 181 (bJ:List (Vector (BitVec 8) 512)) bq.2⟩)]) (fun bq=> ?_) (fun hm ao=> ?_) fun hm ao=> ?_
       ·clear cB
        refine ae.db ?_
        refine ae.next ?_
        refine ag.b1 ?_
        refine a5 cL ?_
        refine ax ?_
        refine ak.nil ?_
        obtain rfl:=aG h
        exact dO (bq.1,bq.2) 1
       ·have h:=gK ao cB
        refine aA ?_
        refine bY 5 eP ?_
        refine aY (a2 jT) ?_
        refine b5 0 iO ig ?_
        obtain⟨a8,dP,h⟩:=ar h
        refine cH NL (KC dP) ?_
        refine ax ?_
        refine dG ?_
        refine dG ?_
        refine ch iS fun PW=> ?_
        refine bS 0 ej ?_
        refine aH ?_
        refine aJ ?_
        refine ag.b1 ?_
        refine ax ?_
        refine bY 0 ej ?_
        refine fQ [a8.1] Tryz.underlying182 ej iS ?_
        obtain⟨br,eW,h⟩:=ar h
        refine jv 2 Tryz.underlying182 ej iS eW fun gE e2=> ?_
        refine aH ?_
        refine ak.nil ?_
        obtain rfl:=aG h
        exact dj 1 (hm (gE,e2))
       ·have h:=gL ao cB
        refine ag.skip ?_
        obtain rfl:=aG h
        exact dj 0 (hm (aT.1,aT.2))
      ·refine ag.exit ?_
       refine ae.exit ?_
       obtain rfl:=aG h
       exact c6 (aT.1,aT.2) 0
     ·clear al
      refine ae.dD ?_
      refine ae.next ?_
      refine aA ?_
      refine bY 1 ej ?_
      refine ax ?_
      refine bS 3 ej ?_
      refine aH ?_
      refine aH ?_
      refine aJ ?_
      refine ag.ret ?_
      refine ae.dQ ?_
      refine ae.ret ?_
      refine ae.kF (α:=Vector (BitVec 8) 512) 0 [7,13,67] ⟨rfl,rfl,rfl,trivial⟩ rfl ?_
      obtain rfl:=aG h
      exact c6 () 3
  ·refine ag.exit ?_
   refine ae.exit ?_
   obtain rfl:=aG h
   exact c6 () 0
 ·clear al
  rcases ay with ay | ay
  ·simp only [Sum.elim_inl] at h
   refine ae.dD ?_
   refine ae.next ?_
   refine aA ?_
   refine bh (oQ (b:=(default:Vector (BitVec 8) 512)) (sz:=1) rfl Tryz.underlying181 (by kernel_rfl) iS (.nil)) ?_
   refine bS 0 ej ?_
   refine bh (eC (look_nil (α:=Vector (BitVec 8) 512))) ?_
   refine aH ?_
   refine aJ ?_
   refine ag.ret ?_
   obtain rfl:=aG h
   exact ae.l5 rfl (dF 0 ej) (fw rfl) (fw rfl)
  ·simp only [Sum.elim_inr] at h
   refine ae.dQ ?_
   refine ae.ret ?_
   obtain rfl:=aG h
   exact ae.l5 rfl (dF 0 ej) (fw rfl) (fw rfl)
end Go.Proofs.YtmnggbjcnoffeaaGreat
namespace Go.Proofs.YtmnggbjcnoffeaaGreat
open Go Gv
set_option linter.unusedVariables false
set_option linter.unusedSimpArgs false
set_option maxRecDepth 100000
set_option maxHeartbeats 2000000
theorem RC {aa:a1} {ai:List a1} {r:(Vector aw 4) × Bool × Int} (h:yb aa ai=some r):bn Tryz.prog 88 [I.of (aa),I.of (ai)] (I.eI [I.of (r.1),I.of (r.2.1),I.of (r.2.2)]):=by
 unfold yb at h
 refine bn.of Tryz.func88 rfl Tryz.ntmps88 rfl fun W A=> ?_
 refine aA ?_
 refine ca fun bf=> ?_
 refine ch iV fun bw=> ?_
 refine aH ?_
 refine aH ?_
 refine bE ?_
 refine bY 1 cY ?_
 refine ax ?_
 obtain⟨aD,bp,h⟩:=ar h
 refine cH zq (yu bp) ?_
 refine aH ?_
 refine bx ?_
 refine aA ?_
 refine ax ?_
 refine aY (er Tryz.underlying156) ?_
 refine a5 lY ?_
 refine aJ ?_
 refine b0 h (fun h=>?_) fun h=>?_
 ·refine aA ?_
  refine bh (oQ (b:=(default:Vector aw 4)) (sz:=2) rfl Tryz.underlying45 (by kernel_rfl) iV (.nil)) ?_
  refine bS 0 dR ?_
  refine aH ?_
  refine aH ?_
  refine aJ ?_
  refine ag.ret ?_
  refine ae.ret ?_
  obtain rfl:=aG h
  exact ae.l5 rfl (dF 0 dR) (fw rfl) (fw rfl)
 ·refine cn ?_
  refine ag.seq ?_
  refine aA ?_
  refine bY 1 cY ?_
  refine ax ?_
  obtain⟨aM,b9,h⟩:=ar h
  refine cH wI (ER b9) ?_
  refine aJ ?_
  refine b0 h (fun h=>?_) fun h=>?_
  ·refine aA ?_
   refine bh (oQ (b:=(default:Vector aw 4)) (sz:=2) rfl Tryz.underlying45 (by kernel_rfl) iV (.nil)) ?_
   refine bS 0 dR ?_
   refine aH ?_
   refine aH ?_
   refine aJ ?_
   refine ag.ret ?_
   refine ae.ret ?_
   obtain rfl:=aG h
   exact ae.l5 rfl (dF 0 dR) (fw rfl) (fw rfl)
  ·refine cn ?_
   refine ag.seq ?_
   refine aA ?_
   refine ax ?_
   refine aJ ?_
   refine ag.block ?_
   obtain⟨ay,al,h⟩:=ar h
   refine eD (γ:=Unit) (δ:=Unit) al [0,1,2,4,5,6,16,20] (fun s1 au=> [(7,I.of (s1.1)),(22,I.of (s1.2.1))]) (fun s1 au=> [(1,⟨some bf,.var (s1.2.2:a1)⟩)]) (fun az=>Exit.exit 0) (fun az au=> [(7,I.of (az.1)),(22,I.of (az.2.1)),(23,I.of (az.2.2.1))]) (fun az au=> [(1,⟨some bf,.var (az.2.2.2:a1)⟩)]) () (fun s1 r h au=> ?_) fun au=> ?_
   ·clear al
    refine aA ?_
    refine a5 dd ?_
    refine bx ?_
    refine b0 h (fun h=>?_) fun h=>?_
    ·refine cn ?_
     refine ag.seq ?_
     refine ag.block ?_
     refine aA ?_
     refine ax ?_
     refine aH ?_
     refine bE ?_
     refine bY 1 cY ?_
     refine ax ?_
     obtain⟨a8,dP,h⟩:=ar h
     refine cH C7 (B6 dP) ?_
     refine ch hX fun cz=> ?_
     refine bS 0 cY ?_
     refine bx ?_
     refine aA ?_
     refine bY 0 cY ?_
     refine bY 2 cY ?_
     refine a5 (GQ Gc rfl Gd rfl) ?_
     refine aJ ?_
     refine b0 h (fun h=>?_) fun h=>?_
     ·refine ag.exit ?_
      refine ae.exit ?_
      refine ae.dD ?_
      refine ae.next ?_
      refine ag.b1 ?_
      refine a5 cL ?_
      refine ax ?_
      refine ak.nil ?_
      obtain rfl:=aG h
      exact dO () 1
     ·refine cn ?_
      refine ag.seq ?_
      refine aA ?_
      refine bY 0 cY ?_
      refine ax ?_
      obtain⟨br,eW,h⟩:=ar h
      refine cH zq (yu eW) ?_
      refine aH ?_
      refine bE ?_
      refine bY 0 cY ?_
      refine ax ?_
      obtain⟨cj,gH,h⟩:=ar h
      refine cH wI (ER gH) ?_
      refine aY iT ?_
      refine aJ ?_
      refine b0 h (fun h=>?_) fun h=>?_
      ·refine aA ?_
       refine bY 0 cY ?_
       refine ax ?_
       refine bS 2 cY ?_
       refine aH ?_
       refine aJ ?_
       refine ag.exit ?_
       refine ae.exit ?_
       refine ae.dD ?_
       refine ae.next ?_
       refine ag.b1 ?_
       refine a5 cL ?_
       refine ax ?_
       refine ak.nil ?_
       obtain rfl:=aG h
       exact dO () 1
      ·refine cn ?_
       refine aA ?_
       refine bY 2 cY ?_
       refine ax ?_
       obtain⟨cM,hh,h⟩:=ar h
       refine cH C7 (B6 hh) ?_
       refine bS 2 cY ?_
       refine aJ ?_
       refine ag.b1 ?_
       refine bY 2 cY ?_
       refine ax ?_
       obtain⟨dv,kM,h⟩:=ar h
       refine cH zq (yu kM) ?_
       refine aH ?_
       refine ak.nil ?_
       refine ae.db ?_
       refine ae.next ?_
       refine ag.b1 ?_
       refine a5 cL ?_
       refine ax ?_
       refine ak.nil ?_
       obtain rfl:=aG h
       exact dO () 1
    ·refine ag.exit ?_
     refine ae.exit ?_
     obtain rfl:=aG h
     exact c6 () 0
   ·clear al
    refine ae.dD ?_
    refine ae.next ?_
    refine aA ?_
    refine aY (a2 oa) ?_
    refine b5 1 mi dR ?_
    refine bS 0 dR ?_
    refine aH ?_
    refine aH ?_
    refine aJ ?_
    refine ag.ret ?_
    obtain rfl:=aG h
    exact ae.l5 rfl (dF 0 dR) (fw rfl) (fw rfl)
theorem QL {hp:bg Cell} {aa:hr} {ai:bL} {r:Int × Bool} (h:xE hp aa ai=some r):cG Tryz.prog 235 [I.of (aa),I.of (ai)] ([] ++ bz hp) (δ:=Unit) (fun _=>I.eI [I.of (r.1),I.of (r.2)]) (fun _=> [] ++ bz hp):=by
 unfold xE at h
 refine cG.of Tryz.func235 rfl Tryz.ntmps235 rfl fun W A=> ?_
 refine aA ?_
 refine ca fun bf=> ?_
 refine ca fun bw=> ?_
 refine aH ?_
 refine aH ?_
 refine bE ?_
 refine bY 1 GO ?_
 refine bY 0 ig ?_
 obtain⟨aD,bp,h⟩:=ar h
 refine cH NM (JB bp) ?_
 refine ax ?_
 refine dG ?_
 refine dG ?_
 refine dG ?_
 refine ch zm fun cz=> ?_
 refine ch dY fun ff=> ?_
 refine bS 1 l0 ?_
 refine bS 0 bT ?_
 refine aH ?_
 refine bx ?_
 obtain⟨dT,fY,h⟩:=ar h
 obtain⟨cZ,hz,h⟩:=ar h
 obtain⟨bN,dg,h⟩:=ar h
 obtain⟨aM,b9,h⟩:=ar h
 refine lI [0,1,2,3,6,7,8,9,10,11,12,13,14,15] ?_
 refine ag.C1 4 mixed (bt 16 [] [] _ :: bt 17 (0 :: []) (3 :: []) _ :: bt 18 [] (1 :: []) _ :: ⟨some 19,(1 :: 2 :: []),[],[],fun _=>I.of (bN),fun _ _=>⟨none,.dead⟩⟩ :: bt 20 [] (0 :: []) _ :: bt 21 [] [] _ :: ⟨some 22,(3 :: 4 :: 5 :: []),[],[],fun _=>I.eI [I.of (aM.1),I.of (aM.2)],fun _ _=>⟨none,.dead⟩⟩ :: bt 23 (6 :: []) [] _ :: bt 24 (6 :: []) [] _ :: bt 4 (7 :: []) [] _ :: bt 5 (8 :: []) [] _ :: []) _ (0 :: 1 :: 2 :: 3 :: 6 :: 7 :: 8 :: 9 :: 10 :: 11 :: 12 :: 13 :: 14 :: 15 :: []) rfl rfl (by kernel_rfl) (by kernel_rfl) ⟨fk.q (ga (a2 yT)),fk.q (p5 3 vl wJ),fk.q (p3 1 l0),?_,fk.q (p3 0 bT),fk.q (gb),?_,fk.q (c2 fun hd E' aC aL av=>oo (ad (aL _ _ rfl)) rfl),fk.q (c2 fun hd E' aC aL av=>oo (ad (aL _ _ rfl)) rfl),fk.q (c2 fun hd E' aC aL av=>eC (ad (aL _ _ rfl))),fk.q (c2 fun hd E' aC aL av=>eC (ad (aL _ _ rfl))),trivial⟩ fun gO=> ?_
 ·intro hd E' aC aL av fp
  refine bh (FK (r:=bN) Tryz.underlying167 C9 GY (qx (ad (aL _ _ rfl)) fY) (ad (aL _ _ rfl)) (iH (n:=4) (fp.trans rfl) (pM hz) rfl) (aG dg)) ?_
  refine ak.nil ?_
  exact ae.fin (fI []) rfl rfl
 ·intro hd E' aC aL av fp
  refine ak.qd (jx.sv 4 (fp.trans rfl) Wy (RA b9) ⟨ad (aL _ _ rfl),ad (aL _ _ rfl),ad (aL _ _ rfl),trivial⟩) rfl rfl rfl ?_
  refine ak.nil ?_
  exact ae.fin (fI []) rfl rfl
 refine ae.gu (L2:=(⟨some ff,.var (aD.2.1:aw)⟩ :: ⟨some cz,.var (aD.1:Vector aw 4)⟩ :: ⟨some bw,.var (ai:bL)⟩ :: ⟨some bf,.var (aa:hr)⟩ :: bz hp)) rfl ?_
 refine l8 [0,1,2,3,4,5,6,7,8,9,10,11,12,13,14,15,16,17,18,19,20,21,22,23,24] ?_
 refine ae.next ?_
 refine ag.ret ?_
 obtain rfl:=aG h
 exact ae.qU () (.cons _ (.cons _ (.cons _ (.cons _ (.refl _))))) rfl rfl (gf rfl) (gf rfl)
end Go.Proofs.YtmnggbjcnoffeaaGreat
namespace Go.Proofs.YtmnggbjcnoffeaaGreat
open Go Gv
set_option linter.unusedVariables false
set_option linter.unusedSimpArgs false
set_option maxRecDepth 100000
set_option maxHeartbeats 2000000
theorem JL {aa:a0} {ai:List aU} {aR:Int} {r:a1 × (List a1) × Int} (h:rR aa ai aR=some r):bn Tryz.prog 80 [I.of (aa),I.of (ai),I.of (aR)] (I.eI [I.of (r.1),I.of (r.2.1),I.of (r.2.2)]):=by
 unfold rR at h
 refine bn.ofM Tryz.func80 rfl Tryz.ntmps80 rfl fun W A=> ?_
 refine aA ?_
 refine ca fun bf=> ?_
 refine ca fun bw=> ?_
 refine ch hX fun cz=> ?_
 refine bh (eC (look_nil (α:=a1))) ?_
 refine aH ?_
 refine bE ?_
 refine ax ?_
 refine ak.share (α:=Int) 1 5 rfl rfl ?_
 refine bh (wm (F:=(fun fT=>Bq fT aR)) (τs:= [I.ptr aR]) Wz ⟨ad rfl,trivial⟩ (fun _ _ h=>QH h)) ?_
 obtain⟨aD,bp,h⟩:=ar h
 refine cH Nm (Jw bp) ?_
 refine aH ?_
 refine bx ?_
 refine aA ?_
 refine ax ?_
 refine a5 dd ?_
 refine aJ ?_
 refine b0 h (fun h=>?_) fun h=>?_
 ·refine aA ?_
  refine hH wH hX (default:a1) .nil ?_
  refine bS 0 cY ?_
  refine bh (eC (look_nil (α:=a1))) ?_
  refine aH ?_
  refine aJ ?_
  refine ag.ret ?_
  refine ae.ret ?_
  obtain rfl:=aG h
  refine ae.zM ?_
  exact ae.l5 rfl (dF 0 cY) (fw rfl) (fw rfl)
 ·refine cn ?_
  refine ag.seq ?_
  obtain⟨aV,b4,h⟩:=ar h
  obtain⟨aM,b9,h⟩:=ar h
  refine ag.draw mixed 8 [some 21,some 22,some 23,some 24,some 25,some 26,some 27,some 28] [[],[],[],[1,2],[3],[4],[5],[0,6]] [.val _,.val _,.val _,.val _,.val _,.val _,.val _,.val _] [false,false,false,false,false,false,false,false] (by kernel_rfl) rfl rfl rfl (fun c5=>⟨fz 2 eP,cw,cw,j0 b4 Tryz.underlying38 c9,m7 iO jT,m7 pC tW,H1 (cK bM),fc Dj (BS b9),trivial⟩) fun c5=> ?_
  refine aH ?_
  refine bx ?_
  refine aA ?_
  refine ax ?_
  refine a5 lZ ?_
  refine ax ?_
  refine eg (a2 lE) ?_
  refine eN (fun hb=>fb (i:=2) ((aI.id a0).comp ly) (r:=aa.bB) k2 (ct rfl hb) rfl rfl rfl) ?_
  refine eg cN ?_
  obtain⟨bu,cD,h⟩:=ar h
  refine eN (fun hb=>oZ (k:=bu) Tryz.underlying28 fO (ct rfl hb) (ct rfl hb) (bC (fE cD hb))) ?_
  refine eN (fun hb=>zk iP kl (ct rfl hb) rfl rfl) ?_
  refine eg (cK jW) ?_
  obtain⟨a8,dP,h⟩:=ar h
  refine eN (fun hb=>h1 WA (Qo (fE dP hb)) ⟨ct rfl hb,Lk WB (fun _ _=>QI),trivial⟩) ?_
  refine j4 ?_
  refine aJ ?_
  refine b0 h (fun h=>?_) fun h=>?_
  ·refine aA ?_
   refine hH wH hX (default:a1) .nil ?_
   refine bS 0 cY ?_
   refine bh (eC (look_nil (α:=a1))) ?_
   refine aH ?_
   refine aJ ?_
   refine ag.ret ?_
   refine ae.ret ?_
   obtain rfl:=aG h
   refine ae.zM ?_
   exact ae.l5 rfl (dF 0 cY) (fw rfl) (fw rfl)
  ·refine cn ?_
   refine ag.seq ?_
   obtain⟨cb,eu,h⟩:=ar h
   obtain⟨br,eW,h⟩:=ar h
   refine ag.draw mixed 12 [some 42,some 43,some 44,some 45,some 46,some 47,some 48,some 41,some 49,some 50,some 11,none] [[],[],[],[1,2],[3],[4],[0,5],[6],[7],[7],[],[8,10]] [.val _,.val _,.val _,.val _,.val _,.val _,.val _,.val _,.val _,.val _,.new (.var (default:a1)),.lb 10 (.var (br.1:a1))] [false,false,false,false,false,false,false,false,false,false,false,true] (by kernel_rfl) rfl rfl rfl (fun iz=>⟨fz 2 eP,cw,cw,j0 eu Tryz.underlying38 c9,m7 iO jT,H1 (cK ig),fc NK (KW eW),cw,sS,sS,oS hX,⟨rfl,_,rfl,fun aC q hq=>oU (i:=q) (aI.id a1) (v:=(br.1:a1)) (b':=(br.1:a1)) cY (ad rfl) (ad rfl) hq rfl rfl⟩,trivial⟩) fun iz=> ?_
   refine aH ?_
   refine bE ?_
   refine ak.oV (z:=(default:List a1)) [0] Ui WC rfl fun ff=> ?_
   refine ak.own (α:=a1) 155 ?_
   refine bx ?_
   refine ag.seq ?_
   obtain⟨du,hx,h⟩:=ar h
   obtain⟨cj,gH,h⟩:=ar h
   refine ag.draw mixed 7 [some 51,some 52,some 53,some 54,some 55,some 56,some 57] [[],[],[],[],[2,3],[4],[0,1,5]] [.val _,.val _,.val _,.val _,.val _,.val _,.val _] [false,false,false,false,false,false,false] (by kernel_rfl) rfl rfl rfl (fun sT=>⟨fz 5 eP,cw,cw,cw,j0 hx Tryz.underlying38 c9,H1 (cK c9),fc WD (Rm gH),trivial⟩) fun sT=> ?_
   refine aJ ?_
   refine ag.block ?_
   obtain⟨ay,al,h⟩:=ar h
   refine TB (γ:=(Option Nat × Nat)) (g0:=(none,0)) (Lin:= []) (Ls:=fun s1 au=> [⟨au.1,.row 155 (s1.1:List a1) au.2⟩,⟨some ff,.cC (s1.2:List a1) [(0,aZ au.1 s1.1.length au.2)]⟩,⟨some (iz 10),.var (br.1:a1)⟩,⟨some cz,.var ((default:a1):a1)⟩,⟨none,.dead⟩,⟨some bf,.var (aa:a0)⟩]) (Lx:=fun az au=>Empty.elim az) (fun az=>Empty.elim az) rfl WE rfl QS al rfl rfl (fun w4 s1 r h au ld lu lf l D rec z5=> ?_) (fun s1 aQ au D=> ?_) (fun az aQ au D=> ?_)
   ·clear al
    refine ag.b1 ?_
    refine ch hX fun nd=> ?_
    refine bS 0 cY ?_
    refine ak.nil ?_
    refine ae.begin 1 rfl z5 ?_
    refine ag.block ?_
    refine ag.b1 ?_
    refine bh (iR (i:=4) (q:=0) (β:=List a1) (γ:=a1) GZ (ad rfl) rfl rfl) ?_
    refine bY 0 cY ?_
    refine fQ [w4] Tryz.underlying156 cY hX ?_
    obtain⟨cM,hh,h⟩:=ar h
    refine jv 3 Tryz.underlying156 cY hX hh fun gE e2=> ?_
    refine ak.jm (i:=4) (γ:=a1) (b':=([]:List a1)) (os':= [(0,aZ gE cM.length e2)]) (aI.id (List a1)) GZ (ad rfl) (ad rfl) iu rfl rfl rfl rfl ?_
    refine ak.nil ?_
    refine ae.db ?_
    obtain rfl:=aG h
    exact ae.O7 (gE,e2) 1 rfl
   ·clear al; subst aQ; simp only [Sum.elim_inl] at h
    refine ae.gu (L2:= [⟨some D,.dI⟩,⟨au.1,.row 155 (s1.1:List a1) au.2⟩,⟨some ff,.cC (s1.2:List a1) [(0,aZ au.1 s1.1.length au.2)]⟩,⟨some (iz 10),.var (br.1:a1)⟩,⟨some cz,.var ((default:a1):a1)⟩,⟨none,.dead⟩,⟨some bf,.var (aa:a0)⟩]) rfl ?_
    refine ae.db ?_
    refine ae.next ?_
    refine ag.seq ?_
    refine ag.draw mixed 3 [some 63,some 64,none] [[],[],[0]] [.val _,.val _,.jJ 4 (.var (br.1:a1))] [false,false,true] (by kernel_rfl) rfl rfl rfl (fun HO=>⟨fz 3 cY,df fun aC av=>iR (i:=2) (q:=0) (β:=List a1) (γ:=a1) GZ (ad rfl) (av _ _ rfl (by kernel_rfl)) rfl,⟨_,_,rfl,fun aC av=>oU (i:=4) (aI.id a1) (v:=(br.1:a1)) (b':=(br.1:a1)) cY (ad rfl) (ad rfl) (av _ _ rfl) rfl rfl⟩,trivial⟩) fun HO=> ?_
    refine aH ?_
    refine aH ?_
    refine aJ ?_
    refine ag.ret ?_
    refine ae.sx (β:=List a1) (γ:=a1) (b':=(s1.1:List a1)) (aI.id (List a1)) 2 1 0 7 rfl rfl rfl rfl rfl rfl rfl ?_
    refine ae.nx 2 rfl ?_
    obtain rfl:=aG h
    refine ae.Dl 0 rfl rfl ?_
    exact ae.l5 rfl (dF 4 cY) (fw rfl) (fw rfl)
   ·exact Empty.elim az
theorem Kc {aa:a0} {ai:List aU} {aR:Int} {r:Bool × Int} (h:tv aa ai aR=some r):bn Tryz.prog 49 [I.of (aa),I.of (ai),I.of (aR)] (I.eI [I.of (r.1),I.of (r.2)]):=by
 unfold tv at h
 refine bn.of Tryz.func49 rfl Tryz.ntmps49 rfl fun W A=> ?_
 refine aA ?_
 refine ca fun bf=> ?_
 refine aH ?_
 refine aH ?_
 refine bE ?_
 refine bY 0 eP ?_
 refine ax ?_
 refine ax ?_
 obtain⟨aD,bp,h⟩:=ar h
 refine cH OA (Kb bp) ?_
 refine ax ?_
 refine dG ?_
 refine dG ?_
 refine dG ?_
 refine ch iS fun bw=> ?_
 refine bS 0 ej ?_
 refine aH ?_
 refine aH ?_
 refine bx ?_
 refine aA ?_
 refine ax ?_
 refine a5 mY ?_
 refine aJ ?_
 refine b0 h (fun h=>?_) fun h=>?_
 ·refine aA ?_
  refine ax ?_
  refine aH ?_
  refine aH ?_
  refine aJ ?_
  refine ag.ret ?_
  refine ae.ret ?_
  obtain rfl:=aG h
  exact pa
 ·refine cn ?_
  refine aA ?_
  refine bY 0 ej ?_
  refine ax ?_
  obtain⟨aM,b9,h⟩:=ar h
  refine cH Oz (JV b9) ?_
  refine dG ?_
  refine dG ?_
  refine aH ?_
  refine aH ?_
  refine aJ ?_
  refine ag.ret ?_
  obtain rfl:=aG h
  exact pa
theorem RD {aa:a0} {ai:List aU} {aR:Int} {r:(Vector aw 4) × Bool × Int} (h:vE aa ai aR=some r):bn Tryz.prog 50 [I.of (aa),I.of (ai),I.of (aR)] (I.eI [I.of (r.1),I.of (r.2.1),I.of (r.2.2)]):=by
 unfold vE at h
 refine bn.of Tryz.func50 rfl Tryz.ntmps50 rfl fun W A=> ?_
 refine aA ?_
 refine ca fun bf=> ?_
 refine ch iV fun bw=> ?_
 refine aH ?_
 refine aH ?_
 refine bE ?_
 refine bY 1 eP ?_
 refine ax ?_
 refine ax ?_
 obtain⟨aD,bp,h⟩:=ar h
 refine cH OA (Kb bp) ?_
 refine ax ?_
 refine dG ?_
 refine dG ?_
 refine dG ?_
 refine ch iS fun cz=> ?_
 refine bS 0 ej ?_
 refine aH ?_
 refine aH ?_
 refine bx ?_
 refine aA ?_
 refine ax ?_
 refine a5 mY ?_
 refine aJ ?_
 refine b0 h (fun h=>?_) fun h=>?_
 ·refine aA ?_
  refine bh (oQ (b:=(default:Vector aw 4)) (sz:=2) rfl Tryz.underlying45 (by kernel_rfl) iV (.nil)) ?_
  refine ax ?_
  refine bS 1 dR ?_
  refine aH ?_
  refine aH ?_
  refine aJ ?_
  refine ag.ret ?_
  refine ae.ret ?_
  obtain rfl:=aG h
  exact ae.l5 rfl (dF 1 dR) (fw rfl) (fw rfl)
 ·refine cn ?_
  refine aA ?_
  refine bY 0 ej ?_
  refine ax ?_
  obtain⟨aM,b9,h⟩:=ar h
  refine cH Yd (Rz b9) ?_
  refine dG ?_
  refine dG ?_
  refine dG ?_
  refine bS 1 dR ?_
  refine aH ?_
  refine aH ?_
  refine aJ ?_
  refine ag.ret ?_
  obtain rfl:=aG h
  exact ae.l5 rfl (dF 1 dR) (fw rfl) (fw rfl)
theorem QT {hp:bg Cell} {y:g3} {aa:bL} {r:Int × Bool} (h:EC hp y aa=some r):nu Tryz.prog "matchguard/index.find" (I.of y) [I.of (aa)] ([] ++ bz hp) (δ:=Unit) (fun _=>I.eI [I.of (r.1),I.of (r.2)]) (fun _=> [] ++ bz hp):=by
 cases y with
 | nil=>cases h
 | nB z=>exact nu.of SX (fun A W u hu=>KX hu) (Q1 h)
 | nC z=>exact nu.of SY (fun A W u hu=>KY hu) (QL h)
 | nD z=>exact nu.of SZ (fun A W u hu=>KZ hu) (Q4 h)
end Go.Proofs.YtmnggbjcnoffeaaGreat
namespace Go.Proofs.YtmnggbjcnoffeaaGreat
open Go Gv
set_option linter.unusedVariables false
set_option linter.unusedSimpArgs false
set_option maxRecDepth 100000
set_option maxHeartbeats 2000000
theorem RE {hp:bg Cell} {aa:Ref} {ai:aw} {aR:Int} {cQ:Int} {Q:Bool × (bg Cell)→Prop} (h:vF hp aa ai aR cQ Q):cG Tryz.prog 244 [I.of (aa),I.of (ai),I.of (aR),I.of (cQ)] ([] ++ bz hp) (δ:= {r:Bool × (bg Cell) // Q r} × Unit) (fun d=>I.of (d.1.1.1)) (fun d=> [] ++ bz d.1.1.2):=by
 unfold vF at h
 refine cG.ofM Tryz.func244 rfl Tryz.ntmps244 rfl fun W A=> ?_
 refine aA ?_
 refine ca fun bf=> ?_
 refine aH ?_
 refine bx ?_
 refine aA ?_
 refine ax ?_
 refine bY 0 bT ?_
 refine ax ?_
 obtain⟨aD,bp,h⟩:=aK.c4 h
 refine ak.qd (jx.sv 1 rfl NF (JJ bp) ⟨ad rfl,ad rfl,ad rfl,trivial⟩) rfl rfl rfl ?_
 refine aY iT ?_
 refine aJ ?_
 refine ag.cond (ad rfl) (fun ao=> ?_) (fun ao=> ?_)
 ·replace h:=qD ao h
  refine aA ?_
  refine aH ?_
  refine aJ ?_
  refine ag.ret ?_
  refine ae.ret ?_
  refine ae.zM ?_
  exact ae.ha (⟨⟨(false,hp),h⟩,()⟩: {r // _} × _) (.cons _ (.refl _)) rfl rfl (gf rfl)
 ·replace h:=qE ao h
  refine cn ?_
  refine ag.seq ?_
  refine aA ?_
  refine ax ?_
  refine bY 0 bT ?_
  refine ax ?_
  obtain⟨aM,b9,h⟩:=aK.c4 h
  refine ak.qd (jx.sv 1 rfl NJ (JP b9) ⟨ad rfl,ad rfl,ad rfl,trivial⟩) rfl rfl rfl ?_
  refine aH ?_
  refine bE ?_
  refine ax ?_
  refine bh (KV Tryz.underlying331 (ad rfl)) ?_
  refine ax ?_
  refine eg cN ?_
  obtain⟨dT,fY,h⟩:=aK.c4 h
  refine eN (fun hb=>fV (ht (ct rfl hb) (fE fY hb))) ?_
  refine eg (a2 we) ?_
  obtain⟨cZ,hz,h⟩:=aK.c4 h
  refine eN (fun hb=>kk ((aI.id eX).comp vt) (r:=cZ.fv) hR (ct rfl hb) (iH (n:=1) rfl (nt (fE hz hb)) rfl) rfl rfl) ?_
  refine j4 ?_
  refine aJ ?_
  refine ag.cond (ad rfl) (fun ao=> ?_) (fun ao=> ?_)
  ·replace h:=qD ao h
   refine aA ?_
   refine aH ?_
   refine aJ ?_
   refine ag.ret ?_
   refine ae.ret ?_
   refine ae.zM ?_
   exact ae.ha (⟨⟨(false,hp),h⟩,()⟩: {r // _} × _) (.cons _ (.refl _)) rfl rfl (gf rfl)
  ·replace h:=qE ao h
   refine cn ?_
   refine ag.seq ?_
   refine aA ?_
   refine ax ?_
   obtain⟨cT,hI,h⟩:=aK.c4 h
   refine bh (fV (ht (ad rfl) hI)) ?_
   refine aY (a2 Cv) ?_
   obtain⟨dX,iZ,h⟩:=aK.c4 h
   refine bh (kk ((aI.id gA).comp BF) (r:=dX.dr) fX (ad rfl) (iH (n:=1) rfl (qK iZ) rfl) rfl rfl) ?_
   refine bh (sa Tryz.underlying331 (ad rfl)) ?_
   refine aJ ?_
   refine ag.y9 (γ:=Unit) h (fun bJ au=> [(0,I.of (aa)),(1,I.of (ai)),(2,I.of (aR)),(3,I.of (cQ)),(5,I.eq (.pointer (some ⟨bf,0,none⟩))),(8,I.of (false)),(9,I.of (aM)),(16,I.of (!aD)),(28,I.of (aM.isSome && cZ.fv)),(33,I.of (dX.dr.isNone))]) (fun bJ au=>(⟨some bf,.var (ai:aw)⟩ :: bz bJ)) (ad rfl) (fun bJ au h=> ?_) (fun hm ao h=> ?_) (fun hm ao h=> ?_)
   ·refine ae.next ?_
    refine aA ?_
    refine ax ?_
    refine bh (fV (ht (ad rfl) hI)) ?_
    refine aY (a2 Cv) ?_
    obtain⟨gx,mz,h⟩:=aK.c4 h
    refine bh (kk ((aI.id gA).comp BF) (r:=gx.dr) fX (ad rfl) (iH (n:=1) rfl (qK mz) rfl) rfl rfl) ?_
    refine ch GV fun bw=> ?_
    refine bS 0 fX ?_
    refine bx ?_
    refine aA ?_
    refine ax ?_
    refine bY 1 bT ?_
    refine ax ?_
    obtain⟨a8,dP,h⟩:=aK.c4 h
    refine cH NG (JO dP) ?_
    refine aJ ?_
    refine ag.block ?_
    refine S0 (σ:=Ref × (bg Cell)) (ε:=Empty) (γ:=Unit) (g0:=()) (Ls:=fun s2 bq=>(⟨some bw,.var (s2.1:Ref)⟩ :: ⟨some bf,.var (ai:aw)⟩ :: bz s2.2)) (Lx:=fun ck bq=>Empty.elim ck) (hq:=fun s2=>s2.2) (fun s2 bq=> [⟨some bw,.var (s2.1:Ref)⟩,⟨some bf,.var (ai:aw)⟩]) (fun ck=>Empty.elim ck) rfl NH rfl QR h (fun _ _=>rfl) rfl rfl (fun w5 s2 R h bq ld lu lf l D rec z5=> ?_) (fun s2 h bq D=> ?_) (fun ck h bq D=> ?_)
    ·refine ag.b1 ?_
     refine aH ?_
     refine ak.nil ?_
     refine ae.begin 0 rfl z5 ?_
     refine ag.block ?_
     refine ag.seq ?_
     refine aA ?_
     refine bY 2 fX ?_
     refine ax ?_
     obtain⟨qf,z6,h⟩:=aK.c4 h
     refine bh (fV (ht (ad rfl) z6)) ?_
     refine aY (a2 Cw) ?_
     obtain⟨aV,b4,h⟩:=aK.c4 h
     refine bh (dc (k:=aV) C8 (ad rfl) (ad rfl) (bC b4)) ?_
     obtain⟨qg,HP,h⟩:=aK.c4 h
     refine bh (kk (((aI.id eX).comp Bk).comp (aI.idx (α:=Ref) 2 aV (bC b4).1)) (r:=bd qg.fu aV) fX (ad rfl) (iH (n:=4) rfl (nt HP) rfl) rfl rfl) ?_
     refine bh (sa Tryz.underlying331 (ad rfl)) ?_
     refine aJ ?_
     refine ag.y9 (γ:=Unit) h (fun cy cx=> [(0,I.of (aa)),(1,I.of (ai)),(2,I.of (aR)),(3,I.of (cQ)),(5,I.eq (.pointer (some ⟨bf,0,none⟩))),(8,I.of (false)),(9,I.of (aM)),(10,I.eq (.pointer (some ⟨bw,0,none⟩))),(11,I.of (w5)),(16,I.of (!aD)),(28,I.of (aM.isSome && cZ.fv)),(33,I.of (dX.dr.isNone)),(46,I.hy 255 [I.ptr a8.1,I.ptr a8.2.1,I.ptr a8.2.2]),(47,I.of (w5)),(54,I.of ((bd qg.fu aV).isNone))]) (fun cy cx=>(⟨some l,.is (.loop { rec with state:= .busy })⟩ :: ⟨some D,.dI⟩ :: ⟨some bw,.var (s2.1:Ref)⟩ :: ⟨some bf,.var (ai:aw)⟩ :: bz cy)) (ad rfl) (fun cy cx h=> ?_) (fun hm ao h=> ?_) (fun hm ao h=> ?_)
     ·refine ae.next ?_
      refine ag.b1 ?_
      refine bY 2 fX ?_
      refine ax ?_
      refine bh (fV (ht (ad rfl) z6)) ?_
      refine aY (a2 Cw) ?_
      obtain⟨bu,cD,h⟩:=aK.c4 h
      refine bh (dc (k:=bu) C8 (ad rfl) (ad rfl) (bC cD)) ?_
      obtain⟨u7,HQ,h⟩:=aK.c4 h
      refine bh (kk (((aI.id eX).comp Bk).comp (aI.idx (α:=Ref) 2 bu (bC cD).1)) (r:=bd u7.fu bu) fX (ad rfl) (iH (n:=4) rfl (nt HQ) rfl) rfl rfl) ?_
      refine bS 2 fX ?_
      refine ak.nil ?_
      refine ae.db ?_
      exact ae.Ye h () 0 rfl
     ·refine ag.b1 ?_
      refine bY 2 fX ?_
      refine ax ?_
      refine hH NN NO (default:eX) .nil ?_
      refine ak.zz 4 rfl (Cell.hf (default:eX)) (fun _=>rfl) (ad rfl) rfl fun eL uL=> ?_
      replace h:=aK.se h eL uL
      refine bh (fV (ht (ad rfl) z6)) ?_
      refine aY (a2 Cw) ?_
      obtain⟨cb,eu,h⟩:=aK.c4 h
      refine bh (dc (k:=cb) C8 (ad rfl) (ad rfl) (bC eu)) ?_
      obtain⟨rF,HR,h⟩:=aK.c4 h
      obtain⟨dZ,o6,h⟩:=aK.c4 h
      refine ak.pN (k':=Cell.hf ({ rF with fu:=cq rF.fu cb (some eL.1:Ref) } :eX)) 4 rfl (((aI.id eX).comp Bk).comp (aI.idx (α:=Ref) 2 cb (bC eu).1)) (v:=((some eL.1:Ref):Ref)) fX (ad rfl) (ad rfl) (nt HR) rfl rfl rfl rfl (aG o6) ?_
      refine ak.nil ?_
      exact dj 0 (hm dZ () h)
     ·refine ag.skip ?_
      exact dj 0 (hm s2.2 () h)
    ·simp only [Sum.elim_inl] at h
     refine ae.gu (L2:=(⟨some D,.dI⟩ :: ⟨some bw,.var (s2.1:Ref)⟩ :: ⟨some bf,.var (ai:aw)⟩ :: bz s2.2)) rfl ?_
     refine ae.db ?_
     refine ae.next ?_
     refine ag.seq ?_
     obtain⟨jA,DG,h⟩:=aK.c4 h
     obtain⟨xg,DH,h⟩:=aK.c4 h
     obtain⟨e1,wS,h⟩:=aK.c4 h
     refine ag.WG mixed 9 (Array.mk (false :: false :: false :: false :: false :: false :: false :: false :: false :: [])) rfl rfl ?_
     refine c1.cut (γ:=Unit) 3 (Array.mk (true :: true :: true :: true :: true :: true :: false :: false :: false :: [])) (fun MF=> [(0,I.of (aa)),(1,I.of (ai)),(2,I.of (aR)),(3,I.of (cQ)),(5,I.eq (.pointer (some ⟨bf,0,none⟩))),(8,I.of (false)),(9,I.of (aM)),(10,I.eq (.pointer (some ⟨bw,0,none⟩))),(16,I.of (!aD)),(28,I.of (aM.isSome && cZ.fv)),(33,I.of (dX.dr.isNone)),(39,I.of (aa)),(40,I.eq (.pointer (some ⟨cT,0,none⟩))),(41,I.eq (.pointer (some ⟨cT,0 + 1,none⟩))),(42,I.of (gx.dr)),(43,I.of (aa)),(44,I.of (ai)),(45,I.of (aR)),(46,I.hy 255 [I.ptr a8.1,I.ptr a8.2.1,I.ptr a8.2.2]),(68,I.of (s2.1)),(69,I.of (s2.1)),(70,I.of (cQ)),(71,I.eq (.pointer (some ⟨jA,0,none⟩))),(72,I.eq (.pointer (some ⟨jA,0 + 2,none⟩)))]) (fun MF=>(⟨some D,.dI⟩ :: ⟨some bw,.var (s2.1:Ref)⟩ :: ⟨some bf,.var (ai:aw)⟩ :: bz e1)) (fun MF=> ?_) (fun G0=> ?_)
     ·refine c1.tail 6 rfl (by kernel_rfl) ?_
      obtain⟨I3,Za,h⟩:=aK.c4 h
      refine bh (fV (ht (ad rfl) Za)) ?_
      refine aY (a2 LY) ?_
      obtain⟨I4,Zb,h⟩:=aK.c4 h
      obtain⟨iA,Hm,h⟩:=aK.c4 h
      refine ak.pN (k':=Cell.hf ({ I4 with nA:=cQ } :eX)) 3 rfl ((aI.id eX).comp JK) (v:=(cQ:Int)) bM (ad rfl) (ad rfl) (nt Zb) rfl rfl rfl rfl (aG Hm) ?_
      refine bE ?_
      refine aH ?_
      refine aJ ?_
      refine ag.ret ?_
      refine ae.Dl 0 rfl rfl ?_
      exact ae.ha (⟨⟨(true,iA),h⟩,()⟩: {r // _} × _) (.cons _ (.cons _ (.cons _ (.refl _)))) rfl rfl (gf rfl)
     refine c1.cut (γ:=Unit) 4 (Array.mk (true :: false :: true :: true :: true :: true :: false :: false :: false :: [])) (fun MG=> [(0,I.of (aa)),(1,I.of (ai)),(2,I.of (aR)),(3,I.of (cQ)),(5,I.eq (.pointer (some ⟨bf,0,none⟩))),(8,I.of (false)),(9,I.of (aM)),(10,I.eq (.pointer (some ⟨bw,0,none⟩))),(16,I.of (!aD)),(28,I.of (aM.isSome && cZ.fv)),(33,I.of (dX.dr.isNone)),(39,I.of (aa)),(40,I.eq (.pointer (some ⟨cT,0,none⟩))),(41,I.eq (.pointer (some ⟨cT,0 + 1,none⟩))),(42,I.of (gx.dr)),(43,I.of (aa)),(44,I.of (ai)),(45,I.of (aR)),(46,I.hy 255 [I.ptr a8.1,I.ptr a8.2.1,I.ptr a8.2.2]),(68,I.of (s2.1)),(70,I.of (cQ)),(71,I.eq (.pointer (some ⟨jA,0,none⟩))),(72,I.eq (.pointer (some ⟨jA,0 + 2,none⟩)))]) (fun MG=>(⟨some D,.dI⟩ :: ⟨some bw,.var (s2.1:Ref)⟩ :: ⟨some bf,.var (ai:aw)⟩ :: bz e1)) (fun MG=> ?_) (fun NP=> ?_)
     ·clear h
      refine c1.step [1] (by kernel_rfl) rfl ⟨⟨_,rfl,?_⟩,trivial⟩
      ·refine bY 1 fX ?_
       refine ak.nil ?_
       exact ae.any rfl (c1.le (.same rfl (.same rfl (.same rfl (.same rfl (.same rfl (.same rfl (.same rfl (.same rfl (.same rfl (.same rfl (.same rfl (.same rfl (.same rfl (.same rfl (.same rfl (.same rfl (.same rfl (.same rfl (.same rfl (.same rfl (.same rfl (.same rfl (.same rfl (.same rfl .nil)))))))))))))))))))))))) (G0 ()))
     refine c1.cut (γ:=Unit) 4 (Array.mk (true :: true :: false :: true :: true :: true :: false :: false :: false :: [])) (fun MH=> [(0,I.of (aa)),(1,I.of (ai)),(2,I.of (aR)),(3,I.of (cQ)),(5,I.eq (.pointer (some ⟨bf,0,none⟩))),(8,I.of (false)),(9,I.of (aM)),(10,I.eq (.pointer (some ⟨bw,0,none⟩))),(16,I.of (!aD)),(28,I.of (aM.isSome && cZ.fv)),(33,I.of (dX.dr.isNone)),(39,I.of (aa)),(40,I.eq (.pointer (some ⟨cT,0,none⟩))),(41,I.eq (.pointer (some ⟨cT,0 + 1,none⟩))),(42,I.of (gx.dr)),(43,I.of (aa)),(44,I.of (ai)),(45,I.of (aR)),(46,I.hy 255 [I.ptr a8.1,I.ptr a8.2.1,I.ptr a8.2.2]),(68,I.of (s2.1)),(69,I.of (s2.1)),(71,I.eq (.pointer (some ⟨jA,0,none⟩))),(72,I.eq (.pointer (some ⟨jA,0 + 2,none⟩)))]) (fun MH=>(⟨some D,.dI⟩ :: ⟨some bw,.var (s2.1:Ref)⟩ :: ⟨some bf,.var (ai:aw)⟩ :: bz e1)) (fun MH=> ?_) (fun NQ=> ?_)
     ·clear h
      refine c1.step [2] (by kernel_rfl) rfl ⟨⟨_,rfl,?_⟩,trivial⟩
      ·refine ax ?_
       refine ak.nil ?_
       exact ae.any rfl (c1.le (.same rfl (.same rfl (.same rfl (.same rfl (.same rfl (.same rfl (.same rfl (.same rfl (.same rfl (.same rfl (.same rfl (.same rfl (.same rfl (.same rfl (.same rfl (.same rfl (.same rfl (.same rfl (.same rfl (.same rfl (.same rfl (.same rfl (.same rfl (.same rfl .nil)))))))))))))))))))))))) (G0 ()))
     refine c1.cut (γ:=Unit) 4 (Array.mk (true :: true :: true :: true :: true :: false :: false :: false :: false :: [])) (fun MI=> [(0,I.of (aa)),(1,I.of (ai)),(2,I.of (aR)),(3,I.of (cQ)),(5,I.eq (.pointer (some ⟨bf,0,none⟩))),(8,I.of (false)),(9,I.of (aM)),(10,I.eq (.pointer (some ⟨bw,0,none⟩))),(16,I.of (!aD)),(28,I.of (aM.isSome && cZ.fv)),(33,I.of (dX.dr.isNone)),(39,I.of (aa)),(40,I.eq (.pointer (some ⟨cT,0,none⟩))),(41,I.eq (.pointer (some ⟨cT,0 + 1,none⟩))),(42,I.of (gx.dr)),(43,I.of (aa)),(44,I.of (ai)),(45,I.of (aR)),(46,I.hy 255 [I.ptr a8.1,I.ptr a8.2.1,I.ptr a8.2.2]),(68,I.of (s2.1)),(69,I.of (s2.1)),(70,I.of (cQ)),(71,I.eq (.pointer (some ⟨jA,0,none⟩))),(72,I.eq (.pointer (some ⟨jA,0 + 2,none⟩)))]) (fun MI=>(⟨some D,.dI⟩ :: ⟨some bw,.var (s2.1:Ref)⟩ :: ⟨some bf,.var (ai:aw)⟩ :: bz s2.2)) (fun MI=> ?_) (fun G1=> ?_)
     ·clear h
      refine c1.step [5] (by kernel_rfl) rfl ⟨⟨_,rfl,?_⟩,trivial⟩
      ·refine ak.pN (k':=Cell.hf ({ xg with fv:=true } :eX)) 3 rfl ((aI.id eX).comp vt) (v:=(true:Bool)) hR (ad rfl) (fN true) (nt DH) rfl rfl rfl rfl (aG wS) ?_
       refine ak.nil ?_
       exact ae.any rfl (c1.le (.same rfl (.same rfl (.same rfl (.same rfl (.same rfl (.same rfl (.same rfl (.same rfl (.same rfl (.same rfl (.same rfl (.same rfl (.same rfl (.same rfl (.same rfl (.same rfl (.same rfl (.same rfl (.same rfl (.same rfl (.same rfl (.same rfl (.same rfl (.same rfl .nil)))))))))))))))))))))))) (G0 ()))
     refine c1.cut (γ:=Unit) 5 (Array.mk (true :: false :: false :: true :: true :: true :: false :: false :: false :: [])) (fun MJ=> [(0,I.of (aa)),(1,I.of (ai)),(2,I.of (aR)),(3,I.of (cQ)),(5,I.eq (.pointer (some ⟨bf,0,none⟩))),(8,I.of (false)),(9,I.of (aM)),(10,I.eq (.pointer (some ⟨bw,0,none⟩))),(16,I.of (!aD)),(28,I.of (aM.isSome && cZ.fv)),(33,I.of (dX.dr.isNone)),(39,I.of (aa)),(40,I.eq (.pointer (some ⟨cT,0,none⟩))),(41,I.eq (.pointer (some ⟨cT,0 + 1,none⟩))),(42,I.of (gx.dr)),(43,I.of (aa)),(44,I.of (ai)),(45,I.of (aR)),(46,I.hy 255 [I.ptr a8.1,I.ptr a8.2.1,I.ptr a8.2.2]),(68,I.of (s2.1)),(71,I.eq (.pointer (some ⟨jA,0,none⟩))),(72,I.eq (.pointer (some ⟨jA,0 + 2,none⟩)))]) (fun MJ=>(⟨some D,.dI⟩ :: ⟨some bw,.var (s2.1:Ref)⟩ :: ⟨some bf,.var (ai:aw)⟩ :: bz e1)) (fun MJ=> ?_) (fun WH=> ?_)
     ·clear h
      refine c1.step [1,2] (by kernel_rfl) rfl ⟨⟨_,rfl,?_⟩,⟨_,rfl,?_⟩,trivial⟩
      ·refine bY 1 fX ?_
       refine ak.nil ?_
       exact ae.any rfl (c1.le (.same rfl (.same rfl (.same rfl (.same rfl (.same rfl (.same rfl (.same rfl (.same rfl (.same rfl (.same rfl (.same rfl (.same rfl (.same rfl (.same rfl (.same rfl (.same rfl (.same rfl (.same rfl (.same rfl (.same rfl (.same rfl (.same rfl (.same rfl .nil))))))))))))))))))))))) (NQ ()))
      ·refine ax ?_
       refine ak.nil ?_
       exact ae.any rfl (c1.le (.same rfl (.same rfl (.same rfl (.same rfl (.same rfl (.same rfl (.same rfl (.same rfl (.same rfl (.same rfl (.same rfl (.same rfl (.same rfl (.same rfl (.same rfl (.same rfl (.same rfl (.same rfl (.same rfl (.same rfl (.same rfl (.same rfl (.same rfl .nil))))))))))))))))))))))) (NP ()))
     refine c1.cut (γ:=Unit) 5 (Array.mk (true :: false :: true :: true :: true :: false :: false :: false :: false :: [])) (fun MK=> [(0,I.of (aa)),(1,I.of (ai)),(2,I.of (aR)),(3,I.of (cQ)),(5,I.eq (.pointer (some ⟨bf,0,none⟩))),(8,I.of (false)),(9,I.of (aM)),(10,I.eq (.pointer (some ⟨bw,0,none⟩))),(16,I.of (!aD)),(28,I.of (aM.isSome && cZ.fv)),(33,I.of (dX.dr.isNone)),(39,I.of (aa)),(40,I.eq (.pointer (some ⟨cT,0,none⟩))),(41,I.eq (.pointer (some ⟨cT,0 + 1,none⟩))),(42,I.of (gx.dr)),(43,I.of (aa)),(44,I.of (ai)),(45,I.of (aR)),(46,I.hy 255 [I.ptr a8.1,I.ptr a8.2.1,I.ptr a8.2.2]),(68,I.of (s2.1)),(70,I.of (cQ)),(71,I.eq (.pointer (some ⟨jA,0,none⟩))),(72,I.eq (.pointer (some ⟨jA,0 + 2,none⟩)))]) (fun MK=>(⟨some D,.dI⟩ :: ⟨some bw,.var (s2.1:Ref)⟩ :: ⟨some bf,.var (ai:aw)⟩ :: bz s2.2)) (fun MK=> ?_) (fun NR=> ?_)
     ·clear h
      refine c1.step [1,5] (by kernel_rfl) rfl ⟨⟨_,rfl,?_⟩,⟨_,rfl,?_⟩,trivial⟩
      ·refine bY 1 fX ?_
       refine ak.nil ?_
       exact ae.any rfl (c1.le (.same rfl (.same rfl (.same rfl (.same rfl (.same rfl (.same rfl (.same rfl (.same rfl (.same rfl (.same rfl (.same rfl (.same rfl (.same rfl (.same rfl (.same rfl (.same rfl (.same rfl (.same rfl (.same rfl (.same rfl (.same rfl (.same rfl (.same rfl (.same rfl .nil)))))))))))))))))))))))) (G1 ()))
      ·refine ak.pN (k':=Cell.hf ({ xg with fv:=true } :eX)) 3 rfl ((aI.id eX).comp vt) (v:=(true:Bool)) hR (ad rfl) (fN true) (nt DH) rfl rfl rfl rfl (aG wS) ?_
       refine ak.nil ?_
       exact ae.any rfl (c1.le (.same rfl (.same rfl (.same rfl (.same rfl (.same rfl (.same rfl (.same rfl (.same rfl (.same rfl (.same rfl (.same rfl (.same rfl (.same rfl (.same rfl (.same rfl (.same rfl (.same rfl (.same rfl (.same rfl (.same rfl (.same rfl (.same rfl (.same rfl .nil))))))))))))))))))))))) (NP ()))
     refine c1.cut (γ:=Unit) 5 (Array.mk (true :: true :: false :: true :: true :: false :: false :: false :: false :: [])) (fun ML=> [(0,I.of (aa)),(1,I.of (ai)),(2,I.of (aR)),(3,I.of (cQ)),(5,I.eq (.pointer (some ⟨bf,0,none⟩))),(8,I.of (false)),(9,I.of (aM)),(10,I.eq (.pointer (some ⟨bw,0,none⟩))),(16,I.of (!aD)),(28,I.of (aM.isSome && cZ.fv)),(33,I.of (dX.dr.isNone)),(39,I.of (aa)),(40,I.eq (.pointer (some ⟨cT,0,none⟩))),(41,I.eq (.pointer (some ⟨cT,0 + 1,none⟩))),(42,I.of (gx.dr)),(43,I.of (aa)),(44,I.of (ai)),(45,I.of (aR)),(46,I.hy 255 [I.ptr a8.1,I.ptr a8.2.1,I.ptr a8.2.2]),(68,I.of (s2.1)),(69,I.of (s2.1)),(71,I.eq (.pointer (some ⟨jA,0,none⟩))),(72,I.eq (.pointer (some ⟨jA,0 + 2,none⟩)))]) (fun ML=>(⟨some D,.dI⟩ :: ⟨some bw,.var (s2.1:Ref)⟩ :: ⟨some bf,.var (ai:aw)⟩ :: bz s2.2)) (fun ML=> ?_) (fun NS=> ?_)
     ·clear h
      refine c1.step [2,5] (by kernel_rfl) rfl ⟨⟨_,rfl,?_⟩,⟨_,rfl,?_⟩,trivial⟩
      ·refine ax ?_
       refine ak.nil ?_
       exact ae.any rfl (c1.le (.same rfl (.same rfl (.same rfl (.same rfl (.same rfl (.same rfl (.same rfl (.same rfl (.same rfl (.same rfl (.same rfl (.same rfl (.same rfl (.same rfl (.same rfl (.same rfl (.same rfl (.same rfl (.same rfl (.same rfl (.same rfl (.same rfl (.same rfl (.same rfl .nil)))))))))))))))))))))))) (G1 ()))
      ·refine ak.pN (k':=Cell.hf ({ xg with fv:=true } :eX)) 3 rfl ((aI.id eX).comp vt) (v:=(true:Bool)) hR (ad rfl) (fN true) (nt DH) rfl rfl rfl rfl (aG wS) ?_
       refine ak.nil ?_
       exact ae.any rfl (c1.le (.same rfl (.same rfl (.same rfl (.same rfl (.same rfl (.same rfl (.same rfl (.same rfl (.same rfl (.same rfl (.same rfl (.same rfl (.same rfl (.same rfl (.same rfl (.same rfl (.same rfl (.same rfl (.same rfl (.same rfl (.same rfl (.same rfl (.same rfl .nil))))))))))))))))))))))) (NQ ()))
     refine c1.cut (γ:=Unit) 5 (Array.mk (true :: true :: true :: true :: false :: false :: false :: false :: false :: [])) (fun MM=> [(0,I.of (aa)),(1,I.of (ai)),(2,I.of (aR)),(3,I.of (cQ)),(5,I.eq (.pointer (some ⟨bf,0,none⟩))),(8,I.of (false)),(9,I.of (aM)),(10,I.eq (.pointer (some ⟨bw,0,none⟩))),(16,I.of (!aD)),(28,I.of (aM.isSome && cZ.fv)),(33,I.of (dX.dr.isNone)),(39,I.of (aa)),(40,I.eq (.pointer (some ⟨cT,0,none⟩))),(41,I.eq (.pointer (some ⟨cT,0 + 1,none⟩))),(42,I.of (gx.dr)),(43,I.of (aa)),(44,I.of (ai)),(45,I.of (aR)),(46,I.hy 255 [I.ptr a8.1,I.ptr a8.2.1,I.ptr a8.2.2]),(68,I.of (s2.1)),(69,I.of (s2.1)),(70,I.of (cQ)),(71,I.eq (.pointer (some ⟨jA,0,none⟩)))]) (fun MM=>(⟨some D,.dI⟩ :: ⟨some bw,.var (s2.1:Ref)⟩ :: ⟨some bf,.var (ai:aw)⟩ :: bz s2.2)) (fun MM=> ?_) (fun G2=> ?_)
     ·clear h
      refine c1.step [4] (by kernel_rfl) rfl ⟨⟨_,rfl,?_⟩,trivial⟩
      ·refine aY (a2 we) ?_
       refine ak.nil ?_
       exact ae.any rfl (c1.le (.same rfl (.same rfl (.same rfl (.same rfl (.same rfl (.same rfl (.same rfl (.same rfl (.same rfl (.same rfl (.same rfl (.same rfl (.same rfl (.same rfl (.same rfl (.same rfl (.same rfl (.same rfl (.same rfl (.same rfl (.same rfl (.same rfl (.same rfl (.same rfl .nil)))))))))))))))))))))))) (G1 ()))
     refine c1.cut (γ:=Unit) 6 (Array.mk (true :: false :: false :: true :: true :: false :: false :: false :: false :: [])) (fun MN=> [(0,I.of (aa)),(1,I.of (ai)),(2,I.of (aR)),(3,I.of (cQ)),(5,I.eq (.pointer (some ⟨bf,0,none⟩))),(8,I.of (false)),(9,I.of (aM)),(10,I.eq (.pointer (some ⟨bw,0,none⟩))),(16,I.of (!aD)),(28,I.of (aM.isSome && cZ.fv)),(33,I.of (dX.dr.isNone)),(39,I.of (aa)),(40,I.eq (.pointer (some ⟨cT,0,none⟩))),(41,I.eq (.pointer (some ⟨cT,0 + 1,none⟩))),(42,I.of (gx.dr)),(43,I.of (aa)),(44,I.of (ai)),(45,I.of (aR)),(46,I.hy 255 [I.ptr a8.1,I.ptr a8.2.1,I.ptr a8.2.2]),(68,I.of (s2.1)),(71,I.eq (.pointer (some ⟨jA,0,none⟩))),(72,I.eq (.pointer (some ⟨jA,0 + 2,none⟩)))]) (fun MN=>(⟨some D,.dI⟩ :: ⟨some bw,.var (s2.1:Ref)⟩ :: ⟨some bf,.var (ai:aw)⟩ :: bz s2.2)) (fun MN=> ?_) (fun WI=> ?_)
     ·clear h
      refine c1.step [1,2,5] (by kernel_rfl) rfl ⟨⟨_,rfl,?_⟩,⟨_,rfl,?_⟩,⟨_,rfl,?_⟩,trivial⟩
      ·refine bY 1 fX ?_
       refine ak.nil ?_
       exact ae.any rfl (c1.le (.same rfl (.same rfl (.same rfl (.same rfl (.same rfl (.same rfl (.same rfl (.same rfl (.same rfl (.same rfl (.same rfl (.same rfl (.same rfl (.same rfl (.same rfl (.same rfl (.same rfl (.same rfl (.same rfl (.same rfl (.same rfl (.same rfl (.same rfl .nil))))))))))))))))))))))) (NS ()))
      ·refine ax ?_
       refine ak.nil ?_
       exact ae.any rfl (c1.le (.same rfl (.same rfl (.same rfl (.same rfl (.same rfl (.same rfl (.same rfl (.same rfl (.same rfl (.same rfl (.same rfl (.same rfl (.same rfl (.same rfl (.same rfl (.same rfl (.same rfl (.same rfl (.same rfl (.same rfl (.same rfl (.same rfl (.same rfl .nil))))))))))))))))))))))) (NR ()))
      ·refine ak.pN (k':=Cell.hf ({ xg with fv:=true } :eX)) 3 rfl ((aI.id eX).comp vt) (v:=(true:Bool)) hR (ad rfl) (fN true) (nt DH) rfl rfl rfl rfl (aG wS) ?_
       refine ak.nil ?_
       exact ae.any rfl (c1.le (.same rfl (.same rfl (.same rfl (.same rfl (.same rfl (.same rfl (.same rfl (.same rfl (.same rfl (.same rfl (.same rfl (.same rfl (.same rfl (.same rfl (.same rfl (.same rfl (.same rfl (.same rfl (.same rfl (.same rfl (.same rfl (.same rfl .nil)))))))))))))))))))))) (WH ()))
     refine c1.cut (γ:=Unit) 6 (Array.mk (true :: false :: true :: true :: false :: false :: false :: false :: false :: [])) (fun MO=> [(0,I.of (aa)),(1,I.of (ai)),(2,I.of (aR)),(3,I.of (cQ)),(5,I.eq (.pointer (some ⟨bf,0,none⟩))),(8,I.of (false)),(9,I.of (aM)),(10,I.eq (.pointer (some ⟨bw,0,none⟩))),(16,I.of (!aD)),(28,I.of (aM.isSome && cZ.fv)),(33,I.of (dX.dr.isNone)),(39,I.of (aa)),(40,I.eq (.pointer (some ⟨cT,0,none⟩))),(41,I.eq (.pointer (some ⟨cT,0 + 1,none⟩))),(42,I.of (gx.dr)),(43,I.of (aa)),(44,I.of (ai)),(45,I.of (aR)),(46,I.hy 255 [I.ptr a8.1,I.ptr a8.2.1,I.ptr a8.2.2]),(68,I.of (s2.1)),(70,I.of (cQ)),(71,I.eq (.pointer (some ⟨jA,0,none⟩)))]) (fun MO=>(⟨some D,.dI⟩ :: ⟨some bw,.var (s2.1:Ref)⟩ :: ⟨some bf,.var (ai:aw)⟩ :: bz s2.2)) (fun MO=> ?_) (fun NT=> ?_)
     ·clear h
      refine c1.step [1,4] (by kernel_rfl) rfl ⟨⟨_,rfl,?_⟩,⟨_,rfl,?_⟩,trivial⟩
      ·refine bY 1 fX ?_
       refine ak.nil ?_
       exact ae.any rfl (c1.le (.same rfl (.same rfl (.same rfl (.same rfl (.same rfl (.same rfl (.same rfl (.same rfl (.same rfl (.same rfl (.same rfl (.same rfl (.same rfl (.same rfl (.same rfl (.same rfl (.same rfl (.same rfl (.same rfl (.same rfl (.same rfl (.same rfl (.same rfl .nil))))))))))))))))))))))) (G2 ()))
      ·refine aY (a2 we) ?_
       refine ak.nil ?_
       exact ae.any rfl (c1.le (.same rfl (.same rfl (.same rfl (.same rfl (.same rfl (.same rfl (.same rfl (.same rfl (.same rfl (.same rfl (.same rfl (.same rfl (.same rfl (.same rfl (.same rfl (.same rfl (.same rfl (.same rfl (.same rfl (.same rfl (.same rfl (.same rfl (.same rfl .nil))))))))))))))))))))))) (NR ()))
     refine c1.cut (γ:=Unit) 6 (Array.mk (true :: true :: false :: true :: false :: false :: false :: false :: false :: [])) (fun NU=> [(0,I.of (aa)),(1,I.of (ai)),(2,I.of (aR)),(3,I.of (cQ)),(5,I.eq (.pointer (some ⟨bf,0,none⟩))),(8,I.of (false)),(9,I.of (aM)),(10,I.eq (.pointer (some ⟨bw,0,none⟩))),(16,I.of (!aD)),(28,I.of (aM.isSome && cZ.fv)),(33,I.of (dX.dr.isNone)),(39,I.of (aa)),(40,I.eq (.pointer (some ⟨cT,0,none⟩))),(41,I.eq (.pointer (some ⟨cT,0 + 1,none⟩))),(42,I.of (gx.dr)),(43,I.of (aa)),(44,I.of (ai)),(45,I.of (aR)),(46,I.hy 255 [I.ptr a8.1,I.ptr a8.2.1,I.ptr a8.2.2]),(68,I.of (s2.1)),(69,I.of (s2.1)),(71,I.eq (.pointer (some ⟨jA,0,none⟩)))]) (fun NU=>(⟨some D,.dI⟩ :: ⟨some bw,.var (s2.1:Ref)⟩ :: ⟨some bf,.var (ai:aw)⟩ :: bz s2.2)) (fun NU=> ?_) (fun OB=> ?_)
     ·clear h
      refine c1.step [2,4] (by kernel_rfl) rfl ⟨⟨_,rfl,?_⟩,⟨_,rfl,?_⟩,trivial⟩
      ·refine ax ?_
       refine ak.nil ?_
       exact ae.any rfl (c1.le (.same rfl (.same rfl (.same rfl (.same rfl (.same rfl (.same rfl (.same rfl (.same rfl (.same rfl (.same rfl (.same rfl (.same rfl (.same rfl (.same rfl (.same rfl (.same rfl (.same rfl (.same rfl (.same rfl (.same rfl (.same rfl (.same rfl (.same rfl .nil))))))))))))))))))))))) (G2 ()))
      ·refine aY (a2 we) ?_
       refine ak.nil ?_
       exact ae.any rfl (c1.le (.same rfl (.same rfl (.same rfl (.same rfl (.same rfl (.same rfl (.same rfl (.same rfl (.same rfl (.same rfl (.same rfl (.same rfl (.same rfl (.same rfl (.same rfl (.same rfl (.same rfl (.same rfl (.same rfl (.same rfl (.same rfl (.same rfl (.same rfl .nil))))))))))))))))))))))) (NS ()))
     refine c1.cut (γ:=Unit) 6 (Array.mk (true :: true :: true :: false :: false :: false :: false :: false :: false :: [])) (fun NV=> [(0,I.of (aa)),(1,I.of (ai)),(2,I.of (aR)),(3,I.of (cQ)),(5,I.eq (.pointer (some ⟨bf,0,none⟩))),(8,I.of (false)),(9,I.of (aM)),(10,I.eq (.pointer (some ⟨bw,0,none⟩))),(16,I.of (!aD)),(28,I.of (aM.isSome && cZ.fv)),(33,I.of (dX.dr.isNone)),(39,I.of (aa)),(40,I.eq (.pointer (some ⟨cT,0,none⟩))),(41,I.eq (.pointer (some ⟨cT,0 + 1,none⟩))),(42,I.of (gx.dr)),(43,I.of (aa)),(44,I.of (ai)),(45,I.of (aR)),(46,I.hy 255 [I.ptr a8.1,I.ptr a8.2.1,I.ptr a8.2.2]),(68,I.of (s2.1)),(69,I.of (s2.1)),(70,I.of (cQ))]) (fun NV=>(⟨some D,.dI⟩ :: ⟨some bw,.var (s2.1:Ref)⟩ :: ⟨some bf,.var (ai:aw)⟩ :: bz s2.2)) (fun NV=> ?_) (fun Hn=> ?_)
     ·clear h
      refine c1.step [3] (by kernel_rfl) rfl ⟨⟨_,rfl,?_⟩,trivial⟩
      ·refine bh (fV (ht (ad rfl) DG)) ?_
       refine ak.nil ?_
       exact ae.any rfl (c1.le (.same rfl (.same rfl (.same rfl (.same rfl (.same rfl (.same rfl (.same rfl (.same rfl (.same rfl (.same rfl (.same rfl (.same rfl (.same rfl (.same rfl (.same rfl (.same rfl (.same rfl (.same rfl (.same rfl (.same rfl (.same rfl (.same rfl (.same rfl .nil))))))))))))))))))))))) (G2 ()))
     refine c1.cut (γ:=Unit) 7 (Array.mk (false :: true :: true :: false :: false :: false :: false :: false :: false :: [])) (fun NW=> [(0,I.of (aa)),(1,I.of (ai)),(2,I.of (aR)),(3,I.of (cQ)),(5,I.eq (.pointer (some ⟨bf,0,none⟩))),(8,I.of (false)),(9,I.of (aM)),(10,I.eq (.pointer (some ⟨bw,0,none⟩))),(16,I.of (!aD)),(28,I.of (aM.isSome && cZ.fv)),(33,I.of (dX.dr.isNone)),(39,I.of (aa)),(40,I.eq (.pointer (some ⟨cT,0,none⟩))),(41,I.eq (.pointer (some ⟨cT,0 + 1,none⟩))),(42,I.of (gx.dr)),(43,I.of (aa)),(44,I.of (ai)),(45,I.of (aR)),(46,I.hy 255 [I.ptr a8.1,I.ptr a8.2.1,I.ptr a8.2.2]),(69,I.of (s2.1)),(70,I.of (cQ))]) (fun NW=>(⟨some D,.dI⟩ :: ⟨some bw,.var (s2.1:Ref)⟩ :: ⟨some bf,.var (ai:aw)⟩ :: bz s2.2)) (fun NW=> ?_) (fun OC=> ?_)
     ·clear h
      refine c1.step [0] (by kernel_rfl) rfl ⟨⟨_,rfl,?_⟩,trivial⟩
      ·refine bY 1 fX ?_
       refine ak.nil ?_
       exact ae.any rfl (c1.le (.same rfl (.same rfl (.same rfl (.same rfl (.same rfl (.same rfl (.same rfl (.same rfl (.same rfl (.same rfl (.same rfl (.same rfl (.same rfl (.same rfl (.same rfl (.same rfl (.same rfl (.same rfl (.same rfl (.same rfl (.same rfl (.same rfl .nil)))))))))))))))))))))) (Hn ()))
     refine c1.cut (γ:=Unit) 7 (Array.mk (true :: false :: false :: true :: false :: false :: false :: false :: false :: [])) (fun NX=> [(0,I.of (aa)),(1,I.of (ai)),(2,I.of (aR)),(3,I.of (cQ)),(5,I.eq (.pointer (some ⟨bf,0,none⟩))),(8,I.of (false)),(9,I.of (aM)),(10,I.eq (.pointer (some ⟨bw,0,none⟩))),(16,I.of (!aD)),(28,I.of (aM.isSome && cZ.fv)),(33,I.of (dX.dr.isNone)),(39,I.of (aa)),(40,I.eq (.pointer (some ⟨cT,0,none⟩))),(41,I.eq (.pointer (some ⟨cT,0 + 1,none⟩))),(42,I.of (gx.dr)),(43,I.of (aa)),(44,I.of (ai)),(45,I.of (aR)),(46,I.hy 255 [I.ptr a8.1,I.ptr a8.2.1,I.ptr a8.2.2]),(68,I.of (s2.1)),(71,I.eq (.pointer (some ⟨jA,0,none⟩)))]) (fun NX=>(⟨some D,.dI⟩ :: ⟨some bw,.var (s2.1:Ref)⟩ :: ⟨some bf,.var (ai:aw)⟩ :: bz s2.2)) (fun NX=> ?_) (fun Yf=> ?_)
     ·clear h
      refine c1.step [1,2,4] (by kernel_rfl) rfl ⟨⟨_,rfl,?_⟩,⟨_,rfl,?_⟩,⟨_,rfl,?_⟩,trivial⟩
      ·refine bY 1 fX ?_
       refine ak.nil ?_
       exact ae.any rfl (c1.le (.same rfl (.same rfl (.same rfl (.same rfl (.same rfl (.same rfl (.same rfl (.same rfl (.same rfl (.same rfl (.same rfl (.same rfl (.same rfl (.same rfl (.same rfl (.same rfl (.same rfl (.same rfl (.same rfl (.same rfl (.same rfl (.same rfl .nil)))))))))))))))))))))) (OB ()))
      ·refine ax ?_
       refine ak.nil ?_
       exact ae.any rfl (c1.le (.same rfl (.same rfl (.same rfl (.same rfl (.same rfl (.same rfl (.same rfl (.same rfl (.same rfl (.same rfl (.same rfl (.same rfl (.same rfl (.same rfl (.same rfl (.same rfl (.same rfl (.same rfl (.same rfl (.same rfl (.same rfl (.same rfl .nil)))))))))))))))))))))) (NT ()))
      ·refine aY (a2 we) ?_
       refine ak.nil ?_
       exact ae.any rfl (c1.le (.same rfl (.same rfl (.same rfl (.same rfl (.same rfl (.same rfl (.same rfl (.same rfl (.same rfl (.same rfl (.same rfl (.same rfl (.same rfl (.same rfl (.same rfl (.same rfl (.same rfl (.same rfl (.same rfl (.same rfl (.same rfl (.same rfl .nil)))))))))))))))))))))) (WI ()))
     refine c1.cut (γ:=Unit) 7 (Array.mk (true :: false :: true :: false :: false :: false :: false :: false :: false :: [])) (fun NY=> [(0,I.of (aa)),(1,I.of (ai)),(2,I.of (aR)),(3,I.of (cQ)),(5,I.eq (.pointer (some ⟨bf,0,none⟩))),(8,I.of (false)),(9,I.of (aM)),(10,I.eq (.pointer (some ⟨bw,0,none⟩))),(16,I.of (!aD)),(28,I.of (aM.isSome && cZ.fv)),(33,I.of (dX.dr.isNone)),(39,I.of (aa)),(40,I.eq (.pointer (some ⟨cT,0,none⟩))),(41,I.eq (.pointer (some ⟨cT,0 + 1,none⟩))),(42,I.of (gx.dr)),(43,I.of (aa)),(44,I.of (ai)),(45,I.of (aR)),(46,I.hy 255 [I.ptr a8.1,I.ptr a8.2.1,I.ptr a8.2.2]),(68,I.of (s2.1)),(70,I.of (cQ))]) (fun NY=>(⟨some D,.dI⟩ :: ⟨some bw,.var (s2.1:Ref)⟩ :: ⟨some bf,.var (ai:aw)⟩ :: bz s2.2)) (fun NY=> ?_) (fun OD=> ?_)
     ·clear h
      refine c1.step [1,3] (by kernel_rfl) rfl ⟨⟨_,rfl,?_⟩,⟨_,rfl,?_⟩,trivial⟩
      ·refine bY 1 fX ?_
       refine ak.nil ?_
       exact ae.any rfl (c1.le (.same rfl (.same rfl (.same rfl (.same rfl (.same rfl (.same rfl (.same rfl (.same rfl (.same rfl (.same rfl (.same rfl (.same rfl (.same rfl (.same rfl (.same rfl (.same rfl (.same rfl (.same rfl (.same rfl (.same rfl (.same rfl (.same rfl .nil)))))))))))))))))))))) (Hn ()))
      ·refine bh (fV (ht (ad rfl) DG)) ?_
       refine ak.nil ?_
       exact ae.any rfl (c1.le (.same rfl (.same rfl (.same rfl (.same rfl (.same rfl (.same rfl (.same rfl (.same rfl (.same rfl (.same rfl (.same rfl (.same rfl (.same rfl (.same rfl (.same rfl (.same rfl (.same rfl (.same rfl (.same rfl (.same rfl (.same rfl (.same rfl .nil)))))))))))))))))))))) (NT ()))
     refine c1.cut (γ:=Unit) 7 (Array.mk (true :: true :: false :: false :: false :: false :: false :: false :: false :: [])) (fun NZ=> [(0,I.of (aa)),(1,I.of (ai)),(2,I.of (aR)),(3,I.of (cQ)),(5,I.eq (.pointer (some ⟨bf,0,none⟩))),(8,I.of (false)),(9,I.of (aM)),(10,I.eq (.pointer (some ⟨bw,0,none⟩))),(16,I.of (!aD)),(28,I.of (aM.isSome && cZ.fv)),(33,I.of (dX.dr.isNone)),(39,I.of (aa)),(40,I.eq (.pointer (some ⟨cT,0,none⟩))),(41,I.eq (.pointer (some ⟨cT,0 + 1,none⟩))),(42,I.of (gx.dr)),(43,I.of (aa)),(44,I.of (ai)),(45,I.of (aR)),(46,I.hy 255 [I.ptr a8.1,I.ptr a8.2.1,I.ptr a8.2.2]),(68,I.of (s2.1)),(69,I.of (s2.1))]) (fun NZ=>(⟨some D,.dI⟩ :: ⟨some bw,.var (s2.1:Ref)⟩ :: ⟨some bf,.var (ai:aw)⟩ :: bz s2.2)) (fun NZ=> ?_) (fun OE=> ?_)
     ·clear h
      refine c1.step [2,3] (by kernel_rfl) rfl ⟨⟨_,rfl,?_⟩,⟨_,rfl,?_⟩,trivial⟩
      ·refine ax ?_
       refine ak.nil ?_
       exact ae.any rfl (c1.le (.same rfl (.same rfl (.same rfl (.same rfl (.same rfl (.same rfl (.same rfl (.same rfl (.same rfl (.same rfl (.same rfl (.same rfl (.same rfl (.same rfl (.same rfl (.same rfl (.same rfl (.same rfl (.same rfl (.same rfl (.same rfl (.same rfl .nil)))))))))))))))))))))) (Hn ()))
      ·refine bh (fV (ht (ad rfl) DG)) ?_
       refine ak.nil ?_
       exact ae.any rfl (c1.le (.same rfl (.same rfl (.same rfl (.same rfl (.same rfl (.same rfl (.same rfl (.same rfl (.same rfl (.same rfl (.same rfl (.same rfl (.same rfl (.same rfl (.same rfl (.same rfl (.same rfl (.same rfl (.same rfl (.same rfl (.same rfl (.same rfl .nil)))))))))))))))))))))) (OB ()))
     refine c1.cut (γ:=Unit) 8 (Array.mk (false :: false :: true :: false :: false :: false :: false :: false :: false :: [])) (fun N0=> [(0,I.of (aa)),(1,I.of (ai)),(2,I.of (aR)),(3,I.of (cQ)),(5,I.eq (.pointer (some ⟨bf,0,none⟩))),(8,I.of (false)),(9,I.of (aM)),(10,I.eq (.pointer (some ⟨bw,0,none⟩))),(16,I.of (!aD)),(28,I.of (aM.isSome && cZ.fv)),(33,I.of (dX.dr.isNone)),(39,I.of (aa)),(40,I.eq (.pointer (some ⟨cT,0,none⟩))),(41,I.eq (.pointer (some ⟨cT,0 + 1,none⟩))),(42,I.of (gx.dr)),(43,I.of (aa)),(44,I.of (ai)),(45,I.of (aR)),(46,I.hy 255 [I.ptr a8.1,I.ptr a8.2.1,I.ptr a8.2.2]),(70,I.of (cQ))]) (fun N0=>(⟨some D,.dI⟩ :: ⟨some bw,.var (s2.1:Ref)⟩ :: ⟨some bf,.var (ai:aw)⟩ :: bz s2.2)) (fun N0=> ?_) (fun Yg=> ?_)
     ·clear h
      refine c1.step [0,1] (by kernel_rfl) rfl ⟨⟨_,rfl,?_⟩,⟨_,rfl,?_⟩,trivial⟩
      ·refine bY 1 fX ?_
       refine ak.nil ?_
       exact ae.any rfl (c1.le (.same rfl (.same rfl (.same rfl (.same rfl (.same rfl (.same rfl (.same rfl (.same rfl (.same rfl (.same rfl (.same rfl (.same rfl (.same rfl (.same rfl (.same rfl (.same rfl (.same rfl (.same rfl (.same rfl (.same rfl (.same rfl .nil))))))))))))))))))))) (OD ()))
      ·refine bY 1 fX ?_
       refine ak.nil ?_
       exact ae.any rfl (c1.le (.same rfl (.same rfl (.same rfl (.same rfl (.same rfl (.same rfl (.same rfl (.same rfl (.same rfl (.same rfl (.same rfl (.same rfl (.same rfl (.same rfl (.same rfl (.same rfl (.same rfl (.same rfl (.same rfl (.same rfl (.same rfl .nil))))))))))))))))))))) (OC ()))
     refine c1.cut (γ:=Unit) 8 (Array.mk (false :: true :: false :: false :: false :: false :: false :: false :: false :: [])) (fun N1=> [(0,I.of (aa)),(1,I.of (ai)),(2,I.of (aR)),(3,I.of (cQ)),(5,I.eq (.pointer (some ⟨bf,0,none⟩))),(8,I.of (false)),(9,I.of (aM)),(10,I.eq (.pointer (some ⟨bw,0,none⟩))),(16,I.of (!aD)),(28,I.of (aM.isSome && cZ.fv)),(33,I.of (dX.dr.isNone)),(39,I.of (aa)),(40,I.eq (.pointer (some ⟨cT,0,none⟩))),(41,I.eq (.pointer (some ⟨cT,0 + 1,none⟩))),(42,I.of (gx.dr)),(43,I.of (aa)),(44,I.of (ai)),(45,I.of (aR)),(46,I.hy 255 [I.ptr a8.1,I.ptr a8.2.1,I.ptr a8.2.2]),(69,I.of (s2.1))]) (fun N1=>(⟨some D,.dI⟩ :: ⟨some bw,.var (s2.1:Ref)⟩ :: ⟨some bf,.var (ai:aw)⟩ :: bz s2.2)) (fun N1=> ?_) (fun Yh=> ?_)
     ·clear h
      refine c1.step [0,2] (by kernel_rfl) rfl ⟨⟨_,rfl,?_⟩,⟨_,rfl,?_⟩,trivial⟩
      ·refine bY 1 fX ?_
       refine ak.nil ?_
       exact ae.any rfl (c1.le (.same rfl (.same rfl (.same rfl (.same rfl (.same rfl (.same rfl (.same rfl (.same rfl (.same rfl (.same rfl (.same rfl (.same rfl (.same rfl (.same rfl (.same rfl (.same rfl (.same rfl (.same rfl (.same rfl (.same rfl (.same rfl .nil))))))))))))))))))))) (OE ()))
      ·refine ax ?_
       refine ak.nil ?_
       exact ae.any rfl (c1.le (.same rfl (.same rfl (.same rfl (.same rfl (.same rfl (.same rfl (.same rfl (.same rfl (.same rfl (.same rfl (.same rfl (.same rfl (.same rfl (.same rfl (.same rfl (.same rfl (.same rfl (.same rfl (.same rfl (.same rfl (.same rfl .nil))))))))))))))))))))) (OC ()))
     refine c1.cut (γ:=Unit) 8 (Array.mk (true :: false :: false :: false :: false :: false :: false :: false :: false :: [])) (fun N2=> [(0,I.of (aa)),(1,I.of (ai)),(2,I.of (aR)),(3,I.of (cQ)),(5,I.eq (.pointer (some ⟨bf,0,none⟩))),(8,I.of (false)),(9,I.of (aM)),(10,I.eq (.pointer (some ⟨bw,0,none⟩))),(16,I.of (!aD)),(28,I.of (aM.isSome && cZ.fv)),(33,I.of (dX.dr.isNone)),(39,I.of (aa)),(40,I.eq (.pointer (some ⟨cT,0,none⟩))),(41,I.eq (.pointer (some ⟨cT,0 + 1,none⟩))),(42,I.of (gx.dr)),(43,I.of (aa)),(44,I.of (ai)),(45,I.of (aR)),(46,I.hy 255 [I.ptr a8.1,I.ptr a8.2.1,I.ptr a8.2.2]),(68,I.of (s2.1))]) (fun N2=>(⟨some D,.dI⟩ :: ⟨some bw,.var (s2.1:Ref)⟩ :: ⟨some bf,.var (ai:aw)⟩ :: bz s2.2)) (fun N2=> ?_) (fun Yi=> ?_)
     ·clear h
      refine c1.step [1,2,3] (by kernel_rfl) rfl ⟨⟨_,rfl,?_⟩,⟨_,rfl,?_⟩,⟨_,rfl,?_⟩,trivial⟩
      ·refine bY 1 fX ?_
       refine ak.nil ?_
       exact ae.any rfl (c1.le (.same rfl (.same rfl (.same rfl (.same rfl (.same rfl (.same rfl (.same rfl (.same rfl (.same rfl (.same rfl (.same rfl (.same rfl (.same rfl (.same rfl (.same rfl (.same rfl (.same rfl (.same rfl (.same rfl (.same rfl (.same rfl .nil))))))))))))))))))))) (OE ()))
      ·refine ax ?_
       refine ak.nil ?_
       exact ae.any rfl (c1.le (.same rfl (.same rfl (.same rfl (.same rfl (.same rfl (.same rfl (.same rfl (.same rfl (.same rfl (.same rfl (.same rfl (.same rfl (.same rfl (.same rfl (.same rfl (.same rfl (.same rfl (.same rfl (.same rfl (.same rfl (.same rfl .nil))))))))))))))))))))) (OD ()))
      ·refine bh (fV (ht (ad rfl) DG)) ?_
       refine ak.nil ?_
       exact ae.any rfl (c1.le (.same rfl (.same rfl (.same rfl (.same rfl (.same rfl (.same rfl (.same rfl (.same rfl (.same rfl (.same rfl (.same rfl (.same rfl (.same rfl (.same rfl (.same rfl (.same rfl (.same rfl (.same rfl (.same rfl (.same rfl (.same rfl .nil))))))))))))))))))))) (Yf ()))
     refine c1.step [0,1,2] (by kernel_rfl) rfl ⟨⟨_,rfl,?_⟩,⟨_,rfl,?_⟩,⟨_,rfl,?_⟩,trivial⟩
     ·refine bY 1 fX ?_
      refine ak.nil ?_
      exact ae.any rfl (c1.le (.same rfl (.same rfl (.same rfl (.same rfl (.same rfl (.same rfl (.same rfl (.same rfl (.same rfl (.same rfl (.same rfl (.same rfl (.same rfl (.same rfl (.same rfl (.same rfl (.same rfl (.same rfl (.same rfl (.same rfl .nil)))))))))))))))))))) (Yi ()))
     ·refine bY 1 fX ?_
      refine ak.nil ?_
      exact ae.any rfl (c1.le (.same rfl (.same rfl (.same rfl (.same rfl (.same rfl (.same rfl (.same rfl (.same rfl (.same rfl (.same rfl (.same rfl (.same rfl (.same rfl (.same rfl (.same rfl (.same rfl (.same rfl (.same rfl (.same rfl (.same rfl .nil)))))))))))))))))))) (Yh ()))
     ·refine ax ?_
      refine ak.nil ?_
      exact ae.any rfl (c1.le (.same rfl (.same rfl (.same rfl (.same rfl (.same rfl (.same rfl (.same rfl (.same rfl (.same rfl (.same rfl (.same rfl (.same rfl (.same rfl (.same rfl (.same rfl (.same rfl (.same rfl (.same rfl (.same rfl (.same rfl .nil)))))))))))))))))))) (Yg ()))
    ·exact Empty.elim ck
   ·refine ag.b1 ?_
    refine ax ?_
    refine hH NN NO (default:eX) .nil ?_
    refine ak.zz 1 rfl (Cell.hf (default:eX)) (fun _=>rfl) (ad rfl) rfl fun eR z2=> ?_
    replace h:=aK.se h eR z2
    refine bh (fV (ht (ad rfl) hI)) ?_
    refine aY (a2 Cv) ?_
    obtain⟨AT,DI,h⟩:=aK.c4 h
    obtain⟨z7,Yj,h⟩:=aK.c4 h
    refine ak.pN (k':=Cell.jX ({ AT with dr:=(some eR.1:Ref) } :gA)) 1 rfl ((aI.id gA).comp BF) (v:=((some eR.1:Ref):Ref)) fX (ad rfl) (ad rfl) (qK DI) rfl rfl rfl rfl (aG Yj) ?_
    refine ak.nil ?_
    exact dj 0 (hm z7 () h)
   ·refine ag.skip ?_
    exact dj 0 (hm hp () h)
end Go.Proofs.YtmnggbjcnoffeaaGreat
namespace Go.Proofs.YtmnggbjcnoffeaaGreat
open Go Gv
set_option linter.unusedVariables false
set_option linter.unusedSimpArgs false
set_option maxRecDepth 100000
set_option maxHeartbeats 2000000
theorem QU {hp:bg Cell} {aa:hr} {ai:aU} {Q:(bg Cell)→Prop} (h:xL hp aa ai Q):cG Tryz.prog 237 [I.of (aa),I.of (ai)] ([] ++ bz hp) (δ:= {r:(bg Cell) // Q r} × Unit) (fun d=>I.eI []) (fun d=> [] ++ bz d.1.1):=by
 unfold xL at h
 refine cG.of Tryz.func237 rfl Tryz.ntmps237 rfl fun W A=> ?_
 refine aA ?_
 refine ca fun bf=> ?_
 refine ca fun bw=> ?_
 refine bE ?_
 refine bY 1 GO ?_
 refine aY (a2 jT) ?_
 refine b5 0 iO ig ?_
 obtain⟨aD,bp,h⟩:=aK.c4 h
 refine cH NM (JB bp) ?_
 refine ax ?_
 refine dG ?_
 refine dG ?_
 refine dG ?_
 refine ch zm fun cz=> ?_
 refine ch dY fun ff=> ?_
 refine bS 1 l0 ?_
 refine bS 0 bT ?_
 refine aH ?_
 refine bx ?_
 refine aA ?_
 refine aY (a2 yT) ?_
 refine b5 3 vl wJ ?_
 refine bY 1 l0 ?_
 obtain⟨dT,fY,h⟩:=aK.c4 h
 obtain⟨cZ,hz,h⟩:=aK.c4 h
 obtain⟨bN,dg,h⟩:=aK.c4 h
 refine bh (FK (r:=bN) Tryz.underlying167 C9 GY (qx (ad rfl) fY) (ad rfl) (iH (n:=4) rfl (pM hz) rfl) (aG dg)) ?_
 refine bh (sa Tryz.underlying321 (ad rfl)) ?_
 refine aJ ?_
 refine ag.y9 (γ:=Unit) h (fun bJ au=> [(0,I.of (aa)),(1,I.of (ai)),(2,I.eq (.pointer (some ⟨bf,0,none⟩))),(3,I.eq (.pointer (some ⟨bw,0,none⟩))),(4,I.eq (.pointer (some ⟨cz,0,none⟩))),(5,I.eq (.pointer (some ⟨ff,0,none⟩))),(6,I.of (aD.2.2)),(19,I.of (bN.isNone))]) (fun bJ au=>(⟨some ff,.var (aD.2.1:aw)⟩ :: ⟨some cz,.var (aD.1:Vector aw 4)⟩ :: ⟨some bw,.var (ai:aU)⟩ :: ⟨some bf,.var (aa:hr)⟩ :: bz bJ)) (ad rfl) (fun bJ au h=> ?_) (fun hm ao h=> ?_) (fun hm ao h=> ?_)
 ·refine ae.next ?_
  obtain⟨dX,iZ,h⟩:=aK.c4 h
  obtain⟨c7,gG,h⟩:=aK.c4 h
  refine ag.draw mixed 8 [some 26,some 27,some 28,some 29,some 30,some 31,some 32,some 33] [[],[0],[],[1,2],[],[],[],[6]] [.val _,.val _,.val _,.val _,.val _,.val _,.val _,.val _] [false,false,false,false,false,false,false,false] (by kernel_rfl) rfl rfl rfl (fun c5=>⟨H1 (a2 yT),dN 3 vl wJ,fz 1 l0,df fun aC av=>FK (r:=c7) Tryz.underlying167 C9 GY (qx (ad rfl) fY) (ad rfl) (oz (fun i e q=>av i e q rfl) (iH (n:=4) rfl (pM iZ) rfl)) (aG gG),fz 0 bT,cw,H1 (a2 km),dN 2 ji bM,trivial⟩) fun c5=> ?_
  refine ak.sw 4 0 rfl WJ (RE h) rfl rfl ⟨ad rfl,ad rfl,ad rfl,ad rfl,trivial⟩ rfl fun⟨⟨aM,h⟩,az⟩=> ?_
  refine ak.gu (L2:=(⟨some ff,.var (aD.2.1:aw)⟩ :: ⟨some cz,.var (aD.1:Vector aw 4)⟩ :: ⟨some bw,.var (ai:aU)⟩ :: ⟨some bf,.var (aa:hr)⟩ :: bz aM.2)) rfl ?_
  refine ak.nil ?_
  refine ae.q5 ?_
  exact ae.oq (⟨⟨aM.2,h⟩,()⟩: {r // _} × _) (.cons _ (.cons _ (.cons _ (.cons _ (.refl _))))) rfl rfl
 ·obtain⟨Zc,Yk,Yl⟩:=aK.ex h
  refine U7 mixed 6 5 25 _ (K:=Zc) [some (20,I.eq (.pointer (some ⟨bf,0 + 2,none⟩))),some (21,I.of (aa.ob)),some (22,I.of (aD.1)),some (23,I.eq (.pointer (some ⟨bf,0 + 1,none⟩))),some (24,I.of (aa.fU)),none] _ [[],[0],[],[],[3],[4]] _ (fun a8=>I.of (a8.1)) (fun a8=>(⟨some ff,.var (aD.2.1:aw)⟩ :: ⟨some cz,.var (aD.1:Vector aw 4)⟩ :: ⟨some bw,.var (ai:aU)⟩ :: ⟨some bf,.var (aa:hr)⟩ :: bz a8.2)) rfl rfl rfl rfl rfl rfl (by kernel_rfl) ⟨⟨a2 yT (ad rfl),fun a8 sG=>a2 yT (ad rfl)⟩,⟨fb (i:=3) ((aI.id hr).comp vl) (r:=aa.ob) wJ (ad rfl) rfl rfl rfl,fun a8 sG=>fb (i:=3) ((aI.id hr).comp vl) (r:=aa.ob) wJ (ad rfl) rfl rfl rfl⟩,⟨fb (i:=1) (aI.id (Vector aw 4)) (r:=aD.1) l0 (ad rfl) rfl rfl rfl,fun a8 sG=>fb (i:=1) (aI.id (Vector aw 4)) (r:=aD.1) l0 (ad rfl) rfl rfl rfl⟩,⟨a2 L1 (ad rfl),fun a8 sG=>a2 L1 (ad rfl)⟩,⟨fb (i:=3) ((aI.id hr).comp Eo) (r:=aa.fU) bM (ad rfl) rfl rfl rfl,fun a8 sG=>fb (i:=3) ((aI.id hr).comp Eo) (r:=aa.fU) bM (ad rfl) rfl rfl rfl⟩,trivial⟩ (fun a5 xh aL bu=> ?_) (fun a8 sG=> ?_)
  ·refine ak.sw 4 0 rfl WK (SD Yk) rfl rfl ⟨ad (aL rfl),trivial⟩ rfl fun⟨⟨a8,sG⟩,_⟩=> ?_
   refine ak.gu (L2:=(⟨some ff,.var (aD.2.1:aw)⟩ :: ⟨some cz,.var (aD.1:Vector aw 4)⟩ :: ⟨some bw,.var (ai:aU)⟩ :: ⟨some bf,.var (aa:hr)⟩ :: bz a8.2)) rfl ?_
   refine ak.nil ?_
   exact bu a8 sG
  have h:=Yl a8 sG
  refine ak.le (E':= [(0,I.of (aa)),(1,I.of (ai)),(2,I.eq (.pointer (some ⟨bf,0,none⟩))),(3,I.eq (.pointer (some ⟨bw,0,none⟩))),(4,I.eq (.pointer (some ⟨cz,0,none⟩))),(5,I.eq (.pointer (some ⟨ff,0,none⟩))),(6,I.of (aD.2.2)),(7,I.eI [I.of (aD.1),I.of (aD.2.1),I.of (aD.2.2)]),(8,I.of (aa)),(9,I.eq (.pointer (some ⟨bw,0 + 0,none⟩))),(10,I.of (ai.cr)),(11,I.eI [I.of (aD.1),I.of (aD.2.1),I.of (aD.2.2)]),(12,I.of (aD.1)),(13,I.of (aD.2.1)),(14,I.of (aD.2.2)),(15,I.eq (.pointer (some ⟨bf,0 + 2,none⟩))),(16,I.of (aa.ob)),(17,I.of (aD.1)),(18,I.of (bN)),(19,I.of (bN.isNone)),(20,I.eq (.pointer (some ⟨bf,0 + 2,none⟩))),(21,I.of (aa.ob)),(22,I.of (aD.1)),(23,I.eq (.pointer (some ⟨bf,0 + 1,none⟩))),(24,I.of (aa.fU)),(25,I.of (a8.1))]) (.same rfl (.same rfl (.same rfl (.same rfl (.same rfl (.same rfl (.same rfl (.same rfl (.same rfl (.same rfl (.same rfl (.same rfl (.same rfl (.same rfl (.same rfl (.same rfl (.same rfl (.same rfl (.same rfl (.same rfl (.same rfl (.same rfl (.same rfl (.same rfl (.same rfl (.same rfl .nil)))))))))))))))))))))))))) ?_
  obtain⟨gx,mz,h⟩:=aK.c4 h
  obtain⟨dZ,o6,h⟩:=aK.c4 h
  refine ak.GL (k':=Cell.m4 (gr gx aD.1 a8.1)) 4 rfl (by first | exact .inl rfl | exact .inr rfl) Tryz.underlying167 C9 (qx (ad rfl) fY) (ad rfl) (ad rfl) (pM mz) rfl rfl rfl (aG o6) ?_
  refine ak.nil ?_
  exact dj 0 (hm dZ () h)
 ·refine ag.skip ?_
  exact dj 0 (hm hp () h)
end Go.Proofs.YtmnggbjcnoffeaaGreat
namespace Go.Proofs.YtmnggbjcnoffeaaGreat
open Go Gv
set_option linter.unusedVariables false
set_option linter.unusedSimpArgs false
set_option maxRecDepth 100000
set_option maxHeartbeats 2000000
theorem Ql {aa aR:List aU} {ai:Int} {hc N3:Option Nat} {eH um:Nat} {r:List aU} (h:Bf aa ai aR=some r):cG Tryz.prog 275 [I.eq (aZ hc aa.length eH),I.of ai,I.eq (aZ N3 aR.length um)] [⟨hc,.row 52 aa eH⟩,⟨N3,.row 52 aR um⟩] (δ:=(Option Nat × Nat)) (fun d=>I.eq (aZ d.1 r.length d.2)) (fun d=> [⟨d.1,.row 52 r d.2⟩]):=by
 unfold Bf at h
 obtain⟨k,rfl,aq,a3,uP,mA,rfl⟩:=S1 h
 refine cG.of Tryz.func275 rfl Tryz.ntmps275 rfl fun W A=> ?_
 refine ag.seq ?_
 refine ag.b1 ?_
 refine ak.v (eC pI) rfl rfl rfl ?_
 refine ak.nil ?_
 refine ae.next ?_
 refine ag.seq ?_
 refine ag.b1 ?_
 refine ak.v (cN (ad rfl)) rfl rfl rfl ?_
 refine ak.v (cN (ad rfl)) rfl rfl rfl ?_
 refine ak.v (Ck (i:=0) (xs:=aa) Tryz.underlying38 c9 (ad rfl) rfl (.some (ad rfl)) .none rfl rfl ⟨aq,Nat.le_refl _⟩) rfl rfl rfl ?_
 refine ak.nil ?_
 refine ae.next ?_
 refine ag.seq ?_
 refine ag.b1 ?_
 refine ak.v (cN (ad rfl)) rfl rfl rfl ?_
 refine ak.v (tT (i:=1) (xs:=aR) Tryz.underlying38 (ad rfl) rfl rfl) rfl rfl rfl ?_
 refine ak.v (eC (ad rfl)) rfl rfl rfl ?_
 refine ak.nil ?_
 refine ae.next ?_
 refine ag.seq ?_
 refine ag.seq ?_
 refine ag.b1 ?_
 refine ak.v (cN (ad rfl)) rfl rfl rfl ?_
 refine ak.v (fW (ad rfl) (bF 0)) rfl rfl rfl ?_
 refine ak.nil ?_
 refine ae.next ?_
 refine ag.cond (ad rfl) (fun ao=> ?_) (fun _=> ?_)
 ·exfalso; simp only [beq_iff_eq] at ao; omega
 refine ag.skip ?_
 refine ae.next ?_
 refine ag.seq ?_
 refine ag.b1 ?_
 refine ak.v (cN (ad rfl)) rfl rfl rfl ?_
 refine ak.v (tT (i:=0) (xs:=aa) Tryz.underlying38 (ad rfl) rfl rfl) rfl rfl rfl ?_
 refine ak.v (eC (ad rfl)) rfl rfl rfl ?_
 refine ak.nil ?_
 refine ae.next ?_
 refine ag.seq ?_
 refine ag.seq ?_
 refine ag.b1 ?_
 refine ak.v (cN (ad rfl)) rfl rfl rfl ?_
 refine ak.v (cN (ad rfl)) rfl rfl rfl ?_
 refine ak.v (fW (ad rfl) (ad rfl)) rfl rfl rfl ?_
 refine ak.nil ?_
 refine ae.next ?_
 refine ag.cond (ad rfl) (fun ao=> ?_) (fun ao=> ?_)
 ·have l9:k=aa.length:=by simp only [beq_iff_eq] at ao; omega
  subst l9
  refine ag.seq ?_
  refine ag.b1 ?_
  refine ak.v (cN (ad rfl)) rfl rfl rfl ?_
  refine ak.kF (α:=aU) 1 [2,13] ⟨rfl,rfl,trivial⟩ rfl ?_
  refine ak.v (cN (ad rfl)) rfl rfl rfl ?_
  refine ak.app (i:=0) (xs:=aa) (ys:=aR) (r:=aa ++ aR) Tryz.underlying38 c9 iI (by kernel_rfl) (ad rfl) rfl (ad rfl) (by unfold fP; rw [if_pos ⟨uP,mA⟩]) rfl fun gE e2=> ?_
  refine ak.v (eC (ad rfl)) rfl rfl rfl ?_
  refine ak.nil ?_
  refine ae.next ?_
  refine ag.ret ?_
  have aQ:aa.take aa.length ++ aR ++ aa.drop aa.length=aa ++ aR:=by simp
  rw [aQ]
  exact ae.ha (gE,e2) (.cons_cons _ (List.nil_sublist _)) rfl rfl (gf rfl)
 have l9:k < aa.length:=by simp only [beq_eq_false_iff_ne] at ao; omega
 refine ag.skip ?_
 refine ae.next ?_
 refine ag.some (i:=0) (xs:=aa) rfl (by omega) fun p hp zN oD=> ?_
 subst hp
 refine ag.some (i:=1) (xs:=aR) rfl (by omega) fun q hq aaN aaQ=> ?_
 subst hq
 refine ag.apart rfl fun DJ=> ?_
 refine ag.seq ?_
 refine ag.seq ?_
 refine ag.b1 ?_
 refine ak.v (cN (ad rfl)) rfl rfl rfl ?_
 refine ak.v (cN (ad rfl)) rfl rfl rfl ?_
 refine ak.v (cL (ad rfl) (ad rfl)) rfl rfl rfl ?_
 refine ak.v (cN (ad rfl)) rfl rfl rfl ?_
 refine ak.v (U8 Tryz.underlying38 (ad rfl)) rfl rfl rfl ?_
 refine ak.v (lY (ad rfl) (ad rfl)) rfl rfl rfl ?_
 refine ak.nil ?_
 refine ae.next ?_
 have hw:bm ((aa.length:Int) + (aR.length:Int))=((aa.length + aR.length:Nat):Int):=by
  have pd:maxLen=9223372036854775807:=rfl
  rw [gC (by omega) (by omega)]; simp
 refine ag.cond (ad rfl) (fun iZ=> ?_) (fun iZ=> ?_)
 ·have wK:eH < aa.length + aR.length:=by rw [hw] at iZ; simp only [decide_eq_true_eq] at iZ; omega
  have pd:maxLen=9223372036854775807:=rfl
  have aF:bm (bm ((aa.length:Int) + (aR.length:Int)) - (k:Int))=((aa.length + aR.length - k:Nat):Int):=by
   rw [hw,gC (by omega) (by omega)]; omega
  refine ag.seq ?_
  refine ag.b1 ?_
  refine ak.v (cN (ad rfl)) rfl rfl rfl ?_
  refine ak.v (cN (ad rfl)) rfl rfl rfl ?_
  refine ak.v (Ck (i:=0) (xs:=aa) Tryz.underlying38 c9 (ad rfl) rfl .none (.some (ad rfl)) rfl rfl ⟨Nat.zero_le _,aq⟩) rfl rfl rfl ?_
  refine ak.v (cN (ad rfl)) rfl rfl rfl ?_
  refine ak.v (cN (ad rfl)) rfl rfl rfl ?_
  refine ak.v (cL (ad rfl) (ad rfl)) rfl rfl rfl ?_
  refine ak.v (cN (ad rfl)) rfl rfl rfl ?_
  refine ak.v (jn (ad rfl) (ad rfl)) rfl rfl rfl ?_
  refine ak.Ym (i:=0) (m:=k) (k:=aa.length + aR.length - k) (xs:=aa) (z:=(default:aU)) Tryz.underlying38 Tryz.underlying3 c9 iI (by rfl) (by kernel_rfl) (ad rfl) (by rw [← aF]; exact ad rfl) rfl aq (by omega) (by omega) (by rw [show k + (aa.length + aR.length - k)=aa.length + aR.length by omega]; exact uP) (by omega) rfl fun az e2=> ?_
  refine ak.v (eC (ad rfl)) rfl rfl rfl ?_
  refine ak.nil ?_
  refine ae.next ?_
  have hlen:(aa.take k ++ List.replicate (aa.length + aR.length - k) (default:aU)).length=aa.length + aR.length:=by simp; omega
  refine ag.some (i:=0) (xs:=aa.take k ++ List.replicate (aa.length + aR.length - k) (default:aU)) rfl (by omega) fun ck oE WL aaR=> ?_
  rw [hlen] at WL
  refine ag.seq ?_
  refine ag.b1 ?_
  refine ak.v (cN (ad rfl)) rfl rfl rfl ?_
  refine ak.v (cN (ad rfl)) rfl rfl rfl ?_
  refine ak.v (sb (α:=aU) (m:=k) (h:=k + (aa.length + aR.length - k)) Tryz.underlying38 c9 (ad rfl) (.some (ad rfl)) .none rfl rfl ⟨by omega,by omega⟩) rfl rfl rfl ?_
  refine ak.v (cN (ad rfl)) rfl rfl rfl ?_
  refine ak.Da (i:=0) (p:=az) (off:=k * ah.size aU) (dLen:=k + (aa.length + aR.length - k) - k) (dCap:=e2 - k) (N:=aR.length) (vs:=aR) (T:=52) Tryz.underlying38 c9 (by rw [← FL (by omega)]; exact ad rfl) (L3 (i:=2) (ad rfl) rfl a3) (Nat.min_eq_left (by omega)) rfl rfl (fun A W o cells h cR=>Ll (by omega) h cR) ?_
  refine ak.nil ?_
  refine ae.next ?_
  have ay:(aa.take k ++ List.replicate (aa.length + aR.length - k) (default:aU)).take k ++ aR ++ (aa.take k ++ List.replicate (aa.length + aR.length - k) (default:aU)).drop (k + aR.length)=aa.take k ++ aR ++ List.replicate (aa.length - k) (default:aU):=by
   have j5:(aa.take k).length=k:=by rw [List.length_take]; omega
   rw [List.take_left' j5,List.drop_append,j5,List.drop_eq_nil_of_le (by omega),List.nil_append,List.drop_replicate]
   congr 2
   omega
  have sV:bm ((k:Int) + (aR.length:Int))=((k + aR.length:Nat):Int):=by rw [gC (by omega) (by omega)]; simp
  refine ag.seq ?_
  refine ag.le (E':= [(0,I.eq (aZ (some p) aa.length eH)),(1,I.of (k:Int)),(7,I.of (aR.length:Int)),(9,I.eq (aZ (some az) (k + (aa.length + aR.length - k)) e2))]) (.same rfl (.same rfl (.same rfl (.same rfl .nil)))) ?_
  refine ag.kn mixed (⟨some 46,[],[],[],fun _=>I.eq (aZ (some az) (k + (aa.length + aR.length - k)) e2),fun _ _=>⟨none,.dead⟩⟩ :: ⟨some 47,[],[],[],fun _=>I.of (k:Int),fun _ _=>⟨none,.dead⟩⟩ :: ⟨some 48,[],[],[],fun _=>I.of (aR.length:Int),fun _ _=>⟨none,.dead⟩⟩ :: ⟨some 49,(1 :: 2 :: []),[],[],fun _=>I.of (bm ((k:Int) + (aR.length:Int))),fun _ _=>⟨none,.dead⟩⟩ :: ⟨some 50,(0 :: 3 :: []),[],[],fun _=>I.eq (iw (some az) (k + aR.length) ((k + (aa.length + aR.length - k)) - (k + aR.length)) e2 (ah.size aU)),fun _ _=>⟨none,.dead⟩⟩ :: ⟨some 51,[],[],[],fun _=>I.eq (aZ (some p) aa.length eH),fun _ _=>⟨none,.dead⟩⟩ :: ⟨some 52,[],[],[],fun _=>I.of (k:Int),fun _ _=>⟨none,.dead⟩⟩ :: ⟨some 53,(5 :: 6 :: []),[],[],fun _=>I.eq (iw (some p) k (aa.length - k) eH (ah.size aU)),fun _ _=>⟨none,.dead⟩⟩ :: ⟨some 54,(4 :: 7 :: []),(0 :: 1 :: []),(0 :: []),fun _=>I.of ((((aa.drop k).take (aa.length - k)).length:Nat):Int),fun _ _=>⟨some az,.row 52 ((aa.take k ++ aR ++ List.replicate (aa.length - k) (default:aU)).take (k + aR.length) ++ (aa.drop k).take (aa.length - k) ++ (aa.take k ++ aR ++ List.replicate (aa.length - k) (default:aU)).drop (k + aR.length + ((aa.drop k).take (aa.length - k)).length)) e2⟩⟩ :: []) ((some 46,[],[],[]) :: (some 47,[],[],[]) :: (some 48,[],[],[]) :: (some 49,(1 :: 2 :: []),[],[]) :: (some 50,(0 :: 3 :: []),[],[]) :: (some 51,[],[],[]) :: (some 52,[],[],[]) :: (some 53,(5 :: 6 :: []),[],[]) :: (some 54,(4 :: 7 :: []),(0 :: 1 :: []),(0 :: [])) :: []) (0 :: 1 :: 7 :: 9 :: []) rfl rfl (by kernel_rfl) ⟨?_,?_,?_,?_,?_,?_,?_,?_,?_,trivial⟩ fun hd=> ?_
  ·exact jH rfl rfl rfl fun hd E' aC aL av=>cN (ad (aL _ _ rfl))
  ·exact jH rfl rfl rfl fun hd E' aC aL av=>cN (ad (aL _ _ rfl))
  ·exact jH rfl rfl rfl fun hd E' aC aL av=>cN (ad (aL _ _ rfl))
  ·exact jH rfl rfl rfl fun hd E' aC aL av=>cL (ad (aL _ _ rfl)) (ad (aL _ _ rfl))
  ·exact jH rfl rfl rfl fun hd E' aC aL av=>sb (α:=aU) (m:=k + aR.length) (h:=(k + (aa.length + aR.length - k))) Tryz.underlying38 c9 (ad (aL _ _ rfl)) (.some (ad (aL _ _ rfl))) .none sV rfl ⟨by omega,by omega⟩
  ·exact jH rfl rfl rfl fun hd E' aC aL av=>cN (ad (aL _ _ rfl))
  ·exact jH rfl rfl rfl fun hd E' aC aL av=>cN (ad (aL _ _ rfl))
  ·exact jH rfl rfl rfl fun hd E' aC aL av=>sb (α:=aU) (m:=k) (h:=aa.length) Tryz.underlying38 c9 (ad (aL _ _ rfl)) (.some (ad (aL _ _ rfl))) .none rfl rfl ⟨by omega,by omega⟩
  ·intro hd E' aC aL av
   have bP:=av 0 _ rfl rfl
   rw [ay] at bP
   refine ak.Da (i:=0) (p:=az) (off:=(k + aR.length) * ah.size aU) (T:=52) (vs:=(aa.drop k).take (aa.length - k)) (N:=aa.length - k) (dLen:=(k + (aa.length + aR.length - k)) - (k + aR.length)) (dCap:=e2 - (k + aR.length)) Tryz.underlying38 c9 (by rw [← FL (p:=az) (lo:=k + aR.length) (cap:=e2) (size:=ah.size aU) (by omega)]; exact ad (aL _ _ rfl)) (FM (i:=1) (ad (aL _ _ rfl)) (av 1 _ rfl rfl) (by omega) (by omega)) (by rw [show((aa.drop k).take (aa.length - k)).length=aa.length - k by simp]; exact Nat.min_eq_left (by omega)) bP rfl (fun A W o cells h cR=>Ll (by simp; omega) h cR) ?_
   refine ak.nil ?_
   exact ae.fin (fI []) rfl rfl
  have aS:((aa.take k ++ aR ++ List.replicate (aa.length - k) (default:aU)).take (k + aR.length) ++ (aa.drop k).take (aa.length - k) ++ (aa.take k ++ aR ++ List.replicate (aa.length - k) (default:aU)).drop (k + aR.length + ((aa.drop k).take (aa.length - k)).length))=aa.take k ++ aR ++ aa.drop k:=by
   have j5:(aa.take k ++ aR).length=k + aR.length:=by simp; omega
   have cD:(aa.drop k).take (aa.length - k)=aa.drop k:=List.take_of_length_le (by simp)
   have eu:(aa.take k ++ aR ++ List.replicate (aa.length - k) (default:aU)).drop (k + aR.length + (aa.drop k).length)= []:=List.drop_eq_nil_of_le (by rw [List.length_append,j5,List.length_replicate,List.length_drop]; omega)
   rw [cD,List.take_left' j5,eu,List.append_nil]
  refine ae.gu (L2:= [⟨some az,.row 52 ((aa.take k ++ aR ++ List.replicate (aa.length - k) (default:aU)).take (k + aR.length) ++ (aa.drop k).take (aa.length - k) ++ (aa.take k ++ aR ++ List.replicate (aa.length - k) (default:aU)).drop (k + aR.length + ((aa.drop k).take (aa.length - k)).length)) e2⟩,⟨some p,.row 52 aa eH⟩,⟨some q,.row 52 aR um⟩]) rfl ?_
  rw [aS]
  refine ae.le (E':= [(9,I.eq (aZ (some az) (k + (aa.length + aR.length - k)) e2))]) (.same rfl .nil) ?_
  refine ae.next ?_
  refine ag.seq ?_
  refine ag.b1 ?_
  refine ak.v (cN (ad rfl)) rfl rfl rfl ?_
  refine ak.v (eC (ad rfl)) rfl rfl rfl ?_
  refine ak.nil ?_
  refine ae.next ?_
  refine ag.ret ?_
  have cW:k + (aa.length + aR.length - k)=(aa.take k ++ aR ++ aa.drop k).length:=by simp; omega
  rw [cW]
  exact ae.ha (some az,e2) (.cons_cons _ (List.nil_sublist _)) rfl rfl (gf rfl)
 have wK:aa.length + aR.length≤eH:=by rw [hw] at iZ; simp only [decide_eq_false_iff_not] at iZ; omega
 have pd:maxLen=9223372036854775807:=rfl
 have sV:bm ((k:Int) + (aR.length:Int))=((k + aR.length:Nat):Int):=by rw [gC (by omega) (by omega)]; simp
 refine ag.skip ?_
 refine ae.next ?_
 refine ag.seq ?_
 refine ag.b1 ?_
 refine ak.v (cN (ad rfl)) rfl rfl rfl ?_
 refine ak.v (cN (ad rfl)) rfl rfl rfl ?_
 refine ak.v (cN (ad rfl)) rfl rfl rfl ?_
 refine ak.v (cL (ad rfl) (ad rfl)) rfl rfl rfl ?_
 refine ak.v (sb (α:=aU) (m:=0) (h:=aa.length + aR.length) Tryz.underlying38 c9 (ad rfl) .none (.some (ad rfl)) rfl hw ⟨by omega,by omega⟩) rfl rfl rfl ?_
 refine ak.v (eC (ad rfl)) rfl rfl rfl ?_
 refine ak.nil ?_
 refine ae.next ?_
 refine ag.seq ?_
 refine ag.seq ?_
 refine ag.b1 ?_
 refine ak.v (cN (ad rfl)) rfl rfl rfl ?_
 refine ak.v (cN (ad rfl)) rfl rfl rfl ?_
 refine ak.v (cN (ad rfl)) rfl rfl rfl ?_
 refine ak.v (cN (ad rfl)) rfl rfl rfl ?_
 refine ak.v (cL (ad rfl) (ad rfl)) rfl rfl rfl ?_
 refine ak.v (sb (α:=aU) (p:=p) (n:=aa.length + aR.length) (cap:=eH) (m:=k + aR.length) (h:=aa.length + aR.length) Tryz.underlying38 c9 (CH (size:=ah.size aU) (ad rfl)) (.some (ad rfl)) .none sV rfl ⟨by omega,by omega⟩) rfl rfl rfl ?_
 refine ak.v (WM (α:=aU) (p:=p) (q:=q) (T:=52) (U:=52) (xs:=aa) (vs:=aR) (cap:=eH) (cap':=um) (i:=0) (j:=1) (tR:=4) (by kernel_rfl) Tryz.func280 (by kernel_rfl) (by kernel_rfl) (by kernel_rfl) (by kernel_rfl) Tryz.underlying38 c9 (ad rfl) (Gf (p:=p) (lo:=k + aR.length) (cap:=eH) (size:=ah.size aU) (by omega) (ad rfl)) rfl rfl DJ (by omega)) rfl rfl rfl ?_
 refine ak.v (iT (ad rfl)) rfl rfl rfl ?_
 refine ak.nil ?_
 refine ae.next ?_
 refine ag.cond (ad rfl) (fun _=> ?_) (fun mz=>by cases mz)
 ·have ja:(aa.length + aR.length - 0)=aa.length + aR.length:=by omega
  have O8:(aa.drop k).take (aa.length - k)=aa.drop k:=List.take_of_length_le (by simp)
  refine ag.seq ?_
  refine ag.le (E':= [(0,I.eq (iw (some p) 0 (aa.length + aR.length - 0) eH (ah.size aU))),(1,I.of (k:Int)),(2,I.eq (aZ (some q) aR.length um)),(7,I.of (aR.length:Int))]) (.same rfl (.same rfl (.same rfl (.same rfl .nil)))) ?_
  refine ag.kn mixed (⟨some 69,[],[],[],fun _=>I.eq (iw (some p) 0 (aa.length + aR.length - 0) eH (ah.size aU)),fun _ _=>⟨none,.dead⟩⟩ :: ⟨some 70,[],[],[],fun _=>I.of (k:Int),fun _ _=>⟨none,.dead⟩⟩ :: ⟨some 71,[],[],[],fun _=>I.of (aR.length:Int),fun _ _=>⟨none,.dead⟩⟩ :: ⟨some 72,(1 :: 2 :: []),[],[],fun _=>I.of (bm ((k:Int) + (aR.length:Int))),fun _ _=>⟨none,.dead⟩⟩ :: ⟨some 73,(0 :: 3 :: []),[],[],fun _=>I.eq (iw (some p) (k + aR.length) (aa.length + aR.length - (k + aR.length)) eH (ah.size aU)),fun _ _=>⟨none,.dead⟩⟩ :: ⟨some 74,[],[],[],fun _=>I.eq (iw (some p) 0 (aa.length + aR.length - 0) eH (ah.size aU)),fun _ _=>⟨none,.dead⟩⟩ :: ⟨some 75,[],[],[],fun _=>I.of (k:Int),fun _ _=>⟨none,.dead⟩⟩ :: ⟨some 76,(5 :: 6 :: []),[],[],fun _=>I.eq (iw (some p) k (aa.length + aR.length - k) eH (ah.size aU)),fun _ _=>⟨none,.dead⟩⟩ :: ⟨some 77,(4 :: 7 :: []),(0 :: []),(0 :: []),fun _=>I.of ((((aa.drop k).take (aa.length - k)).length:Nat):Int),fun _ _=>⟨some p,.z8 52 aa k aR.length eH⟩⟩ :: []) ((some 69,[],[],[]) :: (some 70,[],[],[]) :: (some 71,[],[],[]) :: (some 72,(1 :: 2 :: []),[],[]) :: (some 73,(0 :: 3 :: []),[],[]) :: (some 74,[],[],[]) :: (some 75,[],[],[]) :: (some 76,(5 :: 6 :: []),[],[]) :: (some 77,(4 :: 7 :: []),(0 :: []),(0 :: [])) :: []) (0 :: 1 :: 2 :: 7 :: []) rfl rfl (by kernel_rfl) ⟨?_,?_,?_,?_,?_,?_,?_,?_,?_,trivial⟩ fun hd=> ?_
  ·exact jH rfl rfl rfl fun hd E' aC aL av=>cN (ad (aL _ _ rfl))
  ·exact jH rfl rfl rfl fun hd E' aC aL av=>cN (ad (aL _ _ rfl))
  ·exact jH rfl rfl rfl fun hd E' aC aL av=>cN (ad (aL _ _ rfl))
  ·exact jH rfl rfl rfl fun hd E' aC aL av=>cL (ad (aL _ _ rfl)) (ad (aL _ _ rfl))
  ·exact jH rfl rfl rfl fun hd E' aC aL av=>sb (α:=aU) (n:=aa.length + aR.length) (m:=k + aR.length) (h:=aa.length + aR.length) Tryz.underlying38 c9 (CH (size:=ah.size aU) (ad (aL _ _ rfl))) (.some (ad (aL _ _ rfl))) .none sV rfl ⟨by omega,by omega⟩
  ·exact jH rfl rfl rfl fun hd E' aC aL av=>cN (ad (aL _ _ rfl))
  ·exact jH rfl rfl rfl fun hd E' aC aL av=>cN (ad (aL _ _ rfl))
  ·exact jH rfl rfl rfl fun hd E' aC aL av=>sb (α:=aU) (n:=aa.length + aR.length) (m:=k) (h:=aa.length + aR.length) Tryz.underlying38 c9 (CH (size:=ah.size aU) (ad (aL _ _ rfl))) (.some (ad (aL _ _ rfl))) .none rfl rfl ⟨by omega,by omega⟩
  ·intro hd E' aC aL av
   have bP:=av 0 _ rfl rfl
   refine ak.Da (i:=0) (p:=p) (off:=(k + aR.length) * ah.size aU) (T:=52) (vs:=(aa.drop k).take (aa.length - k)) (N:=aa.length + aR.length - k) (dLen:=aa.length + aR.length - (k + aR.length)) (dCap:=eH - (k + aR.length)) (cp':= .z8 52 aa k aR.length eH) Tryz.underlying38 c9 (Gf (p:=p) (lo:=k + aR.length) (cap:=eH) (size:=ah.size aU) (by omega) (ad (aL _ _ rfl))) (FM (i:=0) (ad (aL _ _ rfl)) bP (by omega) (by omega)) (by rw [O8]; rw [show(aa.drop k).length=aa.length + aR.length - (k + aR.length) by simp; omega]; exact Nat.min_eq_right (by omega)) bP rfl (fun A W o cells h cR=>Uj aq wK h (by rw [← O8]; exact cR)) ?_
   refine ak.nil ?_
   exact ae.fin (fI []) rfl rfl
  refine ae.gu (L2:= [⟨some p,.z8 52 aa k aR.length eH⟩,⟨some q,.row 52 aR um⟩]) rfl ?_
  refine ae.le (E':= [(0,I.eq (iw (some p) 0 (aa.length + aR.length - 0) eH (ah.size aU))),(1,I.of (k:Int)),(2,I.eq (aZ (some q) aR.length um))]) (.same rfl (.same rfl (.same rfl .nil))) ?_
  refine ae.next ?_
  refine ag.seq ?_
  refine ag.b1 ?_
  refine ak.v (cN (ad rfl)) rfl rfl rfl ?_
  refine ak.v (cN (ad rfl)) rfl rfl rfl ?_
  refine ak.v (sb (α:=aU) (n:=aa.length + aR.length) (m:=k) (h:=aa.length + aR.length) Tryz.underlying38 c9 (CH (size:=ah.size aU) (ad rfl)) (.some (ad rfl)) .none rfl rfl ⟨by omega,by omega⟩) rfl rfl rfl ?_
  refine ak.v (cN (ad rfl)) rfl rfl rfl ?_
  refine ak.Da (i:=0) (p:=p) (off:=k * ah.size aU) (dLen:=aa.length + aR.length - k) (dCap:=eH - k) (N:=aR.length) (vs:=aR) (T:=52) (cp':= .row 52 (aa.take k ++ aR ++ aa.drop k) eH) Tryz.underlying38 c9 (Gf (p:=p) (lo:=k) (cap:=eH) (size:=ah.size aU) (by omega) (ad rfl)) (L3 (i:=1) (ad rfl) rfl a3) (Nat.min_eq_left (by omega)) rfl rfl (fun A W o cells h cR=>TC aq h cR) ?_
  refine ak.nil ?_
  refine ae.next ?_
  refine ag.seq ?_
  refine ag.b1 ?_
  refine ak.v (cN (ad rfl)) rfl rfl rfl ?_
  refine ak.v (eC (ad rfl)) rfl rfl rfl ?_
  refine ak.nil ?_
  refine ae.next ?_
  refine ag.ret ?_
  have cW:aa.length + aR.length - 0=(aa.take k ++ aR ++ aa.drop k).length:=by simp; omega
  rw [yD,cW]
  exact ae.ha (some p,eH) (.cons_cons _ (List.nil_sublist _)) rfl rfl (gf rfl)
end Go.Proofs.YtmnggbjcnoffeaaGreat
namespace Go.Proofs.YtmnggbjcnoffeaaGreat
open Go Gv
set_option linter.unusedVariables false
set_option linter.unusedSimpArgs false
set_option maxRecDepth 100000
set_option maxHeartbeats 2000000
theorem QE {aa:dM} {ai:aU} {cO:Nat} {pJ:Option Nat} {pK:Nat} {r:Bool × dM} (h:xB aa ai=some r):cG Tryz.prog 267 [I.eq (.pointer (some ⟨cO,0,none⟩)),I.of (ai)] [⟨some cO,.cC (({ aa with ef:= [] } :dM):dM) [(10,aZ pJ aa.ef.length pK)]⟩,⟨pJ,.row 52 (aa.ef:List aU) pK⟩] (δ:=(Option Nat × Nat)) (fun d=>I.of (r.1)) (fun d=> [⟨some cO,.cC (({ r.2 with ef:= [] } :dM):dM) [(10,aZ d.1 (r.2.ef).length d.2)]⟩,⟨d.1,.row 52 (r.2.ef:List aU) d.2⟩]):=by
 unfold xB at h
 refine cG.of Tryz.func267 rfl Tryz.ntmps267 rfl fun W A=> ?_
 refine aA ?_
 refine ca fun bf=> ?_
 refine aH ?_
 refine bx ?_
 refine aA ?_
 refine ax ?_
 refine bh (ME Tryz.underlying170 (ad rfl)) ?_
 refine ax ?_
 refine eg cN ?_
 refine eg (a2 km) ?_
 refine eN (fun hb=>fb (i:=0) ((aI.id aU).comp ji) (r:=ai.cg) bM (ct rfl hb) rfl rfl rfl) ?_
 obtain⟨aD,bp,h⟩:=ar h
 refine eN (fun hb=>b3.WN (β:=dM) (γ:=aU) (b':=(aa:dM)) ((aI.id dM).comp xR) 1 2 0 rfl rfl rfl rfl rfl rfl tG (b3.N4 1 rfl tG (b3.N5 (z:=(aa:dM)) 1 11 rfl (fun _ _ _ h=>h.1 hb) rfl tG (h1 WO (QJ (fE bp hb)) ⟨ad rfl,ct rfl hb,trivial⟩)))) ?_
 refine k7 lZ ?_
 refine pb ?_
 refine aJ ?_
 refine b0 h (fun h=>?_) fun h=>?_
 ·refine aA ?_
  refine aH ?_
  refine aJ ?_
  refine ag.ret ?_
  refine ae.ret ?_
  refine ae.cd 2 rfl ?_
  refine ae.cd 2 rfl ?_
  obtain rfl:=aG h
  exact k6 (pJ,pK)
 ·refine cn ?_
  refine aA ?_
  refine ax ?_
  refine bh (WQ (ad rfl)) ?_
  refine aH ?_
  refine bx ?_
  obtain⟨aM,b9,h⟩:=ar h
  refine lI [0,1,3,4,5,8,9,10,11,12,13,14,15,16,17,18] ?_
  refine ag.kn mixed (bt 20 [] [] _ :: bt 21 (0 :: []) [] _ :: bt 22 (1 :: []) [] _ :: bt 23 (2 :: []) (1 :: []) _ :: bt 24 [] (0 :: []) _ :: bt 25 [] [] _ :: bt 26 (3 :: 4 :: 5 :: []) (1 :: 2 :: []) _ :: bt 19 (6 :: []) [] _ :: bt 27 (7 :: []) [] _ :: bt 28 (7 :: []) [] _ :: bt 6 (8 :: []) [] _ :: bt 7 (9 :: []) [] _ :: []) _ (0 :: 1 :: 3 :: 4 :: 5 :: 8 :: 9 :: 10 :: 11 :: 12 :: 13 :: 14 :: 15 :: 16 :: 17 :: 18 :: []) rfl rfl (by kernel_rfl) ⟨gb,ga fV,ga (a2 yS),c2 fun hd E' aC aL av=>iR (i:=1) (q:=0) (β:=dM) (γ:=aU) uC (ad (aL _ _ rfl)) (av 1 _ rfl rfl) rfl,p3 0 c9,gb,c2 fun hd E' aC aL av=>b3.U9 (β:=dM) (γ:=aU) (b':=(aa:dM)) ((aI.id dM).comp xR) 1 2 0 23 rfl (av 1 _ rfl rfl) (av 2 _ rfl rfl) rfl rfl rfl (aL _ _ rfl) (Fb tG Ce) (b3.N4 1 (HS (O9 rfl (av 1 _ rfl rfl))) (Fb tG Ce) (b3.Va (F:=(fun fT eL=>vo aa fT eL)) 1 25 (aL _ _ rfl) (HS (HS (O9 rfl (av 1 _ rfl rfl)))) WR (fun _ _ _ h=>QD h) (Fb tG Ce) (h1 WS (Qi b9) ⟨ad rfl,ad (aL _ _ rfl),ad rfl,trivial⟩))),gb,c2 fun hd E' aC aL av=>oo (ad (aL _ _ rfl)) rfl,c2 fun hd E' aC aL av=>oo (ad (aL _ _ rfl)) rfl,c2 fun hd E' aC aL av=>eC (ad (aL _ _ rfl)),c2 fun hd E' aC aL av=>eC (ad (aL _ _ rfl)),trivial⟩ fun gO=> ?_
  refine ae.gu (L2:= [⟨some bf,.var (ai:aU)⟩,⟨some cO,.cC (({ aa with ef:= [] } :dM):dM) [(10,aZ pJ aa.ef.length pK)]⟩,⟨pJ,.row 52 (aa.ef:List aU) pK⟩]) rfl ?_
  refine l8 [0,1,3,4,5,6,7,8,9,10,11,12,13,14,15,16,17,18,19,20,21,22,23,24,25,26,27,28] ?_
  refine ae.next ?_
  refine ag.seq ?_
  obtain⟨a8,dP,h⟩:=ar h
  obtain⟨br,eW,h⟩:=ar h
  refine ag.q1 1 ?_
  refine lI [0,1,3,4,5,6,7,8,9,10,11,12,13,14,15,16,17,18,19,20,21,22,23,24,25,26,27,28] ?_
  refine ag.kn mixed (bt 29 [] [] _ :: bt 30 [] [] _ :: bt 31 (1 :: []) [] _ :: bt 32 (2 :: []) [] _ :: bt 33 (3 :: []) (1 :: []) _ :: bt 34 [] [] _ :: bt 35 [] (0 :: []) _ :: bt 36 (6 :: []) [] _ :: ⟨some 37,(7 :: []),(3 :: []),(3 :: []),fun hd=>I.eq (aZ (hd 8 0) [a8].length 1),fun hd _=>⟨(hd 8 0),.row 52 ([a8]:List aU) 1⟩⟩ :: ⟨some 38,(4 :: 5 :: 8 :: []),(2 :: 3 :: []),(2 :: 3 :: []),fun hd=>I.eq (aZ (hd 9 0) br.length ((hd 9 1).getD 0)),fun hd j=>bif Nat.beq j 2 then⟨(hd 9 0),.row 52 (br:List aU) ((hd 9 1).getD 0)⟩ else⟨none,.dead⟩⟩ :: bt 39 (0 :: []) [] _ :: bt 40 (10 :: []) [] _ :: ⟨none,(4 :: 9 :: 11 :: []),(1 :: []),(1 :: []),fun _=>I.any,fun hd _=>⟨some cO,.cC (({ aa with ef:= [] } :dM):dM) [(10,aZ (hd 9 0) br.length ((hd 9 1).getD 0))]⟩⟩ :: []) _ (0 :: 1 :: 3 :: 4 :: 5 :: 6 :: 7 :: 8 :: 9 :: 10 :: 11 :: 12 :: 13 :: 14 :: 15 :: 16 :: 17 :: 18 :: 19 :: 20 :: 21 :: 22 :: 23 :: 24 :: 25 :: 26 :: 27 :: 28 :: []) rfl rfl (by kernel_rfl) ⟨gb,gb,ga fV,ga (a2 yS),c2 fun hd E' aC aL av=>iR (i:=1) (q:=0) (β:=dM) (γ:=aU) uC (ad (aL _ _ rfl)) (av 1 _ rfl rfl) rfl,gb,p3 0 c9,c2 fun hd E' aC aL av=>h1 Hl (EP dP) ⟨ad (aL _ _ rfl),trivial⟩,?_,?_,ga fV,ga (a2 yS),?_,trivial⟩ fun j3=> ?_
  ·intro hd E' aC aL av
   refine ak.pV (α:=aU) (r:= [a8]) Tryz.underlying38 c9 iI rfl rfl (.cons (by simp) (ad (aL _ _ rfl)) (.nil)) rfl fun gE=> ?_
   refine ak.nil ?_
   refine ae.place 3 (av 3 _ rfl rfl) ?_
   exact ae.fin (fI [gE]) rfl rfl
  ·intro hd E' aC aL av
   refine ak.Vb (fun q=>⟨q.1,.row 52 (br:List aU) q.2⟩) 2 3 WT (Ql eW) ⟨ad (aL _ _ rfl),ad (aL _ _ rfl),ad (aL _ _ rfl),trivial⟩ rfl (av 2 _ rfl rfl) (av 3 _ rfl rfl) (fun _=>rfl) rfl fun⟨kq,e2⟩=> ?_
   refine ak.nil ?_
   exact ae.fin (fI [kq,some e2]) rfl rfl
  ·intro hd E' aC aL av
   refine ak.jm (i:=1) (γ:=aU) (b':=(({ aa with ef:= [] } :dM):dM)) (os':= [(10,aZ (hd 9 0) br.length ((hd 9 1).getD 0))]) ((aI.id dM).comp xR) uC (ad (aL _ _ rfl)) (ad (aL _ _ rfl)) iu (av 1 _ rfl rfl) rfl rfl rfl ?_
   refine ak.nil ?_
   exact ae.fin (fI []) rfl rfl
  refine ae.gu (L2:= [⟨some bf,.var (ai:aU)⟩,⟨some cO,.cC (({ aa with ef:= [] } :dM):dM) [(10,aZ (j3 9 0) br.length ((j3 9 1).getD 0))]⟩,⟨(j3 9 0),.row 52 (br:List aU) ((j3 9 1).getD 0)⟩,⟨none,.dead⟩]) rfl ?_
  refine l8 [0,1,3,4,5,6,7,8,9,10,11,12,13,14,15,16,17,18,19,20,21,22,24,25,26,27,28,29,30,31,32,34,35,36,38,39,40] ?_
  refine ae.cd 3 rfl ?_
  refine ae.next ?_
  refine aA ?_
  refine aH ?_
  refine aJ ?_
  refine ag.ret ?_
  refine ae.cd 3 rfl ?_
  refine ae.cd 3 rfl ?_
  obtain rfl:=aG h
  exact k6 ((j3 9 0),((j3 9 1).getD 0))
end Go.Proofs.YtmnggbjcnoffeaaGreat
namespace Go.Proofs.YtmnggbjcnoffeaaGreat
open Go Gv
set_option linter.unusedVariables false
set_option linter.unusedSimpArgs false
set_option maxRecDepth 100000
set_option maxHeartbeats 2000000
theorem Re {hp:bg Cell} {aa:ki} {ai:aU} {Q:(bg Cell)→Prop} (h:xZ hp aa ai Q):cG Tryz.prog 262 [I.of (aa),I.of (ai)] ([] ++ bz hp) (δ:= {r:(bg Cell) // Q r} × Unit) (fun d=>I.eI []) (fun d=> [] ++ bz d.1.1):=by
 unfold xZ at h
 refine cG.of Tryz.func262 rfl Tryz.ntmps262 rfl fun W A=> ?_
 refine aA ?_
 refine ca fun bf=> ?_
 refine ca fun bw=> ?_
 refine aJ ?_
 refine ag.b1 ?_
 refine aY (a2 LZ) ?_
 refine b5 1 EH GW ?_
 refine bY 0 c9 ?_
 obtain⟨dT,fY,h⟩:=aK.c4 h
 obtain⟨cZ,hz,h⟩:=aK.c4 h
 obtain⟨aD,bp,h⟩:=aK.c4 h
 refine ak.PX (hi.obj 2 (fun q:Option Nat × Nat=>Cell.sH aD.2 q.1 q.2) rfl (y7 hz) WU (QE bp) rfl (fun _=>rfl) ⟨ht (ad rfl) fY,ad rfl,trivial⟩) rfl rfl rfl fun az=> ?_
 replace h:=aK.any_bind h az
 obtain⟨dZ,o6,h⟩:=aK.c4 h
 refine ak.gu (L2:=(⟨some bw,.var (ai:aU)⟩ :: ⟨some bf,.var (aa:ki)⟩ :: bz dZ)) (by rw [← aG o6]; rfl) ?_
 refine ak.nil ?_
 refine ae.q5 ?_
 exact ae.oq (⟨⟨dZ,h⟩,()⟩: {r // _} × _) (.cons _ (.cons _ (.refl _))) rfl rfl
theorem BT {aa:a0} {ai:List aU} {aR:Int} {r:Bool × Int} (h:oO aa ai aR=some r):bn Tryz.prog 37 [I.of (aa),I.of (ai),I.of (aR)] (I.eI [I.of (r.1),I.of (r.2)]):=by
 unfold oO at h
 refine bn.of Tryz.func37 rfl Tryz.ntmps37 rfl fun W A=> ?_
 refine aA ?_
 refine ca fun bf=> ?_
 refine aH ?_
 refine aH ?_
 refine bE ?_
 refine bY 0 eP ?_
 refine ax ?_
 refine ax ?_
 obtain⟨aD,bp,h⟩:=ar h
 refine cH OF (JL bp) ?_
 refine ax ?_
 refine dG ?_
 refine dG ?_
 refine dG ?_
 refine ch hX fun bw=> ?_
 refine bS 0 cY ?_
 refine aH ?_
 refine aH ?_
 refine bx ?_
 refine aA ?_
 refine ax ?_
 refine a5 mY ?_
 refine aJ ?_
 refine b0 h (fun h=>?_) fun h=>?_
 ·refine aA ?_
  refine ax ?_
  refine aH ?_
  refine aH ?_
  refine aJ ?_
  refine ag.ret ?_
  refine ae.ret ?_
  obtain rfl:=aG h
  exact pa
 ·refine cn ?_
  refine aA ?_
  refine bY 0 cY ?_
  refine ax ?_
  obtain⟨aM,b9,h⟩:=ar h
  refine cH Yn (RB b9) ?_
  refine dG ?_
  refine dG ?_
  refine aH ?_
  refine aH ?_
  refine aJ ?_
  refine ag.ret ?_
  obtain rfl:=aG h
  exact pa
theorem Rr {aa:a0} {ai:List aU} {aR:Int} {r:(Vector aw 4) × Bool × Int} (h:tq aa ai aR=some r):bn Tryz.prog 45 [I.of (aa),I.of (ai),I.of (aR)] (I.eI [I.of (r.1),I.of (r.2.1),I.of (r.2.2)]):=by
 unfold tq at h
 refine bn.of Tryz.func45 rfl Tryz.ntmps45 rfl fun W A=> ?_
 refine aA ?_
 refine ca fun bf=> ?_
 refine ch iV fun bw=> ?_
 refine aH ?_
 refine aH ?_
 refine bE ?_
 refine bY 1 eP ?_
 refine ax ?_
 refine ax ?_
 obtain⟨aD,bp,h⟩:=ar h
 refine cH OF (JL bp) ?_
 refine ax ?_
 refine dG ?_
 refine dG ?_
 refine dG ?_
 refine ch hX fun cz=> ?_
 refine bS 0 cY ?_
 refine aH ?_
 refine aH ?_
 refine bx ?_
 refine aA ?_
 refine ax ?_
 refine a5 mY ?_
 refine aJ ?_
 refine b0 h (fun h=>?_) fun h=>?_
 ·refine aA ?_
  refine bh (oQ (b:=(default:Vector aw 4)) (sz:=2) rfl Tryz.underlying45 (by kernel_rfl) iV (.nil)) ?_
  refine ax ?_
  refine bS 1 dR ?_
  refine aH ?_
  refine aH ?_
  refine aJ ?_
  refine ag.ret ?_
  refine ae.ret ?_
  obtain rfl:=aG h
  exact ae.l5 rfl (dF 1 dR) (fw rfl) (fw rfl)
 ·refine cn ?_
  refine aA ?_
  refine bY 0 cY ?_
  refine ax ?_
  obtain⟨aM,b9,h⟩:=ar h
  refine cH Yo (RC b9) ?_
  refine dG ?_
  refine dG ?_
  refine dG ?_
  refine bS 1 dR ?_
  refine aH ?_
  refine aH ?_
  refine aJ ?_
  refine ag.ret ?_
  obtain rfl:=aG h
  exact ae.l5 rfl (dF 1 dR) (fw rfl) (fw rfl)
theorem Q5 {hp:bg Cell} {y:g3} {aa:aU} {Q:(bg Cell)→Prop} (h:EI hp y aa Q):nu Tryz.prog "matchguard/index.put" (I.of y) [I.of (aa)] ([] ++ bz hp) (δ:= {r:(bg Cell) // Q r} × Unit) (fun d=>I.eI []) (fun d=> [] ++ bz d.1.1):=by
 cases y with
 | nil=>exact h.elim
 | nB z=>
   obtain⟨r,J,ab⟩:=h
   exact nu.of S2 (fun A W u hu=>KX hu) (cG.map (fun d=>(⟨r,ab⟩,d)) (fun _=>rfl) (fun _=>rfl) (Rd J))
 | nC z=>exact nu.of S3 (fun A W u hu=>KY hu) (QU h)
 | nD z=>exact nu.of S4 (fun A W u hu=>KZ hu) (Re h)
theorem RF {aa:a0} {ai:List aU} {r:(List cP)} (h:yc aa ai=some r):bn Tryz.prog 48 [I.of (aa),I.of (ai)] (I.of (r)):=by
 unfold yc at h
 refine bn.of Tryz.func48 rfl Tryz.ntmps48 rfl fun W A=> ?_
 refine aA ?_
 refine ca fun bf=> ?_
 refine bh (eC (look_nil (α:=cP))) ?_
 refine bE ?_
 refine ak.own (α:=cP) 97 ?_
 refine bh (eC pI) ?_
 refine bx ?_
 refine aA ?_
 refine ax ?_
 refine aY (er Tryz.underlying38) ?_
 refine ax ?_
 refine aJ ?_
 refine ag.block ?_
 obtain⟨ay,al,h⟩:=ar h
 refine eD (γ:=(Option Nat × Nat)) (δ:=(Option Nat × Nat)) al [0,1,2,4,9,10] (fun s1 au=> [(5,I.eq (aZ au.1 s1.2.length au.2)),(11,I.of (s1.1))]) (fun s1 au=> [(0,⟨au.1,.row 97 (s1.2:List cP) au.2⟩)]) (fun az=>Exit.exit 0) (fun az au=> [(5,I.eq (aZ au.1 az.2.2.length au.2)),(11,I.of (az.1)),(12,I.of (az.2.1))]) (fun az au=> [(0,⟨au.1,.row 97 (az.2.2:List cP) au.2⟩)]) (none,0) (fun s1 r h au=> ?_) fun au=> ?_
 ·clear al
  refine aA ?_
  refine a5 dd ?_
  refine bx ?_
  refine b0 h (fun h=>?_) fun h=>?_
  ·refine cn ?_
   refine ag.seq ?_
   refine ag.block ?_
   refine aA ?_
   obtain⟨aV,b4,h⟩:=ar h
   refine fq b4 Tryz.underlying38 c9 ?_
   refine aY (cK c9) ?_
   refine ch iI fun bw=> ?_
   refine bS 0 c9 ?_
   refine bE ?_
   refine aY (a2 km) ?_
   refine b5 0 ji bM ?_
   obtain⟨bN,dg,h⟩:=ar h
   refine dm dg (cU (b:=({ (default:cP) with cg:=(aB ai aV).cg } :cP)) rfl OG zO (.cons vk rfl (ad rfl) rfl (.nil))) ?_
   refine ch zO fun cz=> ?_
   refine bS 0 k3 ?_
   refine bE ?_
   refine bY 3 eP ?_
   refine ax ?_
   refine aY (a2 km) ?_
   refine b5 1 ji bM ?_
   obtain⟨aD,bp,h⟩:=ar h
   refine cH Dm (BT bp) ?_
   refine ax ?_
   refine dG ?_
   refine dG ?_
   refine aY (a2 Vc) ?_
   refine jt 0 Bg hR ?_
   refine aY (a2 Vd) ?_
   obtain⟨c7,gG,h⟩:=ar h
   refine sP 0 Bo Ho (hb:=by exact gG) ?_
   refine aJ ?_
   refine ag.b1 ?_
   refine ax ?_
   refine bY 0 k3 ?_
   refine fQ [c7] Tryz.underlying94 k3 zO ?_
   obtain⟨aM,b9,h⟩:=ar h
   refine jv 2 Tryz.underlying94 k3 zO b9 fun gE e2=> ?_
   refine aH ?_
   refine ak.nil ?_
   refine ae.db ?_
   refine ae.next ?_
   refine ag.b1 ?_
   refine a5 cL ?_
   refine ax ?_
   refine ak.nil ?_
   obtain rfl:=aG h
   exact dO (gE,e2) 2
  ·refine ag.exit ?_
   refine ae.exit ?_
   obtain rfl:=aG h
   exact c6 (au.1,au.2) 0
 ·clear al
  refine ae.dD ?_
  refine ae.next ?_
  refine aA ?_
  refine ax ?_
  refine ak.cd 0 rfl ?_
  obtain⟨a8,dP,h⟩:=ar h
  refine ak.lX (Lin:= [⟨au.1,.row 97 (ay.2.2:List cP) au.2⟩]) (Lr:= [⟨some bf,.var (aa:a0)⟩]) Yp (Qj (FI dP)) ⟨ad rfl,v5 Yq (fun _ _ _=>Q2),trivial⟩ rfl fun ck=> ?_
  refine ak.gY (m:=a8.length) 5 rfl ((tF dP).symm) ?_
  refine ak.gY (m:=a8.length) 33 rfl ((tF dP).symm) ?_
  refine bE ?_
  refine ax ?_
  refine aH ?_
  refine aJ ?_
  refine ag.ret ?_
  refine ae.kF (α:=cP) 0 [4,5,33,35] ⟨rfl,rfl,rfl,rfl,trivial⟩ rfl ?_
  obtain rfl:=aG h
  exact c3
end Go.Proofs.YtmnggbjcnoffeaaGreat
namespace Go.Proofs.YtmnggbjcnoffeaaGreat
open Go Gv
set_option linter.unusedVariables false
set_option linter.unusedSimpArgs false
set_option maxRecDepth 100000
set_option maxHeartbeats 2000000
theorem R0 {r:Bool} (h:BV=some r):bn Tryz.prog 38 [] (I.of (r)):=by
 unfold BV at h
 refine bn.of Tryz.func38 rfl Tryz.ntmps38 rfl fun W A=> ?_
 refine aA ?_
 refine aH ?_
 refine bE ?_
 obtain⟨aD,bp,h⟩:=ar h
 refine eT 0 Hp (EW bp) fun az=> ?_
 refine ak.cd 0 rfl ?_
 obtain⟨aM,b9,h⟩:=ar h
 refine eT 1 OH (JF b9) fun ck=> ?_
 refine ch zJ fun bf=> ?_
 refine bS 0 eP ?_
 refine bE ?_
 obtain⟨a8,dP,h⟩:=ar h
 refine ak.DF Tryz.underlying47 gF l4 rfl (by kernel_rfl) (bF 2) (bF 2) dP rfl fun gE=> ?_
 refine ak.freeze (α:=cA) 0 10 rfl rfl ?_
 obtain⟨bN,dg,h⟩:=ar h
 refine dm dg (cU (b:=({ (default:bL) with dJ:=3,cu:=a8,g9:=5,lB:=1 } :bL)) rfl Hq wR (.cons pC rfl (bF 3) rfl (.cons kh rfl (ad rfl) rfl (.cons oM rfl (bF 5) rfl (.cons Bs rfl (bF 1) rfl (.nil)))))) ?_
 obtain⟨c7,gG,h⟩:=ar h
 refine dm gG (cU (b:=({ (default:aU) with cr:=bN,cg:=1 } :aU)) rfl Hr iI (.cons iO rfl (ad rfl) rfl (.cons ji rfl (bF 1) rfl (.nil)))) ?_
 refine ch iI fun bw=> ?_
 refine bS 0 c9 ?_
 refine bE ?_
 obtain⟨br,eW,h⟩:=ar h
 refine ak.DF Tryz.underlying47 gF l4 rfl (by kernel_rfl) (bF 2) (bF 2) eW rfl fun kq=> ?_
 refine ak.freeze (α:=cA) 0 13 rfl rfl ?_
 obtain⟨fA,j1,h⟩:=ar h
 refine dm j1 (cU (b:=({ (default:bL) with dJ:=3,cu:=br,g9:=4,lB:=1 } :bL)) rfl Hq wR (.cons pC rfl (bF 3) rfl (.cons kh rfl (ad rfl) rfl (.cons oM rfl (bF 4) rfl (.cons Bs rfl (bF 1) rfl (.nil)))))) ?_
 obtain⟨hj,k8,h⟩:=ar h
 refine dm k8 (cU (b:=({ (default:aU) with cr:=fA,cg:=2 } :aU)) rfl Hr iI (.cons iO rfl (ad rfl) rfl (.cons ji rfl (bF 2) rfl (.nil)))) ?_
 refine ch iI fun cz=> ?_
 refine bS 0 c9 ?_
 refine bE ?_
 refine bY 4 eP ?_
 refine bY 2 c9 ?_
 refine bY 0 c9 ?_
 refine fQ [c7,hj] Tryz.underlying38 c9 iI ?_
 obtain⟨cj,gH,h⟩:=ar h
 refine cH Dm (BT gH) ?_
 refine ax ?_
 refine dG ?_
 refine dG ?_
 refine aH ?_
 refine aH ?_
 refine bE ?_
 refine bY 4 eP ?_
 refine bY 2 c9 ?_
 refine bY 0 c9 ?_
 refine fQ [c7,hj] Tryz.underlying38 c9 iI ?_
 obtain⟨cM,hh,h⟩:=ar h
 refine cH Dm (BT hh) ?_
 refine ax ?_
 refine dG ?_
 refine dG ?_
 refine aH ?_
 refine aH ?_
 refine bE ?_
 refine ax ?_
 refine ax ?_
 refine eg cN ?_
 refine eg iT ?_
 refine j4 ?_
 refine ax ?_
 refine eg cN ?_
 refine k7 fW ?_
 refine j4 ?_
 refine ax ?_
 refine eg cN ?_
 refine k7 fW ?_
 refine j4 ?_
 refine aH ?_
 refine aJ ?_
 refine ag.ret ?_
 obtain rfl:=aG h
 exact c3
theorem Rk {hp:bg Cell} {aa:Ref} {ai:aU} {Q:Bool × (bg Cell)→Prop} (h:x0 hp aa ai Q):cG Tryz.prog 44 [I.of (aa),I.of (ai)] ([] ++ bz hp) (δ:= {r:Bool × (bg Cell) // Q r} × Unit) (fun d=>I.of (d.1.1.1)) (fun d=> [] ++ bz d.1.1.2):=by
 unfold x0 at h
 refine cG.of Tryz.func44 rfl Tryz.ntmps44 rfl fun W A=> ?_
 refine aA ?_
 refine ca fun bf=> ?_
 refine aH ?_
 refine bx ?_
 refine aA ?_
 refine ax ?_
 refine bh (sa Tryz.underlying37 (ad rfl)) ?_
 refine aJ ?_
 refine ag.cond (ad rfl) (fun ao=> ?_) (fun ao=> ?_)
 ·replace h:=qD ao h
  refine aA ?_
  refine aH ?_
  refine aJ ?_
  refine ag.ret ?_
  refine ae.ret ?_
  exact ae.ha (⟨⟨(false,hp),h⟩,()⟩: {r // _} × _) (.cons _ (.refl _)) rfl rfl (gf rfl)
 ·replace h:=qE ao h
  refine cn ?_
  refine ag.seq ?_
  obtain⟨dT,fY,h⟩:=aK.c4 h
  obtain⟨cZ,hz,h⟩:=aK.c4 h
  obtain⟨cT,hI,h⟩:=aK.c4 h
  obtain⟨dX,iZ,h⟩:=aK.c4 h
  obtain⟨bN,dg,h⟩:=aK.c4 h
  refine ag.WV 1 1 ?_
  refine lI [0,1,3,4,9,10] ?_
  refine ag.C1 2 mixed (bt 12 [] [] _ :: bt 13 (0 :: []) [] _ :: bt 14 (1 :: []) [] _ :: ⟨some 15,(2 :: []),[],[],fun _=>I.of (cZ.mL),fun _ _=>⟨none,.dead⟩⟩ :: bt 16 [] [] _ :: bt 17 (4 :: []) (0 :: []) _ :: ⟨some 18,(3 :: 5 :: []),[],[],fun _=>I.eI [I.of (bN.getD default),I.of (bN.isSome)],fun _ _=>⟨none,.dead⟩⟩ :: bt 11 (6 :: []) [] _ :: bt 19 (7 :: []) [] _ :: bt 20 (7 :: []) [] _ :: ⟨some 5,[],(1 :: []),(1 :: []),fun hd=>I.eq (.pointer (some ⟨((hd 10 0).getD 0),0,none⟩)),fun hd _=>⟨some ((hd 10 0).getD 0),.var ((default:aU):aU)⟩⟩ :: ⟨none,(8 :: 10 :: []),(1 :: []),(1 :: []),fun _=>I.any,fun hd _=>⟨some ((hd 10 0).getD 0),.var (bN.getD default:aU)⟩⟩ :: bt 6 (9 :: []) [] _ :: []) _ (0 :: 1 :: 3 :: 4 :: 9 :: 10 :: []) rfl rfl (by kernel_rfl) (by kernel_rfl) ⟨fk.q (gb),fk.q (c2 fun hd E' aC aL av=>fV (ht (ad (aL _ _ rfl)) fY)),fk.q (ga (a2 L4)),?_,fk.q (ga (a2 km)),fk.q (p5 0 ji bM),?_,fk.q (gb),fk.q (c2 fun hd E' aC aL av=>oo (ad (aL _ _ rfl)) rfl),fk.q (c2 fun hd E' aC aL av=>oo (ad (aL _ _ rfl)) rfl),?_,?_,fk.q (c2 fun hd E' aC aL av=>eC (ad (aL _ _ rfl))),trivial⟩ fun gO=> ?_
  ·intro hd E' aC aL av fp
   refine bh (kk ((aI.id hE).comp Ep) (r:=cZ.mL) G3 (ad (aL _ _ rfl)) (iH (n:=2) (fp.trans rfl) (qL hz) rfl) rfl rfl) ?_
   refine ak.nil ?_
   exact ae.fin (fI []) rfl rfl
  ·intro hd E' aC aL av fp
   refine bh (Fl (r:=bN) Tryz.underlying133 Pa iI (qx (ad (aL _ _ rfl)) hI) (ad (aL _ _ rfl)) (iH (n:=2) (fp.trans rfl) (CI iZ) rfl) (aG dg)) ?_
   refine ak.nil ?_
   exact ae.fin (fI []) rfl rfl
  ·intro hd E' aC aL av fp
   refine ch iI fun bw=> ?_
   refine ak.nil ?_
   refine ae.place 1 (av 1 _ rfl rfl) ?_
   exact ae.fin (fI [some bw]) rfl rfl
  ·intro hd E' aC aL av fp
   refine ak.store (i:=1) (aI.id aU) (v:=(bN.getD default:aU)) (b':=(bN.getD default:aU)) c9 (ad (aL _ _ rfl)) (ad (aL _ _ rfl)) (av 1 _ rfl rfl) rfl rfl ?_
   refine ak.nil ?_
   exact ae.fin (fI []) rfl rfl
  refine ae.gu (L2:=(⟨some bf,.var (ai:aU)⟩ :: ⟨some ((gO 10 0).getD 0),.var (bN.getD default:aU)⟩ :: bz hp)) rfl ?_
  refine l8 [0,1,3,4,5,6,9,10,11,12,13,14,15,16,17,18,19,20] ?_
  refine ae.cd 1 rfl ?_
  refine ae.next ?_
  refine ag.seq ?_
  refine ag.seq ?_
  obtain⟨qf,z6,h⟩:=aK.c4 h
  obtain⟨gx,mz,h⟩:=aK.c4 h
  obtain⟨aD,bp,h⟩:=aK.c4 h
  refine lI [0,1,3,4,5,6,9,10,11,12,13,14,15,16,17,18,19,20] ?_
  refine ag.C1 2 mixed (bt 22 [] [] _ :: bt 23 (0 :: []) [] _ :: bt 24 (1 :: []) [] _ :: ⟨some 25,(2 :: []),[],[],fun _=>I.of (gx.kj),fun _ _=>⟨none,.dead⟩⟩ :: bt 26 [] [] _ :: bt 27 (4 :: []) (1 :: []) _ :: ⟨some 28,(3 :: 5 :: []),[],[],fun _=>I.eI [I.of (aD.1),I.of (aD.2)],fun _ _=>⟨none,.dead⟩⟩ :: bt 21 (6 :: []) [] _ :: bt 29 (7 :: []) [] _ :: bt 30 (7 :: []) [] _ :: bt 7 (8 :: []) [] _ :: bt 8 (9 :: []) [] _ :: []) _ (0 :: 1 :: 3 :: 4 :: 5 :: 6 :: 9 :: 10 :: 11 :: 12 :: 13 :: 14 :: 15 :: 16 :: 17 :: 18 :: 19 :: 20 :: []) rfl rfl (by kernel_rfl) (by kernel_rfl) ⟨fk.q (gb),fk.q (c2 fun hd E' aC aL av=>fV (ht (ad (aL _ _ rfl)) z6)),fk.q (ga (a2 yU)),?_,fk.q (ga (a2 jT)),fk.q (p5 1 iO ig),?_,fk.q (gb),fk.q (c2 fun hd E' aC aL av=>oo (ad (aL _ _ rfl)) rfl),fk.q (c2 fun hd E' aC aL av=>oo (ad (aL _ _ rfl)) rfl),fk.q (c2 fun hd E' aC aL av=>eC (ad (aL _ _ rfl))),fk.q (c2 fun hd E' aC aL av=>eC (ad (aL _ _ rfl))),trivial⟩ fun j3=> ?_
  ·intro hd E' aC aL av fp
   refine bh (kk ((aI.id hE).comp xz) (r:=gx.kj) wL (ad (aL _ _ rfl)) (iH (n:=2) (fp.trans rfl) (qL mz) rfl) rfl rfl) ?_
   refine ak.nil ?_
   exact ae.fin (fI []) rfl rfl
  ·intro hd E' aC aL av fp
   refine ak.qd (jx.Hs 2 (fp.trans rfl) (QT bp) ⟨ad (aL _ _ rfl),ad (aL _ _ rfl),trivial⟩) rfl rfl rfl ?_
   refine ak.nil ?_
   exact ae.fin (fI []) rfl rfl
  refine ae.gu (L2:=(⟨some ((gO 10 0).getD 0),.var (bN.getD default:aU)⟩ :: ⟨some bf,.var (ai:aU)⟩ :: bz hp)) rfl ?_
  refine l8 [0,1,3,4,5,6,7,8,9,10,11,12,13,14,15,16,17,18,19,20,21,22,23,24,25,26,27,28,29,30] ?_
  refine ae.next ?_
  refine aA ?_
  refine ax ?_
  refine ax ?_
  refine eg cN ?_
  refine pb ?_
  refine aJ ?_
  refine ag.cond (ad rfl) (fun ao=> ?_) (fun ao=> ?_)
  ·replace h:=qD ao h
   refine aA ?_
   refine aH ?_
   refine aJ ?_
   refine ag.ret ?_
   refine ae.ret ?_
   exact ae.ha (⟨⟨(false,hp),h⟩,()⟩: {r // _} × _) (.cons _ (.cons _ (.refl _))) rfl rfl (gf rfl)
  ·replace h:=qE ao h
   refine cn ?_
   refine ag.seq ?_
   obtain⟨Ee,Pb,h⟩:=aK.c4 h
   obtain⟨qg,HP,h⟩:=aK.c4 h
   obtain⟨aM,b9,h⟩:=aK.c4 h
   refine ag.draw mixed 8 [some 35,some 36,some 37,some 38,some 39,some 40,some 41,some 42] [[],[0],[1],[2],[],[4],[],[6]] [.val _,.val _,.val _,.val _,.val _,.val _,.val _,.val _] [false,false,false,false,false,false,false,false] (by kernel_rfl) rfl rfl rfl (fun c5=>⟨cw,df fun aC av=>fV (ht (ad rfl) Pb),H1 (a2 L4),df fun aC av=>kk ((aI.id hE).comp Ep) (r:=qg.mL) G3 (ad rfl) (oz (fun i e q=>av i e q rfl) (iH (n:=2) rfl (qL HP) rfl)) rfl rfl,H1 (a2 km),dN 1 ji bM,fz 1 c9,fc Hl (EP b9),trivial⟩) fun c5=> ?_
   obtain⟨AU,Zd,h⟩:=aK.c4 h
   obtain⟨u7,HQ,h⟩:=aK.c4 h
   obtain⟨dZ,o6,h⟩:=aK.c4 h
   refine ak.GL (k':=Cell.l6 (gr u7 ai.cg aM)) 2 rfl (by first | exact .inl rfl | exact .inr rfl) Tryz.underlying133 Pa (qx (ad rfl) Zd) (ad rfl) (ad rfl) (CI HQ) rfl rfl rfl (aG o6) ?_
   refine bx ?_
   obtain⟨rF,HR,h⟩:=aK.c4 h
   refine ag.draw mixed 5 [some 43,some 44,some 45,some 46,some 47] [[],[0],[1],[2],[]] [.val _,.val _,.val _,.val _,.val _] [false,false,false,false,false] (by kernel_rfl) rfl rfl rfl (fun iz=>⟨cw,df fun aC av=>fV (ht (ad rfl) Pb),H1 (a2 yU),df fun aC av=>kk ((aI.id hE).comp xz) (r:=rF.kj) wL (ad rfl) (oz (fun i e q=>av i e q rfl) (iH (n:=2) rfl (qL HR) rfl)) rfl rfl,fz 1 c9,trivial⟩) fun iz=> ?_
   refine ak.Hs 2 0 rfl (Q5 h) rfl rfl ⟨ad rfl,ad rfl,trivial⟩ rfl fun⟨⟨a8,h⟩,az⟩=> ?_
   refine ak.gu (L2:=(⟨some ((gO 10 0).getD 0),.var (bN.getD default:aU)⟩ :: ⟨some bf,.var (ai:aU)⟩ :: bz a8)) rfl ?_
   refine bE ?_
   refine aH ?_
   refine aJ ?_
   refine ag.ret ?_
   exact ae.ha (⟨⟨(true,a8),h⟩,()⟩: {r // _} × _) (.cons _ (.cons _ (.refl _))) rfl rfl (gf rfl)
end Go.Proofs.YtmnggbjcnoffeaaGreat
namespace Go.Proofs.YtmnggbjcnoffeaaGreat
open Go Gv
set_option linter.unusedVariables false
set_option linter.unusedSimpArgs false
set_option maxRecDepth 100000
set_option maxHeartbeats 2000000
theorem Sj {hp:bg Cell} {aa:a0} {ai:Int} {Q:Ref × (bg Cell)→Prop} (h:vV hp aa ai Q):cG Tryz.prog 39 [I.of (aa),I.of (ai)] ([] ++ bz hp) (δ:= {r:Ref × (bg Cell) // Q r} × Unit) (fun d=>I.of (d.1.1.1)) (fun d=> [] ++ bz d.1.1.2):=by
 unfold vV at h
 refine cG.of Tryz.func39 rfl Tryz.ntmps39 rfl fun W A=> ?_
 refine aA ?_
 refine ca fun bf=> ?_
 refine bh (eC (r2)) ?_
 refine bE ?_
 refine bY 0 eP ?_
 refine ax ?_
 obtain⟨aD,bp,h⟩:=aK.c4 h
 refine cH Dj (BS bp) ?_
 refine aH ?_
 refine bx ?_
 refine aA ?_
 refine ax ?_
 refine a5 dd ?_
 refine aJ ?_
 refine ag.cond (ad rfl) (fun ao=> ?_) (fun ao=> ?_)
 ·replace h:=qD ao h
  refine aA ?_
  refine bh (eC (r2)) ?_
  refine aJ ?_
  refine ag.ret ?_
  refine ae.ret ?_
  exact ae.ha (⟨⟨((none:Ref),hp),h⟩,()⟩: {r // _} × _) (.cons _ (.refl _)) rfl rfl (gf rfl)
 ·replace h:=qE ao h
  refine cn ?_
  refine aA ?_
  refine aY (a2 lE) ?_
  refine b5 0 ly k2 ?_
  refine ax ?_
  obtain⟨aV,b4,h⟩:=aK.c4 h
  refine fq b4 Tryz.underlying28 fO ?_
  refine aY (cK fO) ?_
  refine ch l3 fun bw=> ?_
  refine bS 0 fO ?_
  refine bE ?_
  refine bY 0 fO ?_
  obtain⟨aM,b9,h⟩:=aK.c4 h
  refine cH Yr (RN b9) ?_
  refine ax ?_
  refine dG ?_
  refine dG ?_
  refine aH ?_
  refine aH ?_
  refine bE ?_
  refine ax ?_
  refine aY (a2 kl) ?_
  refine b5 0 iP jW ?_
  refine aY (er Tryz.underlying62) ?_
  refine ak.F5 (α:=Int) (β:=aU) 2 rfl (Cell.l6 ([]:List (Int × aU))) (fun _=>rfl) rfl fun eL uL=> ?_
  replace h:=aK.se h eL uL
  obtain⟨bN,dg,h⟩:=aK.c4 h
  refine dm dg (cU (b:=({ (default:hE) with qM:=aM.1,qN:=(((aB aa.bB aV).bQ).length:Int),mL:=(⟨some eL.1⟩:gp) } :hE)) rfl WW WX (.cons QM rfl (ad rfl) rfl (.cons QN rfl (ad rfl) rfl (.cons Ep rfl (ad rfl) rfl (.nil))))) ?_
  refine ak.zz 2 rfl (Cell.m5 bN) (fun _=>rfl) (ad rfl) rfl fun eR z2=> ?_
  replace h:=aK.se h eR z2
  refine aH ?_
  refine bx ?_
  refine aA ?_
  refine ax ?_
  refine aJ ?_
  refine ag.block ?_
  refine aA ?_
  refine a5 fW ?_
  refine aH ?_
  refine aJ ?_
  refine ag.y9 (γ:=Unit) h (fun bJ au=> [(0,I.of (aa)),(1,I.of (ai)),(2,I.eq (.pointer (some ⟨bf,0,none⟩))),(4,I.of (none:Ref)),(5,I.of (aD)),(6,I.eq (.pointer (some ⟨bw,0,none⟩))),(7,I.of (aM.1)),(8,I.of (aM.2)),(9,I.of (some eR.1:Ref)),(16,I.of (decide (aD < 0))),(34,I.of (aM.1)),(42,I.of (aM.1 ==1))]) (fun bJ au=>(⟨some bw,.var (aB aa.bB aV:bX)⟩ :: ⟨some bf,.var (aa:a0)⟩ :: bz bJ)) (ad rfl) (fun bJ au h=> ?_) (fun hm ao h=> ?_) (fun hm ao h=> ?_)
  ·refine ae.db ?_
   refine ae.next ?_
   refine aA ?_
   refine ax ?_
   refine aH ?_
   refine aJ ?_
   refine ag.ret ?_
   exact ae.ha (⟨⟨((some eR.1:Ref),bJ),h⟩,()⟩: {r // _} × _) (.cons _ (.cons _ (.refl _))) rfl rfl (gf rfl)
  ·refine ag.b1 ?_
   refine ax ?_
   refine ak.sw 2 0 rfl Ys (Sh h) rfl rfl trivial rfl fun⟨⟨a8,h⟩,az⟩=> ?_
   refine ak.gu (L2:=(⟨some bw,.var (aB aa.bB aV:bX)⟩ :: ⟨some bf,.var (aa:a0)⟩ :: bz a8.2)) rfl ?_
   refine hH WY WZ { rl:=a8.1:kX } (iY EG .nil) ?_
   refine bh (Gg Tryz.underlying166 rfl (ad rfl) (fun _ _ _ h=>S5 h)) ?_
   refine bh (fV (ht (ad rfl) rfl)) ?_
   refine aY (a2 yU) ?_
   obtain⟨cZ,hz,h⟩:=aK.c4 h
   obtain⟨dZ,o6,h⟩:=aK.c4 h
   refine ak.pN (k':=Cell.m5 ({ cZ with kj:=(g3.nB ({ rl:=a8.1:kX })) } :hE)) 2 rfl ((aI.id hE).comp xz) (v:=((g3.nB ({ rl:=a8.1:kX })):g3)) wL (ad rfl) (ad rfl) (qL hz) rfl rfl rfl rfl (aG o6) ?_
   refine ak.nil ?_
   exact dj 0 (hm dZ () h)
  ·refine aA ?_
   refine a5 fW ?_
   refine aH ?_
   refine aJ ?_
   refine ag.y9 (γ:=Unit) h (fun cy aT=> [(0,I.of (aa)),(1,I.of (ai)),(2,I.eq (.pointer (some ⟨bf,0,none⟩))),(4,I.of (none:Ref)),(5,I.of (aD)),(6,I.eq (.pointer (some ⟨bw,0,none⟩))),(7,I.of (aM.1)),(8,I.of (aM.2)),(9,I.of (some eR.1:Ref)),(16,I.of (decide (aD < 0))),(34,I.of (aM.1)),(42,I.of (aM.1 ==1)),(50,I.of (aM.1 ==2))]) (fun cy aT=>(⟨some bw,.var (aB aa.bB aV:bX)⟩ :: ⟨some bf,.var (aa:a0)⟩ :: bz cy)) (ad rfl) (fun cy aT h=> ?_) (fun hm ao h=> ?_) (fun hm ao h=> ?_)
   ·exact dj 0 (hm cy () h)
   ·refine aA ?_
    refine aH ?_
    refine bx ?_
    refine ag.seq ?_
    obtain⟨bu,cD,h⟩:=aK.c4 h
    obtain⟨br,eW,h⟩:=aK.c4 h
    refine ag.draw mixed 8 [some 52,some 53,some 54,some 55,some 56,some 57,some 58,some 59] [[],[],[1],[],[2,3],[4],[5],[0,6]] [.val _,.val _,.val _,.val _,.val _,.val _,.val _,.val _] [false,false,false,false,false,false,false,false] (by kernel_rfl) rfl rfl rfl (fun c5=>⟨fz 1 eP,H1 (a2 kl),dN 0 iP jW,cw,j0 cD Tryz.underlying62 hP,m7 nj CG,H1 (cK bM),fc Oy (JS eW),trivial⟩) fun c5=> ?_
    refine aH ?_
    refine bE ?_
    refine ax ?_
    refine a5 lZ ?_
    refine aJ ?_
    obtain⟨fm,hS,h⟩:=aK.c4 h
    refine ag.cX (γ:=Unit) (fun bq=> [(0,I.of (aa)),(1,I.of (ai)),(2,I.eq (.pointer (some ⟨bf,0,none⟩))),(4,I.of (none:Ref)),(5,I.of (aD)),(6,I.eq (.pointer (some ⟨bw,0,none⟩))),(7,I.of (aM.1)),(8,I.of (aM.2)),(9,I.of (some eR.1:Ref)),(10,I.of (fm)),(11,I.of (br)),(16,I.of (decide (aD < 0))),(34,I.of (aM.1)),(42,I.of (aM.1 ==1)),(50,I.of (aM.1 ==2)),(61,I.of (decide (br≥0)))]) (fun bq=>(⟨some bw,.var (aB aa.bB aV:bX)⟩ :: ⟨some bf,.var (aa:a0)⟩ :: bz eR.2)) (ad rfl) (fun bq=> ?_) (fun hm ao=> ?_) (fun hm ao=> ?_)
    ·clear hS
     refine ae.next ?_
     refine ag.b1 ?_
     refine ax ?_
     refine ax ?_
     refine ax ?_
     refine ak.F5 (α:=Vector aw 4) (β:=Ref) 2 rfl (Cell.m4 ([]:List ((Vector aw 4) × Ref))) (fun _=>rfl) rfl fun kd Ze=> ?_
     replace h:=aK.se h kd Ze
     obtain⟨c7,gG,h⟩:=aK.c4 h
     refine dm gG (cU (b:= { qX:=aM.2,fU:=fm,ob:=(⟨some kd.1⟩:gp):hr }) rfl W0 W1 (.cons xy rfl (ad rfl) rfl (.cons Eo rfl (ad rfl) rfl (.cons vl rfl (ad rfl) rfl (.nil))))) ?_
     refine bh (Gg Tryz.underlying169 rfl (ad rfl) (fun _ _ _ h=>S6 h)) ?_
     refine bh (fV (ht (ad rfl) rfl)) ?_
     refine aY (a2 yU) ?_
     obtain⟨dX,iZ,h⟩:=aK.c4 h
     obtain⟨e1,wS,h⟩:=aK.c4 h
     refine ak.pN (k':=Cell.m5 ({ dX with kj:=(g3.nC c7) } :hE)) 2 rfl ((aI.id hE).comp xz) (v:=((g3.nC c7):g3)) wL (ad rfl) (ad rfl) (qL iZ) rfl rfl rfl rfl (aG wS) ?_
     refine ak.nil ?_
     exact dj 0 (hm e1 () h)
    ·have h:=gK ao hS
     refine ag.b1 ?_
     refine aY (a2 tU) ?_
     refine b5 1 tl sE ?_
     refine ax ?_
     obtain⟨cb,eu,h⟩:=ar h
     refine fq eu Tryz.underlying24 oj ?_
     refine uO ni Cs ?_
     refine aY (cK bM) ?_
     refine aH ?_
     refine ak.nil ?_
     obtain rfl:=aG h
     exact dj 0 (hm ())
    ·have h:=gL ao hS
     refine ag.skip ?_
     obtain rfl:=aG h
     exact dj 0 (hm ())
   ·refine ag.b1 ?_
    refine ax ?_
    refine bY 1 eP ?_
    obtain⟨cj,gH,h⟩:=aK.c4 h
    refine eT 0 Yt (Rg gH) fun ck=> ?_
    refine ak.W2 4 2 (Cell.sH cj ck.2.1 ck.2.2) rfl rfl rfl rfl List.mem_cons_self fun lR Zf Zg=> ?_
    replace h:=h (ck.2.1,ck.2.2) lR Zf
    refine ak.W3 37 rfl Zg ?_
    refine hH W4 W5 { ef:=(some lR.1:Ref):ki } (iY EH .nil) ?_
    refine bh (Gg Tryz.underlying173 rfl (ad rfl) (fun _ _ _ h=>S7 h)) ?_
    refine bh (fV (ht (ad rfl) rfl)) ?_
    refine aY (a2 yU) ?_
    obtain⟨gx,mz,h⟩:=aK.c4 h
    obtain⟨iA,Hm,h⟩:=aK.c4 h
    refine ak.pN (k':=Cell.m5 ({ gx with kj:=(g3.nD ({ ef:=(some lR.1:Ref):ki })) } :hE)) 2 rfl ((aI.id hE).comp xz) (v:=((g3.nD ({ ef:=(some lR.1:Ref):ki })):g3)) wL (ad rfl) (ad rfl) (qL mz) rfl rfl rfl rfl (aG Hm) ?_
    refine ak.nil ?_
    exact dj 0 (hm iA () h)
end Go.Proofs.YtmnggbjcnoffeaaGreat
namespace Go.Proofs.YtmnggbjcnoffeaaGreat
open Go Gv
set_option linter.unusedVariables false
set_option linter.unusedSimpArgs false
set_option maxRecDepth 100000
set_option maxHeartbeats 2000000
theorem Q6 {aa:bI} {ai:a0} {aR:cJ} {cO:Nat} {r:cA × bI} (h:xW aa ai aR=some r):cG Tryz.prog 75 [I.eq (.pointer (some ⟨cO,0,none⟩)),I.of (ai),I.of (aR)] [⟨some cO,.var (aa:bI)⟩] (δ:=Unit) (fun d=>I.of (r.1)) (fun d=> [⟨some cO,.var (r.2:bI)⟩]):=by
 unfold xW at h
 refine cG.of Tryz.func75 rfl Tryz.ntmps75 rfl fun W A=> ?_
 refine aA ?_
 refine ca fun bf=> ?_
 refine ca fun bw=> ?_
 refine ch l4 fun cz=> ?_
 refine bE ?_
 refine bY 2 eP ?_
 refine aY (a2 CG) ?_
 refine b5 1 nj bM ?_
 obtain⟨aD,bp,h⟩:=ar h
 refine cH W6 (RP bp) ?_
 refine aH ?_
 refine bE ?_
 refine ax ?_
 refine ak.cd 3 rfl ?_
 obtain⟨aM,b9,h⟩:=ar h
 refine eT 1 gD (gz b9) fun az=> ?_
 refine aY (ic Tryz.underlying3 Tryz.underlying41) ?_
 refine bh (mQ (ad rfl) (gJ 24 rfl)) ?_
 refine ax ?_
 refine ak.cd 0 rfl ?_
 obtain⟨a8,dP,h⟩:=ar h
 refine eT 1 gD (gz dP) fun ck=> ?_
 refine aY (ic Tryz.underlying3 Tryz.underlying41) ?_
 refine bh (mQ (ad rfl) (gJ 8 rfl)) ?_
 obtain⟨bN,dg,h⟩:=ar h
 refine dm dg (sh (ad rfl) (ad rfl)) ?_
 refine ax ?_
 refine ak.cd 0 rfl ?_
 obtain⟨br,eW,h⟩:=ar h
 refine eT 1 gD (gz eW) fun fS=> ?_
 refine aY (ic Tryz.underlying3 Tryz.underlying41) ?_
 refine a5 sh ?_
 obtain⟨c7,gG,h⟩:=ar h
 refine dm gG (cU (b:=({ (default:aw) with b7:=bN ||| (BitVec.ofInt 64 br.1) } :aw)) rfl hv dY (.cons eO rfl (ad rfl) rfl (.nil))) ?_
 refine ax ?_
 obtain⟨cj,gH,h⟩:=ar h
 refine cH Ht (EX gH) ?_
 refine ch dY fun ff=> ?_
 refine bS 0 bT ?_
 refine bx ?_
 refine aA ?_
 refine aY (a2 od) ?_
 refine b5 3 jR bM ?_
 refine aJ ?_
 refine ag.block ?_
 refine aA ?_
 refine a5 fW ?_
 refine aH ?_
 refine aJ ?_
 refine b0 h (fun h=>?_) fun h=>?_
 ·refine aA ?_
  refine ax ?_
  refine ak.cd 1 rfl ?_
  obtain⟨cM,hh,h⟩:=ar h
  refine eT 1 gD (gz hh) fun je=> ?_
  refine a5 lY ?_
  refine aJ ?_
  refine b0 h (fun h=>?_) fun h=>?_
  ·refine aA ?_
   refine ax ?_
   refine ax ?_
   refine ax ?_
   refine ak.cd 0 rfl ?_
   obtain⟨dv,kM,h⟩:=ar h
   refine eT 1 gD (gz kM) fun ey=> ?_
   refine a5 cL ?_
   refine fQ [aD,8,16,1,bm (1 + dv.1)] Tryz.underlying63 bM h3 ?_
   refine ax ?_
   refine ak.cd 0 rfl ?_
   obtain⟨eU,k9,h⟩:=ar h
   refine eT 1 gD (gz k9) fun jf=> ?_
   obtain⟨aV,b4,h⟩:=ar h
   refine fq b4 Tryz.underlying63 bM ?_
   refine aY (cK bM) ?_
   refine aH ?_
   refine bx ?_
   obtain⟨fo,nJ,h⟩:=ar h
   obtain⟨fA,j1,h⟩:=ar h
   obtain⟨hj,k8,h⟩:=ar h
   refine ag.draw mixed 10 [some 51,some 52,some 53,some 54,some 55,some 56,some 57,some 58,some 59,some 60] [[],[],[1],[],[],[3,4],[5],[2,6],[7],[0,8]] [.val _,.val _,.val _,.val _,.val _,.val _,.val _,.val _,.val _,.val _] [false,false,false,false,false,false,false,false,false,false] (by kernel_rfl) rfl rfl rfl (fun c5=>⟨cw,H1 (a2 jD),dN 1 eO fx,cw,cw,fc W7 (R6 nJ),df fun aC av=>FH eO My fx rfl (ad rfl) rfl rfl,lq qA,AS j1 fun aC av=>cU (b:=({ (default:aw) with b7:=cj.b7 &&& fo.b7 } :aw)) rfl hv dY (.cons eO rfl (ad rfl) rfl (.nil)),AS k8 fun aC av=>cU (b:=({ (default:cA) with hV:=true,gV:=aB [aD,8,16,1,bm (1 + dv.1)] aV,bW:=fA } :cA)) rfl uD l4 (.cons rN rfl (fN true) rfl (.cons rO rfl (ad rfl) rfl (.cons qk rfl (ad rfl) rfl (.nil)))),trivial⟩) fun c5=> ?_
   refine bS 2 gF ?_
   refine aJ ?_
   refine ag.ret ?_
   refine ae.dQ ?_
   refine ae.ret ?_
   refine ae.cd 0 rfl ?_
   obtain rfl:=aG h
   exact ae.ha () (.cons_cons _ (List.nil_sublist _)) rfl rfl (om (i:=2) gF rfl rfl)
  ·refine ag.skip ?_
   refine ae.db ?_
   refine ae.next ?_
   refine aA ?_
   refine hH uD l4 (default:cA) .nil ?_
   refine bS 2 gF ?_
   refine aJ ?_
   refine ag.ret ?_
   refine ae.cd 0 rfl ?_
   obtain rfl:=aG h
   exact ae.ha () (.cons_cons _ (List.nil_sublist _)) rfl rfl (om (i:=2) gF rfl rfl)
 ·refine aA ?_
  refine a5 fW ?_
  refine aH ?_
  refine aJ ?_
  refine b0 h (fun h=>?_) fun h=>?_
  ·refine aA ?_
   refine ax ?_
   refine ak.cd 1 rfl ?_
   obtain⟨gP,o5,h⟩:=ar h
   refine eT 1 gD (gz o5) fun Ed=> ?_
   refine fQ ([255,15,1,12,gP.1]:List Int) Tryz.underlying63 bM h3 ?_
   refine ax ?_
   refine ak.cd 0 rfl ?_
   obtain⟨ik,q4,h⟩:=ar h
   refine eT 1 gD (gz q4) fun I1=> ?_
   obtain⟨bu,cD,h⟩:=ar h
   refine fq cD Tryz.underlying63 bM ?_
   refine aY (cK bM) ?_
   refine aY (ic Tryz.underlying3 Tryz.underlying41) ?_
   obtain⟨hk,nH,h⟩:=ar h
   refine dm nH (cU (b:=({ (default:aw) with b7:=BitVec.ofInt 64 (aB ([255,15,1,12,gP.1]:List Int) bu) } :aw)) rfl hv dY (.cons eO rfl (ad rfl) rfl (.nil))) ?_
   refine ax ?_
   obtain⟨iK,uA,h⟩:=ar h
   refine cH Ht (EX uA) ?_
   refine ch dY fun nd=> ?_
   refine bS 0 bT ?_
   refine bE ?_
   refine aY (a2 jD) ?_
   refine b5 0 eO fx ?_
   refine bh (Uk (ad rfl) (gJ 0 rfl)) ?_
   refine aJ ?_
   refine b0 h (fun h=>?_) fun h=>?_
   ·refine aA ?_
    refine bY 0 bT ?_
    refine aY (a2 jD) ?_
    refine b5 2 eO fx ?_
    refine aY (a2 jD) ?_
    refine b5 0 eO fx ?_
    refine a5 qA ?_
    obtain⟨kc,rf,h⟩:=ar h
    refine dm rf (cU (b:=({ (default:aw) with b7:=cj.b7 &&& iK.b7 } :aw)) rfl hv dY (.cons eO rfl (ad rfl) rfl (.nil))) ?_
    obtain⟨jM,rh,h⟩:=ar h
    refine dm rh (cU (b:=({ (default:cA) with hV:=true,bR:=iK,bW:=kc } :cA)) rfl uD l4 (.cons rN rfl (fN true) rfl (.cons xT rfl (ad rfl) rfl (.cons qk rfl (ad rfl) rfl (.nil))))) ?_
    refine bS 3 gF ?_
    refine aJ ?_
    refine ag.ret ?_
    refine ae.dQ ?_
    refine ae.ret ?_
    refine ae.cd 1 rfl ?_
    obtain rfl:=aG h
    exact ae.ha () (.cons_cons _ (List.nil_sublist _)) rfl rfl (om (i:=3) gF rfl rfl)
   ·refine ag.skip ?_
    refine ae.db ?_
    refine ae.next ?_
    refine aA ?_
    refine hH uD l4 (default:cA) .nil ?_
    refine bS 3 gF ?_
    refine aJ ?_
    refine ag.ret ?_
    refine ae.cd 1 rfl ?_
    obtain rfl:=aG h
    exact ae.ha () (.cons_cons _ (List.nil_sublist _)) rfl rfl (om (i:=3) gF rfl rfl)
  ·refine aA ?_
   refine a5 fW ?_
   refine aH ?_
   refine aJ ?_
   refine b0 h (fun h=>?_) fun h=>?_
   ·refine ag.seq ?_
    obtain⟨j2,zH,h⟩:=ar h
    obtain⟨hB,ri,h⟩:=ar h
    refine lI [0,1,2,4,5,6,7,8,12,13,14,15,16,17,18,19,20,21,22,23,24,25,26,27,28,29,30,31,32,33,36,37,61,62,85,86] ?_
    refine ag.kn mixed (bt 87 [] [] _ :: bt 88 (0 :: []) (0 :: []) _ :: bt 89 [] [] _ :: ⟨some 90,(2 :: []),(1 :: []),(1 :: []),fun _=>I.of (j2.1),fun hd _=>⟨some cO,.var (j2.2:bI)⟩⟩ :: bt 91 (3 :: []) [] _ :: bt 92 (1 :: 4 :: []) [] _ :: bt 93 [] [] _ :: bt 94 (6 :: []) [] _ :: bt 95 (7 :: []) [] _ :: bt 96 (8 :: []) [] _ :: bt 97 (5 :: 9 :: []) [] _ :: bt 11 (10 :: []) [] _ :: []) _ (0 :: 1 :: 2 :: 4 :: 5 :: 6 :: 7 :: 8 :: 12 :: 13 :: 14 :: 15 :: 16 :: 17 :: 18 :: 19 :: 20 :: 21 :: 22 :: 23 :: 24 :: 25 :: 26 :: 27 :: 28 :: 29 :: 30 :: 31 :: 32 :: 33 :: 36 :: 37 :: 61 :: 62 :: 85 :: 86 :: []) rfl rfl (by kernel_rfl) ⟨ga (a2 jD),p5 0 eO fx,gb,?_,ga (ic Tryz.underlying3 Tryz.underlying41),xf Ul,gb,ga (ic Tryz.underlying3 Tryz.underlying130),c2 fun hd E' aC aL av=>mQ (gJ 1 rfl) (ad (aL _ _ rfl)),c2 fun hd E' aC aL av=>tJ (ad (aL _ _ rfl)) (gJ 1 rfl),c2 fun hd E' aC aL av=>(TD (ad (aL _ _ rfl)) (ad (aL _ _ rfl))).as (aG ri),c2 fun hd E' aC aL av=>eC (ad (aL _ _ rfl)),trivial⟩ fun gO=> ?_
    ·intro hd E' aC aL av
     refine ak.cd 1 (av 1 _ rfl rfl) ?_
     refine ak.lX (Lin:= [⟨some cO,.var (br.2:bI)⟩]) (Lr:=aC.eraseIdx 1) gD (gz zH) ⟨ad (aL _ _ rfl),bF 256,trivial⟩ rfl fun qe=> ?_
     refine ak.nil ?_
     refine ae.back 1 (av 1 _ rfl rfl) ?_
     exact ae.fin (fI []) rfl rfl
    refine ae.gu (L2:= [⟨some ff,.var (cj:aw)⟩,⟨some cO,.var (j2.2:bI)⟩,⟨some cz,.var ((default:cA):cA)⟩,⟨some bw,.var (aR:cJ)⟩,⟨some bf,.var (ai:a0)⟩]) rfl ?_
    refine l8 [0,1,2,4,5,6,7,8,11,12,13,14,15,16,17,18,19,20,21,22,23,24,25,26,27,28,29,30,31,32,33,36,37,61,62,85,86,87,88,89,90,91,92,93,94,95,96,97] ?_
    refine ae.next ?_
    refine aA ?_
    refine ax ?_
    refine ak.cd 1 rfl ?_
    obtain⟨la,zI,h⟩:=ar h
    refine eT 1 gD (gz zI) fun HL=> ?_
    refine a5 lY ?_
    refine ax ?_
    refine eg (a2 jD) ?_
    refine eN (fun hb=>fb (i:=1) ((aI.id aw).comp eO) (r:=cj.b7) fx (ct rfl hb) rfl rfl rfl) ?_
    refine eN (fun hb=>yQ (ct rfl hb) (gJ 0 rfl)) ?_
    refine eg cN ?_
    refine ak.gg (fun hb=>cN (ad rfl)) rfl rfl rfl rfl rfl ?_
    refine ak.gg (fun hb=>cN (ad rfl)) rfl rfl rfl rfl rfl ?_
    refine ak.gg (fun hb=>ic Tryz.underlying3 Tryz.underlying130 (ct rfl hb)) rfl rfl rfl rfl rfl ?_
    refine ak.gg (fun hb=>mQ (gJ 1 rfl) (ct rfl hb)) rfl rfl rfl rfl rfl ?_
    refine ak.gg (fun hb=>tJ (ct rfl hb) (gJ 1 rfl)) rfl rfl rfl rfl rfl ?_
    refine ak.gg (fun hb=>yQ (ct rfl hb) (ct rfl hb)) rfl rfl rfl rfl rfl ?_
    refine eN (fun hb=>oh (ct rfl hb) (ad rfl) (fun h=>⟨hb,h⟩)) ?_
    refine eg iT ?_
    obtain⟨lr,uM,h⟩:=ar h
    refine dm uM (oh (ad rfl) (ad rfl) (fun h=>h)) ?_
    refine aJ ?_
    refine b0 h (fun h=>?_) fun h=>?_
    ·refine aA ?_
     refine bY 1 bT ?_
     refine ax ?_
     refine hH hv dY ({ (default:aw) with b7:=hB } :aw) (iY eO .nil) ?_
     obtain⟨kN,ux,h⟩:=ar h
     refine dm ux (cU (b:=({ (default:cA) with hV:=true,bW:=cj,oX:=({ (default:aw) with b7:=hB } :aw) } :cA)) rfl uD l4 (.cons rN rfl (fN true) rfl (.cons qk rfl (ad rfl) rfl (.cons EJ rfl (ad rfl) rfl (.nil))))) ?_
     refine bS 2 gF ?_
     refine aJ ?_
     refine ag.ret ?_
     refine ae.dQ ?_
     refine ae.ret ?_
     refine ae.cd 0 rfl ?_
     obtain rfl:=aG h
     exact ae.ha () (.cons_cons _ (List.nil_sublist _)) rfl rfl (om (i:=2) gF rfl rfl)
    ·refine ag.skip ?_
     refine ae.db ?_
     refine ae.next ?_
     refine aA ?_
     refine hH uD l4 (default:cA) .nil ?_
     refine bS 2 gF ?_
     refine aJ ?_
     refine ag.ret ?_
     refine ae.cd 0 rfl ?_
     obtain rfl:=aG h
     exact ae.ha () (.cons_cons _ (List.nil_sublist _)) rfl rfl (om (i:=2) gF rfl rfl)
   ·refine aA ?_
    refine bY 0 bT ?_
    obtain⟨ks,uy,h⟩:=ar h
    refine dm uy (cU (b:=({ (default:cA) with hV:=true,bW:=cj } :cA)) rfl uD l4 (.cons rN rfl (fN true) rfl (.cons qk rfl (ad rfl) rfl (.nil)))) ?_
    refine bS 2 gF ?_
    refine aJ ?_
    refine ag.ret ?_
    refine ae.dQ ?_
    refine ae.ret ?_
    refine ae.cd 1 rfl ?_
    obtain rfl:=aG h
    exact ae.ha () (.cons_cons _ (List.nil_sublist _)) rfl rfl (om (i:=2) gF rfl rfl)
end Go.Proofs.YtmnggbjcnoffeaaGreat
namespace Go.Proofs.YtmnggbjcnoffeaaGreat
open Go Gv
set_option linter.unusedVariables false
set_option linter.unusedSimpArgs false
set_option maxRecDepth 100000
set_option maxHeartbeats 2000000
theorem Q7 {aa:bI} {ai:a0} {aR:Int} {cO:Nat} {r:bL × bI} (h:xX aa ai aR=some r):cG Tryz.prog 27 [I.eq (.pointer (some ⟨cO,0,none⟩)),I.of (ai),I.of (aR)] [⟨some cO,.var (aa:bI)⟩] (δ:=Unit) (fun d=>I.of (r.1)) (fun d=> [⟨some cO,.var (r.2:bI)⟩]):=by
 unfold xX at h
 refine cG.of Tryz.func27 rfl Tryz.ntmps27 rfl fun W A=> ?_
 refine aA ?_
 refine ca fun bf=> ?_
 refine ch wR fun bw=> ?_
 refine bx ?_
 obtain⟨aD,bp,h⟩:=ar h
 obtain⟨aV,b4,h⟩:=ar h
 refine ag.draw mixed 10 [some 13,some 14,some 15,some 16,some 17,some 18,some 19,some 20,some 21,some 7] [[],[0],[],[],[3],[4],[2,5],[1,6],[7],[]] [.val _,.val _,.val _,.val _,.val _,.val _,.val _,.val _,.val _,.new (.var (default:bX))] [false,false,false,false,false,false,false,false,false,false] (by kernel_rfl) rfl rfl rfl (fun c5=>⟨H1 (a2 lE),dN 1 ly k2,cw,H1 (a2 lE),dN 1 ly k2,H1 (er Tryz.underlying28),fc OI (Kn bp),j0 b4 Tryz.underlying28 fO,H1 (cK fO),oS l3,trivial⟩) fun c5=> ?_
 refine bS 0 fO ?_
 refine bE ?_
 refine aY (a2 tQ) ?_
 refine b5 0 oN bM ?_
 refine bh (pH (b:=({ (default:bL) with dJ:=(aB ai.bB aV).bU } :bL)) [1,4] Lm rfl Hq wR (.cons pC rfl (ad rfl) rfl (by rfl) (.nil))) ?_
 refine ak.own (α:=cA) 88 ?_
 refine ak.own (α:=aw) 43 ?_
 refine ak.oV (z:=(default:bL)) [1,4] Lm wR rfl fun cz=> ?_
 refine ak.own (α:=cA) 88 ?_
 refine ak.own (α:=aw) 43 ?_
 refine ak.qH (i:=2) ig (ad rfl) (ad rfl) rfl ?_
 refine bx ?_
 refine aA ?_
 refine aY (a2 kl) ?_
 refine b5 5 iP jW ?_
 refine aY (er Tryz.underlying62) ?_
 refine ax ?_
 refine aJ ?_
 refine ag.block ?_
 obtain⟨ay,al,h⟩:=ar h
 refine eD (γ:=(Option Nat × Nat)) (δ:=(Option Nat × Nat)) al [0,1,2,4,6,7,8,26,27] (fun s1 au=> [(28,I.of (s1.1))]) (fun s1 au=> [(2,⟨some cz,.cC (s1.2.1:bL) [(1,aZ au.1 s1.2.2.1.length au.2),(4,aZ none ([]:List aw).length 0)]⟩),(4,⟨au.1,.row 88 (s1.2.2.1:List cA) au.2⟩),(8,⟨some cO,.var (s1.2.2.2:bI)⟩)]) (fun az=>Exit.exit 0) (fun az au=> [(28,I.of (az.1)),(29,I.of (az.2.1))]) (fun az au=> [(2,⟨some cz,.cC (az.2.2.1:bL) [(1,aZ au.1 az.2.2.2.1.length au.2),(4,aZ none ([]:List aw).length 0)]⟩),(4,⟨au.1,.row 88 (az.2.2.2.1:List cA) au.2⟩),(8,⟨some cO,.var (az.2.2.2.2:bI)⟩)]) (none,0) (fun s1 r h au=> ?_) fun au=> ?_
 ·clear al
  refine aA ?_
  refine a5 dd ?_
  refine bx ?_
  refine b0 h (fun h=>?_) fun h=>?_
  ·refine cn ?_
   refine ag.seq ?_
   refine ag.block ?_
   refine aA ?_
   obtain⟨bu,cD,h⟩:=ar h
   refine fq cD Tryz.underlying62 hP ?_
   refine aY (cK hP) ?_
   refine ch iU fun ff=> ?_
   refine bS 0 hP ?_
   refine bx ?_
   obtain⟨aM,b9,h⟩:=ar h
   obtain⟨a8,dP,h⟩:=ar h
   refine lI [0,1,2,4,6,7,8,10,26,27,28,29,30,31] ?_
   refine ag.kn mixed (bt 32 [] [] _ :: bt 33 (0 :: []) (3 :: []) _ :: bt 34 [] [] _ :: bt 35 [] (8 :: []) _ :: bt 36 [] (0 :: []) _ :: ⟨some 37,(2 :: 3 :: 4 :: []),(9 :: []),(9 :: []),fun _=>I.of (aM.1),fun hd _=>⟨some cO,.var (aM.2:bI)⟩⟩ :: bt 38 (5 :: []) [] _ :: ⟨some 39,(1 :: 6 :: []),(5 :: []),(5 :: []),fun hd=>I.eq (aZ (hd 7 0) a8.length ((hd 7 1).getD 0)),fun hd _=>⟨(hd 7 0),.row 88 (a8:List cA) ((hd 7 1).getD 0)⟩⟩ :: bt 40 [] [] _ :: ⟨none,(1 :: 7 :: 8 :: []),(3 :: []),(3 :: []),fun _=>I.any,fun hd _=>⟨some cz,.cC (({ s1.2.1 with cu:= [] } :bL):bL) [(1,aZ (hd 7 0) a8.length ((hd 7 1).getD 0)),(4,aZ none ([]:List aw).length 0)]⟩⟩ :: []) _ (0 :: 1 :: 2 :: 4 :: 6 :: 7 :: 8 :: 10 :: 26 :: 27 :: 28 :: 29 :: 30 :: 31 :: []) rfl rfl (by kernel_rfl) ⟨ga (a2 kY),c2 fun hd E' aC aL av=>iR (i:=3) (q:=0) (β:=bL) (γ:=cA) kI (ad (aL _ _ rfl)) (av 3 _ rfl rfl) rfl,gb,p3 8 eP,p3 0 hP,?_,c2 fun hd E' aC aL av=>jU (r:= [aM.1]) Tryz.underlying47 gF l4 rfl rfl (.cons (by simp) (ad (aL _ _ rfl)) (.nil)),?_,ga (a2 kY),?_,trivial⟩ fun gO=> ?_
   ·intro hd E' aC aL av
    refine ak.cd 9 (av 9 _ rfl rfl) ?_
    refine ak.lX (Lin:= [⟨some cO,.var (s1.2.2.2:bI)⟩]) (Lr:=aC.eraseIdx 9) Yu (Q6 b9) ⟨ad (aL _ _ rfl),ad (aL _ _ rfl),ad (aL _ _ rfl),trivial⟩ rfl fun ck=> ?_
    refine ak.nil ?_
    refine ae.back 9 (av 9 _ rfl rfl) ?_
    exact ae.fin (fI []) rfl rfl
   ·intro hd E' aC aL av
    refine ak.app (i:=5) Tryz.underlying47 gF l4 (bytes:=64) (by kernel_rfl) (ad (aL _ _ rfl)) (av 5 _ rfl rfl) (ad (aL _ _ rfl)) dP rfl fun gE e2=> ?_
    refine ak.nil ?_
    exact ae.fin (fI [gE,some e2]) rfl rfl
   ·intro hd E' aC aL av
    refine ak.jm (i:=3) (γ:=cA) (b':=(({ s1.2.1 with cu:= [] } :bL):bL)) (os':= [(1,aZ (hd 7 0) a8.length ((hd 7 1).getD 0)),(4,aZ none ([]:List aw).length 0)]) ((aI.id bL).comp kh) kI (ad (aL _ _ rfl)) (ad (aL _ _ rfl)) iu (av 3 _ rfl rfl) rfl rfl rfl ?_
    refine ak.nil ?_
    exact ae.fin (fI []) rfl rfl
   refine ae.gu (L2:= [⟨some ff,.var (aB ((aB ai.bB aV).bQ) bu:cJ)⟩,⟨none,.row 43 (([]:List aw):List aw) 0⟩,⟨none,.row 88 (([]:List cA):List cA) 0⟩,⟨some cz,.cC (({ s1.2.1 with cu:= [] } :bL):bL) [(1,aZ (gO 7 0) a8.length ((gO 7 1).getD 0)),(4,aZ none ([]:List aw).length 0)]⟩,⟨none,.row 43 (([]:List aw):List aw) 0⟩,⟨(gO 7 0),.row 88 (a8:List cA) ((gO 7 1).getD 0)⟩,⟨some (c5 9),.var (aB ai.bB aV:bX)⟩,⟨some bw,.var ((default:bL):bL)⟩,⟨some bf,.var (ai:a0)⟩,⟨some cO,.var (aM.2:bI)⟩]) rfl ?_
   refine l8 [0,1,2,4,6,7,8,10,26,27,28,29,30,31,32,34,35,36,37,38,39,40] ?_
   refine ae.next ?_
   refine aA ?_
   refine aY (a2 od) ?_
   refine b5 0 jR bM ?_
   refine a5 fW ?_
   refine ax ?_
   refine eg (a2 od) ?_
   refine eN (fun hb=>fb (i:=0) ((aI.id cJ).comp jR) (r:=(aB ((aB ai.bB aV).bQ) bu).cS) bM (ct rfl hb) rfl rfl rfl) ?_
   refine k7 fW ?_
   obtain⟨bN,dg,h⟩:=ar h
   refine dm dg (sF (ad rfl) (ad rfl) (fun h=>h)) ?_
   refine aJ ?_
   obtain⟨bJ,cB,h⟩:=ar h
   refine hQ (γ:=Unit) [0,1,2,4,6,7,8,10,26,27,28,29,48] (fun aT=> []) (fun aT=> [(3,⟨some cz,.cC (bJ.1:bL) [(1,aZ (gO 7 0) a8.length ((gO 7 1).getD 0)),(4,aZ none ([]:List aw).length 0)]⟩),(9,⟨some cO,.var (bJ.2:bI)⟩)]) (fun aT=> ?_) (fun hm ao=> ?_) fun hm ao=> ?_
   ·clear cB
    refine ae.db ?_
    refine ae.next ?_
    refine ag.b1 ?_
    refine a5 cL ?_
    refine ax ?_
    refine ak.nil ?_
    obtain rfl:=aG h
    exact dO ((gO 7 0),((gO 7 1).getD 0)) 1
   ·have h:=gK ao cB
    refine ag.b1 ?_
    refine ax ?_
    refine ak.cd 9 rfl ?_
    obtain⟨br,eW,h⟩:=ar h
    refine eT 1 gD (gz eW) fun fS=> ?_
    refine a5 cL ?_
    refine aY (a2 qJ) ?_
    obtain⟨c7,gG,h⟩:=ar h
    refine ak.sj (i:=4) ((aI.id bL).comp oM) (v:=(bm (1 + br.1):Int)) (b':=(c7:bL)) bM (ad rfl) (ad rfl) rfl rfl (aG gG) (by rfl) ?_
    refine ak.nil ?_
    refine ae.cd 9 rfl ?_
    refine ae.cd 9 rfl ?_
    refine ae.cd 9 rfl ?_
    refine ae.cd 9 rfl ?_
    refine ae.cd 9 rfl ?_
    refine ae.cd 9 rfl ?_
    refine ae.cd 9 rfl ?_
    refine ae.cd 9 rfl ?_
    refine ae.cd 9 rfl ?_
    obtain rfl:=aG h
    exact dj 0 (hm ())
   ·have h:=gL ao cB
    refine ag.skip ?_
    obtain rfl:=aG h
    exact dj 0 (hm ())
  ·refine ag.exit ?_
   refine ae.exit ?_
   obtain rfl:=aG h
   exact c6 (au.1,au.2) 0
 ·clear al
  refine ae.dD ?_
  refine ae.next ?_
  refine ag.seq ?_
  obtain⟨cj,gH,h⟩:=ar h
  obtain⟨cb,eu,h⟩:=ar h
  obtain⟨fA,j1,h⟩:=ar h
  refine lI [0,1,2,4,6,7,8,26,27,28,29] ?_
  refine ag.kn mixed (bt 54 [] [] _ :: bt 55 (0 :: []) (5 :: []) _ :: bt 56 [] [] _ :: bt 57 [] [] _ :: bt 58 (3 :: []) (5 :: []) _ :: bt 59 (4 :: []) [] _ :: ⟨some 60,(2 :: 5 :: []),(8 :: []),(8 :: []),fun _=>I.of (cj.1),fun hd _=>⟨some cO,.var (cj.2:bI)⟩⟩ :: bt 61 (1 :: 6 :: []) [] _ :: bt 62 (7 :: []) [] _ :: bt 63 [] [] _ :: ⟨none,(8 :: 9 :: []),(2 :: []),(2 :: []),fun _=>I.any,fun hd _=>⟨some cz,.cC (fA:bL) [(1,aZ au.1 ay.2.2.2.1.length au.2),(4,aZ none ([]:List aw).length 0)]⟩⟩ :: []) _ (0 :: 1 :: 2 :: 4 :: 6 :: 7 :: 8 :: 26 :: 27 :: 28 :: 29 :: []) rfl rfl (by kernel_rfl) ⟨ga (a2 MP),p5 5 vn k4,gb,ga (a2 MP),p5 5 vn k4,ga (er Tryz.underlying63),?_,c2 fun hd E' aC aL av=>oZ (k:=cb) Tryz.underlying63 bM (ad (aL _ _ rfl)) (ad (aL _ _ rfl)) (bC eu),ga (cK bM),ga (a2 MQ),?_,trivial⟩ fun j3=> ?_
  ·intro hd E' aC aL av
   refine ak.cd 8 (av 8 _ rfl rfl) ?_
   refine ak.lX (Lin:= [⟨some cO,.var (ay.2.2.2.2:bI)⟩]) (Lr:=aC.eraseIdx 8) gD (gz gH) ⟨ad (aL _ _ rfl),ad (aL _ _ rfl),trivial⟩ rfl fun je=> ?_
   refine ak.nil ?_
   refine ae.back 8 (av 8 _ rfl rfl) ?_
   exact ae.fin (fI []) rfl rfl
  ·intro hd E' aC aL av
   refine ak.sj (i:=2) ((aI.id bL).comp Bs) (v:=(aB ((aB ai.bB aV).di) cb:Int)) (b':=(fA:bL)) bM (ad (aL _ _ rfl)) (ad (aL _ _ rfl)) (av 2 _ rfl rfl) rfl (aG j1) (by rfl) ?_
   refine ak.nil ?_
   exact ae.fin (fI []) rfl rfl
  refine ae.gu (L2:= [⟨none,.row 43 (([]:List aw):List aw) 0⟩,⟨none,.row 88 (([]:List cA):List cA) 0⟩,⟨some cz,.cC (fA:bL) [(1,aZ au.1 ay.2.2.2.1.length au.2),(4,aZ none ([]:List aw).length 0)]⟩,⟨none,.row 43 (([]:List aw):List aw) 0⟩,⟨au.1,.row 88 (ay.2.2.2.1:List cA) au.2⟩,⟨some (c5 9),.var (aB ai.bB aV:bX)⟩,⟨some bw,.var ((default:bL):bL)⟩,⟨some bf,.var (ai:a0)⟩,⟨some cO,.var (cj.2:bI)⟩]) rfl ?_
  refine l8 [0,1,2,4,6,7,8,26,27,28,29,54,55,56,57,58,59,60,61,62,63] ?_
  refine ae.next ?_
  refine ag.seq ?_
  refine aA ?_
  refine bY 7 eP ?_
  refine aY (a2 MQ) ?_
  refine O6 2 Bs bM ?_
  obtain⟨cM,hh,h⟩:=ar h
  refine cH Yv (Rn hh) ?_
  refine bh (FH Bl Um W8 rfl (ad rfl) rfl rfl) ?_
  refine aY (er Tryz.underlying145) ?_
  refine ax ?_
  refine aJ ?_
  refine ag.block ?_
  obtain⟨aS,al,h⟩:=ar h
  refine eD (γ:=(Option Nat × Nat)) (δ:=(Option Nat × Nat)) al [0,1,2,4,6,7,8,26,27,28,29,68,69] (fun s2 bq=> [(70,I.of (s2.1))]) (fun s2 bq=> [(2,⟨some cz,.cC (s2.2.1:bL) [(1,aZ au.1 ay.2.2.2.1.length au.2),(4,aZ bq.1 s2.2.2.1.length bq.2)]⟩),(3,⟨bq.1,.row 43 (s2.2.2.1:List aw) bq.2⟩),(8,⟨some cO,.var (s2.2.2.2:bI)⟩)]) (fun ey=>Exit.exit 2) (fun ey bq=> [(70,I.of (ey.1)),(71,I.of (ey.2.1))]) (fun ey bq=> [(2,⟨some cz,.cC (ey.2.2.1:bL) [(1,aZ au.1 ay.2.2.2.1.length au.2),(4,aZ bq.1 ey.2.2.2.1.length bq.2)]⟩),(3,⟨bq.1,.row 43 (ey.2.2.2.1:List aw) bq.2⟩),(8,⟨some cO,.var (ey.2.2.2.2:bI)⟩)]) (none,0) (fun s2 r h bq=> ?_) fun bq=> ?_
  ·clear al
   refine aA ?_
   refine a5 dd ?_
   refine bx ?_
   refine b0 h (fun h=>?_) fun h=>?_
   ·refine cn ?_
    refine ag.seq ?_
    refine ag.block ?_
    refine aA ?_
    obtain⟨du,hx,h⟩:=ar h
    refine fq hx Tryz.underlying145 wD ?_
    refine aY (cK wD) ?_
    refine ch sr fun nd=> ?_
    refine bS 0 wD ?_
    refine aJ ?_
    obtain⟨dv,kM,h⟩:=ar h
    obtain⟨hj,k8,h⟩:=ar h
    obtain⟨eU,k9,h⟩:=ar h
    obtain⟨fo,nJ,h⟩:=ar h
    refine lI [0,1,2,4,6,7,8,12,26,27,28,29,68,69,70,71,72,73] ?_
    refine ag.kn mixed (bt 74 [] [] _ :: bt 75 (0 :: []) (3 :: []) _ :: bt 76 [] [] _ :: ⟨some 77,(2 :: []),(9 :: []),(9 :: []),fun _=>I.of (dv.1),fun hd _=>⟨some cO,.var (dv.2:bI)⟩⟩ :: bt 78 (3 :: []) [] _ :: bt 79 (4 :: []) [] _ :: bt 80 [] [] _ :: bt 81 (6 :: []) (0 :: []) _ :: bt 82 (5 :: 7 :: []) [] _ :: bt 83 (8 :: []) [] _ :: ⟨some 84,(1 :: 9 :: []),(4 :: []),(4 :: []),fun hd=>I.eq (aZ (hd 10 0) fo.length ((hd 10 1).getD 0)),fun hd _=>⟨(hd 10 0),.row 43 (fo:List aw) ((hd 10 1).getD 0)⟩⟩ :: bt 85 [] [] _ :: ⟨none,(1 :: 10 :: 11 :: []),(3 :: []),(3 :: []),fun _=>I.any,fun hd _=>⟨some cz,.cC (({ s2.2.1 with mn:= [] } :bL):bL) [(1,aZ au.1 ay.2.2.2.1.length au.2),(4,aZ (hd 10 0) fo.length ((hd 10 1).getD 0))]⟩⟩ :: []) _ (0 :: 1 :: 2 :: 4 :: 6 :: 7 :: 8 :: 12 :: 26 :: 27 :: 28 :: 29 :: 68 :: 69 :: 70 :: 71 :: 72 :: 73 :: []) rfl rfl (by kernel_rfl) ⟨ga (a2 CF),c2 fun hd E' aC aL av=>iR (i:=3) (q:=1) (β:=bL) (γ:=aw) zL (ad (aL _ _ rfl)) (av 3 _ rfl rfl) rfl,gb,?_,ga (ic Tryz.underlying3 Tryz.underlying41),c2 fun hd E' aC aL av=>(cU (b:=({ (default:aw) with b7:=BitVec.ofInt 64 dv.1 } :aw)) rfl hv dY (.cons eO rfl (ad (aL _ _ rfl)) rfl (.nil))).as (aG k8),ga (a2 Un),p5 0 xO bM,c2 fun hd E' aC aL av=>h1 Ht (EX k9) ⟨ad (aL _ _ rfl),ad (aL _ _ rfl),trivial⟩,c2 fun hd E' aC aL av=>jU (r:= [eU]) Tryz.underlying48 bT dY rfl rfl (.cons (by simp) (ad (aL _ _ rfl)) (.nil)),?_,ga (a2 CF),?_,trivial⟩ fun nM=> ?_
    ·intro hd E' aC aL av
     refine ak.cd 9 (av 9 _ rfl rfl) ?_
     refine ak.lX (Lin:= [⟨some cO,.var (s2.2.2.2:bI)⟩]) (Lr:=aC.eraseIdx 9) gD (gz kM) ⟨ad (aL _ _ rfl),bF 256,trivial⟩ rfl fun jf=> ?_
     refine ak.nil ?_
     refine ae.back 9 (av 9 _ rfl rfl) ?_
     exact ae.fin (fI []) rfl rfl
    ·intro hd E' aC aL av
     refine ak.app (i:=4) Tryz.underlying48 bT dY (bytes:=16) (by kernel_rfl) (ad (aL _ _ rfl)) (av 4 _ rfl rfl) (ad (aL _ _ rfl)) nJ rfl fun kq oy=> ?_
     refine ak.nil ?_
     exact ae.fin (fI [kq,some oy]) rfl rfl
    ·intro hd E' aC aL av
     refine ak.jm (i:=3) (γ:=aw) (b':=(({ s2.2.1 with mn:= [] } :bL):bL)) (os':= [(1,aZ au.1 ay.2.2.2.1.length au.2),(4,aZ (hd 10 0) fo.length ((hd 10 1).getD 0))]) ((aI.id bL).comp BD) zL (ad (aL _ _ rfl)) (ad (aL _ _ rfl)) iu (av 3 _ rfl rfl) rfl rfl rfl ?_
     refine ak.nil ?_
     exact ae.fin (fI []) rfl rfl
    refine ae.gu (L2:= [⟨some nd,.var (aB cM.jS du:ia)⟩,⟨none,.row 43 (([]:List aw):List aw) 0⟩,⟨none,.row 88 (([]:List cA):List cA) 0⟩,⟨some cz,.cC (({ s2.2.1 with mn:= [] } :bL):bL) [(1,aZ au.1 ay.2.2.2.1.length au.2),(4,aZ (nM 10 0) fo.length ((nM 10 1).getD 0))]⟩,⟨(nM 10 0),.row 43 (fo:List aw) ((nM 10 1).getD 0)⟩,⟨au.1,.row 88 (ay.2.2.2.1:List cA) au.2⟩,⟨some (c5 9),.var (aB ai.bB aV:bX)⟩,⟨some bw,.var ((default:bL):bL)⟩,⟨some bf,.var (ai:a0)⟩,⟨some cO,.var (dv.2:bI)⟩]) rfl ?_
    refine l8 [0,1,2,4,6,7,8,12,26,27,28,29,68,69,70,71,72,73,74,76,77,78,79,80,81,82,83,84,85] ?_
    refine ae.db ?_
    refine ae.next ?_
    refine ag.b1 ?_
    refine a5 cL ?_
    refine ax ?_
    refine ak.nil ?_
    obtain rfl:=aG h
    exact dO ((nM 10 0),((nM 10 1).getD 0)) 1
   ·refine ag.exit ?_
    refine ae.exit ?_
    obtain rfl:=aG h
    exact c6 (bq.1,bq.2) 0
  ·clear al
   refine ae.dD ?_
   refine ae.next ?_
   refine aA ?_
   refine ak.iW (β:=bL) (γ:=cA) (b':=(({ aS.2.2.1 with cu:=ay.2.2.2.1 } :bL):bL)) ((aI.id bL).comp kh) 2 4 0 rfl rfl rfl rfl rfl rfl ?_
   refine ak.iW (β:=bL) (γ:=aw) (b':=(({ ({ aS.2.2.1 with cu:=ay.2.2.2.1 } :bL) with mn:=aS.2.2.2.1 } :bL):bL)) ((aI.id bL).comp BD) 2 3 0 rfl rfl rfl rfl rfl rfl ?_
   refine ak.nx 2 rfl ?_
   obtain⟨hk,nH,h⟩:=ar h
   refine dm nH (fb (i:=2) (aI.id bL) (r:=({ ({ aS.2.2.1 with cu:=ay.2.2.2.1 } :bL) with mn:=aS.2.2.2.1 } :bL)) ig (ad rfl) rfl rfl rfl) ?_
   refine bS 6 ig ?_
   refine aJ ?_
   refine ag.ret ?_
   refine ae.cd 8 rfl ?_
   obtain rfl:=aG h
   exact ae.ha () (.cons_cons _ (List.nil_sublist _)) rfl rfl (om (i:=7) ig rfl rfl)
end Go.Proofs.YtmnggbjcnoffeaaGreat
