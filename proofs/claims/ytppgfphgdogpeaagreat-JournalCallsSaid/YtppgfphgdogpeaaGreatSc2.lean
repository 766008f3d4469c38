/-
  Each function meets its functional program. Conditions: none.
-/
import Derived.Test.YtppgfphgdogpeaaGreatSc0
import Derived.Test.YtppgfphgdogpeaaGreatSc1
set_option linter.defProp false
set_option linter.unusedVariables false
set_option linter.unusedSimpArgs false
set_option maxRecDepth 100000
set_option maxHeartbeats 2000000
namespace Go.Proofs.YtppgfphgdogpeaaGreat
open Go Gv Go.Proofs.Tryz
attribute [local irreducible] ae ay al bj aU ea eN eU J.of J.ptr J.eq J.cond J.bW
def afD{hp ab ai aT r}(h:CU hp ab ai aT=some r):hl prog 230 [J.of ab,J.of ai,J.of aT] hp (J.of r.1) r.2:=by
 unfold CU at h;refine bL.ofM func230 I ntmps230 I λW A=>aO λbk=>?_;refine aA h λao bs h=>ae.eH (dx.fR 1 I Z9 (Wa bs) ⟨ah I,ah I,ah I,trivial⟩) I I I (cD ?_);refine yX ?_;refine yX ?_;refine dc ?_;refine dc (h5 ?_);refine cD ?_;refine dA oC (ca ?_);refine j8 h (λh=>?_) λh=>?_
 ·refine aO ?_;cases h;exact al.IH (al.eC () (fN 1) I I (dn I))
 refine k9 (b3 (cD ?_));refine aA h λbz dq h=>bA (jq (j2 (ah I) dq)) ?_;refine dA (bY ajQ.fd) ?_;refine aA h λc1 dv h=>bA (o8 ((aP.id hW).comp K4) (r:=c1.eQ) kF (ah I) (jt (n:=1) I (wM dv) I) I I) ?_;refine ae.si (α:=Ref) (r:=[c1.eQ]) underlying336 kF aae I I (.cons (by simp) (ah I) (.nil)) I λet=>?_;refine ae.sc (z:=(default:aa Ref)) [0] ajR ana I λbn=>ae.own (α:=Ref) 326 (ae.sc (z:=(default:aa Int)) [0] ak0 apy I λb4=>ae.own (α:=Int) 3 (ae.j3 (i:=3) (γ:=Ref) (b':=([]:aa Ref)) (os':=[(0,aQ et [c1.eQ].length 1)]) (aP.id (aa Ref)) yx (ah I) (ah I) jn I I I I (ae.own (α:=Int) 3 (ae.j3 (i:=2) (γ:=Int) (b':=([]:aa Int)) (os':=[(0,aQ none ([]:aa Int).length 0)]) (aP.id (aa Int)) lL (ah I) mM jn I I I I ?_))));refine aO ?_;refine aA h λaF b2 h=>ss ML (Ld b2) (ca (ay.block ?_));refine aA h λav an h=>PV (hp:=hp) (γ:=(aE Nat×Nat)×(aE Nat×Nat)) (g0:=((none,0),(et,1))) (Ls:=λs1 g1=>(⟨g1.1.1,.row 3 s1.1 g1.1.2⟩::⟨none,.row 3 ([]:aa Int) 0⟩::⟨some b4,.cu ([]:aa Int) [(0,aQ g1.1.1 s1.1.length g1.1.2)]⟩::⟨none,.row 326 ([]:aa Ref) 0⟩::⟨some bn,.cu ([]:aa Ref) [(0,aQ g1.2.1 s1.2.length g1.2.2)]⟩::⟨g1.2.1,.row 326 s1.2 g1.2.2⟩::aI bk ai::a1 hp)) (Lx:=λaw g1=>Empty.elim aw) (λs1 g1=>[⟨g1.1.1,.row 3 s1.1 g1.1.2⟩,⟨none,.row 3 ([]:aa Int) 0⟩,⟨some b4,.cu ([]:aa Int) [(0,aQ g1.1.1 s1.1.length g1.1.2)]⟩,⟨none,.row 326 ([]:aa Ref) 0⟩,⟨some bn,.cu ([]:aa Ref) [(0,aQ g1.2.1 s1.2.length g1.2.2)]⟩,⟨g1.2.1,.row 326 s1.2 g1.2.2⟩,aI bk ai]) (λaw=>Empty.elim aw) I MM I O2 an (λ_ _=>rfl) I I (λtz s1 r h g1 nD nL nE l D rec xj=>?_) (λs1 aG g1 D=>?_) (λaw aG g1 D=>?_)
 ·refine ay.fc (dc (ae.nil ?_));refine al.begin 0 I xj (ay.block ?_);refine aA h λaJ cT h=>aA h λcE fl h=>aA h λbx c4 h=>aA h λc2 eV h=>aA h λbg dR h=>aA h λbw e5 h=>ei [0,1,2,4,6,7,8,9,10,11,14,15,16,17,18,19,20,21,22,23,24,25,26,28,29,30,31,32] ?_;refine ay.cf 9 (az 33 [] [6] (J.eq (aQ g1.2.1 s1.2.length g1.2.2))::az 34 [] [6] (J.eq (aQ g1.2.1 s1.2.length g1.2.2))::az 35 [] [6] (J.eq (aQ g1.2.1 s1.2.length g1.2.2))::az 36 [2] [7] (J.of (s1.2.length:Int))::az 37 [3] [] _::az 38 [1,3,4] [7] (J.eq (.pointer (some ⟨g1.2.1.getD 0,aJ*1,none⟩)))::az 39 [3,5] [7] (J.of (ax s1.2 aJ))::az 40 [] [] _::az 41 [3,5,6] [] _::az 42 [3,5,6,8] [] _::az 43 [3,5,6,7,9] [] _::az 44 [3,5,6,10] [] _::az 45 [3,5,6,11] [] _::⟨some 46,[0,3,5,6,12],[7],[7],λhd=>J.eq (aQ (hd 13 0) bg.length ((hd 13 1).getD 0)),λhd _=>⟨(hd 13 0),.row 326 bg ((hd 13 1).getD 0)⟩⟩::az 47 [] [4] (J.eq (aQ g1.1.1 s1.1.length g1.1.2))::az 48 [] [] _::az 49 [15] [] _::⟨some 50,[14,16],[2],[2],λhd=>J.eq (aQ (hd 17 0) bw.length ((hd 17 1).getD 0)),λhd _=>⟨(hd 17 0),.row 3 bw ((hd 17 1).getD 0)⟩⟩::fz [0,1,2,13] [6] [6] (λhd=>⟨some bn,.cu ([]:aa Ref) [(0,aQ (hd 13 0) bg.length ((hd 13 1).getD 0))]⟩)::fz [14,17] [4] [4] (λhd=>⟨some b4,.cu ([]:aa Int) [(0,aQ (hd 17 0) bw.length ((hd 17 1).getD 0))]⟩)::[]) (dK ?_ (dK ?_ (dK ?_ (dK ?_ (dK ?_ (dK ?_ (dK ?_ (dK ?_ (dK ?_ (dK ?_ (dK ?_ hR))))))))))) (λcO=>?_)
  ·exact ey.q (qg λhd E' L' aD ar=>hZ (i:=6) (q:=0) (β:=aa Ref) (γ:=Ref) yx (ah (aD _ _ I)) (ar 6 _ I I) I)
  ·exact ey.q (qg λhd E' L' aD ar=>hZ (i:=6) (q:=0) (β:=aa Ref) (γ:=Ref) yx (ah (aD _ _ I)) (ar 6 _ I I) I)
  ·exact ey.q (qg λhd E' L' aD ar=>hZ (i:=6) (q:=0) (β:=aa Ref) (γ:=Ref) yx (ah (aD _ _ I)) (ar 6 _ I I) I)
  ·exact ey.q (qg λhd E' L' aD ar=>rp (i:=7) underlying336 (ah (aD _ _ I)) I (ar 7 _ I I))
  ·exact ey.q (qg λhd E' L' aD ar=>nr (i:=7) (k:=aJ) (xs:=(s1.2:aa Ref)) underlying336 kF (ah (aD _ _ I)) (ah (aD _ _ I)) (ar 7 _ I I) (cN cT))
  ·exact ey.q (qg λhd E' L' aD ar=>r7 (i:=7) (k:=aJ) (aP.id Ref) (r:=(ax s1.2 aJ)) kF (ah (aD _ _ I)) (ar 7 _ I I) (cN cT).1 I I)
  ·intro hd E' L' aD ar bZ;refine ae.app (i:=7) underlying336 kF aae (bytes:=8) (by kernel_rfl) (ah (aD _ _ I)) (ar 7 _ I I) (ah (aD _ _ I)) dR I λkk dY=>?_;exact ae.nil (al.fin (cJ [kk,some dY]) I I)
  ·exact ey.q (qg λhd E' L' aD ar=>hZ (i:=4) (q:=0) (β:=aa Int) (γ:=Int) lL (ah (aD _ _ I)) (ar 4 _ I I) I)
  ·intro hd E' L' aD ar bZ;refine ae.app (i:=2) underlying56 ch so (bytes:=8) (by kernel_rfl) (ah (aD _ _ I)) (ar 2 _ I I) (ah (aD _ _ I)) e5 I λnw mm=>?_;exact ae.nil (al.fin (cJ [nw,some mm]) I I)
  ·intro hd E' L' aD ar bZ;refine ae.j3 (i:=6) (γ:=Ref) (b':=([]:aa Ref)) (os':=[(0,aQ (hd 13 0) bg.length ((hd 13 1).getD 0))]) (aP.id (aa Ref)) yx (ah (aD _ _ I)) (ah (aD _ _ I)) jn (ar 6 _ I I) I I I (ae.nil ?_);exact al.fin (cJ []) I I
  ·intro hd E' L' aD ar bZ;refine ae.j3 (i:=4) (γ:=Int) (b':=([]:aa Int)) (os':=[(0,aQ (hd 17 0) bw.length ((hd 17 1).getD 0))]) (aP.id (aa Int)) lL (ah (aD _ _ I)) (ah (aD _ _ I)) jn (ar 4 _ I I) I I I (ae.nil ?_);exact al.fin (cJ []) I I
  refine al.df (L2:=(⟨some l,.is (.loop {rec with state:=.busy})⟩::⟨some D,.fH⟩::⟨(cO 17 0),.row 3 bw ((cO 17 1).getD 0)⟩::⟨none,.row 3 ([]:aa Int) 0⟩::⟨some b4,.cu ([]:aa Int) [(0,aQ (cO 17 0) bw.length ((cO 17 1).getD 0))]⟩::⟨none,.row 326 ([]:aa Ref) 0⟩::⟨some bn,.cu ([]:aa Ref) [(0,aQ (cO 13 0) bg.length ((cO 13 1).getD 0))]⟩::⟨(cO 13 0),.row 326 bg ((cO 13 1).getD 0)⟩::aI bk ai::a1 hp)) I (eO ?_);refine al.ml ?_;cases h;exact al.Tg (((cO 17 0),((cO 17 1).getD 0)),((cO 13 0),((cO 13 1).getD 0))) 0 I
 ·clear an;subst aG;simp only[Sum.elim_inl]at h;refine al.dy ?_;refine al.ml (al.next (b3 (bA (hZ (i:=5) (q:=0) (β:=aa Ref) (γ:=Ref) yx (ah I) I I) ?_)));refine cD ?_;refine aA h λcB gr h=>bA (nr (i:=6) (k:=cB) (xs:=(s1.2:aa Ref)) underlying336 kF (ah I) (ah I) I (cN gr)) ?_;refine bA (r7 (i:=6) (k:=cB) (aP.id Ref) (r:=(ax s1.2 cB)) kF (ah I) I (cN gr).1 I I) ?_;refine aO λho rH h=>?_;refine aA h λeE lb h=>aA h λbQ hL h=>ae.qz (k':=Cell.h2 ({eE with gP:=false}:e9)) 8 I ((aP.id e9).comp Gt) (v:=false) la (ah I) (iL false) (sb lb) I I I I (dt hL) (aO ?_);refine aA h λiH tx h=>aA h λcZ Be h=>ae.qz (k':=Cell.h2 ({iH with j5:=0}:e9)) 8 I ((aP.id e9).comp K9) (v:=(0:Int)) ch (ah I) (de 0) (sb tx) I I I I (dt Be) (aO ?_);refine aA h λaS an h=>tw (σ:=Int×(aL Cell)) (ε:=(Int×Bool×(aL Cell))) (γ:=Unit) (δ:=Unit) an 8 [0,1,2,4,6,8,9,10,12,22,31] (λs2 g2=>[(13,J.of s2.1)]) (λs2 g2=>[]) (λs2 g2=>a1 s2.2) (λcH=>Exit.exit 2) (λcH g2=>[(13,J.of cH.1),(72,J.of cH.2.1)]) (λcH g2=>[]) (λcH g2=>a1 cH.2.2) () (λs2 r h g2=>?_) (λg2=>?_)
  ·refine aO ?_;refine iX (λhb=>hZ (i:=5) (q:=0) (β:=aa Ref) (γ:=Ref) yx (ah I) I I) ?_;refine aO ?_;refine aA h λfo jw h=>iX (λhb=>nr (i:=6) (k:=fo) (xs:=(s1.2:aa Ref)) underlying336 kF (ck I hb) (ck I hb) I (cN (fi jw hb))) ?_;refine iX (λhb=>r7 (i:=6) (k:=fo) (aP.id Ref) (r:=(ax s1.2 fo)) kF (ck I hb) I (cN (fi jw hb)).1 I I) ?_;refine aA h λcd hB h=>ae.xy (λhb=>dx.fR 8 I aaf (V0 (fi hB hb)) ⟨ck I hb,trivial⟩) I I I I I (aO (λh=>?_));refine aA h λoe Nu h=>aA h λJX acD h=>aA h λmB Bs h=>ei [0,1,2,4,6,8,9,10,12,13,22,31,63,64,65,66,67,68,69,70,71,72] ?_;refine ay.ads 10 8 mixed (az 75 [] [5] _::az 76 [] [] _::az 77 [0,1] [6] _::az 78 [2] [6] _::az 79 [] [3] _::az 80 [] [] _::az 81 [4,5] [1] _::az 82 [6] [1] _::az 83 [3] [] _::az 84 [8] [] _::[]) ⟨ey.q (fS λaD ar=>hZ (i:=5) (q:=0) (β:=aa Ref) (γ:=Ref) yx (ah (aD _ _ I)) (ar 5 _ I I) I),ey.q hD,ey.q (fS λaD ar=>nr (i:=6) (k:=oe) (xs:=(s1.2:aa Ref)) underlying336 kF (ah (aD _ _ I)) (ah (aD _ _ I)) (ar 6 _ I I) (cN Nu)),ey.q (fS λaD ar=>r7 (i:=6) (k:=oe) (aP.id Ref) (r:=(ax s1.2 oe)) kF (ah (aD _ _ I)) (ar 6 _ I I) (cN Nu).1 I I),ey.q (fS λaD ar=>hZ (i:=3) (q:=0) (β:=aa Int) (γ:=Int) lL (ah (aD _ _ I)) (ar 3 _ I I) I),ey.q hD,ey.q (fS λaD ar=>nr (i:=1) (k:=JX) (xs:=(s1.1:aa Int)) underlying56 ch (ah (aD _ _ I)) (ah (aD _ _ I)) (ar 1 _ I I) (cN acD)),ey.q (fS λaD ar=>r7 (i:=1) (k:=JX) (aP.id Int) (r:=(ax s1.1 JX)) ch (ah (aD _ _ I)) (ar 1 _ I I) (cN acD).1 I I),ey.q (fS λaD ar=>jq (j2 (ah (aD _ _ I)) Bs)),ey.q (gv (bY L1.fd)),trivial⟩ λgf=>?_;refine ae.df (L2:=(⟨some D,.fH⟩::⟨g1.1.1,.row 3 s1.1 g1.1.2⟩::⟨none,.row 3 ([]:aa Int) 0⟩::⟨some b4,.cu ([]:aa Int) [(0,aQ g1.1.1 s1.1.length g1.1.2)]⟩::⟨none,.row 326 ([]:aa Ref) 0⟩::⟨some bn,.cu ([]:aa Ref) [(0,aQ g1.2.1 s1.2.length g1.2.2)]⟩::⟨g1.2.1,.row 326 s1.2 g1.2.2⟩::aI bk ai::a1 s2.2)) I (acE ?_);refine aA h λI8 abB h=>bA (hz (k:=I8) RV (ah I) (ah I) (cN abB)) ?_;exact aA h λkO vM h=>aA h λiQ IG h=>ae.qz (k':=Cell.h2 ({kO with dF:=dJ kO.dF I8 (none:Ref)}:e9)) 8 I (((aP.id e9).comp Cr).comp (aP.idx (α:=Ref) 2 I8 (cN abB).1)) (v:=(none:Ref)) kF (ah I) o6 (sb vM) I I I I (dt IG) go
  refine aO λkb vN h=>?_;refine aA h λcj ih h=>ae.eH (dx.fR 8 I aaf (V0 ih) ⟨ah I,trivial⟩) I I I (ca (aA h λm1 bS h=>qL (γ:=Unit) 8 [0,1,2,4,6,8,9,10,12,13,22,31,72,90] (λg3=>[]) (λg3=>[]) (λg3=>a1 m1) (λg3=>?_) (λhm ag=>?_) (λhm ag=>?_)))
  ·refine aO ?_;cases h;refine al.yE 0 I I ?_;exact al.eC () (fN 8) I I (dn I)
  ·have h:=fu ag bS;refine aO ?_;exact aA h λvO SJ h=>ae.qz (k':=Cell.lM ({kb with eQ:=(none:Ref)}:hW)) 8 I ((aP.id hW).comp K4) (v:=(none:Ref)) kF (ah I) o6 (wM vN) I I I I (dt SJ) go
  have h:=fv ag bS;exact go
 exact Empty.elim aw
def V3{ab ai bR r}(h:CZ ab ai=some r):l7 prog 79 [J.cr bR,J.of ai] bR ab (J.bW []) r:=by
 unfold CZ at h;refine bL.of func79 I ntmps79 I λW A=>?_;refine aO λbk=>?_;refine aA h λav an h=>fk (γ:=Unit) (δ:=Unit) an [0,1,3] (λs1 g1=>[(4,J.of s1)]) (λs1 g1=>[]) (λaw=>Exit.exit 0) (λaw g1=>[(4,J.of aw.1),(13,J.of aw.2)]) (λaw g1=>[]) () (λs1 r h g1=>?_) λg1=>?_
 ·refine aO (λh=>?_);refine aA h λaJ cT h=>aA h λao bs h=>aA h λaF b2 h=>ei [0,1,3,4,7,8,9,10,11,12,13] ?_;refine ay.cf 2 (az 14 [] [] _::az 15 [] [] _::az 16 [1] [] _::az 17 [2] [] _::az 18 [3] [1] _::az 19 [] [] _::az 20 [4,5] [] _::az 21 [6] [] _::az 22 [7] [] _::az 23 [0,8] [1] (J.of ao)::az 24 [] [] _::az 25 [] [] _::az 26 [11] [0] _::az 27 [10,12] [1] (J.of aF)::az 5 [9] [] _::az 6 [13] [] _::[]) (dK ?_ (dK ?_ hR)) (λcO=>?_)
  ·intro hd E' L' aD ar bZ;exact ae.eH (dx.call [1] II (Gz bs) ⟨ah (aD _ _ I),ah (aD _ _ I),trivial⟩ I ⟨(ar 1 _ I I),trivial⟩ I) I I I (ae.nil (al.fin (cJ []) I I))
  ·intro hd E' L' aD ar bZ;exact ae.eH (dx.call [1] II (Gz b2) ⟨ah (aD _ _ I),ah (aD _ _ I),trivial⟩ I ⟨(ar 1 _ I I),trivial⟩ I) I I I (ae.nil (al.fin (cJ []) I I))
  refine al.df (L2:=[aI bk ai,aI bR ab]) I (eO (al.next (ay.seq (ay.seq ?_))));refine aA h λbx c4 h=>aA h λbg dR h=>ay.kM mixed 22 (rg 28 22) [[],[],[0,1],[2],[3],[3],[3,4,5],[3,6],[7],[7,8],[7,9],[7,10],[7],[7,11,12],[7,13],[7,14],[7],[7,16],[7,15,17],[7,18],[3,7,19],[3,20]] [_,_,_,_,_,_,_,_,_,_,_,_,_,_,_,_,_,_,_,_,_,_] ⟨fh,fh,lV D0,fh,ec λL' ar=>λhb=>cY (ah I),ec λL' ar=>λhb=>cY (ah I),ec λL' ar=>λhb=>pX (ck I hb) (ck I hb),ec λL' ar=>λhb=>cY (ck I hb),λL' ar=>iq.gg (λhb=>cY (ah I)) I I I,λL' ar=>iq.gg (λhb=>jq (ck I hb)) I I I,λL' ar=>iq.gg (λhb=>bY Ic.fd (ck I hb)) I I I,λL' ar=>iq.gg (λhb=>hv (i:=1) ((aP.id cW).comp wj) (r:=ab.bN) pk (ck I hb) (ar _ _ I I) I I) I I I,λL' ar=>iq.gg (λhb=>cY (ah I)) I I I,λL' ar=>iq.gg (λhb=>se (k:=bx) underlying43 dZ (ck I hb) (ck I hb) (cN (fi c4 (q9 hb)))) I I I,λL' ar=>iq.gg (λhb=>AX tS wP.fd (ck I hb) I I) I I I,λL' ar=>iq.gg (λhb=>kE oG (ck I hb)) I I I,λL' ar=>iq.gg (λhb=>bY wP.fd (ah I)) I I I,λL' ar=>iq.gg (λhb=>hv (i:=0) ((aP.id aH).comp tS) (r:=ai.aX) oG (ck I hb) (ar _ _ I I) I I) I I I,λL' ar=>iq.gg (λhb=>ja anb (V9 (fi dR (q9 hb))) ⟨ck I hb,ck I hb,trivial⟩) I I I,λL' ar=>iq.gg (λhb=>D0 (ck I hb) (de 0)) I I I,ec λL' ar=>λhb=>wT (ck I hb) (ah I) (λh=>⟨hb,h⟩),fA λar=>tp (ah I) (ah I) (λh=>h),trivial⟩ ?_;exact go
 refine al.k5 (al.next (aA h λbw e5 h=>aA h λcd hB h=>aA h λcj ih h=>aA h λcm mr h=>aA h λcA p4 h=>ay.mU 1 (ei [0,1,3,4,13] ?_)));refine ay.cf 3 (az 52 [] [] _::⟨some 53,[],[2],[2],λhd=>J.eq (aQ (hd 1 0) ([]:aa aH).length 0),λhd _=>⟨(hd 1 0),.row 54 ([]:aa aH) 0⟩⟩::az 54 [] [] _::az 55 [2] [] _::az 56 [3] [] _::az 57 [4] [1] _::az 58 [] [] _::az 59 [5,6] [] (J.of bw)::⟨some 60,[1,7],[2],[2],λhd=>J.eq (aQ (hd 8 0) cd.length ((hd 8 1).getD 0)),λhd _=>⟨(hd 8 0),.row 54 cd ((hd 8 1).getD 0)⟩⟩::az 61 [] [0] _::az 62 [9] [] _::⟨some 63,[1,8,10],[2],[2],λhd=>J.eq (aQ (hd 11 0) cj.length ((hd 11 1).getD 0)),λhd _=>⟨(hd 11 0),.row 54 cj ((hd 11 1).getD 0)⟩⟩::az 64 [] [] _::az 65 [12] [] _::az 66 [13] [] _::az 67 [14] [1] _::az 68 [] [] _::az 69 [15,16] [] (J.of cm)::⟨some 70,[1,8,11,17],[2],[2],λhd=>J.eq (aQ (hd 18 0) cA.length ((hd 18 1).getD 0)),λhd _=>⟨(hd 18 0),.row 54 cA ((hd 18 1).getD 0)⟩⟩::az 71 [0] [] _::az 72 [19] [] _::⟨none,[1,5,8,11,15,18,20],[1,2],[1,2],λ_=>J.any,λhd j=>bif Nat.beq j 1 then(aI bR ({ab with bN:=cA}:cW))else⟨none,.dead⟩⟩::[]) (dK ?_ (dK ?_ (dK ?_ (dK ?_ (dK ?_ (dK ?_ (dK ?_ hR))))))) (λgf=>?_)
 ·intro hd E' L' aD ar bZ;exact ae.si (α:=aH) (r:=([]:aa aH)) underlying43 dZ kl I I (.nil) I λet=>ae.nil (al.place 2 (ar 2 _ I I) (al.fin (cJ [et]) I I))
 ·exact ey.q (qg λhd E' L' aD ar=>AA underlying43 dZ (ah (aD _ _ I)) .none (.some (ah (aD _ _ I))) e5)
 ·intro hd E' L' aD ar bZ;refine ae.app (i:=2) underlying43 dZ kl (bytes:=88) (by kernel_rfl) (ah (aD _ _ I)) (ar 2 _ I I) (ah (aD _ _ I)) hB I λkk dY=>?_;exact ae.nil (al.fin (cJ [kk,some dY]) I I)
 ·intro hd E' L' aD ar bZ;refine ae.app (i:=2) underlying43 dZ kl (bytes:=88) (by kernel_rfl) (ah (aD _ _ I)) (ar 2 _ I I) (ah (aD _ _ I)) ih I λnw mm=>?_;exact ae.nil (al.fin (cJ [nw,some mm]) I I)
 ·exact ey.q (qg λhd E' L' aD ar=>AA underlying43 dZ (ah (aD _ _ I)) (.some (ah (aD _ _ I))) .none mr)
 ·intro hd E' L' aD ar bZ;refine ae.app (i:=2) underlying43 dZ kl (bytes:=88) (by kernel_rfl) (ah (aD _ _ I)) (ar 2 _ I I) (ah (aD _ _ I)) p4 I λsj rE=>?_;exact ae.nil (al.fin (cJ [sj,some rE]) I I)
 ·intro hd E' L' aD ar bZ;refine ae.ajS (i:=1) (j:=2) (xs:=cA) (b':=({ab with bN:=cA}:cW)) ((aP.id cW).comp wj) pk (aD _ _ I) I (aD _ _ I) (ar 1 _ I I) (ar 2 _ I I) I I I (ae.nil ?_);exact al.fin (cJ []) I I
 refine al.df (L2:=[aI bk ai,aI bR ({ab with bN:=cA}:cW),⟨none,.dead⟩]) I (eO ?_);exact al.bt 2 I (al.lv go)
def VZ{ab ai bR r}(h:CV ab ai=some r):l7 prog 78 [J.cr bR,J.of ai] bR ab (J.bW []) r:=by
 unfold CV at h;refine bL.of func78 I ntmps78 I λW A=>b3 (mq λbk=>h5 ?_);refine ae.own (α:=aH) 54 (bA (dm mM) ?_);refine aO ?_;refine aA h λav an h=>fk (γ:=(aE Nat×Nat)) (δ:=(aE Nat×Nat)) an [0,1,3,10,11] (λs1 g1=>[(4,J.eq (aQ g1.1 s1.2.length g1.2)),(12,J.of s1.1)]) (λs1 g1=>[(0,⟨g1.1,.row 54 s1.2 g1.2⟩)]) (λaw=>Exit.exit 0) (λaw g1=>[(4,J.eq (aQ g1.1 aw.2.2.length g1.2)),(12,J.of aw.1),(13,J.of aw.2.1)]) (λaw g1=>[(0,⟨g1.1,.row 54 aw.2.2 g1.2⟩)]) (none,0) (λs1 r h g1=>?_) λg1=>?_
 ·refine go2 (λaJ cT bn ao bs h=>?_) (λh=>?_)
  ·refine aA h λm1 bS h=>ix (γ:=(aE Nat×Nat)) [0,1,3,6,10,11,12,13,20] (λg2=>[(4,J.eq (aQ g2.1 m1.length g2.2))]) (λg2=>[(1,⟨g2.1,.row 54 m1 g2.2⟩)]) (λg2=>?_) (λhm ag=>?_) λhm ag=>?_
   ·refine aO ?_;cases h;exact hA (g2.1,g2.2) 1
   ·have h:=fu ag bS;refine aO ?_;refine aA h λaF b2 h=>jf 1 underlying43 dZ kl b2 λet dY=>?_;refine dc (ae.nil ?_);cases h;exact ed 0 (hm (et,dY))
   have h:=fv ag bS;refine ay.skip ?_;cases h;exact ed 0 (hm (g1.1,g1.2))
  cases h;exact gq (g1.1,g1.2) 0
 refine aO ?_;refine ae.kC (α:=aH) 0 [27,4] ⟨rfl,rfl,trivial⟩ I (I5 2 wj pk (ae.nil ?_));exact al.lv go
def aeV{ab ai aT bR r}(h:CF ab ai aT=some r):l7 prog 72 [J.cr bR,J.of ai,J.of aT] bR ab (J.bW [J.of r.1,J.of r.2.1]) r.2.2:=by
 unfold CF at h;refine bL.of func72 I ntmps72 I λW A=>?_;refine aO λbk=>?_;refine aA h λao bs h=>ae.eH (dx.call [1] II (Gz bs) ⟨ah I,ah I,trivial⟩ I ⟨rfl,trivial⟩ I) I I I (aO (λh=>?_));refine aA h λaF b2 h=>ae.eH (dx.call [1] SL (Pn b2) ⟨ah I,ah I,trivial⟩ I ⟨rfl,trivial⟩ I) I I I (aO (λbn h=>?_));refine aA h λbg dR h=>aA h λaJ cT h=>ei [0,1,2,4,6,7,8,9,10,11,12,13,14,15,16,17,18,19,20,21,22] ?_;refine ay.cf 3 (az 23 [] [] _::az 24 [] [] _::az 25 [1] [1] _::az 26 [0,2] [2] (J.of bg)::az 27 [3] [] _::az 28 [] [] _::az 29 [5] [] _::az 30 [6] [] _::az 31 [7] [] _::az 32 [8] [2] _::az 33 [] [] _::az 34 [9,10] [] _::az 35 [11] [] _::az 36 [12] [] _::az 37 [4,13] [] _::[]) (dK ?_ hR) (λcO=>?_)
 ·intro hd E' L' aD ar bZ;exact ae.eH (dx.call [2] SM (Pb dR) ⟨ah (aD _ _ I),ah (aD _ _ I),trivial⟩ I ⟨(ar 2 _ I I),trivial⟩ I) I I I (ae.nil (al.fin (cJ []) I I))
 refine al.df (L2:=[aI bn aF.1,aI bk ai,aI bR ab]) I (eO ?_);refine aO (λh=>?_);refine aA h λbw e5 h=>ei [0,1,2,4,6,7,8,9,10,11,12,13,14,15,16,17,18,19,20,21,22,23,24,25,26,27,28,29,30,31,32,33,34,35,36,37] ?_;refine ay.cf 3 (az 38 [] [] _::az 39 [] [1] _::az 40 [] [] _::az 41 [2] [] _::az 42 [3] [] _::az 43 [4] [2] _::az 44 [] [] _::az 45 [1,5,6] [] _::⟨some 46,[0,5,7],[2],[2],λ_=>J.bW [],λhd _=>aI bR bw⟩::[]) (dK ?_ hR) (λgf=>?_)
 ·intro hd E' L' aD ar bZ;exact ae.bt 2 (ar 2 _ I I) (ae.lI (Lin:=[aI bR ab]) (Lr:=L'.eraseIdx 2) abC (V3 e5) ⟨ah (aD _ _ I),ah (aD _ _ I),trivial⟩ I λaw=>ae.nil (al.back 2 (ar 2 _ I I) (al.fin (cJ []) I I)))
 refine al.df (L2:=[aI bn aF.1,aI bk ai,aI bR bw]) I (eO ?_);exact go
def aeW{ab ai bR r}(h:xS ab ai=some r):l7 prog 35 [J.cr bR,J.of ai] bR ab (J.bW [J.of r.1,J.of r.2.1]) r.2.2:=by
 unfold xS at h;refine bL.of func35 I ntmps35 I λW A=>?_;refine aO λbk bn=>?_;refine aA h λao bs h=>ae.eH (dx.call [2] II (Gz bs) ⟨ah I,ah I,trivial⟩ I ⟨rfl,trivial⟩ I) I I I (aO (λh=>?_));refine aA h λaF b2 h=>ae.eH (dx.call [2] SL (Pn b2) ⟨ah I,ah I,trivial⟩ I ⟨rfl,trivial⟩ I) I I I (aO (λb4 h=>?_));refine ae.bt 3 I (aA h λbg dR h=>eL 1 abD (VZ dR) λaw=>?_);refine aO λbp ez h=>?_;refine ae.bt 0 I (aA h λbw e5 h=>eL 1 abC (V3 e5) λcH=>?_);exact go
def aeX{ab ai bR r}(h:xT ab ai=some r):l7 prog 37 [J.cr bR,J.of ai] bR ab (J.bW [J.of r.1,J.of r.2.1]) r.2.2:=by
 unfold xT at h;refine bL.of func37 I ntmps37 I λW A=>?_;refine aO λbk bn=>?_;refine aA h λao bs h=>ae.eH (dx.call [2] II (Gz bs) ⟨ah I,ah I,trivial⟩ I ⟨rfl,trivial⟩ I) I I I (aO (λh=>?_));refine aA h λaF b2 h=>ae.eH (dx.call [2] SL (Pn b2) ⟨ah I,ah I,trivial⟩ I ⟨rfl,trivial⟩ I) I I I (aO (λb4 h=>?_));refine ae.bt 3 I (aA h λbg dR h=>eL 1 abD (VZ dR) λaw=>?_);exact go
def VW{hp ab ai Q}(h:wi hp ab ai Q):lU prog 82 [J.of ab,J.of ai] hp Q:=by
 unfold wi at h;refine bL.of func82 I ntmps82 I λW A=>b3 (bA (dm (look_nil (α:=aH))) ?_);refine aO ?_;refine aj.bF h λao bs h=>ae.eH (dx.fR 0 I Eg (CK bs) ⟨ah I,ah I,trivial⟩) I I I (ae.en 0 0 I anc (afR h) I I ⟨ah I,trivial⟩ I λ⟨⟨aF,h⟩,aw⟩=>ae.dy ?_);refine dc (ca (ay.ret ?_));exact al.eC (⟨⟨(aF.1,aF.2),h⟩,()⟩: {r // _}×_) (.refl _) I I (dn I)
def PD{ab ai r}(h:wu ab ai=some r):dV prog 56 [J.of ab,J.of ai] (J.of r):=by
 unfold wu at h;refine dV.of func56 I ntmps56 I λW A=>?_;exact go
instance:fg prog 56 _ _ _ wu J.of J.of J.of:=
 ⟨⟨_,func56,rfl,by kernel_rfl⟩,λ_ _ _ h=>PD h⟩
def ad9{ab ai bR iO iP r}(h:Co ab ai=some r):bL prog 259 [J.cr bR,J.of ai] [⟨some bR,.cu ({ab with cz:=[]}:eh) [(10,aQ iO ab.cz.length iP)]⟩,⟨iO,.row 54 ab.cz iP⟩] (δ:=Unit) (λd=>J.bW [J.of r.1,J.of r.2]) (λd=>[⟨some bR,.cu ({ab with cz:=[]}:eh) [(10,aQ iO ab.cz.length iP)]⟩,⟨iO,.row 54 ab.cz iP⟩]):=by
 unfold Co at h;refine bL.ofM func259 I ntmps259 I λW A=>aO λbk bn b4=>?_;refine bA (H7 underlying205 (ah I)) (ca ?_);refine ay.wR (ah I) I (aO ?_);refine aA h λao bs h=>ss ane (aed bs) (ca (ay.block ?_));refine ay.bt 4 I (ay.bt 4 I (aA h λav an h=>aiK (γ:=Unit) (g0:=()) (Lin:=[⟨some bR,.cu ({ab with cz:=[]}:eh) [(10,aQ iO ab.cz.length iP)]⟩,⟨iO,.row 54 ab.cz iP⟩]) (Ls:=λs1 g1=>[aI b4 (default:Bool),aI bn (default:aH),aI bk ai]) (Lx:=λaw g1=>[aI b4 aw.1,aI bn aw.2,aI bk ai]) (λaw=>.ret) I anf I adT an I I (λtz s1 r h g1 nD nL nE l D rec xj=>?_) (λs1 aG g1 D=>?_) (λaw aG g1 D=>?_)))
 ·refine aO λdd=>?_;refine al.begin 1 I xj ?_;refine aO λaF b2 h=>?_;cases h;exact al.Re () 1 I I I
 ·clear an;subst aG;simp only[Sum.elim_inl]at h;refine al.dy ?_;refine aO ?_;refine al.bt 2 I (al.bt 2 I ?_);cases h;refine al.yE 2 I I ?_;exact al.ru () (.cons_cons _ (.cons_cons _ (q6 _))) I I (nt (i:=4) dZ I I) (nt (i:=3) la I I)
 clear an;subst aG;simp only[Sum.elim_inr]at h;refine ay.ret (al.dy ?_);refine al.j6 (al.ret (al.bt 2 I (al.bt 2 I ?_)));cases h;refine al.yE 2 I I ?_;exact al.ru () (.cons_cons _ (.cons_cons _ (q6 _))) I I (nt (i:=4) dZ I I) (nt (i:=3) la I I)
def aeY{ab ai aT bR r}(h:Gj ab ai aT=some r):l7 prog 54 [J.cr bR,J.of ai,J.of aT] bR ab (J.bW [J.of r.1,J.of r.2]) ab:=by
 unfold Gj at h;refine bL.of func54 I ntmps54 I λW A=>?_;refine aO λbk bn=>?_;refine aA h λao bs h=>aA h λaF b2 h=>ei [0,1,2,5,6] ?_;refine ay.cf 3 (az 8 [] [] _::az 9 [0] [] _::az 10 [1] [] _::az 11 [2] [2] _::az 12 [] [] _::az 13 [] [] _::az 14 [4,5] [2] (J.of ao)::az 15 [] [1] _::az 16 [3,6,7] [] _::az 17 [8] [] _::az 18 [8] [] _::fz [9] [0] [0] (λhd=>aI bn aF.1)::az 7 [10] [] _::[]) (dK ?_ hR) (λcO=>?_)
 ·intro hd E' L' aD ar bZ;exact ae.eH (dx.call [2] SM (Pb bs) ⟨ah (aD _ _ I),ah (aD _ _ I),trivial⟩ I ⟨(ar 2 _ I I),trivial⟩ I) I I I (ae.nil (al.fin (cJ []) I I))
 refine al.df (L2:=[aI bn aF.1,aI bk aT,aI bR ab]) I (eO ?_);exact go
def VN{hp y ab r}(h:KX hp y ab=some r):mP prog "matchguard/index.find" (J.of y) [J.of ab] ([]++a1 hp) (δ:=Unit) (fun _=>J.bW [J.of r.1,J.of r.2]) (fun _=>[]++a1 hp):=by
 cases y with
 |nil=>cases h
 |pn z=>exact mP.of ahB (λA W u hu=>LC hu) (afg h)
 |po z=>exact mP.of ahC (λA W u hu=>LD hu) (aeG h)
 |pq z=>exact mP.of ahD (λA W u hu=>LF hu) (afk h)
def afE{hp ab ai Q}(h:GO hp ab ai Q):Bu prog 255 [J.of ab,J.of ai] hp Q:=by
 unfold GO at h;refine bL.of func255 I ntmps255 I λW A=>?_;refine aO λbk bn=>?_;refine aj.bF h λbz dq h=>aj.bF h λc1 dv h=>aj.bF h λao bs h=>ae.pG (eD.obj 2 (λq:aE Nat×Nat=>Cell.vE ao.2 q.1 q.2) I (yj dv) ang (aeq bs) I (λ_=>rfl) ⟨j2 (ah I) dq,ah I,trivial⟩) I I I λaw=>?_;replace h:=aj.any_bind h aw;refine aj.bF h λbQ hL h=>ae.df (L2:=(aI bn ai::aI bk ab::a1 bQ)) (by rw[<-dt hL];rfl) ?_;exact ae.nil (al.lv (al.ns (⟨⟨bQ,h⟩,()⟩: {r // _}×_) (fN 2) I I))
def aeh{hp ab ai r}(h:FI hp ab ai=some r):hl prog 221 [J.of ab,J.of ai] hp (J.bW []) r:=by
 unfold FI at h;refine bL.of func221 I ntmps221 I λW A=>?_;refine aO λbk bn ao bs b4 dd h=>?_;refine aA h λbz dq h=>aA h λc1 dv h=>aA h λbp ez h=>ay.kM mixed 6 (rg 15 6) [[],[0],[],[1,2],[],[]] [_,_,_,_,_,_] ⟨H1 (bY Yp.fd),iV 3 Fs R0,sq 1 ME,fA λar=>vm (r:=bp) underlying202 yw D2 (ln (ah I) dq) (ah I) (pj (λi e q=>ar i e q I) (jt (n:=4) I (pa dv) I)) (dt ez),sq 0 fw,fh,trivial⟩ ?_;refine aA h λaF b2 h=>ae.en 4 0 I anh (afD b2) I I ⟨ah I,ah I,ah I,trivial⟩ I λaw=>ae.dy ?_;refine aO ?_;refine aA h λc2 eV h=>aA h λz2 hi h=>bA (vm (r:=z2) underlying202 yw D2 (ln (ah I) dq) (ah I) (jt (n:=4) I (pa eV) I) (dt hi)) ?_;refine aA h λbg dR h=>ae.eH (dx.fR 4 I ani (af3 dR) ⟨ah I,trivial⟩) I I I (dO pX (ca ?_));refine aA h λm1 bS h=>qL (γ:=Unit) 4 [0,1,2,3,4,5,6,27] (λg1=>[]) (λg1=>[]) (λg1=>a1 m1) (λg1=>?_) (λhm ag=>?_) (λhm ag=>?_)
 ·exact al.lv go
 ·have h:=fu ag bS;refine aO ?_;exact aA h λbQ hL h=>ae.MF (k':=Cell.oH (ju c2 ao.1)) 4 I underlying202 yw (ln (ah I) dq) (ah I) (pa eV) I I I (dt hL) go
 have h:=fv ag bS;exact go
def agh{ab ai aT bR r}(h:x2 ab ai aT=some r):l7 prog 33 [J.cr bR,J.of ai,J.of aT] bR ab (J.of r.1) r.2:=by
 unfold x2 at h;refine bL.of func33 I ntmps33 I λW A=>?_;refine aO λbk=>?_;refine ae.bt 1 I (aA h λao bs h=>eL 1 apz (afC bs) λaw=>?_);refine aO ?_;refine ae.bt 1 I (aA h λaF b2 h=>eL 1 apA (aeV b2) λcH=>?_);refine aO (λbg dR h=>?_);refine aA h λbw e5 h=>aA h λaJ cT h=>aA h λbp ez h=>ei [0,1,2,4,6,7,8,9,10,11,12,13,14,15,16,17,18,19,20,21,23,24,25,26,27,28] ?_;refine ay.cf 3 (az 29 [] [] _::az 30 [0] [] _::az 31 [1] [] _::az 32 [2] [] _::az 33 [2] [] _::az 34 [2,3,4] [1] (J.cond ((decide (bg<0))=false) (J.of bw))::az 35 [2] [] _::az 36 [2,6] [] _::az 37 [2,7] [] _::az 38 [2,8] [] _::az 39 [2,9] [1] _::az 40 [2] [] _::az 41 [2,10,11] [] _::az 42 [2,12] [] _::az 43 [2,13] [] _::az 44 [2,5,14] [] _::az 45 [2,15] [] _::[]) (dK ?_ hR) (λcO=>?_)
 ·exact ey.q (abo I I I I (λhd=>rfl) λhd E' L' aD ar hb=>bj.MQ (z:=(ab:cW)) 1 32 (aD _ _ I) (Nt hb) (ar 1 _ I I) wB (ja abE (V7 (fi e5 hb)) ⟨ah I,ck (aD _ _ I) hb,trivial⟩))
 refine al.df (L2:=[aI aw aF.2.2,aI bR ab,aI bk ai]) I (eO ?_);exact go
def afS{hp ab Q}(h:GS hp ab Q):lU prog 39 [J.of ab] hp Q:=by
 unfold GS at h;refine bL.of func39 I ntmps39 I λW A=>b3 (bA (dm (look_nil (α:=aH))) (gW (b3 ?_)));refine cD ?_;refine bA (Aw underlying85 (ah I)) (ca ?_);refine yV h (λh=>?_) λh=>?_
 ·refine b3 (bA (dm (look_nil (α:=aH))) (ca (ay.ret (al.ret ?_))));exact al.eC (⟨⟨(([]:aa aH),hp),h⟩,()⟩: {r // _}×_) (.refl _) I I (dn I)
 refine k9 (b3 (ae.own (α:=aH) 54 (bA (dm mM) ?_)));refine aO λbz dq c1 dv h=>?_;refine Bt (σ:=Int×(aa aH)×(aL Cell)) (ε:=(Int×Bool×(aa aH)×(aL Cell))) (γ:=(aE Nat×Nat)) (δ:=(aE Nat×Nat)) h 1 [0,2,7,12,13] (λs1 g1=>[(3,J.eq (aQ g1.1 s1.2.1.length g1.2)),(14,J.of s1.1)]) (λs1 g1=>[(0,⟨g1.1,.row 54 s1.2.1 g1.2⟩)]) (λs1 g1=>a1 s1.2.2) (λaw=>Exit.exit 0) (λaw g1=>[(3,J.eq (aQ g1.1 aw.2.2.1.length g1.2)),(14,J.of aw.1),(15,J.of aw.2.1)]) (λaw g1=>[(0,⟨g1.1,.row 54 aw.2.2.1 g1.2⟩)]) (λaw g1=>a1 aw.2.2.2) (none,0) (λs1 R h g1=>?_) (λav h g1=>?_)
 ·refine go2 (λaJ cT bk h=>?_) (λh=>?_)
  ·refine ae.en 2 0 I abF (VW h) I I ⟨ah I,ah I,trivial⟩ I λ⟨⟨ao,h⟩,cH⟩=>ae.dy ?_;refine aj.bF h λaF b2 h=>jf 1 underlying43 dZ kl b2 λet dY=>?_;refine aO ?_;exact al.yi h (et,dY) 1 I .all
  exact al.ui h (g1.1,g1.2) 0 I (by simp) I .all
 refine aO ?_;exact al.kC (α:=aH) 0 [2,3,25] ⟨rfl,rfl,rfl,trivial⟩ I (al.eC (⟨⟨(av.2.2.1,av.2.2.2),h⟩,()⟩: {r // _}×_) (fN 1) I I (dn I))
instance Nv:fg prog 42 _ _ _ z8 J.of J.of J.of:=.i func42 I ntmps42 I λab ai r h W A=>by
 unfold z8 at h;refine aO (λh=>?_);refine aA h λav an h=>fk (γ:=Unit) (δ:=Unit) an [0,1,4,10,12] (λs1 g1=>[(13,J.of s1)]) (λs1 g1=>[]) (λaw=>Sum.elim (λaw=>Exit.exit 0) (λaw=>Exit.ret) aw) (λaw g1=>Sum.elim (λaw=>[(13,J.of aw.1),(14,J.of aw.2)]) (λaw=>[(5,J.of aw.1),(13,J.of aw.2.1),(14,J.of aw.2.2.1),(25,J.of aw.2.2.2)]) aw) (λaw g1=>[]) () (λs1 r h g1=>?_) λg1=>?_
 ·refine aO (λh=>?_);refine aA h λaJ cT h=>aA h λbx c4 h=>aA h λao bs h=>ay.fy 10 ?_;exact go
 rcases av with av|av
 ·simp only[Sum.elim_inl]at h;exact go
 simp only[Sum.elim_inr]at h;exact go
def aeH{hp ab ai Q}(h:F4 hp ab ai Q):lU prog 43 [J.of ab,J.of ai] hp Q:=by
 unfold F4 at h;refine bL.of func43 I ntmps43 I λW A=>b3 (bA (dm (look_nil (α:=aH))) ?_);refine aO ?_;refine aj.bF h λao bs h=>ae.eH (dx.fR 0 I IC (FE bs) ⟨ah I,trivial⟩) I I I (cD ?_);refine ae.en 0 0 I abF (VW h) I I ⟨ah I,ah I,trivial⟩ I λ⟨⟨aF,h⟩,aw⟩=>ae.dy ?_;refine dc (ca (ay.ret ?_));exact al.eC (⟨⟨(aF.1,aF.2),h⟩,()⟩: {r // _}×_) (.refl _) I I (dn I)
def aeI{hp ab ai r}(h:F5 hp ab ai=some r):hl prog 254 [J.of ab,J.of ai] hp (J.bW [J.of r.1,J.of r.2]) hp:=by
 unfold F5 at h;refine bL.of func254 I ntmps254 I λW A=>?_;refine aO λbk bn=>?_;refine aA h λbz dq h=>aA h λc1 dv h=>aA h λao bs h=>ae.eH (dx.obj 2 I (yj dv) anj (ad9 bs) I ⟨j2 (ah I) dq,ah I,trivial⟩) I I I ?_;exact go
def Po{hp ab ai r}(h:zX hp ab ai=some r):hl prog 98 [J.of ab,J.of ai] hp (J.bW [J.of r.1,J.of r.2]) hp:=by
 unfold zX at h;refine bL.of func98 I ntmps98 I λW A=>?_;refine aO (λbk bn h=>?_);refine aA h λbz dq h=>aA h λc1 dv h=>aA h λao bs h=>ei [0,1,3,4,5,8,9] ?_;refine ay.cf 2 (az 12 [] [] _::az 13 [0] [] _::az 14 [1] [] _::az 15 [2] [] _::az 16 [] [1] _::az 17 [3,4] [] (J.bW [J.of ao.1,J.of ao.2])::az 11 [5] [] _::az 18 [6] [] _::az 19 [6] [] _::az 6 [7] [] _::az 7 [8] [] _::[]) (dK ?_ hR) (λcO=>?_)
 ·intro hd E' L' aD ar bZ;refine ae.eH (dx.Eh 2 (bZ.trans I) (VN bs) ⟨ah (aD _ _ I),ah (aD _ _ I),trivial⟩) I I I (ae.nil ?_);exact al.fin (cJ []) I I
 refine al.df (L2:=(aI bn (default:aH)::aI bk ai::a1 hp)) I (eO ?_);refine aO ?_;exact aA h λaF b2 h=>ae.eH (dx.fR 2 I aag (VU b2) ⟨ah I,ah I,ah I,trivial⟩) I I I go
def afl{hp y ab Q}(h:Pd hp y ab Q):mP prog "matchguard/index.put" (J.of y) [J.of ab] ([]++a1 hp) (δ:= {r:(aL Cell) // Q r}×Unit) (fun d=>J.bW []) (fun d=>[]++a1 d.1.1):=by
 cases y with
 |nil=>exact h.elim
 | pn z=>
   obtain⟨r,h1,ad⟩:=h
   exact mP.of ahE (λA W u hu=>LC hu) (bL.map (λd=>(⟨r,ad⟩,d)) (λ_=>rfl) (λ_=>rfl) (afA h1))
 |po z=>exact mP.of ahF (λA W u hu=>LD hu) (aeU h)
 |pq z=>exact mP.of ahG (λA W u hu=>LF hu) (afE h)
def aer{hp y ab Q}(h:OV hp y ab Q):mP prog "matchguard/index.remove" (J.of y) [J.of ab] ([]++a1 hp) (δ:= {r:(aL Cell) // Q r}×Unit) (fun d=>J.bW []) (fun d=>[]++a1 d.1.1):=by
 cases y with
 |nil=>exact h.elim
 | pn z=>
   obtain⟨r,h1,ad⟩:=h
   exact mP.of ahH (λA W u hu=>LC hu) (bL.map (λd=>(⟨r,ad⟩,d)) (λ_=>rfl) (λ_=>rfl) (aeB h1))
 | po z=>
   obtain⟨r,h1,ad⟩:=h
   exact mP.of ahI (λA W u hu=>LD hu) (bL.map (λd=>(⟨r,ad⟩,d)) (λ_=>rfl) (λ_=>rfl) (aeh h1))
 |pq z=>exact mP.of ahJ (λA W u hu=>LF hu) (aeE h)
def GF{hp ab Q}(h:GG hp ab Q):lU prog 13 [J.of ab] hp Q:=by
 unfold GG at h;refine bL.of func13 I ntmps13 I λW A=>b3 (bA (dm (look_nil (α:=aH))) ?_);refine aO ?_;refine aj.bF h λao bs h=>ae.eH (dx.fR 0 I IC (FE bs) ⟨ah I,trivial⟩) I I I (ae.en 0 0 I apB (afS h) I I ⟨ah I,trivial⟩ I λ⟨⟨aF,h⟩,aw⟩=>ae.dy ?_);refine dc (ca (ay.ret ?_));exact al.eC (⟨⟨(aF.1,aF.2),h⟩,()⟩: {r // _}×_) (.refl _) I I (dn I)
def aes{hp y ab r}(h:OW hp y ab=some r):mP prog "matchguard/index.lookup" (J.of y) [J.of ab] ([]++a1 hp) (δ:=Unit) (fun _=>J.bW [J.of r.1,J.of r.2]) (fun _=>[]++a1 hp):=by
 cases y with
 |nil=>cases h
 |pn z=>exact mP.of ahK (λA W u hu=>LC hu) (aey h)
 |po z=>exact mP.of ahL (λA W u hu=>LD hu) (aeg h)
 |pq z=>exact mP.of ahM (λA W u hu=>LF hu) (aeI h)
def Px{hp ab ai Q}(h:z1 hp ab ai Q):lU prog 101 [J.of ab,J.of ai] hp Q:=by
 unfold z1 at h;refine bL.of func101 I ntmps101 I λW A=>?_;refine go2 (λbk h=>?_) (λbk h=>?_)
 ·exact al.eC (⟨⟨(false,hp),h⟩,()⟩: {r // _}×_) (fN 1) I I (dn I)
 refine aj.bF h λbz dq h=>aj.bF h λc1 dv h=>aj.bF h λcE fl h=>aj.bF h λc2 eV h=>aj.bF h λbp ez h=>ay.AZ 1 1 (ei [0,1,3,4,9,10] ?_);refine ay.cf 2 (az 12 [] [] _::az 13 [0] [] _::az 14 [1] [] _::az 15 [2] [] _::az 16 [] [] _::az 17 [4] [0] _::az 18 [3,5] [] (J.bW [J.of (bp.getD default),J.of bp.isSome])::az 11 [6] [] _::az 19 [7] [] _::az 20 [7] [] _::qK 5 [] 1 10 _::fz [8,10] [1] [1] (λhd=>aI ((hd 10 0).getD 0) (bp.getD default:aH))::az 6 [9] [] _::[]) (dK ?_ hR) (λcO=>?_)
 ·intro hd E' L' aD ar bZ;refine bA (P8 (r:=bp) underlying193 Bm kl (ln (ah (aD _ _ I)) fl) (ah (aD _ _ I)) (jt (n:=2) (bZ.trans I) (uh eV) I) (dt ez)) (ae.nil ?_);exact al.fin (cJ []) I I
 refine al.df (L2:=(aI bk ai::aI ((cO 10 0).getD 0) (bp.getD default:aH)::a1 hp)) I (eO ?_);refine al.bt 1 I (al.next (ay.seq (ay.seq (aj.bF h λho rH h=>aj.bF h λeE lb h=>aj.bF h λao bs h=>ei [0,1,3,4,5,6,9,10,11,12,13,14,15,16,17,18,19,20] ?_))));refine ay.cf 2 (az 22 [] [] _::az 23 [0] [] _::az 24 [1] [] _::az 25 [2] [] _::az 26 [] [] _::az 27 [4] [1] _::az 28 [3,5] [] (J.bW [J.of ao.1,J.of ao.2])::az 21 [6] [] _::az 29 [7] [] _::az 30 [7] [] _::az 7 [8] [] _::az 8 [9] [] _::[]) (dK ?_ hR) (λgf=>?_)
 ·intro hd E' L' aD ar bZ;refine ae.eH (dx.Eh 2 (bZ.trans I) (VN bs) ⟨ah (aD _ _ I),ah (aD _ _ I),trivial⟩) I I I (ae.nil ?_);exact al.fin (cJ []) I I
 refine al.df (L2:=(aI ((cO 10 0).getD 0) (bp.getD default:aH)::aI bk ai::a1 hp)) I (eO ?_);refine go2 (λh=>?_) (λh=>?_)
 ·exact al.eC (⟨⟨(false,hp),h⟩,()⟩: {r // _}×_) (fN 2) I I (dn I)
 refine aj.bF h λmb yT h=>aj.bF h λiH tx h=>aj.bF h λaF b2 h=>ay.fy 8 ?_;refine aj.bF h λmB Bs h=>aj.bF h λkO vM h=>aj.bF h λbQ hL h=>ae.Il (k':=Cell.mn (gS kO ai.b0 aF)) 2 I (by first|exact .inl I|exact .inr I) underlying193 Bm (ln (ah I) Bs) (ah I) (ah I) (uh vM) I I I (dt hL) ?_;refine gW (aj.bF h λkb vN h=>ay.fy 5 ?_);refine ae.Eh 2 0 I (afl h) I I ⟨ah I,ah I,trivial⟩ I λ⟨⟨bg,h⟩,aw⟩=>?_;refine ae.dy ?_;refine aO ?_;exact al.eC (⟨⟨(true,bg),h⟩,()⟩: {r // _}×_) (fN 2) I I (dn I)
def agq{hp ab ai e6 Q}(h:Hs hp ab ai Q):bL prog 20 [J.of ab,J.cr e6] ([aI e6 ai]++a1 hp) (δ:= {r:Bool×(aL Cell) // Q r}×Unit) (λd=>J.of d.1.1.1) (λd=>[aI e6 ai]++a1 d.1.1.2):=by
 unfold Hs at h;refine bL.of func20 I ntmps20 I λW A=>b3 (dc (gW (ay.seq ?_)));obtain⟨lQ,oI,tr⟩:=aj.ex h;refine ay.ank mixed 17 (jc 17 0) I I (dp.jy (γ:=Subtype lQ) [0,1,4] 0 1 11 (jc 17 63) (λDO=>[(18,J.of DO.1.1),(22,J.of ai.bN)]) (λDO=>[]) (λDO=>a1 DO.1.2) (λDO=>?_) (λaah=>?_))
 ·obtain⟨ao,ha⟩:=DO;have h:=tr ao ha;refine dp.df (L2:=(aI e6 ai::a1 ao.2)) I (dp.le (E':=[(0,J.of ab),(1,J.cr e6),(4,J.of false),(18,J.of ao.1),(22,J.of ai.bN)]) .all (aj.bF h λaF b2 h=>aj.bF h λbg dR h=>?_));refine dp.jy (γ:=Unit) [0,1,4] 0 1 0 (jc 17 131071) (λRh=>[(33,J.of ((!aF)||(bg !=ai.ik)))]) (λRh=>[]) (λRh=>a1 ao.2) (λRh=>?_) (λanl=>?_)
  ·refine dp.last (by kernel_rfl) ?_;refine al.next (yV h (λh=>?_) λh=>?_)
   ·refine b3 (dc (ca (ay.ret (al.ret ?_))));exact al.bt 0 I (al.eC (⟨⟨(false,ao.2),h⟩,()⟩: {r // _}×_) (.cons_cons _ (.refl _)) I I (dn I))
   refine k9 (ay.seq (b3 (dc (ca (ay.block ?_)))));refine Bt (σ:=Int×(aL Cell)) (ε:=(Int×Bool×(aL Cell))⊕(Int×Bool×Bool×(aL Cell))) (γ:=Unit) (δ:=Unit) h 1 [0,1,4,33] (λs1 g1=>[(5,J.of s1.1)]) (λs1 g1=>[]) (λs1 g1=>a1 s1.2) (λaw=>Sum.elim (λaw=>Exit.exit 0) (λaw=>Exit.ret) aw) (λaw g1=>Sum.elim (λaw=>[(5,J.of aw.1),(35,J.of aw.2.1)]) (λaw=>[(5,J.of aw.1),(35,J.of aw.2.1),(45,J.of aw.2.2.1)]) aw) (λaw g1=>[]) (λaw g1=>Sum.elim (λaw=>a1 aw.2.2) (λaw=>a1 aw.2.2.2) aw) () (λs1 R h g1=>?_) (λav h g1=>?_)
   ·refine ay.seq (b3 (cD ?_));refine dO Ip (ca ?_);refine yV h (λh=>?_) λh=>?_
    ·refine k9 (ay.seq (ay.block (b3 (cD ?_))));refine cD ?_;refine ae.en 1 0 I apC (aeH h) I I ⟨ah I,ah I,trivial⟩ I λ⟨⟨bw,h⟩,cH⟩=>ae.dy ?_;refine cD ?_;refine cD ?_;refine aj.bF h λcd hB h=>ae.eH (dx.call [0] SM (Pb hB) ⟨ah I,ah I,trivial⟩ I ⟨rfl,trivial⟩ I) I I I (aj.bF h λcj ih h=>ss Nv.cf (Nv.m _ _ _ ih) ?_);refine dA oC (ca ?_);refine yV h (λh=>?_) λh=>?_
     ·refine b3 (dc (ca (ay.ret ?_)));exact al.j6 (al.ret (al.ui h () 0 I (by simp) I .all))
     refine ay.skip (al.ml (al.next (ay.fc (cD ?_))));refine dO jI ?_;refine dc (ae.nil ?_);exact al.yi h () 0 I .all
    exact ay.exit (al.exit (al.ui h () 0 I (by simp) I .all))
   rcases av with av|av
   ·simp only[Sum.elim_inl]at h;refine al.k5 (al.next (b3 (cD ?_)));refine ae.en 1 0 I apD (aen h) I I ⟨ah I,trivial⟩ I λ⟨⟨cm,h⟩,eI⟩=>ae.dy ?_;refine cD ?_;refine ae.en 1 0 I apE (aeb h) I I ⟨ah I,trivial⟩ I λ⟨⟨cA,h⟩,hn⟩=>ae.dy ?_;refine cD ?_;refine aj.bF h λdS sv h=>ae.eH (dx.fR 1 I apF (aeO sv) ⟨ah I,trivial⟩) I I I (dc ?_);refine dc ?_;refine dc (gW ?_);refine aj.bF h λgJ uv h=>aj.bF h λiy sk h=>aj.bF h λh6 A9 h=>ei [0,1,4,5,6,7,8,33,35,46,47,48,49,50,51] ?_;refine ay.Uh 1 mixed (az 52 [] [] _::az 53 [0] [0] (J.of gJ)::az 54 [] [] _::az 55 [2] [] _::az 56 [3] [] _::az 57 [4] [0] _::az 58 [] [] _::az 59 [6] [0] (J.of iy)::az 60 [5,7] [] _::az 9 [1] [] _::az 10 [8] [] _::[]) ⟨ey.q hD,?_,ey.q hD,ey.q (gv jq),ey.q (gv (bY Ri.fd)),ey.q (oM 0 GM rD),ey.q hD,?_,ey.q (fS λaD ar=>ja acy.cf (acy.m _ _ _ A9) ⟨ah (aD _ _ I),ah (aD _ _ I),trivial⟩),ey.q (fS λaD ar=>dm (ah (aD _ _ I))),ey.q (fS λaD ar=>dm (ah (aD _ _ I))),trivial⟩ λcO=>?_
    ·intro hd E' L' aD ar bZ;exact ae.eH (dx.call [0] apG (agf uv) ⟨ah (aD _ _ I),trivial⟩ I ⟨(ar 0 _ I I),trivial⟩ I) I I I (ae.nil (al.fin (cJ []) I I))
    ·intro hd E' L' aD ar bZ;exact ae.eH (dx.call [0] abx (V6 sk) ⟨ah (aD _ _ I),trivial⟩ I ⟨(ar 0 _ I I),trivial⟩ I) I I I (ae.nil (al.fin (cJ []) I I))
    refine al.df (L2:=(aI e6 ai::a1 cA.2)) I (eO (al.next (ay.seq (b3 ?_))));refine cD ?_;refine dA (pg underlying113) ?_;refine cD ?_;refine dA (pg underlying117) ?_;refine dO wW ?_;refine cD ?_;refine hN cY ?_;refine hN (pg underlying115) ?_;refine hN cY ?_;refine hN (pg underlying119) ?_;refine Bo wW ?_;refine aj.bF h λbp ez h=>qf ez (tp (ah I) (ah I) (λh=>h)) ?_;refine cD ?_;refine hN cY ?_;refine hN (pg underlying45) ?_;refine hN cY ?_;refine hN jq ?_;refine hN (bY Ri.fd) ?_;refine hN (bY Q9.fd) ?_;refine iX (λhb=>hv (i:=0) (((aP.id cW).comp GM).comp KR) (r:=ai.gK.eK) Ec (ck I hb) I I I) ?_;refine hN (pg underlying29) ?_;refine Bo wW ?_;refine Ey (ca ?_);refine yV h (λh=>?_) λh=>?_
    ·refine b3 (dc (ca (ay.ret (al.ret ?_))));exact al.bt 0 I (al.eC (⟨⟨(false,cA.2),h⟩,()⟩: {r // _}×_) (.cons_cons _ (.refl _)) I I (dn I))
    refine k9 (ay.seq (b3 (cD ?_)));refine dA (pg underlying113) ?_;refine cD (ca (ay.block ?_));refine aj.bF h λaS an h=>tw (σ:=Int) (ε:=(Int×Bool)⊕(Int×Int×Bool×Bool)) (γ:=Unit) (δ:=Unit) an 1 [0,1,4,5,6,7,8,9,10,33,35,83,84,85] (λs2 g2=>[(86,J.of s2)]) (λs2 g2=>[]) (λs2 g2=>a1 cA.2) (λc7=>Sum.elim (λc7=>Exit.exit 2) (λc7=>Exit.ret) c7) (λc7 g2=>Sum.elim (λc7=>[(86,J.of c7.1),(87,J.of c7.2)]) (λc7=>[(11,J.of c7.1),(86,J.of c7.2.1),(87,J.of c7.2.2.1),(126,J.of c7.2.2.2)]) c7) (λc7 g2=>[]) (λc7 g2=>Sum.elim (λc7=>a1 cA.2) (λc7=>a1 cA.2) c7) () (λs2 r h g2=>?_) (λg2=>?_)
    ·refine b3 (dO pd (gW ?_));refine j8 h (λh=>?_) λh=>?_
     ·refine k9 (ay.seq (ay.block (b3 (cD ?_))));refine aA h λaJ cT h=>yQ cT underlying113 Io ?_;refine dA (kE Io) ?_;refine jv Z4 λbk=>?_;refine dc ?_;refine p3 0 Io (gW ?_);refine aA h λz2 hi h=>aA h λbx c4 h=>aA h λcB gr h=>aA h λz3 lZ h=>aA h λfo jw h=>ay.kM mixed 36 (rg 91 36) [[],[0],[1],[],[3],[4],[],[6],[7],[2,5,8],[],[],[10,11],[12],[13],[9,14],[15],[16],[16,17],[16],[16],[16,19,20],[16,21],[16,22],[16,18,23],[16,24],[25],[26],[26,27],[26],[26],[26,29,30],[26,31],[26,32],[26,28,33],[26,34]] [_,_,_,_,_,_,_,_,_,_,_,_,_,_,_,_,_,_,_,_,_,_,_,_,_,_,_,_,_,_,_,_,_,_,_,_] ⟨H1 (bY Qz.fd),H1 (bY Yq.fd),iV 0 (KO.comp Cx) ch,H1 (bY Qz.fd),H1 (bY Yr.fd),iV 0 (KO.comp CG) ch,H1 (bY Qz.fd),H1 (bY Ys.fd),iV 0 (KO.comp Cy) fw,tK hi λL' ar=>kD (b:= {bG:=((ax cm.1 aJ).cX).bG,fx:=((ax cm.1 aJ).cX).fx,cc:=((ax cm.1 aJ).cX).cc:e3}) I aai DX (.cons FJ I (ah I) I (.cons F6 I (ah I) I (.cons FK I (ah I) I (.nil)))),fh,fh,Nq c4 underlying117 pf,arU FF Qv.fd,H1 (kE pW),lV (R1 Mi I Mj I),fh,ec λL' ar=>λhb=>bY ajT.fd (ah I),ec λL' ar=>λhb=>hv (i:=0) ((aP.id hU).comp VD) (r:=(ax cm.1 aJ).iE) ch (ck I hb) (ar _ _ I I) I I,ec λL' ar=>λhb=>cY (ah I),ec λL' ar=>λhb=>cY (ah I),ec λL' ar=>λhb=>se (k:=cB) underlying117 pf (ck I hb) (ck I hb) (cN (fi gr hb)),ec λL' ar=>λhb=>AX FG Qw.fd (ck I hb) I I,ec λL' ar=>λhb=>kE ch (ck I hb),ec λL' ar=>λhb=>wW (ck I hb) (ck I hb),tK lZ λL' ar=>tp (ah I) (ah I) (λh=>h),fh,ec λL' ar=>λhb=>bY ajU.fd (ah I),ec λL' ar=>λhb=>hv (i:=0) ((aP.id hU).comp Vi) (r:=(ax cm.1 aJ).iv) ch (ck I hb) (ar _ _ I I) I I,ec λL' ar=>λhb=>cY (ah I),ec λL' ar=>λhb=>cY (ah I),ec λL' ar=>λhb=>se (k:=fo) underlying117 pf (ck I hb) (ck I hb) (cN (fi jw hb)),ec λL' ar=>λhb=>AX Ft Qx.fd (ck I hb) I I,ec λL' ar=>λhb=>kE ch (ck I hb),ec λL' ar=>λhb=>wW (ck I hb) (ck I hb),fA λar=>tp (ah I) (ah I) (λh=>h),trivial⟩ (ca ?_);refine j8 h (λh=>?_) λh=>?_
      ·refine b3 (dc (ca (ay.ret ?_)));refine al.j6 (al.ret ?_);cases h;exact gq () 1
      refine ay.skip (al.ml (al.next (ay.fc (dO jI ?_))));refine cD (ae.nil ?_);cases h;exact hA () 1
     refine ay.exit (al.exit ?_);cases h;exact gq () 0
    rcases aS with aS|aS
    ·simp only[Sum.elim_inl]at h;refine al.k5 (al.next (ay.seq (b3 (cD ?_))));refine dA (pg underlying115) ?_;refine cD (ca (ay.block ?_));refine aj.bF h λcM an h=>tw (σ:=Int) (ε:=(Int×Bool)⊕(Int×Int×Bool×Bool)) (γ:=Unit) (δ:=Unit) an 1 [0,1,4,5,6,7,8,9,10,33,35,83,84,85,86,87,128,129] (λgB g3=>[(130,J.of gB)]) (λgB g3=>[]) (λgB g3=>a1 cA.2) (λgL=>Sum.elim (λgL=>Exit.exit 4) (λgL=>Exit.ret) gL) (λgL g3=>Sum.elim (λgL=>[(130,J.of gL.1),(131,J.of gL.2)]) (λgL=>[(13,J.of gL.1),(130,J.of gL.2.1),(131,J.of gL.2.2.1),(146,J.of gL.2.2.2)]) gL) (λgL g3=>[]) (λgL g3=>Sum.elim (λgL=>a1 cA.2) (λgL=>a1 cA.2) gL) () (λgB r h g3=>?_) (λg3=>?_)
     ·refine b3 (dO pd (gW ?_));refine j8 h (λh=>?_) λh=>?_
      ·refine k9 (ay.seq (ay.block (b3 (cD ?_))));refine aA h λl8 yO h=>yQ yO underlying115 wU ?_;refine dA (kE wU) ?_;refine jv Im λbn=>?_;refine dc ?_;refine p3 0 wU (gW ?_);refine aA h λz4 sr h=>aA h λoU yP h=>ay.kM mixed 12 (rg 135 12) [[],[0],[],[2],[],[4],[1,3,5],[],[],[7,8],[9],[6,10]] [_,_,_,_,_,_,_,_,_,_,_,_] ⟨H1 (bY Yq.fd),iV 0 Cx ch,H1 (bY Yr.fd),iV 0 CG ch,H1 (bY Ys.fd),iV 0 Cy fw,tK sr λL' ar=>kD (b:= {bG:=(ax cA.1 l8).bG,fx:=(ax cA.1 l8).fx,cc:=(ax cA.1 l8).cc:e3}) I aai DX (.cons FJ I (ah I) I (.cons F6 I (ah I) I (.cons FK I (ah I) I (.nil)))),fh,fh,Nq yP underlying119 pW,H1 (kE pW),lV (R1 Mi I Mj I),trivial⟩ (ca ?_);refine j8 h (λh=>?_) λh=>?_
       ·refine b3 (dc (ca (ay.ret ?_)));refine al.j6 (al.ret ?_);cases h;exact gq () 1
       refine ay.skip (al.ml (al.next (ay.fc (dO jI ?_))));refine cD (ae.nil ?_);cases h;exact hA () 1
      refine ay.exit (al.exit ?_);cases h;exact gq () 0
     rcases cM with cM|cM
     ·simp only[Sum.elim_inl]at h;refine al.k5 (al.next (ay.seq (b3 (cD ?_))));refine dA (pg underlying45) ?_;refine cD (ca (ay.block ?_));refine aj.bF h λeW an h=>tw (σ:=Int) (ε:=(Int×Bool)⊕(Int×Int×Bool×Bool)) (γ:=Unit) (δ:=Unit) an 1 [0,1,4,5,6,7,8,9,10,33,35,83,84,85,86,87,128,129,130,131,148,149] (λjP g4=>[(150,J.of jP)]) (λjP g4=>[]) (λjP g4=>a1 cA.2) (λlB=>Sum.elim (λlB=>Exit.exit 6) (λlB=>Exit.ret) lB) (λlB g4=>Sum.elim (λlB=>[(150,J.of lB.1),(151,J.of lB.2)]) (λlB=>[(15,J.of lB.1),(150,J.of lB.2.1),(151,J.of lB.2.2.1),(175,J.of lB.2.2.2)]) lB) (λlB g4=>[]) (λlB g4=>Sum.elim (λlB=>a1 cA.2) (λlB=>a1 cA.2) lB) () (λjP r h g4=>?_) (λg4=>?_)
      ·refine b3 (dO pd (gW ?_));refine j8 h (λh=>?_) λh=>?_
       ·refine k9 (ay.seq (ay.block (b3 (cD ?_))));refine aA h λma Nn h=>yQ Nn underlying45 IB ?_;refine dA (kE IB) ?_;refine jv abc λb4=>?_;refine dc ?_;refine p3 0 IB (gW ?_);refine aA h λoe Nu h=>aA h λjM w0 h=>aA h λz5 xe h=>ei [0,1,4,5,6,7,8,9,10,15,16,33,35,83,84,85,86,87,128,129,130,131,148,149,150,151,152,153,154] ?_;refine ay.Uh 2 mixed (az 155 [] [] _::az 156 [0] [0] _::az 157 [] [] _::az 158 [2] [] _::az 159 [3] [] _::az 160 [4] [] _::az 161 [5] [1] _::az 162 [] [] _::az 163 [6,7] [] _::az 164 [8] [] _::az 165 [9] [] _::az 166 [1,10] [] _::az 167 [11] [] _::az 168 [12] [] (J.cond ((((ax dS ma).pb) !=((ax ai.gK.eK oe).b6))=false) (J.eq (.pointer (some ⟨b4,0+1,none⟩))))::az 169 [12,13] [0] (J.cond ((((ax dS ma).pb) !=((ax ai.gK.eK oe).b6))=false) (J.of ((ax dS ma).wG)))::az 170 [12] [] (J.cond ((((ax dS ma).pb) !=((ax ai.gK.eK oe).b6))=false) (J.cr e6))::az 171 [12] [] (J.cond ((((ax dS ma).pb) !=((ax ai.gK.eK oe).b6))=false) (J.eq (.pointer (some ⟨b4,0+0,none⟩))))::az 172 [12,16] [0] (J.cond ((((ax dS ma).pb) !=((ax ai.gK.eK oe).b6))=false) (J.of ((ax dS ma).pb)))::az 173 [12,15,17] [1] (J.cond ((((ax dS ma).pb) !=((ax ai.gK.eK oe).b6))=false) (J.of jM))::az 174 [12,14,18] [] (J.cond ((((ax dS ma).pb) !=((ax ai.gK.eK oe).b6))=false) (J.of (((ax dS ma).wG) !=jM)))::az 175 [12,19] [] _::[]) ⟨ey.q (gv (bY Y6.fd)),ey.q (oM 0 O9 ch),ey.q hD,ey.q (gv jq),ey.q (gv (bY Ri.fd)),ey.q (gv (bY Q9.fd)),ey.q (oM 1 (GM.comp KR) Ec),ey.q hD,ey.q (fS λaD ar=>se (k:=oe) underlying29 wZ (ah (aD _ _ I)) (ah (aD _ _ I)) (cN Nu)),ey.q (fS λaD ar=>AX GX ak1.fd (ah (aD _ _ I)) I I),ey.q (gv (kE ch)),ey.q (JV wW),ey.q hD,?_,?_,?_,?_,?_,?_,?_,ey.q (fS λaD ar=>(tp (ah (aD _ _ I)) (ah (aD _ _ I)) (λh=>h)).qe (dt xe)),trivial⟩ λgf=>?_
        ·intro hd E' L' aD ar bZ;refine ae.g (λhb=>bY ak2.fd (ah (aD _ _ I))) I I (aD _ _ I) I I (ae.nil ?_);exact al.fin (cJ []) I I
        ·intro hd E' L' aD ar bZ;refine ae.g (λhb=>hv (i:=0) ((aP.id jD).comp VI) (r:=(ax dS ma).wG) ch (ck (aD _ _ I) hb) (ar 0 _ I I) I I) I I (aD _ _ I) I I (ae.nil ?_);exact al.fin (cJ []) I I
        ·intro hd E' L' aD ar bZ;refine ae.g (λhb=>cY (ah (aD _ _ I))) I I (aD _ _ I) I I (ae.nil ?_);exact al.fin (cJ []) I I
        ·intro hd E' L' aD ar bZ;refine ae.g (λhb=>bY Y6.fd (ah (aD _ _ I))) I I (aD _ _ I) I I (ae.nil ?_);exact al.fin (cJ []) I I
        ·intro hd E' L' aD ar bZ;refine ae.g (λhb=>hv (i:=0) ((aP.id jD).comp O9) (r:=(ax dS ma).pb) ch (ck (aD _ _ I) hb) (ar 0 _ I I) I I) I I (aD _ _ I) I I (ae.nil ?_);exact al.fin (cJ []) I I
        ·intro hd E' L' aD ar bZ;refine ae.g (λhb=>bj.MQ (z:=(ai:cW)) 1 170 (aD _ _ I) (Nt hb) (ar 1 _ I I) wB (ja abE (V7 (fi w0 hb)) ⟨ah I,ck (aD _ _ I) hb,trivial⟩)) I I (aD _ _ I) I I (ae.nil ?_);exact al.fin (cJ []) I I
        ·intro hd E' L' aD ar bZ;refine ae.g (λhb=>wW (ck (aD _ _ I) hb) (ck (aD _ _ I) hb)) I I (aD _ _ I) I I (ae.nil ?_);exact al.fin (cJ []) I I
        refine al.df (L2:=(aI b4 (ax dS ma:jD)::aI e6 ai::a1 cA.2)) I (eO (al.next ?_));refine j8 h (λh=>?_) λh=>?_
        ·refine b3 (dc (ca (ay.ret ?_)));refine al.j6 (al.ret ?_);cases h;exact gq () 1
        refine ay.skip (al.ml (al.next (ay.fc (dO jI ?_))));refine cD (ae.nil ?_);cases h;exact hA () 1
       refine ay.exit (al.exit ?_);cases h;exact gq () 0
      rcases eW with eW|eW
      ·simp only[Sum.elim_inl]at h;refine al.k5 (al.next (b3 (dc (ca (ay.ret ?_)))));exact al.bt 0 I (al.eC (⟨⟨(true,cA.2),h⟩,()⟩: {r // _}×_) (.cons_cons _ (.refl _)) I I (dn I))
      simp only[Sum.elim_inr]at h;exact al.j6 (al.ret (al.bt 0 I (al.eC (⟨⟨(false,cA.2),h⟩,()⟩: {r // _}×_) (.cons_cons _ (.refl _)) I I (dn I))))
     simp only[Sum.elim_inr]at h;exact al.j6 (al.ret (al.bt 0 I (al.eC (⟨⟨(false,cA.2),h⟩,()⟩: {r // _}×_) (.cons_cons _ (.refl _)) I I (dn I))))
    simp only[Sum.elim_inr]at h;exact al.j6 (al.ret (al.bt 0 I (al.eC (⟨⟨(false,cA.2),h⟩,()⟩: {r // _}×_) (.cons_cons _ (.refl _)) I I (dn I))))
   simp only[Sum.elim_inr]at h;exact al.j6 (al.ret (al.bt 0 I (al.eC (⟨⟨(false,av.2.2.2),h⟩,()⟩: {r // _}×_) (.cons_cons _ (.refl _)) I I (dn I))))
  refine dp.jy (γ:=Unit) [0,1,4] 0 1 1 (jc 17 65535) (λRj=>[(25,J.of (!aF)),(32,J.cond ((!aF)=false) (J.of (bg !=ai.ik)))]) (λRj=>[]) (λRj=>a1 ao.2) (λRj=>?_) (λanm=>?_)
  ·refine dp.s1 16 ?_
   ·refine Ey ?_;exact ae.fY (anl ())
  refine dp.jy (γ:=Unit) [0,1,4] 0 1 2 (jc 17 32767) (λRk=>[(25,J.of (!aF)),(27,J.cond ((!aF)=false) (J.of bg)),(31,J.cond ((!aF)=false) (J.of ai.ik))]) (λRk=>[]) (λRk=>a1 ao.2) (λRk=>?_) (λaaj=>?_)
  ·refine dp.s1 15 ?_
   ·refine Bo wW ?_;exact ae.fY (anm ())
  refine dp.jy (γ:=Unit) [0,1,4] 0 1 3 (jc 17 31743) (λRl=>[(25,J.of (!aF)),(26,J.cond ((!aF)=false) (J.of ab)),(31,J.cond ((!aF)=false) (J.of ai.ik))]) (λRl=>[]) (λRl=>a1 ao.2) (λRl=>?_) (λaak=>?_)
  ·refine dp.s1 10 ?_
   ·exact ae.xy (λhb=>dx.fR 1 I Ei (CD (fi dR hb)) ⟨ck I hb,trivial⟩) I I I I I (ae.fY (aaj ()))
  refine dp.jy (γ:=Unit) [0,1,4] 0 1 3 (jc 17 16383) (λRm=>[(25,J.of (!aF)),(27,J.cond ((!aF)=false) (J.of bg)),(30,J.cond ((!aF)=false) (J.eq (.pointer (some ⟨e6,0+11,none⟩))))]) (λRm=>[]) (λRm=>a1 ao.2) (λRm=>?_) (λaal=>?_)
  ·refine dp.s1 14 ?_
   ·refine iX (λhb=>hv (i:=0) ((aP.id cW).comp GN) (r:=ai.ik) ch (ck I hb) I I I) ?_;exact ae.fY (aaj ())
  refine dp.jy (γ:=Unit) [0,1,4] 0 1 4 (jc 17 31231) (λRn=>[(25,J.of (!aF)),(31,J.cond ((!aF)=false) (J.of ai.ik))]) (λRn=>[]) (λRn=>a1 ao.2) (λRn=>?_) (λann=>?_)
  ·refine dp.s1 9 ?_
   ·refine hN cY ?_;exact ae.fY (aak ())
  refine dp.jy (γ:=Unit) [0,1,4] 0 1 4 (jc 17 15359) (λRo=>[(25,J.of (!aF)),(26,J.cond ((!aF)=false) (J.of ab)),(30,J.cond ((!aF)=false) (J.eq (.pointer (some ⟨e6,0+11,none⟩))))]) (λRo=>[]) (λRo=>a1 ao.2) (λRo=>?_) (λaam=>?_)
  ·refine dp.s2 10 14 ?_ ?_
   ·exact ae.xy (λhb=>dx.fR 1 I Ei (CD (fi dR hb)) ⟨ck I hb,trivial⟩) I I I I I (ae.fY (aal ()))
   refine iX (λhb=>hv (i:=0) ((aP.id cW).comp GN) (r:=ai.ik) ch (ck I hb) I I I) ?_;exact ae.fY (aak ())
  refine dp.jy (γ:=Unit) [0,1,4] 0 1 4 (jc 17 8191) (λRp=>[(25,J.of (!aF)),(27,J.cond ((!aF)=false) (J.of bg)),(29,J.cond ((!aF)=false) (J.cr e6))]) (λRp=>[]) (λRp=>a1 ao.2) (λRp=>?_) (λaan=>?_)
  ·refine dp.s1 13 ?_
   ·refine hN (bY Rq.fd) ?_;exact ae.fY (aal ())
  refine dp.jy (γ:=Unit) [0,1,4] 0 1 5 (jc 17 14847) (λRr=>[(25,J.of (!aF)),(30,J.cond ((!aF)=false) (J.eq (.pointer (some ⟨e6,0+11,none⟩))))]) (λRr=>[]) (λRr=>a1 ao.2) (λRr=>?_) (λano=>?_)
  ·refine dp.s2 9 14 ?_ ?_
   ·refine hN cY ?_;exact ae.fY (aam ())
   refine iX (λhb=>hv (i:=0) ((aP.id cW).comp GN) (r:=ai.ik) ch (ck I hb) I I I) ?_;exact ae.fY (ann ())
  refine dp.jy (γ:=Unit) [0,1,4] 0 1 5 (jc 17 7167) (λRs=>[(25,J.of (!aF)),(26,J.cond ((!aF)=false) (J.of ab)),(29,J.cond ((!aF)=false) (J.cr e6))]) (λRs=>[]) (λRs=>a1 ao.2) (λRs=>?_) (λaao=>?_)
  ·refine dp.s2 10 13 ?_ ?_
   ·exact ae.xy (λhb=>dx.fR 1 I Ei (CD (fi dR hb)) ⟨ck I hb,trivial⟩) I I I I I (ae.fY (aan ()))
   refine hN (bY Rq.fd) ?_;exact ae.fY (aam ())
  refine dp.jy (γ:=Unit) [0,1,4] 0 1 5 (jc 17 4095) (λR2=>[(25,J.of (!aF)),(27,J.cond ((!aF)=false) (J.of bg)),(28,J.cond ((!aF)=false) (J.cr e6))]) (λR2=>[]) (λR2=>a1 ao.2) (λR2=>?_) (λabG=>?_)
  ·refine dp.s1 12 ?_
   ·refine hN jq ?_;exact ae.fY (aan ())
  refine dp.jy (γ:=Unit) [0,1,4] 0 1 6 (jc 17 6655) (λR3=>[(25,J.of (!aF)),(29,J.cond ((!aF)=false) (J.cr e6))]) (λR3=>[]) (λR3=>a1 ao.2) (λR3=>?_) (λapH=>?_)
  ·refine dp.s2 9 13 ?_ ?_
   ·refine hN cY ?_;exact ae.fY (aao ())
   refine hN (bY Rq.fd) ?_;exact ae.fY (ano ())
  refine dp.jy (γ:=Unit) [0,1,4] 0 1 6 (jc 17 3071) (λR4=>[(25,J.of (!aF)),(26,J.cond ((!aF)=false) (J.of ab)),(28,J.cond ((!aF)=false) (J.cr e6))]) (λR4=>[]) (λR4=>a1 ao.2) (λR4=>?_) (λabH=>?_)
  ·refine dp.s2 10 12 ?_ ?_
   ·exact ae.xy (λhb=>dx.fR 1 I Ei (CD (fi dR hb)) ⟨ck I hb,trivial⟩) I I I I I (ae.fY (abG ()))
   refine hN jq ?_;exact ae.fY (aao ())
  refine dp.jy (γ:=Unit) [0,1,4] 0 1 6 (jc 17 2047) (λR5=>[(25,J.of (!aF)),(27,J.cond ((!aF)=false) (J.of bg))]) (λR5=>[]) (λR5=>a1 ao.2) (λR5=>?_) (λapI=>?_)
  ·refine dp.s1 11 ?_
   ·refine hN cY ?_;exact ae.fY (abG ())
  refine dp.jy (γ:=Unit) [0,1,4] 0 1 7 (jc 17 2559) (λR6=>[(25,J.of (!aF)),(28,J.cond ((!aF)=false) (J.cr e6))]) (λR6=>[]) (λR6=>a1 ao.2) (λR6=>?_) (λapJ=>?_)
  ·refine dp.s2 9 12 ?_ ?_
   ·refine hN cY ?_;exact ae.fY (abH ())
   refine hN jq ?_;exact ae.fY (apH ())
  refine dp.jy (γ:=Unit) [0,1,4] 0 1 7 (jc 17 1023) (λR7=>[(25,J.of (!aF)),(26,J.cond ((!aF)=false) (J.of ab))]) (λR7=>[]) (λR7=>a1 ao.2) (λR7=>?_) (λapK=>?_)
  ·refine dp.s2 10 11 ?_ ?_
   ·exact ae.xy (λhb=>dx.fR 1 I Ei (CD (fi dR hb)) ⟨ck I hb,trivial⟩) I I I I I (ae.fY (apI ()))
   refine hN cY ?_;exact ae.fY (abH ())
  refine dp.jy (γ:=Unit) [0,1,4] 0 1 8 (jc 17 511) (λR8=>[(25,J.of (!aF))]) (λR8=>[]) (λR8=>a1 ao.2) (λR8=>?_) (λapL=>?_)
  ·refine dp.s2 9 11 ?_ ?_
   ·refine hN cY ?_;exact ae.fY (apK ())
   refine hN cY ?_;exact ae.fY (apJ ())
  refine dp.jy (γ:=Unit) [0,1,4] 0 1 9 (jc 17 255) (λR9=>[(24,J.of (!aF))]) (λR9=>[]) (λR9=>a1 ao.2) (λR9=>?_) (λapM=>?_)
  ·refine dp.s1 8 ?_
   ·refine cD ?_;exact ae.fY (apL ())
  refine dp.jy (γ:=Unit) [0,1,4] 0 1 10 (jc 17 127) (λSa=>[(23,J.of aF)]) (λSa=>[]) (λSa=>a1 ao.2) (λSa=>?_) (λapN=>?_)
  ·refine dp.s1 7 ?_
   ·refine dA oC ?_;exact ae.fY (apM ())
  refine dp.s1 6 ?_;refine ss Nv.cf (Nv.m _ _ _ b2) ?_;exact ae.fY (apN ())
 refine dp.jy (γ:=Unit) [0,1,4] 0 1 12 (jc 17 61) (λRt=>[(17,J.of ab),(22,J.of ai.bN)]) (λRt=>[]) (λRt=>a1 hp) (λRt=>?_) (λaap=>?_)
 ·refine dp.s1 1 ?_
  ·refine ae.en 1 0 I IJ (GF oI) I I ⟨ah I,trivial⟩ I λ⟨⟨ao,ha⟩,_⟩=>ae.dy ?_;exact ae.fY (aah ⟨ao,ha⟩)
 refine dp.jy (γ:=Subtype lQ) [0,1,4] 0 1 12 (jc 17 31) (λDP=>[(18,J.of DP.1.1),(21,J.eq (.pointer (some ⟨e6,0+10,none⟩)))]) (λDP=>[]) (λDP=>a1 DP.1.2) (λDP=>?_) (λaaq=>?_)
 ·refine dp.s1 5 ?_
  ·refine mW 0 wj pk ?_;exact ae.fY (aah DP)
 refine dp.jy (γ:=Unit) [0,1,4] 0 1 13 (jc 17 60) (λRu=>[(22,J.of ai.bN)]) (λRu=>[]) (λRu=>a1 hp) (λRu=>?_) (λanp=>?_)
 ·refine dp.s1 0 ?_
  ·refine cD ?_;exact ae.fY (aap ())
 refine dp.jy (γ:=Unit) [0,1,4] 0 1 13 (jc 17 29) (λRv=>[(17,J.of ab),(21,J.eq (.pointer (some ⟨e6,0+10,none⟩)))]) (λRv=>[]) (λRv=>a1 hp) (λRv=>?_) (λaar=>?_)
 ·refine dp.s2 1 5 ?_ ?_
  ·refine ae.en 1 0 I IJ (GF oI) I I ⟨ah I,trivial⟩ I λ⟨⟨ao,ha⟩,_⟩=>ae.dy ?_;exact ae.fY (aaq ⟨ao,ha⟩)
  refine mW 0 wj pk ?_;exact ae.fY (aap ())
 refine dp.jy (γ:=Subtype lQ) [0,1,4] 0 1 13 (jc 17 15) (λD4=>[(18,J.of D4.1.1),(20,J.cr e6)]) (λD4=>[]) (λD4=>a1 D4.1.2) (λD4=>?_) (λabI=>?_)
 ·refine dp.s1 4 ?_
  ·refine dA (bY Ic.fd) ?_;exact ae.fY (aaq D4)
 refine dp.jy (γ:=Unit) [0,1,4] 0 1 14 (jc 17 28) (λSb=>[(21,J.eq (.pointer (some ⟨e6,0+10,none⟩)))]) (λSb=>[]) (λSb=>a1 hp) (λSb=>?_) (λapO=>?_)
 ·refine dp.s2 0 5 ?_ ?_
  ·refine cD ?_;exact ae.fY (aar ())
  refine mW 0 wj pk ?_;exact ae.fY (anp ())
 refine dp.jy (γ:=Unit) [0,1,4] 0 1 14 (jc 17 13) (λSc=>[(17,J.of ab),(20,J.cr e6)]) (λSc=>[]) (λSc=>a1 hp) (λSc=>?_) (λabJ=>?_)
 ·refine dp.s2 1 4 ?_ ?_
  ·refine ae.en 1 0 I IJ (GF oI) I I ⟨ah I,trivial⟩ I λ⟨⟨ao,ha⟩,_⟩=>ae.dy ?_;exact ae.fY (abI ⟨ao,ha⟩)
  refine dA (bY Ic.fd) ?_;exact ae.fY (aar ())
 refine dp.jy (γ:=Subtype lQ) [0,1,4] 0 1 14 (jc 17 7) (λD5=>[(18,J.of D5.1.1),(19,J.cr e6)]) (λD5=>[]) (λD5=>a1 D5.1.2) (λD5=>?_) (λabK=>?_)
 ·refine dp.s1 3 ?_
  ·refine dA jq ?_;exact ae.fY (abI D5)
 refine dp.jy (γ:=Unit) [0,1,4] 0 1 15 (jc 17 12) (λSd=>[(20,J.cr e6)]) (λSd=>[]) (λSd=>a1 hp) (λSd=>?_) (λapP=>?_)
 ·refine dp.s2 0 4 ?_ ?_
  ·refine cD ?_;exact ae.fY (abJ ())
  refine dA (bY Ic.fd) ?_;exact ae.fY (apO ())
 refine dp.jy (γ:=Unit) [0,1,4] 0 1 15 (jc 17 5) (λSe=>[(17,J.of ab),(19,J.cr e6)]) (λSe=>[]) (λSe=>a1 hp) (λSe=>?_) (λabL=>?_)
 ·refine dp.s2 1 3 ?_ ?_
  ·refine ae.en 1 0 I IJ (GF oI) I I ⟨ah I,trivial⟩ I λ⟨⟨ao,ha⟩,_⟩=>ae.dy ?_;exact ae.fY (abK ⟨ao,ha⟩)
  refine dA jq ?_;exact ae.fY (abJ ())
 refine dp.jy (γ:=Subtype lQ) [0,1,4] 0 1 15 (jc 17 3) (λD6=>[(18,J.of D6.1.1)]) (λD6=>[]) (λD6=>a1 D6.1.2) (λD6=>?_) (λapQ=>?_)
 ·refine dp.s1 2 ?_
  ·refine cD ?_;exact ae.fY (abK D6)
 refine dp.jy (γ:=Unit) [0,1,4] 0 1 16 (jc 17 4) (λSf=>[(19,J.cr e6)]) (λSf=>[]) (λSf=>a1 hp) (λSf=>?_) (λapR=>?_)
 ·refine dp.s2 0 3 ?_ ?_
  ·refine cD ?_;exact ae.fY (abL ())
  refine dA jq ?_;exact ae.fY (apP ())
 refine dp.jy (γ:=Unit) [0,1,4] 0 1 16 (jc 17 1) (λSg=>[(17,J.of ab)]) (λSg=>[]) (λSg=>a1 hp) (λSg=>?_) (λapS=>?_)
 ·refine dp.s2 1 2 ?_ ?_
  ·refine ae.en 1 0 I IJ (GF oI) I I ⟨ah I,trivial⟩ I λ⟨⟨ao,ha⟩,_⟩=>ae.dy ?_;exact ae.fY (apQ ⟨ao,ha⟩)
  refine cD ?_;exact ae.fY (abL ())
 refine dp.s2 0 2 ?_ ?_
 ·refine cD ?_;exact ae.fY (apS ())
 refine cD ?_;exact ae.fY (apR ())
def Pp{hp ab ai r}(h:xV hp ab ai=some r):hl prog 63 [J.of ab,J.of ai] hp (J.bW [J.of r.1,J.of r.2]) hp:=by
 unfold xV at h;refine bL.of func63 I ntmps63 I λW A=>?_;refine aO λbk bn=>?_;refine aA h λao bs h=>aA h λaF b2 h=>ei [0,1,3,4] ?_;refine ay.cf 2 (az 6 [] [] _::az 7 [] [] _::az 8 [1] [1] _::az 9 [0,2] [] (J.of ao)::az 10 [] [1] _::az 11 [3,4] [] (J.bW [J.of aF.1,J.of aF.2])::az 12 [5] [] _::az 13 [5] [] _::fz [6] [0] [0] (λhd=>aI bn aF.1)::az 5 [7] [] _::[]) (dK ?_ (dK ?_ hR)) (λcO=>?_)
 ·intro hd E' L' aD ar bZ;exact ae.eH (dx.fR 2 (bZ.trans I) Eg (CK bs) ⟨ah (aD _ _ I),ah (aD _ _ I),trivial⟩) I I I (ae.nil (al.fin (cJ []) I I))
 ·intro hd E' L' aD ar bZ;exact ae.eH (dx.fR 2 (bZ.trans I) SN (Po b2) ⟨ah (aD _ _ I),ah (aD _ _ I),trivial⟩) I I I (ae.nil (al.fin (cJ []) I I))
 refine al.df (L2:=(aI bn aF.1::aI bk ai::a1 hp)) I (eO ?_);exact go
def aeZ{hp ab ai Q}(h:Gk hp ab ai Q):bL prog 103 [J.of ab,J.of ai] ([]++a1 hp) (δ:= {r:aH×Bool×(aL Cell) // Q r}×Unit) (λd=>J.bW [J.of d.1.1.1,J.of d.1.1.2.1]) (λd=>[]++a1 d.1.1.2.2):=by
 unfold Gk at h;refine bL.of func103 I ntmps103 I λW A=>?_;refine aO λbk bn=>?_;refine aj.bF h λao bs h=>ae.eH (dx.fR 2 I SN (Po bs) ⟨ah I,ah I,trivial⟩) I I I (aO λb4=>?_);refine yU (γ:=Unit) h 3 [0,1,3,4,5,6,7,14] (λm1 g1=>[]) (λm1 g1=>[]) (λm1 g1=>a1 m1) (λm1 g1 h=>?_) (λhm ag h=>?_) (λhm ag h=>?_)
 ·refine aO ?_;exact al.ru (⟨⟨(ao.1,ao.2,m1),h⟩,()⟩: {r // _}×_) (fN 3) I I (nt (i:=1) dZ I I) (dn I)
 ·refine ay.seq (aj.bF h λbz dq h=>aj.bF h λc1 dv h=>ay.fy 5 ?_);refine ae.Eh 3 0 I (aer h) I I ⟨ah I,ah I,trivial⟩ I λ⟨⟨aF,h⟩,aw⟩=>?_;refine ae.dy (ca ?_);refine aj.bF h λc2 eV h=>ay.fy 6 ?_;exact aj.bF h λcE fl h=>aj.bF h λeE lb h=>aj.bF h λbQ hL h=>ae.MF (k':=Cell.mn (ju eE ao.1.b0)) 3 I underlying193 Bm (ln (ah I) fl) (ah I) (uh lb) I I I (dt hL) (ae.nil (ed 0 (hm bQ () h)))
 exact ay.skip (ed 0 (hm hp () h))
def ae0{hp ab ai r}(h:Gl hp ab ai=some r):hl prog 120 [J.of ab,J.of ai] hp (J.bW [J.of r.1,J.of r.2]) hp:=by
 unfold Gl at h;refine bL.of func120 I ntmps120 I λW A=>?_;refine aO (λbk bn h=>?_);refine aA h λav an h=>tw (σ:=Int×(Vector aN 4)) (ε:=(Int×Bool×(Vector aN 4))) (γ:=Unit) (δ:=Unit) an 2 [0,1,3,4,5,10] (λs1 g1=>[(12,J.of s1.1)]) (λs1 g1=>[(1,aI bk s1.2)]) (λs1 g1=>a1 hp) (λaw=>Exit.exit 0) (λaw g1=>[(12,J.of aw.1),(13,J.of aw.2.1)]) (λaw g1=>[(1,aI bk aw.2.2)]) (λaw g1=>a1 hp) () (λs1 r h g1=>?_) (λg1=>?_)
 ·refine aO (λbz dq c1 dv h=>?_);refine aA h λm1 bS h=>qL (γ:=Unit) 2 [0,1,3,4,5,6,10,12,13,20] (λg2=>[]) (λg2=>[(1,aI bk m1)]) (λg2=>a1 hp) (λg2=>?_) (λhm ag=>?_) (λhm ag=>?_)
  ·exact go
  ·have h:=fu ag bS;exact go
  have h:=fv ag bS;exact go
 refine al.k5 (al.next (ay.seq (aA h λcE fl h=>aA h λc2 eV h=>aA h λao bs h=>ei [0,1,3,4,5,10,12,13] ?_)));refine ay.cf 2 (az 26 [] [] _::az 27 [0] [] _::az 28 [1] [] _::az 29 [2] [] _::az 30 [] [1] _::az 31 [3,4] [] (J.bW [J.of ao.1,J.of ao.2])::az 25 [5] [] _::az 32 [6] [] _::az 33 [6] [] _::az 7 [7] [] _::az 8 [8] [] _::[]) (dK ?_ hR) (λcO=>?_)
 ·intro hd E' L' aD ar bZ;refine ae.eH (dx.Eh 2 (bZ.trans I) (aes bs) ⟨ah (aD _ _ I),ah (aD _ _ I),trivial⟩) I I I (ae.nil ?_);exact al.fin (cJ []) I I
 refine al.df (L2:=(aI bn (default:aH)::aI bk av.2.2::a1 hp)) I (eO ?_);refine aO ?_;exact aA h λaF b2 h=>ae.eH (dx.fR 2 I aag (VU b2) ⟨ah I,ah I,ah I,trivial⟩) I I I go
def VO{hp ab ai aT Q}(h:CH hp ab ai aT Q):bL prog 62 [J.of ab,J.of ai,J.of aT] ([]++a1 hp) (δ:= {r:Int×Int×(aL Cell) // Q r}×Unit) (λd=>J.bW [J.of d.1.1.1,J.of d.1.1.2.1]) (λd=>[]++a1 d.1.1.2.2):=by
 unfold CH at h;refine bL.of func62 I ntmps62 I λW A=>?_;refine aO λbk=>?_;refine aj.bF h λao bs h=>ae.eH (dx.fR 1 I Eg (CK bs) ⟨ah I,ah I,trivial⟩) I I I (go2 (λh=>?_) (λh=>?_))
 ·exact al.ru (⟨⟨(0,6,hp),h⟩,()⟩: {r // _}×_) (fN 1) I I (dn I) (dn I)
 refine aj.bF h λaF b2 h=>ae.eH (dx.fR 1 I SN (Po b2) ⟨ah I,ah I,trivial⟩) I I I (go2 (λbn h=>?_) (λbn h=>?_))
 ·exact al.ru (⟨⟨(0,17,hp),h⟩,()⟩: {r // _}×_) (fN 2) I I (dn I) (dn I)
 refine aj.bF h λbg dR h=>aj.bF h λbw e5 h=>ei [0,1,2,4,6,7,8,9,10,12,13,14,15,16,17,18,19,20,21,22,23,24] ?_;refine ay.cf 2 (az 25 [] [] _::az 26 [0] [] (J.of bg)::az 27 [] [] _::az 28 [] [] _::az 29 [3] [1] _::az 30 [2,4] [] (J.of bw)::az 31 [1,5] [] _::[]) (dK ?_ (dK ?_ hR)) (λcO=>?_)
 ·intro hd E' L' aD ar bZ;exact ae.eH (dx.fR 2 (bZ.trans I) apT (afP dR) ⟨ah (aD _ _ I),trivial⟩) I I I (ae.nil (al.fin (cJ []) I I))
 ·intro hd E' L' aD ar bZ;exact ae.eH (dx.fR 2 (bZ.trans I) anq (afB e5) ⟨ah (aD _ _ I),ah (aD _ _ I),trivial⟩) I I I (ae.nil (al.fin (cJ []) I I))
 refine al.df (L2:=(aI bn aF.1::aI bk ai::a1 hp)) I (eO ?_);refine go2 (λh=>?_) (λbz dq c1 dv bp ez h=>?_)
 ·exact al.ru (⟨⟨(0,18,hp),h⟩,()⟩: {r // _}×_) (fN 2) I I (dn I) (dn I)
 refine ae.en 2 0 I Sh (Px h) I I ⟨ah I,ah I,trivial⟩ I λ⟨⟨cd,h⟩,aw⟩=>ae.dy ?_;refine aO λc2 eV h=>?_;refine aj.bF h λbQ hL h=>ae.qz (k':=Cell.rF ({c2 with oA:=bm (c2.oA+1)}:lG)) 2 I ((aP.id lG).comp KS) (v:=(bm (c2.oA+1):Int)) ch (ah I) (ah I) (wN eV) I I I I (dt hL) (aO ?_);exact al.ru (⟨⟨(c1.oA,0,bQ),h⟩,()⟩: {r // _}×_) (fN 2) I I (dn I) (dn I)
def Gm{hp ab ai Q}(h:ve hp ab ai Q):bL prog 65 [J.of ab,J.of ai] ([]++a1 hp) (δ:= {r:aH×Int×(aL Cell) // Q r}×Unit) (λd=>J.bW [J.of d.1.1.1,J.of d.1.1.2.1]) (λd=>[]++a1 d.1.1.2.2):=by
 unfold ve at h;refine bL.of func65 I ntmps65 I λW A=>?_;refine aO λbk bn=>?_;refine aj.bF h λao bs h=>ae.eH (dx.fR 2 I Eg (CK bs) ⟨ah I,ah I,trivial⟩) I I I (go2 (λh=>?_) (λh=>?_))
 ·exact al.ru (⟨⟨((default:aH),6,hp),h⟩,()⟩: {r // _}×_) (fN 2) I I (nt (i:=0) dZ I I) (dn I)
 refine ae.en 2 0 I anr (aeZ h) I I ⟨ah I,ah I,trivial⟩ I λ⟨⟨aF,h⟩,aw⟩=>?_;refine ae.dy ?_;refine go2 (λb4 h=>?_) (λb4 h=>?_)
 ·exact al.ru (⟨⟨((default:aH),16,aF.2.2),h⟩,()⟩: {r // _}×_) (fN 3) I I (nt (i:=1) dZ I I) (dn I)
 exact al.ru (⟨⟨(aF.1,0,aF.2.2),h⟩,()⟩: {r // _}×_) (fN 3) I I (nt (i:=1) dZ I I) (dn I)
def ae1{hp ab ai aT r}(h:Gn hp ab ai aT=some r):hl prog 87 [J.of ab,J.of ai,J.of aT] hp (J.bW [J.of r.1,J.of r.2]) hp:=by
 unfold Gn at h;refine bL.of func87 I ntmps87 I λW A=>?_;refine aO λbk bn=>?_;refine aA h λao bs h=>aA h λaF b2 h=>ei [0,1,2,5,6] ?_;refine ay.cf 2 (az 8 [] [] _::az 9 [] [] _::az 10 [0,1] [] (J.of ao)::az 11 [] [1] _::az 12 [2,3] [] (J.bW [J.of aF.1,J.of aF.2])::az 13 [4] [] _::az 14 [4] [] _::fz [5] [0] [0] (λhd=>aI bn aF.1)::az 7 [6] [] _::[]) (dK ?_ (dK ?_ hR)) (λcO=>?_)
 ·intro hd E' L' aD ar bZ;exact ae.eH (dx.fR 2 (bZ.trans I) Eg (CK bs) ⟨ah (aD _ _ I),ah (aD _ _ I),trivial⟩) I I I (ae.nil (al.fin (cJ []) I I))
 ·intro hd E' L' aD ar bZ;exact ae.eH (dx.fR 2 (bZ.trans I) ans (ae0 b2) ⟨ah (aD _ _ I),ah (aD _ _ I),trivial⟩) I I I (ae.nil (al.fin (cJ []) I I))
 refine al.df (L2:=(aI bn aF.1::aI bk aT::a1 hp)) I (eO ?_);exact go
def ae2{hp ab ai r}(h:Gp hp ab ai=some r):hl prog 55 [J.of ab,J.of ai] hp (J.bW [J.of r.1,J.of r.2]) hp:=by
 unfold Gp at h;refine bL.of func55 I ntmps55 I λW A=>?_;refine aO λbk bn=>?_;refine aA h λao bs h=>aA h λaF b2 h=>ei [0,1,3,4] ?_;refine ay.cf 2 (az 6 [] [] _::az 7 [0] [] (J.of ao)::az 8 [] [1] _::az 9 [1,2] [] (J.bW [J.of aF.1,J.of aF.2])::az 10 [3] [] _::az 11 [3] [] _::fz [4] [0] [0] (λhd=>aI bn aF.1)::az 5 [5] [] _::[]) (dK ?_ (dK ?_ hR)) (λcO=>?_)
 ·intro hd E' L' aD ar bZ;exact ae.eH (dx.fR 2 (bZ.trans I) IC (FE bs) ⟨ah (aD _ _ I),trivial⟩) I I I (ae.nil (al.fin (cJ []) I I))
 ·intro hd E' L' aD ar bZ;exact ae.eH (dx.fR 2 (bZ.trans I) SO (Pp b2) ⟨ah (aD _ _ I),ah (aD _ _ I),trivial⟩) I I I (ae.nil (al.fin (cJ []) I I))
 refine al.df (L2:=(aI bn aF.1::aI bk ai::a1 hp)) I (eO ?_);exact go
def aeJ{hp ab ai Q}(h:F7 hp ab ai Q):lU prog 81 [J.of ab,J.of ai] hp Q:=by
 unfold F7 at h;refine bL.of func81 I ntmps81 I λW A=>?_;refine aO λbk=>?_;refine aj.bF h λaF b2 h=>ei [0,1,3,4] ?_;refine ay.ads 6 1 mixed (az 5 [] [] _::az 6 [] [] _::az 7 [1] [] _::az 8 [2] [0] _::az 9 [0,3] [] (J.of aF)::az 10 [] [0] _::[]) ⟨ey.q hD,ey.q (gv (bY wP.fd)),ey.q (gv (bY DN.fd)),ey.q (oM 0 (tS.comp xR) ch),?_,ey.q (xf 0 dZ),trivial⟩ λcO=>?_
 ·intro hd E' L' aD ar bZ;exact ae.eH (dx.fR 1 (bZ.trans I) Eg (CK b2) ⟨ah (aD _ _ I),ah (aD _ _ I),trivial⟩) I I I (ae.nil (al.fin (cJ []) I I))
 refine ae.df (L2:=(aI bk ai::a1 hp)) I (acE ?_);refine ae.en 1 0 I Sh (Px h) I I ⟨ah I,ah I,trivial⟩ I λ⟨⟨bg,h⟩,aw⟩=>ae.dy ?_;refine dc (ca (ay.ret ?_));exact al.eC (⟨⟨(bg.1,bg.2),h⟩,()⟩: {r // _}×_) (fN 1) I I (dn I)
def aet{hp ab ai Q}(h:xN hp ab ai Q):lU prog 36 [J.of ab,J.of ai] hp Q:=by
 unfold xN at h;refine bL.of func36 I ntmps36 I λW A=>?_;refine go2 (λbk bn h=>?_) (λbk bn h=>?_)
 ·exact al.eC (⟨⟨(6,hp),h⟩,()⟩: {r // _}×_) (fN 2) I I (dn I)
 refine aj.bF h λho rH h=>aj.bF h λeE lb h=>?_;obtain⟨lQ,oI,tr⟩:=aj.ex h;refine ei [2,3,4] ?_;refine ay.xi mixed [5,9,10,11] [(0,10,J.of ab),(1,11,J.cr ho),(2,12,J.nd ho Fy),(3,13,J.of eE.1.mO),(4,14,J.of ai)] ?_;refine gT.cut (γ:=(Subtype lQ)×Nat) (pe':=[5,9]) (λg=>[(6,9,J.bW [J.of g.1.1.1,J.of g.1.1.2.1]),(7,16,J.of g.1.1.1),(8,17,J.of g.1.1.2.1)]) (λg=>[(15,J.bW [J.of g.1.1.1,J.of g.1.1.2.1]),(5,J.cr g.2),(2,J.cr bk),(3,J.cr bn),(4,J.of (0:Int))]) (λg=>(aI g.2 (default:aH)::aI bn ai::aI bk ab::a1 g.1.1.2.2)) (λ⟨⟨ao,ha⟩,b4⟩=>?_) λyF=>?_
 ·refine gT.md [4,3,2,1,0] [6,7,8] [10] ⟨?_,trivial⟩
  ·refine im.of (ks:=[]) (λx:Unit=>[]) (λx=>[]) (λx=>(aI b4 ao.1::aI bn ai::aI bk ab::a1 ao.2.2)) (λ_=>?_) (λo a6 dO jh aD k=>?_)
   ·have h:=tr ao ha;refine gT.md [7,6,4,3,2,1,0] [8] [11] ⟨im.tail [10,9,8,7,6,5,4,3,2,1,0] ?_,trivial⟩;refine ae.df (L2:=(aI b4 ao.1::aI bn ai::aI bk ab::a1 ao.2.2)) I (ae.le (E':=[(2,J.cr bk),(3,J.cr bn),(4,J.of (0:Int)),(5,J.cr b4),(17,J.of ao.2.1)]) .all ?_);refine go2 (λh=>?_) (λh=>?_)
    ·exact al.eC (⟨⟨(ao.2.1,ao.2.2),h⟩,()⟩: {r // _}×_) (fN 3) I I (dn I)
    refine aj.bF h λmb yT h=>aj.bF h λiH tx h=>ay.fy 6 ?_;refine aj.bF h λaF b2 h=>ae.en 3 0 I SP (O8 b2) I I ⟨ah I,ah I,trivial⟩ I λaw=>ae.dy (gW ?_);refine aj.bF h λkO vM h=>ay.fy 6 ?_;refine aj.bF h λbg dR h=>ae.en 3 0 I abM (VL dR) I I ⟨ah I,ah I,trivial⟩ I λcH=>ae.dy ?_;refine aO ?_;refine ae.share (α:=Ref) 2 2 I I (ae.share (α:=aH) 0 5 I I (bA (Rw (Ij (f:=80) (τs:=[J.ptr ab,J.ptr ao.1]) ⟨ah I,ah I,trivial⟩) (λ_ _ _ h=>ak3 h)) ?_));refine aj.bF h λkb vN h=>aj.bF h λbw e5 h=>ae.pG (eD.obj 3 (λq:aE Nat×Nat=>Cell.oN bw q.1 q.2) I (rv vN) SQ (OJ e5) I (λ_=>rfl) ⟨j2 (ah I) yT,ah I,trivial⟩) I I I λeI=>?_;replace h:=aj.any_bind h eI;refine aj.bF h λbQ hL h=>ae.df (L2:=(⟨none,.dead⟩::aI bn ai::⟨none,.dead⟩::a1 bQ)) (by rw[<-dt hL];rfl) ?_;refine aO ?_;exact al.eC (⟨⟨(0,bQ),h⟩,()⟩: {r // _}×_) (fN 3) I I (dn I)
   cases a6;refine ae.store (i:=0) (aP.id aH) (v:=ao.1) (b':=ao.1) dZ (ah (aD I)) (ah (aD I)) I I I (ae.nil ?_);exact k ()
 refine gT.md [] [0,1,2,3,4] [5,9] ⟨?_,?_,trivial⟩
 ·refine im.of (ks:=[6,7,8]) (λx:Subtype lQ=>[(15,J.bW [J.of x.1.1,J.of x.1.2.1])]) (λx=>[(6,9,J.bW [J.of x.1.1,J.of x.1.2.1]),(7,16,J.of x.1.1),(8,17,J.of x.1.2.1)]) (λx=>(aI bn ai::aI bk ab::a1 x.1.2.2)) (λ⟨ao,ha⟩=>?_) (λo a6 dO jh aD k=>?_)
  ·refine gT.md [4,3,2,1,0] [6,7,8] [9] ⟨?_,trivial⟩
   ·refine im.to [] (λx:Nat=>[(5,J.cr x)]) (λx:Nat=>yF (⟨ao,ha⟩,x)) (λo a6 dO jh aD k=>?_);cases a6;refine jv kl λb4=>ae.nil ?_;exact k b4
  cases a6;refine ae.en 2 0 I IK (Gm oI) I I ⟨ah (aD I),ah (aD I),trivial⟩ I λ⟨⟨ao,ha⟩,_⟩=>?_;refine ae.dy (ae.nil ?_);exact k ⟨ao,ha⟩
 refine im.of (ks:=[]) (λx:Nat=>[(5,J.cr x)]) (λx=>[]) (λx=>(aI x (default:aH)::aI bn ai::aI bk ab::a1 hp)) (λb4=>?_) (λo a6 dO jh aD k=>?_)
 ·refine gT.md [] [0,1,2,3,4] [5] ⟨?_,trivial⟩
  ·refine im.to [6,7,8] (λx:Subtype lQ=>[(15,J.bW [J.of x.1.1,J.of x.1.2.1])]) (λx:Subtype lQ=>yF (x,b4)) (λo a6 dO jh aD k=>?_);cases a6;refine ae.en 3 0 I IK (Gm oI) I I ⟨ah (aD I),ah (aD I),trivial⟩ I λ⟨⟨ao,ha⟩,_⟩=>?_;refine ae.dy (ae.nil ?_);exact k ⟨ao,ha⟩
 cases a6;refine jv kl λb4=>ae.nil ?_;exact k b4
def aeu{hp ab ai aT r}(h:FU hp ab ai aT=some r):hl prog 53 [J.of ab,J.of ai,J.of aT] hp (J.bW [J.of r.1,J.of r.2]) hp:=by
 unfold FU at h;refine bL.of func53 I ntmps53 I λW A=>?_;refine aO λbk bn=>?_;refine aA h λao bs h=>aA h λaF b2 h=>ei [0,1,2,5,6] ?_;refine ay.cf 2 (az 8 [] [] _::az 9 [0] [] (J.of ao)::az 10 [] [] _::az 11 [] [1] _::az 12 [1,2,3] [] (J.bW [J.of aF.1,J.of aF.2])::az 13 [4] [] _::az 14 [4] [] _::fz [5] [0] [0] (λhd=>aI bn aF.1)::az 7 [6] [] _::[]) (dK ?_ (dK ?_ hR)) (λcO=>?_)
 ·intro hd E' L' aD ar bZ;exact ae.eH (dx.fR 2 (bZ.trans I) IC (FE bs) ⟨ah (aD _ _ I),trivial⟩) I I I (ae.nil (al.fin (cJ []) I I))
 ·intro hd E' L' aD ar bZ;exact ae.eH (dx.fR 2 (bZ.trans I) apU (ae1 b2) ⟨ah (aD _ _ I),ah (aD _ _ I),ah (aD _ _ I),trivial⟩) I I I (ae.nil (al.fin (cJ []) I I))
 refine al.df (L2:=(aI bn aF.1::aI bk aT::a1 hp)) I (eO ?_);exact go
def ad4{hp ab ai aT cR Q}(h:Fl hp ab ai aT cR Q):Bu prog 69 [J.ptr ab,J.ptr ai,J.ptr aT,J.ptr cR] hp Q:=by
 unfold Fl at h;refine bL.of func69 I ntmps69 I λW A=>ay.seq (aj.bF h λbz dq h=>aj.bF h λc1 dv h=>ay.fy 6 ?_);refine ae.en 0 0 I IK (Gm h) I I ⟨ah I,ah I,trivial⟩ I λ⟨⟨ao,h⟩,aw⟩=>?_;refine ae.dy (gW ?_);refine aj.bF h λc2 eV h=>ay.fy 5 ?_;refine aj.bF h λaF b2 h=>ae.en 0 0 I abN (VC b2) I I ⟨ah I,ah I,trivial⟩ I λcH=>ae.dy (gW ?_);refine aj.bF h λeE lb h=>ay.fy 6 ?_;refine aj.bF h λbg dR h=>ae.en 0 0 I SP (O8 dR) I I ⟨ah I,ah I,trivial⟩ I λeI=>ae.dy (ca ?_);refine aj.bF h λiH tx h=>ay.fy 5 ?_;refine aj.bF h λbw e5 h=>ae.en 0 0 I abM (VL e5) I I ⟨ah I,ah I,trivial⟩ I λhn=>ae.dy (ae.nil ?_);exact al.lv (al.ns (⟨⟨bw.2,h⟩,()⟩: {r // _}×_) (.refl _) I I)
def ad5{hp ab ai Q}(h:Cm hp ab ai Q):Bu prog 80 [J.ptr ab,J.ptr ai] hp Q:=by
 unfold Cm at h;refine bL.of func80 I ntmps80 I λW A=>ay.seq (aj.bF h λbz dq h=>aj.bF h λc1 dv h=>ay.fy 5 ?_);refine ae.en 0 0 I apV (aeJ h) I I ⟨ah I,ah I,trivial⟩ I λ⟨⟨ao,h⟩,aw⟩=>ae.dy (gW ?_);refine aj.bF h λc2 eV h=>ay.fy 6 ?_;refine aj.bF h λaF b2 h=>ae.en 0 0 I SR (Pw b2) I I ⟨ah I,ah I,trivial⟩ I λcH=>ae.dy (ca ?_);refine aj.bF h λeE lb h=>ay.fy 6 ?_;refine aj.bF h λbg dR h=>ae.en 0 0 I abO (VQ dR) I I ⟨ah I,ah I,trivial⟩ I λeI=>ae.dy (ae.nil ?_);exact al.lv (al.ns (⟨⟨bg.2,h⟩,()⟩: {r // _}×_) (.refl _) I I)
def agj{hp ab ai aT e6 ij r}(h:Hk hp ab ai aT=some r):bL prog 22 [J.of ab,J.cr e6,J.cr ij] ([aI e6 ai,aI ij aT]++a1 hp) (δ:=Unit) (λ_=>J.of r.1) (λ_=>[aI e6 ai,aI ij r.2]++a1 hp):=by
 unfold Hk at h;refine bL.of func22 I ntmps22 I λW A=>b3 (dc (gW (b3 ?_)));refine cD ?_;refine dA jq ?_;refine dA (bY Ic.fd) ?_;refine mW 0 wj pk ?_;refine dA (pg underlying43) ?_;refine cD (ca (ay.block ?_));refine aA h λav an h=>tw (σ:=Int×dM) (ε:=(Int×Bool×dM)⊕(Bool×Bool×Bool×Int×Bool×Bool×dM)) (γ:=Unit) (δ:=Unit) an 2 [0,1,2,6,19,20] (λs1 g1=>[(21,J.of s1.1)]) (λs1 g1=>[(1,aI ij s1.2)]) (λs1 g1=>a1 hp) (λaw=>Sum.elim (λaw=>Exit.exit 0) (λaw=>Exit.ret) aw) (λaw g1=>Sum.elim (λaw=>[(21,J.of aw.1),(22,J.of aw.2.1)]) (λaw=>[(11,J.of aw.1),(13,J.of aw.2.1),(15,J.of aw.2.2.1),(21,J.of aw.2.2.2.1),(22,J.of aw.2.2.2.2.1),(73,J.of aw.2.2.2.2.2.1)]) aw) (λaw g1=>Sum.elim (λaw=>[(1,aI ij aw.2.2)]) (λaw=>[(1,aI ij aw.2.2.2.2.2.2)]) aw) (λaw g1=>Sum.elim (λaw=>a1 hp) (λaw=>a1 hp) aw) () (λs1 r h g1=>?_) (λg1=>?_)
 ·refine b3 (dO pd (gW ?_));refine j8 h (λh=>?_) λh=>?_
  ·refine k9 (ay.seq (ay.block (b3 (aA h λaJ cT h=>yQ cT underlying43 dZ ?_))));refine dA (kE dZ) ?_;refine jv kl λbk=>?_;refine p3 0 dZ (gW ?_);refine aA h λao bs h=>aA h λaF b2 h=>ay.AZ 1 3 (ei [0,1,2,6,8,19,20,21,22,23,24] ?_);refine ay.Uh 4 mixed (az 25 [] [] _::az 26 [0] [0] _::az 27 [] [] _::⟨some 28,[2],[2],[2],λ_=>J.of ao.1,λhd _=>aI ij ao.2⟩::az 29 [1,3] [] _::⟨some 9,[],[3],[3],λhd=>J.cr ((hd 5 0).getD 0),λhd _=>aI ((hd 5 0).getD 0) (default:Vector aN 4)⟩::fz [4,5] [3] [3] (λhd=>aI ((hd 5 0).getD 0) aF)::[]) ⟨ey.q (gv (bY wP.fd)),ey.q (oM 0 tS oG),ey.q hD,?_,ey.q (fS λaD ar=>ja acs.cf (acs.m _ _ _ b2) ⟨ah (aD _ _ I),ah (aD _ _ I),trivial⟩),?_,?_,trivial⟩ λcO=>?_
   ·intro hd E' L' aD ar bZ;refine ae.bt 2 (ar 2 _ I I) (ae.lI (Lin:=[aI ij s1.2]) (Lr:=L'.eraseIdx 2) apW (afi bs) ⟨ah (aD _ _ I),trivial⟩ I λcH=>ae.nil (al.back 2 (ar 2 _ I I) ?_));exact al.fin (cJ []) I I
   ·intro hd E' L' aD ar bZ;refine jv RZ λbn=>ae.nil ?_;exact al.place 3 (ar 3 _ I I) (al.fin (cJ [some bn]) I I)
   ·intro hd E' L' aD ar bZ;refine ae.store (i:=3) (aP.id (Vector aN 4)) (v:=aF) (b':=aF) yv (ah (aD _ _ I)) (ah (aD _ _ I)) (ar 3 _ I I) I I (ae.nil ?_);exact al.fin (cJ []) I I
   refine al.df (L2:=(aI bk (ax ai.bN aJ:aH)::aI e6 ai::aI ij ao.2::aI ((cO 5 0).getD 0) aF::a1 hp)) I (eO ?_);refine al.bt 3 I (al.next (b3 (cD ?_)));refine dA (bY wP.fd) ?_;refine dA (bY DN.fd) ?_;refine mW 1 (tS.comp xR) ch ?_;refine nC 0 yv ?_;refine aA h λbg dR h=>ae.eH (dx.fR 4 I apX (aeu dR) ⟨ah I,ah I,ah I,trivial⟩) I I I (cD ?_);refine yX ?_;refine yX ?_;refine jv kl λb4=>?_;refine p3 0 dZ ?_;refine dc (h5 ?_);refine cD ?_;refine dA (bY wP.fd) ?_;refine dA (bY DN.fd) ?_;refine mW 2 (tS.comp xR) ch ?_;refine nC 1 yv ?_;refine aA h λbw e5 h=>ae.eH (dx.call [3] apY (aeY e5) ⟨ah I,ah I,ah I,trivial⟩ I ⟨rfl,trivial⟩ I) I I I (cD ?_);refine yX ?_;refine yX ?_;refine jv kl λdd=>?_;refine p3 0 dZ ?_;refine dc (h5 ?_);refine cD ?_;refine dA (bY wP.fd) ?_;refine mW 3 tS oG ?_;refine aA h λcd hB h=>ae.eH (dx.fR 6 I apZ (ae2 hB) ⟨ah I,ah I,trivial⟩) I I I (cD ?_);refine yX ?_;refine yX ?_;refine jv kl λlA=>?_;refine p3 0 dZ ?_;refine dc (h5 ?_);refine cD ?_;refine cD ?_;refine dO (MI underlying4) ?_;refine cD ?_;refine iX (λhb=>hv (i:=2) (aP.id aH) (r:=bg.1) dZ (ah I) I I I) ?_;refine iX (λhb=>hv (i:=1) (aP.id aH) (r:=bw.1) dZ (ah I) I I I) ?_;refine aA h λcj ih h=>iX (λhb=>ja abP (PD (fi ih hb)) ⟨ck I hb,ck I hb,trivial⟩) ?_;refine hN oC ?_;refine Ey ?_;refine cD ?_;refine hN cY ?_;refine hN oC ?_;refine Ey ?_;refine cD ?_;refine iX (λhb=>hv (i:=0) (aP.id aH) (r:=cd.1) dZ (ah I) I I I) ?_;refine iX (λhb=>hv (i:=4) (aP.id aH) (r:=(ax ai.bN aJ)) dZ (ah I) I I I) ?_;refine aA h λcm mr h=>iX (λhb=>ja abP (PD (fi mr hb)) ⟨ck I hb,ck I hb,trivial⟩) ?_;refine hN oC ?_;refine Ey (ca ?_);refine j8 h (λh=>?_) λh=>?_
   ·refine b3 (dc (ca (ay.ret ?_)));refine al.j6 (al.ret ?_);cases h;exact gq () 5
   refine ay.skip (al.ml (al.next (ay.fc (dO jI ?_))));refine cD (ae.nil ?_);cases h;exact hA () 5
  refine ay.exit (al.exit ?_);cases h;exact gq () 0
 rcases av with av|av
 ·simp only[Sum.elim_inl]at h;refine al.k5 (al.next (b3 (dc (ca (ay.ret ?_)))));refine al.bt 1 I (al.bt 1 I ?_);cases h;exact al.eC () (.cons_cons _ (.cons_cons _ (.refl _))) I I (dn I)
 simp only[Sum.elim_inr]at h;refine al.j6 (al.ret (al.bt 1 I (al.bt 1 I ?_)));cases h;exact al.eC () (.cons_cons _ (.cons_cons _ (.refl _))) I I (dn I)
def afm{ab ai aT bR r}(h:zT ab ai aT=some r):l7 prog 31 [J.cr bR,J.of ai,J.of aT] bR ab (J.of r.1) r.2:=by
 unfold zT at h;refine bL.of func31 I ntmps31 I λW A=>b3 (mq λbk=>?_);refine jv MY λbn=>gW ?_;refine aA h λao bs h=>aA h λaJ cT h=>ay.mU 1 (ei [0,1,2,4,6] ?_);refine ay.tJ mixed (az 13 [] [] _::az 14 [0] [1] _::az 15 [] [] _::az 16 [] [] _::az 17 [3] [1] _::az 18 [4] [] _::az 19 [2,5] [] _::az 20 [1,6] [] _::az 21 [7] [] _::⟨some 7,[],[3],[3],λhd=>J.cr ((hd 9 0).getD 0),λhd _=>aI ((hd 9 0).getD 0) (default:cy)⟩::fz [8,9] [3] [3] (λhd=>aI ((hd 9 0).getD 0) (ax ai.bK aJ:cy))::[]) ⟨gv (bY Q8.fd),oM 1 zN Bc,hD,gv (bY Q8.fd),oM 1 zN Bc,gv (pg underlying27),fS λaD ar=>ja acn.cf (acn.m _ _ _ bs) ⟨ah (aD _ _ I),ah (aD _ _ I),trivial⟩,fS λaD ar=>se (k:=aJ) underlying27 qG (ah (aD _ _ I)) (ah (aD _ _ I)) (cN cT),gv (kE qG),?_,?_,trivial⟩ λcO=>?_
 ·intro hd E' L' aD ar;refine jv vD λb4=>ae.nil ?_;exact al.place 3 (ar 3 _ I I) (al.fin (cJ [some b4]) I I)
 ·intro hd E' L' aD ar;refine ae.store (i:=3) (aP.id cy) (v:=(ax ai.bK aJ:cy)) (b':=(ax ai.bK aJ:cy)) qG (ah (aD _ _ I)) (ah (aD _ _ I)) (ar 3 _ I I) I I (ae.nil ?_);exact al.fin (cJ []) I I
 refine al.df (L2:=[aI bn (default:bl),aI bk ai,aI bR ab,aI ((cO 9 0).getD 0) (ax ai.bK aJ:cy)]) I (eO ?_);refine al.bt 3 I (al.next (b3 (dA (bY ak4.fd) ?_)));refine mW 0 xX ch ?_;refine bA (tZ (b:=({(default:bl)with bG:=(ax ai.bK aJ).b6}:bl)) [1,4] Xs I ap0 MY (.cons xR I (ah I) I (by rfl) (.nil))) ?_;refine ae.own (α:=cG) 108 (ae.own (α:=aN) 106 (ae.sc (z:=(default:bl)) [1,4] Xs MY I λdd=>ae.own (α:=cG) 108 (ae.own (α:=aN) 106 (ae.wK (i:=2) oG (ah I) (ah I) I (gW (b3 (dA (bY AI.fd) ?_)))))));refine mW 5 sU yC ?_;refine dA (pg underlying82) ?_;refine cD (ca (ay.block ?_));refine aA h λav an h=>fk (γ:=(aE Nat×Nat)) (δ:=(aE Nat×Nat)) an [0,1,2,4,6,7,8,26,27] (λs1 g1=>[(28,J.of s1.1)]) (λs1 g1=>[(2,⟨some dd,.cu s1.2.1 [(1,aQ g1.1 s1.2.2.1.length g1.2),(4,aQ none ([]:aa aN).length 0)]⟩),(4,⟨g1.1,.row 108 s1.2.2.1 g1.2⟩),(8,aI bR s1.2.2.2)]) (λaw=>Exit.exit 0) (λaw g1=>[(28,J.of aw.1),(29,J.of aw.2.1)]) (λaw g1=>[(2,⟨some dd,.cu aw.2.2.1 [(1,aQ g1.1 aw.2.2.2.1.length g1.2),(4,aQ none ([]:aa aN).length 0)]⟩),(4,⟨g1.1,.row 108 aw.2.2.2.1 g1.2⟩),(8,aI bR aw.2.2.2.2)]) (none,0) (λs1 r h g1=>?_) λg1=>?_
 ·refine b3 (dO pd (gW ?_));refine j8 h (λh=>?_) λh=>?_
  ·refine k9 (ay.seq (ay.block (b3 (aA h λbx c4 h=>yQ c4 underlying82 ti ?_))));refine dA (kE ti) ?_;refine jv um λlA=>?_;refine p3 0 ti (gW ?_);refine aA h λaF b2 h=>aA h λbg dR h=>ei [0,1,2,4,6,7,8,10,26,27,28,29,30,31] ?_;refine ay.tJ mixed (az 32 [] [] _::az 33 [0] [3] _::az 34 [] [] _::az 35 [] [8] _::az 36 [] [0] _::⟨some 37,[2,3,4],[9],[9],λ_=>J.of aF.1,λhd _=>aI bR aF.2⟩::az 38 [5] [] _::⟨some 39,[1,6],[5],[5],λhd=>J.eq (aQ (hd 7 0) bg.length ((hd 7 1).getD 0)),λhd _=>⟨(hd 7 0),.row 108 bg ((hd 7 1).getD 0)⟩⟩::az 40 [] [] _::fz [1,7,8] [3] [3] (λhd=>⟨some dd,.cu ({s1.2.1 with bP:=[]}:bl) [(1,aQ (hd 7 0) bg.length ((hd 7 1).getD 0)),(4,aQ none ([]:aa aN).length 0)]⟩)::[]) ⟨gv (bY AK.fd),fS λaD ar=>hZ (i:=3) (q:=0) (β:=bl) (γ:=cG) w1 (ah (aD _ _ I)) (ar 3 _ I I) I,hD,xf 8 rD,xf 0 ti,?_,fS λaD ar=>AV (r:=[aF.1]) underlying49 vy Ik I I (.cons (by simp) (ah (aD _ _ I)) (.nil)),?_,gv (bY AK.fd),?_,trivial⟩ λgf=>?_
   ·intro hd E' L' aD ar;refine ae.bt 9 (ar 9 _ I I) (ae.lI (Lin:=[aI bR s1.2.2.2]) (Lr:=L'.eraseIdx 9) ap1 (afh b2) ⟨ah (aD _ _ I),ah (aD _ _ I),ah (aD _ _ I),trivial⟩ I λcH=>ae.nil (al.back 9 (ar 9 _ I I) ?_));exact al.fin (cJ []) I I
   ·intro hd E' L' aD ar;refine ae.app (i:=5) underlying49 vy Ik (bytes:=64) (by kernel_rfl) (ah (aD _ _ I)) (ar 5 _ I I) (ah (aD _ _ I)) dR I λet dY=>?_;exact ae.nil (al.fin (cJ [et,some dY]) I I)
   ·intro hd E' L' aD ar;refine ae.j3 (i:=3) (γ:=cG) (b':=({s1.2.1 with bP:=[]}:bl)) (os':=[(1,aQ (hd 7 0) bg.length ((hd 7 1).getD 0)),(4,aQ none ([]:aa aN).length 0)]) ((aP.id bl).comp we) w1 (ah (aD _ _ I)) (ah (aD _ _ I)) jn (ar 3 _ I I) I I I (ae.nil ?_);exact al.fin (cJ []) I I
   refine al.df (L2:=[aI lA (ax ((ax ai.bK aJ).cn) bx:dD),⟨none,.row 106 ([]:aa aN) 0⟩,⟨none,.row 108 ([]:aa cG) 0⟩,⟨some dd,.cu ({s1.2.1 with bP:=[]}:bl) [(1,aQ (gf 7 0) bg.length ((gf 7 1).getD 0)),(4,aQ none ([]:aa aN).length 0)]⟩,⟨none,.row 106 ([]:aa aN) 0⟩,⟨(gf 7 0),.row 108 bg ((gf 7 1).getD 0)⟩,aI ((cO 9 0).getD 0) (ax ai.bK aJ:cy),aI bn (default:bl),aI bk ai,aI bR aF.2]) I (eO (al.next (b3 ?_)));refine dA (bY L4.fd) ?_;refine mW 0 wk ch ?_;refine dO pX ?_;refine cD ?_;refine hN (bY L4.fd) ?_;refine iX (λhb=>hv (i:=0) ((aP.id dD).comp wk) (r:=(ax ((ax ai.bK aJ).cn) bx).dQ) ch (ck I hb) I I I) ?_;refine Bo pX ?_;refine aA h λbp ez h=>qf ez (tp (ah I) (ah I) (λh=>h)) (ca ?_);refine aA h λm1 bS h=>ix (γ:=Unit) [0,1,2,4,6,7,8,10,26,27,28,29,48] (λg2=>[]) (λg2=>[(3,⟨some dd,.cu m1.1 [(1,aQ (gf 7 0) bg.length ((gf 7 1).getD 0)),(4,aQ none ([]:aa aN).length 0)]⟩),(9,aI bR m1.2)]) (λg2=>?_) (λhm ag=>?_) λhm ag=>?_
   ·refine al.ml (al.next (ay.fc (dO jI ?_)));refine cD (ae.nil ?_);cases h;exact hA ((gf 7 0),((gf 7 1).getD 0)) 1
   ·have h:=fu ag bS;refine ay.fc (cD ?_);refine ae.bt 9 I (aA h λbw e5 h=>eL 1 gR (gN e5) λeI=>?_);refine dO jI ?_;refine dA (bY Rc.fd) ?_;refine aA h λz2 hi h=>ae.yh (i:=4) ((aP.id bl).comp KH) (v:=(bm (1+bw.1):Int)) (b':=z2) ch (ah I) (ah I) I I (dt hi) (by rfl) ?_;refine ae.nil (al.bt 9 I (al.bt 9 I (al.bt 9 I (al.bt 9 I (al.bt 9 I (al.bt 9 I (al.bt 9 I (al.bt 9 I (al.bt 9 I ?_)))))))));cases h;exact ed 0 (hm ())
   have h:=fv ag bS;refine ay.skip ?_;cases h;exact ed 0 (hm ())
  refine ay.exit (al.exit ?_);cases h;exact gq (g1.1,g1.2) 0
 refine al.k5 (al.next (ay.seq (aA h λcd hB h=>aA h λcB gr h=>aA h λz3 lZ h=>ei [0,1,2,4,6,7,8,26,27,28,29] ?_)));refine ay.tJ mixed (az 54 [] [] _::az 55 [0] [5] _::az 56 [] [] _::az 57 [] [] _::az 58 [3] [5] _::az 59 [4] [] _::⟨some 60,[2,5],[8],[8],λ_=>J.of cd.1,λhd _=>aI bR cd.2⟩::az 61 [1,6] [] _::az 62 [7] [] _::az 63 [] [] _::fz [8,9] [2] [2] (λhd=>⟨some dd,.cu z3 [(1,aQ g1.1 av.2.2.2.1.length g1.2),(4,aQ none ([]:aa aN).length 0)]⟩)::[]) ⟨gv (bY Y7.fd),oM 5 zM lL,hD,gv (bY Y7.fd),oM 5 zM lL,gv (pg underlying56),?_,fS λaD ar=>se (k:=cB) underlying56 ch (ah (aD _ _ I)) (ah (aD _ _ I)) (cN gr),gv (kE ch),gv (bY Mg.fd),?_,trivial⟩ λxh=>?_
 ·intro hd E' L' aD ar;exact ae.bt 8 (ar 8 _ I I) (ae.lI (Lin:=[aI bR av.2.2.2.2]) (Lr:=L'.eraseIdx 8) gR (gN hB) ⟨ah (aD _ _ I),ah (aD _ _ I),trivial⟩ I λhn=>ae.nil (al.back 8 (ar 8 _ I I) (al.fin (cJ []) I I)))
 ·intro hd E' L' aD ar;refine ae.yh (i:=2) ((aP.id bl).comp F2) (v:=(ax ((ax ai.bK aJ).dW) cB:Int)) (b':=z3) ch (ah (aD _ _ I)) (ah (aD _ _ I)) (ar 2 _ I I) I (dt lZ) (by rfl) ?_;exact ae.nil (al.fin (cJ []) I I)
 refine al.df (L2:=[⟨none,.row 106 ([]:aa aN) 0⟩,⟨none,.row 108 ([]:aa cG) 0⟩,⟨some dd,.cu z3 [(1,aQ g1.1 av.2.2.2.1.length g1.2),(4,aQ none ([]:aa aN).length 0)]⟩,⟨none,.row 106 ([]:aa aN) 0⟩,⟨g1.1,.row 108 av.2.2.2.1 g1.2⟩,aI ((cO 9 0).getD 0) (ax ai.bK aJ:cy),aI bn (default:bl),aI bk ai,aI bR cd.2]) I (eO (al.next (ay.seq (b3 ?_))));refine nC 7 rD ?_;refine dA (bY Mg.fd) ?_;refine acw 2 F2 ch ?_;refine aA h λcj ih h=>ss acr.cf (acr.m _ _ _ ih) ?_;refine bA (Qu VE ajV aas I (ah I) I I) ?_;refine dA (pg underlying146) ?_;refine cD (ca (ay.block ?_));refine aA h λaS an h=>fk (γ:=(aE Nat×Nat)) (δ:=(aE Nat×Nat)) an [0,1,2,4,6,7,8,26,27,28,29,68,69] (λs2 g3=>[(70,J.of s2.1)]) (λs2 g3=>[(2,⟨some dd,.cu s2.2.1 [(1,aQ g1.1 av.2.2.2.1.length g1.2),(4,aQ g3.1 s2.2.2.1.length g3.2)]⟩),(3,⟨g3.1,.row 106 s2.2.2.1 g3.2⟩),(8,aI bR s2.2.2.2)]) (λc7=>Exit.exit 2) (λc7 g3=>[(70,J.of c7.1),(71,J.of c7.2.1)]) (λc7 g3=>[(2,⟨some dd,.cu c7.2.2.1 [(1,aQ g1.1 av.2.2.2.1.length g1.2),(4,aQ g3.1 c7.2.2.2.1.length g3.2)]⟩),(3,⟨g3.1,.row 106 c7.2.2.2.1 g3.2⟩),(8,aI bR c7.2.2.2.2)]) (none,0) (λs2 r h g3=>?_) λg3=>?_
 ·refine b3 (dO pd (gW ?_));refine j8 h (λh=>?_) λh=>?_
  ·refine k9 (ay.seq (ay.block (b3 (aA h λfo jw h=>yQ jw underlying146 MR ?_))));refine dA (kE MR) ?_;refine jv ant λpF=>?_;refine p3 0 MR (ca ?_);refine aA h λcm mr h=>aA h λz4 sr h=>aA h λcA p4 h=>aA h λdS sv h=>ei [0,1,2,4,6,7,8,12,26,27,28,29,68,69,70,71,72,73] ?_;refine ay.tJ mixed (az 74 [] [] _::az 75 [0] [3] _::az 76 [] [] _::⟨some 77,[2],[9],[9],λ_=>J.of cm.1,λhd _=>aI bR cm.2⟩::az 78 [3] [] _::az 79 [4] [] _::az 80 [] [] _::az 81 [6] [0] _::az 82 [5,7] [] _::az 83 [8] [] _::⟨some 84,[1,9],[4],[4],λhd=>J.eq (aQ (hd 10 0) dS.length ((hd 10 1).getD 0)),λhd _=>⟨(hd 10 0),.row 106 dS ((hd 10 1).getD 0)⟩⟩::az 85 [] [] _::fz [1,10,11] [3] [3] (λhd=>⟨some dd,.cu ({s2.2.1 with fM:=[]}:bl) [(1,aQ g1.1 av.2.2.2.1.length g1.2),(4,aQ (hd 10 0) dS.length ((hd 10 1).getD 0))]⟩)::[]) ⟨gv (bY H8.fd),fS λaD ar=>hZ (i:=3) (q:=1) (β:=bl) (γ:=aN) Ee (ah (aD _ _ I)) (ar 3 _ I I) I,hD,?_,gv (AF underlying3 underlying104),fS λaD ar=>(kD (b:=({(default:aN)with cI:=BitVec.ofInt 64 cm.1}:aN)) I yt sd (.cons ll I (ah (aD _ _ I)) I (.nil))).qe (dt sr),gv (bY ajW.fd),oM 0 VX ch,fS λaD ar=>ja acp.cf (acp.m _ _ _ p4) ⟨ah (aD _ _ I),ah (aD _ _ I),trivial⟩,fS λaD ar=>AV (r:=[cA]) underlying50 fw sd I I (.cons (by simp) (ah (aD _ _ I)) (.nil)),?_,gv (bY H8.fd),?_,trivial⟩ λEC=>?_
   ·intro hd E' L' aD ar;refine ae.bt 9 (ar 9 _ I I) (ae.lI (Lin:=[aI bR s2.2.2.2]) (Lr:=L'.eraseIdx 9) gR (gN mr) ⟨ah (aD _ _ I),de 256,trivial⟩ I λgL=>ae.nil (al.back 9 (ar 9 _ I I) ?_));exact al.fin (cJ []) I I
   ·intro hd E' L' aD ar;refine ae.app (i:=4) underlying50 fw sd (bytes:=16) (by kernel_rfl) (ah (aD _ _ I)) (ar 4 _ I I) (ah (aD _ _ I)) sv I λkk mm=>?_;exact ae.nil (al.fin (cJ [kk,some mm]) I I)
   ·intro hd E' L' aD ar;refine ae.j3 (i:=3) (γ:=aN) (b':=({s2.2.1 with fM:=[]}:bl)) (os':=[(1,aQ g1.1 av.2.2.2.1.length g1.2),(4,aQ (hd 10 0) dS.length ((hd 10 1).getD 0))]) ((aP.id bl).comp CN) Ee (ah (aD _ _ I)) (ah (aD _ _ I)) jn (ar 3 _ I I) I I I (ae.nil ?_);exact al.fin (cJ []) I I
   refine al.df (L2:=[aI pF (ax cj.mN fo:nj),⟨none,.row 106 ([]:aa aN) 0⟩,⟨none,.row 108 ([]:aa cG) 0⟩,⟨some dd,.cu ({s2.2.1 with fM:=[]}:bl) [(1,aQ g1.1 av.2.2.2.1.length g1.2),(4,aQ (EC 10 0) dS.length ((EC 10 1).getD 0))]⟩,⟨(EC 10 0),.row 106 dS ((EC 10 1).getD 0)⟩,⟨g1.1,.row 108 av.2.2.2.1 g1.2⟩,aI ((cO 9 0).getD 0) (ax ai.bK aJ:cy),aI bn (default:bl),aI bk ai,aI bR cm.2]) I (eO ?_);refine al.ml (al.next (ay.fc (dO jI ?_)));refine cD (ae.nil ?_);cases h;exact hA ((EC 10 0),((EC 10 1).getD 0)) 1
  refine ay.exit (al.exit ?_);cases h;exact gq (g3.1,g3.2) 0
 refine al.k5 (al.next (b3 (ae.nx (β:=bl) (γ:=cG) (b':=({aS.2.2.1 with bP:=av.2.2.2.1}:bl)) ((aP.id bl).comp we) 2 4 0 I I I I I I (ae.nx (β:=bl) (γ:=aN) (b':=({({aS.2.2.1 with bP:=av.2.2.2.1}:bl)with fM:=aS.2.2.2.1}:bl)) ((aP.id bl).comp CN) 2 3 0 I I I I I I (ae.tg 2 I (aA h λz5 xe h=>qf xe (hv (i:=2) (aP.id bl) (r:=({({aS.2.2.1 with bP:=av.2.2.2.1}:bl)with fM:=aS.2.2.2.1}:bl)) oG (ah I) I I I) ?_))))));refine p3 6 oG (ca (ay.ret ?_));refine al.bt 8 I ?_;cases h;exact al.eC () (.cons_cons _ (q6 _)) I I (nt (i:=7) oG I I)
def OX{hp ab ai aT Q}(h:tT hp ab ai aT Q):lU prog 32 [J.of ab,J.of ai,J.of aT] hp Q:=by
 unfold tT at h;refine bL.of func32 I ntmps32 I λW A=>?_;refine go2 (λbk bn b4 h=>?_) (λbk bn b4 h=>?_)
 ·exact al.eC (⟨⟨(6,hp),h⟩,()⟩: {r // _}×_) (fN 3) I I (dn I)
 refine aj.bF h λho rH h=>aj.bF h λeE lb h=>?_;obtain⟨lQ,oI,tr⟩:=aj.ex h;refine ei [3,4,5,6] ?_;refine ay.xi mixed [6,10,11,12] [(0,14,J.of ab),(1,15,J.cr ho),(2,16,J.nd ho Fy),(3,17,J.of eE.1.mO),(4,18,J.of ai),(5,19,J.of aT)] ?_;refine gT.cut (γ:=(Subtype lQ)×Nat) (pe':=[6,10]) (λg=>[(7,13,J.bW [J.of g.1.1.1,J.of g.1.1.2.1]),(8,21,J.of g.1.1.1),(9,22,J.of g.1.1.2.1)]) (λg=>[(20,J.bW [J.of g.1.1.1,J.of g.1.1.2.1]),(7,J.cr g.2),(3,J.cr bk),(4,J.cr bn),(5,J.cr b4),(6,J.of (0:Int))]) (λg=>(aI g.2 (default:Int)::aI b4 aT::aI bn ai::aI bk ab::a1 g.1.1.2.2)) (λ⟨⟨ao,ha⟩,dd⟩=>?_) λyF=>?_
 ·refine gT.md [5,4,3,2,1,0] [7,8,9] [11] ⟨?_,trivial⟩
  ·refine im.of (ks:=[]) (λx:Unit=>[]) (λx=>[]) (λx=>(aI dd ao.1::aI b4 aT::aI bn ai::aI bk ab::a1 ao.2.2)) (λ_=>?_) (λo a6 dO jh aD k=>?_)
   ·have h:=tr ao ha;refine gT.md [8,7,5,4,3,2,1,0] [9] [12] ⟨im.tail [11,10,9,8,7,6,5,4,3,2,1,0] ?_,trivial⟩;refine ae.df (L2:=(aI dd ao.1::aI b4 aT::aI bn ai::aI bk ab::a1 ao.2.2)) I (ae.le (E':=[(3,J.cr bk),(4,J.cr bn),(5,J.cr b4),(6,J.of (0:Int)),(7,J.cr dd),(22,J.of ao.2.1)]) .all ?_);refine go2 (λh=>?_) (λh=>?_)
    ·exact al.eC (⟨⟨(ao.2.1,ao.2.2),h⟩,()⟩: {r // _}×_) (fN 4) I I (dn I)
    refine aj.bF h λmb yT h=>aj.bF h λiH tx h=>aj.bF h λaF b2 h=>ay.AZ 1 4 (ei [3,4,5,6,7,8,22,23,24] ?_);refine ay.cf 5 (az 27 [] [3] _::az 28 [0] [] _::az 29 [1] [] _::az 30 [2] [] _::az 31 [] [2] _::az 32 [3,4] [] (J.bW [J.of aF.1,J.of aF.2])::az 26 [5] [] _::az 33 [6] [] _::az 34 [6] [] _::qK 9 [] 4 9 _::fz [7,9] [4] [4] (λhd=>aI ((hd 9 0).getD 0) aF.1)::az 10 [8] [] _::[]) (dK ?_ hR) (λcO=>?_)
    ·intro hd E' L' aD ar bZ;exact ae.eH (dx.fR 5 (bZ.trans I) SO (Pp b2) ⟨ah (aD _ _ I),ah (aD _ _ I),trivial⟩) I I I (ae.nil (al.fin (cJ []) I I))
    refine al.df (L2:=(aI dd ao.1::aI b4 aT::aI bn ai::aI bk ab::aI ((cO 9 0).getD 0) aF.1::a1 ao.2.2)) I (eO ?_);refine al.bt 4 I (al.next (ay.seq (ay.seq (aj.bF h λmB Bs h=>aj.bF h λkO vM h=>ay.fy 5 ?_))));refine aj.bF h λbg dR h=>ae.en 5 0 I abO (VQ dR) I I ⟨ah I,ah I,trivial⟩ I λaw=>ae.dy ?_;refine go2 (λh=>?_) (λh=>?_)
    ·refine aj.bF h λkb vN h=>ay.fy 6 ?_;refine ae.en 5 0 I IK (Gm h) I I ⟨ah I,ah I,trivial⟩ I λ⟨⟨bw,h⟩,cH⟩=>?_;refine ae.dy (gW ?_);refine aj.bF h λzh acA h=>ay.fy 5 ?_;refine aj.bF h λcd hB h=>ae.en 5 0 I abN (VC hB) I I ⟨ah I,ah I,trivial⟩ I λeI=>ae.dy ?_;refine aO ?_;exact al.eC (⟨⟨(19,cd),h⟩,()⟩: {r // _}×_) (fN 5) I I (dn I)
    refine aj.bF h λEY acB h=>ay.fy 6 ?_;refine aj.bF h λcj ih h=>ae.en 5 0 I SR (Pw ih) I I ⟨ah I,ah I,trivial⟩ I λhn=>ae.dy ?_;refine aO ?_;refine ae.share (α:=Ref) 4 3 I I (ae.share (α:=aH) 0 9 I I (ae.share (α:=Int) 1 7 I I (ae.share (α:=Int) 2 5 I I (bA (Rw (Ij (f:=69) (τs:=[J.ptr ab,J.ptr aF.1,J.ptr ao.1,J.ptr aT]) ⟨ah I,ah I,ah I,ah I,trivial⟩) (λ_ _ _ h=>ak5 h)) ?_))));refine aj.bF h λzi EB h=>aj.bF h λcm mr h=>ae.pG (eD.obj 5 (λq:aE Nat×Nat=>Cell.oN cm q.1 q.2) I (rv EB) SQ (OJ mr) I (λ_=>rfl) ⟨j2 (ah I) Bs,ah I,trivial⟩) I I I λc7=>?_;replace h:=aj.any_bind h c7;refine aj.bF h λbQ hL h=>ae.df (L2:=(⟨none,.dead⟩::⟨none,.dead⟩::⟨none,.dead⟩::aI bn ai::⟨none,.dead⟩::a1 bQ)) (by rw[<-dt hL];rfl) ?_;refine aO ?_;exact al.eC (⟨⟨(0,bQ),h⟩,()⟩: {r // _}×_) (fN 5) I I (dn I)
   cases a6;refine ae.store (i:=0) (aP.id Int) (v:=ao.1) (b':=ao.1) ch (ah (aD I)) (ah (aD I)) I I I (ae.nil ?_);exact k ()
 refine gT.md [] [0,1,2,3,4,5] [6,10] ⟨?_,?_,trivial⟩
 ·refine im.of (ks:=[7,8,9]) (λx:Subtype lQ=>[(20,J.bW [J.of x.1.1,J.of x.1.2.1])]) (λx=>[(7,13,J.bW [J.of x.1.1,J.of x.1.2.1]),(8,21,J.of x.1.1),(9,22,J.of x.1.2.1)]) (λx=>(aI b4 aT::aI bn ai::aI bk ab::a1 x.1.2.2)) (λ⟨ao,ha⟩=>?_) (λo a6 dO jh aD k=>?_)
  ·refine gT.md [5,4,3,2,1,0] [7,8,9] [10] ⟨?_,trivial⟩
   ·refine im.to [] (λx:Nat=>[(7,J.cr x)]) (λx:Nat=>yF (⟨ao,ha⟩,x)) (λo a6 dO jh aD k=>?_);cases a6;refine jv so λdd=>ae.nil ?_;exact k dd
  cases a6;refine ae.en 3 0 I abQ (VO oI) I I ⟨ah (aD I),ah (aD I),ah (aD I),trivial⟩ I λ⟨⟨ao,ha⟩,_⟩=>?_;refine ae.dy (ae.nil ?_);exact k ⟨ao,ha⟩
 refine im.of (ks:=[]) (λx:Nat=>[(7,J.cr x)]) (λx=>[]) (λx=>(aI x (default:Int)::aI b4 aT::aI bn ai::aI bk ab::a1 hp)) (λdd=>?_) (λo a6 dO jh aD k=>?_)
 ·refine gT.md [] [0,1,2,3,4,5] [6] ⟨?_,trivial⟩
  ·refine im.to [7,8,9] (λx:Subtype lQ=>[(20,J.bW [J.of x.1.1,J.of x.1.2.1])]) (λx:Subtype lQ=>yF (x,dd)) (λo a6 dO jh aD k=>?_);cases a6;refine ae.en 4 0 I abQ (VO oI) I I ⟨ah (aD I),ah (aD I),ah (aD I),trivial⟩ I λ⟨⟨ao,ha⟩,_⟩=>?_;refine ae.dy (ae.nil ?_);exact k ⟨ao,ha⟩
 cases a6;refine jv so λdd=>ae.nil ?_;exact k dd
def VP{hp ab ai Q}(h:CI hp ab ai Q):bL prog 107 [J.of ab,J.of ai] ([]++a1 hp) (δ:= {r:aH×Int×(aL Cell) // Q r}×Unit) (λd=>J.bW [J.of d.1.1.1,J.of d.1.1.2.1]) (λd=>[]++a1 d.1.1.2.2):=by
 unfold CI at h;refine bL.of func107 I ntmps107 I λW A=>?_;refine aO λbk bn=>?_;refine ae.en 2 0 I IK (Gm h) I I ⟨ah I,ah I,trivial⟩ I λ⟨⟨ao,h⟩,aw⟩=>?_;refine ae.dy ?_;refine go2 (λb4 h=>?_) (λb4 h=>?_)
 ·exact al.ru (⟨⟨((default:aH),ao.2.1,ao.2.2),h⟩,()⟩: {r // _}×_) (fN 3) I I (nt (i:=1) dZ I I) (dn I)
 refine aj.bF h λbz dq h=>aj.bF h λc1 dv h=>aj.bF h λcE fl h=>aj.bF h λc2 eV h=>aj.bF h λbp ez h=>aj.bF h λz2 hi h=>ay.kM mixed 13 (rg 18 13) [[],[0],[1],[2],[],[4],[3,5],[],[],[8],[],[10],[7,9,11]] [_,_,_,_,_,_,_,_,_,_,_,_,_] ⟨fh,fA λar=>jq (j2 (ah I) dq),H1 (bY ajX.fd),fA λar=>o8 ((aP.id lG).comp KG) (r:=c1.ub) aat (ah I) (pj (λi e q=>ar i e q I) (jt (n:=3) I (wN dv) I)) I I,H1 (bY DN.fd),iV 2 xR ch,fA λar=>vm (r:=bp) underlying161 Bm ZG (ln (ah I) fl) (ah I) (pj (λi e q=>ar i e q I) (jt (n:=3) I (yg eV) I)) (dt ez),sq 2 oG,H1 (bY Y5.fd),iV 0 Ku ch,H1 (bY ak6.fd),iV 0 OL ch,tK hi λL' ar=>kD (b:= {aX:=ai,b0:=ao.1.b0,dI:=ao.1.dI:aH}) I ap2 kl (.cons tS I (ah I) I (.cons Ku I (ah I) I (.cons OL I (ah I) I (.nil)))),trivial⟩ ?_;refine ae.en 3 0 I Sh (Px h) I I ⟨ah I,ah I,trivial⟩ I λ⟨⟨aF,h⟩,cH⟩=>ae.dy ?_;refine aO ?_;exact al.ru (⟨⟨(ao.1,0,aF.2),h⟩,()⟩: {r // _}×_) (fN 3) I I (nt (i:=1) dZ I I) (dn I)
def Vy{hp ab ai Q}(h:zK hp ab ai Q):bL prog 74 [J.of ab,J.of ai] ([]++a1 hp) (δ:= {r:bl×bl×Int×(aL Cell) // Q r}×Unit) (λd=>J.bW [J.of d.1.1.1,J.of d.1.1.2.1,J.of d.1.1.2.2.1]) (λd=>[]++a1 d.1.1.2.2.2):=by
 unfold zK at h;refine bL.of func74 I ntmps74 I λW A=>?_;refine aO λbk bn b4=>?_;refine aj.bF h λho rH h=>aj.bF h λeE lb h=>?_;obtain⟨lQ,oI,tr⟩:=aj.ex h;refine ei [0,3,4,5,6] ?_;refine ay.xi mixed [5,9,10,11] [(0,11,J.of ab),(1,12,J.cr ho),(2,13,J.nd ho Fy),(3,14,J.of eE.1.mO),(4,15,J.of ai)] ?_;refine gT.cut (γ:=(Subtype lQ)×Nat) (pe':=[5,9]) (λg=>[(6,10,J.bW [J.of g.1.1.1,J.of g.1.1.2.1]),(7,17,J.of g.1.1.1),(8,18,J.of g.1.1.2.1)]) (λg=>[(16,J.bW [J.of g.1.1.1,J.of g.1.1.2.1]),(7,J.cr g.2),(0,J.of ab),(3,J.cr bk),(4,J.cr bn),(5,J.cr b4),(6,J.of (0:Int))]) (λg=>(aI g.2 (default:aH)::aI b4 (default:bl)::aI bn (default:bl)::aI bk ai::a1 g.1.1.2.2)) (λ⟨⟨ao,ha⟩,dd⟩=>?_) λyF=>?_
 ·refine gT.md [4,3,2,1,0] [6,7,8] [10] ⟨?_,trivial⟩
  ·refine im.of (ks:=[]) (λx:Unit=>[]) (λx=>[]) (λx=>(aI dd ao.1::aI b4 (default:bl)::aI bn (default:bl)::aI bk ai::a1 ao.2.2)) (λ_=>?_) (λo a6 dO jh aD k=>?_)
   ·have h:=tr ao ha;refine gT.md [7,6,4,3,2,1,0] [8] [11] ⟨im.tail [10,9,8,7,6,5,4,3,2,1,0] ?_,trivial⟩;refine ae.df (L2:=(aI dd ao.1::aI b4 (default:bl)::aI bn (default:bl)::aI bk ai::a1 ao.2.2)) I (ae.le (E':=[(0,J.of ab),(3,J.cr bk),(4,J.cr bn),(5,J.cr b4),(6,J.of (0:Int)),(7,J.cr dd),(18,J.of ao.2.1)]) .all ?_);refine go2 (λh=>?_) (λh=>?_)
    ·exact al.Iq (⟨⟨((default:bl),(default:bl),ao.2.1,ao.2.2),h⟩,()⟩: {r // _}×_) (fN 4) I I (nt (i:=2) oG I I) (nt (i:=1) oG I I) (dn I)
    refine aj.bF h λmb yT h=>aj.bF h λiH tx h=>aj.bF h λaF b2 h=>ay.AZ 1 4 (ei [0,3,4,5,6,7,18,19,20] ?_);refine ay.cf 5 (az 25 [] [] _::az 26 [0] [] _::az 27 [1] [] _::az 28 [2] [] _::az 29 [] [3] _::az 30 [3,4] [] (J.bW [J.of aF.1,J.of aF.2])::az 24 [5] [] _::az 31 [6] [] _::az 32 [6] [] _::qK 8 [] 4 9 _::fz [7,9] [4] [4] (λhd=>aI ((hd 9 0).getD 0) aF.1)::az 9 [8] [] _::[]) (dK ?_ hR) (λcO=>?_)
    ·intro hd E' L' aD ar bZ;exact ae.eH (dx.fR 5 (bZ.trans I) SO (Pp b2) ⟨ah (aD _ _ I),ah (aD _ _ I),trivial⟩) I I I (ae.nil (al.fin (cJ []) I I))
    refine al.df (L2:=(aI dd ao.1::aI b4 (default:bl)::aI bn (default:bl)::aI bk ai::aI ((cO 9 0).getD 0) aF.1::a1 ao.2.2)) I (eO ?_);refine al.bt 4 I (al.next (ay.seq (aj.bF h λmB Bs h=>aj.bF h λkO vM h=>ay.fy 6 ?_)));refine aj.bF h λbg dR h=>ae.en 5 0 I SP (O8 dR) I I ⟨ah I,ah I,trivial⟩ I λaw=>ae.dy (gW ?_);refine aj.bF h λkb vN h=>ay.fy 6 ?_;refine aj.bF h λbw e5 h=>ae.en 5 0 I SR (Pw e5) I I ⟨ah I,ah I,trivial⟩ I λcH=>ae.dy (gW ?_);refine ei [0,3,4,5,7,8,9,18,19,20,24,25,26,27,28,29,30,31,32,33,34,35,36,37,38,39,40,41,42,43,44,45,46] ?_;refine ay.rP 5 (az 47 [] [] _::az 48 [0] [1] _::az 49 [] [] _::az 50 [2] [0] _::fz [1] [3] [3] (λhd=>aI bn ao.1.aX)::fz [3] [2] [2] (λhd=>aI b4 aF.1.aX)::az 6 [] [] _::[]) (λgf=>?_);refine al.df (L2:=(aI ((cO 9 0).getD 0) aF.1::aI dd ao.1::aI b4 aF.1.aX::aI bn ao.1.aX::aI bk ai::a1 bw)) I (eO (al.next (ay.ret ?_)));exact al.Iq (⟨⟨(ao.1.aX,aF.1.aX,0,bw),h⟩,()⟩: {r // _}×_) (fN 5) I I (nt (i:=3) oG I I) (nt (i:=2) oG I I) (dn I)
   cases a6;refine ae.store (i:=0) (aP.id aH) (v:=ao.1) (b':=ao.1) dZ (ah (aD I)) (ah (aD I)) I I I (ae.nil ?_);exact k ()
 refine gT.md [] [0,1,2,3,4] [5,9] ⟨?_,?_,trivial⟩
 ·refine im.of (ks:=[6,7,8]) (λx:Subtype lQ=>[(16,J.bW [J.of x.1.1,J.of x.1.2.1])]) (λx=>[(6,10,J.bW [J.of x.1.1,J.of x.1.2.1]),(7,17,J.of x.1.1),(8,18,J.of x.1.2.1)]) (λx=>(aI b4 (default:bl)::aI bn (default:bl)::aI bk ai::a1 x.1.2.2)) (λ⟨ao,ha⟩=>?_) (λo a6 dO jh aD k=>?_)
  ·refine gT.md [4,3,2,1,0] [6,7,8] [9] ⟨?_,trivial⟩
   ·refine im.to [] (λx:Nat=>[(7,J.cr x)]) (λx:Nat=>yF (⟨ao,ha⟩,x)) (λo a6 dO jh aD k=>?_);cases a6;refine jv kl λdd=>ae.nil ?_;exact k dd
  cases a6;refine ae.en 3 0 I aau (VP oI) I I ⟨ah (aD I),ah (aD I),trivial⟩ I λ⟨⟨ao,ha⟩,_⟩=>?_;refine ae.dy (ae.nil ?_);exact k ⟨ao,ha⟩
 refine im.of (ks:=[]) (λx:Nat=>[(7,J.cr x)]) (λx=>[]) (λx=>(aI x (default:aH)::aI b4 (default:bl)::aI bn (default:bl)::aI bk ai::a1 hp)) (λdd=>?_) (λo a6 dO jh aD k=>?_)
 ·refine gT.md [] [0,1,2,3,4] [5] ⟨?_,trivial⟩
  ·refine im.to [6,7,8] (λx:Subtype lQ=>[(16,J.bW [J.of x.1.1,J.of x.1.2.1])]) (λx:Subtype lQ=>yF (x,dd)) (λo a6 dO jh aD k=>?_);cases a6;refine ae.en 4 0 I aau (VP oI) I I ⟨ah (aD I),ah (aD I),trivial⟩ I λ⟨⟨ao,ha⟩,_⟩=>?_;refine ae.dy (ae.nil ?_);exact k ⟨ao,ha⟩
 cases a6;refine jv kl λdd=>ae.nil ?_;exact k dd
def aev{hp ab ai Q}(h:xO hp ab ai Q):lU prog 34 [J.of ab,J.of ai] hp Q:=by
 unfold xO at h;refine bL.of func34 I ntmps34 I λW A=>?_;refine go2 (λbk bn h=>?_) (λbk bn h=>?_)
 ·exact al.eC (⟨⟨(6,hp),h⟩,()⟩: {r // _}×_) (fN 2) I I (dn I)
 refine ae.en 2 0 I abR (Vy h) I I ⟨ah I,ah I,trivial⟩ I λ⟨⟨ao,h⟩,aw⟩=>?_;refine ae.dy ?_;refine go2 (λb4 dd h=>?_) (λb4 dd h=>?_)
 ·exact al.eC (⟨⟨(ao.2.2.1,ao.2.2.2),h⟩,()⟩: {r // _}×_) (fN 4) I I (dn I)
 refine ae.share (α:=Ref) 3 2 I I (ae.share (α:=bl) 1 5 I I (bA (Rw (Ij (f:=75) (τs:=[J.ptr ab,J.ptr ao.1]) ⟨ah I,ah I,trivial⟩) (λ_ _ _ h=>ak7 h)) ?_));refine aj.bF h λbz dq h=>aj.bF h λc1 dv h=>aj.bF h λaF b2 h=>ae.pG (eD.obj 4 (λq:aE Nat×Nat=>Cell.oN aF q.1 q.2) I (rv dv) SQ (OJ b2) I (λ_=>rfl) ⟨j2 (ah I) dq,ah I,trivial⟩) I I I λcH=>?_;replace h:=aj.any_bind h cH;refine aj.bF h λbQ hL h=>ae.df (L2:=(aI dd ao.2.1::⟨none,.dead⟩::aI bn ai::⟨none,.dead⟩::a1 bQ)) (by rw[<-dt hL];rfl) ?_;refine aO ?_;exact al.eC (⟨⟨(0,bQ),h⟩,()⟩: {r // _}×_) (fN 4) I I (dn I)
def ad6{hp ab ai Q}(h:Fm hp ab ai Q):Bu prog 75 [J.ptr ab,J.ptr ai] hp Q:=by
 unfold Fm at h;refine bL.of func75 I ntmps75 I λW A=>?_;refine aO ?_;refine ae.en 0 0 I abR (Vy h) I I ⟨ah I,ah I,trivial⟩ I λ⟨⟨ao,h⟩,aw⟩=>?_;refine ae.dy (ae.nil ?_);exact al.lv (al.ns (⟨⟨ao.2.2.2,h⟩,()⟩: {r // _}×_) (.refl _) I I)
def agr{hp ab ai aT e6 ij Q}(h:Ht hp ab ai aT Q):bL prog 12 [J.of ab,J.cr e6,J.cr ij] ([aI e6 ai,aI ij aT]++a1 hp) (δ:= {r:Bool×Bool×cW×dM×(aL Cell) // Q r}×Unit) (λd=>J.bW [J.of d.1.1.1,J.of d.1.1.2.1]) (λd=>[aI e6 d.1.1.2.2.1,aI ij d.1.1.2.2.2.1]++a1 d.1.1.2.2.2.2):=by
 unfold Ht at h;refine bL.of func12 I ntmps12 I λW A=>?_;refine aO ?_;refine aj.bF h λao bs h=>aj.bF h λaF b2 h=>ay.AZ 1 2 (ei [0,1,2,6,7] ?_);refine ay.cf 3 (az 13 [] [] _::az 14 [] [] _::az 15 [1] [] _::az 16 [2] [] _::az 17 [3] [0] _::az 18 [] [] _::⟨some 19,[5],[1],[1],λ_=>J.of ao.1,λhd _=>aI ij ao.2⟩::⟨some 20,[0,4,6],[1],[1],λ_=>J.of aF.1,λhd _=>aI ij aF.2⟩::qK 8 [] 2 8 _::fz [7,8] [2] [2] (λhd=>aI ((hd 8 0).getD 0) aF.1)::[]) (dK ?_ (dK ?_ hR)) (λcO=>?_)
 ·intro hd E' L' aD ar bZ;exact ae.bt 1 (ar 1 _ I I) (ae.lI (Lin:=[aI ij aT]) (Lr:=L'.eraseIdx 1) gR (gN bs) ⟨ah (aD _ _ I),de 4,trivial⟩ I λaw=>ae.nil (al.back 1 (ar 1 _ I I) (al.fin (cJ []) I I)))
 ·intro hd E' L' aD ar bZ;exact ae.bt 1 (ar 1 _ I I) (ae.lI (Lin:=[aI ij ao.2]) (Lr:=L'.eraseIdx 1) ap3 (afm b2) ⟨ah (aD _ _ I),ah (aD _ _ I),ah (aD _ _ I),trivial⟩ I λcH=>ae.nil (al.back 1 (ar 1 _ I I) (al.fin (cJ []) I I)))
 refine al.df (L2:=(aI e6 ai::aI ij aF.2::aI ((cO 8 0).getD 0) aF.1::a1 hp)) I (eO ?_);refine al.bt 2 I (aO ?_);refine ae.bt 2 I (ae.Ui (γ:=Unit) h (λy=>J.of y.1) (λy g=>(aI ij y.2::aI ((cO 8 0).getD 0) aF.1::aI e6 ai::a1 hp)) () I I I I I I (λhb hm=>by obtain⟨atB,arV,arW⟩:=hm;refine eD.map (λd=>(⟨atB,arW⟩,d)) (λ_=>rfl) ?_ (eD.lI 1 qF (qq arV) I I ?_);exact λ_=>rfl;exact⟨ck I hb,trivial⟩) λbg eI h=>?_);refine Ev (ca ?_);refine aj.bF h λm1 bS h=>qL (γ:=Unit) 3 [0,1,2,6,7,8,30] (λg2=>[]) (λg2=>[(0,aI ij m1.1),(1,aI ((cO 8 0).getD 0) m1.2)]) (λg2=>a1 hp) (λg2=>?_) (λhm ag=>?_) (λhm ag=>?_)
 ·refine aO ?_;refine ae.bt 0 I (aj.bF h λcd hB h=>eL 1 gR (gN hB) λhn=>?_);refine dO pX (ca ?_);refine aj.bF h λm2 c6 h=>qL (γ:=Unit) 3 [0,1,2,6,7,8,30,59] (λg3=>[]) (λg3=>[(1,aI ((cO 8 0).getD 0) m2)]) (λg3=>a1 hp) (λg3=>?_) (λhm ag=>?_) (λhm ag=>?_)
  ·refine aO ?_;refine ae.bt 0 I (aj.bF h λcj ih h=>eL 1 gR (gN ih) λc7=>?_);refine aO ?_;refine aj.bF h λm3 fZ h=>qL (γ:=Unit) 3 [0,1,2,6,7,8,10,11,30,59,62] (λg4=>[(72,J.of m3)]) (λg4=>[]) (λg4=>a1 hp) (λg4=>?_) (λhm ag=>?_) (λhm ag=>?_)
   ·refine al.next (yU (γ:=Unit) h 3 [0,1,6,7,8] (λm4 g5=>[(10,J.of m4.1),(11,J.of m4.2.1)]) (λm4 g5=>[(0,aI ij m4.2.2.1),(2,aI e6 m4.2.2.2.1)]) (λm4 g5=>a1 m4.2.2.2.2) (λm4 g5 h=>?_) (λhm ag h=>?_) (λhm ag h=>?_))
    ·refine aO ?_;exact al.bt 0 I (al.bt 2 I (al.ru (⟨⟨(m4.1==m4.2.1,m4.2.1==0,m4.2.2.2.1,m4.2.2.1,m4.2.2.2.2),h⟩,()⟩: {r // _}×_) (.cons_cons _ (.cons_cons _ (.cons _ (.refl _)))) I I (dn I) (dn I)))
    ·refine aO ?_;refine ae.bt 0 I (aj.bF h λcm mr h=>eL 1 gR (gN mr) λgL=>?_);refine aO λaJ cT h=>?_;obtain⟨arX,ap4,ap5⟩:=aj.ex h;refine ei [0,1,6,7,8,10,11,12] ?_;refine ay.xi mixed [3,7] [(0,81,J.of ab),(1,82,J.of m2),(2,83,J.of (ax ([1,1,2,7,5]:aa Int) aJ)),(4,85,J.cr e6),(5,86,J.of m2),(6,87,J.of (ax ([1,1,2,7,5]:aa Int) aJ))] ?_;refine gT.md [] [0,1,2,4,5,6] [3] ⟨?_,trivial⟩;refine im.of (ks:=[]) (λx:Subtype arX=>[(84,J.of x.1.1)]) (λx=>[]) (λx=>(aI ij cm.2::aI ((cO 8 0).getD 0) m2::aI e6 ai::a1 x.1.2)) (λ⟨cA,SS⟩=>?_) (λo a6 dO jh aD k=>?_)
     ·have h:=ap5 cA SS;refine gT.md [2,1,0] [4,5,6] [7] ⟨im.tail [6,5,4,3,2,1,0] ?_,trivial⟩;refine ae.df (L2:=(aI ij cm.2::aI ((cO 8 0).getD 0) m2::aI e6 ai::a1 cA.2)) I (ae.le (E':=[(0,J.of ab),(1,J.cr e6),(6,J.of false),(7,J.of false),(8,J.cr ((cO 8 0).getD 0)),(10,J.of (0:Int)),(11,J.of (0:Int)),(12,J.of (ax ([1,1,2,7,5]:aa Int) aJ)),(84,J.of cA.1),(85,J.cr e6),(86,J.of m2),(87,J.of (ax ([1,1,2,7,5]:aa Int) aJ))]) .all (ae.bt 2 I (aj.bF h λdS sv h=>eL 1 ap6 (agh sv) λlB=>?_)));refine aO ?_;exact al.bt 2 I (al.bt 2 I (ed 0 (hm (cA.1,dS.1,cm.2,dS.2,cA.2) () h)))
     cases a6;refine ae.en 3 0 I SU (OX ap4) I I ⟨ah (aD I),ah (aD I),ah (aD I),trivial⟩ I λ⟨⟨cA,SS⟩,_⟩=>ae.dy (ae.nil ?_);exact k ⟨cA,SS⟩
    refine aO ?_;refine yU (γ:=Unit) h 3 [0,1,2,6,7,8,30,59,62,72,89] (λm5 g6=>[(10,J.of m5.1),(11,J.of m5.2.1)]) (λm5 g6=>[(2,aI e6 m5.2.2.1)]) (λm5 g6=>a1 m5.2.2.2) (λm5 g6 h=>?_) (λhm ag h=>?_) (λhm ag h=>?_)
    ·exact ed 0 (hm (m5.1,m5.2.1,cj.2,m5.2.2.1,m5.2.2.2) () h)
    ·refine aO ?_;refine ae.en 3 0 I ap7 (aev h) I I ⟨ah I,ah I,trivial⟩ I λ⟨⟨gJ,h⟩,JW⟩=>ae.dy ?_;refine aO ?_;refine ae.bt 2 I (aj.bF h λiy sk h=>eL 1 ap8 (aeW sk) λtL=>?_);refine aO ?_;exact al.bt 2 I (al.bt 2 I (ed 0 (hm (gJ.1,iy.2.1,iy.2.2,gJ.2) () h)))
    refine aO ?_;refine ae.en 3 0 I ap9 (aet h) I I ⟨ah I,ah I,trivial⟩ I λ⟨⟨h6,h⟩,Np⟩=>ae.dy ?_;refine aO ?_;refine ae.bt 2 I (aj.bF h λjM w0 h=>eL 1 aqa (aeX w0) λarJ=>?_);refine aO ?_;exact al.bt 2 I (al.bt 2 I (ed 0 (hm (h6.1,jM.2.1,jM.2.2,h6.2) () h)))
   ·have h:=fu ag fZ;exact go
   have h:=fv ag fZ;refine aO ?_;refine aA h λm6 Ti h=>qL (γ:=Unit) 3 [0,1,2,6,7,8,10,11,30,59,62] (λg7=>[(72,J.of m6)]) (λg7=>[]) (λg7=>a1 hp) (λg7=>?_) (λhm ag=>?_) (λhm ag=>?_)
   ·exact go
   ·have h:=fu ag Ti;exact go
   have h:=fv ag Ti;exact go
  ·have h:=fu ag c6;exact go
  have h:=fv ag c6;exact go
 ·have h:=fu ag bS;refine ay.seq (aA h λkV Bb h=>aA h λbx c4 h=>ay.AZ 1 3 (ei [0,1,2,6,7,8,13,14,15,16,17,18,19,20,21,22,23,24,25,26,27,28,29,30] ?_));refine ay.cf 4 (az 31 [] [] _::az 32 [0] [] _::az 33 [1] [] _::az 34 [2] [2] _::az 35 [] [] _::az 36 [] [] _::az 37 [5] [] _::az 38 [6] [] _::az 39 [7] [2] _::az 40 [8] [] _::⟨some 41,[4,9],[0],[0],λ_=>J.of kV.1,λhd _=>aI ij kV.2⟩::az 42 [3,10] [] _::az 43 [11] [] _::az 44 [12] [] _::qK 9 [] 3 14 _::fz [13,14] [3] [3] (λhd=>aI ((hd 14 0).getD 0) ((ax ai.bN bx).aX:bl))::[]) (dK ?_ hR) (λgf=>?_)
  ·intro hd E' L' aD ar bZ;exact ae.bt 0 (ar 0 _ I I) (ae.lI (Lin:=[aI ij bg.2]) (Lr:=L'.eraseIdx 0) gR (gN Bb) ⟨ah (aD _ _ I),ah (aD _ _ I),trivial⟩ I λarK=>ae.nil (al.back 0 (ar 0 _ I I) (al.fin (cJ []) I I)))
  refine al.df (L2:=(aI ij kV.2::aI ((cO 8 0).getD 0) aF.1::aI e6 ai::aI ((gf 14 0).getD 0) ((ax ai.bN bx).aX:bl)::a1 hp)) I (eO ?_);refine al.bt 3 I (aO ?_);refine aA h λm7 Tj h=>qL (γ:=Unit) 4 [0,1,2,6,7,8,9,30,49] (λg8=>[]) (λg8=>[(0,aI ((gf 14 0).getD 0) m7)]) (λg8=>a1 hp) (λg8=>?_) (λhm ag=>?_) (λhm ag=>?_)
  ·exact go
  ·have h:=fu ag Tj;refine aA h λbp ez h=>ei [0,1,2,6,7,8,9,13,14,15,16,17,18,19,20,21,22,23,24,25,26,27,28,29,30,31,32,33,34,35,36,37,38,39,40,41,42,43,44,45,46,47,48,49] ?_;refine ay.rP 4 (az 50 [] [] _::az 51 [0] [2] _::az 52 [] [] _::az 53 [2] [2] _::az 54 [] [] _::fz [1,4] [0] [0] (λhd=>aI ((gf 14 0).getD 0) bp)::az 55 [] [] _::fz [3,5,6] [0] [0] (λhd=>aI ((gf 14 0).getD 0) ({bp with fM:=aF.1.fM}:bl))::[]) (λxh=>?_);refine al.df (L2:=(aI ((gf 14 0).getD 0) ({bp with fM:=aF.1.fM}:bl)::aI ij kV.2::aI ((cO 8 0).getD 0) aF.1::aI e6 ai::a1 hp)) I (eO ?_);exact go
  have h:=fv ag Tj;exact go
 have h:=fv ag bS;exact go
def ags{hp y Q}(h:PE hp y Q):yk prog (J.of y) [] ([]++a1 hp) (δ:= {r:(aL Cell) // Q r}×Unit) (λ_=>.bW []) (λd=>[]++a1 d.1.1):=by
 cases y with
 |nil=>exact h.elim
 |yY a0 bX a2 a3=>exact yk.of aqb (λA W u hu=>ak8 hu) (ad4 h)
 |xk a0 bX=>exact yk.of aqc (λA W u hu=>ak9 hu) (ad6 h)
 |yZ a0 bX=>exact yk.of aqd (λA W u hu=>ala hu) (ad5 h)
def aec{hp ab ai Q}(h:FA hp ab ai Q):Bu prog 18 [J.of ab,J.of ai] hp Q:=by
 unfold FA at h;refine bL.of func18 I ntmps18 I λW A=>ay.block ?_;refine Bt (σ:=(aL Cell)) (ε:=(Bool×(aL Cell))) (γ:=Unit) (δ:=Unit) h 0 [0,1] (λs1 g1=>[]) (λs1 g1=>[]) (λs1 g1=>a1 s1) (λaw=>Exit.exit 0) (λaw g1=>[(10,J.of aw.1)]) (λaw g1=>[]) (λaw g1=>a1 aw.2) () (λs1 R h g1=>?_) (λav h g1=>?_)
 ·refine ay.seq (b3 (cD ?_));refine aj.bF h λbz dq h=>aj.bF h λc1 dv h=>aj.bF h λao bs h=>ae.eH (dx.obj 0 I (rv dv) SV (OI bs) I ⟨j2 (ah I) dq,trivial⟩) I I I ?_;refine go2 (λh=>?_) (λh=>?_)
  ·refine ae.Rx 0 I (rv dv) I λau7 Tk=>bA (hZ (i:=0) (q:=0) (β:=gy) (γ:=gn) yB (ah I) I I) ?_;refine bA (rp (i:=1) underlying91 (ah I) I I) ?_;refine aO ?_;refine ae.Si (Cell.oN c1.1 c1.2.1 c1.2.2) 2 2 Tk I I I (ae.df (L2:=(a1 s1)) (by rw[Xt (rv dv)];rfl) ?_);refine aO ?_;refine ae.Rx 0 I (rv dv) I λzj tB=>bA (hZ (i:=0) (q:=0) (β:=gy) (γ:=gn) yB (ah I) I I) ?_;refine cD ?_;refine aj.bF h λaJ cT h=>bA (nr (i:=1) (k:=aJ) (xs:=(c1.1.hX:aa gn)) underlying91 MH (ah I) (ah I) I (cN cT)) ?_;refine dA (bY ajY.fd) ?_;refine bA (r7 (i:=1) (k:=aJ) ((aP.id gn).comp Vj) (r:=(ax c1.1.hX aJ).AL) acF (ah I) I (cN cT).1 I I) ?_;refine dc ?_;refine ae.Si (Cell.oN c1.1 c1.2.1 c1.2.2) 2 2 tB I I I (ae.df (L2:=(a1 s1)) (by rw[Xt (rv dv)];rfl) ?_);refine aO ?_;refine ae.Rx 0 I (rv dv) I λadt Bv=>bA (hZ (i:=0) (q:=0) (β:=gy) (γ:=gn) yB (ah I) I I) ?_;refine cD ?_;refine aj.bF h λbx c4 h=>bA (HN (i:=1) (xs:=(c1.1.hX:aa gn)) (m:=0) (n:=bx) underlying91 MH (ah I) I .none (.some (ah I)) I (cN c4).2 ⟨vg _,Nat.le_of_lt_succ (cN c4).1⟩) ?_;refine aj.bF h λbp ez h=>ae.anu (i:=1) (n:=bx) (xs:=(c1.1.hX:aa gn)) (r:=bp) 31 I I (Nat.le_of_lt_succ (cN c4).1) (dt ez) ?_;refine aO ?_;refine ae.j3 (i:=0) (γ:=gn) (b':=({c1.1 with hX:=[]}:gy)) (os':=[(3,aQ c1.2.1 bp.length c1.2.2)]) ((aP.id gy).comp Ks) yB (ah I) (ah I) jn I I I I (aj.bF h λbQ hL h=>ae.Si (Cell.oN ({c1.1 with hX:=bp}:gy) c1.2.1 c1.2.2) 2 2 Bv I I I ?_);refine ae.df (L2:=(a1 bQ)) (by rw[<-dt hL];rfl) ?_;refine ca (ay.fc (cD ?_));refine ae.arY 0 0 I (ags h) I I ⟨ah I,trivial⟩ I λ⟨⟨aF,h⟩,cH⟩=>?_;refine ae.dy (ae.nil ?_);exact al.ml (al.yi h () 0 I .all)
  exact al.ui h () 0 I (by simp) I .all
 exact al.k5 (al.lv (al.ns (⟨⟨av.2,h⟩,()⟩: {r // _}×_) (.refl _) I I))
def agk{hp Q}(h:Hl hp Q):lU prog 15 [] hp Q:=by
 unfold Hl at h;refine bL.of func15 I ntmps15 I λW A=>?_;refine aO ?_;refine aj.bF h λao bs h=>eL 0 Tl (PG bs) λaw=>?_;refine ae.bt 0 I (aj.bF h λaF b2 h=>eL 1 acG (VM b2) λcH=>?_);refine ae.en 1 0 I acH (Wh (aj.hd h)) I I ⟨ah I,trivial⟩ I λ⟨⟨bg,h⟩,eI⟩=>ae.dy ?_;refine aO λbp ez bk h=>?_;refine ae.en 2 0 I SU (OX h) I I ⟨ah I,ah I,de 1,trivial⟩ I λ⟨⟨bw,h⟩,hn⟩=>ae.dy ?_;refine aO ?_;refine ae.en 2 0 I aqe (aec h) I I ⟨ah I,de 0,trivial⟩ I λ⟨⟨cd,h⟩,c7⟩=>ae.dy ?_;refine aO ?_;refine ae.en 2 0 I SU (OX h) I I ⟨ah I,ah I,de 1,trivial⟩ I λ⟨⟨cj,h⟩,gL⟩=>ae.dy ?_;refine aO ?_;refine aj.bF h λbz dq h=>aj.bF h λc1 dv h=>aj.bF h λcm mr h=>ae.xy (λhb=>dx.obj 2 I (rv (fi dv hb)) SV (OI (fi mr hb)) I ⟨j2 (ck I hb) (fi dq hb),trivial⟩) I I I I I ?_;refine aO ?_;refine aj.bF h λcA p4 h=>ae.xy (λhb=>dx.fR 2 I Ei (CD (fi p4 hb)) ⟨ck I hb,trivial⟩) I I I I I (aO ?_);exact al.eC (⟨⟨((((bw.1==0)&&(cj.1==0))&&(cm==1))&&(cA==2),cj.2),h⟩,()⟩: {r // _}×_) (fN 2) I I (dn I)
def ae3{hp ab ai Q}(h:Gq hp ab ai Q):lU prog 5 [J.of ab,J.of ai] hp Q:=by
 unfold Gq at h;refine bL.of func5 I ntmps5 I λW A=>?_;refine aO ?_;refine aj.bF h λao bs h=>eL 0 Tl (PG bs) λaw=>?_;refine ae.bt 0 I (aj.bF h λaF b2 h=>eL 1 acG (VM b2) λcH=>?_);refine cD ?_;refine aj.bF h λbg dR h=>eL 0 Tl (PG dR) λeI=>?_;refine aO λbk=>?_;obtain⟨arZ,aqf,aqg⟩:=aj.ex h;refine ei [4,5,6] ?_;refine ay.xi mixed [1,3] [(0,18,J.of aF.1),(2,20,J.of aF.1)] ?_;refine gT.md [] [0,2] [1] ⟨?_,trivial⟩;refine im.of (ks:=[]) (λx:Subtype arZ=>[(19,J.of x.1.1)]) (λx=>[]) (λx=>(aI bk aF.1::aI eI bg::aI aw aF.2::a1 x.1.2)) (λ⟨bw,SX⟩=>?_) (λo a6 dO jh aD k=>?_)
 ·have h:=aqg bw SX;refine gT.md [0] [2] [3] ⟨im.tail [2,1,0] ?_,trivial⟩;refine ae.df (L2:=(aI bk aF.1::aI eI bg::aI aw aF.2::a1 bw.2)) I (ae.le (E':=[(4,J.of false),(5,J.cr bk),(6,J.cr eI),(19,J.of bw.1),(20,J.of aF.1)]) .all (aj.bF h λcd hB h=>eL 0 aqh (agz hB) λhn=>?_));refine aO ?_;refine Bt (σ:=Int×Int×cW×dM×(aL Cell)) (ε:=(Int×Int×Bool×cW×dM×(aL Cell))⊕(Int×Int×Bool×Bool×Bool×Bool×Bool×cW×dM×(aL Cell))) (γ:=Unit) (δ:=Unit) h 4 [4,5,6,7,8] (λs1 g1=>[(9,J.of s1.1),(10,J.of s1.2.1)]) (λs1 g1=>[(0,aI hn s1.2.2.1),(2,aI eI s1.2.2.2.1)]) (λs1 g1=>a1 s1.2.2.2.2) (λc7=>Sum.elim (λc7=>Exit.exit 0) (λc7=>Exit.ret) c7) (λc7 g1=>Sum.elim (λc7=>[(9,J.of c7.1),(10,J.of c7.2.1),(27,J.of c7.2.2.1)]) (λc7=>[(9,J.of c7.1),(10,J.of c7.2.1),(11,J.of c7.2.2.1),(12,J.of c7.2.2.2.1),(27,J.of c7.2.2.2.2.1),(37,J.of c7.2.2.2.2.2.1),(53,J.of c7.2.2.2.2.2.2.1)]) c7) (λc7 g1=>Sum.elim (λc7=>[(0,aI hn c7.2.2.2.1),(2,aI eI c7.2.2.2.2.1)]) (λc7=>[(0,aI hn c7.2.2.2.2.2.2.2.1),(2,aI eI c7.2.2.2.2.2.2.2.2.1)]) c7) (λc7 g1=>Sum.elim (λc7=>a1 c7.2.2.2.2.2) (λc7=>a1 c7.2.2.2.2.2.2.2.2.2) c7) () (λs1 R h g1=>?_) (λav h g1=>?_)
  ·refine aO ?_;refine aj.bF h λcj ih h=>iX (λhb=>bj.MQ (z:=(s1.2.2.2.1:dM)) 2 25 I (Nt hb) I HF (ja aa5 (aeN (fi ih hb)) ⟨ah I,trivial⟩)) ?_;refine go2 (λh=>?_) (λh=>?_)
   ·refine ae.bt 2 I (ae.bt 1 I (ae.pG (eD.en 4 2 I aqi (agr h) I I ⟨ah I,ah I,ah I,trivial⟩) I I I λ⟨⟨cm,h⟩,gL⟩=>?_));refine ae.dy ?_;refine aO ?_;refine aj.bF h λm1 bS h=>qL (γ:=Unit) 4 [4,5,6,7,8,10,11,12,27,37] (λg2=>[(9,J.of m1)]) (λg2=>[]) (λg2=>a1 cm.2.2.2.2) (λg2=>?_) (λhm ag=>?_) (λhm ag=>?_)
    ·refine aO ?_;refine ae.Ui (γ:=Unit) h (λy=>J.of y.1) (λy g=>(aI hn cm.2.2.1::aI eI cm.2.2.2.1::aI bk aF.1::aI aw aF.2::a1 y.2)) () I I I I I I (λhb hm=>by refine eD.to ?_ (eD.en 4 1 I aqj (agq hm) I I ?_);exact λ_=>rfl;exact⟨ck I hb,ck I hb,trivial⟩) λcA lB h=>?_;refine aO ?_;refine aj.bF h λbz dq h=>aj.bF h λc1 dv h=>aj.bF h λgJ uv h=>ae.xy (λhb=>dx.obj 4 I (rv (fi dv hb)) SV (OI (fi uv hb)) I ⟨j2 (ck I hb) (fi dq hb),trivial⟩) I I I I I ?_;refine go2 (λh=>?_) (λh=>?_)
     ·exact al.bt 2 I (al.bt 1 I (al.ui h () 0 I (by simp) I .all))
     exact al.bt 2 I (al.bt 1 I (al.yi h () 0 I .all))
    ·have h:=fu ag bS;exact go
    have h:=fv ag bS;exact go
   exact al.ui h () 0 I (by simp) I .all
  rcases av with av|av
  ·simp only[Sum.elim_inl]at h;refine aO ?_;refine ae.bt 2 I (ae.bt 1 I (aj.bF h λiy sk h=>ae.pG (eD.en 4 2 I aqk (agj sk) I I ⟨ah I,ah I,ah I,trivial⟩) I I I λJW=>ae.dy ?_));refine cD ?_;refine ae.Ui (γ:=Unit) h (λy=>J.of y.1) (λy g=>(aI hn av.2.2.2.1::aI eI iy.2::aI bk aF.1::aI aw aF.2::a1 y.2)) () I I I I I I (λhb hm=>by refine eD.to ?_ (eD.en 4 0 I aql (agk hm) I I ?_);exact λ_=>rfl;exact trivial) λh6 tL h=>?_;refine aO ?_;exact al.eC (⟨⟨(iy.1&&h6.1,h6.2),h⟩,()⟩: {r // _}×_) (fN 4) I I (dn I)
  simp only[Sum.elim_inr]at h;exact al.j6 (al.ret (al.eC (⟨⟨(false,av.2.2.2.2.2.2.2.2.2),h⟩,()⟩: {r // _}×_) (fN 4) I I (dn I)))
 cases a6;refine ae.en 3 0 I acH (Wh aqf) I I ⟨ah (aD I),trivial⟩ I λ⟨⟨bw,SX⟩,_⟩=>ae.dy (ae.nil ?_);exact k ⟨bw,SX⟩
end Go.Proofs.YtppgfphgdogpeaaGreat
