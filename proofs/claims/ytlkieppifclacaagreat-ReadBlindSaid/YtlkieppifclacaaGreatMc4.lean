/-
  Each function meets its functional program. Conditions: none.
-/
import Derived.Test.YtlkieppifclacaaGreatMc0
import Derived.Test.YtlkieppifclacaaGreatMc1
import Derived.Test.YtlkieppifclacaaGreatMc2
import Derived.Test.YtlkieppifclacaaGreatMc3
set_option linter.defProp false
set_option linter.unusedVariables false
set_option linter.unusedSimpArgs false
set_option maxRecDepth 100000
set_option maxHeartbeats 2000000
namespace Go.Proofs.YtlkieppifclacaaGreat
open Go Gv Go.Proofs.Tryz
attribute [local irreducible] ad ay aq bj aU ei e9 ff J.of J.ptr J.eq J.cond J.b7
def afY{hp ab ai aG b5 Q}(h:GZ hp ab ai aG b5 Q):lM prog 10 [J.of ab,J.of ai,J.of aG,J.of b5] hp Q:=by
 unfold GZ at h;refine bV.of func10 I ntmps10 I λW A=>bU (cS (fr ?_));refine bB ?_;refine ah.bI h λal bx h=>e2 0 NI (LO bx) λaw=>?_;refine ad.bW 0 I (ah.bI h λaF cg h=>e2 1 abH (VV cg) λb9=>?_);refine bB ?_;refine ah.bI h λbm eD h=>e2 0 NI (LO eD) λdM=>?_;refine bB ?_;refine ah.bI h λbG ft h=>e2 0 NI (LO ft) λh4=>?_;refine ad.oL (z:=(default:aD)) [3,4] aiM SV I λa6=>ad.own (α:=df) 88 (ad.own (α:=bw) 64 (ad.rE (i:=2) (os':=[]) ju (ag I) (XK (ag I)) I (ad.n3 2 I (cS ?_))));refine cS (fr ?_);refine bQ (bC A4.fd) ?_;refine EL 2 C0 yh (fr ?_);refine ad.qd (α:=bw) (r:=([]:aa bw)) underlying27 jJ rK I I (.nil) I λeV=>bQ (bC hr.fd) ?_;refine gC 3 qF gv ?_;refine ah.bI h λbR gO h=>gY 0 underlying27 jJ rK gO λh9 dN=>?_;refine bQ (bC hr.fd) ?_;refine ad.Tl 3 I (ad.ik (i:=3) (γ:=bw) (b':=({({aF.1 with cV:=([]:aa cY)}:aD)with bh:=[]}:aD)) (os':=[(4,aH h9 bR.length dN)]) ((aP.id aD).comp qF) gv (ag I) (ag I) ho I I I I (fr (ad.qd (α:=df) (r:=([]:aa df)) underlying26 sC SS I I (.nil) I λoS=>bQ (bC xT.fd) ?_)));refine Tk 4 vH wE ?_;refine ah.bI h λb8 ib h=>gY 0 underlying26 sC SS ib λkE hZ=>?_;refine bQ (bC xT.fd) ?_;refine ad.ik (i:=4) (γ:=df) (b':=({({({aF.1 with cV:=([]:aa cY)}:aD)with bh:=[]}:aD)with bK:=[]}:aD)) (os':=[(3,aH kE b8.length hZ),(4,aH h9 bR.length dN)]) ((aP.id aD).comp vH) wE (ag I) (ag I) ho I I I I (fW (bU (bQ (bC hr.fd) ?_)));refine bg (dn (i:=4) (q:=1) (β:=aD) (γ:=bw) gv (ag I) I I) ?_;refine bg (pt (i:=1) underlying27 (ag I) I I) ?_;refine bB (b0 (ay.block ?_));refine ah.bI h λar ao h=>vk (σ:=Int×(aa bw)) (ε:=(Int×Bool×(aa bw))) (γ:=(aA Nat×Nat)) (δ:=(aA Nat×Nat)) ao 8 [0,1,2,3,8,9,10,11,49] (λs1 g1=>[(50,J.of s1.1)]) (λs1 g1=>[(1,⟨g1.1,.row 64 s1.2 g1.2⟩),(4,⟨some a6,.bX ({({({aF.1 with cV:=([]:aa cY)}:aD)with bh:=[]}:aD)with bK:=[]}:aD) [(3,aH kE b8.length hZ),(4,aH g1.1 s1.2.length g1.2)]⟩)]) (λs1 g1=>aX hp) (λfm=>Exit.exit 0) (λfm g1=>[(50,J.of fm.1),(51,J.of fm.2.1)]) (λfm g1=>[(1,⟨g1.1,.row 64 fm.2.2 g1.2⟩),(4,⟨some a6,.bX ({({({aF.1 with cV:=([]:aa cY)}:aD)with bh:=[]}:aD)with bK:=[]}:aD) [(3,aH kE b8.length hZ),(4,aH g1.1 fm.2.2.length g1.2)]⟩)]) (λfm g1=>aX hp) (h9,dN) (λs1 r h g1=>?_) (λg1=>?_)
 ·refine bU (dA l2 (fW ?_));refine ki h (λh=>?_) λh=>?_
  ·refine jx (ay.seq (ay.block (bU (bB ?_))));refine cS (b0 ?_);refine aB h λc0 iq h=>aB h λz3 kM h=>ay.MW mixed 12 (cu 12 0) I I (bn.cD (γ:=Unit) [0,1,2,3,8,9,10,11,12,49,50,51,52] 5 3 3 (cu 12 511) (λRF=>[(57,J.eq (aH g1.1 z3.length g1.2)),(58,J.of s1.1)]) (λRF=>[⟨kE,.row 88 b8 hZ⟩,⟨g1.1,.row 64 z3 g1.2⟩,⟨none,.row 64 ([]:aa bw) 0⟩,⟨none,.row 88 ([]:aa df) 0⟩,⟨some a6,.bX ({({({aF.1 with cV:=([]:aa cY)}:aD)with bh:=[]}:aD)with bK:=[]}:aD) [(3,aH kE b8.length hZ),(4,aH g1.1 z3.length g1.2)]⟩]) (λRF=>aX hp) (λRF=>?_) (λSq=>?_))
   ·refine bn.tail 9 I (by kernel_rfl) ?_;refine aB h λfR ve h=>bg (jV (i:=1) (k:=fR) (xs:=(z3:aa bw)) underlying27 jJ (ag I) (ag I) I (c4 ve)) ?_;refine bQ (bC alk.fd) ?_;refine ad.oN (i:=1) (k:=fR) ((aP.id bw).comp C4) (v:=(64:Int)) (r:=(dr z3 fR ({(av z3 fR)with ht:=64}:bw):aa bw)) cd (ag I) (dd 64) I (c4 ve).1 I I (ad.hv (m:=(dr z3 fR ({(av z3 fR)with ht:=64}:bw)).length) 57 I (hW I) (ad.uP (m:=(dr z3 fR ({(av z3 fR)with ht:=64}:bw)).length) 4 1 I I (hW I) (ad.nil (aq.mW (aq.next (ay.eQ (dA jU ?_)))))));refine bB (ad.nil ?_);cases h;exact ia (g1.1,g1.2) 0
   refine bn.cD (γ:=Unit) [0,1,2,3,8,9,10,11,12,49,50,51,52] 5 3 4 (cu 12 495) (λRG=>[(56,J.eq (.pointer (some ⟨a6,0+4,none⟩))),(58,J.of s1.1)]) (λRG=>[⟨kE,.row 88 b8 hZ⟩,⟨g1.1,.row 64 z3 g1.2⟩,⟨none,.row 64 ([]:aa bw) 0⟩,⟨none,.row 88 ([]:aa df) 0⟩,⟨some a6,.bX ({({({aF.1 with cV:=([]:aa cY)}:aD)with bh:=[]}:aD)with bK:=[]}:aD) [(3,aH kE b8.length hZ),(4,aH g1.1 z3.length g1.2)]⟩]) (λRG=>aX hp) (λRG=>?_) (λSr=>?_)
   ·refine bn.s1 4 ?_
    ·refine bg (dn (i:=4) (q:=1) (β:=aD) (γ:=bw) gv (ag I) I I) ?_;exact ad.bo (Sq ())
   refine bn.cD (γ:=Unit) [0,1,2,3,8,9,10,11,12,49,50,51,52] 5 3 4 (cu 12 479) (λRH=>[(57,J.eq (aH g1.1 z3.length g1.2))]) (λRH=>[⟨kE,.row 88 b8 hZ⟩,⟨g1.1,.row 64 z3 g1.2⟩,⟨none,.row 64 ([]:aa bw) 0⟩,⟨none,.row 88 ([]:aa df) 0⟩,⟨some a6,.bX ({({({aF.1 with cV:=([]:aa cY)}:aD)with bh:=[]}:aD)with bK:=[]}:aD) [(3,aH kE b8.length hZ),(4,aH g1.1 z3.length g1.2)]⟩]) (λRH=>aX hp) (λRH=>?_) (λaaD=>?_)
   ·refine bn.s1 5 ?_
    ·refine bB ?_;exact ad.bo (Sq ())
   refine bn.cD (γ:=Unit) [0,1,2,3,8,9,10,11,12,49,50,51,52] 0 8 4 (cu 12 255) (λRI=>[(57,J.eq (aH g1.1 s1.2.length g1.2)),(58,J.of s1.1),(60,J.eq (.pointer (some ⟨g1.1.getD 0,c0*8+7,none⟩)))]) (λRI=>[]) (λRI=>aX hp) (λRI=>?_) (λSs=>?_)
   ·refine bn.s1 8 ?_
    ·refine ad.oN (i:=1) (k:=c0) ((aP.id bw).comp vF) (v:=(ByteArray.mk #[]:ByteArray)) (r:=(z3:aa bw)) kO (ag I) (fX (ByteArray.mk #[])) I (c4 iq).1 I (di kM) (ad.hv (m:=z3.length) 57 I (hW (di kM)) (ad.uP (m:=z3.length) 4 1 I I (hW (di kM)) ?_));exact ad.bo (Sq ())
   refine bn.cD (γ:=Unit) [0,1,2,3,8,9,10,11,12,49,50,51,52] 5 3 5 (cu 12 487) (λAn=>[(58,J.of s1.1)]) (λAn=>[⟨kE,.row 88 b8 hZ⟩,⟨g1.1,.row 64 z3 g1.2⟩,⟨none,.row 64 ([]:aa bw) 0⟩,⟨none,.row 88 ([]:aa df) 0⟩,⟨some a6,.bX ({({({aF.1 with cV:=([]:aa cY)}:aD)with bh:=[]}:aD)with bK:=[]}:aD) [(3,aH kE b8.length hZ),(4,aH g1.1 z3.length g1.2)]⟩]) (λAn=>aX hp) (λAn=>?_) (λMX=>?_)
   ·refine bn.s1 3 ?_
    ·refine bQ (bC hr.fd) ?_;exact ad.bo (Sr ())
   refine bn.cD (γ:=Unit) [0,1,2,3,8,9,10,11,12,49,50,51,52] 5 3 5 (cu 12 463) (λAo=>[(56,J.eq (.pointer (some ⟨a6,0+4,none⟩)))]) (λAo=>[⟨kE,.row 88 b8 hZ⟩,⟨g1.1,.row 64 z3 g1.2⟩,⟨none,.row 64 ([]:aa bw) 0⟩,⟨none,.row 88 ([]:aa df) 0⟩,⟨some a6,.bX ({({({aF.1 with cV:=([]:aa cY)}:aD)with bh:=[]}:aD)with bK:=[]}:aD) [(3,aH kE b8.length hZ),(4,aH g1.1 z3.length g1.2)]⟩]) (λAo=>aX hp) (λAo=>?_) (λMY=>?_)
   ·refine bn.s2 4 5 ?_ ?_
    ·refine bg (dn (i:=4) (q:=1) (β:=aD) (γ:=bw) gv (ag I) I I) ?_;exact ad.bo (aaD ())
    refine bB ?_;exact ad.bo (Sr ())
   refine bn.cD (γ:=Unit) [0,1,2,3,8,9,10,11,12,49,50,51,52] 0 8 5 (cu 12 239) (λAp=>[(56,J.eq (.pointer (some ⟨a6,0+4,none⟩))),(58,J.of s1.1),(60,J.eq (.pointer (some ⟨g1.1.getD 0,c0*8+7,none⟩)))]) (λAp=>[]) (λAp=>aX hp) (λAp=>?_) (λBd=>?_)
   ·refine bn.s2 4 8 ?_ ?_
    ·refine bg (dn (i:=4) (q:=1) (β:=aD) (γ:=bw) gv (ag I) I I) ?_;exact ad.bo (Ss ())
    refine ad.oN (i:=1) (k:=c0) ((aP.id bw).comp vF) (v:=(ByteArray.mk #[]:ByteArray)) (r:=(z3:aa bw)) kO (ag I) (fX (ByteArray.mk #[])) I (c4 iq).1 I (di kM) (ad.uP (m:=z3.length) 4 1 I I (hW (di kM)) ?_);exact ad.bo (Sr ())
   refine bn.cD (γ:=Unit) [0,1,2,3,8,9,10,11,12,49,50,51,52] 0 8 5 (cu 12 223) (λAq=>[(57,J.eq (aH g1.1 s1.2.length g1.2)),(60,J.eq (.pointer (some ⟨g1.1.getD 0,c0*8+7,none⟩)))]) (λAq=>[]) (λAq=>aX hp) (λAq=>?_) (λEa=>?_)
   ·refine bn.s2 5 8 ?_ ?_
    ·refine bB ?_;exact ad.bo (Ss ())
    refine ad.oN (i:=1) (k:=c0) ((aP.id bw).comp vF) (v:=(ByteArray.mk #[]:ByteArray)) (r:=(z3:aa bw)) kO (ag I) (fX (ByteArray.mk #[])) I (c4 iq).1 I (di kM) (ad.hv (m:=z3.length) 57 I (hW (di kM)) (ad.uP (m:=z3.length) 4 1 I I (hW (di kM)) ?_));exact ad.bo (aaD ())
   refine bn.cD (γ:=Unit) [0,1,2,3,8,9,10,11,12,49,50,51,52] 0 8 5 (cu 12 127) (λAr=>[(57,J.eq (aH g1.1 s1.2.length g1.2)),(58,J.of s1.1),(59,J.eq (.pointer (some ⟨g1.1.getD 0,c0*8,none⟩)))]) (λAr=>[]) (λAr=>aX hp) (λAr=>?_) (λEb=>?_)
   ·refine bn.s1 7 ?_
    ·refine bQ (bC xS.fd) ?_;exact ad.bo (Ss ())
   refine bn.cD (γ:=Unit) [0,1,2,3,8,9,10,11,12,49,50,51,52] 5 3 6 (cu 12 455) (λAs=>[]) (λAs=>[⟨kE,.row 88 b8 hZ⟩,⟨g1.1,.row 64 z3 g1.2⟩,⟨none,.row 64 ([]:aa bw) 0⟩,⟨none,.row 88 ([]:aa df) 0⟩,⟨some a6,.bX ({({({aF.1 with cV:=([]:aa cY)}:aD)with bh:=[]}:aD)with bK:=[]}:aD) [(3,aH kE b8.length hZ),(4,aH g1.1 z3.length g1.2)]⟩]) (λAs=>aX hp) (λAs=>?_) (λH9=>?_)
   ·refine bn.s2 3 5 ?_ ?_
    ·refine bQ (bC hr.fd) ?_;exact ad.bo (MY ())
    refine bB ?_;exact ad.bo (MX ())
   refine bn.cD (γ:=Unit) [0,1,2,3,8,9,10,11,12,49,50,51,52] 0 8 6 (cu 12 231) (λAu=>[(58,J.of s1.1),(60,J.eq (.pointer (some ⟨g1.1.getD 0,c0*8+7,none⟩)))]) (λAu=>[]) (λAu=>aX hp) (λAu=>?_) (λIa=>?_)
   ·refine bn.s2 3 8 ?_ ?_
    ·refine bQ (bC hr.fd) ?_;exact ad.bo (Bd ())
    refine ad.oN (i:=1) (k:=c0) ((aP.id bw).comp vF) (v:=(ByteArray.mk #[]:ByteArray)) (r:=(z3:aa bw)) kO (ag I) (fX (ByteArray.mk #[])) I (c4 iq).1 I (di kM) (ad.uP (m:=z3.length) 4 1 I I (hW (di kM)) ?_);exact ad.bo (MX ())
   refine bn.cD (γ:=Unit) [0,1,2,3,8,9,10,11,12,49,50,51,52] 0 8 6 (cu 12 207) (λAv=>[(56,J.eq (.pointer (some ⟨a6,0+4,none⟩))),(60,J.eq (.pointer (some ⟨g1.1.getD 0,c0*8+7,none⟩)))]) (λAv=>[]) (λAv=>aX hp) (λAv=>?_) (λIb=>?_)
   ·refine bn.gD [4,5,8] ⟨⟨_,rfl,?_⟩,⟨_,rfl,?_⟩,⟨_,rfl,?_⟩,trivial⟩
    ·refine bg (dn (i:=4) (q:=1) (β:=aD) (γ:=bw) gv (ag I) I I) ?_;exact ad.bo (Ea ())
    ·refine bB ?_;exact ad.bo (Bd ())
    refine ad.oN (i:=1) (k:=c0) ((aP.id bw).comp vF) (v:=(ByteArray.mk #[]:ByteArray)) (r:=(z3:aa bw)) kO (ag I) (fX (ByteArray.mk #[])) I (c4 iq).1 I (di kM) (ad.uP (m:=z3.length) 4 1 I I (hW (di kM)) ?_);exact ad.bo (MY ())
   refine bn.cD (γ:=Unit) [0,1,2,3,8,9,10,11,12,49,50,51,52] 0 8 6 (cu 12 111) (λAw=>[(56,J.eq (.pointer (some ⟨a6,0+4,none⟩))),(58,J.of s1.1),(59,J.eq (.pointer (some ⟨g1.1.getD 0,c0*8,none⟩)))]) (λAw=>[]) (λAw=>aX hp) (λAw=>?_) (λBe=>?_)
   ·refine bn.s2 4 7 ?_ ?_
    ·refine bg (dn (i:=4) (q:=1) (β:=aD) (γ:=bw) gv (ag I) I I) ?_;exact ad.bo (Eb ())
    refine bQ (bC xS.fd) ?_;exact ad.bo (Bd ())
   refine bn.cD (γ:=Unit) [0,1,2,3,8,9,10,11,12,49,50,51,52] 0 8 6 (cu 12 95) (λAx=>[(57,J.eq (aH g1.1 s1.2.length g1.2)),(59,J.eq (.pointer (some ⟨g1.1.getD 0,c0*8,none⟩)))]) (λAx=>[]) (λAx=>aX hp) (λAx=>?_) (λIc=>?_)
   ·refine bn.s2 5 7 ?_ ?_
    ·refine bB ?_;exact ad.bo (Eb ())
    refine bQ (bC xS.fd) ?_;exact ad.bo (Ea ())
   refine bn.cD (γ:=Unit) [0,1,2,3,8,9,10,11,12,49,50,51,52] 0 8 6 (cu 12 63) (λAy=>[(54,J.eq (aH g1.1 s1.2.length g1.2)),(55,J.of s1.1),(57,J.eq (aH g1.1 s1.2.length g1.2)),(58,J.of s1.1)]) (λAy=>[]) (λAy=>aX hp) (λAy=>?_) (λwx=>?_)
   ·refine bn.s1 6 ?_
    ·refine bg (jV (i:=1) (k:=c0) (xs:=(s1.2:aa bw)) underlying27 jJ (ag I) (ag I) I (c4 iq)) ?_;exact ad.bo (Eb ())
   refine bn.cD (γ:=Unit) [0,1,2,3,8,9,10,11,12,49,50,51,52] 0 8 7 (cu 12 61) (λAz=>[(53,J.eq (.pointer (some ⟨a6,0+4,none⟩))),(55,J.of s1.1),(57,J.eq (aH g1.1 s1.2.length g1.2)),(58,J.of s1.1)]) (λAz=>[]) (λAz=>aX hp) (λAz=>?_) (λEc=>?_)
   ·refine bn.s1 1 ?_
    ·refine bg (dn (i:=4) (q:=1) (β:=aD) (γ:=bw) gv (ag I) I I) ?_;exact ad.bo (wx ())
   refine bn.cD (γ:=Unit) [0,1,2,3,8,9,10,11,12,49,50,51,52] 0 8 7 (cu 12 59) (λAA=>[(54,J.eq (aH g1.1 s1.2.length g1.2)),(57,J.eq (aH g1.1 s1.2.length g1.2)),(58,J.of s1.1)]) (λAA=>[]) (λAA=>aX hp) (λAA=>?_) (λEd=>?_)
   ·refine bn.s1 2 ?_
    ·refine bB ?_;exact ad.bo (wx ())
   refine bn.cD (γ:=Unit) [0,1,2,3,8,9,10,11,12,49,50,51,52] 0 8 7 (cu 12 199) (λAB=>[(60,J.eq (.pointer (some ⟨g1.1.getD 0,c0*8+7,none⟩)))]) (λAB=>[]) (λAB=>aX hp) (λAB=>?_) (λMZ=>?_)
   ·refine bn.gD [3,5,8] ⟨⟨_,rfl,?_⟩,⟨_,rfl,?_⟩,⟨_,rfl,?_⟩,trivial⟩
    ·refine bQ (bC hr.fd) ?_;exact ad.bo (Ib ())
    ·refine bB ?_;exact ad.bo (Ia ())
    refine ad.oN (i:=1) (k:=c0) ((aP.id bw).comp vF) (v:=(ByteArray.mk #[]:ByteArray)) (r:=(z3:aa bw)) kO (ag I) (fX (ByteArray.mk #[])) I (c4 iq).1 I (di kM) (ad.uP (m:=z3.length) 4 1 I I (hW (di kM)) ?_);exact ad.bo (H9 ())
   refine bn.cD (γ:=Unit) [0,1,2,3,8,9,10,11,12,49,50,51,52] 0 8 7 (cu 12 103) (λAD=>[(58,J.of s1.1),(59,J.eq (.pointer (some ⟨g1.1.getD 0,c0*8,none⟩)))]) (λAD=>[]) (λAD=>aX hp) (λAD=>?_) (λBf=>?_)
   ·refine bn.s2 3 7 ?_ ?_
    ·refine bQ (bC hr.fd) ?_;exact ad.bo (Be ())
    refine bQ (bC xS.fd) ?_;exact ad.bo (Ia ())
   refine bn.cD (γ:=Unit) [0,1,2,3,8,9,10,11,12,49,50,51,52] 0 8 7 (cu 12 79) (λAE=>[(56,J.eq (.pointer (some ⟨a6,0+4,none⟩))),(59,J.eq (.pointer (some ⟨g1.1.getD 0,c0*8,none⟩)))]) (λAE=>[]) (λAE=>aX hp) (λAE=>?_) (λEe=>?_)
   ·refine bn.gD [4,5,7] ⟨⟨_,rfl,?_⟩,⟨_,rfl,?_⟩,⟨_,rfl,?_⟩,trivial⟩
    ·refine bg (dn (i:=4) (q:=1) (β:=aD) (γ:=bw) gv (ag I) I I) ?_;exact ad.bo (Ic ())
    ·refine bB ?_;exact ad.bo (Be ())
    refine bQ (bC xS.fd) ?_;exact ad.bo (Ib ())
   refine bn.cD (γ:=Unit) [0,1,2,3,8,9,10,11,12,49,50,51,52] 0 8 7 (cu 12 47) (λAF=>[(54,J.eq (aH g1.1 s1.2.length g1.2)),(55,J.of s1.1),(56,J.eq (.pointer (some ⟨a6,0+4,none⟩))),(58,J.of s1.1)]) (λAF=>[]) (λAF=>aX hp) (λAF=>?_) (λwy=>?_)
   ·refine bn.s2 4 6 ?_ ?_
    ·refine bg (dn (i:=4) (q:=1) (β:=aD) (γ:=bw) gv (ag I) I I) ?_;exact ad.bo (wx ())
    refine bg (jV (i:=1) (k:=c0) (xs:=(s1.2:aa bw)) underlying27 jJ (ag I) (ag I) I (c4 iq)) ?_;exact ad.bo (Be ())
   refine bn.cD (γ:=Unit) [0,1,2,3,8,9,10,11,12,49,50,51,52] 0 8 7 (cu 12 31) (λAG=>[(54,J.eq (aH g1.1 s1.2.length g1.2)),(55,J.of s1.1),(57,J.eq (aH g1.1 s1.2.length g1.2))]) (λAG=>[]) (λAG=>aX hp) (λAG=>?_) (λBg=>?_)
   ·refine bn.s2 5 6 ?_ ?_
    ·refine bB ?_;exact ad.bo (wx ())
    refine bg (jV (i:=1) (k:=c0) (xs:=(s1.2:aa bw)) underlying27 jJ (ag I) (ag I) I (c4 iq)) ?_;exact ad.bo (Ic ())
   refine bn.cD (γ:=Unit) [0,1,2,3,8,9,10,11,12,49,50,51,52] 0 8 8 (cu 12 60) (λAH=>[(55,J.of s1.1),(57,J.eq (aH g1.1 s1.2.length g1.2)),(58,J.of s1.1)]) (λAH=>[]) (λAH=>aX hp) (λAH=>?_) (λIe=>?_)
   ·refine bn.s1 0 ?_
    ·refine bQ (bC hr.fd) ?_;exact ad.bo (Ec ())
   refine bn.cD (γ:=Unit) [0,1,2,3,8,9,10,11,12,49,50,51,52] 0 8 8 (cu 12 57) (λAI=>[(53,J.eq (.pointer (some ⟨a6,0+4,none⟩))),(57,J.eq (aH g1.1 s1.2.length g1.2)),(58,J.of s1.1)]) (λAI=>[]) (λAI=>aX hp) (λAI=>?_) (λBh=>?_)
   ·refine bn.s2 1 2 ?_ ?_
    ·refine bg (dn (i:=4) (q:=1) (β:=aD) (γ:=bw) gv (ag I) I I) ?_;exact ad.bo (Ed ())
    refine bB ?_;exact ad.bo (Ec ())
   refine bn.cD (γ:=Unit) [0,1,2,3,8,9,10,11,12,49,50,51,52] 0 8 8 (cu 12 45) (λAJ=>[(53,J.eq (.pointer (some ⟨a6,0+4,none⟩))),(55,J.of s1.1),(56,J.eq (.pointer (some ⟨a6,0+4,none⟩))),(58,J.of s1.1)]) (λAJ=>[]) (λAJ=>aX hp) (λAJ=>?_) (λx8=>?_)
   ·refine bn.s2 1 4 ?_ ?_
    ·refine bg (dn (i:=4) (q:=1) (β:=aD) (γ:=bw) gv (ag I) I I) ?_;exact ad.bo (wy ())
    refine bg (dn (i:=4) (q:=1) (β:=aD) (γ:=bw) gv (ag I) I I) ?_;exact ad.bo (Ec ())
   refine bn.cD (γ:=Unit) [0,1,2,3,8,9,10,11,12,49,50,51,52] 0 8 8 (cu 12 29) (λAK=>[(53,J.eq (.pointer (some ⟨a6,0+4,none⟩))),(55,J.of s1.1),(57,J.eq (aH g1.1 s1.2.length g1.2))]) (λAK=>[]) (λAK=>aX hp) (λAK=>?_) (λx9=>?_)
   ·refine bn.s2 1 5 ?_ ?_
    ·refine bg (dn (i:=4) (q:=1) (β:=aD) (γ:=bw) gv (ag I) I I) ?_;exact ad.bo (Bg ())
    refine bB ?_;exact ad.bo (Ec ())
   refine bn.cD (γ:=Unit) [0,1,2,3,8,9,10,11,12,49,50,51,52] 0 8 8 (cu 12 43) (λAL=>[(54,J.eq (aH g1.1 s1.2.length g1.2)),(56,J.eq (.pointer (some ⟨a6,0+4,none⟩))),(58,J.of s1.1)]) (λAL=>[]) (λAL=>aX hp) (λAL=>?_) (λBi=>?_)
   ·refine bn.s2 2 4 ?_ ?_
    ·refine bB ?_;exact ad.bo (wy ())
    refine bg (dn (i:=4) (q:=1) (β:=aD) (γ:=bw) gv (ag I) I I) ?_;exact ad.bo (Ed ())
   refine bn.cD (γ:=Unit) [0,1,2,3,8,9,10,11,12,49,50,51,52] 0 8 8 (cu 12 27) (λAM=>[(54,J.eq (aH g1.1 s1.2.length g1.2)),(57,J.eq (aH g1.1 s1.2.length g1.2))]) (λAM=>[]) (λAM=>aX hp) (λAM=>?_) (λEf=>?_)
   ·refine bn.s2 2 5 ?_ ?_
    ·refine bB ?_;exact ad.bo (Bg ())
    refine bB ?_;exact ad.bo (Ed ())
   refine bn.cD (γ:=Unit) [0,1,2,3,8,9,10,11,12,49,50,51,52] 0 8 8 (cu 12 71) (λAN=>[(59,J.eq (.pointer (some ⟨g1.1.getD 0,c0*8,none⟩)))]) (λAN=>[]) (λAN=>aX hp) (λAN=>?_) (λM0=>?_)
   ·refine bn.gD [3,5,7] ⟨⟨_,rfl,?_⟩,⟨_,rfl,?_⟩,⟨_,rfl,?_⟩,trivial⟩
    ·refine bQ (bC hr.fd) ?_;exact ad.bo (Ee ())
    ·refine bB ?_;exact ad.bo (Bf ())
    refine bQ (bC xS.fd) ?_;exact ad.bo (MZ ())
   refine bn.cD (γ:=Unit) [0,1,2,3,8,9,10,11,12,49,50,51,52] 0 8 8 (cu 12 39) (λAO=>[(54,J.eq (aH g1.1 s1.2.length g1.2)),(55,J.of s1.1),(58,J.of s1.1)]) (λAO=>[]) (λAO=>aX hp) (λAO=>?_) (λBj=>?_)
   ·refine bn.s2 3 6 ?_ ?_
    ·refine bQ (bC hr.fd) ?_;exact ad.bo (wy ())
    refine bg (jV (i:=1) (k:=c0) (xs:=(s1.2:aa bw)) underlying27 jJ (ag I) (ag I) I (c4 iq)) ?_;exact ad.bo (Bf ())
   refine bn.cD (γ:=Unit) [0,1,2,3,8,9,10,11,12,49,50,51,52] 0 8 8 (cu 12 15) (λAP=>[(54,J.eq (aH g1.1 s1.2.length g1.2)),(55,J.of s1.1),(56,J.eq (.pointer (some ⟨a6,0+4,none⟩)))]) (λAP=>[]) (λAP=>aX hp) (λAP=>?_) (λBk=>?_)
   ·refine bn.gD [4,5,6] ⟨⟨_,rfl,?_⟩,⟨_,rfl,?_⟩,⟨_,rfl,?_⟩,trivial⟩
    ·refine bg (dn (i:=4) (q:=1) (β:=aD) (γ:=bw) gv (ag I) I I) ?_;exact ad.bo (Bg ())
    ·refine bB ?_;exact ad.bo (wy ())
    refine bg (jV (i:=1) (k:=c0) (xs:=(s1.2:aa bw)) underlying27 jJ (ag I) (ag I) I (c4 iq)) ?_;exact ad.bo (Ee ())
   refine bn.cD (γ:=Unit) [0,1,2,3,8,9,10,11,12,49,50,51,52] 0 8 9 (cu 12 56) (λAQ=>[(57,J.eq (aH g1.1 s1.2.length g1.2)),(58,J.of s1.1)]) (λAQ=>[]) (λAQ=>aX hp) (λAQ=>?_) (λIg=>?_)
   ·refine bn.s2 0 2 ?_ ?_
    ·refine bQ (bC hr.fd) ?_;exact ad.bo (Bh ())
    refine bB ?_;exact ad.bo (Ie ())
   refine bn.cD (γ:=Unit) [0,1,2,3,8,9,10,11,12,49,50,51,52] 0 8 9 (cu 12 44) (λAR=>[(55,J.of s1.1),(56,J.eq (.pointer (some ⟨a6,0+4,none⟩))),(58,J.of s1.1)]) (λAR=>[]) (λAR=>aX hp) (λAR=>?_) (λBl=>?_)
   ·refine bn.s2 0 4 ?_ ?_
    ·refine bQ (bC hr.fd) ?_;exact ad.bo (x8 ())
    refine bg (dn (i:=4) (q:=1) (β:=aD) (γ:=bw) gv (ag I) I I) ?_;exact ad.bo (Ie ())
   refine bn.cD (γ:=Unit) [0,1,2,3,8,9,10,11,12,49,50,51,52] 0 8 9 (cu 12 28) (λAS=>[(55,J.of s1.1),(57,J.eq (aH g1.1 s1.2.length g1.2))]) (λAS=>[]) (λAS=>aX hp) (λAS=>?_) (λIh=>?_)
   ·refine bn.s2 0 5 ?_ ?_
    ·refine bQ (bC hr.fd) ?_;exact ad.bo (x9 ())
    refine bB ?_;exact ad.bo (Ie ())
   refine bn.cD (γ:=Unit) [0,1,2,3,8,9,10,11,12,49,50,51,52] 0 8 9 (cu 12 41) (λAT=>[(53,J.eq (.pointer (some ⟨a6,0+4,none⟩))),(56,J.eq (.pointer (some ⟨a6,0+4,none⟩))),(58,J.of s1.1)]) (λAT=>[]) (λAT=>aX hp) (λAT=>?_) (λBm=>?_)
   ·refine bn.gD [1,2,4] ⟨⟨_,rfl,?_⟩,⟨_,rfl,?_⟩,⟨_,rfl,?_⟩,trivial⟩
    ·refine bg (dn (i:=4) (q:=1) (β:=aD) (γ:=bw) gv (ag I) I I) ?_;exact ad.bo (Bi ())
    ·refine bB ?_;exact ad.bo (x8 ())
    refine bg (dn (i:=4) (q:=1) (β:=aD) (γ:=bw) gv (ag I) I I) ?_;exact ad.bo (Bh ())
   refine bn.cD (γ:=Unit) [0,1,2,3,8,9,10,11,12,49,50,51,52] 0 8 9 (cu 12 25) (λAU=>[(53,J.eq (.pointer (some ⟨a6,0+4,none⟩))),(57,J.eq (aH g1.1 s1.2.length g1.2))]) (λAU=>[]) (λAU=>aX hp) (λAU=>?_) (λIi=>?_)
   ·refine bn.gD [1,2,5] ⟨⟨_,rfl,?_⟩,⟨_,rfl,?_⟩,⟨_,rfl,?_⟩,trivial⟩
    ·refine bg (dn (i:=4) (q:=1) (β:=aD) (γ:=bw) gv (ag I) I I) ?_;exact ad.bo (Ef ())
    ·refine bB ?_;exact ad.bo (x9 ())
    refine bB ?_;exact ad.bo (Bh ())
   refine bn.cD (γ:=Unit) [0,1,2,3,8,9,10,11,12,49,50,51,52] 0 8 9 (cu 12 37) (λAV=>[(53,J.eq (.pointer (some ⟨a6,0+4,none⟩))),(55,J.of s1.1),(58,J.of s1.1)]) (λAV=>[]) (λAV=>aX hp) (λAV=>?_) (λBn=>?_)
   ·refine bn.s2 1 3 ?_ ?_
    ·refine bg (dn (i:=4) (q:=1) (β:=aD) (γ:=bw) gv (ag I) I I) ?_;exact ad.bo (Bj ())
    refine bQ (bC hr.fd) ?_;exact ad.bo (x8 ())
   refine bn.cD (γ:=Unit) [0,1,2,3,8,9,10,11,12,49,50,51,52] 0 8 9 (cu 12 13) (λAW=>[(53,J.eq (.pointer (some ⟨a6,0+4,none⟩))),(55,J.of s1.1),(56,J.eq (.pointer (some ⟨a6,0+4,none⟩)))]) (λAW=>[]) (λAW=>aX hp) (λAW=>?_) (λBo=>?_)
   ·refine bn.gD [1,4,5] ⟨⟨_,rfl,?_⟩,⟨_,rfl,?_⟩,⟨_,rfl,?_⟩,trivial⟩
    ·refine bg (dn (i:=4) (q:=1) (β:=aD) (γ:=bw) gv (ag I) I I) ?_;exact ad.bo (Bk ())
    ·refine bg (dn (i:=4) (q:=1) (β:=aD) (γ:=bw) gv (ag I) I I) ?_;exact ad.bo (x9 ())
    refine bB ?_;exact ad.bo (x8 ())
   refine bn.cD (γ:=Unit) [0,1,2,3,8,9,10,11,12,49,50,51,52] 0 8 9 (cu 12 35) (λAX=>[(54,J.eq (aH g1.1 s1.2.length g1.2)),(58,J.of s1.1)]) (λAX=>[]) (λAX=>aX hp) (λAX=>?_) (λIj=>?_)
   ·refine bn.s2 2 3 ?_ ?_
    ·refine bB ?_;exact ad.bo (Bj ())
    refine bQ (bC hr.fd) ?_;exact ad.bo (Bi ())
   refine bn.cD (γ:=Unit) [0,1,2,3,8,9,10,11,12,49,50,51,52] 0 8 9 (cu 12 11) (λAY=>[(54,J.eq (aH g1.1 s1.2.length g1.2)),(56,J.eq (.pointer (some ⟨a6,0+4,none⟩)))]) (λAY=>[]) (λAY=>aX hp) (λAY=>?_) (λIk=>?_)
   ·refine bn.gD [2,4,5] ⟨⟨_,rfl,?_⟩,⟨_,rfl,?_⟩,⟨_,rfl,?_⟩,trivial⟩
    ·refine bB ?_;exact ad.bo (Bk ())
    ·refine bg (dn (i:=4) (q:=1) (β:=aD) (γ:=bw) gv (ag I) I I) ?_;exact ad.bo (Ef ())
    refine bB ?_;exact ad.bo (Bi ())
   refine bn.cD (γ:=Unit) [0,1,2,3,8,9,10,11,12,49,50,51,52] 0 8 9 (cu 12 7) (λAZ=>[(54,J.eq (aH g1.1 s1.2.length g1.2)),(55,J.of s1.1)]) (λAZ=>[]) (λAZ=>aX hp) (λAZ=>?_) (λIl=>?_)
   ·refine bn.gD [3,5,6] ⟨⟨_,rfl,?_⟩,⟨_,rfl,?_⟩,⟨_,rfl,?_⟩,trivial⟩
    ·refine bQ (bC hr.fd) ?_;exact ad.bo (Bk ())
    ·refine bB ?_;exact ad.bo (Bj ())
    refine bg (jV (i:=1) (k:=c0) (xs:=(s1.2:aa bw)) underlying27 jJ (ag I) (ag I) I (c4 iq)) ?_;exact ad.bo (M0 ())
   refine bn.cD (γ:=Unit) [0,1,2,3,8,9,10,11,12,49,50,51,52] 0 8 10 (cu 12 40) (λA0=>[(56,J.eq (.pointer (some ⟨a6,0+4,none⟩))),(58,J.of s1.1)]) (λA0=>[]) (λA0=>aX hp) (λA0=>?_) (λIm=>?_)
   ·refine bn.gD [0,2,4] ⟨⟨_,rfl,?_⟩,⟨_,rfl,?_⟩,⟨_,rfl,?_⟩,trivial⟩
    ·refine bQ (bC hr.fd) ?_;exact ad.bo (Bm ())
    ·refine bB ?_;exact ad.bo (Bl ())
    refine bg (dn (i:=4) (q:=1) (β:=aD) (γ:=bw) gv (ag I) I I) ?_;exact ad.bo (Ig ())
   refine bn.cD (γ:=Unit) [0,1,2,3,8,9,10,11,12,49,50,51,52] 0 8 10 (cu 12 24) (λA1=>[(57,J.eq (aH g1.1 s1.2.length g1.2))]) (λA1=>[]) (λA1=>aX hp) (λA1=>?_) (λRX=>?_)
   ·refine bn.gD [0,2,5] ⟨⟨_,rfl,?_⟩,⟨_,rfl,?_⟩,⟨_,rfl,?_⟩,trivial⟩
    ·refine bQ (bC hr.fd) ?_;exact ad.bo (Ii ())
    ·refine bB ?_;exact ad.bo (Ih ())
    refine bB ?_;exact ad.bo (Ig ())
   refine bn.cD (γ:=Unit) [0,1,2,3,8,9,10,11,12,49,50,51,52] 0 8 10 (cu 12 36) (λA2=>[(55,J.of s1.1),(58,J.of s1.1)]) (λA2=>[]) (λA2=>aX hp) (λA2=>?_) (λIo=>?_)
   ·refine bn.s2 0 3 ?_ ?_
    ·refine bQ (bC hr.fd) ?_;exact ad.bo (Bn ())
    refine bQ (bC hr.fd) ?_;exact ad.bo (Bl ())
   refine bn.cD (γ:=Unit) [0,1,2,3,8,9,10,11,12,49,50,51,52] 0 8 10 (cu 12 12) (λBp=>[(55,J.of s1.1),(56,J.eq (.pointer (some ⟨a6,0+4,none⟩)))]) (λBp=>[]) (λBp=>aX hp) (λBp=>?_) (λIF=>?_)
   ·refine bn.gD [0,4,5] ⟨⟨_,rfl,?_⟩,⟨_,rfl,?_⟩,⟨_,rfl,?_⟩,trivial⟩
    ·refine bQ (bC hr.fd) ?_;exact ad.bo (Bo ())
    ·refine bg (dn (i:=4) (q:=1) (β:=aD) (γ:=bw) gv (ag I) I I) ?_;exact ad.bo (Ih ())
    refine bB ?_;exact ad.bo (Bl ())
   refine bn.cD (γ:=Unit) [0,1,2,3,8,9,10,11,12,49,50,51,52] 0 8 10 (cu 12 33) (λBq=>[(53,J.eq (.pointer (some ⟨a6,0+4,none⟩))),(58,J.of s1.1)]) (λBq=>[]) (λBq=>aX hp) (λBq=>?_) (λIG=>?_)
   ·refine bn.gD [1,2,3] ⟨⟨_,rfl,?_⟩,⟨_,rfl,?_⟩,⟨_,rfl,?_⟩,trivial⟩
    ·refine bg (dn (i:=4) (q:=1) (β:=aD) (γ:=bw) gv (ag I) I I) ?_;exact ad.bo (Ij ())
    ·refine bB ?_;exact ad.bo (Bn ())
    refine bQ (bC hr.fd) ?_;exact ad.bo (Bm ())
   refine bn.cD (γ:=Unit) [0,1,2,3,8,9,10,11,12,49,50,51,52] 0 8 10 (cu 12 9) (λBr=>[(53,J.eq (.pointer (some ⟨a6,0+4,none⟩))),(56,J.eq (.pointer (some ⟨a6,0+4,none⟩)))]) (λBr=>[]) (λBr=>aX hp) (λBr=>?_) (λIH=>?_)
   ·refine bn.gD [1,2,4,5] ⟨⟨_,rfl,?_⟩,⟨_,rfl,?_⟩,⟨_,rfl,?_⟩,⟨_,rfl,?_⟩,trivial⟩
    ·refine bg (dn (i:=4) (q:=1) (β:=aD) (γ:=bw) gv (ag I) I I) ?_;exact ad.bo (Ik ())
    ·refine bB ?_;exact ad.bo (Bo ())
    ·refine bg (dn (i:=4) (q:=1) (β:=aD) (γ:=bw) gv (ag I) I I) ?_;exact ad.bo (Ii ())
    refine bB ?_;exact ad.bo (Bm ())
   refine bn.cD (γ:=Unit) [0,1,2,3,8,9,10,11,12,49,50,51,52] 0 8 10 (cu 12 5) (λBs=>[(53,J.eq (.pointer (some ⟨a6,0+4,none⟩))),(55,J.of s1.1)]) (λBs=>[]) (λBs=>aX hp) (λBs=>?_) (λII=>?_)
   ·refine bn.gD [1,3,5] ⟨⟨_,rfl,?_⟩,⟨_,rfl,?_⟩,⟨_,rfl,?_⟩,trivial⟩
    ·refine bg (dn (i:=4) (q:=1) (β:=aD) (γ:=bw) gv (ag I) I I) ?_;exact ad.bo (Il ())
    ·refine bQ (bC hr.fd) ?_;exact ad.bo (Bo ())
    refine bB ?_;exact ad.bo (Bn ())
   refine bn.cD (γ:=Unit) [0,1,2,3,8,9,10,11,12,49,50,51,52] 0 8 10 (cu 12 3) (λBt=>[(54,J.eq (aH g1.1 s1.2.length g1.2))]) (λBt=>[]) (λBt=>aX hp) (λBt=>?_) (λSI=>?_)
   ·refine bn.gD [2,3,5] ⟨⟨_,rfl,?_⟩,⟨_,rfl,?_⟩,⟨_,rfl,?_⟩,trivial⟩
    ·refine bB ?_;exact ad.bo (Il ())
    ·refine bQ (bC hr.fd) ?_;exact ad.bo (Ik ())
    refine bB ?_;exact ad.bo (Ij ())
   refine bn.cD (γ:=Unit) [0,1,2,3,8,9,10,11,12,49,50,51,52] 0 8 11 (cu 12 32) (λBu=>[(58,J.of s1.1)]) (λBu=>[]) (λBu=>aX hp) (λBu=>?_) (λSJ=>?_)
   ·refine bn.gD [0,2,3] ⟨⟨_,rfl,?_⟩,⟨_,rfl,?_⟩,⟨_,rfl,?_⟩,trivial⟩
    ·refine bQ (bC hr.fd) ?_;exact ad.bo (IG ())
    ·refine bB ?_;exact ad.bo (Io ())
    refine bQ (bC hr.fd) ?_;exact ad.bo (Im ())
   refine bn.cD (γ:=Unit) [0,1,2,3,8,9,10,11,12,49,50,51,52] 0 8 11 (cu 12 8) (λBv=>[(56,J.eq (.pointer (some ⟨a6,0+4,none⟩)))]) (λBv=>[]) (λBv=>aX hp) (λBv=>?_) (λSK=>?_)
   ·refine bn.gD [0,2,4,5] ⟨⟨_,rfl,?_⟩,⟨_,rfl,?_⟩,⟨_,rfl,?_⟩,⟨_,rfl,?_⟩,trivial⟩
    ·refine bQ (bC hr.fd) ?_;exact ad.bo (IH ())
    ·refine bB ?_;exact ad.bo (IF ())
    ·refine bg (dn (i:=4) (q:=1) (β:=aD) (γ:=bw) gv (ag I) I I) ?_;exact ad.bo (RX ())
    refine bB ?_;exact ad.bo (Im ())
   refine bn.cD (γ:=Unit) [0,1,2,3,8,9,10,11,12,49,50,51,52] 0 8 11 (cu 12 4) (λBw=>[(55,J.of s1.1)]) (λBw=>[]) (λBw=>aX hp) (λBw=>?_) (λSL=>?_)
   ·refine bn.gD [0,3,5] ⟨⟨_,rfl,?_⟩,⟨_,rfl,?_⟩,⟨_,rfl,?_⟩,trivial⟩
    ·refine bQ (bC hr.fd) ?_;exact ad.bo (II ())
    ·refine bQ (bC hr.fd) ?_;exact ad.bo (IF ())
    refine bB ?_;exact ad.bo (Io ())
   refine bn.cD (γ:=Unit) [0,1,2,3,8,9,10,11,12,49,50,51,52] 0 8 11 (cu 12 1) (λBx=>[(53,J.eq (.pointer (some ⟨a6,0+4,none⟩)))]) (λBx=>[]) (λBx=>aX hp) (λBx=>?_) (λSM=>?_)
   ·refine bn.gD [1,2,3,5] ⟨⟨_,rfl,?_⟩,⟨_,rfl,?_⟩,⟨_,rfl,?_⟩,⟨_,rfl,?_⟩,trivial⟩
    ·refine bg (dn (i:=4) (q:=1) (β:=aD) (γ:=bw) gv (ag I) I I) ?_;exact ad.bo (SI ())
    ·refine bB ?_;exact ad.bo (II ())
    ·refine bQ (bC hr.fd) ?_;exact ad.bo (IH ())
    refine bB ?_;exact ad.bo (IG ())
   refine bn.gD [0,2,3,5] ⟨⟨_,rfl,?_⟩,⟨_,rfl,?_⟩,⟨_,rfl,?_⟩,⟨_,rfl,?_⟩,trivial⟩
   ·refine bQ (bC hr.fd) ?_;exact ad.bo (SM ())
   ·refine bB ?_;exact ad.bo (SL ())
   ·refine bQ (bC hr.fd) ?_;exact ad.bo (SK ())
   refine bB ?_;exact ad.bo (SJ ())
  refine ay.exit (aq.exit ?_);cases h;exact gN (g1.1,g1.2) 0
 refine aq.lz (aq.next (ay.seq (bU (bQ (bC xT.fd) ?_))));refine bg (dn (i:=4) (q:=0) (β:=aD) (γ:=df) wE (ag I) I I) ?_;refine bg (pt (i:=0) underlying26 (ag I) I I) ?_;refine bB (b0 (ay.block ?_));refine ah.bI h λaK ao h=>vk (σ:=Int×(aa df)) (ε:=(Int×Bool×(aa df))) (γ:=(aA Nat×Nat)) (δ:=(aA Nat×Nat)) ao 8 [0,1,2,3,8,9,10,11,49,50,51,66] (λs2 g2=>[(67,J.of s2.1)]) (λs2 g2=>[(0,⟨g2.1,.row 88 s2.2 g2.2⟩),(4,⟨some a6,.bX ({({({aF.1 with cV:=([]:aa cY)}:aD)with bh:=[]}:aD)with bK:=[]}:aD) [(3,aH g2.1 s2.2.length g2.2),(4,aH g1.1 ar.2.2.length g1.2)]⟩)]) (λs2 g2=>aX hp) (λjj=>Exit.exit 2) (λjj g2=>[(67,J.of jj.1),(68,J.of jj.2.1)]) (λjj g2=>[(0,⟨g2.1,.row 88 jj.2.2 g2.2⟩),(4,⟨some a6,.bX ({({({aF.1 with cV:=([]:aa cY)}:aD)with bh:=[]}:aD)with bK:=[]}:aD) [(3,aH g2.1 jj.2.2.length g2.2),(4,aH g1.1 ar.2.2.length g1.2)]⟩)]) (λjj g2=>aX hp) (kE,hZ) (λs2 r h g2=>?_) (λg2=>?_)
 ·refine bU (dA l2 (fW ?_));refine ki h (λh=>?_) λh=>?_
  ·refine jx (ay.seq (ay.block (bU (bB ?_))));refine cS (b0 (ay.eQ ?_));refine bQ (bC xT.fd) ?_;refine bg (dn (i:=4) (q:=0) (β:=aD) (γ:=df) wE (ag I) I I) ?_;refine bB ?_;refine aB h λka yy h=>bg (jV (i:=0) (k:=ka) (xs:=(s2.2:aa df)) underlying26 sC (ag I) (ag I) I (c4 yy)) ?_;refine bQ (bC ME.fd) ?_;refine aB h λz4 qX h=>ad.oN (i:=0) (k:=ka) ((aP.id df).comp FM) (v:=(ByteArray.mk #[]:ByteArray)) (r:=(z4:aa df)) kO (ag I) (fX (ByteArray.mk #[])) I (c4 yy).1 I (di qX) (ad.hv (m:=z4.length) 71 I (hW (di qX)) (ad.uP (m:=z4.length) 4 0 I I (hW (di qX)) (ad.nil (aq.mW (aq.next (ay.eQ (dA jU ?_)))))));refine bB (ad.nil ?_);cases h;exact ia (g2.1,g2.2) 0
  refine ay.exit (aq.exit ?_);cases h;exact gN (g2.1,g2.2) 0
 refine aq.lz (aq.next (bU (cS (fW (bU ?_)))));refine bB (b0 ?_);refine ah.bI h λm1 cc h=>yA (γ:=Unit) 8 [0,1,2,3,8,9,10,11,49,50,51,66,67,68,76] (λg3=>[(14,J.of m1)]) (λg3=>[]) (λg3=>aX hp) (λg3=>?_) (λhm ak=>?_) (λhm ak=>?_)
 ·refine aq.next (ay.seq (ah.bI h λz5 yz h=>ah.bI h λmI B1 h=>?_))
  obtain⟨acC,abI,aqq⟩:=ah.ex h;refine ay.MW mixed 6 (cu 6 0) I I (bn.cD (γ:=Subtype acC) [8,9,10,11,14] 5 3 3 (cu 6 7) (λu2=>[(78,J.of u2.1.1),(79,J.of mI)]) (λu2=>[⟨none,.dead⟩,⟨none,.dead⟩,⟨none,.row 64 ([]:aa bw) 0⟩,⟨none,.row 88 ([]:aa df) 0⟩,aZ a6 ({({({({aF.1 with cV:=([]:aa cY)}:aD)with bh:=[]}:aD)with bK:=aK.2.2}:aD)with bh:=ar.2.2}:aD)]) (λu2=>aX u2.1.2) (λu2=>?_) (λNw=>?_))
  ·obtain⟨de,IV⟩:=u2;have h:=aqq de IV;refine bn.tail 3 I (by kernel_rfl) ?_;refine ad.ey (L2:=(⟨none,.dead⟩::⟨none,.dead⟩::⟨none,.row 64 ([]:aa bw) 0⟩::⟨none,.row 88 ([]:aa df) 0⟩::aZ a6 ({({({({aF.1 with cV:=([]:aa cY)}:aD)with bh:=[]}:aD)with bK:=aK.2.2}:aD)with bh:=ar.2.2}:aD)::aZ h4 bG::aZ dM bm::aZ aw aF.2::aX de.2)) I (ad.le (E':=[(8,J.of false),(9,J.dv a6),(10,J.dv dM),(11,J.dv h4),(14,J.of m1),(78,J.of de.1),(79,J.of mI)]) .all ?_);refine ad.dX 8 0 I NJ (LK (ah.hd h)) I I ⟨ag I,trivial⟩ I λ⟨⟨eu,h⟩,Kd⟩=>ad.dC ?_;refine cS ?_;refine cS (fW (bU ?_));refine cS (b0 (ay.block ?_));refine B2 (σ:=Int×ea×ea×(aL Cell)) (ε:=(Int×Bool×ea×ea×(aL Cell))) (γ:=Unit) (δ:=Unit) h 8 [8,9,10,11,14,15,16] (λeA g4=>[(17,J.of eA.1)]) (λeA g4=>[(5,aZ h4 eA.2.1),(6,aZ dM eA.2.2.1)]) (λeA g4=>aX eA.2.2.2) (λsT=>Exit.exit 4) (λsT g4=>[(17,J.of sT.1),(86,J.of sT.2.1)]) (λsT g4=>[(5,aZ h4 sT.2.2.1),(6,aZ dM sT.2.2.2.1)]) (λsT g4=>aX sT.2.2.2.2) () (λeA R h g4=>?_) (λcr h g4=>?_)
   ·refine ay.seq (bU (bB ?_));refine dA l2 ?_;refine bB ?_;refine l8 dj ?_;refine ah.bI h λfy rR h=>iV (λhb=>bj.aar (z:=(eA.2.2.1:ea)) 6 84 I (acw hb) I HD (iE abd (aeR (hl rR hb)) ⟨ag I,trivial⟩)) ?_;refine yE (b0 ?_);refine yF h (λh=>?_) λh=>?_
    ·refine jx (ay.seq (ay.block (bU (bB ?_))));refine ad.bW 6 I (ah.bI h λgZ tr h=>e2 1 hL (hD tr) λtZ=>?_);refine cS (fr ?_);refine bB ?_;refine ah.bI h λnP EM h=>kb EM (gz (i:=5) (aP.id aD) (r:=({({({({aF.1 with cV:=([]:aa cY)}:aD)with bh:=[]}:aD)with bK:=aK.2.2}:aD)with bh:=ar.2.2}:aD)) ju (ag I) I I I) ?_;refine bB ?_;refine ad.bW 0 I (ah.bI h λjf wD h=>e2 1 abJ (V1 wD) λNX=>?_);refine lE ts λbr=>?_;refine rS 0 il (fW ?_);refine ah.bI h λjB EH h=>ah.bI h λz9 Je h=>ah.bI h λjW BO h=>ah.bI h λjg BJ h=>ay.Ir 1 9 (fI [8,9,10,11,14,15,16,17,18,19,81,82,83,84,85,86,89,90,91,92,93,94] ?_);refine ay.atK 10 mixed (aN 95 [] [6] _::aN 96 [] [] _::aN 97 [] [0] _::aN 98 [] [] _::aN 99 [] [6] _::aN 100 [] [] _::⟨some 101,[3,4,5],[7],[7],λ_=>J.of jW.1,λhd _=>aZ h4 jW.2⟩::aN 102 [0,1,2,6] [] _::⟨some 20,[],[9],[9],λhd=>J.dv ((hd 8 0).getD 0),λhd _=>aZ ((hd 8 0).getD 0) (default:aO)⟩::iu [7,8] [9] [9] (λhd=>aZ ((hd 8 0).getD 0) jg)::[]) ⟨fq.q (gF λaJ ax=>(gz (i:=6) (aP.id aD) (r:=({({({({aF.1 with cV:=([]:aa cY)}:aD)with bh:=[]}:aD)with bK:=aK.2.2}:aD)with bh:=ar.2.2}:aD)) ju (ag (aJ _ _ I)) (ax 6 _ I I) I I).ra (di EH)),fq.q mH,fq.q (EI 0 il),fq.q mH,fq.q (gF λaJ ax=>(gz (i:=6) (aP.id aD) (r:=({({({({aF.1 with cV:=([]:aa cY)}:aD)with bh:=[]}:aD)with bK:=aK.2.2}:aD)with bh:=ar.2.2}:aD)) ju (ag (aJ _ _ I)) (ax 6 _ I I) I I).ra (di Je)),fq.q mH,?_,fq.q (gF λaJ ax=>iE aqr (agi BJ) ⟨ag (aJ _ _ I),ag (aJ _ _ I),ag (aJ _ _ I),ag (aJ _ _ I),trivial⟩),?_,?_,trivial⟩ λdT=>?_
     ·intro hd E' L' aJ ax cJ;exact ad.bW 7 (ax 7 _ I I) (ad.nz (Lin:=[aZ h4 eA.2.1]) (Lr:=L'.eraseIdx 7) abJ (V1 BO) ⟨ag (aJ _ _ I),ag (aJ _ _ I),ag (aJ _ _ I),trivial⟩ I λarZ=>ad.nil (aq.back 7 (ax 7 _ I I) (aq.fin (ez []) I I)))
     ·intro hd E' L' aJ ax cJ;refine lE ts λcm=>ad.nil ?_;exact aq.place 9 (ax 9 _ I I) (aq.fin (ez [some cm]) I I)
     ·intro hd E' L' aJ ax cJ;refine ad.store (i:=9) (aP.id aO) (v:=jg) (b':=jg) il (ag (aJ _ _ I)) (ag (aJ _ _ I)) (ax 9 _ I I) I I (ad.nil ?_);exact aq.fin (ez []) I I
     refine aq.ey (L2:=(aZ br jf.1::aZ dM jf.2::⟨none,.dead⟩::⟨none,.dead⟩::⟨none,.row 64 ([]:aa bw) 0⟩::⟨none,.row 88 ([]:aa df) 0⟩::aZ a6 ({({({({aF.1 with cV:=([]:aa cY)}:aD)with bh:=[]}:aD)with bK:=aK.2.2}:aD)with bh:=ar.2.2}:aD)::aZ h4 jW.2::aZ aw aF.2::aZ ((dT 8 0).getD 0) jg::aX eA.2.2.2)) I (hN ?_);refine aq.bW 9 I (aq.next (bU (bB ?_)));refine ah.bI h λoh Ny h=>kb Ny (gz (i:=7) (aP.id aD) (r:=({({({({aF.1 with cV:=([]:aa cY)}:aD)with bh:=[]}:aD)with bK:=aK.2.2}:aD)with bh:=ar.2.2}:aD)) ju (ag I) I I I) ?_;refine lf 1 il ?_;refine qm NK yn {c7:=1,bl:=jf.1:iN} (my Gz (my Gl .nil)) ?_;refine Jf [{c7:=1,bl:=jf.1:iN}] underlying40 IW yn ?_;refine ad.dX 10 0 I IU (Hp h) I I ⟨ag I,ag I,dd 1,ag I,trivial⟩ I λ⟨⟨jK,h⟩,ar0⟩=>?_;refine ad.dC ?_;refine bB ?_;refine qZ ?_;refine qZ ?_;refine cS ?_;refine cS (fr ?_);refine bB ?_;refine ah.bI h λnd Nz h=>kb Nz (gz (i:=7) (aP.id aD) (r:=({({({({aF.1 with cV:=([]:aa cY)}:aD)with bh:=[]}:aD)with bK:=aK.2.2}:aD)with bh:=ar.2.2}:aD)) ju (ag I) I I I) ?_;refine lf 0 il ?_;refine qm NK yn {c7:=1,bl:=jg:iN} (my Gz (my Gl .nil)) ?_;refine Jf [{c7:=1,bl:=jg:iN}] underlying40 IW yn ?_;refine ad.dX 10 0 I IU (Hp h) I I ⟨ag I,ag I,dd 1,ag I,trivial⟩ I λ⟨⟨j8,h⟩,ar1⟩=>?_;refine ad.dC ?_;refine bB ?_;refine qZ ?_;refine qZ ?_;refine cS ?_;refine cS (fr ?_);refine bQ (bC oM.fd) ?_;refine EL 1 nV cd ?_;refine bQ (bC p6.fd) ?_;refine ah.bI h λz12 BN h=>N0 1 nt oT (hb:=by exact BN) ?_;refine bQ (bC oM.fd) ?_;refine EL 0 nV cd ?_;refine bQ (bC p6.fd) ?_;refine ah.bI h λkN IM h=>N0 0 nt oT (hb:=by exact IM) ?_;refine fW (bU (bB ?_));refine dA nA ?_;refine bB ?_;refine l8 dj ?_;refine BZ ya ?_;refine yE (b0 ?_);refine wR (γ:=Unit) h 10 [8,9,10,11,14,15,16,17,18,19,20,22,24,86,130] (λm2 g5=>[]) (λm2 g5=>[]) (λm2 g5=>aX m2) (λm2 g5 h=>?_) (λhm ak h=>?_) (λhm ak h=>?_)
     ·refine aq.next (bU (bB ?_))
      refine dA nA ?_;refine bB ?_;refine l8 dj ?_;refine BZ ya ?_;refine yE (b0 ?_);refine wR (γ:=Unit) h 10 [8,9,10,11,14,15,16,17,18,19,20,22,24,86,130,142] (λm3 g6=>[]) (λm3 g6=>[]) (λm3 g6=>aX m3) (λm3 g6 h=>?_) (λhm ak h=>?_) (λhm ak h=>?_)
      ·refine aq.mW (aq.next (ay.eQ (bB ?_)));refine dA jU ?_;refine cS (ad.nil ?_);exact aq.bW 8 I (aq.bW 8 I (aq.bW 8 I (aq.bW 8 I (aq.bW 8 I (aq.bW 8 I (aq.bW 7 I (aq.bW 7 I (aq.xU h () 2 I .all))))))))
      ·refine ay.eQ (bB ?_);refine ah.bI h λmz IN h=>kb IN (gz (i:=7) (aP.id aD) (r:=({({({({aF.1 with cV:=([]:aa cY)}:aD)with bh:=[]}:aD)with bK:=aK.2.2}:aD)with bh:=ar.2.2}:aD)) ju (ag I) I I I) ?_;refine lf 0 il ?_;refine qm NK yn {c7:=3,bl:=kN:iN} (my Gz (my Gl .nil)) ?_;refine Jf [{c7:=3,bl:=kN:iN}] underlying40 IW yn ?_;refine ad.dX 10 0 I IU (Hp h) I I ⟨ag I,ag I,dd 1,ag I,trivial⟩ I λ⟨⟨q0,h⟩,auF⟩=>?_;refine ad.dC (ad.nil ?_);exact ef 0 (hm q0.2.2 () h)
      exact ay.skip (ef 0 (hm m2 () h))
     ·refine ay.eQ (bB ?_);refine ah.bI h λpG IP h=>kb IP (gz (i:=7) (aP.id aD) (r:=({({({({aF.1 with cV:=([]:aa cY)}:aD)with bh:=[]}:aD)with bK:=aK.2.2}:aD)with bh:=ar.2.2}:aD)) ju (ag I) I I I) ?_;refine lf 1 il ?_;refine qm NK yn {c7:=3,bl:=z12:iN} (my Gz (my Gl .nil)) ?_;refine Jf [{c7:=3,bl:=z12:iN}] underlying40 IW yn ?_;refine ad.dX 10 0 I IU (Hp h) I I ⟨ag I,ag I,dd 1,ag I,trivial⟩ I λ⟨⟨B7,h⟩,auG⟩=>?_;refine ad.dC (ad.nil ?_);exact ef 0 (hm B7.2.2 () h)
     exact ay.skip (ef 0 (hm j8.2.2 () h))
    exact ay.exit (aq.exit (aq.uQ h () 0 I (by simp) I .all))
   refine aq.lz (aq.next (bU (bB ?_)));refine ah.bI h λvh SQ h=>kb SQ (gz (i:=4) (aP.id aD) (r:=({({({({aF.1 with cV:=([]:aa cY)}:aD)with bh:=[]}:aD)with bK:=aK.2.2}:aD)with bh:=ar.2.2}:aD)) ju (ag I) I I I) ?_;refine bB ?_;refine ad.dX 8 0 I S2 (P5 h) I I ⟨ag I,ag I,ag I,dd 0,trivial⟩ I λ⟨⟨yJ,h⟩,auH⟩=>?_;refine ad.dC ?_;refine bB ?_;refine qZ ?_;refine qZ ?_;refine cS ?_;refine cS (fr ?_);refine bB ?_;refine ah.bI h λz17 SR h=>kb SR (gz (i:=4) (aP.id aD) (r:=({({({({aF.1 with cV:=([]:aa cY)}:aD)with bh:=[]}:aD)with bK:=aK.2.2}:aD)with bh:=ar.2.2}:aD)) ju (ag I) I I I) ?_;refine bB ?_;refine ad.dX 8 0 I S2 (P5 h) I I ⟨ag I,ag I,ag I,dd 0,trivial⟩ I λ⟨⟨wV,h⟩,auI⟩=>?_;refine ad.dC ?_;refine bB ?_;refine qZ ?_;refine qZ ?_;refine cS ?_;refine cS (fr ?_);refine bB ?_;refine bB ?_;refine dA nA ?_;refine bB ?_;refine l8 dj ?_;refine l8 dj ?_;refine ah.bI h λN6 aqs h=>iV (λhb=>iE aqt (agb (hl aqs hb)) ⟨cW I hb,cW I hb,trivial⟩) ?_;refine yE ?_;refine bB ?_;refine ad.atL (γ:=Unit) h (λy=>J.of y.1) (λy g=>(⟨none,.dead⟩::⟨none,.dead⟩::⟨none,.row 64 ([]:aa bw) 0⟩::⟨none,.row 88 ([]:aa df) 0⟩::aZ a6 ({({({({aF.1 with cV:=([]:aa cY)}:aD)with bh:=[]}:aD)with bK:=aK.2.2}:aD)with bh:=ar.2.2}:aD)::aZ h4 cr.2.2.1::aZ dM cr.2.2.2.1::aZ aw aF.2::aX y.2)) () I I I I I I (λhb hm=>by refine fa.to ?_ (fa.dX 8 0 I aqu (agn hm) I I ?_);exact λ_=>rfl;exact trivial) λER auJ h=>?_;refine yE ?_;refine cS (b0 (ay.ret ?_));exact aq.eU (⟨⟨(((yJ.2.1==wV.2.1)&&N6)&&ER.1,ER.2),h⟩,()⟩: {r // _}×_) (eK 8) I I (dB I)
  refine bn.cD (γ:=Unit) [8,9,10,11,14] 5 3 4 (cu 6 5) (λBy=>[(77,J.of z5),(79,J.of mI)]) (λBy=>[⟨none,.dead⟩,⟨none,.dead⟩,⟨none,.row 64 ([]:aa bw) 0⟩,⟨none,.row 88 ([]:aa df) 0⟩,aZ a6 ({({({({aF.1 with cV:=([]:aa cY)}:aD)with bh:=[]}:aD)with bK:=aK.2.2}:aD)with bh:=ar.2.2}:aD)]) (λBy=>aX hp) (λBy=>?_) (λIK=>?_)
  ·refine bn.s1 1 ?_
   ·refine ad.dX 8 0 I NJ (LK abI) I I ⟨ag I,trivial⟩ I λ⟨⟨de,IV⟩,_⟩=>ad.dC ?_;exact ad.bo (Nw ⟨de,IV⟩)
  refine bn.cD (γ:=Subtype acC) [8,9,10,11,14] 5 3 4 (cu 6 3) (λu3=>[(78,J.of u3.1.1)]) (λu3=>[⟨none,.dead⟩,⟨none,.dead⟩,⟨none,.row 64 ([]:aa bw) 0⟩,⟨none,.row 88 ([]:aa df) 0⟩,aZ a6 ({({({({aF.1 with cV:=([]:aa cY)}:aD)with bh:=[]}:aD)with bK:=aK.2.2}:aD)with bh:=ar.2.2}:aD)]) (λu3=>aX u3.1.2) (λu3=>?_) (λSN=>?_)
  ·refine bn.s1 2 ?_
   ·refine kb B1 (gz (i:=4) (aP.id aD) (r:=({({({({aF.1 with cV:=([]:aa cY)}:aD)with bh:=[]}:aD)with bK:=aK.2.2}:aD)with bh:=ar.2.2}:aD)) ju (ag I) I I I) ?_;exact ad.bo (Nw u3)
  refine bn.cD (γ:=Unit) [8,9,10,11,14] 5 3 5 (cu 6 4) (λBz=>[(79,J.of mI)]) (λBz=>[⟨none,.dead⟩,⟨none,.dead⟩,⟨none,.row 64 ([]:aa bw) 0⟩,⟨none,.row 88 ([]:aa df) 0⟩,aZ a6 ({({({({aF.1 with cV:=([]:aa cY)}:aD)with bh:=[]}:aD)with bK:=aK.2.2}:aD)with bh:=ar.2.2}:aD)]) (λBz=>aX hp) (λBz=>?_) (λSO=>?_)
  ·refine bn.s1 0 ?_
   ·refine kb yz (gz (i:=4) (aP.id aD) (r:=({({({({aF.1 with cV:=([]:aa cY)}:aD)with bh:=[]}:aD)with bK:=aK.2.2}:aD)with bh:=ar.2.2}:aD)) ju (ag I) I I I) ?_;exact ad.bo (IK ())
  refine bn.cD (γ:=Unit) [8,9,10,11,14] 5 3 5 (cu 6 1) (λBA=>[(77,J.of z5)]) (λBA=>[⟨none,.dead⟩,⟨none,.dead⟩,⟨none,.row 64 ([]:aa bw) 0⟩,⟨none,.row 88 ([]:aa df) 0⟩,aZ a6 ({({({({aF.1 with cV:=([]:aa cY)}:aD)with bh:=[]}:aD)with bK:=aK.2.2}:aD)with bh:=ar.2.2}:aD)]) (λBA=>aX hp) (λBA=>?_) (λSP=>?_)
  ·refine bn.s2 1 2 ?_ ?_
   ·refine ad.dX 8 0 I NJ (LK abI) I I ⟨ag I,trivial⟩ I λ⟨⟨de,IV⟩,_⟩=>ad.dC ?_;exact ad.bo (SN ⟨de,IV⟩)
   refine kb B1 (gz (i:=4) (aP.id aD) (r:=({({({({aF.1 with cV:=([]:aa cY)}:aD)with bh:=[]}:aD)with bK:=aK.2.2}:aD)with bh:=ar.2.2}:aD)) ju (ag I) I I I) ?_;exact ad.bo (IK ())
  refine bn.s2 0 2 ?_ ?_
  ·refine ad.kF (β:=aD) (γ:=df) (b':=({({({aF.1 with cV:=([]:aa cY)}:aD)with bh:=[]}:aD)with bK:=aK.2.2}:aD)) ((aP.id aD).comp vH) 4 0 0 I I I I I I (ad.kF (β:=aD) (γ:=bw) (b':=({({({({aF.1 with cV:=([]:aa cY)}:aD)with bh:=[]}:aD)with bK:=aK.2.2}:aD)with bh:=ar.2.2}:aD)) ((aP.id aD).comp qF) 4 1 0 I I I I I I (ad.n3 4 I (kb yz (gz (i:=4) (aP.id aD) (r:=({({({({aF.1 with cV:=([]:aa cY)}:aD)with bh:=[]}:aD)with bK:=aK.2.2}:aD)with bh:=ar.2.2}:aD)) ju (ag I) I I I) ?_)));exact ad.bo (SP ())
  refine ad.kF (β:=aD) (γ:=df) (b':=({({({aF.1 with cV:=([]:aa cY)}:aD)with bh:=[]}:aD)with bK:=aK.2.2}:aD)) ((aP.id aD).comp vH) 4 0 0 I I I I I I (ad.kF (β:=aD) (γ:=bw) (b':=({({({({aF.1 with cV:=([]:aa cY)}:aD)with bh:=[]}:aD)with bK:=aK.2.2}:aD)with bh:=ar.2.2}:aD)) ((aP.id aD).comp qF) 4 1 0 I I I I I I (ad.n3 4 I (kb B1 (gz (i:=4) (aP.id aD) (r:=({({({({aF.1 with cV:=([]:aa cY)}:aD)with bh:=[]}:aD)with bK:=aK.2.2}:aD)with bh:=ar.2.2}:aD)) ju (ag I) I I I) ?_)));exact ad.bo (SO ())
 ·have h:=fY ak cc;refine ay.eQ (cS (ad.nil ?_));cases h;exact ef 0 (hm ())
 have h:=fZ ak cc;refine ay.skip ?_;cases h;exact ef 0 (hm ())
end Go.Proofs.YtlkieppifclacaaGreat
