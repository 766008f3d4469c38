/-
  Each function meets its functional program. Conditions: none.
-/
import Derived.Test.YtmnggbjcnoffeaaGreatMc0
import Derived.Test.YtmnggbjcnoffeaaGreatMd
namespace Go.Proofs.YtmnggbjcnoffeaaGreat
open Go Gv
set_option linter.unusedVariables false
set_option linter.unusedSimpArgs false
set_option maxRecDepth 100000
set_option maxHeartbeats 2000000
theorem P4 {hp:a9 Cell} {J:et} {ag:Vector ak 4} {r:Int × Bool} (h:xH hp J ag=some r):cy Tryz.prog 236 [I.of (J),I.of (ag)] ([] ++ ba hp) (δ:=Unit) (fun _=>I.cN [I.of (r.1),I.of (r.2)]) (fun _=> [] ++ ba hp):=by
 unfold xH at h
 refine cy.of Tryz.func236 rfl Tryz.ntmps236 rfl fun W A=> ?_
 refine aC ?_
 refine cf fun aS=> ?_
 refine cf fun a3=> ?_
 refine aK ?_
 refine aK ?_
 refine bZ ?_
 refine b6 1 Dl ?_
 refine b6 0 dv ?_
 obtain⟨al,bs,h⟩:=aw h
 refine dc Nn (JS bs) ?_
 refine aB ?_
 refine ez ?_
 refine ez ?_
 refine cx wz fun bH=> ?_
 refine cx dP fun cA=> ?_
 refine b3 1 h7 ?_
 refine b3 0 bN ?_
 refine bG ?_
 obtain⟨dg,e7,h⟩:=aw h
 obtain⟨cF,fT,h⟩:=aw h
 obtain⟨bl,di,h⟩:=aw h
 obtain⟨aN,ck,h⟩:=aw h
 obtain⟨a7,dR,h⟩:=aw h
 obtain⟨bR,e2,h⟩:=aw h
 refine jq [0,1,2,3,4,5,6,7,11,12,13,14,15,16] ?_
 refine ah.sE 4 mixed (bh 18 [] [] _ :: bh 19 (0 :: []) (3 :: []) _ :: bh 20 [] (1 :: []) _ :: ⟨some 21,(1 :: 2 :: []),[],[],fun _=>I.of (bl),fun _ _=>⟨none,.dead⟩⟩ :: bh 22 [] (0 :: []) _ :: bh 23 [] [] _ :: bh 24 (5 :: []) (3 :: []) _ :: bh 25 (6 :: []) [] _ :: bh 26 (4 :: 7 :: []) [] _ :: ⟨some 27,(3 :: 8 :: []),[],[],fun _=>I.cN [I.of (bR.1),I.of (bR.2.1),I.of (bR.2.2)],fun _ _=>⟨none,.dead⟩⟩ :: bh 17 (9 :: []) [] _ :: bh 28 (10 :: []) [] _ :: bh 29 (10 :: []) [] _ :: bh 30 (10 :: []) [] _ :: bh 8 (11 :: []) [] _ :: bh 9 (12 :: []) [] _ :: bh 10 (13 :: []) [] _ :: []) _ (0 :: 1 :: 2 :: 3 :: 4 :: 5 :: 6 :: 7 :: 11 :: 12 :: 13 :: 14 :: 15 :: 16 :: []) rfl rfl (by kernel_rfl) (by kernel_rfl) ⟨df.q (fv (aW oh)),df.q (n0 3 nB nU),df.q (lJ 1 h7),?_,df.q (lJ 0 bN),df.q (fv (aW tP)),df.q (n0 3 rX bE),df.q (cP fun hd E' ay aH au=>hP zG (yA ck) ⟨ab (aH _ _ rfl),trivial⟩),df.q (cP fun hd E' ay aH au=>hP nT (nD dR) ⟨ab (aH _ _ rfl),ab (aH _ _ rfl),trivial⟩),?_,df.q (gA),df.q (cP fun hd E' ay aH au=>lz (ab (aH _ _ rfl)) rfl),df.q (cP fun hd E' ay aH au=>lz (ab (aH _ _ rfl)) rfl),df.q (cP fun hd E' ay aH au=>lz (ab (aH _ _ rfl)) rfl),df.q (cP fun hd E' ay aH au=>eG (ab (aH _ _ rfl))),df.q (cP fun hd E' ay aH au=>eG (ab (aH _ _ rfl))),df.q (cP fun hd E' ay aH au=>eG (ab (aH _ _ rfl))),trivial⟩ fun gj=> ?_
 ·intro hd E' ay aH au dZ
  refine bj (y4 (r:=bl) Tryz.underlying167 zN Dy (oT (ab (aH _ _ rfl)) e7) (ab (aH _ _ rfl)) (gU (n:=4) (dZ.trans rfl) (oZ fT) rfl) (aG di)) ?_
  refine aj.nil ?_
  exact ad.fin (eY []) rfl rfl
 ·intro hd E' ay aH au dZ
  refine aj.lS (hX.nR 4 (dZ.trans rfl) VC (Qz e2) ⟨ab (aH _ _ rfl),ab (aH _ _ rfl),trivial⟩) rfl rfl rfl ?_
  refine aj.nil ?_
  exact ad.fin (eY []) rfl rfl
 refine ad.eI (L2:=(⟨some cA,.var (al.2:ak)⟩ :: ⟨some bH,.var (al.1:Vector ak 4)⟩ :: ⟨some a3,.var (ag:Vector ak 4)⟩ :: ⟨some aS,.var (J:et)⟩ :: ba hp)) rfl ?_
 refine ko [0,1,2,3,4,5,6,7,8,9,10,11,12,13,14,15,16,17,18,19,20,21,22,23,24,25,26,27,28,29,30] ?_
 refine ad.next ?_
 refine aC ?_
 refine aB ?_
 refine aB ?_
 refine aK ?_
 refine aK ?_
 refine aJ ?_
 refine ah.ret ?_
 obtain rfl:=aG h
 exact ad.k5 () (.cons _ (.cons _ (.cons _ (.cons _ (.refl _))))) rfl rfl (eD rfl) (eD rfl)
theorem Q2 {J:a2} {ag:bJ} {aT:Vector ak 4} {r:Bool} (h:r5 J ag aT=some r):bw Tryz.prog 278 [I.of (J),I.of (ag),I.of (aT)] (I.of (r)):=by
 unfold r5 at h
 refine bw.of Tryz.func278 rfl Tryz.ntmps278 rfl fun W A=> ?_
 refine aC ?_
 refine cf fun aS=> ?_
 refine cf fun a3=> ?_
 refine cf fun bH=> ?_
 refine aK ?_
 refine bZ ?_
 refine b6 2 fH ?_
 refine b6 1 iC ?_
 obtain⟨al,bs,h⟩:=aw h
 refine dc Nu (Kl bs) ?_
 refine aB ?_
 refine ez ?_
 refine ez ?_
 refine cx k8 fun cA=> ?_
 refine b3 0 fS ?_
 refine aK ?_
 refine bG ?_
 refine aC ?_
 refine aB ?_
 refine aY hz ?_
 refine aJ ?_
 refine ch h (fun h=>?_) fun h=>?_
 ·refine aC ?_
  refine aK ?_
  refine aJ ?_
  refine ah.ret ?_
  refine ad.ret ?_
  obtain rfl:=aG h
  exact c8
 ·refine cJ ?_
  refine ah.seq ?_
  refine aC ?_
  refine aY (aW kh) ?_
  refine cb 0 iV jY ?_
  refine aY (eS Tryz.underlying62) ?_
  refine aB ?_
  refine aJ ?_
  refine ah.block ?_
  obtain⟨aA,ao,h⟩:=aw h
  refine gN (γ:=Unit) (δ:=Unit) ao [0,1,2,3,4,5,6,7,8,18,20,21] (fun s1 az=> [(22,I.of (s1))]) (fun s1 az=> []) (fun aF=>Sum.elim (fun aF=>Exit.exit 0) (fun aF=>Exit.ret) aF) (fun aF az=>Sum.elim (fun aF=> [(22,I.of (aF.1)),(23,I.of (aF.2))]) (fun aF=> [(9,I.of (aF.1)),(22,I.of (aF.2.1)),(23,I.of (aF.2.2.1)),(52,I.of (aF.2.2.2))]) aF) (fun aF az=>Sum.elim (fun aF=> []) (fun aF=> []) aF) () (fun s1 r h az=> ?_) fun az=> ?_
  ·clear ao
   refine aC ?_
   refine bf eb ?_
   refine bG ?_
   refine ch h (fun h=>?_) fun h=>?_
   ·refine cJ ?_
    refine ah.seq ?_
    refine ah.block ?_
    refine aC ?_
    refine aB ?_
    obtain⟨aZ,cv,h⟩:=aw h
    refine gJ cv Tryz.underlying62 h8 ?_
    refine aY (c2 h8) ?_
    refine cx jl fun hD=> ?_
    refine aK ?_
    refine b3 0 h8 ?_
    refine bG ?_
    obtain⟨b0,de,h⟩:=aw h
    obtain⟨aN,ck,h⟩:=aw h
    obtain⟨c1,fl,h⟩:=aw h
    obtain⟨a7,dR,h⟩:=aw h
    obtain⟨bl,di,h⟩:=aw h
    refine ah.draw mixed 26 ((some 27) :: (some 28) :: (some 29) :: (some 30) :: (some 31) :: (some 32) :: (some 33) :: (some 34) :: (some 35) :: (some 36) :: (some 37) :: (some 38) :: (some 39) :: (some 40) :: (some 41) :: (some 42) :: (some 43) :: (some 44) :: (some 45) :: (some 46) :: (some 47) :: (some 48) :: (some 49) :: (some 50) :: (some 51) :: (some 52) :: []) ([] :: [] :: [1] :: [2] :: [0,3] :: [4] :: [5] :: [5,6] :: [5,7] :: [8] :: [9] :: [9,10] :: [9] :: [9,11,12] :: [9,13] :: [9] :: [9,15] :: [9] :: [9] :: [9,17,18] :: [9] :: [9,20] :: [9,21] :: [9,14,16,19,22] :: [9,23] :: [9,24] :: []) (.val _ :: .val _ :: .val _ :: .val _ :: .val _ :: .val _ :: .val _ :: .val _ :: .val _ :: .val _ :: .val _ :: .val _ :: .val _ :: .val _ :: .val _ :: .val _ :: .val _ :: .val _ :: .val _ :: .val _ :: .val _ :: .val _ :: .val _ :: .val _ :: .val _ :: .val _ :: []) (false :: false :: false :: false :: false :: false :: false :: false :: false :: false :: false :: false :: false :: false :: false :: false :: false :: false :: false :: false :: false :: false :: false :: false :: false :: false :: []) (by kernel_rfl) rfl rfl rfl (fun cV=>⟨cR,H1 (aW k4),dy 3 ke kI,H1 (eS Tryz.underlying47),kx jU,cR,fa fun ay au=>fun hb=>c3 (ab rfl),fa fun ay au=>fun hb=>jU (ct rfl hb) (bK 4),du fun ay au=>o9 (ab rfl) (ab rfl) (fun h=>h),cR,fa fun ay au=>fun hb=>aW k4 (ab rfl),fa fun ay au=>fun hb=>fj (i:=3) ((aL.id bJ).comp ke) (r:=ag.bY) kI (ct rfl hb) (au _ _ rfl rfl) rfl rfl,fa fun ay au=>fun hb=>c3 (ab rfl),fa fun ay au=>fun hb=>o3 (k:=b0) Tryz.underlying47 gG (ct rfl hb) (ct rfl hb) (cc (ha de hb)),fa fun ay au=>fun hb=>c2 gG (ct rfl hb),fa fun ay au=>fun hb=>aW qT (ab rfl),fa fun ay au=>fun hb=>fj (i:=0) ((aL.id cE).comp k2) (r:=(ax al.1.bx aZ).cg) bE (ct rfl hb) (au _ _ rfl rfl) rfl rfl,fa fun ay au=>fun hb=>fj (i:=4) (aL.id a2) (r:=J) fH (ab rfl) (au _ _ rfl rfl) rfl rfl,fa fun ay au=>fun hb=>fj (i:=0) (aL.id cE) (r:=(ax al.1.bx aZ)) h8 (ab rfl) (au _ _ rfl rfl) rfl rfl,fa fun ay au=>fun hb=>hP VD (Re (ha ck hb)) ⟨ct rfl hb,ct rfl hb,trivial⟩,fa fun ay au=>fun hb=>c3 (ab rfl),fa fun ay au=>fun hb=>ee (k:=c1) fD (ab rfl) (ct rfl hb) (cc (ha fl hb)),fa fun ay au=>fun hb=>fj (i:=2) ((aL.id (Vector ak 4)).comp (aL.idx (α:=ak) 4 c1 (cc (ha fl hb)).1)) (r:=bD aT c1) bN (ct rfl hb) (au _ _ rfl rfl) rfl rfl,fa fun ay au=>fun hb=>hP VE (Rf (ha dR hb)) ⟨ct rfl hb,ct rfl hb,ct rfl hb,ct rfl hb,trivial⟩,fa fun ay au=>fun hb=>hz (ct rfl hb),tc di fun ay au=>o9 (ab rfl) (ab rfl) (fun h=>h),trivial⟩) fun cV=> ?_
    refine aJ ?_
    refine ch h (fun h=>?_) fun h=>?_
    ·refine aC ?_
     refine aK ?_
     refine aJ ?_
     refine ah.ret ?_
     refine ad.dQ ?_
     refine ad.ret ?_
     obtain rfl:=aG h
     exact dU () 1
    ·refine ah.skip ?_
     refine ad.dG ?_
     refine ad.next ?_
     refine ah.cn ?_
     refine bf c9 ?_
     refine aB ?_
     refine aj.nil ?_
     obtain rfl:=aG h
     exact e0 () 1
   ·refine ah.exit ?_
    refine ad.exit ?_
    obtain rfl:=aG h
    exact dU () 0
  ·clear ao
   rcases aA with aA | aA
   ·simp only [Sum.elim_inl] at h
    refine ad.eT ?_
    refine ad.next ?_
    refine aC ?_
    refine aK ?_
    refine aJ ?_
    refine ah.ret ?_
    obtain rfl:=aG h
    exact c8
   ·simp only [Sum.elim_inr] at h
    refine ad.dQ ?_
    refine ad.ret ?_
    obtain rfl:=aG h
    exact c8
end Go.Proofs.YtmnggbjcnoffeaaGreat
namespace Go.Proofs.YtmnggbjcnoffeaaGreat
open Go Gv
set_option linter.unusedVariables false
set_option linter.unusedSimpArgs false
set_option maxRecDepth 100000
set_option maxHeartbeats 2000000
theorem PR {J:List cE} {ag:cE→Option Bool} {r:Bool} (h:xA J ag=some r):bw Tryz.prog 112 [I.of (J),I.pe Tryz.prog ag] (I.of (r)):=by
 unfold xA at h
 refine bw.of Tryz.func112 rfl Tryz.ntmps112 rfl fun W A=> ?_
 refine aC ?_
 refine aK ?_
 refine bZ ?_
 refine aB ?_
 refine aB ?_
 obtain⟨al,bs,h⟩:=aw h
 refine dc Nv (JN bs) ?_
 refine bf jU ?_
 refine aK ?_
 refine aJ ?_
 refine ah.ret ?_
 obtain rfl:=aG h
 exact c8
end Go.Proofs.YtmnggbjcnoffeaaGreat
namespace Go.Proofs.YtmnggbjcnoffeaaGreat
open Go Gv
set_option linter.unusedVariables false
set_option linter.unusedSimpArgs false
set_option maxRecDepth 100000
set_option maxHeartbeats 2000000
end Go.Proofs.YtmnggbjcnoffeaaGreat
namespace Go.Proofs.YtmnggbjcnoffeaaGreat
open Go Gv
set_option linter.unusedVariables false
set_option linter.unusedSimpArgs false
set_option maxRecDepth 100000
set_option maxHeartbeats 2000000
theorem Kx {J:a4} {ag:a4} {r:a4 × Bool} (h:vM J ag=some r):bw Tryz.prog 154 [I.of (J),I.of (ag)] (I.cN [I.of (r.1),I.of (r.2)]):=by
 unfold vM at h
 refine bw.of Tryz.func154 rfl Tryz.ntmps154 rfl fun W A=> ?_
 refine aC ?_
 refine cf fun aS=> ?_
 refine cf fun a3=> ?_
 refine cx h1 fun bH=> ?_
 refine aK ?_
 refine bZ ?_
 refine aY (aW m7) ?_
 refine cb 2 lj dv ?_
 refine aY (aW m7) ?_
 refine cb 1 lj dv ?_
 obtain⟨al,bs,h⟩:=aw h
 refine bj (hP zO (yg bs) ⟨ab rfl,ab rfl,yV nT (fun _ _ _=>nD),trivial⟩) ?_
 refine cx jm fun cA=> ?_
 refine b3 0 dv ?_
 refine bG ?_
 refine ah.seq ?_
 obtain⟨aN,ck,h⟩:=aw h
 obtain⟨a7,dR,h⟩:=aw h
 refine ah.draw mixed 9 [some 12,some 13,some 14,some 15,some 16,some 17,some 18,some 19,some 20] [[],[0],[],[2],[1,3],[],[4,5],[],[6,7]] [.val _,.val _,.val _,.val _,.val _,.val _,.val _,.val _,.val _] [false,false,false,false,false,false,false,false,false] (by kernel_rfl) rfl rfl rfl (fun cV=>⟨H1 (aW oe),dy 3 mu dv,H1 (aW oe),dy 2 mu dv,du fun ay au=>hP zO (yg ck) ⟨ab rfl,ab rfl,yV Dm (fun _ _ _=>Cv),trivial⟩,e1 0 dv,du fun ay au=>hP zO (yg dR) ⟨ab rfl,ab rfl,yV nT (fun _ _ _=>nD),trivial⟩,du fun ay au=>CM (b:=(default:Vector ak 4)) (sz:=2) rfl Tryz.underlying45 (by kernel_rfl) jm (.nil),kx (Dh He rfl VF rfl),trivial⟩) fun cV=> ?_
 refine aJ ?_
 refine ch h (fun h=>?_) fun h=>?_
 ·refine aC ?_
  refine gV wD h1 (default:a4) .nil ?_
  refine b3 1 c0 ?_
  refine aK ?_
  refine aJ ?_
  refine ah.ret ?_
  refine ad.ret ?_
  obtain rfl:=aG h
  exact ad.p7 rfl (eH 1 c0) (h9 rfl)
 ·refine cJ ?_
  refine ah.seq ?_
  obtain⟨bR,e2,h⟩:=aw h
  obtain⟨br,g2,h⟩:=aw h
  refine ah.draw mixed 11 [some 22,some 23,some 24,some 25,some 26,some 27,some 28,some 29,some 30,some 31,some 32] [[],[0],[],[2],[1,3],[],[5],[],[7],[6,8],[4,9]] [.val _,.val _,.val _,.val _,.val _,.val _,.val _,.val _,.val _,.val _,.val _] [false,false,false,false,false,false,false,false,false,false,false] (by kernel_rfl) rfl rfl rfl (fun hB=>⟨H1 (aW oe),dy 3 mu dv,H1 (aW oe),dy 2 mu dv,du fun ay au=>hP zO (yg e2) ⟨ab rfl,ab rfl,yV q4 (fun _ _ _=>qM),trivial⟩,H1 (aW m7),dy 3 lj dv,H1 (aW m7),dy 2 lj dv,du fun ay au=>hP zO (yg g2) ⟨ab rfl,ab rfl,yV q4 (fun _ _ _=>qM),trivial⟩,du fun ay au=>cU (b:= { bI:=bR,bQ:=br:a4 }) rfl wD h1 (.cons mu rfl (ab rfl) rfl (.cons lj rfl (ab rfl) rfl (.nil))),trivial⟩) fun hB=> ?_
  refine b3 1 c0 ?_
  refine aK ?_
  refine aJ ?_
  refine ah.ret ?_
  obtain rfl:=aG h
  exact ad.p7 rfl (eH 1 c0) (h9 rfl)
theorem PN {J:List a4} {ag:a4→Option Bool} {p2:Option Nat} {hf:Nat} {r:(List a4)} (h:vg J ag=some r):cy Tryz.prog 151 [I.eq (a0 p2 J.length hf),I.pe Tryz.prog ag] [⟨p2,.row 155 (J:List a4) hf⟩] (δ:=Unit) (fun d=>I.of (r)) (fun d=> []):=by
 unfold vg at h
 refine cy.of Tryz.func151 rfl Tryz.ntmps151 rfl fun W A=> ?_
 refine aC ?_
 refine bj (eG (look_nil (α:=a4))) ?_
 refine bZ ?_
 refine aB ?_
 refine aB ?_
 obtain⟨al,bs,h⟩:=aw h
 refine bj (b7.XE (α:=a4) 0 8 rfl rfl tL (hP Nw (JL bs) ⟨ab rfl,ab rfl,trivial⟩)) ?_
 refine aK ?_
 refine bG ?_
 refine aC ?_
 refine aB ?_
 refine bf gf ?_
 refine aJ ?_
 refine ch h (fun h=>?_) fun h=>?_
 ·refine aC ?_
  refine aB ?_
  refine aK ?_
  refine aJ ?_
  refine ah.ret ?_
  refine ad.ret ?_
  refine ad.l1 (α:=a4) 0 [4,0,8,13] ⟨rfl,rfl,rfl,rfl,trivial⟩ rfl ?_
  obtain rfl:=aG h
  exact la ()
 ·refine cJ ?_
  refine ah.seq ?_
  refine aC ?_
  refine aB ?_
  refine bf c9 ?_
  refine aK ?_
  refine aJ ?_
  refine ah.block ?_
  obtain⟨aA,ao,h⟩:=aw h
  refine gN (γ:=(Option Nat × Nat)) (δ:=(Option Nat × Nat)) ao [1,4,12] (fun s1 az=> [(0,I.eq (a0 az.1 s1.2.2.length az.2)),(5,I.of (s1.1)),(6,I.of (s1.2.1))]) (fun s1 az=> [(0,⟨az.1,.row 155 (s1.2.2:List a4) az.2⟩)]) (fun aF=>Exit.exit 0) (fun aF az=> [(0,I.eq (a0 az.1 aF.2.2.2.length az.2)),(5,I.of (aF.1)),(6,I.of (aF.2.1)),(19,I.of (aF.2.2.1))]) (fun aF az=> [(0,⟨az.1,.row 155 (aF.2.2.2:List a4) az.2⟩)]) (p2,hf) (fun s1 r h az=> ?_) fun az=> ?_
  ·clear ao
   refine ah.seq ?_
   refine aC ?_
   refine aB ?_
   refine aB ?_
   refine bj (sw (i:=0) Tryz.underlying156 (ab rfl) rfl rfl) ?_
   refine bf eb ?_
   refine aJ ?_
   refine ch h (fun h=>?_) fun h=>?_
   ·refine cJ ?_
    refine ah.seq ?_
    refine ah.block ?_
    refine aC ?_
    refine aB ?_
    refine aB ?_
    obtain⟨aZ,cv,h⟩:=aw h
    refine bj (p0 (i:=0) (k:=aZ) (xs:=(s1.2.2:List a4)) Tryz.underlying156 c0 (ab rfl) (ab rfl) rfl (cc cv)) ?_
    refine bj (CX (i:=0) (k:=aZ) (aL.id a4) (r:=(ax s1.2.2 aZ)) c0 (ab rfl) rfl (cc cv).1 rfl rfl) ?_
    refine cx h1 fun aS=> ?_
    refine b3 0 c0 ?_
    refine bZ ?_
    refine aB ?_
    refine b6 0 c0 ?_
    obtain⟨aN,ck,h⟩:=aw h
    refine bj (vV (ab rfl) (ab rfl) ck) ?_
    refine aY hz ?_
    refine aJ ?_
    obtain⟨bM,cG,h⟩:=aw h
    refine iq (γ:=(Option Nat × Nat)) [1,4,6,7,12,19,29] (fun a5=> [(0,I.eq (a0 a5.1 bM.2.length a5.2)),(5,I.of (bM.1))]) (fun a5=> [(1,⟨a5.1,.row 155 (bM.2:List a4) a5.2⟩)]) (fun a5=> ?_) (fun hm ar=> ?_) fun hm ar=> ?_
    ·clear cG
     refine ad.dG ?_
     refine ad.next ?_
     refine ah.cn ?_
     refine aB ?_
     refine bf c9 ?_
     refine aK ?_
     refine aj.nil ?_
     obtain rfl:=aG h
     exact e0 (a5.1,a5.2) 1
    ·have h:=gQ ar cG
     refine aC ?_
     refine aB ?_
     refine aB ?_
     refine b6 0 c0 ?_
     obtain⟨b0,de,h⟩:=aw h
     refine bj (p0 (i:=1) (k:=b0) (xs:=(s1.2.2:List a4)) Tryz.underlying156 c0 (ab rfl) (ab rfl) rfl (cc de)) ?_
     refine aj.wc (i:=1) (k:=b0) (aL.id a4) (v:=((ax s1.2.2 aZ):a4)) (r:=(hk s1.2.2 b0 (ax s1.2.2 aZ):List a4)) c0 (ab rfl) (ab rfl) rfl (cc de).1 rfl rfl ?_
     refine aj.k6 (m:=(hk s1.2.2 b0 (ax s1.2.2 aZ)).length) 0 rfl (mv rfl) ?_
     refine aj.k6 (m:=(hk s1.2.2 b0 (ax s1.2.2 aZ)).length) 17 rfl (mv rfl) ?_
     refine aj.k6 (m:=(hk s1.2.2 b0 (ax s1.2.2 aZ)).length) 22 rfl (mv rfl) ?_
     refine aj.k6 (m:=(hk s1.2.2 b0 (ax s1.2.2 aZ)).length) 30 rfl (mv rfl) ?_
     refine aJ ?_
     refine ah.cn ?_
     refine aB ?_
     refine bf c9 ?_
     refine aK ?_
     refine aj.nil ?_
     obtain rfl:=aG h
     exact dt 0 (hm (az.1,az.2))
    ·have h:=gR ar cG
     refine ah.skip ?_
     obtain rfl:=aG h
     exact dt 0 (hm (az.1,az.2))
   ·refine ah.exit ?_
    refine ad.exit ?_
    obtain rfl:=aG h
    exact dU (az.1,az.2) 0
  ·clear ao
   refine ad.eT ?_
   refine ad.next ?_
   refine aC ?_
   refine aB ?_
   refine aB ?_
   obtain⟨a7,dR,h⟩:=aw h
   refine bj (CN (i:=0) (xs:=(aA.2.2.2:List a4)) (m:=a7.1) (n:=a7.2) Tryz.underlying156 c0 (ab rfl) rfl (.some (ab rfl)) .none (vS dR).1 (vS dR).2.1 (vS dR).2.2) ?_
   obtain⟨bl,di,h⟩:=aw h
   refine aj.clear (i:=0) (r:=bl) Tryz.underlying156 c0 h1 rfl (ab rfl) rfl (by have:=(vS dR).2.2; omega) (aG di) ?_
   refine aj.k6 (m:=bl.length) 0 rfl (KL (by have:=(vS dR).2.2; omega) (aG di)) ?_
   refine aj.k6 (m:=bl.length) 36 rfl (KL (by have:=(vS dR).2.2; omega) (aG di)) ?_
   refine bZ ?_
   refine aB ?_
   refine aB ?_
   obtain⟨c1,fl,h⟩:=aw h
   refine bj (CN (i:=0) (xs:=(bl:List a4)) (m:=0) (n:=c1) Tryz.underlying156 c0 (ab rfl) rfl .none (.some (ab rfl)) rfl (cc fl).2 ⟨Nat.zero_le _,Nat.le_of_lt_succ (cc fl).1⟩) ?_
   obtain⟨dm,hn,h⟩:=aw h
   refine aj.VG (i:=0) (n:=c1) (xs:=(bl:List a4)) (r:=dm) 41 rfl rfl (Nat.le_of_lt_succ (cc fl).1) (aG hn) ?_
   refine aK ?_
   refine aJ ?_
   refine ah.ret ?_
   refine ad.l1 (α:=a4) 0 [4,41] ⟨rfl,rfl,trivial⟩ rfl ?_
   obtain rfl:=aG h
   exact la ()
theorem PO {J:List a4} {ag:a4→Option Bool} {r:Bool} (h:xy J ag=some r):bw Tryz.prog 155 [I.of (J),I.pe Tryz.prog ag] (I.of (r)):=by
 unfold xy at h
 refine bw.of Tryz.func155 rfl Tryz.ntmps155 rfl fun W A=> ?_
 refine aC ?_
 refine aK ?_
 refine bZ ?_
 refine aB ?_
 refine aB ?_
 obtain⟨al,bs,h⟩:=aw h
 refine dc Nw (JL bs) ?_
 refine bf jU ?_
 refine aK ?_
 refine aJ ?_
 refine ah.ret ?_
 obtain rfl:=aG h
 exact c8
end Go.Proofs.YtmnggbjcnoffeaaGreat
namespace Go.Proofs.YtmnggbjcnoffeaaGreat
open Go Gv
set_option linter.unusedVariables false
set_option linter.unusedSimpArgs false
set_option maxRecDepth 100000
set_option maxHeartbeats 2000000
theorem Qf {J:aI} {ag:Int} {r:Bool} (h:BY J ag=some r):bw Tryz.prog 111 [I.of (J),I.ptr ag] (I.of (r)):=by
 unfold BY at h
 refine bw.of Tryz.func111 rfl Tryz.ntmps111 rfl fun W A=> ?_
 refine aC ?_
 refine cf fun aS=> ?_
 refine aK ?_
 refine bZ ?_
 refine aY (aW lu) ?_
 refine cb 0 kd bE ?_
 refine aY (c2 bE) ?_
 refine bf gf ?_
 refine aK ?_
 refine aJ ?_
 refine ah.ret ?_
 obtain rfl:=aG h
 exact c8
theorem Qg {J:cE} {r:Bool} (h:BZ J=some r):bw Tryz.prog 113 [I.of (J)] (I.of (r)):=by
 unfold BZ at h
 refine bw.of Tryz.func113 rfl Tryz.ntmps113 rfl fun W A=> ?_
 refine aC ?_
 refine cf fun aS=> ?_
 refine aK ?_
 refine bZ ?_
 refine aY (aW qT) ?_
 refine cb 0 k2 bE ?_
 refine bf gf ?_
 refine aK ?_
 refine aJ ?_
 refine ah.ret ?_
 obtain rfl:=aG h
 exact c8
theorem QT {J:a2} {ag:List aI} {aT:aI} {r:(List aI) × a2 × aI} (h:Fa J ag aT=some r):bw Tryz.prog 115 [I.of (J),I.of (ag),I.of (aT)] (I.gW 149 [I.ptr r.1,I.ptr r.2.1,I.ptr r.2.2]):=by
 unfold Fa at h
 refine bw.of Tryz.func115 rfl Tryz.ntmps115 rfl fun W A=> ?_
 refine aC ?_
 refine cf fun aS=> ?_
 refine cf fun a3=> ?_
 refine cf fun bH=> ?_
 refine bj (eG (C7 .nilFunc)) ?_
 refine bZ ?_
 refine aj.share (α:=List aI) 1 4 rfl rfl ?_
 refine aj.share (α:=a2) 2 3 rfl rfl ?_
 refine aj.share (α:=aI) 0 5 rfl rfl ?_
 refine bj (G0 (f:=149) (τs:= [I.ptr ag,I.ptr J,I.ptr aT]) ⟨ab rfl,ab rfl,ab rfl,trivial⟩) ?_
 refine aK ?_
 refine aJ ?_
 refine ah.ret ?_
 obtain rfl:=aG h
 exact c8
end Go.Proofs.YtmnggbjcnoffeaaGreat
namespace Go.Proofs.YtmnggbjcnoffeaaGreat
open Go Gv
set_option linter.unusedVariables false
set_option linter.unusedSimpArgs false
set_option maxRecDepth 100000
set_option maxHeartbeats 2000000
theorem QU {J:a4} {ag:a4} {r:Bool} (h:vz J ag=some r):bw Tryz.prog 153 [I.of (J),I.ptr ag] (I.of (r)):=by
 unfold vz at h
 refine bw.of Tryz.func153 rfl Tryz.ntmps153 rfl fun W A=> ?_
 refine aC ?_
 refine cf fun aS=> ?_
 refine aK ?_
 refine bZ ?_
 refine aY (c2 c0) ?_
 refine b6 0 c0 ?_
 obtain⟨al,bs,h⟩:=aw h
 refine dc Nx (Kx bs) ?_
 refine aB ?_
 refine ez ?_
 refine ez ?_
 refine cx h1 fun a3=> ?_
 refine b3 0 c0 ?_
 refine aK ?_
 refine bZ ?_
 refine aB ?_
 refine aY hz ?_
 refine aK ?_
 refine aJ ?_
 refine ah.ret ?_
 obtain rfl:=aG h
 exact c8
theorem Rq {J:a4} {ag:a4} {r:Bool} (h:yx J ag=some r):bw Tryz.prog 157 [I.of (J),I.of (ag)] (I.of (r)):=by
 unfold yx at h
 refine bw.of Tryz.func157 rfl Tryz.ntmps157 rfl fun W A=> ?_
 refine aC ?_
 refine cf fun aS=> ?_
 refine cf fun a3=> ?_
 refine aK ?_
 refine bZ ?_
 refine b6 1 c0 ?_
 refine b6 0 c0 ?_
 obtain⟨al,bs,h⟩:=aw h
 refine dc Nx (Kx bs) ?_
 refine aB ?_
 refine ez ?_
 refine ez ?_
 refine cx h1 fun bH=> ?_
 refine b3 0 c0 ?_
 refine aK ?_
 refine bZ ?_
 refine aB ?_
 refine aB ?_
 refine eW (fun hb=>fj (i:=0) (aL.id a4) (r:=al.1) c0 (ab rfl) rfl rfl rfl) ?_
 refine eW (fun hb=>fj (i:=2) (aL.id a4) (r:=J) c0 (ab rfl) rfl rfl rfl) ?_
 refine kn (ug GH rfl GI rfl) ?_
 refine ja ?_
 refine aK ?_
 refine aJ ?_
 refine ah.ret ?_
 obtain rfl:=aG h
 exact c8
theorem Ky {J:ak} {ag:Int} {r:ak} (h:vN J ag=some r):bw Tryz.prog 194 [I.of (J),I.of (ag)] (I.of (r)):=by
 unfold vN at h
 refine bw.of Tryz.func194 rfl Tryz.ntmps194 rfl fun W A=> ?_
 refine aC ?_
 refine cf fun aS=> ?_
 refine cx dP fun a3=> ?_
 refine bG ?_
 obtain⟨al,bs,h⟩:=aw h
 obtain⟨aN,ck,h⟩:=aw h
 refine ah.draw mixed 10 [some 5,some 6,some 7,some 8,some 9,some 10,some 11,some 12,some 13,some 14] [[],[0],[],[2],[3],[],[5],[6],[4,7],[1,8]] [.val _,.val _,.val _,.val _,.val _,.val _,.val _,.val _,.val _,.val _] [false,false,false,false,false,false,false,false,false,false] (by kernel_rfl) rfl rfl rfl (fun cV=>⟨cR,e8 zG (yA bs),H1 (aW jC),dy 1 g8 en,H1 L5,H1 (aW hO),dy 1 dT en,H1 L5,du fun ay au=>cU (b:= { c6:= ~~~J.c6,bO:= ~~~J.bO:ak }) rfl gT dP (.cons g8 rfl (ab rfl) rfl (.cons dT rfl (ab rfl) rfl (.nil))),e8 nT (nD ck),trivial⟩) fun cV=> ?_
 refine b3 0 bN ?_
 refine aJ ?_
 refine ah.ret ?_
 obtain rfl:=aG h
 exact ad.hg rfl (eH 0 bN)
theorem Kz {J:Vector ak 4} {ag:Int} {r:Bool} (h:vO J ag=some r):bw Tryz.prog 195 [I.of (J),I.of (ag)] (I.of (r)):=by
 unfold vO at h
 refine bw.of Tryz.func195 rfl Tryz.ntmps195 rfl fun W A=> ?_
 refine aC ?_
 refine cf fun aS=> ?_
 refine aK ?_
 refine bZ ?_
 refine aB ?_
 obtain⟨al,bs,h⟩:=aw h
 refine bj (Ng (ab rfl) (bK 128) (KZ bs)) ?_
 obtain⟨aZ,cv,h⟩:=aw h
 refine bj (ee (k:=aZ) fD (ab rfl) (ab rfl) (cc cv)) ?_
 refine cb 0 ((aL.id (Vector ak 4)).comp (aL.idx (α:=ak) 4 aZ (cc cv).1)) bN ?_
 refine aB ?_
 obtain⟨aN,ck,h⟩:=aw h
 refine bj (zE (ab rfl) (bK 128) (yN ck)) ?_
 refine bf ly ?_
 obtain⟨a7,dR,h⟩:=aw h
 refine dc Dn (Cw dR) ?_
 refine aK ?_
 refine aJ ?_
 refine ah.ret ?_
 obtain rfl:=aG h
 exact c8
theorem R4 {J:Vector ak 4} {ag:Int} {r:Bool} (h:yK J ag=some r):bw Tryz.prog 163 [I.of (J),I.of (ag)] (I.of (r)):=by
 unfold yK at h
 refine bw.of Tryz.func163 rfl Tryz.ntmps163 rfl fun W A=> ?_
 refine aC ?_
 refine cf fun aS=> ?_
 refine aK ?_
 refine bZ ?_
 refine aB ?_
 obtain⟨al,bs,h⟩:=aw h
 refine dc Ny (Kr bs) ?_
 refine aB ?_
 refine ez ?_
 refine ez ?_
 refine aK ?_
 refine aK ?_
 refine bZ ?_
 refine aB ?_
 obtain⟨aZ,cv,h⟩:=aw h
 refine bj (ee (k:=aZ) fD (ab rfl) (ab rfl) (cc cv)) ?_
 refine cb 0 ((aL.id (Vector ak 4)).comp (aL.idx (α:=ak) 4 aZ (cc cv).1)) bN ?_
 refine aB ?_
 obtain⟨aN,ck,h⟩:=aw h
 refine dc Dn (Cw ck) ?_
 refine aK ?_
 refine aJ ?_
 refine ah.ret ?_
 obtain rfl:=aG h
 exact c8
end Go.Proofs.YtmnggbjcnoffeaaGreat
namespace Go.Proofs.YtmnggbjcnoffeaaGreat
open Go Gv
set_option linter.unusedVariables false
set_option linter.unusedSimpArgs false
set_option maxRecDepth 100000
set_option maxHeartbeats 2000000
theorem RB {J:cr} {ag:Int} {aT:Int} {r:ak} (h:yC J ag aT=some r):bw Tryz.prog 147 [I.of (J),I.of (ag),I.of (aT)] (I.of (r)):=by
 unfold yC at h
 refine bw.of Tryz.func147 rfl Tryz.ntmps147 rfl fun W A=> ?_
 refine aC ?_
 refine cf fun aS=> ?_
 refine cx dP fun a3=> ?_
 refine bG ?_
 refine ah.block ?_
 refine aC ?_
 refine aY (aW Gz) ?_
 refine cb 1 qB ir ?_
 refine aY hz ?_
 refine aK ?_
 refine aJ ?_
 refine ch h (fun h=>?_) fun h=>?_
 ·refine aC ?_
  refine gV gT dP (default:ak) .nil ?_
  refine b3 0 bN ?_
  refine aJ ?_
  refine ah.ret ?_
  refine ad.dQ ?_
  refine ad.ret ?_
  obtain rfl:=aG h
  exact ad.hg rfl (eH 0 bN)
 ·refine aC ?_
  refine aB ?_
  refine bf gf ?_
  refine aK ?_
  refine aJ ?_
  refine ch h (fun h=>?_) fun h=>?_
  ·refine aC ?_
   refine aB ?_
   obtain⟨al,bs,h⟩:=aw h
   refine dc zG (yA bs) ?_
   refine b3 0 bN ?_
   refine aJ ?_
   refine ah.ret ?_
   refine ad.dQ ?_
   refine ad.ret ?_
   obtain rfl:=aG h
   exact ad.hg rfl (eH 0 bN)
  ·refine aC ?_
   refine aB ?_
   refine bf gf ?_
   refine aK ?_
   refine aJ ?_
   refine ch h (fun h=>?_) fun h=>?_
   ·refine aC ?_
    refine aB ?_
    refine aY (aW tW) ?_
    refine cb 1 pL bE ?_
    obtain⟨aN,ck,h⟩:=aw h
    refine dc G4 (Fc ck) ?_
    refine b3 0 bN ?_
    refine aJ ?_
    refine ah.ret ?_
    refine ad.dQ ?_
    refine ad.ret ?_
    obtain rfl:=aG h
    exact ad.hg rfl (eH 0 bN)
   ·refine ah.skip ?_
    refine ad.dG ?_
    refine ad.next ?_
    refine aC ?_
    refine aY (aW zg) ?_
    refine cb 1 r1 bN ?_
    refine b3 0 bN ?_
    refine aJ ?_
    refine ah.ret ?_
    obtain rfl:=aG h
    exact ad.hg rfl (eH 0 bN)
theorem yD {J:a4} {ag:List a4} {r:(List a4)} (h:qJ J ag=some r):bw Tryz.prog 116 [I.of (J),I.of (ag)] (I.of (r)):=by
 unfold qJ at h
 refine bw.of Tryz.func116 rfl Tryz.ntmps116 rfl fun W A=> ?_
 refine aC ?_
 refine cf fun aS=> ?_
 refine bj (eG (look_nil (α:=a4))) ?_
 refine bZ ?_
 refine aB ?_
 obtain⟨al,bs,h⟩:=aw h
 refine eM 0 VH (PW bs) fun aF=> ?_
 refine aj.share (α:=a4) 1 2 rfl rfl ?_
 refine bj (wa (F:=(fun fM=>vz fM J)) (τs:= [I.ptr J]) VI ⟨ab rfl,trivial⟩ (fun _ _ h=>QU h)) ?_
 refine aj.bU 0 rfl ?_
 obtain⟨aN,ck,h⟩:=aw h
 refine eM 1 VJ (PN ck) fun cT=> ?_
 refine aK ?_
 refine aJ ?_
 refine ah.ret ?_
 obtain rfl:=aG h
 exact c8
theorem QA {J:a4} {ag:a4} {r:Bool} (h:x5 J ag=some r):bw Tryz.prog 156 [I.of (J),I.ptr ag] (I.of (r)):=by
 unfold x5 at h
 refine bw.of Tryz.func156 rfl Tryz.ntmps156 rfl fun W A=> ?_
 refine aC ?_
 refine cf fun aS=> ?_
 refine aK ?_
 refine bZ ?_
 refine aY (c2 c0) ?_
 refine b6 0 c0 ?_
 obtain⟨al,bs,h⟩:=aw h
 refine dc VK (Rq bs) ?_
 refine aK ?_
 refine aJ ?_
 refine ah.ret ?_
 obtain rfl:=aG h
 exact c8
end Go.Proofs.YtmnggbjcnoffeaaGreat
namespace Go.Proofs.YtmnggbjcnoffeaaGreat
open Go Gv
set_option linter.unusedVariables false
set_option linter.unusedSimpArgs false
set_option maxRecDepth 100000
set_option maxHeartbeats 2000000
end Go.Proofs.YtmnggbjcnoffeaaGreat
namespace Go.Proofs.YtmnggbjcnoffeaaGreat
open Go Gv
set_option linter.unusedVariables false
set_option linter.unusedSimpArgs false
set_option maxRecDepth 100000
set_option maxHeartbeats 2000000
theorem CA {J:a4} {ag:Int} {aT:Bool} {r:a4} (h:qN J ag aT=some r):bw Tryz.prog 123 [I.of (J),I.of (ag),I.of (aT)] (I.of (r)):=by
 unfold qN at h
 refine bw.of Tryz.func123 rfl Tryz.ntmps123 rfl fun W A=> ?_
 refine aC ?_
 refine cf fun aS=> ?_
 refine cx h1 fun a3=> ?_
 refine bG ?_
 refine aC ?_
 refine aB ?_
 refine bf eb ?_
 refine aB ?_
 refine dE c3 ?_
 refine kn jU ?_
 refine qg ?_
 refine aB ?_
 refine dE (aW m7) ?_
 refine eW (fun hb=>fj (i:=1) ((aL.id a4).comp lj) (r:=J.bQ) dv (ct rfl hb) rfl rfl rfl) ?_
 refine dE c3 ?_
 obtain⟨al,bs,h⟩:=aw h
 refine eW (fun hb=>hP VL (R4 (ha bs hb)) ⟨ct rfl hb,ct rfl hb,trivial⟩) ?_
 refine qg ?_
 refine aJ ?_
 refine ch h (fun h=>?_) fun h=>?_
 ·refine aC ?_
  refine b6 1 c0 ?_
  refine b3 0 c0 ?_
  refine aJ ?_
  refine ah.ret ?_
  refine ad.ret ?_
  obtain rfl:=aG h
  exact ad.hg rfl (eH 0 c0)
 ·refine cJ ?_
  refine aC ?_
  refine aB ?_
  obtain⟨aN,ck,h⟩:=aw h
  refine dc Ny (Kr ck) ?_
  refine aB ?_
  refine ez ?_
  refine ez ?_
  refine aK ?_
  refine aK ?_
  refine bZ ?_
  obtain⟨a7,dR,h⟩:=aw h
  refine bj (hP VM (R3 dR) ⟨gb 1 rfl,trivial⟩) ?_
  refine aB ?_
  obtain⟨bR,e2,h⟩:=aw h
  refine dc VN (RA e2) ?_
  refine cx dP fun bH=> ?_
  refine b3 0 bN ?_
  refine bG ?_
  obtain⟨aZ,cv,h⟩:=aw h
  obtain⟨br,g2,h⟩:=aw h
  obtain⟨b0,de,h⟩:=aw h
  refine ah.draw mixed 9 [some 31,some 32,some 33,some 34,some 35,some 36,some 37,some 38,some 39] [[],[],[],[1,2],[3],[],[4,5],[],[0,7]] [.val _,.val _,.val _,.val _,.val _,.val _,.val _,.val _,.val _] [false,false,false,false,false,false,false,false,false] (by kernel_rfl) rfl rfl rfl (fun cV=>⟨cR,cR,H1 (aW m7),du fun ay au=>ee (k:=aZ) fD (ab rfl) (ab rfl) (cc cv),dy 2 (((aL.id a4).comp lj).comp (aL.idx (α:=ak) 4 aZ (cc cv).1)) bN,e1 0 bN,e8 q4 (qM g2),H1 (aW m7),du fun ay au=>ee (k:=b0) fD (ab rfl) (ab rfl) (cc de),trivial⟩) fun cV=> ?_
  refine me 2 (((aL.id a4).comp lj).comp (aL.idx (α:=ak) 4 b0 (cc de).1)) bN ?_
  refine bG ?_
  refine aC ?_
  refine aB ?_
  refine aJ ?_
  obtain⟨bM,cG,h⟩:=aw h
  refine iq (γ:=Unit) [0,1,2,3,6,7,8,9,21,40] (fun az=> []) (fun az=> [(2,⟨some aS,.var (bM:a4)⟩)]) (fun az=> ?_) (fun hm ar=> ?_) fun hm ar=> ?_
  ·clear cG
   refine ad.next ?_
   refine aC ?_
   refine b6 2 c0 ?_
   refine b3 1 c0 ?_
   refine aJ ?_
   refine ah.ret ?_
   obtain rfl:=aG h
   exact ad.hg rfl (eH 1 c0)
  ·have h:=gQ ar cG
   obtain⟨c1,fl,h⟩:=aw h
   obtain⟨b8,g3,h⟩:=aw h
   obtain⟨fm,iZ,h⟩:=aw h
   refine ah.draw mixed 9 [some 41,some 42,some 43,some 44,some 45,some 46,some 47,some 48,some 49] [[],[],[],[1,2],[3],[],[4,5],[],[0,7]] [.val _,.val _,.val _,.val _,.val _,.val _,.val _,.val _,.val _] [false,false,false,false,false,false,false,false,false] (by kernel_rfl) rfl rfl rfl (fun hB=>⟨cR,cR,H1 (aW oe),du fun ay au=>ee (k:=c1) fD (ab rfl) (ab rfl) (cc fl),dy 2 (((aL.id a4).comp mu).comp (aL.idx (α:=ak) 4 c1 (cc fl).1)) bN,e1 0 bN,e8 q4 (qM g3),H1 (aW oe),du fun ay au=>ee (k:=fm) fD (ab rfl) (ab rfl) (cc iZ),trivial⟩) fun hB=> ?_
   obtain⟨bl,di,h⟩:=aw h
   refine w6 2 (((aL.id a4).comp mu).comp (aL.idx (α:=ak) 4 fm (cc iZ).1)) bN (hb:=by exact di) ?_
   refine aj.nil ?_
   obtain rfl:=aG h
   exact dt 0 (hm ())
  ·have h:=gR ar cG
   refine ah.skip ?_
   obtain rfl:=aG h
   exact dt 0 (hm ())
end Go.Proofs.YtmnggbjcnoffeaaGreat
namespace Go.Proofs.YtmnggbjcnoffeaaGreat
open Go Gv
set_option linter.unusedVariables false
set_option linter.unusedSimpArgs false
set_option maxRecDepth 100000
set_option maxHeartbeats 2000000
theorem Rr {J:List Int} {r:Int} (h:yy J=some r):bw Tryz.prog 133 [I.of (J)] (I.of (r)):=by
 unfold yy at h
 refine bw.of Tryz.func133 rfl Tryz.ntmps133 rfl fun W A=> ?_
 refine aC ?_
 refine aK ?_
 refine bG ?_
 refine aC ?_
 refine aB ?_
 refine aY (eS Tryz.underlying63) ?_
 refine aB ?_
 refine aJ ?_
 refine ah.block ?_
 obtain⟨aA,ao,h⟩:=aw h
 refine gN (γ:=Unit) (δ:=Unit) ao [0,5,6] (fun s1 az=> [(2,I.of (0:Int)),(7,I.of (s1))]) (fun s1 az=> []) (fun aF=>Sum.elim (fun aF=>Exit.exit 0) (fun aF=>Exit.ret) aF) (fun aF az=>Sum.elim (fun aF=> [(2,I.of (0:Int)),(7,I.of (aF.1)),(8,I.of (aF.2))]) (fun aF=> [(2,I.of (aF.1)),(4,I.of (aF.2.1)),(7,I.of (aF.2.2.1)),(8,I.of (aF.2.2.2.1)),(12,I.of (aF.2.2.2.2))]) aF) (fun aF az=>Sum.elim (fun aF=> []) (fun aF=> []) aF) () (fun s1 r h az=> ?_) fun az=> ?_
 ·clear ao
  refine aC ?_
  refine bf eb ?_
  refine bG ?_
  refine ch h (fun h=>?_) fun h=>?_
  ·refine cJ ?_
   refine ah.seq ?_
   refine ah.block ?_
   refine aC ?_
   obtain⟨aZ,cv,h⟩:=aw h
   refine gJ cv Tryz.underlying63 bE ?_
   refine aY (c2 bE) ?_
   refine aK ?_
   refine bZ ?_
   refine aB ?_
   refine bf sD ?_
   refine aJ ?_
   refine ch h (fun h=>?_) fun h=>?_
   ·refine aC ?_
    refine aB ?_
    refine aK ?_
    refine aJ ?_
    refine ah.ret ?_
    refine ad.dQ ?_
    refine ad.ret ?_
    obtain rfl:=aG h
    exact dU () 0
   ·refine ah.skip ?_
    refine ad.dG ?_
    refine ad.next ?_
    refine ah.cn ?_
    refine bf c9 ?_
    refine aB ?_
    refine aj.nil ?_
    obtain rfl:=aG h
    exact e0 () 0
  ·refine ah.exit ?_
   refine ad.exit ?_
   obtain rfl:=aG h
   exact dU () 0
 ·clear ao
  rcases aA with aA | aA
  ·simp only [Sum.elim_inl] at h
   refine ad.eT ?_
   refine ad.next ?_
   refine aC ?_
   refine aK ?_
   refine aJ ?_
   refine ah.ret ?_
   obtain rfl:=aG h
   exact c8
  ·simp only [Sum.elim_inr] at h
   refine ad.dQ ?_
   refine ad.ret ?_
   obtain rfl:=aG h
   exact c8
end Go.Proofs.YtmnggbjcnoffeaaGreat
namespace Go.Proofs.YtmnggbjcnoffeaaGreat
open Go Gv
set_option linter.unusedVariables false
set_option linter.unusedSimpArgs false
set_option maxRecDepth 100000
set_option maxHeartbeats 2000000
theorem J3 {hp:a9 Cell} {J:Ref} {ag:ak} {aT:Int} {r:Bool} (h:vu hp J ag aT=some r):cy Tryz.prog 251 [I.of (J),I.of (ag),I.of (aT)] ([] ++ ba hp) (δ:=Unit) (fun _=>I.of (r)) (fun _=> [] ++ ba hp):=by
 unfold vu at h
 refine cy.of Tryz.func251 rfl Tryz.ntmps251 rfl fun W A=> ?_
 refine aC ?_
 refine cf fun aS=> ?_
 refine aK ?_
 refine bG ?_
 obtain⟨dg,e7,h⟩:=aw h
 obtain⟨cF,fT,h⟩:=aw h
 obtain⟨cK,gi,h⟩:=aw h
 obtain⟨da,ho,h⟩:=aw h
 obtain⟨al,bs,h⟩:=aw h
 obtain⟨aN,ck,h⟩:=aw h
 obtain⟨bl,di,h⟩:=aw h
 refine ah.draw mixed 26 ((some 7) :: (some 8) :: (some 9) :: (some 10) :: (some 11) :: (some 12) :: (some 13) :: (some 14) :: (some 15) :: (some 16) :: (some 17) :: (some 18) :: (some 19) :: (some 20) :: (some 21) :: (some 22) :: (some 23) :: (some 24) :: (some 25) :: (some 26) :: (some 27) :: (some 28) :: (some 29) :: (some 30) :: (some 31) :: (some 32) :: []) ([] :: [0] :: [1] :: [2] :: [2,3] :: [2,4] :: [5] :: [6] :: [6] :: [6,8] :: [6,9] :: [6,10] :: [6,7,11] :: [6,12] :: [13] :: [14] :: [14] :: [14,16] :: [14,17] :: [14,18] :: [14] :: [14,19,20] :: [14,15,21] :: [14] :: [14,22,23] :: [14,24] :: []) (.val _ :: .val _ :: .val _ :: .val _ :: .val _ :: .val _ :: .val _ :: .val _ :: .val _ :: .val _ :: .val _ :: .val _ :: .val _ :: .val _ :: .val _ :: .val _ :: .val _ :: .val _ :: .val _ :: .val _ :: .val _ :: .val _ :: .val _ :: .val _ :: .val _ :: .val _ :: []) (false :: false :: false :: false :: false :: false :: false :: false :: false :: false :: false :: false :: false :: false :: false :: false :: false :: false :: false :: false :: false :: false :: false :: false :: false :: false :: []) (by kernel_rfl) rfl rfl rfl (fun cV=>⟨cR,du fun ay au=>FB Tryz.underlying321 (ab rfl),cR,fa fun ay au=>fun hb=>c3 (ab rfl),fa fun ay au=>fun hb=>jU (ct rfl hb) (bK 0),du fun ay au=>pX (ab rfl) (ab rfl) (fun h=>h),cR,fa fun ay au=>fun hb=>c3 (ab rfl),fa fun ay au=>fun hb=>c3 (ab rfl),fa fun ay au=>fun hb=>ff (fQ (ct rfl hb) (ha e7 hb)),fa fun ay au=>fun hb=>aW vZ (ct rfl hb),fa fun ay au=>fun hb=>h0 ((aL.id ga).comp tn) (r:=cF.eR) bE (ct rfl hb) (nj (fun i e q=>au i e q rfl) (gU (n:=1) rfl (om (ha fT hb)) rfl)) rfl rfl,fa fun ay au=>fun hb=>q1 (ct rfl hb) (ct rfl hb),du fun ay au=>pX (ab rfl) (ab rfl) (fun h=>h),cR,fa fun ay au=>fun hb=>fj (i:=0) (aL.id ak) (r:=ag) bN (ab rfl) (au _ _ rfl rfl) rfl rfl,fa fun ay au=>fun hb=>c3 (ab rfl),fa fun ay au=>fun hb=>ff (fQ (ct rfl hb) (ha gi hb)),fa fun ay au=>fun hb=>aW vZ (ct rfl hb),fa fun ay au=>fun hb=>h0 ((aL.id ga).comp tn) (r:=da.eR) bE (ct rfl hb) (nj (fun i e q=>au i e q rfl) (gU (n:=1) rfl (om (ha ho hb)) rfl)) rfl rfl,fa fun ay au=>fun hb=>c3 (ab rfl),fa fun ay au=>fun hb=>hP G4 (Fc (ha bs hb)) ⟨ct rfl hb,ct rfl hb,trivial⟩,fa fun ay au=>fun hb=>hP nT (nD (ha ck hb)) ⟨ct rfl hb,ct rfl hb,trivial⟩,fa fun ay au=>fun hb=>fj (i:=0) (aL.id ak) (r:=ag) bN (ab rfl) (au _ _ rfl rfl) rfl rfl,fa fun ay au=>fun hb=>ug ov rfl wy rfl (ct rfl hb) (ct rfl hb),tc di fun ay au=>pX (ab rfl) (ab rfl) (fun h=>h),trivial⟩) fun cV=> ?_
 refine aK ?_
 refine aJ ?_
 refine ah.ret ?_
 obtain rfl:=aG h
 exact ad.hj () (.cons _ (.refl _)) rfl rfl (eD rfl)
theorem RC {J:List aI} {p2:Option Nat} {hf:Nat} {r:(List aI)} (h:vK J=some r):cy Tryz.prog 269 [I.eq (a0 p2 J.length hf)] [⟨p2,.row 52 (J:List aI) hf⟩] (δ:=Unit) (fun d=>I.of (r)) (fun d=> [⟨p2,.row 52 (J:List aI) hf⟩]):=by
 unfold vK at h
 refine cy.of Tryz.func269 rfl Tryz.ntmps269 rfl fun W A=> ?_
 refine aC ?_
 refine bj (eG (look_nil (α:=aI))) ?_
 refine bZ ?_
 refine aj.own (α:=aI) 52 ?_
 refine bj (eG tJ) ?_
 refine bG ?_
 refine aC ?_
 refine aB ?_
 refine bj (sw (i:=1) Tryz.underlying38 (ab rfl) rfl rfl) ?_
 refine aB ?_
 refine aJ ?_
 refine ah.block ?_
 obtain⟨aA,ao,h⟩:=aw h
 refine gN (γ:=(Option Nat × Nat)) (δ:=(Option Nat × Nat)) ao [0,2,6,7] (fun s1 az=> [(3,I.eq (a0 az.1 s1.2.length az.2)),(8,I.of (s1.1))]) (fun s1 az=> [(0,⟨az.1,.row 52 (s1.2:List aI) az.2⟩)]) (fun aF=>Exit.exit 0) (fun aF az=> [(3,I.eq (a0 az.1 aF.2.2.length az.2)),(8,I.of (aF.1)),(9,I.of (aF.2.1))]) (fun aF az=> [(0,⟨az.1,.row 52 (aF.2.2:List aI) az.2⟩)]) (none,0) (fun s1 r h az=> ?_) fun az=> ?_
 ·clear ao
  refine aC ?_
  refine bf eb ?_
  refine bG ?_
  refine ch h (fun h=>?_) fun h=>?_
  ·refine cJ ?_
   refine ah.seq ?_
   refine ah.block ?_
   refine aC ?_
   obtain⟨aZ,cv,h⟩:=aw h
   refine bj (p0 (i:=1) (k:=aZ) (xs:=(J:List aI)) Tryz.underlying38 cY (ab rfl) (ab rfl) rfl (cc cv)) ?_
   refine bj (CX (i:=1) (k:=aZ) (aL.id aI) (r:=(ax J aZ)) cY (ab rfl) rfl (cc cv).1 rfl rfl) ?_
   refine cx hh fun aS=> ?_
   refine b3 0 cY ?_
   refine aJ ?_
   refine ah.cn ?_
   refine aB ?_
   refine b6 0 cY ?_
   obtain⟨al,bs,h⟩:=aw h
   refine dc Ai (yk bs) ?_
   refine gy [al] Tryz.underlying38 cY hh ?_
   obtain⟨aN,ck,h⟩:=aw h
   refine jI 1 Tryz.underlying38 cY hh ck fun gZ fA=> ?_
   refine aK ?_
   refine aj.nil ?_
   refine ad.dG ?_
   refine ad.next ?_
   refine ah.cn ?_
   refine bf c9 ?_
   refine aB ?_
   refine aj.nil ?_
   obtain rfl:=aG h
   exact e0 (gZ,fA) 1
  ·refine ah.exit ?_
   refine ad.exit ?_
   obtain rfl:=aG h
   exact dU (az.1,az.2) 0
 ·clear ao
  refine ad.eT ?_
  refine ad.next ?_
  refine aC ?_
  refine aB ?_
  refine aK ?_
  refine aJ ?_
  refine ah.ret ?_
  refine ad.l1 (α:=aI) 0 [2,3,18] ⟨rfl,rfl,rfl,trivial⟩ rfl ?_
  refine ad.bU 1 rfl ?_
  obtain rfl:=aG h
  exact la ()
theorem Kf {J:a2} {ag:bJ} {r:Int} (h:vH J ag=some r):bw Tryz.prog 190 [I.of (J),I.of (ag)] (I.of (r)):=by
 unfold vH at h
 refine bw.of Tryz.func190 rfl Tryz.ntmps190 rfl fun W A=> ?_
 refine aC ?_
 refine cf fun aS=> ?_
 refine cf fun a3=> ?_
 refine aK ?_
 refine bZ ?_
 refine b6 1 fH ?_
 refine b6 0 iC ?_
 obtain⟨al,bs,h⟩:=aw h
 refine dc Nu (Kl bs) ?_
 refine aB ?_
 refine ez ?_
 refine ez ?_
 refine cx k8 fun bH=> ?_
 refine b3 0 fS ?_
 refine aK ?_
 refine bZ ?_
 refine aY (aW kh) ?_
 refine cb 0 iV jY ?_
 obtain⟨aN,ck,h⟩:=aw h
 refine bj (hP Nv (JN ck) ⟨ab rfl,Ln VO (fun _ _=>QJ),trivial⟩) ?_
 refine aK ?_
 refine bG ?_
 refine aC ?_
 refine aB ?_
 refine aY hz ?_
 refine aB ?_
 refine dE c3 ?_
 refine kn eb ?_
 refine qg ?_
 refine aB ?_
 refine dE c3 ?_
 refine dE (aW k4) ?_
 refine eW (fun hb=>fj (i:=1) ((aL.id bJ).comp ke) (r:=ag.bY) kI (ct rfl hb) rfl rfl rfl) ?_
 refine dE (eS Tryz.underlying47) ?_
 refine kn jU ?_
 obtain⟨bl,di,h⟩:=aw h
 refine dj di (o9 (ab rfl) (ab rfl) (fun h=>h)) ?_
 refine aJ ?_
 refine ch h (fun h=>?_) fun h=>?_
 ·refine aC ?_
  refine aK ?_
  refine aJ ?_
  refine ah.ret ?_
  refine ad.ret ?_
  obtain rfl:=aG h
  exact c8
 ·refine cJ ?_
  refine aC ?_
  refine aY (aW k4) ?_
  refine cb 1 ke kI ?_
  refine aB ?_
  obtain⟨aZ,cv,h⟩:=aw h
  refine gJ cv Tryz.underlying47 gG ?_
  refine AK pL tW ?_
  refine aY (c2 bE) ?_
  refine aK ?_
  refine aJ ?_
  refine ah.ret ?_
  obtain rfl:=aG h
  exact c8
end Go.Proofs.YtmnggbjcnoffeaaGreat
namespace Go.Proofs.YtmnggbjcnoffeaaGreat
open Go Gv
set_option linter.unusedVariables false
set_option linter.unusedSimpArgs false
set_option maxRecDepth 100000
set_option maxHeartbeats 2000000
theorem J9 {hp:a9 Cell} {J:Ref} {ag:ak} {aT:Int} {r:Ref} (h:vA hp J ag aT=some r):cy Tryz.prog 247 [I.of (J),I.of (ag),I.of (aT)] ([] ++ ba hp) (δ:=Unit) (fun _=>I.of (r)) (fun _=> [] ++ ba hp):=by
 unfold vA at h
 refine cy.ofM Tryz.func247 rfl Tryz.ntmps247 rfl fun W A=> ?_
 refine aC ?_
 refine cf fun aS=> ?_
 refine cx Dx fun a3=> ?_
 refine bG ?_
 refine aC ?_
 refine aB ?_
 refine b6 1 bN ?_
 refine aB ?_
 obtain⟨al,bs,h⟩:=aw h
 refine aj.lS (hX.nR 2 rfl Nz (J3 bs) ⟨ab rfl,ab rfl,ab rfl,trivial⟩) rfl rfl rfl ?_
 refine aY hz ?_
 refine aJ ?_
 refine ch h (fun h=>?_) fun h=>?_
 ·refine aC ?_
  refine aj.store (i:=0) (aL.id Ref) (v:=((none:Ref):Ref)) (b':=((none:Ref):Ref)) fq (ab rfl) (r8) rfl rfl rfl ?_
  refine aJ ?_
  refine ah.ret ?_
  refine ad.ret ?_
  obtain rfl:=aG h
  refine ad.wS ?_
  exact ad.hj () (.cons _ (.cons _ (.refl _))) rfl rfl (jV (i:=0) fq rfl rfl)
 ·refine cJ ?_
  refine aC ?_
  refine aB ?_
  obtain⟨dg,e7,h⟩:=aw h
  refine bj (ff (fQ (ab rfl) e7)) ?_
  refine aY (aW y6) ?_
  obtain⟨cF,fT,h⟩:=aw h
  refine bj (h0 ((aL.id ga).comp x4) (r:=cF.db) fq (ab rfl) (gU (n:=2) rfl (om fT) rfl) rfl rfl) ?_
  refine cx Dx fun bH=> ?_
  refine b3 0 fq ?_
  refine bG ?_
  refine aC ?_
  refine aB ?_
  refine b6 2 bN ?_
  refine aB ?_
  obtain⟨aN,ck,h⟩:=aw h
  refine dc Hc (E9 ck) ?_
  refine aJ ?_
  refine ah.block ?_
  obtain⟨aA,ao,h⟩:=aw h
  refine K0 (hp:=hp) (γ:=Unit) (g0:=()) (Ls:=fun s1 az=>(⟨some bH,.var (s1:Ref)⟩ :: ⟨some a3,.var ((default:Ref):Ref)⟩ :: ⟨some aS,.var (ag:ak)⟩ :: ba hp)) (Lx:=fun aF az=>(⟨some bH,.var (aF.1:Ref)⟩ :: ⟨some a3,.var (aF.2:Ref)⟩ :: ⟨some aS,.var (ag:ak)⟩ :: ba hp)) (fun s1 az=> [⟨some bH,.var (s1:Ref)⟩,⟨some a3,.var ((default:Ref):Ref)⟩,⟨some aS,.var (ag:ak)⟩]) (fun aF=> .ret) rfl Hd rfl JV ao (fun _ _=>rfl) rfl rfl (fun oH s1 r h az kr kz ks l D rec ry=> ?_) (fun s1 aQ az D=> ?_) (fun aF aQ az D=> ?_)
  ·clear ao
   refine ah.cn ?_
   refine aK ?_
   refine aj.nil ?_
   refine ad.begin 0 rfl ry ?_
   refine ah.block ?_
   refine ah.seq ?_
   refine aC ?_
   refine b6 2 fq ?_
   refine bj (oV Tryz.underlying331 (ab rfl)) ?_
   refine aJ ?_
   refine ch h (fun h=>?_) fun h=>?_
   ·refine aC ?_
    refine aj.store (i:=3) (aL.id Ref) (v:=((none:Ref):Ref)) (b':=((none:Ref):Ref)) fq (ab rfl) (r8) rfl rfl rfl ?_
    refine aJ ?_
    refine ah.ret ?_
    refine ad.ret ?_
    refine ad.dQ ?_
    obtain rfl:=aG h
    exact ad.GG () 0 rfl rfl rfl
   ·refine cJ ?_
    refine ah.cn ?_
    refine b6 2 fq ?_
    refine aB ?_
    obtain⟨cK,gi,h⟩:=aw h
    refine bj (ff (fQ (ab rfl) gi)) ?_
    refine aY (aW y7) ?_
    obtain⟨aZ,cv,h⟩:=aw h
    refine bj (ee (k:=aZ) zM (ab rfl) (ab rfl) (cc cv)) ?_
    obtain⟨da,ho,h⟩:=aw h
    refine bj (h0 (((aL.id eJ).comp xG).comp (aL.idx (α:=Ref) 2 aZ (cc cv).1)) (r:=bD da.eK aZ) fq (ab rfl) (gU (n:=5) rfl (l3 ho) rfl) rfl rfl) ?_
    refine b3 2 fq ?_
    refine aj.nil ?_
    refine ad.dG ?_
    obtain rfl:=aG h
    exact ad.H9 () 0 rfl
  ·clear ao; subst aQ; simp only [Sum.elim_inl] at h
   refine ad.eI (L2:=(⟨some D,.dn⟩ :: ⟨some bH,.var (s1:Ref)⟩ :: ⟨some a3,.var ((default:Ref):Ref)⟩ :: ⟨some aS,.var (ag:ak)⟩ :: ba hp)) rfl ?_
   refine ad.dG ?_
   refine ad.next ?_
   refine aC ?_
   refine b6 1 fq ?_
   refine b3 2 fq ?_
   refine aJ ?_
   refine ah.ret ?_
   obtain rfl:=aG h
   refine ad.sO 0 rfl rfl ?_
   exact ad.hj () (.cons _ (.cons _ (.cons _ (.cons _ (.refl _))))) rfl rfl (jV (i:=2) fq rfl rfl)
  ·clear ao; subst aQ; simp only [Sum.elim_inr] at h
   refine ah.ret ?_
   refine ad.eI (L2:=(⟨some D,.dn⟩ :: ⟨some bH,.var (aF.1:Ref)⟩ :: ⟨some a3,.var (aF.2:Ref)⟩ :: ⟨some aS,.var (ag:ak)⟩ :: ba hp)) rfl ?_
   refine ad.dQ ?_
   refine ad.ret ?_
   obtain rfl:=aG h
   refine ad.sO 0 rfl rfl ?_
   exact ad.hj () (.cons _ (.cons _ (.cons _ (.cons _ (.refl _))))) rfl rfl (jV (i:=2) fq rfl rfl)
theorem P7 {J:cS} {cl:Nat} {jS:Option Nat} {jT:Nat} {r:(List aI)} (h:xI J=some r):cy Tryz.prog 264 [I.eq (.pointer (some ⟨cl,0,none⟩))] [⟨some cl,.cz (({ J with cu:= [] } :cS):cS) [(10,a0 jS J.cu.length jT)]⟩,⟨jS,.row 52 (J.cu:List aI) jT⟩] (δ:=Unit) (fun d=>I.of (r)) (fun d=> [⟨some cl,.cz (({ J with cu:= [] } :cS):cS) [(10,a0 jS (J.cu).length jT)]⟩,⟨jS,.row 52 (J.cu:List aI) jT⟩]):=by
 unfold xI at h
 refine cy.of Tryz.func264 rfl Tryz.ntmps264 rfl fun W A=> ?_
 refine aC ?_
 refine bj (eG (look_nil (α:=aI))) ?_
 refine bG ?_
 refine aC ?_
 refine aB ?_
 refine bj (GJ Tryz.underlying170 (ab rfl)) ?_
 refine aJ ?_
 refine ah.q2 (ab rfl) rfl ?_
 refine cJ ?_
 refine aC ?_
 refine aB ?_
 refine aY ff ?_
 refine aY (aW vY) ?_
 refine bj (iH (i:=0) (q:=0) (β:=cS) (γ:=aI) sN (ab rfl) rfl rfl) ?_
 obtain⟨al,bs,h⟩:=aw h
 refine aj.lS (hX.call [1] VP (RC bs) ⟨ab rfl,trivial⟩ rfl ⟨rfl,trivial⟩ rfl) rfl rfl rfl ?_
 refine aK ?_
 refine aJ ?_
 refine ah.ret ?_
 refine ad.bU 1 rfl ?_
 refine ad.bU 1 rfl ?_
 obtain rfl:=aG h
 exact la ()
theorem Fi {J:a2} {ag:aI} {aT:aI} {r:Bool} (h:tB J ag aT=some r):bw Tryz.prog 150 [I.of (J),I.of (ag),I.of (aT)] (I.of (r)):=by
 unfold tB at h
 refine bw.of Tryz.func150 rfl Tryz.ntmps150 rfl fun W A=> ?_
 refine aC ?_
 refine cf fun aS=> ?_
 refine cf fun a3=> ?_
 refine cf fun bH=> ?_
 refine aK ?_
 refine bG ?_
 obtain⟨al,bs,h⟩:=aw h
 obtain⟨aN,ck,h⟩:=aw h
 obtain⟨a7,dR,h⟩:=aw h
 obtain⟨bR,e2,h⟩:=aw h
 obtain⟨br,g2,h⟩:=aw h
 obtain⟨b8,g3,h⟩:=aw h
 refine ah.draw mixed 24 ((some 7) :: (some 8) :: (some 9) :: (some 10) :: (some 11) :: (some 12) :: (some 13) :: (some 14) :: (some 15) :: (some 16) :: (some 17) :: (some 18) :: (some 19) :: (some 20) :: (some 21) :: (some 22) :: (some 23) :: (some 24) :: (some 25) :: (some 26) :: (some 27) :: (some 28) :: (some 29) :: (some 30) :: []) ([] :: [0] :: [1] :: [] :: [3] :: [4] :: [2,5] :: [] :: [] :: [8] :: [7,9] :: [] :: [] :: [12] :: [11,13] :: [10,14] :: [] :: [16] :: [] :: [18] :: [17,19] :: [6,15,20] :: [21] :: [22] :: []) (.val _ :: .val _ :: .val _ :: .val _ :: .val _ :: .val _ :: .val _ :: .val _ :: .val _ :: .val _ :: .val _ :: .val _ :: .val _ :: .val _ :: .val _ :: .val _ :: .val _ :: .val _ :: .val _ :: .val _ :: .val _ :: .val _ :: .val _ :: .val _ :: []) (false :: false :: false :: false :: false :: false :: false :: false :: false :: false :: false :: false :: false :: false :: false :: false :: false :: false :: false :: false :: false :: false :: false :: false :: []) (by kernel_rfl) rfl rfl rfl (fun cV=>⟨H1 (aW my),H1 (aW zj),dy 1 (k0.comp tl) bE,H1 (aW my),H1 (aW zj),dy 0 (k0.comp tl) bE,e8 HC (E8 bs),e1 2 fH,H1 (aW my),dy 1 k0 iC,e8 NA (Kf ck),e1 2 fH,H1 (aW my),dy 0 k0 iC,e8 NA (Kf dR),e8 HC (E8 e2),H1 (aW lu),dy 1 kd bE,H1 (aW lu),dy 0 kd bE,e8 HC (E8 g2),du fun ay au=>jW (r:= [al,bR,br]) Tryz.underlying63 bE hI rfl rfl (.cons (by simp) (ab rfl) (.cons (by simp) (ab rfl) (.cons (by simp) (ab rfl) (.nil)))),e8 VQ (Rr g3),kx ow,trivial⟩) fun cV=> ?_
 refine aK ?_
 refine aJ ?_
 refine ah.ret ?_
 obtain rfl:=aG h
 exact c8
end Go.Proofs.YtmnggbjcnoffeaaGreat
namespace Go.Proofs.YtmnggbjcnoffeaaGreat
open Go Gv
set_option linter.unusedVariables false
set_option linter.unusedSimpArgs false
set_option maxRecDepth 100000
set_option maxHeartbeats 2000000
theorem Rh {J:a4} {ag:List a4} {r:(Vector ak 4) × (Vector ak 4)} (h:yu J ag=some r):bw Tryz.prog 158 [I.of (J),I.of (ag)] (I.cN [I.of (r.1),I.of (r.2)]):=by
 unfold yu at h
 refine bw.of Tryz.func158 rfl Tryz.ntmps158 rfl fun W A=> ?_
 refine aC ?_
 refine cf fun aS=> ?_
 refine cx jm fun a3=> ?_
 refine cx jm fun bH=> ?_
 refine bG ?_
 refine aC ?_
 refine aB ?_
 refine aY (eS Tryz.underlying156) ?_
 refine aB ?_
 refine aJ ?_
 refine ah.block ?_
 obtain⟨aA,ao,h⟩:=aw h
 refine gN (γ:=Unit) (δ:=Unit) ao [0,1,2,4,5,11,12] (fun s1 az=> [(13,I.of (s1.1))]) (fun s1 az=> [(0,⟨some bH,.var (s1.2.1:Vector ak 4)⟩),(1,⟨some a3,.var (s1.2.2:Vector ak 4)⟩)]) (fun aF=>Exit.exit 0) (fun aF az=> [(13,I.of (aF.1)),(14,I.of (aF.2.1))]) (fun aF az=> [(0,⟨some bH,.var (aF.2.2.1:Vector ak 4)⟩),(1,⟨some a3,.var (aF.2.2.2:Vector ak 4)⟩)]) () (fun s1 r h az=> ?_) fun az=> ?_
 ·clear ao
  refine aC ?_
  refine bf eb ?_
  refine bG ?_
  refine ch h (fun h=>?_) fun h=>?_
  ·refine cJ ?_
   refine ah.seq ?_
   refine ah.block ?_
   refine aC ?_
   obtain⟨aZ,cv,h⟩:=aw h
   refine gJ cv Tryz.underlying156 c0 ?_
   refine aY (c2 c0) ?_
   refine cx h1 fun cA=> ?_
   refine b3 0 c0 ?_
   refine bZ ?_
   refine aY (aW m7) ?_
   refine cb 0 lj dv ?_
   refine aB ?_
   refine aJ ?_
   refine ah.block ?_
   obtain⟨aU,ao,h⟩:=aw h
   refine gN (γ:=Unit) (δ:=Unit) ao [0,1,2,4,5,7,11,12,13,14,18] (fun s2 a5=> [(19,I.of (s2.1))]) (fun s2 a5=> [(1,⟨some bH,.var (s2.2.1:Vector ak 4)⟩),(2,⟨some a3,.var (s2.2.2:Vector ak 4)⟩)]) (fun cT=>Exit.exit 2) (fun cT a5=> [(19,I.of (cT.1)),(20,I.of (cT.2.1))]) (fun cT a5=> [(1,⟨some bH,.var (cT.2.2.1:Vector ak 4)⟩),(2,⟨some a3,.var (cT.2.2.2:Vector ak 4)⟩)]) () (fun s2 r h a5=> ?_) fun a5=> ?_
   ·clear ao
    refine aC ?_
    refine bf eb ?_
    refine bG ?_
    refine ch h (fun h=>?_) fun h=>?_
    ·refine cJ ?_
     refine ah.seq ?_
     refine ah.block ?_
     refine aC ?_
     refine aB ?_
     obtain⟨b0,de,h⟩:=aw h
     refine bj (L0 (k:=b0) Tryz.underlying45 bN (ab rfl) (ab rfl) (cc de)) ?_
     refine cx dP fun hD=> ?_
     refine aK ?_
     refine b3 0 bN ?_
     refine bG ?_
     obtain⟨c1,fl,h⟩:=aw h
     obtain⟨al,bs,h⟩:=aw h
     obtain⟨aN,ck,h⟩:=aw h
     refine ah.draw mixed 8 [some 23,some 24,some 25,some 26,some 27,some 28,some 29,some 10] [[],[],[],[1,2],[3],[4],[0,5],[]] [.val _,.val _,.val _,.val _,.val _,.val _,.val _,.new (.var (default:ak))] [false,false,false,false,false,false,false,false] (by kernel_rfl) rfl rfl rfl (fun cV=>⟨e1 0 bN,cR,H1 (aW m7),du fun ay au=>ee (k:=c1) fD (ab rfl) (ab rfl) (cc fl),dy 4 (((aL.id a4).comp lj).comp (aL.idx (α:=ak) 4 c1 (cc fl).1)) bN,e8 NB (Ky bs),e8 nT (nD ck),tK dP,trivial⟩) fun cV=> ?_
     refine b3 0 bN ?_
     refine bG ?_
     obtain⟨fm,iZ,h⟩:=aw h
     obtain⟨hW,mc,h⟩:=aw h
     obtain⟨a7,dR,h⟩:=aw h
     obtain⟨bR,e2,h⟩:=aw h
     obtain⟨ka,oE,h⟩:=aw h
     refine ah.draw mixed 12 [some 30,some 31,some 32,some 33,some 34,some 35,some 36,some 37,some 38,some 39,some 40,some 41] [[],[],[1],[2],[],[],[],[5,6],[7],[4,8],[3,9],[0]] [.val _,.val _,.val _,.val _,.val _,.val _,.val _,.val _,.val _,.val _,.val _,.val _] [false,false,false,false,false,false,false,false,false,false,false,false] (by kernel_rfl) rfl rfl rfl (fun hB=>⟨cR,cR,du fun ay au=>ee (k:=fm) fD (ab rfl) (ab rfl) (cc iZ),dy 3 ((aL.id (Vector ak 4)).comp (aL.idx (α:=ak) 4 fm (cc iZ).1)) bN,e1 0 bN,cR,H1 (aW oe),du fun ay au=>ee (k:=hW) fD (ab rfl) (ab rfl) (cc mc),dy 2 (((aL.id a4).comp mu).comp (aL.idx (α:=ak) 4 hW (cc mc).1)) bN,e8 nT (nD dR),e8 q4 (qM e2),du fun ay au=>ee (k:=ka) fD (ab rfl) (ab rfl) (cc oE),trivial⟩) fun hB=> ?_
     refine me 3 ((aL.id (Vector ak 4)).comp (aL.idx (α:=ak) 4 ka (cc oE).1)) bN ?_
     refine aJ ?_
     obtain⟨kV,pg,h⟩:=aw h
     obtain⟨kW,pj,h⟩:=aw h
     obtain⟨br,g2,h⟩:=aw h
     obtain⟨b8,g3,h⟩:=aw h
     obtain⟨cD,kN,h⟩:=aw h
     obtain⟨rM,AL,h⟩:=aw h
     refine ah.draw mixed 13 [some 42,some 43,some 44,some 45,some 46,some 47,some 48,some 49,some 50,some 51,some 52,some 53,some 54] [[],[],[1],[2],[],[],[],[5,6],[7],[8],[4,9],[3,10],[0]] [.val _,.val _,.val _,.val _,.val _,.val _,.val _,.val _,.val _,.val _,.val _,.val _,.val _] [false,false,false,false,false,false,false,false,false,false,false,false,false] (by kernel_rfl) rfl rfl rfl (fun qh=>⟨cR,cR,du fun ay au=>ee (k:=kV) fD (ab rfl) (ab rfl) (cc pg),dy 4 ((aL.id (Vector ak 4)).comp (aL.idx (α:=ak) 4 kV (cc pg).1)) bN,e1 0 bN,cR,H1 (aW oe),du fun ay au=>ee (k:=kW) fD (ab rfl) (ab rfl) (cc pj),dy 2 (((aL.id a4).comp mu).comp (aL.idx (α:=ak) 4 kW (cc pj).1)) bN,e8 NB (Ky g2),e8 nT (nD g3),e8 q4 (qM kN),du fun ay au=>ee (k:=rM) fD (ab rfl) (ab rfl) (cc AL),trivial⟩) fun qh=> ?_
     refine me 4 ((aL.id (Vector ak 4)).comp (aL.idx (α:=ak) 4 rM (cc AL).1)) bN ?_
     refine aj.nil ?_
     refine ad.dG ?_
     refine ad.next ?_
     refine ah.cn ?_
     refine bf c9 ?_
     refine aB ?_
     refine aj.nil ?_
     obtain rfl:=aG h
     exact e0 () 2
    ·refine ah.exit ?_
     refine ad.exit ?_
     obtain rfl:=aG h
     exact dU () 0
   ·clear ao
    refine ad.eT ?_
    refine ad.dG ?_
    refine ad.next ?_
    refine ah.cn ?_
    refine bf c9 ?_
    refine aB ?_
    refine aj.nil ?_
    obtain rfl:=aG h
    exact e0 () 1
  ·refine ah.exit ?_
   refine ad.exit ?_
   obtain rfl:=aG h
   exact dU () 0
 ·clear ao
  refine ad.eT ?_
  refine ad.next ?_
  refine ah.seq ?_
  refine ah.draw mixed 3 [some 57,some 58,none] [[],[],[0]] [.val _,.val _,.j3 1 (.var (aA.2.2.2:Vector ak 4))] [false,false,true] (by kernel_rfl) rfl rfl rfl (fun AN=>⟨e1 1 dv,e1 0 dv,⟨_,_,rfl,fun ay au=>qU (i:=1) (aL.id (Vector ak 4)) (v:=(aA.2.2.2:Vector ak 4)) (b':=(aA.2.2.2:Vector ak 4)) dv (ab rfl) (ab rfl) (au _ _ rfl) rfl rfl⟩,trivial⟩) fun AN=> ?_
  refine b3 0 dv ?_
  refine aJ ?_
  refine ah.ret ?_
  obtain rfl:=aG h
  exact ad.p7 rfl (eH 1 dv) (eH 0 dv)
theorem Q3 {J:Vector ak 4} {ag:List a4} {r:Int} (h:ym J ag=some r):bw Tryz.prog 160 [I.of (J),I.of (ag)] (I.of (r)):=by
 unfold ym at h
 refine bw.of Tryz.func160 rfl Tryz.ntmps160 rfl fun W A=> ?_
 refine aC ?_
 refine cf fun aS=> ?_
 refine aK ?_
 refine bZ ?_
 refine aK ?_
 refine aK ?_
 refine bG ?_
 refine aC ?_
 refine aB ?_
 refine aJ ?_
 refine ah.block ?_
 obtain⟨aA,ao,h⟩:=aw h
 refine gN (γ:=Unit) (δ:=Unit) ao [0,1,2,4] (fun s1 az=> [(5,I.of (s1.1)),(6,I.of (s1.2.1)),(11,I.of (s1.2.2))]) (fun s1 az=> []) (fun aF=>Exit.exit 0) (fun aF az=> [(5,I.of (aF.1)),(6,I.of (aF.2.1)),(11,I.of (aF.2.2.1)),(12,I.of (aF.2.2.2))]) (fun aF az=> []) () (fun s1 r h az=> ?_) fun az=> ?_
 ·clear ao
  refine aC ?_
  refine bf eb ?_
  refine bG ?_
  refine ch h (fun h=>?_) fun h=>?_
  ·refine cJ ?_
   refine ah.seq ?_
   refine ah.block ?_
   refine aC ?_
   refine aB ?_
   refine aK ?_
   refine bG ?_
   refine aC ?_
   refine b6 0 dv ?_
   refine aB ?_
   obtain⟨al,bs,h⟩:=aw h
   refine dc NC (Kz bs) ?_
   refine aY hz ?_
   refine aJ ?_
   refine ch h (fun h=>?_) fun h=>?_
   ·refine ah.exit ?_
    refine ad.exit ?_
    refine ad.eT ?_
    refine ad.next ?_
    refine ah.cn ?_
    refine bf c9 ?_
    refine aB ?_
    refine aj.nil ?_
    obtain rfl:=aG h
    exact e0 () 0
   ·refine cJ ?_
    refine aC ?_
    refine aK ?_
    refine bG ?_
    refine aC ?_
    refine aB ?_
    refine aY (eS Tryz.underlying156) ?_
    refine aB ?_
    refine aJ ?_
    refine ah.block ?_
    obtain⟨aU,ao,h⟩:=aw h
    refine gN (γ:=Unit) (δ:=Unit) ao [0,1,2,4,5,6,7,11,12,17,18,19] (fun s2 a5=> [(8,I.of (s2.1)),(20,I.of (s2.2))]) (fun s2 a5=> []) (fun cT=>Exit.exit 2) (fun cT a5=> [(8,I.of (cT.1)),(20,I.of (cT.2.1)),(21,I.of (cT.2.2))]) (fun cT a5=> []) () (fun s2 r h a5=> ?_) fun a5=> ?_
    ·clear ao
     refine aC ?_
     refine bf eb ?_
     refine bG ?_
     refine ch h (fun h=>?_) fun h=>?_
     ·refine cJ ?_
      refine ah.seq ?_
      refine ah.block ?_
      refine aC ?_
      obtain⟨aZ,cv,h⟩:=aw h
      refine gJ cv Tryz.underlying156 c0 ?_
      refine aY (c2 c0) ?_
      refine cx h1 fun a3=> ?_
      refine b3 0 c0 ?_
      refine bZ ?_
      refine aY (aW m7) ?_
      refine cb 0 lj dv ?_
      refine aB ?_
      obtain⟨aN,ck,h⟩:=aw h
      refine dc NC (Kz ck) ?_
      refine aJ ?_
      obtain⟨bM,cG,h⟩:=aw h
      refine iq (γ:=Unit) [0,1,2,4,5,6,7,10,11,12,17,18,19,20,21,27] (fun bu=> [(8,I.of (bM))]) (fun bu=> []) (fun bu=> ?_) (fun hm ar=> ?_) fun hm ar=> ?_
      ·clear cG
       refine ad.dG ?_
       refine ad.next ?_
       refine ah.cn ?_
       refine bf c9 ?_
       refine aB ?_
       refine aj.nil ?_
       obtain rfl:=aG h
       exact e0 () 1
      ·have h:=gQ ar cG
       refine ah.cn ?_
       refine aB ?_
       refine bf c9 ?_
       refine aK ?_
       refine aj.nil ?_
       obtain rfl:=aG h
       exact dt 0 (hm ())
      ·have h:=gR ar cG
       refine ah.skip ?_
       obtain rfl:=aG h
       exact dt 0 (hm ())
     ·refine ah.exit ?_
      refine ad.exit ?_
      obtain rfl:=aG h
      exact dU () 0
    ·clear ao
     refine ad.eT ?_
     refine ad.next ?_
     refine aC ?_
     refine aB ?_
     refine aB ?_
     refine bf ow ?_
     refine aJ ?_
     obtain⟨cI,dJ,h⟩:=aw h
     refine iq (γ:=Unit) [0,1,2,4,7,8,11,12,17,18,19,20,21,33] (fun cM=> [(5,I.of (cI.1)),(6,I.of (cI.2))]) (fun cM=> []) (fun cM=> ?_) (fun hm ar=> ?_) fun hm ar=> ?_
     ·clear dJ
      refine ad.dG ?_
      refine ad.next ?_
      refine ah.cn ?_
      refine bf c9 ?_
      refine aB ?_
      refine aj.nil ?_
      obtain rfl:=aG h
      exact e0 () 0
     ·have h:=gQ ar dJ
      refine ah.cn ?_
      refine aB ?_
      refine aB ?_
      refine aK ?_
      refine aK ?_
      refine aj.nil ?_
      obtain rfl:=aG h
      exact dt 0 (hm ())
     ·have h:=gR ar dJ
      refine ah.skip ?_
      obtain rfl:=aG h
      exact dt 0 (hm ())
  ·refine ah.exit ?_
   refine ad.exit ?_
   obtain rfl:=aG h
   exact dU () 0
 ·clear ao
  refine ad.eT ?_
  refine ad.next ?_
  refine aC ?_
  refine aB ?_
  refine aK ?_
  refine aJ ?_
  refine ah.ret ?_
  obtain rfl:=aG h
  exact c8
end Go.Proofs.YtmnggbjcnoffeaaGreat
namespace Go.Proofs.YtmnggbjcnoffeaaGreat
open Go Gv
set_option linter.unusedVariables false
set_option linter.unusedSimpArgs false
set_option maxRecDepth 100000
set_option maxHeartbeats 2000000
theorem K1 {J:a2} {ag:bJ} {r:a4 × Bool} (h:sd J ag=some r):bw Tryz.prog 114 [I.of (J),I.of (ag)] (I.cN [I.of (r.1),I.of (r.2)]):=by
 unfold sd at h
 refine bw.of Tryz.func114 rfl Tryz.ntmps114 rfl fun W A=> ?_
 refine aC ?_
 refine cf fun aS=> ?_
 refine cf fun a3=> ?_
 refine cx h1 fun bH=> ?_
 refine aK ?_
 refine bZ ?_
 refine b6 2 fH ?_
 refine aY (aW zh) ?_
 refine cb 1 rZ bE ?_
 obtain⟨al,bs,h⟩:=aw h
 refine dc DN (Co bs) ?_
 refine aK ?_
 refine bG ?_
 refine aC ?_
 refine aB ?_
 refine bf eb ?_
 refine aJ ?_
 refine ch h (fun h=>?_) fun h=>?_
 ·refine aC ?_
  refine gV wD h1 (default:a4) .nil ?_
  refine b3 0 c0 ?_
  refine aK ?_
  refine aJ ?_
  refine ah.ret ?_
  refine ad.ret ?_
  obtain rfl:=aG h
  exact ad.p7 rfl (eH 0 c0) (h9 rfl)
 ·refine cJ ?_
  refine aC ?_
  refine cx h1 fun cA=> ?_
  refine bG ?_
  refine aC ?_
  refine aY (aW l2) ?_
  refine cb 3 lX lC ?_
  refine aB ?_
  obtain⟨aZ,cv,h⟩:=aw h
  refine gJ cv Tryz.underlying28 fS ?_
  refine AK iV kh ?_
  refine aY (c2 jY) ?_
  refine aY (eS Tryz.underlying62) ?_
  refine aB ?_
  refine aJ ?_
  refine ah.block ?_
  obtain⟨aA,ao,h⟩:=aw h
  refine gN (γ:=Unit) (δ:=Unit) ao [0,1,2,3,4,5,6,7,16,23,24] (fun s1 az=> [(25,I.of (s1.1))]) (fun s1 az=> [(0,⟨some cA,.var (s1.2:a4)⟩)]) (fun aF=>Sum.elim (fun aF=>Exit.exit 0) (fun aF=>Exit.ret) aF) (fun aF az=>Sum.elim (fun aF=> [(25,I.of (aF.1)),(26,I.of (aF.2.1))]) (fun aF=> [(8,I.of (aF.1)),(10,I.of (aF.2.1)),(25,I.of (aF.2.2.1)),(26,I.of (aF.2.2.2.1)),(51,I.of (aF.2.2.2.2.1))]) aF) (fun aF az=>Sum.elim (fun aF=> [(0,⟨some cA,.var (aF.2.2:a4)⟩)]) (fun aF=> [(0,⟨some cA,.var (aF.2.2.2.2.2:a4)⟩)]) aF) () (fun s1 r h az=> ?_) fun az=> ?_
  ·clear ao
   refine aC ?_
   refine bf eb ?_
   refine bG ?_
   refine ch h (fun h=>?_) fun h=>?_
   ·refine cJ ?_
    refine ah.seq ?_
    refine ah.block ?_
    refine aC ?_
    refine aB ?_
    obtain⟨b0,de,h⟩:=aw h
    refine gJ de Tryz.underlying62 h8 ?_
    refine aY (c2 h8) ?_
    refine cx jl fun hD=> ?_
    refine aK ?_
    refine b3 0 h8 ?_
    refine bZ ?_
    refine b6 4 fH ?_
    refine aY (aW zi) ?_
    refine cb 0 mY bE ?_
    obtain⟨aN,ck,h⟩:=aw h
    refine dc Hy (Fb ck) ?_
    refine aK ?_
    refine bG ?_
    refine aC ?_
    refine aY (aW qT) ?_
    refine cb 0 k2 bE ?_
    refine bf gf ?_
    refine aB ?_
    refine dE c3 ?_
    refine kn eb ?_
    obtain⟨bl,di,h⟩:=aw h
    refine dj di (o9 (ab rfl) (ab rfl) (fun h=>h)) ?_
    refine aB ?_
    refine dE c3 ?_
    refine dE (aW k4) ?_
    refine eW (fun hb=>fj (i:=3) ((aL.id bJ).comp ke) (r:=ag.bY) kI (ct rfl hb) rfl rfl rfl) ?_
    refine dE (eS Tryz.underlying47) ?_
    refine kn jU ?_
    refine qg ?_
    refine aB ?_
    refine dE c3 ?_
    refine kn jU ?_
    obtain⟨dm,hn,h⟩:=aw h
    refine dj hn (o9 (ab rfl) (ab rfl) (fun h=>h)) ?_
    refine aJ ?_
    refine ch h (fun h=>?_) fun h=>?_
    ·refine aC ?_
     refine gV wD h1 (default:a4) .nil ?_
     refine b3 2 c0 ?_
     refine aK ?_
     refine aJ ?_
     refine ah.ret ?_
     refine ad.ret ?_
     refine ad.dQ ?_
     refine ad.ret ?_
     obtain rfl:=aG h
     exact dU () 1
    ·refine cJ ?_
     refine ah.seq ?_
     obtain⟨c1,fl,h⟩:=aw h
     obtain⟨fm,iZ,h⟩:=aw h
     obtain⟨a7,dR,h⟩:=aw h
     obtain⟨hW,mc,h⟩:=aw h
     refine ah.draw mixed 17 ((some 53) :: (some 54) :: (some 55) :: (some 56) :: (some 57) :: (some 58) :: (some 59) :: (some 60) :: (some 61) :: (some 62) :: (some 63) :: (some 64) :: (some 65) :: (some 66) :: (some 67) :: (some 68) :: (some 69) :: []) ([] :: [] :: [1] :: [] :: [2,3] :: [4] :: [] :: [6] :: [] :: [8] :: [] :: [9,10] :: [11] :: [12] :: [5,7,13] :: [] :: [0,15] :: []) (.val _ :: .val _ :: .val _ :: .val _ :: .val _ :: .val _ :: .val _ :: .val _ :: .val _ :: .val _ :: .val _ :: .val _ :: .val _ :: .val _ :: .val _ :: .val _ :: .val _ :: []) (false :: false :: false :: false :: false :: false :: false :: false :: false :: false :: false :: false :: false :: false :: false :: false :: false :: []) (by kernel_rfl) rfl rfl rfl (fun cV=>⟨cR,H1 (aW k4),dy 3 ke kI,cR,lI fl Tryz.underlying47 gG,H1 (c2 gG),H1 (aW qT),dy 0 k2 bE,H1 (aW sv),dy 4 rY rf,cR,lI iZ Tryz.underlying24 nP,nq mX y3,H1 (c2 bE),e8 VR (RB dR),H1 (aW m7),du fun ay au=>ee (k:=hW) fD (ab rfl) (ab rfl) (cc mc),trivial⟩) fun cV=> ?_
     refine me 1 (((aL.id a4).comp lj).comp (aL.idx (α:=ak) 4 hW (cc mc).1)) bN ?_
     refine aJ ?_
     obtain⟨ka,oE,h⟩:=aw h
     obtain⟨kV,pg,h⟩:=aw h
     obtain⟨bR,e2,h⟩:=aw h
     obtain⟨kW,pj,h⟩:=aw h
     refine ah.draw mixed 14 [some 70,some 71,some 72,some 73,some 74,some 75,some 76,some 77,some 78,some 79,some 80,some 81,some 82,some 83] [[],[],[1],[],[2,3],[4],[5],[],[],[7,8],[9],[6,10],[],[0,12]] [.val _,.val _,.val _,.val _,.val _,.val _,.val _,.val _,.val _,.val _,.val _,.val _,.val _,.val _] [false,false,false,false,false,false,false,false,false,false,false,false,false,false] (by kernel_rfl) rfl rfl rfl (fun hB=>⟨cR,H1 (aW k4),dy 3 ke kI,cR,lI oE Tryz.underlying47 gG,nq lY pS,H1 (c2 bN),cR,H1 (aW m7),du fun ay au=>ee (k:=kV) fD (ab rfl) (ab rfl) (cc pg),dy 1 (((aL.id a4).comp lj).comp (aL.idx (α:=ak) 4 kV (cc pg).1)) bN,e8 nT (nD e2),H1 (aW oe),du fun ay au=>ee (k:=kW) fD (ab rfl) (ab rfl) (cc pj),trivial⟩) fun hB=> ?_
     obtain⟨eX,iL,h⟩:=aw h
     refine w6 1 (((aL.id a4).comp mu).comp (aL.idx (α:=ak) 4 kW (cc pj).1)) bN (hb:=by exact iL) ?_
     refine aj.nil ?_
     refine ad.dG ?_
     refine ad.next ?_
     refine ah.cn ?_
     refine bf c9 ?_
     refine aB ?_
     refine aj.nil ?_
     obtain rfl:=aG h
     exact e0 () 1
   ·refine ah.exit ?_
    refine ad.exit ?_
    obtain rfl:=aG h
    exact dU () 0
  ·clear ao
   rcases aA with aA | aA
   ·simp only [Sum.elim_inl] at h
    refine ad.eT ?_
    refine ad.next ?_
    refine aC ?_
    refine b6 0 c0 ?_
    refine b3 1 c0 ?_
    refine aK ?_
    refine aJ ?_
    refine ah.ret ?_
    obtain rfl:=aG h
    exact ad.p7 rfl (eH 1 c0) (h9 rfl)
   ·simp only [Sum.elim_inr] at h
    refine ad.dQ ?_
    refine ad.ret ?_
    obtain rfl:=aG h
    exact ad.p7 rfl (eH 1 c0) (h9 rfl)
theorem QV (n:Nat):∀ (J:a4) (ag:List a4) (r:Bool),qG n J ag=some r→bw Tryz.prog 117 [I.of (J),I.of (ag)] (I.of (r)):=by
 induction n with
 | zero=>intro J ag r h; simp [qG] at h
 | succ n b1=>
   intro J ag r h
   simp only [qG] at h
   refine bw.of Tryz.func117 rfl Tryz.ntmps117 rfl fun W A=> ?_
   refine aC ?_
   refine cf fun aS=> ?_
   refine aK ?_
   refine bZ ?_
   refine b6 0 c0 ?_
   refine aB ?_
   obtain⟨al,bs,h⟩:=aw h
   refine dc zP (yD bs) ?_
   refine aK ?_
   refine bG ?_
   refine aC ?_
   refine aB ?_
   refine aj.share (α:=a4) 0 2 rfl rfl ?_
   refine bj (wa (F:=(fun fM=>x5 fM J)) (τs:= [I.ptr J]) VS ⟨ab rfl,trivial⟩ (fun _ _ h=>QA h)) ?_
   obtain⟨aN,ck,h⟩:=aw h
   refine dc VT (PO ck) ?_
   refine aJ ?_
   refine ch h (fun h=>?_) fun h=>?_
   ·refine aC ?_
    refine aK ?_
    refine aJ ?_
    refine ah.ret ?_
    refine ad.ret ?_
    obtain rfl:=aG h
    exact c8
   ·refine cJ ?_
    refine ah.seq ?_
    refine aC ?_
    refine aB ?_
    refine aY (eS Tryz.underlying156) ?_
    refine bf gf ?_
    refine aJ ?_
    refine ch h (fun h=>?_) fun h=>?_
    ·refine aC ?_
     refine aK ?_
     refine aJ ?_
     refine ah.ret ?_
     refine ad.ret ?_
     obtain rfl:=aG h
     exact c8
    ·refine cJ ?_
     refine aC ?_
     refine aY (c2 c0) ?_
     refine aB ?_
     obtain⟨a7,dR,h⟩:=aw h
     refine dc VU (Rh dR) ?_
     refine aB ?_
     refine ez ?_
     refine ez ?_
     refine cx jm fun a3=> ?_
     refine cx jm fun bH=> ?_
     refine b3 1 dv ?_
     refine b3 0 dv ?_
     refine bG ?_
     refine aC ?_
     refine aY (c2 c0) ?_
     refine b6 1 dv ?_
     refine b6 0 dv ?_
     obtain⟨bR,e2,h⟩:=aw h
     refine dc VV (Rg e2) ?_
     refine cx h1 fun cA=> ?_
     refine b3 0 c0 ?_
     refine bZ ?_
     refine b6 0 c0 ?_
     refine aY (c2 c0) ?_
     refine bf (Dh GH rfl GI rfl) ?_
     refine aJ ?_
     refine ch h (fun h=>?_) fun h=>?_
     ·refine aC ?_
      refine b6 0 c0 ?_
      refine aB ?_
      obtain⟨br,g2,h⟩:=aw h
      refine dc wE (b1 _ _ _ g2) ?_
      refine aK ?_
      refine aJ ?_
      refine ah.ret ?_
      refine ad.ret ?_
      obtain rfl:=aG h
      exact c8
     ·refine cJ ?_
      refine aC ?_
      refine b6 2 dv ?_
      refine aB ?_
      obtain⟨b8,g3,h⟩:=aw h
      refine dc VW (Q3 g3) ?_
      refine aK ?_
      refine bZ ?_
      refine aY (c2 c0) ?_
      refine aB ?_
      obtain⟨cD,kN,h⟩:=aw h
      refine dc Dz (CA kN) ?_
      refine aB ?_
      obtain⟨dL,lb,h⟩:=aw h
      refine dc wE (b1 _ _ _ lb) ?_
      refine aB ?_
      refine dE (c2 c0) ?_
      refine dE c3 ?_
      obtain⟨fU,n2,h⟩:=aw h
      refine eW (fun hb=>hP Dz (CA (ha n2 hb)) ⟨ct rfl hb,ct rfl hb,fP true,trivial⟩) ?_
      refine dE c3 ?_
      obtain⟨hJ,pb,h⟩:=aw h
      refine eW (fun hb=>hP wE (b1 _ _ _ (ha pb hb)) ⟨ct rfl hb,ct rfl hb,trivial⟩) ?_
      refine ja ?_
      refine aK ?_
      refine aJ ?_
      refine ah.ret ?_
      obtain rfl:=aG h
      exact c8
theorem Fe {J:a4} {ag:List a4} {r:Bool} (h:yn J ag=some r):bw Tryz.prog 117 [I.of (J),I.of (ag)] (I.of (r)):=QV eo J ag r h
end Go.Proofs.YtmnggbjcnoffeaaGreat
namespace Go.Proofs.YtmnggbjcnoffeaaGreat
open Go Gv
set_option linter.unusedVariables false
set_option linter.unusedSimpArgs false
set_option maxRecDepth 100000
set_option maxHeartbeats 2000000
theorem Qo {ag:List aI} {aT:a2} {cB:aI} :tY Tryz.prog 149 [I.ptr ag,I.ptr aT,I.ptr cB] [] (fun v:a4=>I.of v) (fun {σ ε} =>xU (σ:=σ) (ε:=ε) ag aT cB):=by
 refine tY.of Tryz.func149 rfl Tryz.ntmps149 rfl ?_
 intro σ ε γ Ls Lx step cd g0 r h W A u qs
 replace h:xU ag aT cB step cd=some r:=h
 unfold xU at h
 refine aC ?_
 refine aY (c2 sN) ?_
 refine aY (eS Tryz.underlying38) ?_
 refine aB ?_
 refine aJ ?_
 refine ah.block ?_
 obtain⟨aA,ao,h⟩:=aw h
 refine ah.q3 (σ:=Int × (σ)) (ε:=(Int × Bool × (σ)) ⊕ (Bool × Int × Bool × Bool × Bool × (ε))) (γ:=γ) (δ:=γ) ao (fun s1 az=> [(0,I.eq u),(1,I.ptr ag),(2,I.ptr aT),(3,I.ptr cB),(9,I.of (ag)),(10,I.of (ag.length:Int)),(11,I.of (s1.1))]) (fun s1 az=>(Ls s1.2 az)) (fun aF=>Sum.elim (fun aF=>Exit.exit 0) (fun aF=>Exit.ret) aF) (fun aF az=>Sum.elim (fun aF=> [(0,I.eq u),(1,I.ptr ag),(2,I.ptr aT),(3,I.ptr cB),(9,I.of (ag)),(10,I.of (ag.length:Int)),(11,I.of (aF.1)),(12,I.of (aF.2.1))]) (fun aF=> [(0,I.eq u),(1,I.ptr ag),(2,I.ptr aT),(3,I.ptr cB),(8,I.of (aF.1)),(9,I.of (ag)),(10,I.of (ag.length:Int)),(11,I.of (aF.2.1)),(12,I.of (aF.2.2.1)),(19,I.of (aF.2.2.2.1)),(33,I.of (aF.2.2.2.2.1))]) aF) (fun aF az=>Sum.elim (fun aF=>(Ls aF.2.2 az)) (fun aF=>(Lx aF.2.2.2.2.2 az)) aF) g0 rfl (.same rfl (.same rfl (.same rfl (.same rfl (.same rfl (.same rfl (.same rfl .nil))))))) (fun s1 r h az=> ?_) (fun az=> ?_)
 ·clear ao
  refine aC ?_
  refine bf eb ?_
  refine bG ?_
  refine ch h (fun h=>?_) fun h=>?_
  ·refine cJ ?_
   refine ah.seq ?_
   refine ah.block ?_
   refine aC ?_
   obtain⟨aZ,cv,h⟩:=aw h
   refine gJ cv Tryz.underlying38 cY ?_
   refine aY (c2 cY) ?_
   refine cx hh fun aS=> ?_
   refine b3 0 cY ?_
   refine bG ?_
   refine aC ?_
   refine aY (c2 fH) ?_
   refine b6 0 cY ?_
   refine aY (c2 cY) ?_
   obtain⟨al,bs,h⟩:=aw h
   refine dc Hf (Fi bs) ?_
   refine aY hz ?_
   refine aJ ?_
   refine ch h (fun h=>?_) fun h=>?_
   ·refine ah.exit ?_
    refine ad.exit ?_
    refine ad.eT ?_
    refine ad.next ?_
    refine ah.cn ?_
    refine bf c9 ?_
    refine aB ?_
    refine aj.nil ?_
    obtain rfl:=aG h
    exact e0 az 1
   ·refine cJ ?_
    refine aC ?_
    refine aY (c2 fH) ?_
    refine aY (aW my) ?_
    refine cb 0 k0 iC ?_
    obtain⟨aN,ck,h⟩:=aw h
    refine dc ND (K1 ck) ?_
    refine aB ?_
    refine ez ?_
    refine ez ?_
    refine cx h1 fun a3=> ?_
    refine b3 0 c0 ?_
    refine aK ?_
    refine bZ ?_
    refine aB ?_
    refine aB ?_
    refine dE c3 ?_
    refine eW (fun hb=>fj (i:=0) (aL.id a4) (r:=aN.1) c0 (ab rfl) rfl rfl rfl) ?_
    refine aj.cases aN.2 (fun hb=> ?_) (fun hb=> ?_)
    ·replace h:=gQ hb h
     obtain⟨a7,dR,h⟩:=aw h
     refine aj.MJ (Lin:= [⟨some a3,.var (aN.1:a4)⟩,⟨some aS,.var (ax ag aZ:aI)⟩]) (Ls:=Ls) (Lx:=Lx) (step:=step) (s:=s1.2) (gg:=az) rfl qs hb rfl rfl rfl (ct rfl hb) dR rfl (fun s2 aQ a5=> ?_) (fun cT aQ a5=> ?_)
     ·subst aQ; simp only [Sum.elim_inl] at h
      refine aj.eI (L2:=(⟨some a3,.var (aN.1:a4)⟩ :: ⟨some aS,.var (ax ag aZ:aI)⟩ :: Ls s2 a5)) rfl ?_
      refine dE hz ?_
      refine ja ?_
      refine aJ ?_
      refine ah.q2 (ab rfl) (by first | rfl | (rw [hb]; rfl)) ?_
      refine ah.skip ?_
      refine ad.dG ?_
      refine ad.next ?_
      refine ah.cn ?_
      refine bf c9 ?_
      refine aB ?_
      refine aj.nil ?_
      obtain rfl:=aG h
      exact e0 a5 2
     ·subst aQ; simp only [Sum.elim_inr] at h
      refine aj.eI (L2:=(⟨some a3,.var (aN.1:a4)⟩ :: ⟨some aS,.var (ax ag aZ:aI)⟩ :: Lx cT a5)) rfl ?_
      refine dE hz ?_
      refine ja ?_
      refine aJ ?_
      refine ah.Dp (ab rfl) (by first | rfl | (rw [hb]; rfl)) ?_
      refine ah.ret ?_
      refine ad.dQ ?_
      refine ad.ret ?_
      obtain rfl:=aG h
      exact dU a5 2
    ·replace h:=gR hb h
     refine aj.NF (.of false) hb rfl rfl rfl rfl rfl ?_
     refine dE hz ?_
     refine ja ?_
     refine aJ ?_
     refine ah.q2 (ab rfl) (by first | rfl | (rw [hb]; rfl)) ?_
     refine ah.skip ?_
     refine ad.dG ?_
     refine ad.next ?_
     refine ah.cn ?_
     refine bf c9 ?_
     refine aB ?_
     refine aj.nil ?_
     obtain rfl:=aG h
     exact e0 az 2
  ·refine ah.exit ?_
   refine ad.exit ?_
   obtain rfl:=aG h
   exact dU az 0
 ·clear ao
  rcases aA with aA | aA
  ·simp only [Sum.elim_inl] at h
   refine ad.eT ?_
   refine ad.sM ?_
   obtain rfl:=aG h
   exact ad.ox az (.refl _) rfl rfl
  ·simp only [Sum.elim_inr] at h
   refine ad.dQ ?_
   obtain rfl:=aG h
   exact ad.ox az (.refl _) rfl rfl
theorem Q4 {J:a4} {ag:List a4} {r:Bool × Int} (h:vB J ag=some r):bw Tryz.prog 81 [I.of (J),I.of (ag)] (I.cN [I.of (r.1),I.of (r.2)]):=by
 unfold vB at h
 refine bw.of Tryz.func81 rfl Tryz.ntmps81 rfl fun W A=> ?_
 refine aC ?_
 refine cf fun aS=> ?_
 refine aK ?_
 refine aK ?_
 refine bZ ?_
 refine b6 0 c0 ?_
 refine aB ?_
 obtain⟨al,bs,h⟩:=aw h
 refine dc zP (yD bs) ?_
 refine aK ?_
 refine bG ?_
 refine aC ?_
 refine aB ?_
 refine aY (eS Tryz.underlying156) ?_
 refine bf ow ?_
 refine aJ ?_
 refine ch h (fun h=>?_) fun h=>?_
 ·refine aC ?_
  refine aK ?_
  refine aK ?_
  refine aJ ?_
  refine ah.ret ?_
  refine ad.ret ?_
  obtain rfl:=aG h
  exact uH
 ·refine cJ ?_
  refine aC ?_
  refine b6 0 c0 ?_
  refine aB ?_
  obtain⟨aN,ck,h⟩:=aw h
  refine dc wE (Fe ck) ?_
  refine aK ?_
  refine aK ?_
  refine aJ ?_
  refine ah.ret ?_
  obtain rfl:=aG h
  exact uH
theorem Q5 {J:a4} {ag:List a4} {r:(Vector ak 4) × Bool × Int} (h:yo J ag=some r):bw Tryz.prog 88 [I.of (J),I.of (ag)] (I.cN [I.of (r.1),I.of (r.2.1),I.of (r.2.2)]):=by
 unfold yo at h
 refine bw.of Tryz.func88 rfl Tryz.ntmps88 rfl fun W A=> ?_
 refine aC ?_
 refine cf fun aS=> ?_
 refine cx jm fun a3=> ?_
 refine aK ?_
 refine aK ?_
 refine bZ ?_
 refine b6 1 c0 ?_
 refine aB ?_
 obtain⟨al,bs,h⟩:=aw h
 refine dc zP (yD bs) ?_
 refine aK ?_
 refine bG ?_
 refine aC ?_
 refine aB ?_
 refine aY (eS Tryz.underlying156) ?_
 refine bf ow ?_
 refine aJ ?_
 refine ch h (fun h=>?_) fun h=>?_
 ·refine aC ?_
  refine bj (CM (b:=(default:Vector ak 4)) (sz:=2) rfl Tryz.underlying45 (by kernel_rfl) jm (.nil)) ?_
  refine b3 0 dv ?_
  refine aK ?_
  refine aK ?_
  refine aJ ?_
  refine ah.ret ?_
  refine ad.ret ?_
  obtain rfl:=aG h
  exact ad.qa rfl (eH 0 dv) (h9 rfl) (h9 rfl)
 ·refine cJ ?_
  refine ah.seq ?_
  refine aC ?_
  refine b6 1 c0 ?_
  refine aB ?_
  obtain⟨aN,ck,h⟩:=aw h
  refine dc wE (Fe ck) ?_
  refine aJ ?_
  refine ch h (fun h=>?_) fun h=>?_
  ·refine aC ?_
   refine bj (CM (b:=(default:Vector ak 4)) (sz:=2) rfl Tryz.underlying45 (by kernel_rfl) jm (.nil)) ?_
   refine b3 0 dv ?_
   refine aK ?_
   refine aK ?_
   refine aJ ?_
   refine ah.ret ?_
   refine ad.ret ?_
   obtain rfl:=aG h
   exact ad.qa rfl (eH 0 dv) (h9 rfl) (h9 rfl)
  ·refine cJ ?_
   refine ah.seq ?_
   refine aC ?_
   refine aB ?_
   refine aJ ?_
   refine ah.block ?_
   obtain⟨aA,ao,h⟩:=aw h
   refine gN (γ:=Unit) (δ:=Unit) ao [0,1,2,4,5,6,16,20] (fun s1 az=> [(7,I.of (s1.1)),(22,I.of (s1.2.1))]) (fun s1 az=> [(1,⟨some aS,.var (s1.2.2:a4)⟩)]) (fun aF=>Exit.exit 0) (fun aF az=> [(7,I.of (aF.1)),(22,I.of (aF.2.1)),(23,I.of (aF.2.2.1))]) (fun aF az=> [(1,⟨some aS,.var (aF.2.2.2:a4)⟩)]) () (fun s1 r h az=> ?_) fun az=> ?_
   ·clear ao
    refine aC ?_
    refine bf eb ?_
    refine bG ?_
    refine ch h (fun h=>?_) fun h=>?_
    ·refine cJ ?_
     refine ah.seq ?_
     refine ah.block ?_
     refine aC ?_
     refine aB ?_
     refine aK ?_
     refine bZ ?_
     refine b6 1 c0 ?_
     refine aB ?_
     obtain⟨a7,dR,h⟩:=aw h
     refine dc Dz (CA dR) ?_
     refine cx h1 fun bH=> ?_
     refine b3 0 c0 ?_
     refine bG ?_
     refine aC ?_
     refine b6 0 c0 ?_
     refine b6 2 c0 ?_
     refine bf (ug GH rfl GI rfl) ?_
     refine aJ ?_
     refine ch h (fun h=>?_) fun h=>?_
     ·refine ah.exit ?_
      refine ad.exit ?_
      refine ad.eT ?_
      refine ad.next ?_
      refine ah.cn ?_
      refine bf c9 ?_
      refine aB ?_
      refine aj.nil ?_
      obtain rfl:=aG h
      exact e0 () 1
     ·refine cJ ?_
      refine ah.seq ?_
      refine aC ?_
      refine b6 0 c0 ?_
      refine aB ?_
      obtain⟨bR,e2,h⟩:=aw h
      refine dc zP (yD e2) ?_
      refine aK ?_
      refine bZ ?_
      refine b6 0 c0 ?_
      refine aB ?_
      obtain⟨br,g2,h⟩:=aw h
      refine dc wE (Fe g2) ?_
      refine aY hz ?_
      refine aJ ?_
      refine ch h (fun h=>?_) fun h=>?_
      ·refine aC ?_
       refine b6 0 c0 ?_
       refine aB ?_
       refine b3 2 c0 ?_
       refine aK ?_
       refine aJ ?_
       refine ah.exit ?_
       refine ad.exit ?_
       refine ad.eT ?_
       refine ad.next ?_
       refine ah.cn ?_
       refine bf c9 ?_
       refine aB ?_
       refine aj.nil ?_
       obtain rfl:=aG h
       exact e0 () 1
      ·refine cJ ?_
       refine aC ?_
       refine b6 2 c0 ?_
       refine aB ?_
       obtain⟨b8,g3,h⟩:=aw h
       refine dc Dz (CA g3) ?_
       refine b3 2 c0 ?_
       refine aJ ?_
       refine ah.cn ?_
       refine b6 2 c0 ?_
       refine aB ?_
       obtain⟨cD,kN,h⟩:=aw h
       refine dc zP (yD kN) ?_
       refine aK ?_
       refine aj.nil ?_
       refine ad.dG ?_
       refine ad.next ?_
       refine ah.cn ?_
       refine bf c9 ?_
       refine aB ?_
       refine aj.nil ?_
       obtain rfl:=aG h
       exact e0 () 1
    ·refine ah.exit ?_
     refine ad.exit ?_
     obtain rfl:=aG h
     exact dU () 0
   ·clear ao
    refine ad.eT ?_
    refine ad.next ?_
    refine aC ?_
    refine aY (aW oe) ?_
    refine cb 1 mu dv ?_
    refine b3 0 dv ?_
    refine aK ?_
    refine aK ?_
    refine aJ ?_
    refine ah.ret ?_
    obtain rfl:=aG h
    exact ad.qa rfl (eH 0 dv) (h9 rfl) (h9 rfl)
end Go.Proofs.YtmnggbjcnoffeaaGreat
namespace Go.Proofs.YtmnggbjcnoffeaaGreat
open Go Gv
set_option linter.unusedVariables false
set_option linter.unusedSimpArgs false
set_option maxRecDepth 100000
set_option maxHeartbeats 2000000
theorem Q6 {hp:a9 Cell} {J:Ref} {ag:ak} {aT:Int} {cB:Int} {Q:Bool × (a9 Cell)→Prop} (h:vC hp J ag aT cB Q):cy Tryz.prog 244 [I.of (J),I.of (ag),I.of (aT),I.of (cB)] ([] ++ ba hp) (δ:= {r:Bool × (a9 Cell) // Q r} × Unit) (fun d=>I.of (d.1.1.1)) (fun d=> [] ++ ba d.1.1.2):=by
 unfold vC at h
 refine cy.ofM Tryz.func244 rfl Tryz.ntmps244 rfl fun W A=> ?_
 refine aC ?_
 refine cf fun aS=> ?_
 refine aK ?_
 refine bG ?_
 refine aC ?_
 refine aB ?_
 refine b6 0 bN ?_
 refine aB ?_
 obtain⟨al,bs,h⟩:=aM.dd h
 refine aj.lS (hX.nR 1 rfl Nz (J3 bs) ⟨ab rfl,ab rfl,ab rfl,trivial⟩) rfl rfl rfl ?_
 refine aY hz ?_
 refine aJ ?_
 refine ah.cond (ab rfl) (fun ar=> ?_) (fun ar=> ?_)
 ·replace h:=sn ar h
  refine aC ?_
  refine aK ?_
  refine aJ ?_
  refine ah.ret ?_
  refine ad.ret ?_
  refine ad.wS ?_
  exact ad.hj (⟨⟨(false,hp),h⟩,()⟩: {r // _} × _) (.cons _ (.refl _)) rfl rfl (eD rfl)
 ·replace h:=so ar h
  refine cJ ?_
  refine ah.seq ?_
  refine aC ?_
  refine aB ?_
  refine b6 0 bN ?_
  refine aB ?_
  obtain⟨aN,ck,h⟩:=aM.dd h
  refine aj.lS (hX.nR 1 rfl NG (J9 ck) ⟨ab rfl,ab rfl,ab rfl,trivial⟩) rfl rfl rfl ?_
  refine aK ?_
  refine bZ ?_
  refine aB ?_
  refine bj (FB Tryz.underlying331 (ab rfl)) ?_
  refine aB ?_
  refine dE c3 ?_
  obtain⟨dg,e7,h⟩:=aM.dd h
  refine eW (fun hb=>ff (fQ (ct rfl hb) (ha e7 hb))) ?_
  refine dE (aW tO) ?_
  obtain⟨cF,fT,h⟩:=aM.dd h
  refine eW (fun hb=>h0 ((aL.id eJ).comp tp) (r:=cF.fp) ir (ct rfl hb) (gU (n:=1) rfl (l3 (ha fT hb)) rfl) rfl rfl) ?_
  refine ja ?_
  refine aJ ?_
  refine ah.cond (ab rfl) (fun ar=> ?_) (fun ar=> ?_)
  ·replace h:=sn ar h
   refine aC ?_
   refine aK ?_
   refine aJ ?_
   refine ah.ret ?_
   refine ad.ret ?_
   refine ad.wS ?_
   exact ad.hj (⟨⟨(false,hp),h⟩,()⟩: {r // _} × _) (.cons _ (.refl _)) rfl rfl (eD rfl)
  ·replace h:=so ar h
   refine cJ ?_
   refine ah.seq ?_
   refine aC ?_
   refine aB ?_
   obtain⟨cK,gi,h⟩:=aM.dd h
   refine bj (ff (fQ (ab rfl) gi)) ?_
   refine aY (aW y6) ?_
   obtain⟨da,ho,h⟩:=aM.dd h
   refine bj (h0 ((aL.id ga).comp x4) (r:=da.db) fq (ab rfl) (gU (n:=1) rfl (om ho) rfl) rfl rfl) ?_
   refine bj (oV Tryz.underlying331 (ab rfl)) ?_
   refine aJ ?_
   refine ah.zn (γ:=Unit) h (fun bM az=> [(0,I.of (J)),(1,I.of (ag)),(2,I.of (aT)),(3,I.of (cB)),(5,I.eq (.pointer (some ⟨aS,0,none⟩))),(8,I.of (false)),(9,I.of (aN)),(16,I.of (!al)),(28,I.of (aN.isSome && cF.fp)),(33,I.of (da.db.isNone))]) (fun bM az=>(⟨some aS,.var (ag:ak)⟩ :: ba bM)) (ab rfl) (fun bM az h=> ?_) (fun hm ar h=> ?_) (fun hm ar h=> ?_)
   ·refine ad.next ?_
    refine aC ?_
    refine aB ?_
    refine bj (ff (fQ (ab rfl) gi)) ?_
    refine aY (aW y6) ?_
    obtain⟨ft,lM,h⟩:=aM.dd h
    refine bj (h0 ((aL.id ga).comp x4) (r:=ft.db) fq (ab rfl) (gU (n:=1) rfl (om lM) rfl) rfl rfl) ?_
    refine cx Dx fun a3=> ?_
    refine b3 0 fq ?_
    refine bG ?_
    refine aC ?_
    refine aB ?_
    refine b6 1 bN ?_
    refine aB ?_
    obtain⟨a7,dR,h⟩:=aM.dd h
    refine dc Hc (E9 dR) ?_
    refine aJ ?_
    refine ah.block ?_
    refine Sp (σ:=Ref × (a9 Cell)) (ε:=Empty) (γ:=Unit) (g0:=()) (Ls:=fun s2 bu=>(⟨some a3,.var (s2.1:Ref)⟩ :: ⟨some aS,.var (ag:ak)⟩ :: ba s2.2)) (Lx:=fun cT bu=>Empty.elim cT) (hq:=fun s2=>s2.2) (fun s2 bu=> [⟨some a3,.var (s2.1:Ref)⟩,⟨some aS,.var (ag:ak)⟩]) (fun cT=>Empty.elim cT) rfl Hd rfl Ql h (fun _ _=>rfl) rfl rfl (fun w8 s2 R h bu kr kz ks l D rec ry=> ?_) (fun s2 h bu D=> ?_) (fun cT h bu D=> ?_)
    ·refine ah.cn ?_
     refine aK ?_
     refine aj.nil ?_
     refine ad.begin 0 rfl ry ?_
     refine ah.block ?_
     refine ah.seq ?_
     refine aC ?_
     refine b6 2 fq ?_
     refine aB ?_
     obtain⟨pG,uO,h⟩:=aM.dd h
     refine bj (ff (fQ (ab rfl) uO)) ?_
     refine aY (aW y7) ?_
     obtain⟨aZ,cv,h⟩:=aM.dd h
     refine bj (ee (k:=aZ) zM (ab rfl) (ab rfl) (cc cv)) ?_
     obtain⟨te,Eb,h⟩:=aM.dd h
     refine bj (h0 (((aL.id eJ).comp xG).comp (aL.idx (α:=Ref) 2 aZ (cc cv).1)) (r:=bD te.eK aZ) fq (ab rfl) (gU (n:=4) rfl (l3 Eb) rfl) rfl rfl) ?_
     refine bj (oV Tryz.underlying331 (ab rfl)) ?_
     refine aJ ?_
     refine ah.zn (γ:=Unit) h (fun cI cM=> [(0,I.of (J)),(1,I.of (ag)),(2,I.of (aT)),(3,I.of (cB)),(5,I.eq (.pointer (some ⟨aS,0,none⟩))),(8,I.of (false)),(9,I.of (aN)),(10,I.eq (.pointer (some ⟨a3,0,none⟩))),(11,I.of (w8)),(16,I.of (!al)),(28,I.of (aN.isSome && cF.fp)),(33,I.of (da.db.isNone)),(46,I.gW 255 [I.ptr a7.1,I.ptr a7.2.1,I.ptr a7.2.2]),(47,I.of (w8)),(54,I.of ((bD te.eK aZ).isNone))]) (fun cI cM=>(⟨some l,.is (.loop { rec with state:= .busy })⟩ :: ⟨some D,.dn⟩ :: ⟨some a3,.var (s2.1:Ref)⟩ :: ⟨some aS,.var (ag:ak)⟩ :: ba cI)) (ab rfl) (fun cI cM h=> ?_) (fun hm ar h=> ?_) (fun hm ar h=> ?_)
     ·refine ad.next ?_
      refine ah.cn ?_
      refine b6 2 fq ?_
      refine aB ?_
      refine bj (ff (fQ (ab rfl) uO)) ?_
      refine aY (aW y7) ?_
      obtain⟨b0,de,h⟩:=aM.dd h
      refine bj (ee (k:=b0) zM (ab rfl) (ab rfl) (cc de)) ?_
      obtain⟨u7,Ia,h⟩:=aM.dd h
      refine bj (h0 (((aL.id eJ).comp xG).comp (aL.idx (α:=Ref) 2 b0 (cc de).1)) (r:=bD u7.eK b0) fq (ab rfl) (gU (n:=4) rfl (l3 Ia) rfl) rfl rfl) ?_
      refine b3 2 fq ?_
      refine aj.nil ?_
      refine ad.dG ?_
      exact ad.XF h () 0 rfl
     ·refine ah.cn ?_
      refine b6 2 fq ?_
      refine aB ?_
      refine gV NH NI (default:eJ) .nil ?_
      refine aj.Ad 4 rfl (Cell.hl (default:eJ)) (fun _=>rfl) (ab rfl) rfl fun dY uI=> ?_
      replace h:=aM.sj h dY uI
      refine bj (ff (fQ (ab rfl) uO)) ?_
      refine aY (aW y7) ?_
      obtain⟨c1,fl,h⟩:=aM.dd h
      refine bj (ee (k:=c1) zM (ab rfl) (ab rfl) (cc fl)) ?_
      obtain⟨rO,Ib,h⟩:=aM.dd h
      obtain⟨dV,pa,h⟩:=aM.dd h
      refine aj.pU (k':=Cell.hl ({ rO with eK:=cW rO.eK c1 (some dY.1:Ref) } :eJ)) 4 rfl (((aL.id eJ).comp xG).comp (aL.idx (α:=Ref) 2 c1 (cc fl).1)) (v:=((some dY.1:Ref):Ref)) fq (ab rfl) (ab rfl) (l3 Ib) rfl rfl rfl rfl (aG pa) ?_
      refine aj.nil ?_
      exact dt 0 (hm dV () h)
     ·refine ah.skip ?_
      exact dt 0 (hm s2.2 () h)
    ·simp only [Sum.elim_inl] at h
     refine ad.eI (L2:=(⟨some D,.dn⟩ :: ⟨some a3,.var (s2.1:Ref)⟩ :: ⟨some aS,.var (ag:ak)⟩ :: ba s2.2)) rfl ?_
     refine ad.dG ?_
     refine ad.next ?_
     refine ah.seq ?_
     obtain⟨jx,Ec,h⟩:=aM.dd h
     obtain⟨xo,Ed,h⟩:=aM.dd h
     obtain⟨e9,wT,h⟩:=aM.dd h
     refine ah.NJ mixed 9 (Array.mk (false :: false :: false :: false :: false :: false :: false :: false :: false :: [])) rfl rfl ?_
     refine bB.cut (γ:=Unit) 3 (Array.mk (true :: true :: true :: true :: true :: true :: false :: false :: false :: [])) (fun sy=> [(0,I.of (J)),(1,I.of (ag)),(2,I.of (aT)),(3,I.of (cB)),(5,I.eq (.pointer (some ⟨aS,0,none⟩))),(8,I.of (false)),(9,I.of (aN)),(10,I.eq (.pointer (some ⟨a3,0,none⟩))),(16,I.of (!al)),(28,I.of (aN.isSome && cF.fp)),(33,I.of (da.db.isNone)),(39,I.of (J)),(40,I.eq (.pointer (some ⟨cK,0,none⟩))),(41,I.eq (.pointer (some ⟨cK,0 + 1,none⟩))),(42,I.of (ft.db)),(43,I.of (J)),(44,I.of (ag)),(45,I.of (aT)),(46,I.gW 255 [I.ptr a7.1,I.ptr a7.2.1,I.ptr a7.2.2]),(68,I.of (s2.1)),(69,I.of (s2.1)),(70,I.of (cB)),(71,I.eq (.pointer (some ⟨jx,0,none⟩))),(72,I.eq (.pointer (some ⟨jx,0 + 2,none⟩)))]) (fun sy=>(⟨some D,.dn⟩ :: ⟨some a3,.var (s2.1:Ref)⟩ :: ⟨some aS,.var (ag:ak)⟩ :: ba e9)) (fun sy=> ?_) (fun wF=> ?_)
     ·refine bB.tail 6 rfl (by kernel_rfl) ?_
      obtain⟨Jl,YE,h⟩:=aM.dd h
      refine bj (ff (fQ (ab rfl) YE)) ?_
      refine aY (aW Ga) ?_
      obtain⟨Jm,YF,h⟩:=aM.dd h
      obtain⟨iE,HD,h⟩:=aM.dd h
      refine aj.pU (k':=Cell.hl ({ Jm with j1:=cB } :eJ)) 3 rfl ((aL.id eJ).comp E7) (v:=(cB:Int)) bE (ab rfl) (ab rfl) (l3 YF) rfl rfl rfl rfl (aG HD) ?_
      refine bZ ?_
      refine aK ?_
      refine aJ ?_
      refine ah.ret ?_
      refine ad.sO 0 rfl rfl ?_
      exact ad.hj (⟨⟨(true,iE),h⟩,()⟩: {r // _} × _) (.cons _ (.cons _ (.cons _ (.refl _)))) rfl rfl (eD rfl)
     refine bB.cut (γ:=Unit) 4 (Array.mk (true :: false :: true :: true :: true :: true :: false :: false :: false :: [])) (fun qX=> [(0,I.of (J)),(1,I.of (ag)),(2,I.of (aT)),(3,I.of (cB)),(5,I.eq (.pointer (some ⟨aS,0,none⟩))),(8,I.of (false)),(9,I.of (aN)),(10,I.eq (.pointer (some ⟨a3,0,none⟩))),(16,I.of (!al)),(28,I.of (aN.isSome && cF.fp)),(33,I.of (da.db.isNone)),(39,I.of (J)),(40,I.eq (.pointer (some ⟨cK,0,none⟩))),(41,I.eq (.pointer (some ⟨cK,0 + 1,none⟩))),(42,I.of (ft.db)),(43,I.of (J)),(44,I.of (ag)),(45,I.of (aT)),(46,I.gW 255 [I.ptr a7.1,I.ptr a7.2.1,I.ptr a7.2.2]),(68,I.of (s2.1)),(70,I.of (cB)),(71,I.eq (.pointer (some ⟨jx,0,none⟩))),(72,I.eq (.pointer (some ⟨jx,0 + 2,none⟩)))]) (fun qX=>(⟨some D,.dn⟩ :: ⟨some a3,.var (s2.1:Ref)⟩ :: ⟨some aS,.var (ag:ak)⟩ :: ba e9)) (fun qX=> ?_) (fun zQ=> ?_)
     ·clear h
      refine bB.step [1] (by kernel_rfl) rfl ⟨⟨_,rfl,?_⟩,trivial⟩
      ·refine b6 1 fq ?_
       refine aj.nil ?_
       exact ad.any rfl (bB.le (.same rfl (.same rfl (.same rfl (.same rfl (.same rfl (.same rfl (.same rfl (.same rfl (.same rfl (.same rfl (.same rfl (.same rfl (.same rfl (.same rfl (.same rfl (.same rfl (.same rfl (.same rfl (.same rfl (.same rfl (.same rfl (.same rfl (.same rfl (.same rfl .nil)))))))))))))))))))))))) (wF ()))
     refine bB.cut (γ:=Unit) 4 (Array.mk (true :: true :: false :: true :: true :: true :: false :: false :: false :: [])) (fun zo=> [(0,I.of (J)),(1,I.of (ag)),(2,I.of (aT)),(3,I.of (cB)),(5,I.eq (.pointer (some ⟨aS,0,none⟩))),(8,I.of (false)),(9,I.of (aN)),(10,I.eq (.pointer (some ⟨a3,0,none⟩))),(16,I.of (!al)),(28,I.of (aN.isSome && cF.fp)),(33,I.of (da.db.isNone)),(39,I.of (J)),(40,I.eq (.pointer (some ⟨cK,0,none⟩))),(41,I.eq (.pointer (some ⟨cK,0 + 1,none⟩))),(42,I.of (ft.db)),(43,I.of (J)),(44,I.of (ag)),(45,I.of (aT)),(46,I.gW 255 [I.ptr a7.1,I.ptr a7.2.1,I.ptr a7.2.2]),(68,I.of (s2.1)),(69,I.of (s2.1)),(71,I.eq (.pointer (some ⟨jx,0,none⟩))),(72,I.eq (.pointer (some ⟨jx,0 + 2,none⟩)))]) (fun zo=>(⟨some D,.dn⟩ :: ⟨some a3,.var (s2.1:Ref)⟩ :: ⟨some aS,.var (ag:ak)⟩ :: ba e9)) (fun zo=> ?_) (fun wG=> ?_)
     ·clear h
      refine bB.step [2] (by kernel_rfl) rfl ⟨⟨_,rfl,?_⟩,trivial⟩
      ·refine aB ?_
       refine aj.nil ?_
       exact ad.any rfl (bB.le (.same rfl (.same rfl (.same rfl (.same rfl (.same rfl (.same rfl (.same rfl (.same rfl (.same rfl (.same rfl (.same rfl (.same rfl (.same rfl (.same rfl (.same rfl (.same rfl (.same rfl (.same rfl (.same rfl (.same rfl (.same rfl (.same rfl (.same rfl (.same rfl .nil)))))))))))))))))))))))) (wF ()))
     refine bB.cut (γ:=Unit) 4 (Array.mk (true :: true :: true :: true :: true :: false :: false :: false :: false :: [])) (fun zp=> [(0,I.of (J)),(1,I.of (ag)),(2,I.of (aT)),(3,I.of (cB)),(5,I.eq (.pointer (some ⟨aS,0,none⟩))),(8,I.of (false)),(9,I.of (aN)),(10,I.eq (.pointer (some ⟨a3,0,none⟩))),(16,I.of (!al)),(28,I.of (aN.isSome && cF.fp)),(33,I.of (da.db.isNone)),(39,I.of (J)),(40,I.eq (.pointer (some ⟨cK,0,none⟩))),(41,I.eq (.pointer (some ⟨cK,0 + 1,none⟩))),(42,I.of (ft.db)),(43,I.of (J)),(44,I.of (ag)),(45,I.of (aT)),(46,I.gW 255 [I.ptr a7.1,I.ptr a7.2.1,I.ptr a7.2.2]),(68,I.of (s2.1)),(69,I.of (s2.1)),(70,I.of (cB)),(71,I.eq (.pointer (some ⟨jx,0,none⟩))),(72,I.eq (.pointer (some ⟨jx,0 + 2,none⟩)))]) (fun zp=>(⟨some D,.dn⟩ :: ⟨some a3,.var (s2.1:Ref)⟩ :: ⟨some aS,.var (ag:ak)⟩ :: ba s2.2)) (fun zp=> ?_) (fun wH=> ?_)
     ·clear h
      refine bB.step [5] (by kernel_rfl) rfl ⟨⟨_,rfl,?_⟩,trivial⟩
      ·refine aj.pU (k':=Cell.hl ({ xo with fp:=true } :eJ)) 3 rfl ((aL.id eJ).comp tp) (v:=(true:Bool)) ir (ab rfl) (fP true) (l3 Ed) rfl rfl rfl rfl (aG wT) ?_
       refine aj.nil ?_
       exact ad.any rfl (bB.le (.same rfl (.same rfl (.same rfl (.same rfl (.same rfl (.same rfl (.same rfl (.same rfl (.same rfl (.same rfl (.same rfl (.same rfl (.same rfl (.same rfl (.same rfl (.same rfl (.same rfl (.same rfl (.same rfl (.same rfl (.same rfl (.same rfl (.same rfl (.same rfl .nil)))))))))))))))))))))))) (wF ()))
     refine bB.cut (γ:=Unit) 5 (Array.mk (true :: false :: false :: true :: true :: true :: false :: false :: false :: [])) (fun zq=> [(0,I.of (J)),(1,I.of (ag)),(2,I.of (aT)),(3,I.of (cB)),(5,I.eq (.pointer (some ⟨aS,0,none⟩))),(8,I.of (false)),(9,I.of (aN)),(10,I.eq (.pointer (some ⟨a3,0,none⟩))),(16,I.of (!al)),(28,I.of (aN.isSome && cF.fp)),(33,I.of (da.db.isNone)),(39,I.of (J)),(40,I.eq (.pointer (some ⟨cK,0,none⟩))),(41,I.eq (.pointer (some ⟨cK,0 + 1,none⟩))),(42,I.of (ft.db)),(43,I.of (J)),(44,I.of (ag)),(45,I.of (aT)),(46,I.gW 255 [I.ptr a7.1,I.ptr a7.2.1,I.ptr a7.2.2]),(68,I.of (s2.1)),(71,I.eq (.pointer (some ⟨jx,0,none⟩))),(72,I.eq (.pointer (some ⟨jx,0 + 2,none⟩)))]) (fun zq=>(⟨some D,.dn⟩ :: ⟨some a3,.var (s2.1:Ref)⟩ :: ⟨some aS,.var (ag:ak)⟩ :: ba e9)) (fun zq=> ?_) (fun zR=> ?_)
     ·clear h
      refine bB.step [1,2] (by kernel_rfl) rfl ⟨⟨_,rfl,?_⟩,⟨_,rfl,?_⟩,trivial⟩
      ·refine b6 1 fq ?_
       refine aj.nil ?_
       exact ad.any rfl (bB.le (.same rfl (.same rfl (.same rfl (.same rfl (.same rfl (.same rfl (.same rfl (.same rfl (.same rfl (.same rfl (.same rfl (.same rfl (.same rfl (.same rfl (.same rfl (.same rfl (.same rfl (.same rfl (.same rfl (.same rfl (.same rfl (.same rfl (.same rfl .nil))))))))))))))))))))))) (wG ()))
      ·refine aB ?_
       refine aj.nil ?_
       exact ad.any rfl (bB.le (.same rfl (.same rfl (.same rfl (.same rfl (.same rfl (.same rfl (.same rfl (.same rfl (.same rfl (.same rfl (.same rfl (.same rfl (.same rfl (.same rfl (.same rfl (.same rfl (.same rfl (.same rfl (.same rfl (.same rfl (.same rfl (.same rfl (.same rfl .nil))))))))))))))))))))))) (zQ ()))
     refine bB.cut (γ:=Unit) 5 (Array.mk (true :: false :: true :: true :: true :: false :: false :: false :: false :: [])) (fun qY=> [(0,I.of (J)),(1,I.of (ag)),(2,I.of (aT)),(3,I.of (cB)),(5,I.eq (.pointer (some ⟨aS,0,none⟩))),(8,I.of (false)),(9,I.of (aN)),(10,I.eq (.pointer (some ⟨a3,0,none⟩))),(16,I.of (!al)),(28,I.of (aN.isSome && cF.fp)),(33,I.of (da.db.isNone)),(39,I.of (J)),(40,I.eq (.pointer (some ⟨cK,0,none⟩))),(41,I.eq (.pointer (some ⟨cK,0 + 1,none⟩))),(42,I.of (ft.db)),(43,I.of (J)),(44,I.of (ag)),(45,I.of (aT)),(46,I.gW 255 [I.ptr a7.1,I.ptr a7.2.1,I.ptr a7.2.2]),(68,I.of (s2.1)),(70,I.of (cB)),(71,I.eq (.pointer (some ⟨jx,0,none⟩))),(72,I.eq (.pointer (some ⟨jx,0 + 2,none⟩)))]) (fun qY=>(⟨some D,.dn⟩ :: ⟨some a3,.var (s2.1:Ref)⟩ :: ⟨some aS,.var (ag:ak)⟩ :: ba s2.2)) (fun qY=> ?_) (fun DA=> ?_)
     ·clear h
      refine bB.step [1,5] (by kernel_rfl) rfl ⟨⟨_,rfl,?_⟩,⟨_,rfl,?_⟩,trivial⟩
      ·refine b6 1 fq ?_
       refine aj.nil ?_
       exact ad.any rfl (bB.le (.same rfl (.same rfl (.same rfl (.same rfl (.same rfl (.same rfl (.same rfl (.same rfl (.same rfl (.same rfl (.same rfl (.same rfl (.same rfl (.same rfl (.same rfl (.same rfl (.same rfl (.same rfl (.same rfl (.same rfl (.same rfl (.same rfl (.same rfl (.same rfl .nil)))))))))))))))))))))))) (wH ()))
      ·refine aj.pU (k':=Cell.hl ({ xo with fp:=true } :eJ)) 3 rfl ((aL.id eJ).comp tp) (v:=(true:Bool)) ir (ab rfl) (fP true) (l3 Ed) rfl rfl rfl rfl (aG wT) ?_
       refine aj.nil ?_
       exact ad.any rfl (bB.le (.same rfl (.same rfl (.same rfl (.same rfl (.same rfl (.same rfl (.same rfl (.same rfl (.same rfl (.same rfl (.same rfl (.same rfl (.same rfl (.same rfl (.same rfl (.same rfl (.same rfl (.same rfl (.same rfl (.same rfl (.same rfl (.same rfl (.same rfl .nil))))))))))))))))))))))) (zQ ()))
     refine bB.cut (γ:=Unit) 5 (Array.mk (true :: true :: false :: true :: true :: false :: false :: false :: false :: [])) (fun zr=> [(0,I.of (J)),(1,I.of (ag)),(2,I.of (aT)),(3,I.of (cB)),(5,I.eq (.pointer (some ⟨aS,0,none⟩))),(8,I.of (false)),(9,I.of (aN)),(10,I.eq (.pointer (some ⟨a3,0,none⟩))),(16,I.of (!al)),(28,I.of (aN.isSome && cF.fp)),(33,I.of (da.db.isNone)),(39,I.of (J)),(40,I.eq (.pointer (some ⟨cK,0,none⟩))),(41,I.eq (.pointer (some ⟨cK,0 + 1,none⟩))),(42,I.of (ft.db)),(43,I.of (J)),(44,I.of (ag)),(45,I.of (aT)),(46,I.gW 255 [I.ptr a7.1,I.ptr a7.2.1,I.ptr a7.2.2]),(68,I.of (s2.1)),(69,I.of (s2.1)),(71,I.eq (.pointer (some ⟨jx,0,none⟩))),(72,I.eq (.pointer (some ⟨jx,0 + 2,none⟩)))]) (fun zr=>(⟨some D,.dn⟩ :: ⟨some a3,.var (s2.1:Ref)⟩ :: ⟨some aS,.var (ag:ak)⟩ :: ba s2.2)) (fun zr=> ?_) (fun zS=> ?_)
     ·clear h
      refine bB.step [2,5] (by kernel_rfl) rfl ⟨⟨_,rfl,?_⟩,⟨_,rfl,?_⟩,trivial⟩
      ·refine aB ?_
       refine aj.nil ?_
       exact ad.any rfl (bB.le (.same rfl (.same rfl (.same rfl (.same rfl (.same rfl (.same rfl (.same rfl (.same rfl (.same rfl (.same rfl (.same rfl (.same rfl (.same rfl (.same rfl (.same rfl (.same rfl (.same rfl (.same rfl (.same rfl (.same rfl (.same rfl (.same rfl (.same rfl (.same rfl .nil)))))))))))))))))))))))) (wH ()))
      ·refine aj.pU (k':=Cell.hl ({ xo with fp:=true } :eJ)) 3 rfl ((aL.id eJ).comp tp) (v:=(true:Bool)) ir (ab rfl) (fP true) (l3 Ed) rfl rfl rfl rfl (aG wT) ?_
       refine aj.nil ?_
       exact ad.any rfl (bB.le (.same rfl (.same rfl (.same rfl (.same rfl (.same rfl (.same rfl (.same rfl (.same rfl (.same rfl (.same rfl (.same rfl (.same rfl (.same rfl (.same rfl (.same rfl (.same rfl (.same rfl (.same rfl (.same rfl (.same rfl (.same rfl (.same rfl (.same rfl .nil))))))))))))))))))))))) (wG ()))
     refine bB.cut (γ:=Unit) 5 (Array.mk (true :: true :: true :: true :: false :: false :: false :: false :: false :: [])) (fun zs=> [(0,I.of (J)),(1,I.of (ag)),(2,I.of (aT)),(3,I.of (cB)),(5,I.eq (.pointer (some ⟨aS,0,none⟩))),(8,I.of (false)),(9,I.of (aN)),(10,I.eq (.pointer (some ⟨a3,0,none⟩))),(16,I.of (!al)),(28,I.of (aN.isSome && cF.fp)),(33,I.of (da.db.isNone)),(39,I.of (J)),(40,I.eq (.pointer (some ⟨cK,0,none⟩))),(41,I.eq (.pointer (some ⟨cK,0 + 1,none⟩))),(42,I.of (ft.db)),(43,I.of (J)),(44,I.of (ag)),(45,I.of (aT)),(46,I.gW 255 [I.ptr a7.1,I.ptr a7.2.1,I.ptr a7.2.2]),(68,I.of (s2.1)),(69,I.of (s2.1)),(70,I.of (cB)),(71,I.eq (.pointer (some ⟨jx,0,none⟩)))]) (fun zs=>(⟨some D,.dn⟩ :: ⟨some a3,.var (s2.1:Ref)⟩ :: ⟨some aS,.var (ag:ak)⟩ :: ba s2.2)) (fun zs=> ?_) (fun wI=> ?_)
     ·clear h
      refine bB.step [4] (by kernel_rfl) rfl ⟨⟨_,rfl,?_⟩,trivial⟩
      ·refine aY (aW tO) ?_
       refine aj.nil ?_
       exact ad.any rfl (bB.le (.same rfl (.same rfl (.same rfl (.same rfl (.same rfl (.same rfl (.same rfl (.same rfl (.same rfl (.same rfl (.same rfl (.same rfl (.same rfl (.same rfl (.same rfl (.same rfl (.same rfl (.same rfl (.same rfl (.same rfl (.same rfl (.same rfl (.same rfl (.same rfl .nil)))))))))))))))))))))))) (wH ()))
     refine bB.cut (γ:=Unit) 6 (Array.mk (true :: false :: false :: true :: true :: false :: false :: false :: false :: [])) (fun zt=> [(0,I.of (J)),(1,I.of (ag)),(2,I.of (aT)),(3,I.of (cB)),(5,I.eq (.pointer (some ⟨aS,0,none⟩))),(8,I.of (false)),(9,I.of (aN)),(10,I.eq (.pointer (some ⟨a3,0,none⟩))),(16,I.of (!al)),(28,I.of (aN.isSome && cF.fp)),(33,I.of (da.db.isNone)),(39,I.of (J)),(40,I.eq (.pointer (some ⟨cK,0,none⟩))),(41,I.eq (.pointer (some ⟨cK,0 + 1,none⟩))),(42,I.of (ft.db)),(43,I.of (J)),(44,I.of (ag)),(45,I.of (aT)),(46,I.gW 255 [I.ptr a7.1,I.ptr a7.2.1,I.ptr a7.2.2]),(68,I.of (s2.1)),(71,I.eq (.pointer (some ⟨jx,0,none⟩))),(72,I.eq (.pointer (some ⟨jx,0 + 2,none⟩)))]) (fun zt=>(⟨some D,.dn⟩ :: ⟨some a3,.var (s2.1:Ref)⟩ :: ⟨some aS,.var (ag:ak)⟩ :: ba s2.2)) (fun zt=> ?_) (fun zT=> ?_)
     ·clear h
      refine bB.step [1,2,5] (by kernel_rfl) rfl ⟨⟨_,rfl,?_⟩,⟨_,rfl,?_⟩,⟨_,rfl,?_⟩,trivial⟩
      ·refine b6 1 fq ?_
       refine aj.nil ?_
       exact ad.any rfl (bB.le (.same rfl (.same rfl (.same rfl (.same rfl (.same rfl (.same rfl (.same rfl (.same rfl (.same rfl (.same rfl (.same rfl (.same rfl (.same rfl (.same rfl (.same rfl (.same rfl (.same rfl (.same rfl (.same rfl (.same rfl (.same rfl (.same rfl (.same rfl .nil))))))))))))))))))))))) (zS ()))
      ·refine aB ?_
       refine aj.nil ?_
       exact ad.any rfl (bB.le (.same rfl (.same rfl (.same rfl (.same rfl (.same rfl (.same rfl (.same rfl (.same rfl (.same rfl (.same rfl (.same rfl (.same rfl (.same rfl (.same rfl (.same rfl (.same rfl (.same rfl (.same rfl (.same rfl (.same rfl (.same rfl (.same rfl (.same rfl .nil))))))))))))))))))))))) (DA ()))
      ·refine aj.pU (k':=Cell.hl ({ xo with fp:=true } :eJ)) 3 rfl ((aL.id eJ).comp tp) (v:=(true:Bool)) ir (ab rfl) (fP true) (l3 Ed) rfl rfl rfl rfl (aG wT) ?_
       refine aj.nil ?_
       exact ad.any rfl (bB.le (.same rfl (.same rfl (.same rfl (.same rfl (.same rfl (.same rfl (.same rfl (.same rfl (.same rfl (.same rfl (.same rfl (.same rfl (.same rfl (.same rfl (.same rfl (.same rfl (.same rfl (.same rfl (.same rfl (.same rfl (.same rfl (.same rfl .nil)))))))))))))))))))))) (zR ()))
     refine bB.cut (γ:=Unit) 6 (Array.mk (true :: false :: true :: true :: false :: false :: false :: false :: false :: [])) (fun zu=> [(0,I.of (J)),(1,I.of (ag)),(2,I.of (aT)),(3,I.of (cB)),(5,I.eq (.pointer (some ⟨aS,0,none⟩))),(8,I.of (false)),(9,I.of (aN)),(10,I.eq (.pointer (some ⟨a3,0,none⟩))),(16,I.of (!al)),(28,I.of (aN.isSome && cF.fp)),(33,I.of (da.db.isNone)),(39,I.of (J)),(40,I.eq (.pointer (some ⟨cK,0,none⟩))),(41,I.eq (.pointer (some ⟨cK,0 + 1,none⟩))),(42,I.of (ft.db)),(43,I.of (J)),(44,I.of (ag)),(45,I.of (aT)),(46,I.gW 255 [I.ptr a7.1,I.ptr a7.2.1,I.ptr a7.2.2]),(68,I.of (s2.1)),(70,I.of (cB)),(71,I.eq (.pointer (some ⟨jx,0,none⟩)))]) (fun zu=>(⟨some D,.dn⟩ :: ⟨some a3,.var (s2.1:Ref)⟩ :: ⟨some aS,.var (ag:ak)⟩ :: ba s2.2)) (fun zu=> ?_) (fun zU=> ?_)
     ·clear h
      refine bB.step [1,4] (by kernel_rfl) rfl ⟨⟨_,rfl,?_⟩,⟨_,rfl,?_⟩,trivial⟩
      ·refine b6 1 fq ?_
       refine aj.nil ?_
       exact ad.any rfl (bB.le (.same rfl (.same rfl (.same rfl (.same rfl (.same rfl (.same rfl (.same rfl (.same rfl (.same rfl (.same rfl (.same rfl (.same rfl (.same rfl (.same rfl (.same rfl (.same rfl (.same rfl (.same rfl (.same rfl (.same rfl (.same rfl (.same rfl (.same rfl .nil))))))))))))))))))))))) (wI ()))
      ·refine aY (aW tO) ?_
       refine aj.nil ?_
       exact ad.any rfl (bB.le (.same rfl (.same rfl (.same rfl (.same rfl (.same rfl (.same rfl (.same rfl (.same rfl (.same rfl (.same rfl (.same rfl (.same rfl (.same rfl (.same rfl (.same rfl (.same rfl (.same rfl (.same rfl (.same rfl (.same rfl (.same rfl (.same rfl (.same rfl .nil))))))))))))))))))))))) (DA ()))
     refine bB.cut (γ:=Unit) 6 (Array.mk (true :: true :: false :: true :: false :: false :: false :: false :: false :: [])) (fun zV=> [(0,I.of (J)),(1,I.of (ag)),(2,I.of (aT)),(3,I.of (cB)),(5,I.eq (.pointer (some ⟨aS,0,none⟩))),(8,I.of (false)),(9,I.of (aN)),(10,I.eq (.pointer (some ⟨a3,0,none⟩))),(16,I.of (!al)),(28,I.of (aN.isSome && cF.fp)),(33,I.of (da.db.isNone)),(39,I.of (J)),(40,I.eq (.pointer (some ⟨cK,0,none⟩))),(41,I.eq (.pointer (some ⟨cK,0 + 1,none⟩))),(42,I.of (ft.db)),(43,I.of (J)),(44,I.of (ag)),(45,I.of (aT)),(46,I.gW 255 [I.ptr a7.1,I.ptr a7.2.1,I.ptr a7.2.2]),(68,I.of (s2.1)),(69,I.of (s2.1)),(71,I.eq (.pointer (some ⟨jx,0,none⟩)))]) (fun zV=>(⟨some D,.dn⟩ :: ⟨some a3,.var (s2.1:Ref)⟩ :: ⟨some aS,.var (ag:ak)⟩ :: ba s2.2)) (fun zV=> ?_) (fun Ap=> ?_)
     ·clear h
      refine bB.step [2,4] (by kernel_rfl) rfl ⟨⟨_,rfl,?_⟩,⟨_,rfl,?_⟩,trivial⟩
      ·refine aB ?_
       refine aj.nil ?_
       exact ad.any rfl (bB.le (.same rfl (.same rfl (.same rfl (.same rfl (.same rfl (.same rfl (.same rfl (.same rfl (.same rfl (.same rfl (.same rfl (.same rfl (.same rfl (.same rfl (.same rfl (.same rfl (.same rfl (.same rfl (.same rfl (.same rfl (.same rfl (.same rfl (.same rfl .nil))))))))))))))))))))))) (wI ()))
      ·refine aY (aW tO) ?_
       refine aj.nil ?_
       exact ad.any rfl (bB.le (.same rfl (.same rfl (.same rfl (.same rfl (.same rfl (.same rfl (.same rfl (.same rfl (.same rfl (.same rfl (.same rfl (.same rfl (.same rfl (.same rfl (.same rfl (.same rfl (.same rfl (.same rfl (.same rfl (.same rfl (.same rfl (.same rfl (.same rfl .nil))))))))))))))))))))))) (zS ()))
     refine bB.cut (γ:=Unit) 6 (Array.mk (true :: true :: true :: false :: false :: false :: false :: false :: false :: [])) (fun zW=> [(0,I.of (J)),(1,I.of (ag)),(2,I.of (aT)),(3,I.of (cB)),(5,I.eq (.pointer (some ⟨aS,0,none⟩))),(8,I.of (false)),(9,I.of (aN)),(10,I.eq (.pointer (some ⟨a3,0,none⟩))),(16,I.of (!al)),(28,I.of (aN.isSome && cF.fp)),(33,I.of (da.db.isNone)),(39,I.of (J)),(40,I.eq (.pointer (some ⟨cK,0,none⟩))),(41,I.eq (.pointer (some ⟨cK,0 + 1,none⟩))),(42,I.of (ft.db)),(43,I.of (J)),(44,I.of (ag)),(45,I.of (aT)),(46,I.gW 255 [I.ptr a7.1,I.ptr a7.2.1,I.ptr a7.2.2]),(68,I.of (s2.1)),(69,I.of (s2.1)),(70,I.of (cB))]) (fun zW=>(⟨some D,.dn⟩ :: ⟨some a3,.var (s2.1:Ref)⟩ :: ⟨some aS,.var (ag:ak)⟩ :: ba s2.2)) (fun zW=> ?_) (fun Aq=> ?_)
     ·clear h
      refine bB.step [3] (by kernel_rfl) rfl ⟨⟨_,rfl,?_⟩,trivial⟩
      ·refine bj (ff (fQ (ab rfl) Ec)) ?_
       refine aj.nil ?_
       exact ad.any rfl (bB.le (.same rfl (.same rfl (.same rfl (.same rfl (.same rfl (.same rfl (.same rfl (.same rfl (.same rfl (.same rfl (.same rfl (.same rfl (.same rfl (.same rfl (.same rfl (.same rfl (.same rfl (.same rfl (.same rfl (.same rfl (.same rfl (.same rfl (.same rfl .nil))))))))))))))))))))))) (wI ()))
     refine bB.cut (γ:=Unit) 7 (Array.mk (false :: true :: true :: false :: false :: false :: false :: false :: false :: [])) (fun zX=> [(0,I.of (J)),(1,I.of (ag)),(2,I.of (aT)),(3,I.of (cB)),(5,I.eq (.pointer (some ⟨aS,0,none⟩))),(8,I.of (false)),(9,I.of (aN)),(10,I.eq (.pointer (some ⟨a3,0,none⟩))),(16,I.of (!al)),(28,I.of (aN.isSome && cF.fp)),(33,I.of (da.db.isNone)),(39,I.of (J)),(40,I.eq (.pointer (some ⟨cK,0,none⟩))),(41,I.eq (.pointer (some ⟨cK,0 + 1,none⟩))),(42,I.of (ft.db)),(43,I.of (J)),(44,I.of (ag)),(45,I.of (aT)),(46,I.gW 255 [I.ptr a7.1,I.ptr a7.2.1,I.ptr a7.2.2]),(69,I.of (s2.1)),(70,I.of (cB))]) (fun zX=>(⟨some D,.dn⟩ :: ⟨some a3,.var (s2.1:Ref)⟩ :: ⟨some aS,.var (ag:ak)⟩ :: ba s2.2)) (fun zX=> ?_) (fun Ar=> ?_)
     ·clear h
      refine bB.step [0] (by kernel_rfl) rfl ⟨⟨_,rfl,?_⟩,trivial⟩
      ·refine b6 1 fq ?_
       refine aj.nil ?_
       exact ad.any rfl (bB.le (.same rfl (.same rfl (.same rfl (.same rfl (.same rfl (.same rfl (.same rfl (.same rfl (.same rfl (.same rfl (.same rfl (.same rfl (.same rfl (.same rfl (.same rfl (.same rfl (.same rfl (.same rfl (.same rfl (.same rfl (.same rfl (.same rfl .nil)))))))))))))))))))))) (Aq ()))
     refine bB.cut (γ:=Unit) 7 (Array.mk (true :: false :: false :: true :: false :: false :: false :: false :: false :: [])) (fun zY=> [(0,I.of (J)),(1,I.of (ag)),(2,I.of (aT)),(3,I.of (cB)),(5,I.eq (.pointer (some ⟨aS,0,none⟩))),(8,I.of (false)),(9,I.of (aN)),(10,I.eq (.pointer (some ⟨a3,0,none⟩))),(16,I.of (!al)),(28,I.of (aN.isSome && cF.fp)),(33,I.of (da.db.isNone)),(39,I.of (J)),(40,I.eq (.pointer (some ⟨cK,0,none⟩))),(41,I.eq (.pointer (some ⟨cK,0 + 1,none⟩))),(42,I.of (ft.db)),(43,I.of (J)),(44,I.of (ag)),(45,I.of (aT)),(46,I.gW 255 [I.ptr a7.1,I.ptr a7.2.1,I.ptr a7.2.2]),(68,I.of (s2.1)),(71,I.eq (.pointer (some ⟨jx,0,none⟩)))]) (fun zY=>(⟨some D,.dn⟩ :: ⟨some a3,.var (s2.1:Ref)⟩ :: ⟨some aS,.var (ag:ak)⟩ :: ba s2.2)) (fun zY=> ?_) (fun DP=> ?_)
     ·clear h
      refine bB.step [1,2,4] (by kernel_rfl) rfl ⟨⟨_,rfl,?_⟩,⟨_,rfl,?_⟩,⟨_,rfl,?_⟩,trivial⟩
      ·refine b6 1 fq ?_
       refine aj.nil ?_
       exact ad.any rfl (bB.le (.same rfl (.same rfl (.same rfl (.same rfl (.same rfl (.same rfl (.same rfl (.same rfl (.same rfl (.same rfl (.same rfl (.same rfl (.same rfl (.same rfl (.same rfl (.same rfl (.same rfl (.same rfl (.same rfl (.same rfl (.same rfl (.same rfl .nil)))))))))))))))))))))) (Ap ()))
      ·refine aB ?_
       refine aj.nil ?_
       exact ad.any rfl (bB.le (.same rfl (.same rfl (.same rfl (.same rfl (.same rfl (.same rfl (.same rfl (.same rfl (.same rfl (.same rfl (.same rfl (.same rfl (.same rfl (.same rfl (.same rfl (.same rfl (.same rfl (.same rfl (.same rfl (.same rfl (.same rfl (.same rfl .nil)))))))))))))))))))))) (zU ()))
      ·refine aY (aW tO) ?_
       refine aj.nil ?_
       exact ad.any rfl (bB.le (.same rfl (.same rfl (.same rfl (.same rfl (.same rfl (.same rfl (.same rfl (.same rfl (.same rfl (.same rfl (.same rfl (.same rfl (.same rfl (.same rfl (.same rfl (.same rfl (.same rfl (.same rfl (.same rfl (.same rfl (.same rfl (.same rfl .nil)))))))))))))))))))))) (zT ()))
     refine bB.cut (γ:=Unit) 7 (Array.mk (true :: false :: true :: false :: false :: false :: false :: false :: false :: [])) (fun zZ=> [(0,I.of (J)),(1,I.of (ag)),(2,I.of (aT)),(3,I.of (cB)),(5,I.eq (.pointer (some ⟨aS,0,none⟩))),(8,I.of (false)),(9,I.of (aN)),(10,I.eq (.pointer (some ⟨a3,0,none⟩))),(16,I.of (!al)),(28,I.of (aN.isSome && cF.fp)),(33,I.of (da.db.isNone)),(39,I.of (J)),(40,I.eq (.pointer (some ⟨cK,0,none⟩))),(41,I.eq (.pointer (some ⟨cK,0 + 1,none⟩))),(42,I.of (ft.db)),(43,I.of (J)),(44,I.of (ag)),(45,I.of (aT)),(46,I.gW 255 [I.ptr a7.1,I.ptr a7.2.1,I.ptr a7.2.2]),(68,I.of (s2.1)),(70,I.of (cB))]) (fun zZ=>(⟨some D,.dn⟩ :: ⟨some a3,.var (s2.1:Ref)⟩ :: ⟨some aS,.var (ag:ak)⟩ :: ba s2.2)) (fun zZ=> ?_) (fun As=> ?_)
     ·clear h
      refine bB.step [1,3] (by kernel_rfl) rfl ⟨⟨_,rfl,?_⟩,⟨_,rfl,?_⟩,trivial⟩
      ·refine b6 1 fq ?_
       refine aj.nil ?_
       exact ad.any rfl (bB.le (.same rfl (.same rfl (.same rfl (.same rfl (.same rfl (.same rfl (.same rfl (.same rfl (.same rfl (.same rfl (.same rfl (.same rfl (.same rfl (.same rfl (.same rfl (.same rfl (.same rfl (.same rfl (.same rfl (.same rfl (.same rfl (.same rfl .nil)))))))))))))))))))))) (Aq ()))
      ·refine bj (ff (fQ (ab rfl) Ec)) ?_
       refine aj.nil ?_
       exact ad.any rfl (bB.le (.same rfl (.same rfl (.same rfl (.same rfl (.same rfl (.same rfl (.same rfl (.same rfl (.same rfl (.same rfl (.same rfl (.same rfl (.same rfl (.same rfl (.same rfl (.same rfl (.same rfl (.same rfl (.same rfl (.same rfl (.same rfl (.same rfl .nil)))))))))))))))))))))) (zU ()))
     refine bB.cut (γ:=Unit) 7 (Array.mk (true :: true :: false :: false :: false :: false :: false :: false :: false :: [])) (fun z0=> [(0,I.of (J)),(1,I.of (ag)),(2,I.of (aT)),(3,I.of (cB)),(5,I.eq (.pointer (some ⟨aS,0,none⟩))),(8,I.of (false)),(9,I.of (aN)),(10,I.eq (.pointer (some ⟨a3,0,none⟩))),(16,I.of (!al)),(28,I.of (aN.isSome && cF.fp)),(33,I.of (da.db.isNone)),(39,I.of (J)),(40,I.eq (.pointer (some ⟨cK,0,none⟩))),(41,I.eq (.pointer (some ⟨cK,0 + 1,none⟩))),(42,I.of (ft.db)),(43,I.of (J)),(44,I.of (ag)),(45,I.of (aT)),(46,I.gW 255 [I.ptr a7.1,I.ptr a7.2.1,I.ptr a7.2.2]),(68,I.of (s2.1)),(69,I.of (s2.1))]) (fun z0=>(⟨some D,.dn⟩ :: ⟨some a3,.var (s2.1:Ref)⟩ :: ⟨some aS,.var (ag:ak)⟩ :: ba s2.2)) (fun z0=> ?_) (fun DQ=> ?_)
     ·clear h
      refine bB.step [2,3] (by kernel_rfl) rfl ⟨⟨_,rfl,?_⟩,⟨_,rfl,?_⟩,trivial⟩
      ·refine aB ?_
       refine aj.nil ?_
       exact ad.any rfl (bB.le (.same rfl (.same rfl (.same rfl (.same rfl (.same rfl (.same rfl (.same rfl (.same rfl (.same rfl (.same rfl (.same rfl (.same rfl (.same rfl (.same rfl (.same rfl (.same rfl (.same rfl (.same rfl (.same rfl (.same rfl (.same rfl (.same rfl .nil)))))))))))))))))))))) (Aq ()))
      ·refine bj (ff (fQ (ab rfl) Ec)) ?_
       refine aj.nil ?_
       exact ad.any rfl (bB.le (.same rfl (.same rfl (.same rfl (.same rfl (.same rfl (.same rfl (.same rfl (.same rfl (.same rfl (.same rfl (.same rfl (.same rfl (.same rfl (.same rfl (.same rfl (.same rfl (.same rfl (.same rfl (.same rfl (.same rfl (.same rfl (.same rfl .nil)))))))))))))))))))))) (Ap ()))
     refine bB.cut (γ:=Unit) 8 (Array.mk (false :: false :: true :: false :: false :: false :: false :: false :: false :: [])) (fun z1=> [(0,I.of (J)),(1,I.of (ag)),(2,I.of (aT)),(3,I.of (cB)),(5,I.eq (.pointer (some ⟨aS,0,none⟩))),(8,I.of (false)),(9,I.of (aN)),(10,I.eq (.pointer (some ⟨a3,0,none⟩))),(16,I.of (!al)),(28,I.of (aN.isSome && cF.fp)),(33,I.of (da.db.isNone)),(39,I.of (J)),(40,I.eq (.pointer (some ⟨cK,0,none⟩))),(41,I.eq (.pointer (some ⟨cK,0 + 1,none⟩))),(42,I.of (ft.db)),(43,I.of (J)),(44,I.of (ag)),(45,I.of (aT)),(46,I.gW 255 [I.ptr a7.1,I.ptr a7.2.1,I.ptr a7.2.2]),(70,I.of (cB))]) (fun z1=>(⟨some D,.dn⟩ :: ⟨some a3,.var (s2.1:Ref)⟩ :: ⟨some aS,.var (ag:ak)⟩ :: ba s2.2)) (fun z1=> ?_) (fun HE=> ?_)
     ·clear h
      refine bB.step [0,1] (by kernel_rfl) rfl ⟨⟨_,rfl,?_⟩,⟨_,rfl,?_⟩,trivial⟩
      ·refine b6 1 fq ?_
       refine aj.nil ?_
       exact ad.any rfl (bB.le (.same rfl (.same rfl (.same rfl (.same rfl (.same rfl (.same rfl (.same rfl (.same rfl (.same rfl (.same rfl (.same rfl (.same rfl (.same rfl (.same rfl (.same rfl (.same rfl (.same rfl (.same rfl (.same rfl (.same rfl (.same rfl .nil))))))))))))))))))))) (As ()))
      ·refine b6 1 fq ?_
       refine aj.nil ?_
       exact ad.any rfl (bB.le (.same rfl (.same rfl (.same rfl (.same rfl (.same rfl (.same rfl (.same rfl (.same rfl (.same rfl (.same rfl (.same rfl (.same rfl (.same rfl (.same rfl (.same rfl (.same rfl (.same rfl (.same rfl (.same rfl (.same rfl (.same rfl .nil))))))))))))))))))))) (Ar ()))
     refine bB.cut (γ:=Unit) 8 (Array.mk (false :: true :: false :: false :: false :: false :: false :: false :: false :: [])) (fun z2=> [(0,I.of (J)),(1,I.of (ag)),(2,I.of (aT)),(3,I.of (cB)),(5,I.eq (.pointer (some ⟨aS,0,none⟩))),(8,I.of (false)),(9,I.of (aN)),(10,I.eq (.pointer (some ⟨a3,0,none⟩))),(16,I.of (!al)),(28,I.of (aN.isSome && cF.fp)),(33,I.of (da.db.isNone)),(39,I.of (J)),(40,I.eq (.pointer (some ⟨cK,0,none⟩))),(41,I.eq (.pointer (some ⟨cK,0 + 1,none⟩))),(42,I.of (ft.db)),(43,I.of (J)),(44,I.of (ag)),(45,I.of (aT)),(46,I.gW 255 [I.ptr a7.1,I.ptr a7.2.1,I.ptr a7.2.2]),(69,I.of (s2.1))]) (fun z2=>(⟨some D,.dn⟩ :: ⟨some a3,.var (s2.1:Ref)⟩ :: ⟨some aS,.var (ag:ak)⟩ :: ba s2.2)) (fun z2=> ?_) (fun HF=> ?_)
     ·clear h
      refine bB.step [0,2] (by kernel_rfl) rfl ⟨⟨_,rfl,?_⟩,⟨_,rfl,?_⟩,trivial⟩
      ·refine b6 1 fq ?_
       refine aj.nil ?_
       exact ad.any rfl (bB.le (.same rfl (.same rfl (.same rfl (.same rfl (.same rfl (.same rfl (.same rfl (.same rfl (.same rfl (.same rfl (.same rfl (.same rfl (.same rfl (.same rfl (.same rfl (.same rfl (.same rfl (.same rfl (.same rfl (.same rfl (.same rfl .nil))))))))))))))))))))) (DQ ()))
      ·refine aB ?_
       refine aj.nil ?_
       exact ad.any rfl (bB.le (.same rfl (.same rfl (.same rfl (.same rfl (.same rfl (.same rfl (.same rfl (.same rfl (.same rfl (.same rfl (.same rfl (.same rfl (.same rfl (.same rfl (.same rfl (.same rfl (.same rfl (.same rfl (.same rfl (.same rfl (.same rfl .nil))))))))))))))))))))) (Ar ()))
     refine bB.cut (γ:=Unit) 8 (Array.mk (true :: false :: false :: false :: false :: false :: false :: false :: false :: [])) (fun z3=> [(0,I.of (J)),(1,I.of (ag)),(2,I.of (aT)),(3,I.of (cB)),(5,I.eq (.pointer (some ⟨aS,0,none⟩))),(8,I.of (false)),(9,I.of (aN)),(10,I.eq (.pointer (some ⟨a3,0,none⟩))),(16,I.of (!al)),(28,I.of (aN.isSome && cF.fp)),(33,I.of (da.db.isNone)),(39,I.of (J)),(40,I.eq (.pointer (some ⟨cK,0,none⟩))),(41,I.eq (.pointer (some ⟨cK,0 + 1,none⟩))),(42,I.of (ft.db)),(43,I.of (J)),(44,I.of (ag)),(45,I.of (aT)),(46,I.gW 255 [I.ptr a7.1,I.ptr a7.2.1,I.ptr a7.2.2]),(68,I.of (s2.1))]) (fun z3=>(⟨some D,.dn⟩ :: ⟨some a3,.var (s2.1:Ref)⟩ :: ⟨some aS,.var (ag:ak)⟩ :: ba s2.2)) (fun z3=> ?_) (fun HG=> ?_)
     ·clear h
      refine bB.step [1,2,3] (by kernel_rfl) rfl ⟨⟨_,rfl,?_⟩,⟨_,rfl,?_⟩,⟨_,rfl,?_⟩,trivial⟩
      ·refine b6 1 fq ?_
       refine aj.nil ?_
       exact ad.any rfl (bB.le (.same rfl (.same rfl (.same rfl (.same rfl (.same rfl (.same rfl (.same rfl (.same rfl (.same rfl (.same rfl (.same rfl (.same rfl (.same rfl (.same rfl (.same rfl (.same rfl (.same rfl (.same rfl (.same rfl (.same rfl (.same rfl .nil))))))))))))))))))))) (DQ ()))
      ·refine aB ?_
       refine aj.nil ?_
       exact ad.any rfl (bB.le (.same rfl (.same rfl (.same rfl (.same rfl (.same rfl (.same rfl (.same rfl (.same rfl (.same rfl (.same rfl (.same rfl (.same rfl (.same rfl (.same rfl (.same rfl (.same rfl (.same rfl (.same rfl (.same rfl (.same rfl (.same rfl .nil))))))))))))))))))))) (As ()))
      ·refine bj (ff (fQ (ab rfl) Ec)) ?_
       refine aj.nil ?_
       exact ad.any rfl (bB.le (.same rfl (.same rfl (.same rfl (.same rfl (.same rfl (.same rfl (.same rfl (.same rfl (.same rfl (.same rfl (.same rfl (.same rfl (.same rfl (.same rfl (.same rfl (.same rfl (.same rfl (.same rfl (.same rfl (.same rfl (.same rfl .nil))))))))))))))))))))) (DP ()))
     refine bB.step [0,1,2] (by kernel_rfl) rfl ⟨⟨_,rfl,?_⟩,⟨_,rfl,?_⟩,⟨_,rfl,?_⟩,trivial⟩
     ·refine b6 1 fq ?_
      refine aj.nil ?_
      exact ad.any rfl (bB.le (.same rfl (.same rfl (.same rfl (.same rfl (.same rfl (.same rfl (.same rfl (.same rfl (.same rfl (.same rfl (.same rfl (.same rfl (.same rfl (.same rfl (.same rfl (.same rfl (.same rfl (.same rfl (.same rfl (.same rfl .nil)))))))))))))))))))) (HG ()))
     ·refine b6 1 fq ?_
      refine aj.nil ?_
      exact ad.any rfl (bB.le (.same rfl (.same rfl (.same rfl (.same rfl (.same rfl (.same rfl (.same rfl (.same rfl (.same rfl (.same rfl (.same rfl (.same rfl (.same rfl (.same rfl (.same rfl (.same rfl (.same rfl (.same rfl (.same rfl (.same rfl .nil)))))))))))))))))))) (HF ()))
     ·refine aB ?_
      refine aj.nil ?_
      exact ad.any rfl (bB.le (.same rfl (.same rfl (.same rfl (.same rfl (.same rfl (.same rfl (.same rfl (.same rfl (.same rfl (.same rfl (.same rfl (.same rfl (.same rfl (.same rfl (.same rfl (.same rfl (.same rfl (.same rfl (.same rfl (.same rfl .nil)))))))))))))))))))) (HE ()))
    ·exact Empty.elim cT
   ·refine ah.cn ?_
    refine aB ?_
    refine gV NH NI (default:eJ) .nil ?_
    refine aj.Ad 1 rfl (Cell.hl (default:eJ)) (fun _=>rfl) (ab rfl) rfl fun eg AJ=> ?_
    replace h:=aM.sj h eg AJ
    refine bj (ff (fQ (ab rfl) gi)) ?_
    refine aY (aW y6) ?_
    obtain⟨Bw,Ee,h⟩:=aM.dd h
    obtain⟨AO,XG,h⟩:=aM.dd h
    refine aj.pU (k':=Cell.j0 ({ Bw with db:=(some eg.1:Ref) } :ga)) 1 rfl ((aL.id ga).comp x4) (v:=((some eg.1:Ref):Ref)) fq (ab rfl) (ab rfl) (om Ee) rfl rfl rfl rfl (aG XG) ?_
    refine aj.nil ?_
    exact dt 0 (hm AO () h)
   ·refine ah.skip ?_
    exact dt 0 (hm hp () h)
end Go.Proofs.YtmnggbjcnoffeaaGreat
namespace Go.Proofs.YtmnggbjcnoffeaaGreat
open Go Gv
set_option linter.unusedVariables false
set_option linter.unusedSimpArgs false
set_option maxRecDepth 100000
set_option maxHeartbeats 2000000
theorem Qp {hp:a9 Cell} {J:et} {ag:aI} {Q:(a9 Cell)→Prop} (h:xV hp J ag Q):cy Tryz.prog 237 [I.of (J),I.of (ag)] ([] ++ ba hp) (δ:= {r:(a9 Cell) // Q r} × Unit) (fun d=>I.cN []) (fun d=> [] ++ ba d.1.1):=by
 unfold xV at h
 refine cy.of Tryz.func237 rfl Tryz.ntmps237 rfl fun W A=> ?_
 refine aC ?_
 refine cf fun aS=> ?_
 refine cf fun a3=> ?_
 refine bZ ?_
 refine b6 1 Dl ?_
 refine aY (aW my) ?_
 refine cb 0 k0 iC ?_
 obtain⟨al,bs,h⟩:=aM.dd h
 refine dc NK (JQ bs) ?_
 refine aB ?_
 refine ez ?_
 refine ez ?_
 refine ez ?_
 refine cx wz fun bH=> ?_
 refine cx dP fun cA=> ?_
 refine b3 1 h7 ?_
 refine b3 0 bN ?_
 refine aK ?_
 refine bG ?_
 refine aC ?_
 refine aY (aW oh) ?_
 refine cb 3 nB nU ?_
 refine b6 1 h7 ?_
 obtain⟨dg,e7,h⟩:=aM.dd h
 obtain⟨cF,fT,h⟩:=aM.dd h
 obtain⟨bl,di,h⟩:=aM.dd h
 refine bj (y4 (r:=bl) Tryz.underlying167 zN Dy (oT (ab rfl) e7) (ab rfl) (gU (n:=4) rfl (oZ fT) rfl) (aG di)) ?_
 refine bj (oV Tryz.underlying321 (ab rfl)) ?_
 refine aJ ?_
 refine ah.zn (γ:=Unit) h (fun bM az=> [(0,I.of (J)),(1,I.of (ag)),(2,I.eq (.pointer (some ⟨aS,0,none⟩))),(3,I.eq (.pointer (some ⟨a3,0,none⟩))),(4,I.eq (.pointer (some ⟨bH,0,none⟩))),(5,I.eq (.pointer (some ⟨cA,0,none⟩))),(6,I.of (al.2.2)),(19,I.of (bl.isNone))]) (fun bM az=>(⟨some cA,.var (al.2.1:ak)⟩ :: ⟨some bH,.var (al.1:Vector ak 4)⟩ :: ⟨some a3,.var (ag:aI)⟩ :: ⟨some aS,.var (J:et)⟩ :: ba bM)) (ab rfl) (fun bM az h=> ?_) (fun hm ar h=> ?_) (fun hm ar h=> ?_)
 ·refine ad.next ?_
  obtain⟨da,ho,h⟩:=aM.dd h
  obtain⟨dm,hn,h⟩:=aM.dd h
  refine ah.draw mixed 8 [some 26,some 27,some 28,some 29,some 30,some 31,some 32,some 33] [[],[0],[],[1,2],[],[],[],[6]] [.val _,.val _,.val _,.val _,.val _,.val _,.val _,.val _] [false,false,false,false,false,false,false,false] (by kernel_rfl) rfl rfl rfl (fun cV=>⟨H1 (aW oh),dy 3 nB nU,e1 1 h7,du fun ay au=>y4 (r:=dm) Tryz.underlying167 zN Dy (oT (ab rfl) e7) (ab rfl) (nj (fun i e q=>au i e q rfl) (gU (n:=4) rfl (oZ ho) rfl)) (aG hn),e1 0 bN,cR,H1 (aW lu),dy 2 kd bE,trivial⟩) fun cV=> ?_
  refine aj.nS 4 0 rfl VX (Q6 h) rfl rfl ⟨ab rfl,ab rfl,ab rfl,ab rfl,trivial⟩ rfl fun⟨⟨aN,h⟩,aF⟩=> ?_
  refine aj.eI (L2:=(⟨some cA,.var (al.2.1:ak)⟩ :: ⟨some bH,.var (al.1:Vector ak 4)⟩ :: ⟨some a3,.var (ag:aI)⟩ :: ⟨some aS,.var (J:et)⟩ :: ba aN.2)) rfl ?_
  refine aj.nil ?_
  refine ad.sM ?_
  exact ad.ox (⟨⟨aN.2,h⟩,()⟩: {r // _} × _) (.cons _ (.cons _ (.cons _ (.cons _ (.refl _))))) rfl rfl
 ·obtain⟨w9,wU,XH⟩:=aM.ex h
  refine ah.NJ mixed 7 (Array.mk (false :: false :: false :: false :: false :: false :: false :: [])) rfl rfl ?_
  refine bB.cut (γ:=Subtype w9) 1 (Array.mk (true :: true :: true :: true :: true :: true :: false :: [])) (fun zv=> [(0,I.of (J)),(1,I.of (ag)),(2,I.eq (.pointer (some ⟨aS,0,none⟩))),(3,I.eq (.pointer (some ⟨a3,0,none⟩))),(4,I.eq (.pointer (some ⟨bH,0,none⟩))),(5,I.eq (.pointer (some ⟨cA,0,none⟩))),(6,I.of (al.2.2)),(7,I.cN [I.of (al.1),I.of (al.2.1),I.of (al.2.2)]),(8,I.of (J)),(9,I.eq (.pointer (some ⟨a3,0 + 0,none⟩))),(10,I.of (ag.b2)),(11,I.cN [I.of (al.1),I.of (al.2.1),I.of (al.2.2)]),(12,I.of (al.1)),(13,I.of (al.2.1)),(14,I.of (al.2.2)),(15,I.eq (.pointer (some ⟨aS,0 + 2,none⟩))),(16,I.of (J.fX)),(17,I.of (al.1)),(18,I.of (bl)),(19,I.of (bl.isNone)),(20,I.eq (.pointer (some ⟨aS,0 + 2,none⟩))),(21,I.of (J.fX)),(22,I.of (al.1)),(23,I.eq (.pointer (some ⟨aS,0 + 1,none⟩))),(24,I.of (J.eR)),(25,I.of (zv.1.1))]) (fun zv=>(⟨some cA,.var (al.2.1:ak)⟩ :: ⟨some bH,.var (al.1:Vector ak 4)⟩ :: ⟨some a3,.var (ag:aI)⟩ :: ⟨some aS,.var (J:et)⟩ :: ba zv.1.2)) (fun zv=> ?_) (fun Hg=> ?_)
  ·obtain⟨a7,nY⟩:=zv
   have h:=XH a7 nY
   refine bB.tail 6 rfl (by kernel_rfl) ?_
   refine aj.eI (L2:=(⟨some cA,.var (al.2.1:ak)⟩ :: ⟨some bH,.var (al.1:Vector ak 4)⟩ :: ⟨some a3,.var (ag:aI)⟩ :: ⟨some aS,.var (J:et)⟩ :: ba a7.2)) rfl ?_
   refine aj.le (E':= [(0,I.of (J)),(1,I.of (ag)),(2,I.eq (.pointer (some ⟨aS,0,none⟩))),(3,I.eq (.pointer (some ⟨a3,0,none⟩))),(4,I.eq (.pointer (some ⟨bH,0,none⟩))),(5,I.eq (.pointer (some ⟨cA,0,none⟩))),(6,I.of (al.2.2)),(7,I.cN [I.of (al.1),I.of (al.2.1),I.of (al.2.2)]),(8,I.of (J)),(9,I.eq (.pointer (some ⟨a3,0 + 0,none⟩))),(10,I.of (ag.b2)),(11,I.cN [I.of (al.1),I.of (al.2.1),I.of (al.2.2)]),(12,I.of (al.1)),(13,I.of (al.2.1)),(14,I.of (al.2.2)),(15,I.eq (.pointer (some ⟨aS,0 + 2,none⟩))),(16,I.of (J.fX)),(17,I.of (al.1)),(18,I.of (bl)),(19,I.of (bl.isNone)),(20,I.eq (.pointer (some ⟨aS,0 + 2,none⟩))),(21,I.of (J.fX)),(22,I.of (al.1)),(23,I.eq (.pointer (some ⟨aS,0 + 1,none⟩))),(24,I.of (J.eR)),(25,I.of (a7.1))]) (.same rfl (.same rfl (.same rfl (.same rfl (.same rfl (.same rfl (.same rfl (.same rfl (.same rfl (.same rfl (.same rfl (.same rfl (.same rfl (.same rfl (.same rfl (.same rfl (.same rfl (.same rfl (.same rfl (.same rfl (.same rfl (.same rfl (.same rfl (.same rfl (.same rfl (.same rfl .nil)))))))))))))))))))))))))) ?_
   obtain⟨ft,lM,h⟩:=aM.dd h
   obtain⟨dV,pa,h⟩:=aM.dd h
   refine aj.G2 (k':=Cell.nm (gH ft al.1 a7.1)) 4 rfl (by first | exact .inl rfl | exact .inr rfl) Tryz.underlying167 zN (oT (ab rfl) e7) (ab rfl) (ab rfl) (oZ lM) rfl rfl rfl (aG pa) ?_
   refine aj.nil ?_
   exact dt 0 (hm dV () h)
  refine bB.cut (γ:=Subtype w9) 2 (Array.mk (true :: false :: true :: true :: true :: true :: false :: [])) (fun zw=> [(0,I.of (J)),(1,I.of (ag)),(2,I.eq (.pointer (some ⟨aS,0,none⟩))),(3,I.eq (.pointer (some ⟨a3,0,none⟩))),(4,I.eq (.pointer (some ⟨bH,0,none⟩))),(5,I.eq (.pointer (some ⟨cA,0,none⟩))),(6,I.of (al.2.2)),(7,I.cN [I.of (al.1),I.of (al.2.1),I.of (al.2.2)]),(8,I.of (J)),(9,I.eq (.pointer (some ⟨a3,0 + 0,none⟩))),(10,I.of (ag.b2)),(11,I.cN [I.of (al.1),I.of (al.2.1),I.of (al.2.2)]),(12,I.of (al.1)),(13,I.of (al.2.1)),(14,I.of (al.2.2)),(15,I.eq (.pointer (some ⟨aS,0 + 2,none⟩))),(16,I.of (J.fX)),(17,I.of (al.1)),(18,I.of (bl)),(19,I.of (bl.isNone)),(20,I.eq (.pointer (some ⟨aS,0 + 2,none⟩))),(22,I.of (al.1)),(23,I.eq (.pointer (some ⟨aS,0 + 1,none⟩))),(24,I.of (J.eR)),(25,I.of (zw.1.1))]) (fun zw=>(⟨some cA,.var (al.2.1:ak)⟩ :: ⟨some bH,.var (al.1:Vector ak 4)⟩ :: ⟨some a3,.var (ag:aI)⟩ :: ⟨some aS,.var (J:et)⟩ :: ba zw.1.2)) (fun zw=> ?_) (fun Hh=> ?_)
  ·refine bB.step [1] (by kernel_rfl) rfl ⟨⟨_,rfl,?_⟩,trivial⟩
   ·refine cb 3 nB nU ?_
    refine aj.nil ?_
    exact ad.any rfl (bB.le (.same rfl (.same rfl (.same rfl (.same rfl (.same rfl (.same rfl (.same rfl (.same rfl (.same rfl (.same rfl (.same rfl (.same rfl (.same rfl (.same rfl (.same rfl (.same rfl (.same rfl (.same rfl (.same rfl (.same rfl (.same rfl (.same rfl (.same rfl (.same rfl (.same rfl (.same rfl .nil)))))))))))))))))))))))))) (Hg zw))
  refine bB.cut (γ:=Subtype w9) 2 (Array.mk (true :: true :: false :: true :: true :: true :: false :: [])) (fun zx=> [(0,I.of (J)),(1,I.of (ag)),(2,I.eq (.pointer (some ⟨aS,0,none⟩))),(3,I.eq (.pointer (some ⟨a3,0,none⟩))),(4,I.eq (.pointer (some ⟨bH,0,none⟩))),(5,I.eq (.pointer (some ⟨cA,0,none⟩))),(6,I.of (al.2.2)),(7,I.cN [I.of (al.1),I.of (al.2.1),I.of (al.2.2)]),(8,I.of (J)),(9,I.eq (.pointer (some ⟨a3,0 + 0,none⟩))),(10,I.of (ag.b2)),(11,I.cN [I.of (al.1),I.of (al.2.1),I.of (al.2.2)]),(12,I.of (al.1)),(13,I.of (al.2.1)),(14,I.of (al.2.2)),(15,I.eq (.pointer (some ⟨aS,0 + 2,none⟩))),(16,I.of (J.fX)),(17,I.of (al.1)),(18,I.of (bl)),(19,I.of (bl.isNone)),(20,I.eq (.pointer (some ⟨aS,0 + 2,none⟩))),(21,I.of (J.fX)),(23,I.eq (.pointer (some ⟨aS,0 + 1,none⟩))),(24,I.of (J.eR)),(25,I.of (zx.1.1))]) (fun zx=>(⟨some cA,.var (al.2.1:ak)⟩ :: ⟨some bH,.var (al.1:Vector ak 4)⟩ :: ⟨some a3,.var (ag:aI)⟩ :: ⟨some aS,.var (J:et)⟩ :: ba zx.1.2)) (fun zx=> ?_) (fun NL=> ?_)
  ·refine bB.step [2] (by kernel_rfl) rfl ⟨⟨_,rfl,?_⟩,trivial⟩
   ·refine b6 1 h7 ?_
    refine aj.nil ?_
    exact ad.any rfl (bB.le (.same rfl (.same rfl (.same rfl (.same rfl (.same rfl (.same rfl (.same rfl (.same rfl (.same rfl (.same rfl (.same rfl (.same rfl (.same rfl (.same rfl (.same rfl (.same rfl (.same rfl (.same rfl (.same rfl (.same rfl (.same rfl (.same rfl (.same rfl (.same rfl (.same rfl (.same rfl .nil)))))))))))))))))))))))))) (Hg zx))
  refine bB.cut (γ:=Unit) 2 (Array.mk (true :: true :: true :: true :: true :: false :: false :: [])) (fun MK=> [(0,I.of (J)),(1,I.of (ag)),(2,I.eq (.pointer (some ⟨aS,0,none⟩))),(3,I.eq (.pointer (some ⟨a3,0,none⟩))),(4,I.eq (.pointer (some ⟨bH,0,none⟩))),(5,I.eq (.pointer (some ⟨cA,0,none⟩))),(6,I.of (al.2.2)),(7,I.cN [I.of (al.1),I.of (al.2.1),I.of (al.2.2)]),(8,I.of (J)),(9,I.eq (.pointer (some ⟨a3,0 + 0,none⟩))),(10,I.of (ag.b2)),(11,I.cN [I.of (al.1),I.of (al.2.1),I.of (al.2.2)]),(12,I.of (al.1)),(13,I.of (al.2.1)),(14,I.of (al.2.2)),(15,I.eq (.pointer (some ⟨aS,0 + 2,none⟩))),(16,I.of (J.fX)),(17,I.of (al.1)),(18,I.of (bl)),(19,I.of (bl.isNone)),(20,I.eq (.pointer (some ⟨aS,0 + 2,none⟩))),(21,I.of (J.fX)),(22,I.of (al.1)),(23,I.eq (.pointer (some ⟨aS,0 + 1,none⟩))),(24,I.of (J.eR))]) (fun MK=>(⟨some cA,.var (al.2.1:ak)⟩ :: ⟨some bH,.var (al.1:Vector ak 4)⟩ :: ⟨some a3,.var (ag:aI)⟩ :: ⟨some aS,.var (J:et)⟩ :: ba hp)) (fun MK=> ?_) (fun Hi=> ?_)
  ·refine bB.step [5] (by kernel_rfl) rfl ⟨⟨_,rfl,?_⟩,trivial⟩
   ·refine aj.nS 4 0 rfl wJ (vQ wU) rfl rfl ⟨ab rfl,trivial⟩ rfl fun⟨⟨a7,nY⟩,_⟩=> ?_
    refine aj.eI (L2:=(⟨some cA,.var (al.2.1:ak)⟩ :: ⟨some bH,.var (al.1:Vector ak 4)⟩ :: ⟨some a3,.var (ag:aI)⟩ :: ⟨some aS,.var (J:et)⟩ :: ba a7.2)) rfl ?_
    refine aj.nil ?_
    exact ad.any rfl (bB.le (.same rfl (.same rfl (.same rfl (.same rfl (.same rfl (.same rfl (.same rfl (.same rfl (.same rfl (.same rfl (.same rfl (.same rfl (.same rfl (.same rfl (.same rfl (.same rfl (.same rfl (.same rfl (.same rfl (.same rfl (.same rfl (.same rfl (.same rfl (.same rfl (.same rfl (.same rfl .nil)))))))))))))))))))))))))) (Hg ⟨a7,nY⟩))
  refine bB.cut (γ:=Subtype w9) 3 (Array.mk (false :: false :: true :: true :: true :: true :: false :: [])) (fun sy=> [(0,I.of (J)),(1,I.of (ag)),(2,I.eq (.pointer (some ⟨aS,0,none⟩))),(3,I.eq (.pointer (some ⟨a3,0,none⟩))),(4,I.eq (.pointer (some ⟨bH,0,none⟩))),(5,I.eq (.pointer (some ⟨cA,0,none⟩))),(6,I.of (al.2.2)),(7,I.cN [I.of (al.1),I.of (al.2.1),I.of (al.2.2)]),(8,I.of (J)),(9,I.eq (.pointer (some ⟨a3,0 + 0,none⟩))),(10,I.of (ag.b2)),(11,I.cN [I.of (al.1),I.of (al.2.1),I.of (al.2.2)]),(12,I.of (al.1)),(13,I.of (al.2.1)),(14,I.of (al.2.2)),(15,I.eq (.pointer (some ⟨aS,0 + 2,none⟩))),(16,I.of (J.fX)),(17,I.of (al.1)),(18,I.of (bl)),(19,I.of (bl.isNone)),(22,I.of (al.1)),(23,I.eq (.pointer (some ⟨aS,0 + 1,none⟩))),(24,I.of (J.eR)),(25,I.of (sy.1.1))]) (fun sy=>(⟨some cA,.var (al.2.1:ak)⟩ :: ⟨some bH,.var (al.1:Vector ak 4)⟩ :: ⟨some a3,.var (ag:aI)⟩ :: ⟨some aS,.var (J:et)⟩ :: ba sy.1.2)) (fun sy=> ?_) (fun wF=> ?_)
  ·refine bB.step [0] (by kernel_rfl) rfl ⟨⟨_,rfl,?_⟩,trivial⟩
   ·refine aY (aW oh) ?_
    refine aj.nil ?_
    exact ad.any rfl (bB.le (.same rfl (.same rfl (.same rfl (.same rfl (.same rfl (.same rfl (.same rfl (.same rfl (.same rfl (.same rfl (.same rfl (.same rfl (.same rfl (.same rfl (.same rfl (.same rfl (.same rfl (.same rfl (.same rfl (.same rfl (.same rfl (.same rfl (.same rfl (.same rfl (.same rfl .nil))))))))))))))))))))))))) (Hh sy))
  refine bB.cut (γ:=Subtype w9) 3 (Array.mk (true :: false :: false :: true :: true :: true :: false :: [])) (fun qX=> [(0,I.of (J)),(1,I.of (ag)),(2,I.eq (.pointer (some ⟨aS,0,none⟩))),(3,I.eq (.pointer (some ⟨a3,0,none⟩))),(4,I.eq (.pointer (some ⟨bH,0,none⟩))),(5,I.eq (.pointer (some ⟨cA,0,none⟩))),(6,I.of (al.2.2)),(7,I.cN [I.of (al.1),I.of (al.2.1),I.of (al.2.2)]),(8,I.of (J)),(9,I.eq (.pointer (some ⟨a3,0 + 0,none⟩))),(10,I.of (ag.b2)),(11,I.cN [I.of (al.1),I.of (al.2.1),I.of (al.2.2)]),(12,I.of (al.1)),(13,I.of (al.2.1)),(14,I.of (al.2.2)),(15,I.eq (.pointer (some ⟨aS,0 + 2,none⟩))),(16,I.of (J.fX)),(17,I.of (al.1)),(18,I.of (bl)),(19,I.of (bl.isNone)),(20,I.eq (.pointer (some ⟨aS,0 + 2,none⟩))),(23,I.eq (.pointer (some ⟨aS,0 + 1,none⟩))),(24,I.of (J.eR)),(25,I.of (qX.1.1))]) (fun qX=>(⟨some cA,.var (al.2.1:ak)⟩ :: ⟨some bH,.var (al.1:Vector ak 4)⟩ :: ⟨some a3,.var (ag:aI)⟩ :: ⟨some aS,.var (J:et)⟩ :: ba qX.1.2)) (fun qX=> ?_) (fun zQ=> ?_)
  ·refine bB.step [1,2] (by kernel_rfl) rfl ⟨⟨_,rfl,?_⟩,⟨_,rfl,?_⟩,trivial⟩
   ·refine cb 3 nB nU ?_
    refine aj.nil ?_
    exact ad.any rfl (bB.le (.same rfl (.same rfl (.same rfl (.same rfl (.same rfl (.same rfl (.same rfl (.same rfl (.same rfl (.same rfl (.same rfl (.same rfl (.same rfl (.same rfl (.same rfl (.same rfl (.same rfl (.same rfl (.same rfl (.same rfl (.same rfl (.same rfl (.same rfl (.same rfl (.same rfl .nil))))))))))))))))))))))))) (NL qX))
   ·refine b6 1 h7 ?_
    refine aj.nil ?_
    exact ad.any rfl (bB.le (.same rfl (.same rfl (.same rfl (.same rfl (.same rfl (.same rfl (.same rfl (.same rfl (.same rfl (.same rfl (.same rfl (.same rfl (.same rfl (.same rfl (.same rfl (.same rfl (.same rfl (.same rfl (.same rfl (.same rfl (.same rfl (.same rfl (.same rfl (.same rfl (.same rfl .nil))))))))))))))))))))))))) (Hh qX))
  refine bB.cut (γ:=Unit) 3 (Array.mk (true :: false :: true :: true :: true :: false :: false :: [])) (fun zo=> [(0,I.of (J)),(1,I.of (ag)),(2,I.eq (.pointer (some ⟨aS,0,none⟩))),(3,I.eq (.pointer (some ⟨a3,0,none⟩))),(4,I.eq (.pointer (some ⟨bH,0,none⟩))),(5,I.eq (.pointer (some ⟨cA,0,none⟩))),(6,I.of (al.2.2)),(7,I.cN [I.of (al.1),I.of (al.2.1),I.of (al.2.2)]),(8,I.of (J)),(9,I.eq (.pointer (some ⟨a3,0 + 0,none⟩))),(10,I.of (ag.b2)),(11,I.cN [I.of (al.1),I.of (al.2.1),I.of (al.2.2)]),(12,I.of (al.1)),(13,I.of (al.2.1)),(14,I.of (al.2.2)),(15,I.eq (.pointer (some ⟨aS,0 + 2,none⟩))),(16,I.of (J.fX)),(17,I.of (al.1)),(18,I.of (bl)),(19,I.of (bl.isNone)),(20,I.eq (.pointer (some ⟨aS,0 + 2,none⟩))),(22,I.of (al.1)),(23,I.eq (.pointer (some ⟨aS,0 + 1,none⟩))),(24,I.of (J.eR))]) (fun zo=>(⟨some cA,.var (al.2.1:ak)⟩ :: ⟨some bH,.var (al.1:Vector ak 4)⟩ :: ⟨some a3,.var (ag:aI)⟩ :: ⟨some aS,.var (J:et)⟩ :: ba hp)) (fun zo=> ?_) (fun wG=> ?_)
  ·refine bB.step [1,5] (by kernel_rfl) rfl ⟨⟨_,rfl,?_⟩,⟨_,rfl,?_⟩,trivial⟩
   ·refine cb 3 nB nU ?_
    refine aj.nil ?_
    exact ad.any rfl (bB.le (.same rfl (.same rfl (.same rfl (.same rfl (.same rfl (.same rfl (.same rfl (.same rfl (.same rfl (.same rfl (.same rfl (.same rfl (.same rfl (.same rfl (.same rfl (.same rfl (.same rfl (.same rfl (.same rfl (.same rfl (.same rfl (.same rfl (.same rfl (.same rfl (.same rfl .nil))))))))))))))))))))))))) (Hi ()))
   ·refine aj.nS 4 0 rfl wJ (vQ wU) rfl rfl ⟨ab rfl,trivial⟩ rfl fun⟨⟨a7,nY⟩,_⟩=> ?_
    refine aj.eI (L2:=(⟨some cA,.var (al.2.1:ak)⟩ :: ⟨some bH,.var (al.1:Vector ak 4)⟩ :: ⟨some a3,.var (ag:aI)⟩ :: ⟨some aS,.var (J:et)⟩ :: ba a7.2)) rfl ?_
    refine aj.nil ?_
    exact ad.any rfl (bB.le (.same rfl (.same rfl (.same rfl (.same rfl (.same rfl (.same rfl (.same rfl (.same rfl (.same rfl (.same rfl (.same rfl (.same rfl (.same rfl (.same rfl (.same rfl (.same rfl (.same rfl (.same rfl (.same rfl (.same rfl (.same rfl (.same rfl (.same rfl (.same rfl (.same rfl .nil))))))))))))))))))))))))) (Hh ⟨a7,nY⟩))
  refine bB.cut (γ:=Unit) 3 (Array.mk (true :: true :: false :: true :: true :: false :: false :: [])) (fun zp=> [(0,I.of (J)),(1,I.of (ag)),(2,I.eq (.pointer (some ⟨aS,0,none⟩))),(3,I.eq (.pointer (some ⟨a3,0,none⟩))),(4,I.eq (.pointer (some ⟨bH,0,none⟩))),(5,I.eq (.pointer (some ⟨cA,0,none⟩))),(6,I.of (al.2.2)),(7,I.cN [I.of (al.1),I.of (al.2.1),I.of (al.2.2)]),(8,I.of (J)),(9,I.eq (.pointer (some ⟨a3,0 + 0,none⟩))),(10,I.of (ag.b2)),(11,I.cN [I.of (al.1),I.of (al.2.1),I.of (al.2.2)]),(12,I.of (al.1)),(13,I.of (al.2.1)),(14,I.of (al.2.2)),(15,I.eq (.pointer (some ⟨aS,0 + 2,none⟩))),(16,I.of (J.fX)),(17,I.of (al.1)),(18,I.of (bl)),(19,I.of (bl.isNone)),(20,I.eq (.pointer (some ⟨aS,0 + 2,none⟩))),(21,I.of (J.fX)),(23,I.eq (.pointer (some ⟨aS,0 + 1,none⟩))),(24,I.of (J.eR))]) (fun zp=>(⟨some cA,.var (al.2.1:ak)⟩ :: ⟨some bH,.var (al.1:Vector ak 4)⟩ :: ⟨some a3,.var (ag:aI)⟩ :: ⟨some aS,.var (J:et)⟩ :: ba hp)) (fun zp=> ?_) (fun wH=> ?_)
  ·refine bB.step [2,5] (by kernel_rfl) rfl ⟨⟨_,rfl,?_⟩,⟨_,rfl,?_⟩,trivial⟩
   ·refine b6 1 h7 ?_
    refine aj.nil ?_
    exact ad.any rfl (bB.le (.same rfl (.same rfl (.same rfl (.same rfl (.same rfl (.same rfl (.same rfl (.same rfl (.same rfl (.same rfl (.same rfl (.same rfl (.same rfl (.same rfl (.same rfl (.same rfl (.same rfl (.same rfl (.same rfl (.same rfl (.same rfl (.same rfl (.same rfl (.same rfl (.same rfl .nil))))))))))))))))))))))))) (Hi ()))
   ·refine aj.nS 4 0 rfl wJ (vQ wU) rfl rfl ⟨ab rfl,trivial⟩ rfl fun⟨⟨a7,nY⟩,_⟩=> ?_
    refine aj.eI (L2:=(⟨some cA,.var (al.2.1:ak)⟩ :: ⟨some bH,.var (al.1:Vector ak 4)⟩ :: ⟨some a3,.var (ag:aI)⟩ :: ⟨some aS,.var (J:et)⟩ :: ba a7.2)) rfl ?_
    refine aj.nil ?_
    exact ad.any rfl (bB.le (.same rfl (.same rfl (.same rfl (.same rfl (.same rfl (.same rfl (.same rfl (.same rfl (.same rfl (.same rfl (.same rfl (.same rfl (.same rfl (.same rfl (.same rfl (.same rfl (.same rfl (.same rfl (.same rfl (.same rfl (.same rfl (.same rfl (.same rfl (.same rfl (.same rfl .nil))))))))))))))))))))))))) (NL ⟨a7,nY⟩))
  refine bB.cut (γ:=Unit) 3 (Array.mk (true :: true :: true :: true :: false :: false :: false :: [])) (fun zq=> [(0,I.of (J)),(1,I.of (ag)),(2,I.eq (.pointer (some ⟨aS,0,none⟩))),(3,I.eq (.pointer (some ⟨a3,0,none⟩))),(4,I.eq (.pointer (some ⟨bH,0,none⟩))),(5,I.eq (.pointer (some ⟨cA,0,none⟩))),(6,I.of (al.2.2)),(7,I.cN [I.of (al.1),I.of (al.2.1),I.of (al.2.2)]),(8,I.of (J)),(9,I.eq (.pointer (some ⟨a3,0 + 0,none⟩))),(10,I.of (ag.b2)),(11,I.cN [I.of (al.1),I.of (al.2.1),I.of (al.2.2)]),(12,I.of (al.1)),(13,I.of (al.2.1)),(14,I.of (al.2.2)),(15,I.eq (.pointer (some ⟨aS,0 + 2,none⟩))),(16,I.of (J.fX)),(17,I.of (al.1)),(18,I.of (bl)),(19,I.of (bl.isNone)),(20,I.eq (.pointer (some ⟨aS,0 + 2,none⟩))),(21,I.of (J.fX)),(22,I.of (al.1)),(23,I.eq (.pointer (some ⟨aS,0 + 1,none⟩)))]) (fun zq=>(⟨some cA,.var (al.2.1:ak)⟩ :: ⟨some bH,.var (al.1:Vector ak 4)⟩ :: ⟨some a3,.var (ag:aI)⟩ :: ⟨some aS,.var (J:et)⟩ :: ba hp)) (fun zq=> ?_) (fun zR=> ?_)
  ·refine bB.step [4] (by kernel_rfl) rfl ⟨⟨_,rfl,?_⟩,trivial⟩
   ·refine cb 3 rX bE ?_
    refine aj.nil ?_
    exact ad.any rfl (bB.le (.same rfl (.same rfl (.same rfl (.same rfl (.same rfl (.same rfl (.same rfl (.same rfl (.same rfl (.same rfl (.same rfl (.same rfl (.same rfl (.same rfl (.same rfl (.same rfl (.same rfl (.same rfl (.same rfl (.same rfl (.same rfl (.same rfl (.same rfl (.same rfl (.same rfl .nil))))))))))))))))))))))))) (Hi ()))
  refine bB.cut (γ:=Subtype w9) 4 (Array.mk (false :: false :: false :: true :: true :: true :: false :: [])) (fun qY=> [(0,I.of (J)),(1,I.of (ag)),(2,I.eq (.pointer (some ⟨aS,0,none⟩))),(3,I.eq (.pointer (some ⟨a3,0,none⟩))),(4,I.eq (.pointer (some ⟨bH,0,none⟩))),(5,I.eq (.pointer (some ⟨cA,0,none⟩))),(6,I.of (al.2.2)),(7,I.cN [I.of (al.1),I.of (al.2.1),I.of (al.2.2)]),(8,I.of (J)),(9,I.eq (.pointer (some ⟨a3,0 + 0,none⟩))),(10,I.of (ag.b2)),(11,I.cN [I.of (al.1),I.of (al.2.1),I.of (al.2.2)]),(12,I.of (al.1)),(13,I.of (al.2.1)),(14,I.of (al.2.2)),(15,I.eq (.pointer (some ⟨aS,0 + 2,none⟩))),(16,I.of (J.fX)),(17,I.of (al.1)),(18,I.of (bl)),(19,I.of (bl.isNone)),(23,I.eq (.pointer (some ⟨aS,0 + 1,none⟩))),(24,I.of (J.eR)),(25,I.of (qY.1.1))]) (fun qY=>(⟨some cA,.var (al.2.1:ak)⟩ :: ⟨some bH,.var (al.1:Vector ak 4)⟩ :: ⟨some a3,.var (ag:aI)⟩ :: ⟨some aS,.var (J:et)⟩ :: ba qY.1.2)) (fun qY=> ?_) (fun DA=> ?_)
  ·refine bB.step [0,2] (by kernel_rfl) rfl ⟨⟨_,rfl,?_⟩,⟨_,rfl,?_⟩,trivial⟩
   ·refine aY (aW oh) ?_
    refine aj.nil ?_
    exact ad.any rfl (bB.le (.same rfl (.same rfl (.same rfl (.same rfl (.same rfl (.same rfl (.same rfl (.same rfl (.same rfl (.same rfl (.same rfl (.same rfl (.same rfl (.same rfl (.same rfl (.same rfl (.same rfl (.same rfl (.same rfl (.same rfl (.same rfl (.same rfl (.same rfl (.same rfl .nil)))))))))))))))))))))))) (zQ qY))
   ·refine b6 1 h7 ?_
    refine aj.nil ?_
    exact ad.any rfl (bB.le (.same rfl (.same rfl (.same rfl (.same rfl (.same rfl (.same rfl (.same rfl (.same rfl (.same rfl (.same rfl (.same rfl (.same rfl (.same rfl (.same rfl (.same rfl (.same rfl (.same rfl (.same rfl (.same rfl (.same rfl (.same rfl (.same rfl (.same rfl (.same rfl .nil)))))))))))))))))))))))) (wF qY))
  refine bB.cut (γ:=Unit) 4 (Array.mk (false :: false :: true :: true :: true :: false :: false :: [])) (fun zr=> [(0,I.of (J)),(1,I.of (ag)),(2,I.eq (.pointer (some ⟨aS,0,none⟩))),(3,I.eq (.pointer (some ⟨a3,0,none⟩))),(4,I.eq (.pointer (some ⟨bH,0,none⟩))),(5,I.eq (.pointer (some ⟨cA,0,none⟩))),(6,I.of (al.2.2)),(7,I.cN [I.of (al.1),I.of (al.2.1),I.of (al.2.2)]),(8,I.of (J)),(9,I.eq (.pointer (some ⟨a3,0 + 0,none⟩))),(10,I.of (ag.b2)),(11,I.cN [I.of (al.1),I.of (al.2.1),I.of (al.2.2)]),(12,I.of (al.1)),(13,I.of (al.2.1)),(14,I.of (al.2.2)),(15,I.eq (.pointer (some ⟨aS,0 + 2,none⟩))),(16,I.of (J.fX)),(17,I.of (al.1)),(18,I.of (bl)),(19,I.of (bl.isNone)),(22,I.of (al.1)),(23,I.eq (.pointer (some ⟨aS,0 + 1,none⟩))),(24,I.of (J.eR))]) (fun zr=>(⟨some cA,.var (al.2.1:ak)⟩ :: ⟨some bH,.var (al.1:Vector ak 4)⟩ :: ⟨some a3,.var (ag:aI)⟩ :: ⟨some aS,.var (J:et)⟩ :: ba hp)) (fun zr=> ?_) (fun zS=> ?_)
  ·refine bB.step [0,5] (by kernel_rfl) rfl ⟨⟨_,rfl,?_⟩,⟨_,rfl,?_⟩,trivial⟩
   ·refine aY (aW oh) ?_
    refine aj.nil ?_
    exact ad.any rfl (bB.le (.same rfl (.same rfl (.same rfl (.same rfl (.same rfl (.same rfl (.same rfl (.same rfl (.same rfl (.same rfl (.same rfl (.same rfl (.same rfl (.same rfl (.same rfl (.same rfl (.same rfl (.same rfl (.same rfl (.same rfl (.same rfl (.same rfl (.same rfl (.same rfl .nil)))))))))))))))))))))))) (wG ()))
   ·refine aj.nS 4 0 rfl wJ (vQ wU) rfl rfl ⟨ab rfl,trivial⟩ rfl fun⟨⟨a7,nY⟩,_⟩=> ?_
    refine aj.eI (L2:=(⟨some cA,.var (al.2.1:ak)⟩ :: ⟨some bH,.var (al.1:Vector ak 4)⟩ :: ⟨some a3,.var (ag:aI)⟩ :: ⟨some aS,.var (J:et)⟩ :: ba a7.2)) rfl ?_
    refine aj.nil ?_
    exact ad.any rfl (bB.le (.same rfl (.same rfl (.same rfl (.same rfl (.same rfl (.same rfl (.same rfl (.same rfl (.same rfl (.same rfl (.same rfl (.same rfl (.same rfl (.same rfl (.same rfl (.same rfl (.same rfl (.same rfl (.same rfl (.same rfl (.same rfl (.same rfl (.same rfl (.same rfl .nil)))))))))))))))))))))))) (wF ⟨a7,nY⟩))
  refine bB.cut (γ:=Unit) 4 (Array.mk (true :: false :: false :: true :: true :: false :: false :: [])) (fun zs=> [(0,I.of (J)),(1,I.of (ag)),(2,I.eq (.pointer (some ⟨aS,0,none⟩))),(3,I.eq (.pointer (some ⟨a3,0,none⟩))),(4,I.eq (.pointer (some ⟨bH,0,none⟩))),(5,I.eq (.pointer (some ⟨cA,0,none⟩))),(6,I.of (al.2.2)),(7,I.cN [I.of (al.1),I.of (al.2.1),I.of (al.2.2)]),(8,I.of (J)),(9,I.eq (.pointer (some ⟨a3,0 + 0,none⟩))),(10,I.of (ag.b2)),(11,I.cN [I.of (al.1),I.of (al.2.1),I.of (al.2.2)]),(12,I.of (al.1)),(13,I.of (al.2.1)),(14,I.of (al.2.2)),(15,I.eq (.pointer (some ⟨aS,0 + 2,none⟩))),(16,I.of (J.fX)),(17,I.of (al.1)),(18,I.of (bl)),(19,I.of (bl.isNone)),(20,I.eq (.pointer (some ⟨aS,0 + 2,none⟩))),(23,I.eq (.pointer (some ⟨aS,0 + 1,none⟩))),(24,I.of (J.eR))]) (fun zs=>(⟨some cA,.var (al.2.1:ak)⟩ :: ⟨some bH,.var (al.1:Vector ak 4)⟩ :: ⟨some a3,.var (ag:aI)⟩ :: ⟨some aS,.var (J:et)⟩ :: ba hp)) (fun zs=> ?_) (fun wI=> ?_)
  ·refine bB.step [1,2,5] (by kernel_rfl) rfl ⟨⟨_,rfl,?_⟩,⟨_,rfl,?_⟩,⟨_,rfl,?_⟩,trivial⟩
   ·refine cb 3 nB nU ?_
    refine aj.nil ?_
    exact ad.any rfl (bB.le (.same rfl (.same rfl (.same rfl (.same rfl (.same rfl (.same rfl (.same rfl (.same rfl (.same rfl (.same rfl (.same rfl (.same rfl (.same rfl (.same rfl (.same rfl (.same rfl (.same rfl (.same rfl (.same rfl (.same rfl (.same rfl (.same rfl (.same rfl (.same rfl .nil)))))))))))))))))))))))) (wH ()))
   ·refine b6 1 h7 ?_
    refine aj.nil ?_
    exact ad.any rfl (bB.le (.same rfl (.same rfl (.same rfl (.same rfl (.same rfl (.same rfl (.same rfl (.same rfl (.same rfl (.same rfl (.same rfl (.same rfl (.same rfl (.same rfl (.same rfl (.same rfl (.same rfl (.same rfl (.same rfl (.same rfl (.same rfl (.same rfl (.same rfl (.same rfl .nil)))))))))))))))))))))))) (wG ()))
   ·refine aj.nS 4 0 rfl wJ (vQ wU) rfl rfl ⟨ab rfl,trivial⟩ rfl fun⟨⟨a7,nY⟩,_⟩=> ?_
    refine aj.eI (L2:=(⟨some cA,.var (al.2.1:ak)⟩ :: ⟨some bH,.var (al.1:Vector ak 4)⟩ :: ⟨some a3,.var (ag:aI)⟩ :: ⟨some aS,.var (J:et)⟩ :: ba a7.2)) rfl ?_
    refine aj.nil ?_
    exact ad.any rfl (bB.le (.same rfl (.same rfl (.same rfl (.same rfl (.same rfl (.same rfl (.same rfl (.same rfl (.same rfl (.same rfl (.same rfl (.same rfl (.same rfl (.same rfl (.same rfl (.same rfl (.same rfl (.same rfl (.same rfl (.same rfl (.same rfl (.same rfl (.same rfl (.same rfl .nil)))))))))))))))))))))))) (zQ ⟨a7,nY⟩))
  refine bB.cut (γ:=Unit) 4 (Array.mk (true :: false :: true :: true :: false :: false :: false :: [])) (fun zt=> [(0,I.of (J)),(1,I.of (ag)),(2,I.eq (.pointer (some ⟨aS,0,none⟩))),(3,I.eq (.pointer (some ⟨a3,0,none⟩))),(4,I.eq (.pointer (some ⟨bH,0,none⟩))),(5,I.eq (.pointer (some ⟨cA,0,none⟩))),(6,I.of (al.2.2)),(7,I.cN [I.of (al.1),I.of (al.2.1),I.of (al.2.2)]),(8,I.of (J)),(9,I.eq (.pointer (some ⟨a3,0 + 0,none⟩))),(10,I.of (ag.b2)),(11,I.cN [I.of (al.1),I.of (al.2.1),I.of (al.2.2)]),(12,I.of (al.1)),(13,I.of (al.2.1)),(14,I.of (al.2.2)),(15,I.eq (.pointer (some ⟨aS,0 + 2,none⟩))),(16,I.of (J.fX)),(17,I.of (al.1)),(18,I.of (bl)),(19,I.of (bl.isNone)),(20,I.eq (.pointer (some ⟨aS,0 + 2,none⟩))),(22,I.of (al.1)),(23,I.eq (.pointer (some ⟨aS,0 + 1,none⟩)))]) (fun zt=>(⟨some cA,.var (al.2.1:ak)⟩ :: ⟨some bH,.var (al.1:Vector ak 4)⟩ :: ⟨some a3,.var (ag:aI)⟩ :: ⟨some aS,.var (J:et)⟩ :: ba hp)) (fun zt=> ?_) (fun zT=> ?_)
  ·refine bB.step [1,4] (by kernel_rfl) rfl ⟨⟨_,rfl,?_⟩,⟨_,rfl,?_⟩,trivial⟩
   ·refine cb 3 nB nU ?_
    refine aj.nil ?_
    exact ad.any rfl (bB.le (.same rfl (.same rfl (.same rfl (.same rfl (.same rfl (.same rfl (.same rfl (.same rfl (.same rfl (.same rfl (.same rfl (.same rfl (.same rfl (.same rfl (.same rfl (.same rfl (.same rfl (.same rfl (.same rfl (.same rfl (.same rfl (.same rfl (.same rfl (.same rfl .nil)))))))))))))))))))))))) (zR ()))
   ·refine cb 3 rX bE ?_
    refine aj.nil ?_
    exact ad.any rfl (bB.le (.same rfl (.same rfl (.same rfl (.same rfl (.same rfl (.same rfl (.same rfl (.same rfl (.same rfl (.same rfl (.same rfl (.same rfl (.same rfl (.same rfl (.same rfl (.same rfl (.same rfl (.same rfl (.same rfl (.same rfl (.same rfl (.same rfl (.same rfl (.same rfl .nil)))))))))))))))))))))))) (wG ()))
  refine bB.cut (γ:=Unit) 4 (Array.mk (true :: true :: false :: true :: false :: false :: false :: [])) (fun zu=> [(0,I.of (J)),(1,I.of (ag)),(2,I.eq (.pointer (some ⟨aS,0,none⟩))),(3,I.eq (.pointer (some ⟨a3,0,none⟩))),(4,I.eq (.pointer (some ⟨bH,0,none⟩))),(5,I.eq (.pointer (some ⟨cA,0,none⟩))),(6,I.of (al.2.2)),(7,I.cN [I.of (al.1),I.of (al.2.1),I.of (al.2.2)]),(8,I.of (J)),(9,I.eq (.pointer (some ⟨a3,0 + 0,none⟩))),(10,I.of (ag.b2)),(11,I.cN [I.of (al.1),I.of (al.2.1),I.of (al.2.2)]),(12,I.of (al.1)),(13,I.of (al.2.1)),(14,I.of (al.2.2)),(15,I.eq (.pointer (some ⟨aS,0 + 2,none⟩))),(16,I.of (J.fX)),(17,I.of (al.1)),(18,I.of (bl)),(19,I.of (bl.isNone)),(20,I.eq (.pointer (some ⟨aS,0 + 2,none⟩))),(21,I.of (J.fX)),(23,I.eq (.pointer (some ⟨aS,0 + 1,none⟩)))]) (fun zu=>(⟨some cA,.var (al.2.1:ak)⟩ :: ⟨some bH,.var (al.1:Vector ak 4)⟩ :: ⟨some a3,.var (ag:aI)⟩ :: ⟨some aS,.var (J:et)⟩ :: ba hp)) (fun zu=> ?_) (fun zU=> ?_)
  ·refine bB.step [2,4] (by kernel_rfl) rfl ⟨⟨_,rfl,?_⟩,⟨_,rfl,?_⟩,trivial⟩
   ·refine b6 1 h7 ?_
    refine aj.nil ?_
    exact ad.any rfl (bB.le (.same rfl (.same rfl (.same rfl (.same rfl (.same rfl (.same rfl (.same rfl (.same rfl (.same rfl (.same rfl (.same rfl (.same rfl (.same rfl (.same rfl (.same rfl (.same rfl (.same rfl (.same rfl (.same rfl (.same rfl (.same rfl (.same rfl (.same rfl (.same rfl .nil)))))))))))))))))))))))) (zR ()))
   ·refine cb 3 rX bE ?_
    refine aj.nil ?_
    exact ad.any rfl (bB.le (.same rfl (.same rfl (.same rfl (.same rfl (.same rfl (.same rfl (.same rfl (.same rfl (.same rfl (.same rfl (.same rfl (.same rfl (.same rfl (.same rfl (.same rfl (.same rfl (.same rfl (.same rfl (.same rfl (.same rfl (.same rfl (.same rfl (.same rfl (.same rfl .nil)))))))))))))))))))))))) (wH ()))
  refine bB.cut (γ:=Unit) 4 (Array.mk (true :: true :: true :: false :: false :: false :: false :: [])) (fun zV=> [(0,I.of (J)),(1,I.of (ag)),(2,I.eq (.pointer (some ⟨aS,0,none⟩))),(3,I.eq (.pointer (some ⟨a3,0,none⟩))),(4,I.eq (.pointer (some ⟨bH,0,none⟩))),(5,I.eq (.pointer (some ⟨cA,0,none⟩))),(6,I.of (al.2.2)),(7,I.cN [I.of (al.1),I.of (al.2.1),I.of (al.2.2)]),(8,I.of (J)),(9,I.eq (.pointer (some ⟨a3,0 + 0,none⟩))),(10,I.of (ag.b2)),(11,I.cN [I.of (al.1),I.of (al.2.1),I.of (al.2.2)]),(12,I.of (al.1)),(13,I.of (al.2.1)),(14,I.of (al.2.2)),(15,I.eq (.pointer (some ⟨aS,0 + 2,none⟩))),(16,I.of (J.fX)),(17,I.of (al.1)),(18,I.of (bl)),(19,I.of (bl.isNone)),(20,I.eq (.pointer (some ⟨aS,0 + 2,none⟩))),(21,I.of (J.fX)),(22,I.of (al.1))]) (fun zV=>(⟨some cA,.var (al.2.1:ak)⟩ :: ⟨some bH,.var (al.1:Vector ak 4)⟩ :: ⟨some a3,.var (ag:aI)⟩ :: ⟨some aS,.var (J:et)⟩ :: ba hp)) (fun zV=> ?_) (fun Ap=> ?_)
  ·refine bB.step [3] (by kernel_rfl) rfl ⟨⟨_,rfl,?_⟩,trivial⟩
   ·refine aY (aW tP) ?_
    refine aj.nil ?_
    exact ad.any rfl (bB.le (.same rfl (.same rfl (.same rfl (.same rfl (.same rfl (.same rfl (.same rfl (.same rfl (.same rfl (.same rfl (.same rfl (.same rfl (.same rfl (.same rfl (.same rfl (.same rfl (.same rfl (.same rfl (.same rfl (.same rfl (.same rfl (.same rfl (.same rfl (.same rfl .nil)))))))))))))))))))))))) (zR ()))
  refine bB.cut (γ:=Unit) 5 (Array.mk (false :: false :: false :: true :: true :: false :: false :: [])) (fun zW=> [(0,I.of (J)),(1,I.of (ag)),(2,I.eq (.pointer (some ⟨aS,0,none⟩))),(3,I.eq (.pointer (some ⟨a3,0,none⟩))),(4,I.eq (.pointer (some ⟨bH,0,none⟩))),(5,I.eq (.pointer (some ⟨cA,0,none⟩))),(6,I.of (al.2.2)),(7,I.cN [I.of (al.1),I.of (al.2.1),I.of (al.2.2)]),(8,I.of (J)),(9,I.eq (.pointer (some ⟨a3,0 + 0,none⟩))),(10,I.of (ag.b2)),(11,I.cN [I.of (al.1),I.of (al.2.1),I.of (al.2.2)]),(12,I.of (al.1)),(13,I.of (al.2.1)),(14,I.of (al.2.2)),(15,I.eq (.pointer (some ⟨aS,0 + 2,none⟩))),(16,I.of (J.fX)),(17,I.of (al.1)),(18,I.of (bl)),(19,I.of (bl.isNone)),(23,I.eq (.pointer (some ⟨aS,0 + 1,none⟩))),(24,I.of (J.eR))]) (fun zW=>(⟨some cA,.var (al.2.1:ak)⟩ :: ⟨some bH,.var (al.1:Vector ak 4)⟩ :: ⟨some a3,.var (ag:aI)⟩ :: ⟨some aS,.var (J:et)⟩ :: ba hp)) (fun zW=> ?_) (fun Aq=> ?_)
  ·refine bB.step [0,2,5] (by kernel_rfl) rfl ⟨⟨_,rfl,?_⟩,⟨_,rfl,?_⟩,⟨_,rfl,?_⟩,trivial⟩
   ·refine aY (aW oh) ?_
    refine aj.nil ?_
    exact ad.any rfl (bB.le (.same rfl (.same rfl (.same rfl (.same rfl (.same rfl (.same rfl (.same rfl (.same rfl (.same rfl (.same rfl (.same rfl (.same rfl (.same rfl (.same rfl (.same rfl (.same rfl (.same rfl (.same rfl (.same rfl (.same rfl (.same rfl (.same rfl (.same rfl .nil))))))))))))))))))))))) (wI ()))
   ·refine b6 1 h7 ?_
    refine aj.nil ?_
    exact ad.any rfl (bB.le (.same rfl (.same rfl (.same rfl (.same rfl (.same rfl (.same rfl (.same rfl (.same rfl (.same rfl (.same rfl (.same rfl (.same rfl (.same rfl (.same rfl (.same rfl (.same rfl (.same rfl (.same rfl (.same rfl (.same rfl (.same rfl (.same rfl (.same rfl .nil))))))))))))))))))))))) (zS ()))
   ·refine aj.nS 4 0 rfl wJ (vQ wU) rfl rfl ⟨ab rfl,trivial⟩ rfl fun⟨⟨a7,nY⟩,_⟩=> ?_
    refine aj.eI (L2:=(⟨some cA,.var (al.2.1:ak)⟩ :: ⟨some bH,.var (al.1:Vector ak 4)⟩ :: ⟨some a3,.var (ag:aI)⟩ :: ⟨some aS,.var (J:et)⟩ :: ba a7.2)) rfl ?_
    refine aj.nil ?_
    exact ad.any rfl (bB.le (.same rfl (.same rfl (.same rfl (.same rfl (.same rfl (.same rfl (.same rfl (.same rfl (.same rfl (.same rfl (.same rfl (.same rfl (.same rfl (.same rfl (.same rfl (.same rfl (.same rfl (.same rfl (.same rfl (.same rfl (.same rfl (.same rfl (.same rfl .nil))))))))))))))))))))))) (DA ⟨a7,nY⟩))
  refine bB.cut (γ:=Unit) 5 (Array.mk (false :: false :: true :: true :: false :: false :: false :: [])) (fun zX=> [(0,I.of (J)),(1,I.of (ag)),(2,I.eq (.pointer (some ⟨aS,0,none⟩))),(3,I.eq (.pointer (some ⟨a3,0,none⟩))),(4,I.eq (.pointer (some ⟨bH,0,none⟩))),(5,I.eq (.pointer (some ⟨cA,0,none⟩))),(6,I.of (al.2.2)),(7,I.cN [I.of (al.1),I.of (al.2.1),I.of (al.2.2)]),(8,I.of (J)),(9,I.eq (.pointer (some ⟨a3,0 + 0,none⟩))),(10,I.of (ag.b2)),(11,I.cN [I.of (al.1),I.of (al.2.1),I.of (al.2.2)]),(12,I.of (al.1)),(13,I.of (al.2.1)),(14,I.of (al.2.2)),(15,I.eq (.pointer (some ⟨aS,0 + 2,none⟩))),(16,I.of (J.fX)),(17,I.of (al.1)),(18,I.of (bl)),(19,I.of (bl.isNone)),(22,I.of (al.1)),(23,I.eq (.pointer (some ⟨aS,0 + 1,none⟩)))]) (fun zX=>(⟨some cA,.var (al.2.1:ak)⟩ :: ⟨some bH,.var (al.1:Vector ak 4)⟩ :: ⟨some a3,.var (ag:aI)⟩ :: ⟨some aS,.var (J:et)⟩ :: ba hp)) (fun zX=> ?_) (fun Ar=> ?_)
  ·refine bB.step [0,4] (by kernel_rfl) rfl ⟨⟨_,rfl,?_⟩,⟨_,rfl,?_⟩,trivial⟩
   ·refine aY (aW oh) ?_
    refine aj.nil ?_
    exact ad.any rfl (bB.le (.same rfl (.same rfl (.same rfl (.same rfl (.same rfl (.same rfl (.same rfl (.same rfl (.same rfl (.same rfl (.same rfl (.same rfl (.same rfl (.same rfl (.same rfl (.same rfl (.same rfl (.same rfl (.same rfl (.same rfl (.same rfl (.same rfl (.same rfl .nil))))))))))))))))))))))) (zT ()))
   ·refine cb 3 rX bE ?_
    refine aj.nil ?_
    exact ad.any rfl (bB.le (.same rfl (.same rfl (.same rfl (.same rfl (.same rfl (.same rfl (.same rfl (.same rfl (.same rfl (.same rfl (.same rfl (.same rfl (.same rfl (.same rfl (.same rfl (.same rfl (.same rfl (.same rfl (.same rfl (.same rfl (.same rfl (.same rfl (.same rfl .nil))))))))))))))))))))))) (zS ()))
  refine bB.cut (γ:=Unit) 5 (Array.mk (true :: false :: false :: true :: false :: false :: false :: [])) (fun zY=> [(0,I.of (J)),(1,I.of (ag)),(2,I.eq (.pointer (some ⟨aS,0,none⟩))),(3,I.eq (.pointer (some ⟨a3,0,none⟩))),(4,I.eq (.pointer (some ⟨bH,0,none⟩))),(5,I.eq (.pointer (some ⟨cA,0,none⟩))),(6,I.of (al.2.2)),(7,I.cN [I.of (al.1),I.of (al.2.1),I.of (al.2.2)]),(8,I.of (J)),(9,I.eq (.pointer (some ⟨a3,0 + 0,none⟩))),(10,I.of (ag.b2)),(11,I.cN [I.of (al.1),I.of (al.2.1),I.of (al.2.2)]),(12,I.of (al.1)),(13,I.of (al.2.1)),(14,I.of (al.2.2)),(15,I.eq (.pointer (some ⟨aS,0 + 2,none⟩))),(16,I.of (J.fX)),(17,I.of (al.1)),(18,I.of (bl)),(19,I.of (bl.isNone)),(20,I.eq (.pointer (some ⟨aS,0 + 2,none⟩))),(23,I.eq (.pointer (some ⟨aS,0 + 1,none⟩)))]) (fun zY=>(⟨some cA,.var (al.2.1:ak)⟩ :: ⟨some bH,.var (al.1:Vector ak 4)⟩ :: ⟨some a3,.var (ag:aI)⟩ :: ⟨some aS,.var (J:et)⟩ :: ba hp)) (fun zY=> ?_) (fun DP=> ?_)
  ·refine bB.step [1,2,4] (by kernel_rfl) rfl ⟨⟨_,rfl,?_⟩,⟨_,rfl,?_⟩,⟨_,rfl,?_⟩,trivial⟩
   ·refine cb 3 nB nU ?_
    refine aj.nil ?_
    exact ad.any rfl (bB.le (.same rfl (.same rfl (.same rfl (.same rfl (.same rfl (.same rfl (.same rfl (.same rfl (.same rfl (.same rfl (.same rfl (.same rfl (.same rfl (.same rfl (.same rfl (.same rfl (.same rfl (.same rfl (.same rfl (.same rfl (.same rfl (.same rfl (.same rfl .nil))))))))))))))))))))))) (zU ()))
   ·refine b6 1 h7 ?_
    refine aj.nil ?_
    exact ad.any rfl (bB.le (.same rfl (.same rfl (.same rfl (.same rfl (.same rfl (.same rfl (.same rfl (.same rfl (.same rfl (.same rfl (.same rfl (.same rfl (.same rfl (.same rfl (.same rfl (.same rfl (.same rfl (.same rfl (.same rfl (.same rfl (.same rfl (.same rfl (.same rfl .nil))))))))))))))))))))))) (zT ()))
   ·refine cb 3 rX bE ?_
    refine aj.nil ?_
    exact ad.any rfl (bB.le (.same rfl (.same rfl (.same rfl (.same rfl (.same rfl (.same rfl (.same rfl (.same rfl (.same rfl (.same rfl (.same rfl (.same rfl (.same rfl (.same rfl (.same rfl (.same rfl (.same rfl (.same rfl (.same rfl (.same rfl (.same rfl (.same rfl (.same rfl .nil))))))))))))))))))))))) (wI ()))
  refine bB.cut (γ:=Unit) 5 (Array.mk (true :: false :: true :: false :: false :: false :: false :: [])) (fun zZ=> [(0,I.of (J)),(1,I.of (ag)),(2,I.eq (.pointer (some ⟨aS,0,none⟩))),(3,I.eq (.pointer (some ⟨a3,0,none⟩))),(4,I.eq (.pointer (some ⟨bH,0,none⟩))),(5,I.eq (.pointer (some ⟨cA,0,none⟩))),(6,I.of (al.2.2)),(7,I.cN [I.of (al.1),I.of (al.2.1),I.of (al.2.2)]),(8,I.of (J)),(9,I.eq (.pointer (some ⟨a3,0 + 0,none⟩))),(10,I.of (ag.b2)),(11,I.cN [I.of (al.1),I.of (al.2.1),I.of (al.2.2)]),(12,I.of (al.1)),(13,I.of (al.2.1)),(14,I.of (al.2.2)),(15,I.eq (.pointer (some ⟨aS,0 + 2,none⟩))),(16,I.of (J.fX)),(17,I.of (al.1)),(18,I.of (bl)),(19,I.of (bl.isNone)),(20,I.eq (.pointer (some ⟨aS,0 + 2,none⟩))),(22,I.of (al.1))]) (fun zZ=>(⟨some cA,.var (al.2.1:ak)⟩ :: ⟨some bH,.var (al.1:Vector ak 4)⟩ :: ⟨some a3,.var (ag:aI)⟩ :: ⟨some aS,.var (J:et)⟩ :: ba hp)) (fun zZ=> ?_) (fun As=> ?_)
  ·refine bB.step [1,3] (by kernel_rfl) rfl ⟨⟨_,rfl,?_⟩,⟨_,rfl,?_⟩,trivial⟩
   ·refine cb 3 nB nU ?_
    refine aj.nil ?_
    exact ad.any rfl (bB.le (.same rfl (.same rfl (.same rfl (.same rfl (.same rfl (.same rfl (.same rfl (.same rfl (.same rfl (.same rfl (.same rfl (.same rfl (.same rfl (.same rfl (.same rfl (.same rfl (.same rfl (.same rfl (.same rfl (.same rfl (.same rfl (.same rfl (.same rfl .nil))))))))))))))))))))))) (Ap ()))
   ·refine aY (aW tP) ?_
    refine aj.nil ?_
    exact ad.any rfl (bB.le (.same rfl (.same rfl (.same rfl (.same rfl (.same rfl (.same rfl (.same rfl (.same rfl (.same rfl (.same rfl (.same rfl (.same rfl (.same rfl (.same rfl (.same rfl (.same rfl (.same rfl (.same rfl (.same rfl (.same rfl (.same rfl (.same rfl (.same rfl .nil))))))))))))))))))))))) (zT ()))
  refine bB.cut (γ:=Unit) 5 (Array.mk (true :: true :: false :: false :: false :: false :: false :: [])) (fun z0=> [(0,I.of (J)),(1,I.of (ag)),(2,I.eq (.pointer (some ⟨aS,0,none⟩))),(3,I.eq (.pointer (some ⟨a3,0,none⟩))),(4,I.eq (.pointer (some ⟨bH,0,none⟩))),(5,I.eq (.pointer (some ⟨cA,0,none⟩))),(6,I.of (al.2.2)),(7,I.cN [I.of (al.1),I.of (al.2.1),I.of (al.2.2)]),(8,I.of (J)),(9,I.eq (.pointer (some ⟨a3,0 + 0,none⟩))),(10,I.of (ag.b2)),(11,I.cN [I.of (al.1),I.of (al.2.1),I.of (al.2.2)]),(12,I.of (al.1)),(13,I.of (al.2.1)),(14,I.of (al.2.2)),(15,I.eq (.pointer (some ⟨aS,0 + 2,none⟩))),(16,I.of (J.fX)),(17,I.of (al.1)),(18,I.of (bl)),(19,I.of (bl.isNone)),(20,I.eq (.pointer (some ⟨aS,0 + 2,none⟩))),(21,I.of (J.fX))]) (fun z0=>(⟨some cA,.var (al.2.1:ak)⟩ :: ⟨some bH,.var (al.1:Vector ak 4)⟩ :: ⟨some a3,.var (ag:aI)⟩ :: ⟨some aS,.var (J:et)⟩ :: ba hp)) (fun z0=> ?_) (fun DQ=> ?_)
  ·refine bB.step [2,3] (by kernel_rfl) rfl ⟨⟨_,rfl,?_⟩,⟨_,rfl,?_⟩,trivial⟩
   ·refine b6 1 h7 ?_
    refine aj.nil ?_
    exact ad.any rfl (bB.le (.same rfl (.same rfl (.same rfl (.same rfl (.same rfl (.same rfl (.same rfl (.same rfl (.same rfl (.same rfl (.same rfl (.same rfl (.same rfl (.same rfl (.same rfl (.same rfl (.same rfl (.same rfl (.same rfl (.same rfl (.same rfl (.same rfl (.same rfl .nil))))))))))))))))))))))) (Ap ()))
   ·refine aY (aW tP) ?_
    refine aj.nil ?_
    exact ad.any rfl (bB.le (.same rfl (.same rfl (.same rfl (.same rfl (.same rfl (.same rfl (.same rfl (.same rfl (.same rfl (.same rfl (.same rfl (.same rfl (.same rfl (.same rfl (.same rfl (.same rfl (.same rfl (.same rfl (.same rfl (.same rfl (.same rfl (.same rfl (.same rfl .nil))))))))))))))))))))))) (zU ()))
  refine bB.cut (γ:=Unit) 6 (Array.mk (false :: false :: false :: true :: false :: false :: false :: [])) (fun z1=> [(0,I.of (J)),(1,I.of (ag)),(2,I.eq (.pointer (some ⟨aS,0,none⟩))),(3,I.eq (.pointer (some ⟨a3,0,none⟩))),(4,I.eq (.pointer (some ⟨bH,0,none⟩))),(5,I.eq (.pointer (some ⟨cA,0,none⟩))),(6,I.of (al.2.2)),(7,I.cN [I.of (al.1),I.of (al.2.1),I.of (al.2.2)]),(8,I.of (J)),(9,I.eq (.pointer (some ⟨a3,0 + 0,none⟩))),(10,I.of (ag.b2)),(11,I.cN [I.of (al.1),I.of (al.2.1),I.of (al.2.2)]),(12,I.of (al.1)),(13,I.of (al.2.1)),(14,I.of (al.2.2)),(15,I.eq (.pointer (some ⟨aS,0 + 2,none⟩))),(16,I.of (J.fX)),(17,I.of (al.1)),(18,I.of (bl)),(19,I.of (bl.isNone)),(23,I.eq (.pointer (some ⟨aS,0 + 1,none⟩)))]) (fun z1=>(⟨some cA,.var (al.2.1:ak)⟩ :: ⟨some bH,.var (al.1:Vector ak 4)⟩ :: ⟨some a3,.var (ag:aI)⟩ :: ⟨some aS,.var (J:et)⟩ :: ba hp)) (fun z1=> ?_) (fun HE=> ?_)
  ·refine bB.step [0,2,4] (by kernel_rfl) rfl ⟨⟨_,rfl,?_⟩,⟨_,rfl,?_⟩,⟨_,rfl,?_⟩,trivial⟩
   ·refine aY (aW oh) ?_
    refine aj.nil ?_
    exact ad.any rfl (bB.le (.same rfl (.same rfl (.same rfl (.same rfl (.same rfl (.same rfl (.same rfl (.same rfl (.same rfl (.same rfl (.same rfl (.same rfl (.same rfl (.same rfl (.same rfl (.same rfl (.same rfl (.same rfl (.same rfl (.same rfl (.same rfl (.same rfl .nil)))))))))))))))))))))) (DP ()))
   ·refine b6 1 h7 ?_
    refine aj.nil ?_
    exact ad.any rfl (bB.le (.same rfl (.same rfl (.same rfl (.same rfl (.same rfl (.same rfl (.same rfl (.same rfl (.same rfl (.same rfl (.same rfl (.same rfl (.same rfl (.same rfl (.same rfl (.same rfl (.same rfl (.same rfl (.same rfl (.same rfl (.same rfl (.same rfl .nil)))))))))))))))))))))) (Ar ()))
   ·refine cb 3 rX bE ?_
    refine aj.nil ?_
    exact ad.any rfl (bB.le (.same rfl (.same rfl (.same rfl (.same rfl (.same rfl (.same rfl (.same rfl (.same rfl (.same rfl (.same rfl (.same rfl (.same rfl (.same rfl (.same rfl (.same rfl (.same rfl (.same rfl (.same rfl (.same rfl (.same rfl (.same rfl (.same rfl .nil)))))))))))))))))))))) (Aq ()))
  refine bB.cut (γ:=Unit) 6 (Array.mk (false :: false :: true :: false :: false :: false :: false :: [])) (fun z2=> [(0,I.of (J)),(1,I.of (ag)),(2,I.eq (.pointer (some ⟨aS,0,none⟩))),(3,I.eq (.pointer (some ⟨a3,0,none⟩))),(4,I.eq (.pointer (some ⟨bH,0,none⟩))),(5,I.eq (.pointer (some ⟨cA,0,none⟩))),(6,I.of (al.2.2)),(7,I.cN [I.of (al.1),I.of (al.2.1),I.of (al.2.2)]),(8,I.of (J)),(9,I.eq (.pointer (some ⟨a3,0 + 0,none⟩))),(10,I.of (ag.b2)),(11,I.cN [I.of (al.1),I.of (al.2.1),I.of (al.2.2)]),(12,I.of (al.1)),(13,I.of (al.2.1)),(14,I.of (al.2.2)),(15,I.eq (.pointer (some ⟨aS,0 + 2,none⟩))),(16,I.of (J.fX)),(17,I.of (al.1)),(18,I.of (bl)),(19,I.of (bl.isNone)),(22,I.of (al.1))]) (fun z2=>(⟨some cA,.var (al.2.1:ak)⟩ :: ⟨some bH,.var (al.1:Vector ak 4)⟩ :: ⟨some a3,.var (ag:aI)⟩ :: ⟨some aS,.var (J:et)⟩ :: ba hp)) (fun z2=> ?_) (fun HF=> ?_)
  ·refine bB.step [0,3] (by kernel_rfl) rfl ⟨⟨_,rfl,?_⟩,⟨_,rfl,?_⟩,trivial⟩
   ·refine aY (aW oh) ?_
    refine aj.nil ?_
    exact ad.any rfl (bB.le (.same rfl (.same rfl (.same rfl (.same rfl (.same rfl (.same rfl (.same rfl (.same rfl (.same rfl (.same rfl (.same rfl (.same rfl (.same rfl (.same rfl (.same rfl (.same rfl (.same rfl (.same rfl (.same rfl (.same rfl (.same rfl (.same rfl .nil)))))))))))))))))))))) (As ()))
   ·refine aY (aW tP) ?_
    refine aj.nil ?_
    exact ad.any rfl (bB.le (.same rfl (.same rfl (.same rfl (.same rfl (.same rfl (.same rfl (.same rfl (.same rfl (.same rfl (.same rfl (.same rfl (.same rfl (.same rfl (.same rfl (.same rfl (.same rfl (.same rfl (.same rfl (.same rfl (.same rfl (.same rfl (.same rfl .nil)))))))))))))))))))))) (Ar ()))
  refine bB.cut (γ:=Unit) 6 (Array.mk (true :: false :: false :: false :: false :: false :: false :: [])) (fun z3=> [(0,I.of (J)),(1,I.of (ag)),(2,I.eq (.pointer (some ⟨aS,0,none⟩))),(3,I.eq (.pointer (some ⟨a3,0,none⟩))),(4,I.eq (.pointer (some ⟨bH,0,none⟩))),(5,I.eq (.pointer (some ⟨cA,0,none⟩))),(6,I.of (al.2.2)),(7,I.cN [I.of (al.1),I.of (al.2.1),I.of (al.2.2)]),(8,I.of (J)),(9,I.eq (.pointer (some ⟨a3,0 + 0,none⟩))),(10,I.of (ag.b2)),(11,I.cN [I.of (al.1),I.of (al.2.1),I.of (al.2.2)]),(12,I.of (al.1)),(13,I.of (al.2.1)),(14,I.of (al.2.2)),(15,I.eq (.pointer (some ⟨aS,0 + 2,none⟩))),(16,I.of (J.fX)),(17,I.of (al.1)),(18,I.of (bl)),(19,I.of (bl.isNone)),(20,I.eq (.pointer (some ⟨aS,0 + 2,none⟩)))]) (fun z3=>(⟨some cA,.var (al.2.1:ak)⟩ :: ⟨some bH,.var (al.1:Vector ak 4)⟩ :: ⟨some a3,.var (ag:aI)⟩ :: ⟨some aS,.var (J:et)⟩ :: ba hp)) (fun z3=> ?_) (fun HG=> ?_)
  ·refine bB.step [1,2,3] (by kernel_rfl) rfl ⟨⟨_,rfl,?_⟩,⟨_,rfl,?_⟩,⟨_,rfl,?_⟩,trivial⟩
   ·refine cb 3 nB nU ?_
    refine aj.nil ?_
    exact ad.any rfl (bB.le (.same rfl (.same rfl (.same rfl (.same rfl (.same rfl (.same rfl (.same rfl (.same rfl (.same rfl (.same rfl (.same rfl (.same rfl (.same rfl (.same rfl (.same rfl (.same rfl (.same rfl (.same rfl (.same rfl (.same rfl (.same rfl (.same rfl .nil)))))))))))))))))))))) (DQ ()))
   ·refine b6 1 h7 ?_
    refine aj.nil ?_
    exact ad.any rfl (bB.le (.same rfl (.same rfl (.same rfl (.same rfl (.same rfl (.same rfl (.same rfl (.same rfl (.same rfl (.same rfl (.same rfl (.same rfl (.same rfl (.same rfl (.same rfl (.same rfl (.same rfl (.same rfl (.same rfl (.same rfl (.same rfl (.same rfl .nil)))))))))))))))))))))) (As ()))
   ·refine aY (aW tP) ?_
    refine aj.nil ?_
    exact ad.any rfl (bB.le (.same rfl (.same rfl (.same rfl (.same rfl (.same rfl (.same rfl (.same rfl (.same rfl (.same rfl (.same rfl (.same rfl (.same rfl (.same rfl (.same rfl (.same rfl (.same rfl (.same rfl (.same rfl (.same rfl (.same rfl (.same rfl (.same rfl .nil)))))))))))))))))))))) (DP ()))
  refine bB.step [0,2,3] (by kernel_rfl) rfl ⟨⟨_,rfl,?_⟩,⟨_,rfl,?_⟩,⟨_,rfl,?_⟩,trivial⟩
  ·refine aY (aW oh) ?_
   refine aj.nil ?_
   exact ad.any rfl (bB.le (.same rfl (.same rfl (.same rfl (.same rfl (.same rfl (.same rfl (.same rfl (.same rfl (.same rfl (.same rfl (.same rfl (.same rfl (.same rfl (.same rfl (.same rfl (.same rfl (.same rfl (.same rfl (.same rfl (.same rfl (.same rfl .nil))))))))))))))))))))) (HG ()))
  ·refine b6 1 h7 ?_
   refine aj.nil ?_
   exact ad.any rfl (bB.le (.same rfl (.same rfl (.same rfl (.same rfl (.same rfl (.same rfl (.same rfl (.same rfl (.same rfl (.same rfl (.same rfl (.same rfl (.same rfl (.same rfl (.same rfl (.same rfl (.same rfl (.same rfl (.same rfl (.same rfl (.same rfl .nil))))))))))))))))))))) (HF ()))
  ·refine aY (aW tP) ?_
   refine aj.nil ?_
   exact ad.any rfl (bB.le (.same rfl (.same rfl (.same rfl (.same rfl (.same rfl (.same rfl (.same rfl (.same rfl (.same rfl (.same rfl (.same rfl (.same rfl (.same rfl (.same rfl (.same rfl (.same rfl (.same rfl (.same rfl (.same rfl (.same rfl (.same rfl .nil))))))))))))))))))))) (HE ()))
 ·refine ah.skip ?_
  exact dt 0 (hm hp () h)
end Go.Proofs.YtmnggbjcnoffeaaGreat
namespace Go.Proofs.YtmnggbjcnoffeaaGreat
open Go Gv
set_option linter.unusedVariables false
set_option linter.unusedSimpArgs false
set_option maxRecDepth 100000
set_option maxHeartbeats 2000000
theorem Q7 {hp:a9 Cell} {J:Ref} {ag:ak} {aT:Int} {r:Int × Bool} (h:vD hp J ag aT=some r):cy Tryz.prog 240 [I.of (J),I.of (ag),I.of (aT)] ([] ++ ba hp) (δ:=Unit) (fun _=>I.cN [I.of (r.1),I.of (r.2)]) (fun _=> [] ++ ba hp):=by
 unfold vD at h
 refine cy.of Tryz.func240 rfl Tryz.ntmps240 rfl fun W A=> ?_
 refine aC ?_
 refine cf fun aS=> ?_
 refine aK ?_
 refine aK ?_
 refine bZ ?_
 refine aB ?_
 refine b6 0 bN ?_
 refine aB ?_
 obtain⟨al,bs,h⟩:=aw h
 refine aj.lS (hX.nR 1 rfl NG (J9 bs) ⟨ab rfl,ab rfl,ab rfl,trivial⟩) rfl rfl rfl ?_
 refine aK ?_
 refine bG ?_
 refine aC ?_
 refine aB ?_
 refine bj (oV Tryz.underlying331 (ab rfl)) ?_
 refine aB ?_
 refine dE c3 ?_
 obtain⟨dg,e7,h⟩:=aw h
 refine eW (fun hb=>ff (fQ (ct rfl hb) (ha e7 hb))) ?_
 refine dE (aW tO) ?_
 obtain⟨cF,fT,h⟩:=aw h
 refine eW (fun hb=>h0 ((aL.id eJ).comp tp) (r:=cF.fp) ir (ct rfl hb) (gU (n:=1) rfl (l3 (ha fT hb)) rfl) rfl rfl) ?_
 refine dE hz ?_
 refine qg ?_
 refine aJ ?_
 refine ch h (fun h=>?_) fun h=>?_
 ·refine aC ?_
  refine aK ?_
  refine aK ?_
  refine aJ ?_
  refine ah.ret ?_
  refine ad.ret ?_
  obtain rfl:=aG h
  exact ad.k5 () (.cons _ (.refl _)) rfl rfl (eD rfl) (eD rfl)
 ·refine cJ ?_
  refine aC ?_
  refine aB ?_
  obtain⟨cK,gi,h⟩:=aw h
  refine bj (ff (fQ (ab rfl) gi)) ?_
  refine aY (aW Ga) ?_
  obtain⟨da,ho,h⟩:=aw h
  refine bj (h0 ((aL.id eJ).comp E7) (r:=da.j1) bE (ab rfl) (gU (n:=1) rfl (l3 ho) rfl) rfl rfl) ?_
  refine aK ?_
  refine aK ?_
  refine aJ ?_
  refine ah.ret ?_
  obtain rfl:=aG h
  exact ad.k5 () (.cons _ (.refl _)) rfl rfl (eD rfl) (eD rfl)
theorem QB {hp:a9 Cell} {J:jB} {ag:bJ} {r:Int × Bool} (h:x6 hp J ag=some r):cy Tryz.prog 260 [I.of (J),I.of (ag)] ([] ++ ba hp) (δ:=Unit) (fun _=>I.cN [I.of (r.1),I.of (r.2)]) (fun _=> [] ++ ba hp):=by
 unfold x6 at h
 refine cy.of Tryz.func260 rfl Tryz.ntmps260 rfl fun W A=> ?_
 refine aC ?_
 refine cf fun aS=> ?_
 refine cf fun a3=> ?_
 refine aK ?_
 refine aK ?_
 refine bG ?_
 refine aC ?_
 refine aY (aW Ge) ?_
 refine cb 1 Ce DB ?_
 obtain⟨dg,e7,h⟩:=aw h
 obtain⟨cF,fT,h⟩:=aw h
 obtain⟨al,bs,h⟩:=aw h
 refine aj.lS (hX.obj 2 rfl (wg fT) VY (P7 bs) rfl ⟨fQ (ab rfl) e7,trivial⟩) rfl rfl rfl ?_
 refine aY (eS Tryz.underlying38) ?_
 refine aB ?_
 refine aJ ?_
 refine ah.block ?_
 obtain⟨aA,ao,h⟩:=aw h
 refine ah.q3 (σ:=Int) (ε:=(Int × Bool) ⊕ (Int × Bool × Int × Bool × Bool)) (γ:=Unit) (δ:=Unit) ao (fun s1 az=> [(0,I.of (J)),(1,I.of (ag)),(2,I.eq (.pointer (some ⟨aS,0,none⟩))),(3,I.eq (.pointer (some ⟨a3,0,none⟩))),(4,I.of (0:Int)),(5,I.of (false)),(10,I.of (al)),(11,I.of (al.length:Int)),(12,I.of (s1))]) (fun s1 az=>(⟨some a3,.var (ag:bJ)⟩ :: ⟨some aS,.var (J:jB)⟩ :: ba hp)) (fun aF=>Sum.elim (fun aF=>Exit.exit 0) (fun aF=>Exit.ret) aF) (fun aF az=>Sum.elim (fun aF=> [(0,I.of (J)),(1,I.of (ag)),(2,I.eq (.pointer (some ⟨aS,0,none⟩))),(3,I.eq (.pointer (some ⟨a3,0,none⟩))),(4,I.of (0:Int)),(5,I.of (false)),(10,I.of (al)),(11,I.of (al.length:Int)),(12,I.of (aF.1)),(13,I.of (aF.2))]) (fun aF=> [(0,I.of (J)),(1,I.of (ag)),(2,I.eq (.pointer (some ⟨aS,0,none⟩))),(3,I.eq (.pointer (some ⟨a3,0,none⟩))),(4,I.of (aF.1)),(5,I.of (aF.2.1)),(10,I.of (al)),(11,I.of (al.length:Int)),(12,I.of (aF.2.2.1)),(13,I.of (aF.2.2.2.1)),(19,I.of (aF.2.2.2.2))]) aF) (fun aF az=>Sum.elim (fun aF=>(⟨some a3,.var (ag:bJ)⟩ :: ⟨some aS,.var (J:jB)⟩ :: ba hp)) (fun aF=>(⟨some a3,.var (ag:bJ)⟩ :: ⟨some aS,.var (J:jB)⟩ :: ba hp)) aF) () rfl (.same rfl (.same rfl (.same rfl (.same rfl (.same rfl (.same rfl (.same rfl (.same rfl (.same rfl .nil))))))))) (fun s1 r h az=> ?_) (fun az=> ?_)
 ·clear ao
  refine aC ?_
  refine bf eb ?_
  refine bG ?_
  refine ch h (fun h=>?_) fun h=>?_
  ·refine cJ ?_
   refine ah.seq ?_
   refine ah.block ?_
   refine aC ?_
   obtain⟨aZ,cv,h⟩:=aw h
   refine gJ cv Tryz.underlying38 cY ?_
   refine aY (c2 cY) ?_
   refine cx hh fun bH=> ?_
   refine b3 0 cY ?_
   refine bZ ?_
   refine aY (aW my) ?_
   refine cb 0 k0 iC ?_
   refine b6 1 iC ?_
   obtain⟨aN,ck,h⟩:=aw h
   refine dc VZ (Q0 ck) ?_
   refine aJ ?_
   refine ch h (fun h=>?_) fun h=>?_
   ·refine aC ?_
    refine aY (aW lu) ?_
    refine cb 0 kd bE ?_
    refine aK ?_
    refine aK ?_
    refine aJ ?_
    refine ah.ret ?_
    refine ad.dQ ?_
    refine ad.ret ?_
    obtain rfl:=aG h
    exact dU () 1
   ·refine ah.skip ?_
    refine ad.dG ?_
    refine ad.next ?_
    refine ah.cn ?_
    refine bf c9 ?_
    refine aB ?_
    refine aj.nil ?_
    obtain rfl:=aG h
    exact e0 () 1
  ·refine ah.exit ?_
   refine ad.exit ?_
   obtain rfl:=aG h
   exact dU () 0
 ·clear ao
  rcases aA with aA | aA
  ·simp only [Sum.elim_inl] at h
   refine ad.eT ?_
   refine ad.next ?_
   refine aC ?_
   refine aK ?_
   refine aK ?_
   refine aJ ?_
   refine ah.ret ?_
   obtain rfl:=aG h
   exact ad.k5 () (.cons _ (.cons _ (.refl _))) rfl rfl (eD rfl) (eD rfl)
  ·simp only [Sum.elim_inr] at h
   refine ad.dQ ?_
   refine ad.ret ?_
   obtain rfl:=aG h
   exact ad.k5 () (.cons _ (.cons _ (.refl _))) rfl rfl (eD rfl) (eD rfl)
end Go.Proofs.YtmnggbjcnoffeaaGreat
namespace Go.Proofs.YtmnggbjcnoffeaaGreat
open Go Gv
set_option linter.unusedVariables false
set_option linter.unusedSimpArgs false
set_option maxRecDepth 100000
set_option maxHeartbeats 2000000
end Go.Proofs.YtmnggbjcnoffeaaGreat
namespace Go.Proofs.YtmnggbjcnoffeaaGreat
open Go Gv
set_option linter.unusedVariables false
set_option linter.unusedSimpArgs false
set_option maxRecDepth 100000
set_option maxHeartbeats 2000000
theorem Qh {hp:a9 Cell} {J:et} {ag:bJ} {r:Int × Bool} (h:xN hp J ag=some r):cy Tryz.prog 235 [I.of (J),I.of (ag)] ([] ++ ba hp) (δ:=Unit) (fun _=>I.cN [I.of (r.1),I.of (r.2)]) (fun _=> [] ++ ba hp):=by
 unfold xN at h
 refine cy.of Tryz.func235 rfl Tryz.ntmps235 rfl fun W A=> ?_
 refine aC ?_
 refine cf fun aS=> ?_
 refine cf fun a3=> ?_
 refine aK ?_
 refine aK ?_
 refine bZ ?_
 refine b6 1 Dl ?_
 refine b6 0 iC ?_
 obtain⟨al,bs,h⟩:=aw h
 refine dc NK (JQ bs) ?_
 refine aB ?_
 refine ez ?_
 refine ez ?_
 refine ez ?_
 refine cx wz fun bH=> ?_
 refine cx dP fun cA=> ?_
 refine b3 1 h7 ?_
 refine b3 0 bN ?_
 refine aK ?_
 refine bG ?_
 obtain⟨dg,e7,h⟩:=aw h
 obtain⟨cF,fT,h⟩:=aw h
 obtain⟨bl,di,h⟩:=aw h
 obtain⟨aN,ck,h⟩:=aw h
 refine jq [0,1,2,3,6,7,8,9,10,11,12,13,14,15] ?_
 refine ah.sE 4 mixed (bh 16 [] [] _ :: bh 17 (0 :: []) (3 :: []) _ :: bh 18 [] (1 :: []) _ :: ⟨some 19,(1 :: 2 :: []),[],[],fun _=>I.of (bl),fun _ _=>⟨none,.dead⟩⟩ :: bh 20 [] (0 :: []) _ :: bh 21 [] [] _ :: ⟨some 22,(3 :: 4 :: 5 :: []),[],[],fun _=>I.cN [I.of (aN.1),I.of (aN.2)],fun _ _=>⟨none,.dead⟩⟩ :: bh 23 (6 :: []) [] _ :: bh 24 (6 :: []) [] _ :: bh 4 (7 :: []) [] _ :: bh 5 (8 :: []) [] _ :: []) _ (0 :: 1 :: 2 :: 3 :: 6 :: 7 :: 8 :: 9 :: 10 :: 11 :: 12 :: 13 :: 14 :: 15 :: []) rfl rfl (by kernel_rfl) (by kernel_rfl) ⟨df.q (fv (aW oh)),df.q (n0 3 nB nU),df.q (lJ 1 h7),?_,df.q (lJ 0 bN),df.q (gA),?_,df.q (cP fun hd E' ay aH au=>lz (ab (aH _ _ rfl)) rfl),df.q (cP fun hd E' ay aH au=>lz (ab (aH _ _ rfl)) rfl),df.q (cP fun hd E' ay aH au=>eG (ab (aH _ _ rfl))),df.q (cP fun hd E' ay aH au=>eG (ab (aH _ _ rfl))),trivial⟩ fun gj=> ?_
 ·intro hd E' ay aH au dZ
  refine bj (y4 (r:=bl) Tryz.underlying167 zN Dy (oT (ab (aH _ _ rfl)) e7) (ab (aH _ _ rfl)) (gU (n:=4) (dZ.trans rfl) (oZ fT) rfl) (aG di)) ?_
  refine aj.nil ?_
  exact ad.fin (eY []) rfl rfl
 ·intro hd E' ay aH au dZ
  refine aj.lS (hX.nR 4 (dZ.trans rfl) V0 (Q7 ck) ⟨ab (aH _ _ rfl),ab (aH _ _ rfl),ab (aH _ _ rfl),trivial⟩) rfl rfl rfl ?_
  refine aj.nil ?_
  exact ad.fin (eY []) rfl rfl
 refine ad.eI (L2:=(⟨some cA,.var (al.2.1:ak)⟩ :: ⟨some bH,.var (al.1:Vector ak 4)⟩ :: ⟨some a3,.var (ag:bJ)⟩ :: ⟨some aS,.var (J:et)⟩ :: ba hp)) rfl ?_
 refine ko [0,1,2,3,4,5,6,7,8,9,10,11,12,13,14,15,16,17,18,19,20,21,22,23,24] ?_
 refine ad.next ?_
 refine ah.ret ?_
 obtain rfl:=aG h
 exact ad.k5 () (.cons _ (.cons _ (.cons _ (.cons _ (.refl _))))) rfl rfl (eD rfl) (eD rfl)
end Go.Proofs.YtmnggbjcnoffeaaGreat
namespace Go.Proofs.YtmnggbjcnoffeaaGreat
open Go Gv
set_option linter.unusedVariables false
set_option linter.unusedSimpArgs false
set_option maxRecDepth 100000
set_option maxHeartbeats 2000000
theorem PM {J aT:List aI} {ag:Int} {p2 NM:Option Nat} {hf uj:Nat} {r:List aI} (h:BP J ag aT=some r):cy Tryz.prog 275 [I.eq (a0 p2 J.length hf),I.of ag,I.eq (a0 NM aT.length uj)] [⟨p2,.row 52 J hf⟩,⟨NM,.row 52 aT uj⟩] (δ:=(Option Nat × Nat)) (fun d=>I.eq (a0 d.1 r.length d.2)) (fun d=> [⟨d.1,.row 52 r d.2⟩]):=by
 unfold BP at h
 obtain⟨k,rfl,av,aX,uP,pn,rfl⟩:=Sq h
 refine cy.of Tryz.func275 rfl Tryz.ntmps275 rfl fun W A=> ?_
 refine ah.seq ?_
 refine ah.cn ?_
 refine aj.v (eG tJ) rfl rfl rfl ?_
 refine aj.nil ?_
 refine ad.next ?_
 refine ah.seq ?_
 refine ah.cn ?_
 refine aj.v (c3 (ab rfl)) rfl rfl rfl ?_
 refine aj.v (c3 (ab rfl)) rfl rfl rfl ?_
 refine aj.v (CN (i:=0) (xs:=J) Tryz.underlying38 cY (ab rfl) rfl (.some (ab rfl)) .none rfl rfl ⟨av,Nat.le_refl _⟩) rfl rfl rfl ?_
 refine aj.nil ?_
 refine ad.next ?_
 refine ah.seq ?_
 refine ah.cn ?_
 refine aj.v (c3 (ab rfl)) rfl rfl rfl ?_
 refine aj.v (sw (i:=1) (xs:=aT) Tryz.underlying38 (ab rfl) rfl rfl) rfl rfl rfl ?_
 refine aj.v (eG (ab rfl)) rfl rfl rfl ?_
 refine aj.nil ?_
 refine ad.next ?_
 refine ah.seq ?_
 refine ah.seq ?_
 refine ah.cn ?_
 refine aj.v (c3 (ab rfl)) rfl rfl rfl ?_
 refine aj.v (gf (ab rfl) (bK 0)) rfl rfl rfl ?_
 refine aj.nil ?_
 refine ad.next ?_
 refine ah.cond (ab rfl) (fun ar=> ?_) (fun _=> ?_)
 ·exfalso; simp only [beq_iff_eq] at ar; omega
 refine ah.skip ?_
 refine ad.next ?_
 refine ah.seq ?_
 refine ah.cn ?_
 refine aj.v (c3 (ab rfl)) rfl rfl rfl ?_
 refine aj.v (sw (i:=0) (xs:=J) Tryz.underlying38 (ab rfl) rfl rfl) rfl rfl rfl ?_
 refine aj.v (eG (ab rfl)) rfl rfl rfl ?_
 refine aj.nil ?_
 refine ad.next ?_
 refine ah.seq ?_
 refine ah.seq ?_
 refine ah.cn ?_
 refine aj.v (c3 (ab rfl)) rfl rfl rfl ?_
 refine aj.v (c3 (ab rfl)) rfl rfl rfl ?_
 refine aj.v (gf (ab rfl) (ab rfl)) rfl rfl rfl ?_
 refine aj.nil ?_
 refine ad.next ?_
 refine ah.cond (ab rfl) (fun ar=> ?_) (fun ar=> ?_)
 ·have mg:k=J.length:=by simp only [beq_iff_eq] at ar; omega
  subst mg
  refine ah.seq ?_
  refine ah.cn ?_
  refine aj.v (c3 (ab rfl)) rfl rfl rfl ?_
  refine aj.l1 (α:=aI) 1 [2,13] ⟨rfl,rfl,trivial⟩ rfl ?_
  refine aj.v (c3 (ab rfl)) rfl rfl rfl ?_
  refine aj.app (i:=0) (xs:=J) (ys:=aT) (r:=J ++ aT) Tryz.underlying38 cY hh (by kernel_rfl) (ab rfl) rfl (ab rfl) (by unfold gu; rw [if_pos ⟨uP,pn⟩]) rfl fun gZ fA=> ?_
  refine aj.v (eG (ab rfl)) rfl rfl rfl ?_
  refine aj.nil ?_
  refine ad.next ?_
  refine ah.ret ?_
  have aQ:J.take J.length ++ aT ++ J.drop J.length=J ++ aT:=by simp
  rw [aQ]
  exact ad.hj (gZ,fA) (.cons_cons _ (List.nil_sublist _)) rfl rfl (eD rfl)
 have mg:k < J.length:=by simp only [beq_eq_false_iff_ne] at ar; omega
 refine ah.skip ?_
 refine ad.next ?_
 refine ah.some (i:=0) (xs:=J) rfl (by omega) fun p hp At oI=> ?_
 subst hp
 refine ah.some (i:=1) (xs:=aT) rfl (by omega) fun q hq aaf aai=> ?_
 subst hq
 refine ah.apart rfl fun Ef=> ?_
 refine ah.seq ?_
 refine ah.seq ?_
 refine ah.cn ?_
 refine aj.v (c3 (ab rfl)) rfl rfl rfl ?_
 refine aj.v (c3 (ab rfl)) rfl rfl rfl ?_
 refine aj.v (c9 (ab rfl) (ab rfl)) rfl rfl rfl ?_
 refine aj.v (c3 (ab rfl)) rfl rfl rfl ?_
 refine aj.v (UB Tryz.underlying38 (ab rfl)) rfl rfl rfl ?_
 refine aj.v (ow (ab rfl) (ab rfl)) rfl rfl rfl ?_
 refine aj.nil ?_
 refine ad.next ?_
 have hw:bz ((J.length:Int) + (aT.length:Int))=((J.length + aT.length:Nat):Int):=by
  have po:maxLen=9223372036854775807:=rfl
  rw [hQ (by omega) (by omega)]; simp
 refine ah.cond (ab rfl) (fun ho=> ?_) (fun ho=> ?_)
 ·have wK:hf < J.length + aT.length:=by rw [hw] at ho; simp only [decide_eq_true_eq] at ho; omega
  have po:maxLen=9223372036854775807:=rfl
  have aE:bz (bz ((J.length:Int) + (aT.length:Int)) - (k:Int))=((J.length + aT.length - k:Nat):Int):=by
   rw [hw,hQ (by omega) (by omega)]; omega
  refine ah.seq ?_
  refine ah.cn ?_
  refine aj.v (c3 (ab rfl)) rfl rfl rfl ?_
  refine aj.v (c3 (ab rfl)) rfl rfl rfl ?_
  refine aj.v (CN (i:=0) (xs:=J) Tryz.underlying38 cY (ab rfl) rfl .none (.some (ab rfl)) rfl rfl ⟨Nat.zero_le _,av⟩) rfl rfl rfl ?_
  refine aj.v (c3 (ab rfl)) rfl rfl rfl ?_
  refine aj.v (c3 (ab rfl)) rfl rfl rfl ?_
  refine aj.v (c9 (ab rfl) (ab rfl)) rfl rfl rfl ?_
  refine aj.v (c3 (ab rfl)) rfl rfl rfl ?_
  refine aj.v (ly (ab rfl) (ab rfl)) rfl rfl rfl ?_
  refine aj.XI (i:=0) (m:=k) (k:=J.length + aT.length - k) (xs:=J) (z:=(default:aI)) Tryz.underlying38 Tryz.underlying3 cY hh (by rfl) (by kernel_rfl) (ab rfl) (by rw [← aE]; exact ab rfl) rfl av (by omega) (by omega) (by rw [show k + (J.length + aT.length - k)=J.length + aT.length by omega]; exact uP) (by omega) rfl fun aF fA=> ?_
  refine aj.v (eG (ab rfl)) rfl rfl rfl ?_
  refine aj.nil ?_
  refine ad.next ?_
  have hlen:(J.take k ++ List.replicate (J.length + aT.length - k) (default:aI)).length=J.length + aT.length:=by simp; omega
  refine ah.some (i:=0) (xs:=J.take k ++ List.replicate (J.length + aT.length - k) (default:aI)) rfl (by omega) fun cT oJ V1 aaj=> ?_
  rw [hlen] at V1
  refine ah.seq ?_
  refine ah.cn ?_
  refine aj.v (c3 (ab rfl)) rfl rfl rfl ?_
  refine aj.v (c3 (ab rfl)) rfl rfl rfl ?_
  refine aj.v (sg (α:=aI) (m:=k) (h:=k + (J.length + aT.length - k)) Tryz.underlying38 cY (ab rfl) (.some (ab rfl)) .none rfl rfl ⟨by omega,by omega⟩) rfl rfl rfl ?_
  refine aj.v (c3 (ab rfl)) rfl rfl rfl ?_
  refine aj.DC (i:=0) (p:=aF) (off:=k * ai.size aI) (dLen:=k + (J.length + aT.length - k) - k) (dCap:=fA - k) (N:=aT.length) (vs:=aT) (T:=52) Tryz.underlying38 cY (by rw [← Gf (by omega)]; exact ab rfl) (L6 (i:=2) (ab rfl) rfl aX) (Nat.min_eq_left (by omega)) rfl rfl (fun A W o cells h cZ=>Lp (by omega) h cZ) ?_
  refine aj.nil ?_
  refine ad.next ?_
  have aA:(J.take k ++ List.replicate (J.length + aT.length - k) (default:aI)).take k ++ aT ++ (J.take k ++ List.replicate (J.length + aT.length - k) (default:aI)).drop (k + aT.length)=J.take k ++ aT ++ List.replicate (J.length - k) (default:aI):=by
   have j5:(J.take k).length=k:=by rw [List.length_take]; omega
   rw [List.take_left' j5,List.drop_append,j5,List.drop_eq_nil_of_le (by omega),List.nil_append,List.drop_replicate]
   congr 2
   omega
  have qj:bz ((k:Int) + (aT.length:Int))=((k + aT.length:Nat):Int):=by rw [hQ (by omega) (by omega)]; simp
  refine ah.seq ?_
  refine ah.le (E':= [(0,I.eq (a0 (some p) J.length hf)),(1,I.of (k:Int)),(7,I.of (aT.length:Int)),(9,I.eq (a0 (some aF) (k + (J.length + aT.length - k)) fA))]) (.same rfl (.same rfl (.same rfl (.same rfl .nil)))) ?_
  refine ah.ki mixed (⟨some 46,[],[],[],fun _=>I.eq (a0 (some aF) (k + (J.length + aT.length - k)) fA),fun _ _=>⟨none,.dead⟩⟩ :: ⟨some 47,[],[],[],fun _=>I.of (k:Int),fun _ _=>⟨none,.dead⟩⟩ :: ⟨some 48,[],[],[],fun _=>I.of (aT.length:Int),fun _ _=>⟨none,.dead⟩⟩ :: ⟨some 49,(1 :: 2 :: []),[],[],fun _=>I.of (bz ((k:Int) + (aT.length:Int))),fun _ _=>⟨none,.dead⟩⟩ :: ⟨some 50,(0 :: 3 :: []),[],[],fun _=>I.eq (iD (some aF) (k + aT.length) ((k + (J.length + aT.length - k)) - (k + aT.length)) fA (ai.size aI)),fun _ _=>⟨none,.dead⟩⟩ :: ⟨some 51,[],[],[],fun _=>I.eq (a0 (some p) J.length hf),fun _ _=>⟨none,.dead⟩⟩ :: ⟨some 52,[],[],[],fun _=>I.of (k:Int),fun _ _=>⟨none,.dead⟩⟩ :: ⟨some 53,(5 :: 6 :: []),[],[],fun _=>I.eq (iD (some p) k (J.length - k) hf (ai.size aI)),fun _ _=>⟨none,.dead⟩⟩ :: ⟨some 54,(4 :: 7 :: []),(0 :: 1 :: []),(0 :: []),fun _=>I.of ((((J.drop k).take (J.length - k)).length:Nat):Int),fun _ _=>⟨some aF,.row 52 ((J.take k ++ aT ++ List.replicate (J.length - k) (default:aI)).take (k + aT.length) ++ (J.drop k).take (J.length - k) ++ (J.take k ++ aT ++ List.replicate (J.length - k) (default:aI)).drop (k + aT.length + ((J.drop k).take (J.length - k)).length)) fA⟩⟩ :: []) ((some 46,[],[],[]) :: (some 47,[],[],[]) :: (some 48,[],[],[]) :: (some 49,(1 :: 2 :: []),[],[]) :: (some 50,(0 :: 3 :: []),[],[]) :: (some 51,[],[],[]) :: (some 52,[],[],[]) :: (some 53,(5 :: 6 :: []),[],[]) :: (some 54,(4 :: 7 :: []),(0 :: 1 :: []),(0 :: [])) :: []) (0 :: 1 :: 7 :: 9 :: []) rfl rfl (by kernel_rfl) ⟨?_,?_,?_,?_,?_,?_,?_,?_,?_,trivial⟩ fun hd=> ?_
  ·exact jF rfl rfl rfl fun hd E' ay aH au=>c3 (ab (aH _ _ rfl))
  ·exact jF rfl rfl rfl fun hd E' ay aH au=>c3 (ab (aH _ _ rfl))
  ·exact jF rfl rfl rfl fun hd E' ay aH au=>c3 (ab (aH _ _ rfl))
  ·exact jF rfl rfl rfl fun hd E' ay aH au=>c9 (ab (aH _ _ rfl)) (ab (aH _ _ rfl))
  ·exact jF rfl rfl rfl fun hd E' ay aH au=>sg (α:=aI) (m:=k + aT.length) (h:=(k + (J.length + aT.length - k))) Tryz.underlying38 cY (ab (aH _ _ rfl)) (.some (ab (aH _ _ rfl))) .none qj rfl ⟨by omega,by omega⟩
  ·exact jF rfl rfl rfl fun hd E' ay aH au=>c3 (ab (aH _ _ rfl))
  ·exact jF rfl rfl rfl fun hd E' ay aH au=>c3 (ab (aH _ _ rfl))
  ·exact jF rfl rfl rfl fun hd E' ay aH au=>sg (α:=aI) (m:=k) (h:=J.length) Tryz.underlying38 cY (ab (aH _ _ rfl)) (.some (ab (aH _ _ rfl))) .none rfl rfl ⟨by omega,by omega⟩
  ·intro hd E' ay aH au
   have bW:=au 0 _ rfl rfl
   rw [aA] at bW
   refine aj.DC (i:=0) (p:=aF) (off:=(k + aT.length) * ai.size aI) (T:=52) (vs:=(J.drop k).take (J.length - k)) (N:=J.length - k) (dLen:=(k + (J.length + aT.length - k)) - (k + aT.length)) (dCap:=fA - (k + aT.length)) Tryz.underlying38 cY (by rw [← Gf (p:=aF) (lo:=k + aT.length) (cap:=fA) (size:=ai.size aI) (by omega)]; exact ab (aH _ _ rfl)) (Gg (i:=1) (ab (aH _ _ rfl)) (au 1 _ rfl rfl) (by omega) (by omega)) (by rw [show((J.drop k).take (J.length - k)).length=J.length - k by simp]; exact Nat.min_eq_left (by omega)) bW rfl (fun A W o cells h cZ=>Lp (by simp; omega) h cZ) ?_
   refine aj.nil ?_
   exact ad.fin (eY []) rfl rfl
  have aU:((J.take k ++ aT ++ List.replicate (J.length - k) (default:aI)).take (k + aT.length) ++ (J.drop k).take (J.length - k) ++ (J.take k ++ aT ++ List.replicate (J.length - k) (default:aI)).drop (k + aT.length + ((J.drop k).take (J.length - k)).length))=J.take k ++ aT ++ J.drop k:=by
   have j5:(J.take k ++ aT).length=k + aT.length:=by simp; omega
   have de:(J.drop k).take (J.length - k)=J.drop k:=List.take_of_length_le (by simp)
   have fl:(J.take k ++ aT ++ List.replicate (J.length - k) (default:aI)).drop (k + aT.length + (J.drop k).length)= []:=List.drop_eq_nil_of_le (by rw [List.length_append,j5,List.length_replicate,List.length_drop]; omega)
   rw [de,List.take_left' j5,fl,List.append_nil]
  refine ad.eI (L2:= [⟨some aF,.row 52 ((J.take k ++ aT ++ List.replicate (J.length - k) (default:aI)).take (k + aT.length) ++ (J.drop k).take (J.length - k) ++ (J.take k ++ aT ++ List.replicate (J.length - k) (default:aI)).drop (k + aT.length + ((J.drop k).take (J.length - k)).length)) fA⟩,⟨some p,.row 52 J hf⟩,⟨some q,.row 52 aT uj⟩]) rfl ?_
  rw [aU]
  refine ad.le (E':= [(9,I.eq (a0 (some aF) (k + (J.length + aT.length - k)) fA))]) (.same rfl .nil) ?_
  refine ad.next ?_
  refine ah.seq ?_
  refine ah.cn ?_
  refine aj.v (c3 (ab rfl)) rfl rfl rfl ?_
  refine aj.v (eG (ab rfl)) rfl rfl rfl ?_
  refine aj.nil ?_
  refine ad.next ?_
  refine ah.ret ?_
  have cL:k + (J.length + aT.length - k)=(J.take k ++ aT ++ J.drop k).length:=by simp; omega
  rw [cL]
  exact ad.hj (some aF,fA) (.cons_cons _ (List.nil_sublist _)) rfl rfl (eD rfl)
 have wK:J.length + aT.length≤hf:=by rw [hw] at ho; simp only [decide_eq_false_iff_not] at ho; omega
 have po:maxLen=9223372036854775807:=rfl
 have qj:bz ((k:Int) + (aT.length:Int))=((k + aT.length:Nat):Int):=by rw [hQ (by omega) (by omega)]; simp
 refine ah.skip ?_
 refine ad.next ?_
 refine ah.seq ?_
 refine ah.cn ?_
 refine aj.v (c3 (ab rfl)) rfl rfl rfl ?_
 refine aj.v (c3 (ab rfl)) rfl rfl rfl ?_
 refine aj.v (c3 (ab rfl)) rfl rfl rfl ?_
 refine aj.v (c9 (ab rfl) (ab rfl)) rfl rfl rfl ?_
 refine aj.v (sg (α:=aI) (m:=0) (h:=J.length + aT.length) Tryz.underlying38 cY (ab rfl) .none (.some (ab rfl)) rfl hw ⟨by omega,by omega⟩) rfl rfl rfl ?_
 refine aj.v (eG (ab rfl)) rfl rfl rfl ?_
 refine aj.nil ?_
 refine ad.next ?_
 refine ah.seq ?_
 refine ah.seq ?_
 refine ah.cn ?_
 refine aj.v (c3 (ab rfl)) rfl rfl rfl ?_
 refine aj.v (c3 (ab rfl)) rfl rfl rfl ?_
 refine aj.v (c3 (ab rfl)) rfl rfl rfl ?_
 refine aj.v (c3 (ab rfl)) rfl rfl rfl ?_
 refine aj.v (c9 (ab rfl) (ab rfl)) rfl rfl rfl ?_
 refine aj.v (sg (α:=aI) (p:=p) (n:=J.length + aT.length) (cap:=hf) (m:=k + aT.length) (h:=J.length + aT.length) Tryz.underlying38 cY (C9 (size:=ai.size aI) (ab rfl)) (.some (ab rfl)) .none qj rfl ⟨by omega,by omega⟩) rfl rfl rfl ?_
 refine aj.v (V2 (α:=aI) (p:=p) (q:=q) (T:=52) (U:=52) (xs:=J) (vs:=aT) (cap:=hf) (cap':=uj) (i:=0) (j:=1) (tR:=4) (by kernel_rfl) Tryz.func280 (by kernel_rfl) (by kernel_rfl) (by kernel_rfl) (by kernel_rfl) Tryz.underlying38 cY (ab rfl) (GK (p:=p) (lo:=k + aT.length) (cap:=hf) (size:=ai.size aI) (by omega) (ab rfl)) rfl rfl Ef (by omega)) rfl rfl rfl ?_
 refine aj.v (hz (ab rfl)) rfl rfl rfl ?_
 refine aj.nil ?_
 refine ad.next ?_
 refine ah.cond (ab rfl) (fun _=> ?_) (fun lM=>by cases lM)
 ·have jb:(J.length + aT.length - 0)=J.length + aT.length:=by omega
  have OI:(J.drop k).take (J.length - k)=J.drop k:=List.take_of_length_le (by simp)
  refine ah.seq ?_
  refine ah.le (E':= [(0,I.eq (iD (some p) 0 (J.length + aT.length - 0) hf (ai.size aI))),(1,I.of (k:Int)),(2,I.eq (a0 (some q) aT.length uj)),(7,I.of (aT.length:Int))]) (.same rfl (.same rfl (.same rfl (.same rfl .nil)))) ?_
  refine ah.ki mixed (⟨some 69,[],[],[],fun _=>I.eq (iD (some p) 0 (J.length + aT.length - 0) hf (ai.size aI)),fun _ _=>⟨none,.dead⟩⟩ :: ⟨some 70,[],[],[],fun _=>I.of (k:Int),fun _ _=>⟨none,.dead⟩⟩ :: ⟨some 71,[],[],[],fun _=>I.of (aT.length:Int),fun _ _=>⟨none,.dead⟩⟩ :: ⟨some 72,(1 :: 2 :: []),[],[],fun _=>I.of (bz ((k:Int) + (aT.length:Int))),fun _ _=>⟨none,.dead⟩⟩ :: ⟨some 73,(0 :: 3 :: []),[],[],fun _=>I.eq (iD (some p) (k + aT.length) (J.length + aT.length - (k + aT.length)) hf (ai.size aI)),fun _ _=>⟨none,.dead⟩⟩ :: ⟨some 74,[],[],[],fun _=>I.eq (iD (some p) 0 (J.length + aT.length - 0) hf (ai.size aI)),fun _ _=>⟨none,.dead⟩⟩ :: ⟨some 75,[],[],[],fun _=>I.of (k:Int),fun _ _=>⟨none,.dead⟩⟩ :: ⟨some 76,(5 :: 6 :: []),[],[],fun _=>I.eq (iD (some p) k (J.length + aT.length - k) hf (ai.size aI)),fun _ _=>⟨none,.dead⟩⟩ :: ⟨some 77,(4 :: 7 :: []),(0 :: []),(0 :: []),fun _=>I.of ((((J.drop k).take (J.length - k)).length:Nat):Int),fun _ _=>⟨some p,.AP 52 J k aT.length hf⟩⟩ :: []) ((some 69,[],[],[]) :: (some 70,[],[],[]) :: (some 71,[],[],[]) :: (some 72,(1 :: 2 :: []),[],[]) :: (some 73,(0 :: 3 :: []),[],[]) :: (some 74,[],[],[]) :: (some 75,[],[],[]) :: (some 76,(5 :: 6 :: []),[],[]) :: (some 77,(4 :: 7 :: []),(0 :: []),(0 :: [])) :: []) (0 :: 1 :: 2 :: 7 :: []) rfl rfl (by kernel_rfl) ⟨?_,?_,?_,?_,?_,?_,?_,?_,?_,trivial⟩ fun hd=> ?_
  ·exact jF rfl rfl rfl fun hd E' ay aH au=>c3 (ab (aH _ _ rfl))
  ·exact jF rfl rfl rfl fun hd E' ay aH au=>c3 (ab (aH _ _ rfl))
  ·exact jF rfl rfl rfl fun hd E' ay aH au=>c3 (ab (aH _ _ rfl))
  ·exact jF rfl rfl rfl fun hd E' ay aH au=>c9 (ab (aH _ _ rfl)) (ab (aH _ _ rfl))
  ·exact jF rfl rfl rfl fun hd E' ay aH au=>sg (α:=aI) (n:=J.length + aT.length) (m:=k + aT.length) (h:=J.length + aT.length) Tryz.underlying38 cY (C9 (size:=ai.size aI) (ab (aH _ _ rfl))) (.some (ab (aH _ _ rfl))) .none qj rfl ⟨by omega,by omega⟩
  ·exact jF rfl rfl rfl fun hd E' ay aH au=>c3 (ab (aH _ _ rfl))
  ·exact jF rfl rfl rfl fun hd E' ay aH au=>c3 (ab (aH _ _ rfl))
  ·exact jF rfl rfl rfl fun hd E' ay aH au=>sg (α:=aI) (n:=J.length + aT.length) (m:=k) (h:=J.length + aT.length) Tryz.underlying38 cY (C9 (size:=ai.size aI) (ab (aH _ _ rfl))) (.some (ab (aH _ _ rfl))) .none rfl rfl ⟨by omega,by omega⟩
  ·intro hd E' ay aH au
   have bW:=au 0 _ rfl rfl
   refine aj.DC (i:=0) (p:=p) (off:=(k + aT.length) * ai.size aI) (T:=52) (vs:=(J.drop k).take (J.length - k)) (N:=J.length + aT.length - k) (dLen:=J.length + aT.length - (k + aT.length)) (dCap:=hf - (k + aT.length)) (cp':= .AP 52 J k aT.length hf) Tryz.underlying38 cY (GK (p:=p) (lo:=k + aT.length) (cap:=hf) (size:=ai.size aI) (by omega) (ab (aH _ _ rfl))) (Gg (i:=0) (ab (aH _ _ rfl)) bW (by omega) (by omega)) (by rw [OI]; rw [show(J.drop k).length=J.length + aT.length - (k + aT.length) by simp; omega]; exact Nat.min_eq_right (by omega)) bW rfl (fun A W o cells h cZ=>TP av wK h (by rw [← OI]; exact cZ)) ?_
   refine aj.nil ?_
   exact ad.fin (eY []) rfl rfl
  refine ad.eI (L2:= [⟨some p,.AP 52 J k aT.length hf⟩,⟨some q,.row 52 aT uj⟩]) rfl ?_
  refine ad.le (E':= [(0,I.eq (iD (some p) 0 (J.length + aT.length - 0) hf (ai.size aI))),(1,I.of (k:Int)),(2,I.eq (a0 (some q) aT.length uj))]) (.same rfl (.same rfl (.same rfl .nil))) ?_
  refine ad.next ?_
  refine ah.seq ?_
  refine ah.cn ?_
  refine aj.v (c3 (ab rfl)) rfl rfl rfl ?_
  refine aj.v (c3 (ab rfl)) rfl rfl rfl ?_
  refine aj.v (sg (α:=aI) (n:=J.length + aT.length) (m:=k) (h:=J.length + aT.length) Tryz.underlying38 cY (C9 (size:=ai.size aI) (ab rfl)) (.some (ab rfl)) .none rfl rfl ⟨by omega,by omega⟩) rfl rfl rfl ?_
  refine aj.v (c3 (ab rfl)) rfl rfl rfl ?_
  refine aj.DC (i:=0) (p:=p) (off:=k * ai.size aI) (dLen:=J.length + aT.length - k) (dCap:=hf - k) (N:=aT.length) (vs:=aT) (T:=52) (cp':= .row 52 (J.take k ++ aT ++ J.drop k) hf) Tryz.underlying38 cY (GK (p:=p) (lo:=k) (cap:=hf) (size:=ai.size aI) (by omega) (ab rfl)) (L6 (i:=1) (ab rfl) rfl aX) (Nat.min_eq_left (by omega)) rfl rfl (fun A W o cells h cZ=>S7 av h cZ) ?_
  refine aj.nil ?_
  refine ad.next ?_
  refine ah.seq ?_
  refine ah.cn ?_
  refine aj.v (c3 (ab rfl)) rfl rfl rfl ?_
  refine aj.v (eG (ab rfl)) rfl rfl rfl ?_
  refine aj.nil ?_
  refine ad.next ?_
  refine ah.ret ?_
  have cL:J.length + aT.length - 0=(J.take k ++ aT ++ J.drop k).length:=by simp; omega
  rw [yO,cL]
  exact ad.hj (some p,hf) (.cons_cons _ (List.nil_sublist _)) rfl rfl (eD rfl)
end Go.Proofs.YtmnggbjcnoffeaaGreat
namespace Go.Proofs.YtmnggbjcnoffeaaGreat
open Go Gv
set_option linter.unusedVariables false
set_option linter.unusedSimpArgs false
set_option maxRecDepth 100000
set_option maxHeartbeats 2000000
theorem P8 {J:cS} {ag:aI} {aT:aI} {r:Int} (h:vo J ag aT=some r):bw Tryz.prog 273 [I.ptr J,I.of (ag),I.of (aT)] (I.of (r)):=by
 unfold vo at h
 refine bw.of Tryz.func273 rfl Tryz.ntmps273 rfl fun W A=> ?_
 refine aC ?_
 refine cf fun aS=> ?_
 refine cf fun a3=> ?_
 refine aK ?_
 refine bG ?_
 refine ah.block ?_
 refine ah.seq ?_
 obtain⟨al,bs,h⟩:=aw h
 refine ah.draw mixed 7 [some 8,some 9,some 10,some 11,some 12,some 13,some 14] [[],[0],[1],[2],[],[],[3,4,5]] [.val _,.val _,.val _,.val _,.val _,.val _,.val _] [false,false,false,false,false,false,false] (by kernel_rfl) rfl rfl rfl (fun cV=>⟨cR,H1 zf,nq BQ Gh,H1 (c2 fH),e1 1 cY,e1 0 cY,e8 Hf (Fi bs),trivial⟩) fun cV=> ?_
 refine aK ?_
 refine aJ ?_
 refine ch h (fun h=>?_) fun h=>?_
 ·refine aC ?_
  refine aK ?_
  refine aJ ?_
  refine ah.ret ?_
  refine ad.dQ ?_
  refine ad.ret ?_
  obtain rfl:=aG h
  exact c8
 ·refine ah.seq ?_
  obtain⟨aN,ck,h⟩:=aw h
  refine ah.draw mixed 7 [some 16,some 17,some 18,some 19,some 20,some 21,some 22] [[],[0],[1],[2],[],[],[3,4,5]] [.val _,.val _,.val _,.val _,.val _,.val _,.val _] [false,false,false,false,false,false,false] (by kernel_rfl) rfl rfl rfl (fun hB=>⟨cR,H1 zf,nq BQ Gh,H1 (c2 fH),e1 0 cY,e1 1 cY,e8 Hf (Fi ck),trivial⟩) fun hB=> ?_
  refine aK ?_
  refine aJ ?_
  refine ch h (fun h=>?_) fun h=>?_
  ·refine aC ?_
   refine aK ?_
   refine aJ ?_
   refine ah.ret ?_
   refine ad.dQ ?_
   refine ad.ret ?_
   obtain rfl:=aG h
   exact c8
  ·refine ah.skip ?_
   refine ad.dG ?_
   refine ad.next ?_
   refine aC ?_
   refine aK ?_
   refine aJ ?_
   refine ah.ret ?_
   obtain rfl:=aG h
   exact c8
theorem PQ {ag:cS} {aT:Vector ak 4} {hT:Nat} {lp:Option Nat} {lq:Nat} :tY Tryz.prog 277 [I.td (I.eq (.pointer (some ⟨hT,0,none⟩))),I.ptr aT] [⟨some hT,.cz (({ ag with cu:= [] } :cS):cS) [(10,a0 lp ag.cu.length lq)]⟩,⟨lp,.row 52 (ag.cu:List aI) lq⟩] (fun v:aI=>I.of v) (fun {σ ε} =>xz (σ:=σ) (ε:=ε) ag aT):=by
 refine tY.of Tryz.func277 rfl Tryz.ntmps277 rfl ?_
 intro σ ε γ Ls Lx step cd g0 r h W A u qs
 replace h:xz ag aT step cd=some r:=h
 unfold xz at h
 refine aC ?_
 refine bj (L7 Tryz.underlying170 rfl (ab rfl)) ?_
 refine aY ff ?_
 refine aY (aW vY) ?_
 refine bj (iH (i:=0) (q:=0) (β:=cS) (γ:=aI) sN (ab rfl) rfl rfl) ?_
 refine bj (sw (i:=1) Tryz.underlying38 (ab rfl) rfl rfl) ?_
 refine aB ?_
 refine aJ ?_
 refine ah.block ?_
 obtain⟨aA,ao,h⟩:=aw h
 refine ah.q3 (σ:=Int × (σ)) (ε:=(Int × Bool × (σ)) ⊕ (Int × Bool × Bool × (ε))) (γ:=γ) (δ:=γ) ao (fun s1 az=> [(0,I.eq u),(1,I.td (I.eq (.pointer (some ⟨hT,0,none⟩)))),(2,I.ptr aT),(9,I.eq (a0 lp ag.cu.length lq)),(10,I.of (ag.cu.length:Int)),(11,I.of (s1.1))]) (fun s1 az=>(⟨some hT,.cz (({ ag with cu:= [] } :cS):cS) [(10,a0 lp ag.cu.length lq)]⟩ :: ⟨lp,.row 52 (ag.cu:List aI) lq⟩ :: Ls s1.2 az)) (fun aF=>Sum.elim (fun aF=>Exit.exit 0) (fun aF=>Exit.ret) aF) (fun aF az=>Sum.elim (fun aF=> [(0,I.eq u),(1,I.td (I.eq (.pointer (some ⟨hT,0,none⟩)))),(2,I.ptr aT),(9,I.eq (a0 lp ag.cu.length lq)),(10,I.of (ag.cu.length:Int)),(11,I.of (aF.1)),(12,I.of (aF.2.1))]) (fun aF=> [(0,I.eq u),(1,I.td (I.eq (.pointer (some ⟨hT,0,none⟩)))),(2,I.ptr aT),(9,I.eq (a0 lp ag.cu.length lq)),(10,I.of (ag.cu.length:Int)),(11,I.of (aF.1)),(12,I.of (aF.2.1)),(28,I.of (aF.2.2.1))]) aF) (fun aF az=>Sum.elim (fun aF=>(⟨some hT,.cz (({ ag with cu:= [] } :cS):cS) [(10,a0 lp ag.cu.length lq)]⟩ :: ⟨lp,.row 52 (ag.cu:List aI) lq⟩ :: Ls aF.2.2 az)) (fun aF=>(⟨some hT,.cz (({ ag with cu:= [] } :cS):cS) [(10,a0 lp ag.cu.length lq)]⟩ :: ⟨lp,.row 52 (ag.cu:List aI) lq⟩ :: Lx aF.2.2.2 az)) aF) g0 rfl (.same rfl (.same rfl (.same rfl (.same rfl (.same rfl (.same rfl .nil)))))) (fun s1 r h az=> ?_) (fun az=> ?_)
 ·clear ao
  refine aC ?_
  refine bf eb ?_
  refine bG ?_
  refine ch h (fun h=>?_) fun h=>?_
  ·refine cJ ?_
   refine ah.seq ?_
   refine ah.block ?_
   refine aC ?_
   obtain⟨aZ,cv,h⟩:=aw h
   refine bj (p0 (i:=1) (k:=aZ) (xs:=(ag.cu:List aI)) Tryz.underlying38 cY (ab rfl) (ab rfl) rfl (cc cv)) ?_
   refine bj (CX (i:=1) (k:=aZ) (aL.id aI) (r:=(ax ag.cu aZ)) cY (ab rfl) rfl (cc cv).1 rfl rfl) ?_
   refine cx hh fun aS=> ?_
   refine b3 0 cY ?_
   refine bG ?_
   obtain⟨al,bs,h⟩:=aw h
   refine ah.draw mixed 11 [some 15,some 16,some 17,some 18,some 19,some 20,some 21,some 22,some 23,some 24,some 25] [[],[0],[1],[2],[],[4],[],[3,5,6],[7],[8],[8]] [.val _,.val _,.val _,.val _,.val _,.val _,.val _,.val _,.val _,.val _,.val _] [false,false,false,false,false,false,false,false,false,false,false] (by kernel_rfl) rfl rfl rfl (fun cV=>⟨du fun ay au=>L7 Tryz.underlying170 rfl (ab rfl),H1 ff,H1 (aW Gh),du fun ay au=>CW (i:=1) ((aL.id cS).comp BQ) (r:=ag.nH) fH (ab rfl) (au _ _ rfl rfl) rfl rfl (by rfl),H1 (aW my),dy 0 k0 iC,H1 (c2 dv),e8 V3 (Q2 bs),cR,fa fun ay au=>fun hb=>c3 (ab rfl),fa fun ay au=>fun hb=>fj (i:=0) (aL.id aI) (r:=(ax ag.cu aZ)) cY (ab rfl) (au _ _ rfl rfl) rfl rfl,trivial⟩) fun cV=> ?_
   refine aj.cases al (fun hb=> ?_) (fun hb=> ?_)
   ·replace h:=gQ hb h
    obtain⟨aN,ck,h⟩:=aw h
    refine aj.MJ (Lin:= [⟨some aS,.var ((ax ag.cu aZ):aI)⟩,⟨some hT,.cz (({ ag with cu:= [] } :cS):cS) [(10,a0 lp ag.cu.length lq)]⟩,⟨lp,.row 52 (ag.cu:List aI) lq⟩]) (Ls:=Ls) (Lx:=Lx) (step:=step) (s:=s1.2) (gg:=az) rfl qs hb rfl rfl rfl (ct rfl hb) ck rfl (fun s2 aQ a5=> ?_) (fun cT aQ a5=> ?_)
    ·subst aQ; simp only [Sum.elim_inl] at h
     refine aj.eI (L2:=(⟨some aS,.var ((ax ag.cu aZ):aI)⟩ :: ⟨some hT,.cz (({ ag with cu:= [] } :cS):cS) [(10,a0 lp ag.cu.length lq)]⟩ :: ⟨lp,.row 52 (ag.cu:List aI) lq⟩ :: Ls s2 a5)) rfl ?_
     refine dE hz ?_
     refine ja ?_
     refine aJ ?_
     refine ah.q2 (ab rfl) (by first | rfl | (rw [hb]; rfl)) ?_
     refine ah.skip ?_
     refine ad.dG ?_
     refine ad.next ?_
     refine ah.cn ?_
     refine bf c9 ?_
     refine aB ?_
     refine aj.nil ?_
     obtain rfl:=aG h
     exact e0 a5 1
    ·subst aQ; simp only [Sum.elim_inr] at h
     refine aj.eI (L2:=(⟨some aS,.var ((ax ag.cu aZ):aI)⟩ :: ⟨some hT,.cz (({ ag with cu:= [] } :cS):cS) [(10,a0 lp ag.cu.length lq)]⟩ :: ⟨lp,.row 52 (ag.cu:List aI) lq⟩ :: Lx cT a5)) rfl ?_
     refine dE hz ?_
     refine ja ?_
     refine aJ ?_
     refine ah.Dp (ab rfl) (by first | rfl | (rw [hb]; rfl)) ?_
     refine ah.ret ?_
     refine ad.dQ ?_
     refine ad.ret ?_
     obtain rfl:=aG h
     exact dU a5 1
   ·replace h:=gR hb h
    refine aj.NF (.of false) hb rfl rfl rfl rfl rfl ?_
    refine dE hz ?_
    refine ja ?_
    refine aJ ?_
    refine ah.q2 (ab rfl) (by first | rfl | (rw [hb]; rfl)) ?_
    refine ah.skip ?_
    refine ad.dG ?_
    refine ad.next ?_
    refine ah.cn ?_
    refine bf c9 ?_
    refine aB ?_
    refine aj.nil ?_
    obtain rfl:=aG h
    exact e0 az 1
  ·refine ah.exit ?_
   refine ad.exit ?_
   obtain rfl:=aG h
   exact dU az 0
 ·clear ao
  rcases aA with aA | aA
  ·simp only [Sum.elim_inl] at h
   refine ad.eT ?_
   refine ad.sM ?_
   refine ad.bU 1 rfl ?_
   refine ad.bU 1 rfl ?_
   obtain rfl:=aG h
   exact ad.ox az (.cons_cons _ (.cons_cons _ (.refl _))) rfl rfl
  ·simp only [Sum.elim_inr] at h
   refine ad.dQ ?_
   refine ad.bU 1 rfl ?_
   refine ad.bU 1 rfl ?_
   obtain rfl:=aG h
   exact ad.ox az (.cons_cons _ (.cons_cons _ (.refl _))) rfl rfl
end Go.Proofs.YtmnggbjcnoffeaaGreat
namespace Go.Proofs.YtmnggbjcnoffeaaGreat
open Go Gv
set_option linter.unusedVariables false
set_option linter.unusedSimpArgs false
set_option maxRecDepth 100000
set_option maxHeartbeats 2000000
theorem P9 {J:cS} {ag:aI} {cl:Nat} {jS:Option Nat} {jT:Nat} {r:Bool × cS} (h:xJ J ag=some r):cy Tryz.prog 267 [I.eq (.pointer (some ⟨cl,0,none⟩)),I.of (ag)] [⟨some cl,.cz (({ J with cu:= [] } :cS):cS) [(10,a0 jS J.cu.length jT)]⟩,⟨jS,.row 52 (J.cu:List aI) jT⟩] (δ:=(Option Nat × Nat)) (fun d=>I.of (r.1)) (fun d=> [⟨some cl,.cz (({ r.2 with cu:= [] } :cS):cS) [(10,a0 d.1 (r.2.cu).length d.2)]⟩,⟨d.1,.row 52 (r.2.cu:List aI) d.2⟩]):=by
 unfold xJ at h
 refine cy.of Tryz.func267 rfl Tryz.ntmps267 rfl fun W A=> ?_
 refine aC ?_
 refine cf fun aS=> ?_
 refine aK ?_
 refine bG ?_
 refine aC ?_
 refine aB ?_
 refine bj (GJ Tryz.underlying170 (ab rfl)) ?_
 refine aB ?_
 refine dE c3 ?_
 refine dE (aW lu) ?_
 refine eW (fun hb=>fj (i:=0) ((aL.id aI).comp kd) (r:=ag.cH) bE (ct rfl hb) rfl rfl rfl) ?_
 obtain⟨al,bs,h⟩:=aw h
 refine eW (fun hb=>b7.V4 (β:=cS) (γ:=aI) (b':=(J:cS)) ((aL.id cS).comp xX) 1 2 0 rfl rfl rfl rfl rfl rfl tL (b7.NN 1 rfl tL (b7.NO (z:=(J:cS)) 1 11 rfl (fun _ _ _ h=>h.1 hb) rfl tL (hP V5 (Qc (ha bs hb)) ⟨ab rfl,ct rfl hb,trivial⟩)))) ?_
 refine kn jU ?_
 refine qg ?_
 refine aJ ?_
 refine ch h (fun h=>?_) fun h=>?_
 ·refine aC ?_
  refine aK ?_
  refine aJ ?_
  refine ah.ret ?_
  refine ad.ret ?_
  refine ad.bU 2 rfl ?_
  refine ad.bU 2 rfl ?_
  obtain rfl:=aG h
  exact la (jS,jT)
 ·refine cJ ?_
  refine aC ?_
  refine aB ?_
  refine bj (V6 (ab rfl)) ?_
  refine aK ?_
  refine bG ?_
  obtain⟨aN,ck,h⟩:=aw h
  refine jq [0,1,3,4,5,8,9,10,11,12,13,14,15,16,17,18] ?_
  refine ah.ki mixed (bh 20 [] [] _ :: bh 21 (0 :: []) [] _ :: bh 22 (1 :: []) [] _ :: bh 23 (2 :: []) (1 :: []) _ :: bh 24 [] (0 :: []) _ :: bh 25 [] [] _ :: bh 26 (3 :: 4 :: 5 :: []) (1 :: 2 :: []) _ :: bh 19 (6 :: []) [] _ :: bh 27 (7 :: []) [] _ :: bh 28 (7 :: []) [] _ :: bh 6 (8 :: []) [] _ :: bh 7 (9 :: []) [] _ :: []) _ (0 :: 1 :: 3 :: 4 :: 5 :: 8 :: 9 :: 10 :: 11 :: 12 :: 13 :: 14 :: 15 :: 16 :: 17 :: 18 :: []) rfl rfl (by kernel_rfl) ⟨gA,fv ff,fv (aW vY),cP fun hd E' ay aH au=>iH (i:=1) (q:=0) (β:=cS) (γ:=aI) sN (ab (aH _ _ rfl)) (au 1 _ rfl rfl) rfl,lJ 0 cY,gA,cP fun hd E' ay aH au=>b7.UC (β:=cS) (γ:=aI) (b':=(J:cS)) ((aL.id cS).comp xX) 1 2 0 23 rfl (au 1 _ rfl rfl) (au 2 _ rfl rfl) rfl rfl rfl (aH _ _ rfl) (FC tL CI) (b7.NN 1 (Ic (OJ rfl (au 1 _ rfl rfl))) (FC tL CI) (b7.UD (F:=(fun fM dY=>vo J fM dY)) 1 25 (aH _ _ rfl) (Ic (Ic (OJ rfl (au 1 _ rfl rfl)))) V7 (fun _ _ _ h=>P8 h) (FC tL CI) (hP V8 (PL ck) ⟨ab rfl,ab (aH _ _ rfl),ab rfl,trivial⟩))),gA,cP fun hd E' ay aH au=>lz (ab (aH _ _ rfl)) rfl,cP fun hd E' ay aH au=>lz (ab (aH _ _ rfl)) rfl,cP fun hd E' ay aH au=>eG (ab (aH _ _ rfl)),cP fun hd E' ay aH au=>eG (ab (aH _ _ rfl)),trivial⟩ fun gj=> ?_
  refine ad.eI (L2:= [⟨some aS,.var (ag:aI)⟩,⟨some cl,.cz (({ J with cu:= [] } :cS):cS) [(10,a0 jS J.cu.length jT)]⟩,⟨jS,.row 52 (J.cu:List aI) jT⟩]) rfl ?_
  refine ko [0,1,3,4,5,6,7,8,9,10,11,12,13,14,15,16,17,18,19,20,21,22,23,24,25,26,27,28] ?_
  refine ad.next ?_
  refine ah.seq ?_
  obtain⟨a7,dR,h⟩:=aw h
  obtain⟨bR,e2,h⟩:=aw h
  refine ah.ri 1 ?_
  refine jq [0,1,3,4,5,6,7,8,9,10,11,12,13,14,15,16,17,18,19,20,21,22,23,24,25,26,27,28] ?_
  refine ah.ki mixed (bh 29 [] [] _ :: bh 30 [] [] _ :: bh 31 (1 :: []) [] _ :: bh 32 (2 :: []) [] _ :: bh 33 (3 :: []) (1 :: []) _ :: bh 34 [] [] _ :: bh 35 [] (0 :: []) _ :: bh 36 (6 :: []) [] _ :: ⟨some 37,(7 :: []),(3 :: []),(3 :: []),fun hd=>I.eq (a0 (hd 8 0) [a7].length 1),fun hd _=>⟨(hd 8 0),.row 52 ([a7]:List aI) 1⟩⟩ :: ⟨some 38,(4 :: 5 :: 8 :: []),(2 :: 3 :: []),(2 :: 3 :: []),fun hd=>I.eq (a0 (hd 9 0) bR.length ((hd 9 1).getD 0)),fun hd j=>bif Nat.beq j 2 then⟨(hd 9 0),.row 52 (bR:List aI) ((hd 9 1).getD 0)⟩ else⟨none,.dead⟩⟩ :: bh 39 (0 :: []) [] _ :: bh 40 (10 :: []) [] _ :: ⟨none,(4 :: 9 :: 11 :: []),(1 :: []),(1 :: []),fun _=>I.any,fun hd _=>⟨some cl,.cz (({ J with cu:= [] } :cS):cS) [(10,a0 (hd 9 0) bR.length ((hd 9 1).getD 0))]⟩⟩ :: []) _ (0 :: 1 :: 3 :: 4 :: 5 :: 6 :: 7 :: 8 :: 9 :: 10 :: 11 :: 12 :: 13 :: 14 :: 15 :: 16 :: 17 :: 18 :: 19 :: 20 :: 21 :: 22 :: 23 :: 24 :: 25 :: 26 :: 27 :: 28 :: []) rfl rfl (by kernel_rfl) ⟨gA,gA,fv ff,fv (aW vY),cP fun hd E' ay aH au=>iH (i:=1) (q:=0) (β:=cS) (γ:=aI) sN (ab (aH _ _ rfl)) (au 1 _ rfl rfl) rfl,gA,lJ 0 cY,cP fun hd E' ay aH au=>hP Ai (yk dR) ⟨ab (aH _ _ rfl),trivial⟩,?_,?_,fv ff,fv (aW vY),?_,trivial⟩ fun j4=> ?_
  ·intro hd E' ay aH au
   refine aj.o8 (α:=aI) (r:= [a7]) Tryz.underlying38 cY hh rfl rfl (.cons (by simp) (ab (aH _ _ rfl)) (.nil)) rfl fun gZ=> ?_
   refine aj.nil ?_
   refine ad.place 3 (au 3 _ rfl rfl) ?_
   exact ad.fin (eY [gZ]) rfl rfl
  ·intro hd E' ay aH au
   refine aj.UE (fun q=>⟨q.1,.row 52 (bR:List aI) q.2⟩) 2 3 V9 (PM e2) ⟨ab (aH _ _ rfl),ab (aH _ _ rfl),ab (aH _ _ rfl),trivial⟩ rfl (au 2 _ rfl rfl) (au 3 _ rfl rfl) (fun _=>rfl) rfl fun⟨jZ,fA⟩=> ?_
   refine aj.nil ?_
   exact ad.fin (eY [jZ,some fA]) rfl rfl
  ·intro hd E' ay aH au
   refine aj.jj (i:=1) (γ:=aI) (b':=(({ J with cu:= [] } :cS):cS)) (os':= [(10,a0 (hd 9 0) bR.length ((hd 9 1).getD 0))]) ((aL.id cS).comp xX) sN (ab (aH _ _ rfl)) (ab (aH _ _ rfl)) iA (au 1 _ rfl rfl) rfl rfl rfl ?_
   refine aj.nil ?_
   exact ad.fin (eY []) rfl rfl
  refine ad.eI (L2:= [⟨some aS,.var (ag:aI)⟩,⟨some cl,.cz (({ J with cu:= [] } :cS):cS) [(10,a0 (j4 9 0) bR.length ((j4 9 1).getD 0))]⟩,⟨(j4 9 0),.row 52 (bR:List aI) ((j4 9 1).getD 0)⟩,⟨none,.dead⟩]) rfl ?_
  refine ko [0,1,3,4,5,6,7,8,9,10,11,12,13,14,15,16,17,18,19,20,21,22,24,25,26,27,28,29,30,31,32,34,35,36,38,39,40] ?_
  refine ad.bU 3 rfl ?_
  refine ad.next ?_
  refine aC ?_
  refine aK ?_
  refine aJ ?_
  refine ah.ret ?_
  refine ad.bU 3 rfl ?_
  refine ad.bU 3 rfl ?_
  obtain rfl:=aG h
  exact la ((j4 9 0),((j4 9 1).getD 0))
theorem PX {J:cS} {ag:Vector ak 4} {cl:Nat} {jS:Option Nat} {jT:Nat} {r:aI × Bool} (h:vj J ag=some r):cy Tryz.prog 266 [I.eq (.pointer (some ⟨cl,0,none⟩)),I.of (ag)] [⟨some cl,.cz (({ J with cu:= [] } :cS):cS) [(10,a0 jS J.cu.length jT)]⟩,⟨jS,.row 52 (J.cu:List aI) jT⟩] (δ:=Unit) (fun d=>I.cN [I.of (r.1),I.of (r.2)]) (fun d=> [⟨some cl,.cz (({ J with cu:= [] } :cS):cS) [(10,a0 jS (J.cu).length jT)]⟩,⟨jS,.row 52 (J.cu:List aI) jT⟩]):=by
 unfold vj at h
 refine cy.ofM Tryz.func266 rfl Tryz.ntmps266 rfl fun W A=> ?_
 refine aC ?_
 refine cf fun aS=> ?_
 refine cx hh fun a3=> ?_
 refine cx Ea fun bH=> ?_
 refine bG ?_
 refine aC ?_
 refine aB ?_
 refine bj (GJ Tryz.underlying170 (ab rfl)) ?_
 refine aJ ?_
 refine ah.q2 (ab rfl) rfl ?_
 refine cJ ?_
 refine ah.seq ?_
 refine aC ?_
 refine aB ?_
 refine b6 2 dv ?_
 obtain⟨al,bs,h⟩:=aw h
 refine dc Wa (P3 bs) ?_
 refine aJ ?_
 refine ah.block ?_
 refine ah.bU 4 rfl ?_
 refine ah.bU 4 rfl ?_
 obtain⟨aA,ao,h⟩:=aw h
 refine Lq (γ:=Unit) (g0:=()) (Lin:= [⟨some cl,.cz (({ J with cu:= [] } :cS):cS) [(10,a0 jS J.cu.length jT)]⟩,⟨jS,.row 52 (J.cu:List aI) jT⟩]) (Ls:=fun s1 az=> [⟨some bH,.var ((default:Bool):Bool)⟩,⟨some a3,.var ((default:aI):aI)⟩,⟨some aS,.var (ag:Vector ak 4)⟩]) (Lx:=fun aF az=> [⟨some bH,.var (aF.1:Bool)⟩,⟨some a3,.var (aF.2:aI)⟩,⟨some aS,.var (ag:Vector ak 4)⟩]) (fun aF=> .ret) rfl Wb rfl PQ ao rfl rfl (fun oH s1 r h az kr kz ks l D rec ry=> ?_) (fun s1 aQ az D=> ?_) (fun aF aQ az D=> ?_)
 ·clear ao
  refine ah.cn ?_
  refine cx hh fun cA=> ?_
  refine b3 0 cY ?_
  refine aj.nil ?_
  refine ad.begin 1 rfl ry ?_
  refine ah.block ?_
  refine aC ?_
  refine b6 0 cY ?_
  obtain⟨aN,ck,h⟩:=aw h
  refine dc Ai (yk ck) ?_
  refine b3 4 cY ?_
  refine b3 3 ir ?_
  refine aJ ?_
  refine ah.ret ?_
  refine ad.dQ ?_
  obtain rfl:=aG h
  exact ad.GG () 1 rfl rfl rfl
 ·clear ao; subst aQ; simp only [Sum.elim_inl] at h
  refine ad.eI (L2:= [⟨some D,.dn⟩,⟨some cl,.cz (({ J with cu:= [] } :cS):cS) [(10,a0 jS J.cu.length jT)]⟩,⟨jS,.row 52 (J.cu:List aI) jT⟩,⟨some bH,.var ((default:Bool):Bool)⟩,⟨some a3,.var ((default:aI):aI)⟩,⟨some aS,.var (ag:Vector ak 4)⟩]) rfl ?_
  refine ad.dG ?_
  refine ad.next ?_
  refine aC ?_
  refine gV wQ hh (default:aI) .nil ?_
  refine b3 4 cY ?_
  refine b3 3 ir ?_
  refine aJ ?_
  refine ah.ret ?_
  refine ad.bU 2 rfl ?_
  refine ad.bU 2 rfl ?_
  obtain rfl:=aG h
  refine ad.sO 2 rfl rfl ?_
  exact ad.k5 () (.cons_cons _ (.cons_cons _ (List.nil_sublist _))) rfl rfl (jV (i:=4) cY rfl rfl) (jV (i:=3) ir rfl rfl)
 ·clear ao; subst aQ; simp only [Sum.elim_inr] at h
  refine ah.ret ?_
  refine ad.eI (L2:= [⟨some D,.dn⟩,⟨some cl,.cz (({ J with cu:= [] } :cS):cS) [(10,a0 jS J.cu.length jT)]⟩,⟨jS,.row 52 (J.cu:List aI) jT⟩,⟨some bH,.var (aF.1:Bool)⟩,⟨some a3,.var (aF.2:aI)⟩,⟨some aS,.var (ag:Vector ak 4)⟩]) rfl ?_
  refine ad.dQ ?_
  refine ad.ret ?_
  refine ad.bU 2 rfl ?_
  refine ad.bU 2 rfl ?_
  obtain rfl:=aG h
  refine ad.sO 2 rfl rfl ?_
  exact ad.k5 () (.cons_cons _ (.cons_cons _ (List.nil_sublist _))) rfl rfl (jV (i:=4) cY rfl rfl) (jV (i:=3) ir rfl rfl)
end Go.Proofs.YtmnggbjcnoffeaaGreat
namespace Go.Proofs.YtmnggbjcnoffeaaGreat
open Go Gv
set_option linter.unusedVariables false
set_option linter.unusedSimpArgs false
set_option maxRecDepth 100000
set_option maxHeartbeats 2000000
theorem J6 {J:a2} {ag:List aI} {aT:Int} {r:a4 × (List a4) × Int} (h:vy J ag aT=some r):bw Tryz.prog 80 [I.of (J),I.of (ag),I.of (aT)] (I.cN [I.of (r.1),I.of (r.2.1),I.of (r.2.2)]):=by
 unfold vy at h
 refine bw.ofM Tryz.func80 rfl Tryz.ntmps80 rfl fun W A=> ?_
 refine aC ?_
 refine cf fun aS=> ?_
 refine cf fun a3=> ?_
 refine cx h1 fun bH=> ?_
 refine bj (eG (look_nil (α:=a4))) ?_
 refine aK ?_
 refine bZ ?_
 refine aB ?_
 refine aj.share (α:=Int) 1 5 rfl rfl ?_
 refine bj (wa (F:=(fun fM=>BY fM aT)) (τs:= [I.ptr aT]) Wc ⟨ab rfl,trivial⟩ (fun _ _ h=>Qf h)) ?_
 obtain⟨al,bs,h⟩:=aw h
 refine dc Nj (JK bs) ?_
 refine aK ?_
 refine bG ?_
 refine aC ?_
 refine aB ?_
 refine bf eb ?_
 refine aJ ?_
 refine ch h (fun h=>?_) fun h=>?_
 ·refine aC ?_
  refine gV wD h1 (default:a4) .nil ?_
  refine b3 0 c0 ?_
  refine bj (eG (look_nil (α:=a4))) ?_
  refine aK ?_
  refine aJ ?_
  refine ah.ret ?_
  refine ad.ret ?_
  obtain rfl:=aG h
  refine ad.wS ?_
  exact ad.qa rfl (eH 0 c0) (h9 rfl) (h9 rfl)
 ·refine cJ ?_
  refine ah.seq ?_
  obtain⟨aZ,cv,h⟩:=aw h
  obtain⟨aN,ck,h⟩:=aw h
  refine ah.draw mixed 8 [some 21,some 22,some 23,some 24,some 25,some 26,some 27,some 28] [[],[],[],[1,2],[3],[4],[5],[0,6]] [.val _,.val _,.val _,.val _,.val _,.val _,.val _,.val _] [false,false,false,false,false,false,false,false] (by kernel_rfl) rfl rfl rfl (fun cV=>⟨e1 2 fH,cR,cR,lI cv Tryz.underlying38 cY,nq k0 my,nq rZ zh,H1 (c2 bE),e8 DN (Co ck),trivial⟩) fun cV=> ?_
  refine aK ?_
  refine bG ?_
  refine aC ?_
  refine aB ?_
  refine bf jU ?_
  refine aB ?_
  refine dE (aW l2) ?_
  refine eW (fun hb=>fj (i:=2) ((aL.id a2).comp lX) (r:=J.bm) lC (ct rfl hb) rfl rfl rfl) ?_
  refine dE c3 ?_
  obtain⟨b0,de,h⟩:=aw h
  refine eW (fun hb=>o3 (k:=b0) Tryz.underlying28 fS (ct rfl hb) (ct rfl hb) (cc (ha de hb))) ?_
  refine eW (fun hb=>zL iV kh (ct rfl hb) rfl rfl) ?_
  refine dE (c2 jY) ?_
  obtain⟨a7,dR,h⟩:=aw h
  refine eW (fun hb=>hP Wd (PR (ha dR hb)) ⟨ct rfl hb,Ln We (fun _ _=>Qg),trivial⟩) ?_
  refine ja ?_
  refine aJ ?_
  refine ch h (fun h=>?_) fun h=>?_
  ·refine aC ?_
   refine gV wD h1 (default:a4) .nil ?_
   refine b3 0 c0 ?_
   refine bj (eG (look_nil (α:=a4))) ?_
   refine aK ?_
   refine aJ ?_
   refine ah.ret ?_
   refine ad.ret ?_
   obtain rfl:=aG h
   refine ad.wS ?_
   exact ad.qa rfl (eH 0 c0) (h9 rfl) (h9 rfl)
  ·refine cJ ?_
   refine ah.seq ?_
   obtain⟨c1,fl,h⟩:=aw h
   obtain⟨bR,e2,h⟩:=aw h
   refine ah.draw mixed 12 [some 42,some 43,some 44,some 45,some 46,some 47,some 48,some 41,some 49,some 50,some 11,none] [[],[],[],[1,2],[3],[4],[0,5],[6],[7],[7],[],[8,10]] [.val _,.val _,.val _,.val _,.val _,.val _,.val _,.val _,.val _,.val _,.new (.var (default:a4)),.lK 10 (.var (bR.1:a4))] [false,false,false,false,false,false,false,false,false,false,false,true] (by kernel_rfl) rfl rfl rfl (fun hB=>⟨e1 2 fH,cR,cR,lI fl Tryz.underlying38 cY,nq k0 my,H1 (c2 iC),e8 ND (K1 e2),cR,sU,sU,tK h1,⟨rfl,_,rfl,fun ay q hq=>qU (i:=q) (aL.id a4) (v:=(bR.1:a4)) (b':=(bR.1:a4)) c0 (ab rfl) (ab rfl) hq rfl rfl⟩,trivial⟩) fun hB=> ?_
   refine aK ?_
   refine bZ ?_
   refine aj.oX (z:=(default:List a4)) [0] TQ Wf rfl fun cA=> ?_
   refine aj.own (α:=a4) 155 ?_
   refine bG ?_
   refine ah.seq ?_
   obtain⟨fm,iZ,h⟩:=aw h
   obtain⟨br,g2,h⟩:=aw h
   refine ah.draw mixed 7 [some 51,some 52,some 53,some 54,some 55,some 56,some 57] [[],[],[],[],[2,3],[4],[0,1,5]] [.val _,.val _,.val _,.val _,.val _,.val _,.val _] [false,false,false,false,false,false,false] (by kernel_rfl) rfl rfl rfl (fun qh=>⟨e1 5 fH,cR,cR,cR,lI iZ Tryz.underlying38 cY,H1 (c2 cY),e8 Wg (QT g2),trivial⟩) fun qh=> ?_
   refine aJ ?_
   refine ah.block ?_
   obtain⟨aA,ao,h⟩:=aw h
   refine Lq (γ:=(Option Nat × Nat)) (g0:=(none,0)) (Lin:= []) (Ls:=fun s1 az=> [⟨az.1,.row 155 (s1.1:List a4) az.2⟩,⟨some cA,.cz (s1.2:List a4) [(0,a0 az.1 s1.1.length az.2)]⟩,⟨some (hB 10),.var (bR.1:a4)⟩,⟨some bH,.var ((default:a4):a4)⟩,⟨none,.dead⟩,⟨some aS,.var (J:a2)⟩]) (Lx:=fun aF az=>Empty.elim aF) (fun aF=>Empty.elim aF) rfl Wh rfl Qo ao rfl rfl (fun oH s1 r h az kr kz ks l D rec ry=> ?_) (fun s1 aQ az D=> ?_) (fun aF aQ az D=> ?_)
   ·clear ao
    refine ah.cn ?_
    refine cx h1 fun hD=> ?_
    refine b3 0 c0 ?_
    refine aj.nil ?_
    refine ad.begin 1 rfl ry ?_
    refine ah.block ?_
    refine ah.cn ?_
    refine bj (iH (i:=4) (q:=0) (β:=List a4) (γ:=a4) Hj (ab rfl) rfl rfl) ?_
    refine b6 0 c0 ?_
    refine gy [oH] Tryz.underlying156 c0 h1 ?_
    obtain⟨b8,g3,h⟩:=aw h
    refine jI 3 Tryz.underlying156 c0 h1 g3 fun gZ fA=> ?_
    refine aj.jj (i:=4) (γ:=a4) (b':=([]:List a4)) (os':= [(0,a0 gZ b8.length fA)]) (aL.id (List a4)) Hj (ab rfl) (ab rfl) iA rfl rfl rfl rfl ?_
    refine aj.nil ?_
    refine ad.dG ?_
    obtain rfl:=aG h
    exact ad.H9 (gZ,fA) 1 rfl
   ·clear ao; subst aQ; simp only [Sum.elim_inl] at h
    refine ad.eI (L2:= [⟨some D,.dn⟩,⟨az.1,.row 155 (s1.1:List a4) az.2⟩,⟨some cA,.cz (s1.2:List a4) [(0,a0 az.1 s1.1.length az.2)]⟩,⟨some (hB 10),.var (bR.1:a4)⟩,⟨some bH,.var ((default:a4):a4)⟩,⟨none,.dead⟩,⟨some aS,.var (J:a2)⟩]) rfl ?_
    refine ad.dG ?_
    refine ad.next ?_
    refine ah.seq ?_
    refine ah.draw mixed 3 [some 63,some 64,none] [[],[],[0]] [.val _,.val _,.j3 4 (.var (bR.1:a4))] [false,false,true] (by kernel_rfl) rfl rfl rfl (fun AN=>⟨e1 3 c0,du fun ay au=>iH (i:=2) (q:=0) (β:=List a4) (γ:=a4) Hj (ab rfl) (au _ _ rfl (by kernel_rfl)) rfl,⟨_,_,rfl,fun ay au=>qU (i:=4) (aL.id a4) (v:=(bR.1:a4)) (b':=(bR.1:a4)) c0 (ab rfl) (ab rfl) (au _ _ rfl) rfl rfl⟩,trivial⟩) fun AN=> ?_
    refine aK ?_
    refine aK ?_
    refine aJ ?_
    refine ah.ret ?_
    refine ad.sK (β:=List a4) (γ:=a4) (b':=(s1.1:List a4)) (aL.id (List a4)) 2 1 0 7 rfl rfl rfl rfl rfl rfl rfl ?_
    refine ad.nQ 2 rfl ?_
    obtain rfl:=aG h
    refine ad.sO 0 rfl rfl ?_
    exact ad.qa rfl (eH 4 c0) (h9 rfl) (h9 rfl)
   ·exact Empty.elim aF
theorem Qq {hp:a9 Cell} {y:gL} {J:bJ} {r:Int × Bool} (h:EZ hp y J=some r):lx Tryz.prog "matchguard/index.find" (I.of y) [I.of (J)] ([] ++ ba hp) (δ:=Unit) (fun _=>I.cN [I.of (r.1),I.of (r.2)]) (fun _=> [] ++ ba hp):=by
 cases y with
 | nil=>cases h
 | mE z=>exact lx.of Sr (fun A W u hu=>FD hu) (Qv h)
 | mF z=>exact lx.of Ss (fun A W u hu=>FE hu) (Qh h)
 | mG z=>exact lx.of St (fun A W u hu=>FF hu) (QB h)
theorem QL {hp:a9 Cell} {J:jB} {ag:aI} {Q:(a9 Cell)→Prop} (h:yb hp J ag Q):cy Tryz.prog 262 [I.of (J),I.of (ag)] ([] ++ ba hp) (δ:= {r:(a9 Cell) // Q r} × Unit) (fun d=>I.cN []) (fun d=> [] ++ ba d.1.1):=by
 unfold yb at h
 refine cy.of Tryz.func262 rfl Tryz.ntmps262 rfl fun W A=> ?_
 refine aC ?_
 refine cf fun aS=> ?_
 refine cf fun a3=> ?_
 refine aJ ?_
 refine ah.cn ?_
 refine aY (aW Ge) ?_
 refine cb 1 Ce DB ?_
 refine b6 0 cY ?_
 obtain⟨dg,e7,h⟩:=aM.dd h
 obtain⟨cF,fT,h⟩:=aM.dd h
 obtain⟨al,bs,h⟩:=aM.dd h
 refine aj.EG (gk.obj 2 (fun q:Option Nat × Nat=>Cell.sP al.2 q.1 q.2) rfl (wg fT) Wi (P9 bs) rfl (fun _=>rfl) ⟨fQ (ab rfl) e7,ab rfl,trivial⟩) rfl rfl rfl fun aF=> ?_
 replace h:=aM.any_bind h aF
 obtain⟨dV,pa,h⟩:=aM.dd h
 refine aj.eI (L2:=(⟨some a3,.var (ag:aI)⟩ :: ⟨some aS,.var (J:jB)⟩ :: ba dV)) (by rw [← aG pa]; rfl) ?_
 refine aj.nil ?_
 refine ad.sM ?_
 exact ad.ox (⟨⟨dV,h⟩,()⟩: {r // _} × _) (.cons _ (.cons _ (.refl _))) rfl rfl
theorem Qi {hp:a9 Cell} {J:jB} {ag:Vector ak 4} {r:Int × Bool} (h:xO hp J ag=some r):cy Tryz.prog 261 [I.of (J),I.of (ag)] ([] ++ ba hp) (δ:=Unit) (fun _=>I.cN [I.of (r.1),I.of (r.2)]) (fun _=> [] ++ ba hp):=by
 unfold xO at h
 refine cy.of Tryz.func261 rfl Tryz.ntmps261 rfl fun W A=> ?_
 refine aC ?_
 refine cf fun aS=> ?_
 refine cf fun a3=> ?_
 refine aK ?_
 refine aK ?_
 refine bZ ?_
 refine aY (aW Ge) ?_
 refine cb 1 Ce DB ?_
 refine b6 0 dv ?_
 obtain⟨dg,e7,h⟩:=aw h
 obtain⟨cF,fT,h⟩:=aw h
 obtain⟨al,bs,h⟩:=aw h
 refine aj.lS (hX.obj 2 rfl (wg fT) Wj (PX bs) rfl ⟨fQ (ab rfl) e7,ab rfl,trivial⟩) rfl rfl rfl ?_
 refine aB ?_
 refine ez ?_
 refine ez ?_
 refine cx hh fun bH=> ?_
 refine b3 0 cY ?_
 refine aK ?_
 refine bZ ?_
 refine aY (aW lu) ?_
 refine cb 0 kd bE ?_
 refine aB ?_
 refine aK ?_
 refine aK ?_
 refine aJ ?_
 refine ah.ret ?_
 obtain rfl:=aG h
 exact ad.k5 () (.cons _ (.cons _ (.cons _ (.refl _)))) rfl rfl (eD rfl) (eD rfl)
end Go.Proofs.YtmnggbjcnoffeaaGreat
namespace Go.Proofs.YtmnggbjcnoffeaaGreat
open Go Gv
set_option linter.unusedVariables false
set_option linter.unusedSimpArgs false
set_option maxRecDepth 100000
set_option maxHeartbeats 2000000
theorem Ff {J:a2} {ag:List aI} {aT:Int} {r:Bool × Int} (h:tw J ag aT=some r):bw Tryz.prog 37 [I.of (J),I.of (ag),I.of (aT)] (I.cN [I.of (r.1),I.of (r.2)]):=by
 unfold tw at h
 refine bw.of Tryz.func37 rfl Tryz.ntmps37 rfl fun W A=> ?_
 refine aC ?_
 refine cf fun aS=> ?_
 refine aK ?_
 refine aK ?_
 refine bZ ?_
 refine b6 0 fH ?_
 refine aB ?_
 refine aB ?_
 obtain⟨al,bs,h⟩:=aw h
 refine dc Oi (J6 bs) ?_
 refine aB ?_
 refine ez ?_
 refine ez ?_
 refine ez ?_
 refine cx h1 fun a3=> ?_
 refine b3 0 c0 ?_
 refine aK ?_
 refine aK ?_
 refine bG ?_
 refine aC ?_
 refine aB ?_
 refine bf sD ?_
 refine aJ ?_
 refine ch h (fun h=>?_) fun h=>?_
 ·refine aC ?_
  refine aB ?_
  refine aK ?_
  refine aK ?_
  refine aJ ?_
  refine ah.ret ?_
  refine ad.ret ?_
  obtain rfl:=aG h
  exact uH
 ·refine cJ ?_
  refine aC ?_
  refine b6 0 c0 ?_
  refine aB ?_
  obtain⟨aN,ck,h⟩:=aw h
  refine dc XJ (Q4 ck) ?_
  refine ez ?_
  refine ez ?_
  refine aK ?_
  refine aK ?_
  refine aJ ?_
  refine ah.ret ?_
  obtain rfl:=aG h
  exact uH
theorem QW {J:a2} {ag:List aI} {aT:Int} {r:(Vector ak 4) × Bool × Int} (h:yf J ag aT=some r):bw Tryz.prog 45 [I.of (J),I.of (ag),I.of (aT)] (I.cN [I.of (r.1),I.of (r.2.1),I.of (r.2.2)]):=by
 unfold yf at h
 refine bw.of Tryz.func45 rfl Tryz.ntmps45 rfl fun W A=> ?_
 refine aC ?_
 refine cf fun aS=> ?_
 refine cx jm fun a3=> ?_
 refine aK ?_
 refine aK ?_
 refine bZ ?_
 refine b6 1 fH ?_
 refine aB ?_
 refine aB ?_
 obtain⟨al,bs,h⟩:=aw h
 refine dc Oi (J6 bs) ?_
 refine aB ?_
 refine ez ?_
 refine ez ?_
 refine ez ?_
 refine cx h1 fun bH=> ?_
 refine b3 0 c0 ?_
 refine aK ?_
 refine aK ?_
 refine bG ?_
 refine aC ?_
 refine aB ?_
 refine bf sD ?_
 refine aJ ?_
 refine ch h (fun h=>?_) fun h=>?_
 ·refine aC ?_
  refine bj (CM (b:=(default:Vector ak 4)) (sz:=2) rfl Tryz.underlying45 (by kernel_rfl) jm (.nil)) ?_
  refine aB ?_
  refine b3 1 dv ?_
  refine aK ?_
  refine aK ?_
  refine aJ ?_
  refine ah.ret ?_
  refine ad.ret ?_
  obtain rfl:=aG h
  exact ad.qa rfl (eH 1 dv) (h9 rfl) (h9 rfl)
 ·refine cJ ?_
  refine aC ?_
  refine b6 0 c0 ?_
  refine aB ?_
  obtain⟨aN,ck,h⟩:=aw h
  refine dc XK (Q5 ck) ?_
  refine ez ?_
  refine ez ?_
  refine ez ?_
  refine b3 1 dv ?_
  refine aK ?_
  refine aK ?_
  refine aJ ?_
  refine ah.ret ?_
  obtain rfl:=aG h
  exact ad.qa rfl (eH 1 dv) (h9 rfl) (h9 rfl)
theorem QC {hp:a9 Cell} {y:gL} {J:aI} {Q:(a9 Cell)→Prop} (h:E3 hp y J Q):lx Tryz.prog "matchguard/index.put" (I.of y) [I.of (J)] ([] ++ ba hp) (δ:= {r:(a9 Cell) // Q r} × Unit) (fun d=>I.cN []) (fun d=> [] ++ ba d.1.1):=by
 cases y with
 | nil=>exact h.elim
 | mE z=>
   obtain⟨r,aa,ae⟩:=h
   exact lx.of Su (fun A W u hu=>FD hu) (cy.map (fun d=>(⟨r,ae⟩,d)) (fun _=>rfl) (fun _=>rfl) (QK aa))
 | mF z=>exact lx.of Sv (fun A W u hu=>FE hu) (Qp h)
 | mG z=>exact lx.of Sw (fun A W u hu=>FF hu) (QL h)
theorem Qa {hp:a9 Cell} {y:gL} {J:Vector ak 4} {r:Int × Bool} (h:ES hp y J=some r):lx Tryz.prog "matchguard/index.lookup" (I.of y) [I.of (J)] ([] ++ ba hp) (δ:=Unit) (fun _=>I.cN [I.of (r.1),I.of (r.2)]) (fun _=> [] ++ ba hp):=by
 cases y with
 | nil=>cases h
 | mE z=>exact lx.of Sx (fun A W u hu=>FD hu) (Qd h)
 | mF z=>exact lx.of Sy (fun A W u hu=>FE hu) (P4 h)
 | mG z=>exact lx.of Sz (fun A W u hu=>FF hu) (Qi h)
end Go.Proofs.YtmnggbjcnoffeaaGreat
namespace Go.Proofs.YtmnggbjcnoffeaaGreat
open Go Gv
set_option linter.unusedVariables false
set_option linter.unusedSimpArgs false
set_option maxRecDepth 100000
set_option maxHeartbeats 2000000
theorem Rs {r:Bool} (h:Cp=some r):bw Tryz.prog 38 [] (I.of (r)):=by
 unfold Cp at h
 refine bw.of Tryz.func38 rfl Tryz.ntmps38 rfl fun W A=> ?_
 refine aC ?_
 refine aK ?_
 refine bZ ?_
 obtain⟨al,bs,h⟩:=aw h
 refine eM 0 HH (Fk bs) fun aF=> ?_
 refine aj.bU 0 rfl ?_
 obtain⟨aN,ck,h⟩:=aw h
 refine eM 1 Oj (JY ck) fun cT=> ?_
 refine cx Ao fun aS=> ?_
 refine b3 0 fH ?_
 refine bZ ?_
 obtain⟨a7,dR,h⟩:=aw h
 refine aj.D9 Tryz.underlying47 gG l9 rfl (by kernel_rfl) (bK 2) (bK 2) dR rfl fun gZ=> ?_
 refine aj.freeze (α:=cr) 0 10 rfl rfl ?_
 obtain⟨bl,di,h⟩:=aw h
 refine dj di (cU (b:=({ (default:bJ) with dO:=3,bY:=a7,hY:=5,ln:=1 } :bJ)) rfl HI wP (.cons rZ rfl (bK 3) rfl (.cons ke rfl (ab rfl) rfl (.cons tl rfl (bK 5) rfl (.cons B0 rfl (bK 1) rfl (.nil)))))) ?_
 obtain⟨dm,hn,h⟩:=aw h
 refine dj hn (cU (b:=({ (default:aI) with b2:=bl,cH:=1 } :aI)) rfl wQ hh (.cons k0 rfl (ab rfl) rfl (.cons kd rfl (bK 1) rfl (.nil)))) ?_
 refine cx hh fun a3=> ?_
 refine b3 0 cY ?_
 refine bZ ?_
 obtain⟨bR,e2,h⟩:=aw h
 refine aj.D9 Tryz.underlying47 gG l9 rfl (by kernel_rfl) (bK 2) (bK 2) e2 rfl fun jZ=> ?_
 refine aj.freeze (α:=cr) 0 13 rfl rfl ?_
 obtain⟨eX,iL,h⟩:=aw h
 refine dj iL (cU (b:=({ (default:bJ) with dO:=3,bY:=bR,hY:=4,ln:=1 } :bJ)) rfl HI wP (.cons rZ rfl (bK 3) rfl (.cons ke rfl (ab rfl) rfl (.cons tl rfl (bK 4) rfl (.cons B0 rfl (bK 1) rfl (.nil)))))) ?_
 obtain⟨gX,lH,h⟩:=aw h
 refine dj lH (cU (b:=({ (default:aI) with b2:=eX,cH:=2 } :aI)) rfl wQ hh (.cons k0 rfl (ab rfl) rfl (.cons kd rfl (bK 2) rfl (.nil)))) ?_
 refine cx hh fun bH=> ?_
 refine b3 0 cY ?_
 refine bZ ?_
 refine b6 4 fH ?_
 refine b6 2 cY ?_
 refine b6 0 cY ?_
 refine gy [dm,gX] Tryz.underlying38 cY hh ?_
 obtain⟨br,g2,h⟩:=aw h
 refine dc HJ (Ff g2) ?_
 refine aB ?_
 refine ez ?_
 refine ez ?_
 refine aK ?_
 refine aK ?_
 refine bZ ?_
 refine b6 4 fH ?_
 refine b6 2 cY ?_
 refine b6 0 cY ?_
 refine gy [dm,gX] Tryz.underlying38 cY hh ?_
 obtain⟨b8,g3,h⟩:=aw h
 refine dc HJ (Ff g3) ?_
 refine aB ?_
 refine ez ?_
 refine ez ?_
 refine aK ?_
 refine aK ?_
 refine bZ ?_
 refine aB ?_
 refine aB ?_
 refine dE c3 ?_
 refine dE hz ?_
 refine ja ?_
 refine aB ?_
 refine dE c3 ?_
 refine kn gf ?_
 refine ja ?_
 refine aB ?_
 refine dE c3 ?_
 refine kn gf ?_
 refine ja ?_
 refine aK ?_
 refine aJ ?_
 refine ah.ret ?_
 obtain rfl:=aG h
 exact c8
end Go.Proofs.YtmnggbjcnoffeaaGreat
namespace Go.Proofs.YtmnggbjcnoffeaaGreat
open Go Gv
set_option linter.unusedVariables false
set_option linter.unusedSimpArgs false
set_option maxRecDepth 100000
set_option maxHeartbeats 2000000
theorem JZ {hp:a9 Cell} {J:Ref} {ag:Vector ak 4} {r:aI × Bool} (h:vt hp J ag=some r):cy Tryz.prog 20 [I.of (J),I.of (ag)] ([] ++ ba hp) (δ:=Unit) (fun _=>I.cN [I.of (r.1),I.of (r.2)]) (fun _=> [] ++ ba hp):=by
 unfold vt at h
 refine cy.of Tryz.func20 rfl Tryz.ntmps20 rfl fun W A=> ?_
 refine aC ?_
 refine cf fun aS=> ?_
 refine cx hh fun a3=> ?_
 refine aK ?_
 refine bG ?_
 refine aC ?_
 refine aB ?_
 refine bj (oV Tryz.underlying37 (ab rfl)) ?_
 refine aJ ?_
 refine ch h (fun h=>?_) fun h=>?_
 ·refine aC ?_
  refine gV wQ hh (default:aI) .nil ?_
  refine b3 0 cY ?_
  refine aK ?_
  refine aJ ?_
  refine ah.ret ?_
  refine ad.ret ?_
  obtain rfl:=aG h
  exact ad.k5 () (.cons _ (.cons _ (.refl _))) rfl rfl (jV (i:=0) cY rfl rfl) (eD rfl)
 ·refine cJ ?_
  refine ah.seq ?_
  refine aC ?_
  refine aB ?_
  refine aJ ?_
  refine ah.block ?_
  obtain⟨aA,ao,h⟩:=aw h
  refine ah.q3 (σ:=Int × (Vector ak 4)) (ε:=(Int × Bool × (Vector ak 4))) (γ:=Unit) (δ:=Unit) ao (fun s1 az=> [(0,I.of (J)),(1,I.of (ag)),(3,I.eq (.pointer (some ⟨aS,0,none⟩))),(4,I.eq (.pointer (some ⟨a3,0,none⟩))),(5,I.of (false)),(10,I.of (J.isNone)),(12,I.of (s1.1))]) (fun s1 az=>(⟨some a3,.var ((default:aI):aI)⟩ :: ⟨some aS,.var (s1.2:Vector ak 4)⟩ :: ba hp)) (fun aF=>Exit.exit 0) (fun aF az=> [(0,I.of (J)),(1,I.of (ag)),(3,I.eq (.pointer (some ⟨aS,0,none⟩))),(4,I.eq (.pointer (some ⟨a3,0,none⟩))),(5,I.of (false)),(10,I.of (J.isNone)),(12,I.of (aF.1)),(13,I.of (aF.2.1))]) (fun aF az=>(⟨some a3,.var ((default:aI):aI)⟩ :: ⟨some aS,.var (aF.2.2:Vector ak 4)⟩ :: ba hp)) () rfl (.same rfl (.same rfl (.same rfl (.same rfl (.same rfl (.same rfl (.same rfl .nil))))))) (fun s1 r h az=> ?_) (fun az=> ?_)
  ·clear ao
   refine aC ?_
   refine bf eb ?_
   refine bG ?_
   refine ch h (fun h=>?_) fun h=>?_
   ·refine cJ ?_
    refine ah.seq ?_
    refine ah.block ?_
    refine aC ?_
    refine aB ?_
    refine aK ?_
    refine bZ ?_
    refine aB ?_
    refine aB ?_
    obtain⟨dg,e7,h⟩:=aw h
    refine bj (ff (fQ (ab rfl) e7)) ?_
    refine aY (aW TR) ?_
    obtain⟨cF,fT,h⟩:=aw h
    refine bj (h0 ((aL.id g9).comp JX) (r:=cF.oq) bE (ab rfl) (gU (n:=2) rfl (oo fT) rfl) rfl rfl) ?_
    refine bf jU ?_
    refine aJ ?_
    obtain⟨bM,cG,h⟩:=aw h
    refine ah.c4 (γ:=Unit) (fun a5=> [(0,I.of (J)),(1,I.of (ag)),(3,I.eq (.pointer (some ⟨aS,0,none⟩))),(4,I.eq (.pointer (some ⟨a3,0,none⟩))),(5,I.of (false)),(6,I.of (s1.1)),(10,I.of (J.isNone)),(12,I.of (s1.1)),(13,I.of (decide (s1.1 < 4))),(20,I.of (decide (s1.1≥cF.oq)))]) (fun a5=>(⟨some a3,.var ((default:aI):aI)⟩ :: ⟨some aS,.var (bM:Vector ak 4)⟩ :: ba hp)) (ab rfl) (fun a5=> ?_) (fun hm ar=> ?_) (fun hm ar=> ?_)
    ·clear cG
     refine ad.dG ?_
     refine ad.next ?_
     refine ah.cn ?_
     refine bf c9 ?_
     refine aB ?_
     refine aj.nil ?_
     obtain rfl:=aG h
     exact e0 () 0
    ·have h:=gQ ar cG
     refine ah.cn ?_
     refine aB ?_
     refine gV gT dP (default:ak) .nil ?_
     obtain⟨aZ,cv,h⟩:=aw h
     refine bj (ee (k:=aZ) fD (ab rfl) (ab rfl) (cc cv)) ?_
     refine me 1 ((aL.id (Vector ak 4)).comp (aL.idx (α:=ak) 4 aZ (cc cv).1)) bN ?_
     refine aj.nil ?_
     obtain rfl:=aG h
     exact dt 0 (hm ())
    ·have h:=gR ar cG
     refine ah.skip ?_
     obtain rfl:=aG h
     exact dt 0 (hm ())
   ·refine ah.exit ?_
    refine ad.exit ?_
    obtain rfl:=aG h
    exact dU () 0
  ·clear ao
   refine ad.eT ?_
   refine ad.next ?_
   refine ah.seq ?_
   obtain⟨cK,gi,h⟩:=aw h
   obtain⟨da,ho,h⟩:=aw h
   obtain⟨al,bs,h⟩:=aw h
   refine jq [0,1,3,4,5,10,12,13] ?_
   refine ah.sE 2 mixed (bh 26 [] [] _ :: bh 27 (0 :: []) [] _ :: bh 28 (1 :: []) [] _ :: ⟨some 29,(2 :: []),[],[],fun _=>I.of (da.jg),fun _ _=>⟨none,.dead⟩⟩ :: bh 30 [] (1 :: []) _ :: ⟨some 31,(3 :: 4 :: []),[],[],fun _=>I.cN [I.of (al.1),I.of (al.2)],fun _ _=>⟨none,.dead⟩⟩ :: bh 25 (5 :: []) [] _ :: bh 32 (6 :: []) [] _ :: bh 33 (6 :: []) [] _ :: bh 7 (7 :: []) [] _ :: bh 8 (8 :: []) [] _ :: []) _ (0 :: 1 :: 3 :: 4 :: 5 :: 10 :: 12 :: 13 :: []) rfl rfl (by kernel_rfl) (by kernel_rfl) ⟨df.q (gA),df.q (cP fun hd E' ay aH au=>ff (fQ (ab (aH _ _ rfl)) gi)),df.q (fv (aW v7)),?_,df.q (lJ 1 dv),?_,df.q (gA),df.q (cP fun hd E' ay aH au=>lz (ab (aH _ _ rfl)) rfl),df.q (cP fun hd E' ay aH au=>lz (ab (aH _ _ rfl)) rfl),df.q (cP fun hd E' ay aH au=>eG (ab (aH _ _ rfl))),df.q (cP fun hd E' ay aH au=>eG (ab (aH _ _ rfl))),trivial⟩ fun gj=> ?_
   ·intro hd E' ay aH au dZ
    refine bj (h0 ((aL.id g9).comp vl) (r:=da.jg) uk (ab (aH _ _ rfl)) (gU (n:=2) (dZ.trans rfl) (oo ho) rfl) rfl rfl) ?_
    refine aj.nil ?_
    exact ad.fin (eY []) rfl rfl
   ·intro hd E' ay aH au dZ
    refine aj.lS (hX.DR 2 (dZ.trans rfl) (Qa bs) ⟨ab (aH _ _ rfl),ab (aH _ _ rfl),trivial⟩) rfl rfl rfl ?_
    refine aj.nil ?_
    exact ad.fin (eY []) rfl rfl
   refine ad.eI (L2:=(⟨some a3,.var ((default:aI):aI)⟩ :: ⟨some aS,.var (aA.2.2:Vector ak 4)⟩ :: ba hp)) rfl ?_
   refine ko [0,1,3,4,5,7,8,10,12,13,25,26,27,28,29,30,31,32,33] ?_
   refine ad.next ?_
   refine aC ?_
   refine aB ?_
   refine aB ?_
   refine aB ?_
   obtain⟨aN,ck,h⟩:=aw h
   refine aj.lS (hX.nR 2 rfl XL (Qw ck) ⟨ab rfl,ab rfl,ab rfl,trivial⟩) rfl rfl rfl ?_
   refine ez ?_
   refine ez ?_
   refine b3 0 cY ?_
   refine aK ?_
   refine aJ ?_
   refine ah.ret ?_
   obtain rfl:=aG h
   exact ad.k5 () (.cons _ (.cons _ (.refl _))) rfl rfl (jV (i:=0) cY rfl rfl) (eD rfl)
end Go.Proofs.YtmnggbjcnoffeaaGreat
namespace Go.Proofs.YtmnggbjcnoffeaaGreat
open Go Gv
set_option linter.unusedVariables false
set_option linter.unusedSimpArgs false
set_option maxRecDepth 100000
set_option maxHeartbeats 2000000
theorem RK {hp:a9 Cell} {J:a2} {ag:Int} {Q:Ref × (a9 Cell)→Prop} (h:vP hp J ag Q):cy Tryz.prog 39 [I.of (J),I.of (ag)] ([] ++ ba hp) (δ:= {r:Ref × (a9 Cell) // Q r} × Unit) (fun d=>I.of (d.1.1.1)) (fun d=> [] ++ ba d.1.1.2):=by
 unfold vP at h
 refine cy.of Tryz.func39 rfl Tryz.ntmps39 rfl fun W A=> ?_
 refine aC ?_
 refine cf fun aS=> ?_
 refine bj (eG (r8)) ?_
 refine bZ ?_
 refine b6 0 fH ?_
 refine aB ?_
 obtain⟨al,bs,h⟩:=aM.dd h
 refine dc DN (Co bs) ?_
 refine aK ?_
 refine bG ?_
 refine aC ?_
 refine aB ?_
 refine bf eb ?_
 refine aJ ?_
 refine ah.cond (ab rfl) (fun ar=> ?_) (fun ar=> ?_)
 ·replace h:=sn ar h
  refine aC ?_
  refine bj (eG (r8)) ?_
  refine aJ ?_
  refine ah.ret ?_
  refine ad.ret ?_
  exact ad.hj (⟨⟨((none:Ref),hp),h⟩,()⟩: {r // _} × _) (.cons _ (.refl _)) rfl rfl (eD rfl)
 ·replace h:=so ar h
  refine cJ ?_
  refine aC ?_
  refine aY (aW l2) ?_
  refine cb 0 lX lC ?_
  refine aB ?_
  obtain⟨aZ,cv,h⟩:=aM.dd h
  refine gJ cv Tryz.underlying28 fS ?_
  refine aY (c2 fS) ?_
  refine cx k8 fun a3=> ?_
  refine b3 0 fS ?_
  refine bZ ?_
  refine b6 0 fS ?_
  obtain⟨aN,ck,h⟩:=aM.dd h
  refine dc XM (Rb ck) ?_
  refine aB ?_
  refine ez ?_
  refine ez ?_
  refine aK ?_
  refine aK ?_
  refine bZ ?_
  refine aB ?_
  refine aY (aW kh) ?_
  refine cb 0 iV jY ?_
  refine aY (eS Tryz.underlying62) ?_
  refine aj.Gy (α:=Int) (β:=aI) 2 rfl (Cell.ma ([]:List (Int × aI))) (fun _=>rfl) rfl fun dY uI=> ?_
  replace h:=aM.sj h dY uI
  obtain⟨bl,di,h⟩:=aM.dd h
  refine dj di (cU (b:=({ (default:g9) with qZ:=aN.1,oq:=(((ax J.bm aZ).bx).length:Int),lZ:=(⟨some dY.1⟩:gF) } :g9)) rfl Wk Wl (.cons Qj rfl (ab rfl) rfl (.cons JX rfl (ab rfl) rfl (.cons BT rfl (ab rfl) rfl (.nil))))) ?_
  refine aj.Ad 2 rfl (Cell.nn bl) (fun _=>rfl) (ab rfl) rfl fun eg AJ=> ?_
  replace h:=aM.sj h eg AJ
  refine aK ?_
  refine bG ?_
  refine aC ?_
  refine aB ?_
  refine aJ ?_
  refine ah.block ?_
  refine aC ?_
  refine bf gf ?_
  refine aK ?_
  refine aJ ?_
  refine ah.zn (γ:=Unit) h (fun bM az=> [(0,I.of (J)),(1,I.of (ag)),(2,I.eq (.pointer (some ⟨aS,0,none⟩))),(4,I.of (none:Ref)),(5,I.of (al)),(6,I.eq (.pointer (some ⟨a3,0,none⟩))),(7,I.of (aN.1)),(8,I.of (aN.2)),(9,I.of (some eg.1:Ref)),(16,I.of (decide (al < 0))),(34,I.of (aN.1)),(42,I.of (aN.1 ==1))]) (fun bM az=>(⟨some a3,.var (ax J.bm aZ:bV)⟩ :: ⟨some aS,.var (J:a2)⟩ :: ba bM)) (ab rfl) (fun bM az h=> ?_) (fun hm ar h=> ?_) (fun hm ar h=> ?_)
  ·refine ad.dG ?_
   refine ad.next ?_
   refine aC ?_
   refine aB ?_
   refine aK ?_
   refine aJ ?_
   refine ah.ret ?_
   exact ad.hj (⟨⟨((some eg.1:Ref),bM),h⟩,()⟩: {r // _} × _) (.cons _ (.cons _ (.refl _))) rfl rfl (eD rfl)
  ·refine ah.cn ?_
   refine aB ?_
   refine aj.nS 2 0 rfl XN (RG h) rfl rfl trivial rfl fun⟨⟨a7,h⟩,aF⟩=> ?_
   refine aj.eI (L2:=(⟨some a3,.var (ax J.bm aZ:bV)⟩ :: ⟨some aS,.var (J:a2)⟩ :: ba a7.2)) rfl ?_
   refine gV Wm Wn { qk:=a7.1:kf } (iY B7 .nil) ?_
   refine bj (GL Tryz.underlying166 rfl (ab rfl) (fun _ _ _ h=>SA h)) ?_
   refine bj (ff (fQ (ab rfl) rfl)) ?_
   refine aY (aW v7) ?_
   obtain⟨cF,fT,h⟩:=aM.dd h
   obtain⟨dV,pa,h⟩:=aM.dd h
   refine aj.pU (k':=Cell.nn ({ cF with jg:=(gL.mE ({ qk:=a7.1:kf })) } :g9)) 2 rfl ((aL.id g9).comp vl) (v:=((gL.mE ({ qk:=a7.1:kf })):gL)) uk (ab rfl) (ab rfl) (oo fT) rfl rfl rfl rfl (aG pa) ?_
   refine aj.nil ?_
   exact dt 0 (hm dV () h)
  ·refine aC ?_
   refine bf gf ?_
   refine aK ?_
   refine aJ ?_
   refine ah.zn (γ:=Unit) h (fun cI a5=> [(0,I.of (J)),(1,I.of (ag)),(2,I.eq (.pointer (some ⟨aS,0,none⟩))),(4,I.of (none:Ref)),(5,I.of (al)),(6,I.eq (.pointer (some ⟨a3,0,none⟩))),(7,I.of (aN.1)),(8,I.of (aN.2)),(9,I.of (some eg.1:Ref)),(16,I.of (decide (al < 0))),(34,I.of (aN.1)),(42,I.of (aN.1 ==1)),(50,I.of (aN.1 ==2))]) (fun cI a5=>(⟨some a3,.var (ax J.bm aZ:bV)⟩ :: ⟨some aS,.var (J:a2)⟩ :: ba cI)) (ab rfl) (fun cI a5 h=> ?_) (fun hm ar h=> ?_) (fun hm ar h=> ?_)
   ·exact dt 0 (hm cI () h)
   ·refine aC ?_
    refine aK ?_
    refine bG ?_
    refine ah.seq ?_
    obtain⟨b0,de,h⟩:=aM.dd h
    obtain⟨bR,e2,h⟩:=aM.dd h
    refine ah.draw mixed 8 [some 52,some 53,some 54,some 55,some 56,some 57,some 58,some 59] [[],[],[1],[],[2,3],[4],[5],[0,6]] [.val _,.val _,.val _,.val _,.val _,.val _,.val _,.val _] [false,false,false,false,false,false,false,false] (by kernel_rfl) rfl rfl rfl (fun cV=>⟨e1 1 fH,H1 (aW kh),dy 0 iV jY,cR,lI de Tryz.underlying62 h8,nq mY zi,H1 (c2 bE),e8 Hy (Fb e2),trivial⟩) fun cV=> ?_
    refine aK ?_
    refine bZ ?_
    refine aB ?_
    refine bf jU ?_
    refine aJ ?_
    obtain⟨fb,gx,h⟩:=aM.dd h
    refine ah.c4 (γ:=Unit) (fun bu=> [(0,I.of (J)),(1,I.of (ag)),(2,I.eq (.pointer (some ⟨aS,0,none⟩))),(4,I.of (none:Ref)),(5,I.of (al)),(6,I.eq (.pointer (some ⟨a3,0,none⟩))),(7,I.of (aN.1)),(8,I.of (aN.2)),(9,I.of (some eg.1:Ref)),(10,I.of (fb)),(11,I.of (bR)),(16,I.of (decide (al < 0))),(34,I.of (aN.1)),(42,I.of (aN.1 ==1)),(50,I.of (aN.1 ==2)),(61,I.of (decide (bR≥0)))]) (fun bu=>(⟨some a3,.var (ax J.bm aZ:bV)⟩ :: ⟨some aS,.var (J:a2)⟩ :: ba eg.2)) (ab rfl) (fun bu=> ?_) (fun hm ar=> ?_) (fun hm ar=> ?_)
    ·clear gx
     refine ad.next ?_
     refine ah.cn ?_
     refine aB ?_
     refine aB ?_
     refine aB ?_
     refine aj.Gy (α:=Vector ak 4) (β:=Ref) 2 rfl (Cell.nm ([]:List ((Vector ak 4) × Ref))) (fun _=>rfl) rfl fun jM YG=> ?_
     replace h:=aM.sj h jM YG
     obtain⟨dm,hn,h⟩:=aM.dd h
     refine dj hn (cU (b:= { q8:=aN.2,eR:=fb,fX:=(⟨some jM.1⟩:gF):et }) rfl Wo Wp (.cons xF rfl (ab rfl) rfl (.cons rX rfl (ab rfl) rfl (.cons nB rfl (ab rfl) rfl (.nil))))) ?_
     refine bj (GL Tryz.underlying169 rfl (ab rfl) (fun _ _ _ h=>SB h)) ?_
     refine bj (ff (fQ (ab rfl) rfl)) ?_
     refine aY (aW v7) ?_
     obtain⟨da,ho,h⟩:=aM.dd h
     obtain⟨e9,wT,h⟩:=aM.dd h
     refine aj.pU (k':=Cell.nn ({ da with jg:=(gL.mF dm) } :g9)) 2 rfl ((aL.id g9).comp vl) (v:=((gL.mF dm):gL)) uk (ab rfl) (ab rfl) (oo ho) rfl rfl rfl rfl (aG wT) ?_
     refine aj.nil ?_
     exact dt 0 (hm e9 () h)
    ·have h:=gQ ar gx
     refine ah.cn ?_
     refine aY (aW sv) ?_
     refine cb 1 rY rf ?_
     refine aB ?_
     obtain⟨c1,fl,h⟩:=aw h
     refine gJ fl Tryz.underlying24 nP ?_
     refine AK mX y3 ?_
     refine aY (c2 bE) ?_
     refine aK ?_
     refine aj.nil ?_
     obtain rfl:=aG h
     exact dt 0 (hm ())
    ·have h:=gR ar gx
     refine ah.skip ?_
     obtain rfl:=aG h
     exact dt 0 (hm ())
   ·refine ah.cn ?_
    refine aB ?_
    refine b6 1 fH ?_
    obtain⟨br,g2,h⟩:=aM.dd h
    refine eM 0 XO (QN g2) fun cT=> ?_
    refine aj.Wq 4 2 (Cell.sP br cT.2.1 cT.2.2) rfl rfl rfl rfl List.mem_cons_self fun mS AQ YH=> ?_
    replace h:=h (cT.2.1,cT.2.2) mS AQ
    refine aj.Wr 37 rfl YH ?_
    refine gV Ws Wt { cu:=(some mS.1:Ref):jB } (iY Ce .nil) ?_
    refine bj (GL Tryz.underlying173 rfl (ab rfl) (fun _ _ _ h=>SC h)) ?_
    refine bj (ff (fQ (ab rfl) rfl)) ?_
    refine aY (aW v7) ?_
    obtain⟨ft,lM,h⟩:=aM.dd h
    obtain⟨iE,HD,h⟩:=aM.dd h
    refine aj.pU (k':=Cell.nn ({ ft with jg:=(gL.mG ({ cu:=(some mS.1:Ref):jB })) } :g9)) 2 rfl ((aL.id g9).comp vl) (v:=((gL.mG ({ cu:=(some mS.1:Ref):jB })):gL)) uk (ab rfl) (ab rfl) (oo lM) rfl rfl rfl rfl (aG HD) ?_
    refine aj.nil ?_
    exact dt 0 (hm iE () h)
end Go.Proofs.YtmnggbjcnoffeaaGreat
