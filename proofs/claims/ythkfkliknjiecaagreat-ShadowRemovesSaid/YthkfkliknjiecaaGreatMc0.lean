/-
  Each function meets its functional program. Conditions: none.
-/
import Derived.Test.YthkfkliknjiecaaGreatMd
set_option maxRecDepth 100000
set_option maxHeartbeats 2000000
namespace Go.Proofs.YthkfkliknjiecaaGreat
open Go Gv
theorem Hy {J:List (BitVec 8)} {ah:Int} {r:bu} (h:vA J ah=some r):b9 Tryz.prog 7 [I.of (J),I.of (ah)] [] (δ:=Nat) (fun d=>I.eq (.pointer (some ⟨d,0,none⟩))) (fun d=>[⟨some d,.var (r:bu)⟩]):=by
 unfold vA at h
 refine b9.of Tryz.func7 rfl Tryz.ntmps7 rfl fun W A=>?_
 refine aC (bh (ew (E8 (.pointer none))) ?_)
 refine bW (aB ?_)
 refine aB ?_
 refine aY (eK Tryz.underlying22) ?_
 refine aB ?_
 refine bj yw ?_
 obtain⟨aD,bo,h⟩:=au h
 refine bh (H9 Tryz.underlying22 Kh (ab rfl) .none (.some (ab rfl)) bo) ?_
 refine hg Yw Yx ({ (default:bu) with ch:=aD } :bu) (j5 DS .nil) ?_
 refine b7 fun a4=>?_
 refine aM ?_
 refine aL (ag.ret (ae.bI 0 rfl ?_))
 obtain rfl:=aH h
 exact kW a4
theorem TC {J:bu} {cu:Nat} {r:Bool} (h:DT J=some r):b9 Tryz.prog 26 [I.eq (.pointer (some ⟨cu,0,none⟩))] [⟨some cu,.var (J:bu)⟩] (δ:=Unit) (fun d=>I.of (r)) (fun d=>[⟨some cu,.var (J:bu)⟩]):=by
 unfold DT at h
 refine b9.of Tryz.func26 rfl Tryz.ntmps26 rfl fun W A=>?_
 refine aC (aM ?_)
 refine bD (ag.draw mixed 10 [some 3,some 4,some 5,some 6,some 7,some 8,some 9,some 10,some 11,some 12] [[],[0],[1],[2],[],[4],[5],[6],[7],[3,8]] [.val _,.val _,.val _,.val _,.val _,.val _,.val _,.val _,.val _,.val _] [false,false,false,false,false,false,false,false,false,false] (by kernel_rfl) rfl rfl rfl (fun cx=>⟨ct,H1 dV,H1 (aU A4),dg 0 zP bE,ct,H1 dV,H1 (aU Ia),dg 0 DS FJ,H1 (eK Tryz.underlying22),jc ea,trivial⟩) fun cx=>?_)
 refine aM ?_
 refine aL (ag.ret (ae.bI 0 rfl ?_))
 obtain rfl:=aH h
 exact kW ()
theorem Hz {J:Int} {ah:Int} {r:Int} (h:sq J ah=some r):bw Tryz.prog 15 [I.of (J),I.of (ah)] (I.of (r)):=by
 unfold sq at h
 refine bw.of Tryz.func15 rfl Tryz.ntmps15 rfl fun W A=>?_
 refine aC (aM ?_)
 refine bD (aC (aB ?_))
 refine bj ea ?_
 refine aL (cg h (fun h=>?_) fun h=>?_)
 ·refine aC (aM ?_)
  refine aL (ag.ret (ae.ret ?_))
  obtain rfl:=aH h
  exact cX
 refine cO (aC (aB ?_))
 refine aB ?_
 obtain⟨aD,bo,h⟩:=au h
 refine bh (Bs (ab rfl) (ab rfl) (AL bo)) ?_
 refine aB ?_
 refine bj dd ?_
 refine aB ?_
 obtain⟨aK,cb,h⟩:=au h
 refine bh (Bs (ab rfl) (ab rfl) (AL cb)) ?_
 refine aM ?_
 refine aL (ag.ret ?_)
 obtain rfl:=aH h
 exact cX
theorem Tm {J:bX} {ah:Int} {r:Bool} (h:DM J ah=some r):bw Tryz.prog 83 [I.of (J),I.ptr ah] (I.of (r)):=by
 unfold DM at h
 refine bw.of Tryz.func83 rfl Tryz.ntmps83 rfl fun W A=>?_
 refine aC (b7 fun a4=>?_)
 refine aM ?_
 refine bW (aY (aU vV) ?_)
 refine cc 0 p9 bE ?_
 refine aY (da bE) ?_
 refine bj gf ?_
 refine aM ?_
 refine aL (ag.ret ?_)
 obtain rfl:=aH h
 exact cX
theorem Sx {J:List bX} {ah:bX→Option Bool} {r:Int} (h:zo J ah=some r):bw Tryz.prog 82 [I.of (J),I.qA Tryz.prog ah] (I.of (r)):=by
 unfold zo at h
 refine bw.of Tryz.func82 rfl Tryz.ntmps82 rfl fun W A=>?_
 refine aC (aM ?_)
 refine bD (aC (aB ?_))
 refine aY (eK Tryz.underlying27) ?_
 refine aB ?_
 refine aL (ag.block ?_)
 obtain⟨ay,ao,h⟩:=au h
 refine gE (γ:=Unit) (δ:=Unit) ao [0,1,7] (fun s1 av=>[(4,I.of (0:Int)),(8,I.of (s1))]) (fun s1 av=>[]) (fun aA=>Sum.elim (fun aA=>Exit.exit 0) (fun aA=>Exit.ret) aA) (fun aA av=>Sum.elim (fun aA=>[(4,I.of (0:Int)),(8,I.of (aA.1)),(9,I.of (aA.2))]) (fun aA=>[(4,I.of (aA.1)),(5,I.of (aA.2.1)),(8,I.of (aA.2.2.1)),(9,I.of (aA.2.2.2.1)),(16,I.of (aA.2.2.2.2))]) aA) (fun aA av=>Sum.elim (fun aA=>[]) (fun aA=>[]) aA) () (fun s1 r h av=>?_) fun av=>?_
 ·refine aC (bj ea ?_)
  refine bD (cg h (fun h=>?_) fun h=>?_)
  ·refine cO (ag.seq (ag.block (aC (aB ?_))))
   refine aM ?_
   refine bW (aB ?_)
   refine aB ?_
   refine aB ?_
   obtain⟨aZ,cq,h⟩:=au h
   refine g5 cq Tryz.underlying27 gu ?_
   refine aY (da gu) ?_
   obtain⟨aD,bo,h⟩:=au h
   refine bh (yb (ab rfl) (ab rfl) bo) ?_
   refine aL (cg h (fun h=>?_) fun h=>?_)
   ·refine aC (aB ?_)
    refine aM ?_
    refine aL (ag.ret (ae.dz (ae.ret ?_)))
    obtain rfl:=aH h
    exact dY () 0
   refine ag.skip (ae.dB (ae.next (ag.cm (bj dd ?_))))
   refine aB ?_
   refine ai.nil ?_
   obtain rfl:=aH h
   exact fc () 0
  refine ag.exit (ae.exit ?_)
  obtain rfl:=aH h
  exact dY () 0
 rcases ay with ay | ay
 ·simp only [Sum.elim_inl] at h
  refine ae.e1 (ae.next (aC (aM ?_)))
  refine aL (ag.ret ?_)
  obtain rfl:=aH h
  exact cX
 simp only [Sum.elim_inr] at h
 refine ae.dz (ae.ret ?_)
 obtain rfl:=aH h
 exact cX
theorem Ue {J:bX} {r:Int×Int} (h:xT J=some r):bw Tryz.prog 54 [I.of (J)] (I.ep [I.of (r.1),I.of (r.2)]):=by
 unfold xT at h
 refine bw.of Tryz.func54 rfl Tryz.ntmps54 rfl fun W A=>?_
 refine aC (b7 fun a4=>?_)
 refine aM ?_
 refine aM ?_
 refine bW (aM ?_)
 refine aM ?_
 refine bD (aC (aY (aU k8) ?_))
 refine cc 0 jZ kQ ?_
 refine aY (eK Tryz.underlying40) ?_
 refine aB ?_
 refine aL (ag.block ?_)
 obtain⟨ay,ao,h⟩:=au h
 refine gE (γ:=Unit) (δ:=Unit) ao [0,1,2,3,9,10] (fun s1 av=>[(4,I.of (s1.1)),(5,I.of (s1.2.1)),(11,I.of (s1.2.2))]) (fun s1 av=>[]) (fun aA=>Exit.exit 0) (fun aA av=>[(4,I.of (aA.1)),(5,I.of (aA.2.1)),(11,I.of (aA.2.2.1)),(12,I.of (aA.2.2.2))]) (fun aA av=>[]) () (fun s1 r h av=>?_) fun av=>?_
 ·refine aC (bj ea ?_)
  refine bD (cg h (fun h=>?_) fun h=>?_)
  ·refine cO (ag.seq (ag.block (aC (aB ?_))))
   obtain⟨aZ,cq,h⟩:=au h
   refine g5 cq Tryz.underlying40 iZ ?_
   refine aY (da iZ) ?_
   refine cC ki fun ba=>?_
   refine aM ?_
   refine b8 0 iZ ?_
   refine bW (aY (aU sG) ?_)
   refine cc 0 lW bE ?_
   refine aL (ag.block (aC (bj gf ?_)))
   refine aM ?_
   refine aL ?_
   obtain⟨bx,cy,h⟩:=au h
   refine jj (γ:=Unit) [0,1,2,3,6,7,9,10,11,12,17,18] (fun aW=>[(4,I.of (bx.1)),(5,I.of (bx.2))]) (fun aW=>[]) (fun aW=>?_) (fun hm al=>?_) fun hm al=>?_
   ·refine ae.dB (ae.dB (ae.next (ag.cm (bj dd ?_))))
    refine aB ?_
    refine ai.nil ?_
    obtain rfl:=aH h
    exact fc () 1
   ·have h:=gQ al cy
    refine ag.skip ?_
    obtain rfl:=aH h
    exact dq 0 (hm ())
   have h:=gR al cy
   refine aC (bj gf ?_)
   refine aM ?_
   refine aL ?_
   obtain⟨cY,eg,h⟩:=au h
   refine jj (γ:=Unit) [0,1,2,3,6,7,9,10,11,12,17,18,20] (fun bB=>[(4,I.of (cY.1)),(5,I.of (cY.2))]) (fun bB=>[]) (fun bB=>?_) (fun hm al=>?_) fun hm al=>?_
   ·obtain rfl:=aH h
    exact dq 0 (hm ())
   ·have h:=gQ al eg
    refine ag.cm (aB ?_)
    refine bj Fi ?_
    refine aB ?_
    refine aM ?_
    refine aM ?_
    refine ai.nil ?_
    obtain rfl:=aH h
    exact dq 0 (hm ())
   have h:=gR al eg
   refine ag.cm (aM ?_)
   refine ai.nil ?_
   obtain rfl:=aH h
   exact dq 0 (hm ())
  refine ag.exit (ae.exit ?_)
  obtain rfl:=aH h
  exact dY () 0
 refine ae.e1 (ae.next (aC (aB ?_)))
 refine aB ?_
 refine aM ?_
 refine aM ?_
 refine aL (ag.ret ?_)
 obtain rfl:=aH h
 exact wU
theorem UH {hp:a1 Cell} {Q:Ref×(a1 Cell)→Prop} (h:D9 hp Q):b9 Tryz.prog 55 [] ([]++a8 hp) (δ:= {r:Ref×(a1 Cell) // Q r}×Unit) (fun d=>I.of (d.1.1.1)) (fun d=>[]++a8 d.1.1.2):=by
 unfold D9 at h
 refine b9.of Tryz.func55 rfl Tryz.ntmps55 rfl fun W A=>?_
 refine aC (bh (ew (rl)) ?_)
 refine bW (ai.ID (α:=Vector an 4) (β:=Int) 0 rfl (Cell.ot ([]:List ((Vector an 4)×Int))) (fun _=>rfl) rfl fun dA wV=>?_)
 replace h:=aI.uh h dA wV
 refine hg Yy Yz { oX:=(⟨some dA.1⟩:gS):ns } (j5 zG .nil) ?_
 refine ai.BR 0 rfl (Cell.yJ ({ oX:=(⟨some dA.1⟩:gS):ns })) (fun _=>rfl) (ab rfl) rfl fun dK Ck=>?_
 replace h:=aI.uh h dK Ck
 refine aM ?_
 exact aL (ag.ret (ae.gr (⟨⟨((some dK.1:Ref),dK.2),h⟩,()⟩: {r // _}×_) (.refl _) rfl rfl (ej rfl)))
theorem Tn {J:fO} {ah:Int} {r:Bool} (h:DN J ah=some r):bw Tryz.prog 85 [I.of (J),I.ptr ah] (I.of (r)):=by
 unfold DN at h
 refine bw.of Tryz.func85 rfl Tryz.ntmps85 rfl fun W A=>?_
 refine aC (b7 fun a4=>?_)
 refine aM ?_
 refine bW (aY (aU Ib) ?_)
 refine cc 0 pw bE ?_
 refine aY (da bE) ?_
 refine bj gf ?_
 refine aM ?_
 refine aL (ag.ret ?_)
 obtain rfl:=aH h
 exact cX
theorem Sy {J:List fO} {ah:fO→Option Bool} {r:Int} (h:zp J ah=some r):bw Tryz.prog 84 [I.of (J),I.qA Tryz.prog ah] (I.of (r)):=by
 unfold zp at h
 refine bw.of Tryz.func84 rfl Tryz.ntmps84 rfl fun W A=>?_
 refine aC (aM ?_)
 refine bD (aC (aB ?_))
 refine aY (eK Tryz.underlying23) ?_
 refine aB ?_
 refine aL (ag.block ?_)
 obtain⟨ay,ao,h⟩:=au h
 refine gE (γ:=Unit) (δ:=Unit) ao [0,1,7] (fun s1 av=>[(4,I.of (0:Int)),(8,I.of (s1))]) (fun s1 av=>[]) (fun aA=>Sum.elim (fun aA=>Exit.exit 0) (fun aA=>Exit.ret) aA) (fun aA av=>Sum.elim (fun aA=>[(4,I.of (0:Int)),(8,I.of (aA.1)),(9,I.of (aA.2))]) (fun aA=>[(4,I.of (aA.1)),(5,I.of (aA.2.1)),(8,I.of (aA.2.2.1)),(9,I.of (aA.2.2.2.1)),(16,I.of (aA.2.2.2.2))]) aA) (fun aA av=>Sum.elim (fun aA=>[]) (fun aA=>[]) aA) () (fun s1 r h av=>?_) fun av=>?_
 ·refine aC (bj ea ?_)
  refine bD (cg h (fun h=>?_) fun h=>?_)
  ·refine cO (ag.seq (ag.block (aC (aB ?_))))
   refine aM ?_
   refine bW (aB ?_)
   refine aB ?_
   refine aB ?_
   obtain⟨aZ,cq,h⟩:=au h
   refine g5 cq Tryz.underlying23 oY ?_
   refine aY (da oY) ?_
   obtain⟨aD,bo,h⟩:=au h
   refine bh (yb (ab rfl) (ab rfl) bo) ?_
   refine aL (cg h (fun h=>?_) fun h=>?_)
   ·refine aC (aB ?_)
    refine aM ?_
    refine aL (ag.ret (ae.dz (ae.ret ?_)))
    obtain rfl:=aH h
    exact dY () 0
   refine ag.skip (ae.dB (ae.next (ag.cm (bj dd ?_))))
   refine aB ?_
   refine ai.nil ?_
   obtain rfl:=aH h
   exact fc () 0
  refine ag.exit (ae.exit ?_)
  obtain rfl:=aH h
  exact dY () 0
 rcases ay with ay | ay
 ·simp only [Sum.elim_inl] at h
  refine ae.e1 (ae.next (aC (aM ?_)))
  refine aL (ag.ret ?_)
  obtain rfl:=aH h
  exact cX
 simp only [Sum.elim_inr] at h
 refine ae.dz (ae.ret ?_)
 obtain rfl:=aH h
 exact cX
theorem TJ {J:a3} {r:cL} (h:Hm J=some r):b9 Tryz.prog 57 [I.of (J)] [] (δ:=Nat×(Option Nat×Nat)) (fun d=>I.eq (.pointer (some ⟨d.1,0,none⟩))) (fun d=>[⟨some d.1,.cj (({ r with ch:= [] } :cL):cL) [(10,aS d.2.1 (r.ch).length d.2.2)]⟩,⟨d.2.1,.row 56 (r.ch:List aJ) d.2.2⟩]):=by
 unfold Hm at h
 refine b9.of Tryz.func57 rfl Tryz.ntmps57 rfl fun W A=>?_
 refine aC (b7 fun a4=>?_)
 refine bh (ew (rl)) ?_
 refine bW (cr 0 gv ?_)
 refine bh (rp (b:=({ (default:cL) with oQ:=J } :cL)) [10] Wm rfl YA YB (.cons Dw rfl (ab rfl) rfl (by rfl) (.nil))) ?_
 refine ai.own (α:=aJ) 56 (ai.aaR (ab rfl) rfl fun ba=>?_)
 refine aM ?_
 refine aL (ag.ret (ae.Ki (γ:=aJ) (b':=(({ ({ (default:cL) with oQ:=J } :cL) with ch:= [] } :cL):cL)) ((aN.id cL).comp xC) 0 0 rfl rfl rfl (ae.bI 1 rfl (ae.bI 1 rfl ?_))))
 obtain rfl:=aH h
 exact kW (ba,(none,0))
theorem Tc {J:bu} {r:Bool} (h:zH J=some r):bw Tryz.prog 26 [I.ptr J] (I.of (r)):=by
 unfold zH at h
 refine bw.of Tryz.func26 rfl Tryz.ntmps26 rfl fun W A=>?_
 refine aC (aM ?_)
 refine bD (ag.draw mixed 10 [some 3,some 4,some 5,some 6,some 7,some 8,some 9,some 10,some 11,some 12] [[],[0],[1],[2],[],[4],[5],[6],[7],[3,8]] [.val _,.val _,.val _,.val _,.val _,.val _,.val _,.val _,.val _,.val _] [false,false,false,false,false,false,false,false,false,false] (by kernel_rfl) rfl rfl rfl (fun cx=>⟨ct,H1 Bd,oy zP A4,H1 (da bE),ct,H1 Bd,oy DS Ia,H1 (da FJ),H1 (eK Tryz.underlying22),jc ea,trivial⟩) fun cx=>?_)
 refine aM ?_
 refine aL (ag.ret ?_)
 obtain rfl:=aH h
 exact cX
theorem Uf {J:a3} {ah:Int} {r:Int} (h:Ah J ah=some r):bw Tryz.prog 96 [I.of (J),I.of (ah)] (I.of (r)):=by
 unfold Ah at h
 refine bw.of Tryz.func96 rfl Tryz.ntmps96 rfl fun W A=>?_
 refine aC (b7 fun a4=>?_)
 refine aM ?_
 refine bD (aC (aY (aU uo) ?_))
 refine cc 0 tM sZ ?_
 refine aY (eK Tryz.underlying23) ?_
 refine aB ?_
 refine aL (ag.block ?_)
 obtain⟨ay,ao,h⟩:=au h
 refine gE (γ:=Unit) (δ:=Unit) ao [0,1,2,8,9] (fun s1 av=>[(4,I.of (0:Int)),(10,I.of (s1))]) (fun s1 av=>[]) (fun aA=>Sum.elim (fun aA=>Exit.exit 0) (fun aA=>Exit.ret) aA) (fun aA av=>Sum.elim (fun aA=>[(4,I.of (0:Int)),(10,I.of (aA.1)),(11,I.of (aA.2))]) (fun aA=>[(4,I.of (aA.1)),(10,I.of (aA.2.1)),(11,I.of (aA.2.2.1)),(17,I.of (aA.2.2.2))]) aA) (fun aA av=>Sum.elim (fun aA=>[]) (fun aA=>[]) aA) () (fun s1 r h av=>?_) fun av=>?_
 ·refine aC (bj ea ?_)
  refine bD (cg h (fun h=>?_) fun h=>?_)
  ·refine cO (ag.seq (ag.block (aC ?_)))
   obtain⟨aZ,cq,h⟩:=au h
   refine g5 cq Tryz.underlying23 oY ?_
   refine aY (da oY) ?_
   refine cC pH fun ba=>?_
   refine b8 0 oY ?_
   refine bW (aY (aU Ib) ?_)
   refine cc 0 pw bE ?_
   refine aB ?_
   refine bj gf ?_
   refine aL (cg h (fun h=>?_) fun h=>?_)
   ·refine aC (aY (aU A5) ?_)
    refine cc 0 nT bE ?_
    refine aM ?_
    refine aL (ag.ret (ae.dz (ae.ret ?_)))
    obtain rfl:=aH h
    exact dY () 1
   refine ag.skip (ae.dB (ae.next (ag.cm (bj dd ?_))))
   refine aB ?_
   refine ai.nil ?_
   obtain rfl:=aH h
   exact fc () 1
  refine ag.exit (ae.exit ?_)
  obtain rfl:=aH h
  exact dY () 0
 rcases ay with ay | ay
 ·simp only [Sum.elim_inl] at h
  refine ae.e1 (ae.next (aC (aM ?_)))
  refine aL (ag.ret ?_)
  obtain rfl:=aH h
  exact cX
 simp only [Sum.elim_inr] at h
 refine ae.dz (ae.ret ?_)
 obtain rfl:=aH h
 exact cX
theorem Ea {J:an} {ah:Int} {r:an} (h:tX J ah=some r):bw Tryz.prog 19 [I.of (J),I.of (ah)] (I.of (r)):=by
 unfold tX at h
 refine bw.of Tryz.func19 rfl Tryz.ntmps19 rfl fun W A=>?_
 refine aC (b7 fun a4=>?_)
 refine cC en fun ba=>?_
 refine bD (ag.block (aC (aB ?_)))
 refine bj kf ?_
 refine aM ?_
 refine aL (cg h (fun h=>?_) fun h=>?_)
 ·refine aC (cr 1 bG ?_)
  refine b8 0 bG ?_
  refine aL (ag.ret (ae.dz (ae.ret ?_)))
  obtain rfl:=aH h
  exact ae.hM rfl (fw 0 bG)
 refine aC (aB ?_)
 refine bj kf ?_
 refine aM ?_
 refine aL (cg h (fun h=>?_) fun h=>?_)
 ·refine aC (aY (aU ke) ?_)
  refine cc 1 hK eN ?_
  refine aB ?_
  refine bj kg ?_
  refine aY (iX Tryz.underlying3 Tryz.underlying147) ?_
  refine bh (n3 (fT 1 rfl) (ab rfl)) ?_
  refine bh (ui (ab rfl) (fT 1 rfl)) ?_
  obtain⟨bH,dt,h⟩:=au h
  refine dG dt (rr (ab rfl) (ab rfl)) ?_
  refine aY (aU im) ?_
  refine cc 1 ev eN ?_
  refine hg hr en { dv:=bH,b2:=J.b2:an } (j5 hK (j5 ev .nil)) ?_
  refine b8 0 bG ?_
  refine aL (ag.ret (ae.dz (ae.ret ?_)))
  obtain rfl:=aH h
  exact ae.hM rfl (fw 0 bG)
 refine aC (aB ?_)
 refine bj sO ?_
 refine aM ?_
 refine aL (cg h (fun h=>?_) fun h=>?_)
 ·refine aC (hg hr en (default:an) .nil ?_)
  refine b8 0 bG ?_
  refine aL (ag.ret (ae.dz (ae.ret ?_)))
  obtain rfl:=aH h
  exact ae.hM rfl (fw 0 bG)
 refine ag.skip (ae.dB (ae.next (aC (aY (aU im) ?_))))
 refine cc 1 ev eN ?_
 refine aB ?_
 refine aY (iX Tryz.underlying3 Tryz.underlying147) ?_
 refine bh (n3 (fT 1 rfl) (ab rfl)) ?_
 refine bh (ui (ab rfl) (fT 1 rfl)) ?_
 refine bj rr ?_
 obtain⟨dn,hx,h⟩:=au h
 refine dG hx (c9 (b:=({ (default:an) with b2:=J.b2&&&(((1#64) <<< (BitVec.ofInt 64 ah).toNat) - (1#64)) } :an)) rfl hr en (.cons ev rfl (ab rfl) rfl (.nil))) ?_
 refine b8 0 bG ?_
 refine aL (ag.ret ?_)
 obtain rfl:=aH h
 exact ae.hM rfl (fw 0 bG)
theorem Uv {J:Int} {ah:Int} {r:an} (h:D6 J ah=some r):bw Tryz.prog 97 [I.of (J),I.of (ah)] (I.of (r)):=by
 unfold D6 at h
 refine bw.of Tryz.func97 rfl Tryz.ntmps97 rfl fun W A=>?_
 refine aC (cC en fun a4=>?_)
 refine bW (aB ?_)
 refine aY (iX Tryz.underlying3 Tryz.underlying147) ?_
 refine bh (n3 (fT 1 rfl) (ab rfl)) ?_
 refine bh (ui (ab rfl) (fT 1 rfl)) ?_
 refine aB ?_
 refine aB ?_
 refine bj kg ?_
 refine aY (iX Tryz.underlying3 Tryz.underlying147) ?_
 refine bh (n3 (fT 1 rfl) (ab rfl)) ?_
 refine bh (ui (ab rfl) (fT 1 rfl)) ?_
 obtain⟨bH,dt,h⟩:=au h
 refine dG dt (ui (ab rfl) (ab rfl)) ?_
 refine hg hr en ({ (default:an) with b2:=bH } :an) (j5 ev .nil) ?_
 refine b8 0 bG ?_
 refine aL (ag.ret ?_)
 obtain rfl:=aH h
 exact ae.hM rfl (fw 0 bG)
theorem Un {J:List Int} {ah:Int} {r:Int} (h:Ao J ah=some r):bw Tryz.prog 130 [I.of (J),I.of (ah)] (I.of (r)):=by
 unfold Ao at h
 refine bw.of Tryz.func130 rfl Tryz.ntmps130 rfl fun W A=>?_
 refine aC (aM ?_)
 refine bD (aC (aB ?_))
 refine aY (eK Tryz.underlying41) ?_
 refine aB ?_
 refine aL (ag.block ?_)
 obtain⟨ay,ao,h⟩:=au h
 refine gE (γ:=Unit) (δ:=Unit) ao [0,1,7,8] (fun s1 av=>[(4,I.of (0:Int)),(9,I.of (s1))]) (fun s1 av=>[]) (fun aA=>Sum.elim (fun aA=>Exit.exit 0) (fun aA=>Exit.ret) aA) (fun aA av=>Sum.elim (fun aA=>[(4,I.of (0:Int)),(9,I.of (aA.1)),(10,I.of (aA.2))]) (fun aA=>[(4,I.of (aA.1)),(5,I.of (aA.2.1)),(6,I.of (aA.2.2.1)),(9,I.of (aA.2.2.2.1)),(10,I.of (aA.2.2.2.2.1)),(16,I.of (aA.2.2.2.2.2))]) aA) (fun aA av=>Sum.elim (fun aA=>[]) (fun aA=>[]) aA) () (fun s1 r h av=>?_) fun av=>?_
 ·refine aC (bj ea ?_)
  refine bD (cg h (fun h=>?_) fun h=>?_)
  ·refine cO (ag.seq (ag.block (aC (aB ?_))))
   obtain⟨aZ,cq,h⟩:=au h
   refine g5 cq Tryz.underlying41 bE ?_
   refine aY (da bE) ?_
   refine aM ?_
   refine aM ?_
   refine bW (aB ?_)
   refine aB ?_
   refine bj gf ?_
   refine aL (cg h (fun h=>?_) fun h=>?_)
   ·refine aC (aB ?_)
    refine aM ?_
    refine aL (ag.ret (ae.dz (ae.ret ?_)))
    obtain rfl:=aH h
    exact dY () 0
   refine ag.skip (ae.dB (ae.next (ag.cm (bj dd ?_))))
   refine aB ?_
   refine ai.nil ?_
   obtain rfl:=aH h
   exact fc () 0
  refine ag.exit (ae.exit ?_)
  obtain rfl:=aH h
  exact dY () 0
 rcases ay with ay | ay
 ·simp only [Sum.elim_inl] at h
  refine ae.e1 (ae.next (aC (aM ?_)))
  refine aL (ag.ret ?_)
  obtain rfl:=aH h
  exact cX
 simp only [Sum.elim_inr] at h
 refine ae.dz (ae.ret ?_)
 obtain rfl:=aH h
 exact cX
theorem Ug {J:bC} {ah:Vector an 4} {r:(Vector an 4)} (h:Ai J ah=some r):bw Tryz.prog 21 [I.of (J),I.of (ah)] (I.of (r)):=by
 unfold Ai at h
 refine bw.of Tryz.func21 rfl Tryz.ntmps21 rfl fun W A=>?_
 refine aC (b7 fun a4=>?_)
 refine b7 fun ba=>?_
 refine cC kR fun ck=>?_
 refine bD (aC (aY (aU k9) ?_))
 refine cc 2 ku kS ?_
 refine aY (eK Tryz.underlying51) ?_
 refine aB ?_
 refine aL (ag.block ?_)
 obtain⟨ay,ao,h⟩:=au h
 refine gE (γ:=Unit) (δ:=Unit) ao [0,1,2,3,4,8,9] (fun s1 av=>[(10,I.of (s1.1))]) (fun s1 av=>[(1,⟨some ba,.var (s1.2:Vector an 4)⟩)]) (fun aA=>Exit.exit 0) (fun aA av=>[(10,I.of (aA.1)),(11,I.of (aA.2.1))]) (fun aA av=>[(1,⟨some ba,.var (aA.2.2:Vector an 4)⟩)]) () (fun s1 r h av=>?_) fun av=>?_
 ·refine aC (bj ea ?_)
  refine bD (cg h (fun h=>?_) fun h=>?_)
  ·refine cO (ag.seq (ag.block (aC (aB ?_))))
   obtain⟨aZ,cq,h⟩:=au h
   refine g5 cq Tryz.underlying51 gw ?_
   refine aY (da gw) ?_
   refine cC m9 fun eW=>?_
   refine aM ?_
   refine b8 0 gw ?_
   refine bD (aC (aB ?_))
   refine bj kf ?_
   refine aB ?_
   refine dE (aU uq) ?_
   refine eI (fun hb=>fa (i:=0) ((aN.id cA).comp nQ) (r:=(az J.b4 aZ).g1) gF (cJ rfl hb) rfl rfl rfl) ?_
   refine dE hL ?_
   refine rV ?_
   refine aL (cg h (fun h=>?_) fun h=>?_)
   ·refine ag.exit (ae.exit (ae.e1 (ae.next (ag.cm (bj dd ?_)))))
    refine aB ?_
    refine ai.nil ?_
    obtain rfl:=aH h
    exact fc () 1
   refine cO (ag.block (aC (aY (aU sH) ?_)))
   refine cc 0 pv bG ?_
   refine hg hr en (default:an) .nil ?_
   refine bj (yx od rfl uz rfl) ?_
   refine aM ?_
   refine aL ?_
   obtain⟨bx,cy,h⟩:=au h
   refine jj (γ:=Unit) [0,1,2,3,4,5,6,8,9,10,11,21,26] (fun aW=>[]) (fun aW=>[(2,⟨some ba,.var (bx:Vector an 4)⟩)]) (fun aW=>?_) (fun hm al=>?_) fun hm al=>?_
   ·refine ae.dB (ae.dB (ae.next (ag.cm (bj dd ?_))))
    refine aB ?_
    refine ai.nil ?_
    obtain rfl:=aH h
    exact fc () 1
   ·have h:=gQ al cy
    obtain⟨bP,c6,h⟩:=au h
    obtain⟨bH,dt,h⟩:=au h
    obtain⟨cT,fe,h⟩:=au h
    obtain⟨dn,hx,h⟩:=au h
    obtain⟨eY,hy,h⟩:=au h
    refine ag.draw mixed 29 ((some 31)::(some 32)::(some 33)::(some 34)::(some 35)::(some 36)::(some 37)::(some 38)::(some 39)::(some 40)::(some 41)::(some 42)::(some 43)::(some 44)::(some 45)::(some 46)::(some 47)::(some 48)::(some 49)::(some 50)::(some 51)::(some 52)::(some 53)::(some 54)::(some 55)::(some 56)::(some 57)::(some 58)::none::[]) ([]::[]::[]::[2]::[3]::[4]::[]::[6]::[7]::[5,8]::[]::[10]::[11]::[9,12]::[]::[14]::[15]::[16]::[]::[18]::[19]::[17,20]::[]::[22]::[23]::[21,24]::[0]::[26]::[13,27]::[]) (.val _::.val _::.val _::.val _::.val _::.val _::.val _::.val _::.val _::.val _::.val _::.val _::.val _::.val _::.val _::.val _::.val _::.val _::.val _::.val _::.val _::.val _::.val _::.val _::.val _::.val _::.val _::.val _::.kF 2 (.var (c5 s1.2 eY ({ (br s1.2 eY) with b2:=bH } :an):Vector an 4))::[]) (false::false::false::false::false::false::false::false::false::false::false::false::false::false::false::false::false::false::false::false::false::false::false::false::false::false::false::false::true::[]) (by kernel_rfl) rfl rfl rfl (fun cx=>⟨ct,ct,ct,c1 fun ax ar=>eb (k:=bP) fU (ab rfl) (ab rfl) (bZ c6),H1 (aU im),dg 2 (((aN.id (Vector an 4)).comp (aN.idx (α:=an) 4 bP (bZ c6).1)).comp ev) eN,H1 (aU sH),H1 (aU im),dg 0 (pv.comp ev) eN,jc MW,H1 (aU n8),H1 (aU im),dg 0 (k6.comp ev) eN,u9 dt fun ax ar=>rB (ab rfl) (ab rfl),ct,c1 fun ax ar=>eb (k:=cT) fU (ab rfl) (ab rfl) (bZ fe),H1 (aU ke),dg 2 (((aN.id (Vector an 4)).comp (aN.idx (α:=an) 4 cT (bZ fe).1)).comp hK) eN,H1 (aU sH),H1 (aU ke),dg 0 (pv.comp hK) eN,jc MW,H1 (aU n8),H1 (aU ke),dg 0 (k6.comp hK) eN,u9 hx fun ax ar=>rB (ab rfl) (ab rfl),c1 fun ax ar=>eb (k:=eY) fU (ab rfl) (ab rfl) (bZ hy),H1 (aU im),⟨_,_,rfl,fun ax ar=>rC (i:=2) (((aN.id (Vector an 4)).comp (aN.idx (α:=an) 4 eY (bZ hy).1)).comp ev) (v:=(bH:BitVec 64)) (b':=(c5 s1.2 eY ({ (br s1.2 eY) with b2:=bH } :an):Vector an 4)) eN (ab rfl) (ab rfl) (ar _ _ rfl) rfl rfl⟩,trivial⟩) fun cx=>?_
    obtain⟨iK,nb,h⟩:=au h
    refine bh (eb (k:=iK) fU (ab rfl) (ab rfl) (bZ nb)) ?_
    refine aY (aU ke) ?_
    obtain⟨fm,jH,h⟩:=au h
    refine wW 2 (((aN.id (Vector an 4)).comp (aN.idx (α:=an) 4 iK (bZ nb).1)).comp hK) eN (hb:=by exact jH) ?_
    refine ai.nil ?_
    obtain rfl:=aH h
    exact dq 0 (hm ())
   have h:=gR al cy
   refine aC (aY (aU qf) ?_)
   refine cc 0 nR bE ?_
   refine bj pI ?_
   refine aB ?_
   refine dE (aU qf) ?_
   refine eI (fun hb=>fa (i:=0) ((aN.id cA).comp nR) (r:=(az J.b4 aZ).fp) bE (cJ rfl hb) rfl rfl rfl) ?_
   refine jw sO ?_
   obtain⟨hF,mF,h⟩:=au h
   refine dG mF (rF (ab rfl) (ab rfl) (fun h=>h)) ?_
   refine aM ?_
   refine aL ?_
   obtain⟨cY,eg,h⟩:=au h
   refine jj (γ:=Unit) [0,1,2,3,4,5,6,8,9,10,11,21,26,61] (fun bB=>[]) (fun bB=>[(2,⟨some ba,.var (cY:Vector an 4)⟩)]) (fun bB=>?_) (fun hm al=>?_) fun hm al=>?_
   ·obtain rfl:=aH h
    exact dq 0 (hm ())
   ·have h:=gQ al eg
    obtain⟨jo,nB,h⟩:=au h
    obtain⟨hG,nC,h⟩:=au h
    obtain⟨jQ,qB,h⟩:=au h
    obtain⟨jB,oz,h⟩:=au h
    refine ag.draw mixed 18 ((some 70)::(some 71)::(some 72)::(some 73)::(some 74)::(some 75)::(some 76)::(some 77)::(some 78)::(some 79)::(some 80)::(some 81)::(some 82)::(some 83)::(some 84)::(some 85)::(some 86)::(some 87)::[]) ([]::[]::[1]::[2]::[]::[4]::[5]::[6]::[]::[8]::[9]::[10]::[11]::[12]::[7,13]::[3,14]::[15]::[0]::[]) (.val _::.val _::.val _::.val _::.val _::.val _::.val _::.val _::.val _::.val _::.val _::.val _::.val _::.val _::.val _::.val _::.val _::.val _::[]) (false::false::false::false::false::false::false::false::false::false::false::false::false::false::false::false::false::false::[]) (by kernel_rfl) rfl rfl rfl (fun hh=>⟨ct,H1 (aU n8),H1 (aU im),dg 0 (k6.comp ev) eN,ct,c1 fun ax ar=>eb (k:=jo) fU (ab rfl) (ab rfl) (bZ nB),H1 (aU im),dg 2 (((aN.id (Vector an 4)).comp (aN.idx (α:=an) 4 jo (bZ nB).1)).comp ev) eN,H1 (aU qf),dg 0 nR bE,jc kg,H1 (iX Tryz.underlying3 Tryz.underlying147),u9 nC fun ax ar=>n3 (fT 1 rfl) (ab rfl),c1 fun ax ar=>ui (ab rfl) (fT 1 rfl),jc rr,u9 qB fun ax ar=>rB (ab rfl) (ab rfl),c1 fun ax ar=>c9 (b:=({ (default:an) with b2:=jQ } :an)) rfl hr en (.cons ev rfl (ab rfl) rfl (.nil)),c1 fun ax ar=>eb (k:=jB) fU (ab rfl) (ab rfl) (bZ oz),trivial⟩) fun hh=>?_
    obtain⟨jR,qC,h⟩:=au h
    refine wW 2 ((aN.id (Vector an 4)).comp (aN.idx (α:=an) 4 jB (bZ oz).1)) bG (hb:=by exact qC) ?_
    refine ai.nil ?_
    obtain rfl:=aH h
    exact dq 0 (hm ())
   have h:=gR al eg
   refine ag.cm (aB ?_)
   refine aY (aU n8) ?_
   refine cc 0 k6 bG ?_
   obtain⟨h7,mG,h⟩:=au h
   refine bh (eb (k:=h7) fU (ab rfl) (ab rfl) (bZ mG)) ?_
   refine nc 2 ((aN.id (Vector an 4)).comp (aN.idx (α:=an) 4 h7 (bZ mG).1)) bG ?_
   refine ai.nil ?_
   obtain rfl:=aH h
   exact dq 0 (hm ())
  refine ag.exit (ae.exit ?_)
  obtain rfl:=aH h
  exact dY () 0
 refine ae.e1 (ae.next (aC (cr 1 dW ?_)))
 refine b8 0 dW ?_
 refine aL (ag.ret ?_)
 obtain rfl:=aH h
 exact ae.hM rfl (fw 0 dW)
theorem Eb {J:an} {ah:an} {r:an} (h:tY J ah=some r):bw Tryz.prog 153 [I.of (J),I.of (ah)] (I.of (r)):=by
 unfold tY at h
 refine bw.of Tryz.func153 rfl Tryz.ntmps153 rfl fun W A=>?_
 refine aC (b7 fun a4=>?_)
 refine b7 fun ba=>?_
 refine cC en fun ck=>?_
 refine bW (aY (aU ke) ?_)
 refine cc 2 hK eN ?_
 refine aY (aU ke) ?_
 refine cc 1 hK eN ?_
 refine bj Of ?_
 refine aY (aU im) ?_
 refine cc 2 ev eN ?_
 refine aY (aU im) ?_
 refine cc 1 ev eN ?_
 refine bj Of ?_
 obtain⟨bH,dt,h⟩:=au h
 refine dG dt (c9 (b:= { dv:=J.dv ^^^ ah.dv,b2:=J.b2 ^^^ ah.b2:an }) rfl hr en (.cons hK rfl (ab rfl) rfl (.cons ev rfl (ab rfl) rfl (.nil)))) ?_
 refine b8 0 bG ?_
 refine aL (ag.ret ?_)
 obtain rfl:=aH h
 exact ae.hM rfl (fw 0 bG)
theorem oN {J:an} {ah:an} {r:an} (h:mn J ah=some r):bw Tryz.prog 116 [I.of (J),I.of (ah)] (I.of (r)):=by
 unfold mn at h
 refine bw.of Tryz.func116 rfl Tryz.ntmps116 rfl fun W A=>?_
 refine aC (b7 fun a4=>?_)
 refine b7 fun ba=>?_
 refine cC en fun ck=>?_
 refine bW (aY (aU ke) ?_)
 refine cc 2 hK eN ?_
 refine aY (aU ke) ?_
 refine cc 1 hK eN ?_
 refine bj rr ?_
 refine aY (aU im) ?_
 refine cc 2 ev eN ?_
 refine aY (aU im) ?_
 refine cc 1 ev eN ?_
 refine bj rr ?_
 obtain⟨bH,dt,h⟩:=au h
 refine dG dt (c9 (b:= { dv:=J.dv&&&ah.dv,b2:=J.b2&&&ah.b2:an }) rfl hr en (.cons hK rfl (ab rfl) rfl (.cons ev rfl (ab rfl) rfl (.nil)))) ?_
 refine b8 0 bG ?_
 refine aL (ag.ret ?_)
 obtain rfl:=aH h
 exact ae.hM rfl (fw 0 bG)
theorem D0 {J:Ref} {ah:an} {aP:Int} {r:Int×an×Ref} (h:xM J ah aP=some r):bw Tryz.prog 215 [I.of (J),I.of (ah),I.of (aP)] (I.gU 220 [I.ptr r.1,I.ptr r.2.1,I.ptr r.2.2]):=by
 unfold xM at h
 refine bw.of Tryz.func215 rfl Tryz.ntmps215 rfl fun W A=>?_
 refine aC (b7 fun a4=>?_)
 refine b7 fun ba=>?_
 refine b7 fun ck=>?_
 refine bh (ew (E8 .nilFunc)) ?_
 refine bW (ai.share (α:=Int) 0 5 rfl rfl (ai.share (α:=an) 1 4 rfl rfl (ai.share (α:=Ref) 2 3 rfl rfl (bh (I2 (f:=220) (τs:= [I.ptr aP,I.ptr ah,I.ptr J]) ⟨ab rfl,ab rfl,ab rfl,trivial⟩) ?_))))
 refine aM ?_
 refine aL (ag.ret ?_)
 obtain rfl:=aH h
 exact cX
theorem SH {J:List cA} {r:(List cA)} (h:Dx J=some r):bw Tryz.prog 112 [I.of (J)] (I.of (r)):=by
 unfold Dx at h
 refine bw.of Tryz.func112 rfl Tryz.ntmps112 rfl fun W A=>?_
 refine aC (bh (ew (look_nil (α:=cA))) ?_)
 refine bD (aC (aB ?_))
 refine bh (I3 Tryz.underlying51 (ab rfl)) ?_
 refine aL (ag.I4 (ab rfl) (fun aq=>?_) ?_)
 ·subst aq; replace h:=HI h; subst h
  have h:some ([]:List cA)=some []:=rfl
  refine aC (bh (ew (look_nil (α:=cA))) ?_)
  refine aL (ag.ret (ae.ret ?_))
  replace h:=aH h
  exact cX
 refine cO (aC (ai.pN (α:=cA) (r:=([]:List cA)) Tryz.underlying51 gw m9 rfl rfl (.nil) rfl fun gD=>?_))
 refine aB ?_
 obtain⟨aD,bo,h⟩:=au h
 refine jI 0 Tryz.underlying51 gw m9 bo fun kj fC=>?_
 refine aM ?_
 refine aL (ag.ret (ae.n4 (α:=cA) 0 [2,7] ⟨rfl,rfl,trivial⟩ rfl ?_))
 obtain rfl:=aH h
 exact cX
theorem SI {J:List an} {r:(List an)} (h:Dy J=some r):bw Tryz.prog 113 [I.of (J)] (I.of (r)):=by
 unfold Dy at h
 refine bw.of Tryz.func113 rfl Tryz.ntmps113 rfl fun W A=>?_
 refine aC (bh (ew (look_nil (α:=an))) ?_)
 refine bD (aC (aB ?_))
 refine bh (I3 Tryz.underlying42 (ab rfl)) ?_
 refine aL (ag.I4 (ab rfl) (fun aq=>?_) ?_)
 ·subst aq; replace h:=HI h; subst h
  have h:some ([]:List an)=some []:=rfl
  refine aC (bh (ew (look_nil (α:=an))) ?_)
  refine aL (ag.ret (ae.ret ?_))
  replace h:=aH h
  exact cX
 refine cO (aC (ai.pN (α:=an) (r:=([]:List an)) Tryz.underlying42 bG en rfl rfl (.nil) rfl fun gD=>?_))
 refine aB ?_
 obtain⟨aD,bo,h⟩:=au h
 refine jI 0 Tryz.underlying42 bG en bo fun kj fC=>?_
 refine aM ?_
 refine aL (ag.ret (ae.n4 (α:=an) 0 [2,7] ⟨rfl,rfl,trivial⟩ rfl ?_))
 obtain rfl:=aH h
 exact cX
theorem SJ {J:List cA} {ah:List cA} {r:Bool} (h:zr J ah=some r):bw Tryz.prog 235 [I.of (J),I.of (ah)] (I.of (r)):=by
 unfold zr at h
 refine bw.of Tryz.func235 rfl Tryz.ntmps235 rfl fun W A=>?_
 refine aC (aM ?_)
 refine bD (aC (aB ?_))
 refine aY (eK Tryz.underlying51) ?_
 refine aB ?_
 refine aY (eK Tryz.underlying51) ?_
 refine bj sP ?_
 refine aL (cg h (fun h=>?_) fun h=>?_)
 ·refine aC (aM ?_)
  refine aL (ag.ret (ae.ret ?_))
  obtain rfl:=aH h
  exact cX
 refine cO (ag.seq (aC (aB ?_)))
 refine aY (eK Tryz.underlying51) ?_
 refine aB ?_
 refine aL (ag.block ?_)
 obtain⟨ay,ao,h⟩:=au h
 refine gE (γ:=Unit) (δ:=Unit) ao [0,1,4,10,12] (fun s1 av=>[(13,I.of (s1))]) (fun s1 av=>[]) (fun aA=>Sum.elim (fun aA=>Exit.exit 0) (fun aA=>Exit.ret) aA) (fun aA av=>Sum.elim (fun aA=>[(13,I.of (aA.1)),(14,I.of (aA.2))]) (fun aA=>[(5,I.of (aA.1)),(13,I.of (aA.2.1)),(14,I.of (aA.2.2.1)),(24,I.of (aA.2.2.2))]) aA) (fun aA av=>Sum.elim (fun aA=>[]) (fun aA=>[]) aA) () (fun s1 r h av=>?_) fun av=>?_
 ·refine aC (bj ea ?_)
  refine bD (cg h (fun h=>?_) fun h=>?_)
  ·refine cO (ag.seq (ag.block (aC (aB ?_))))
   refine aM ?_
   refine bD ?_
   obtain⟨aZ,cq,h⟩:=au h
   obtain⟨bP,c6,h⟩:=au h
   refine ag.draw mixed 9 [some 16,some 17,some 18,some 19,some 20,some 21,some 22,some 23,some 24] [[],[],[0,1],[2],[],[],[4,5],[6],[3,7]] [.val _,.val _,.val _,.val _,.val _,.val _,.val _,.val _,.val _] [false,false,false,false,false,false,false,false,false] (by kernel_rfl) rfl rfl rfl (fun cx=>⟨ct,ct,kX cq Tryz.underlying51 gw,H1 (da gw),ct,ct,kX c6 Tryz.underlying51 gw,H1 (da gw),jc (yx YC rfl YD rfl),trivial⟩) fun cx=>?_
   refine aL (cg h (fun h=>?_) fun h=>?_)
   ·refine aC (aM ?_)
    refine aL (ag.ret (ae.dz (ae.ret ?_)))
    obtain rfl:=aH h
    exact dY () 0
   refine ag.skip (ae.dB (ae.next (ag.cm (bj dd ?_))))
   refine aB ?_
   refine ai.nil ?_
   obtain rfl:=aH h
   exact fc () 0
  refine ag.exit (ae.exit ?_)
  obtain rfl:=aH h
  exact dY () 0
 rcases ay with ay | ay
 ·simp only [Sum.elim_inl] at h
  refine ae.e1 (ae.next (aC (aM ?_)))
  refine aL (ag.ret ?_)
  obtain rfl:=aH h
  exact cX
 simp only [Sum.elim_inr] at h
 refine ae.dz (ae.ret ?_)
 obtain rfl:=aH h
 exact cX
theorem TK {hp:a1 Cell} {J:Ref} {ah:Vector an 4} {aP:Int} {r:Bool×(a1 Cell)} (h:DY hp J ah aP=some r):b9 Tryz.prog 198 [I.of (J),I.of (ah),I.of (aP)] ([]++a8 hp) (δ:=Unit) (fun d=>I.of (r.1)) (fun d=>[]++a8 r.2):=by
 unfold DY at h
 refine b9.of Tryz.func198 rfl Tryz.ntmps198 rfl fun W A=>?_
 refine aC (b7 fun a4=>?_)
 refine aM ?_
 refine bD (aC (aB ?_))
 refine bh (oR Tryz.underlying124 (ab rfl)) ?_
 refine aL (cg h (fun h=>?_) fun h=>?_)
 ·refine aC (aM ?_)
  refine aL (ag.ret (ae.ret ?_))
  obtain rfl:=aH h
  exact ae.gr () (.cons _ (.refl _)) rfl rfl (ej rfl)
 refine cO (ag.seq (ag.seq ?_))
 obtain⟨cG,dF,h⟩:=au h
 obtain⟨bY,ed,h⟩:=au h
 obtain⟨cv,fx,h⟩:=au h
 obtain⟨cN,fI,h⟩:=au h
 obtain⟨bH,dt,h⟩:=au h
 refine ag.draw mixed 10 [some 12,some 13,some 14,some 15,some 16,some 17,some 11,some 18,some 19,some 7] [[],[0],[1],[2],[],[3,4],[5],[6],[6],[7]] [.val _,.val _,.val _,.val _,.val _,.val _,.val _,.val _,.val _,.val _] [false,false,false,false,false,false,false,false,false,false] (by kernel_rfl) rfl rfl rfl (fun cx=>⟨ct,c1 fun ax ar=>dV (eL (ab rfl) dF),H1 (aU EJ),c1 fun ax ar=>gd ((aN.id ns).comp zG) (r:=bY.oX) Bt (ab rfl) (kB (fun i e q=>ar i e q rfl) (fk (n:=1) rfl (ur ed) rfl)) rfl rfl,eG 0 dW,c1 fun ax ar=>HR (r:=bH) Tryz.underlying186 Fj h0 (mV (ab rfl) fx) (ab rfl) (kB (fun i e q=>ar i e q rfl) (fk (n:=1) rfl (rD fI) rfl)) (aH dt),ct,uV,uV,xh,trivial⟩) fun cx=>?_
 refine aM ?_
 refine bW (aB ?_)
 refine aL (cg h (fun h=>?_) fun h=>?_)
 ·refine aC (aM ?_)
  refine aL (ag.ret (ae.ret ?_))
  obtain rfl:=aH h
  exact ae.gr () (.cons _ (.refl _)) rfl rfl (ej rfl)
 refine cO (ag.seq (ag.draw mixed 6 [some 21,some 22,some 23,some 24,some 25,some 26] [[],[0],[1],[2],[],[]] [.val _,.val _,.val _,.val _,.val _,.val _] [false,false,false,false,false,false] (by kernel_rfl) rfl rfl rfl (fun hh=>⟨ct,c1 fun ax ar=>dV (eL (ab rfl) dF),H1 (aU EJ),c1 fun ax ar=>gd ((aN.id ns).comp zG) (r:=bY.oX) Bt (ab rfl) (kB (fun i e q=>ar i e q rfl) (fk (n:=1) rfl (ur ed) rfl)) rfl rfl,eG 0 dW,ct,trivial⟩) fun hh=>?_))
 obtain⟨de,kT,h⟩:=au h
 refine ai.I5 (k':=Cell.ot (hc cN ah aP)) 1 rfl (by first | exact .inl rfl | exact .inr rfl) Tryz.underlying186 Fj (mV (ab rfl) fx) (ab rfl) (ab rfl) (rD fI) rfl rfl rfl (aH kT) ?_
 refine bW (aM ?_)
 refine aL (ag.ret ?_)
 obtain rfl:=aH h
 exact ae.gr () (.cons _ (.refl _)) rfl rfl (ej rfl)
theorem S1 {J:aJ} {ah:Int} {r:Bool} (h:DE J ah=some r):bw Tryz.prog 88 [I.of (J),I.ptr ah] (I.of (r)):=by
 unfold DE at h
 refine bw.of Tryz.func88 rfl Tryz.ntmps88 rfl fun W A=>?_
 refine aC (b7 fun a4=>?_)
 refine aM ?_
 refine bW (aY (aU mX) ?_)
 refine cc 0 lx bE ?_
 refine aY (da bE) ?_
 refine bj gf ?_
 refine aM ?_
 refine aL (ag.ret ?_)
 obtain rfl:=aH h
 exact cX
theorem S2 {J:cR} {r:Bool} (h:DF J=some r):bw Tryz.prog 90 [I.of (J)] (I.of (r)):=by
 unfold DF at h
 refine bw.of Tryz.func90 rfl Tryz.ntmps90 rfl fun W A=>?_
 refine aC (b7 fun a4=>?_)
 refine aM ?_
 refine bW (aY (aU sG) ?_)
 refine cc 0 lW bE ?_
 refine bj gf ?_
 refine aM ?_
 refine aL (ag.ret ?_)
 obtain rfl:=aH h
 exact cX
theorem TO {J:a3} {ah:List aJ} {aP:aJ} {r:(List aJ)×a3×aJ} (h:Hp J ah aP=some r):bw Tryz.prog 92 [I.of (J),I.of (ah),I.of (aP)] (I.gU 117 [I.ptr r.1,I.ptr r.2.1,I.ptr r.2.2]):=by
 unfold Hp at h
 refine bw.of Tryz.func92 rfl Tryz.ntmps92 rfl fun W A=>?_
 refine aC (b7 fun a4=>?_)
 refine b7 fun ba=>?_
 refine b7 fun ck=>?_
 refine bh (ew (E8 .nilFunc)) ?_
 refine bW (ai.share (α:=List aJ) 1 4 rfl rfl (ai.share (α:=a3) 2 3 rfl rfl (ai.share (α:=aJ) 0 5 rfl rfl (bh (I2 (f:=117) (τs:= [I.ptr ah,I.ptr J,I.ptr aP]) ⟨ab rfl,ab rfl,ab rfl,trivial⟩) ?_))))
 refine aM ?_
 refine aL (ag.ret ?_)
 obtain rfl:=aH h
 exact cX
theorem z7 {J:Vector an 4} {ah:Vector an 4} {aP:an→an→Option an} {r:(Vector an 4)} (h:sl J ah aP=some r):bw Tryz.prog 152 [I.of (J),I.of (ah),I.yW Tryz.prog aP] (I.of (r)):=by
 unfold sl at h
 refine bw.of Tryz.func152 rfl Tryz.ntmps152 rfl fun W A=>?_
 refine aC (b7 fun a4=>?_)
 refine b7 fun ba=>?_
 refine cC kR fun ck=>?_
 refine bD (aC (aB ?_))
 refine aL (ag.block ?_)
 obtain⟨ay,ao,h⟩:=au h
 refine gE (γ:=Unit) (δ:=Unit) ao [0,1,2,3,4,6] (fun s1 av=>[(8,I.of (s1.1))]) (fun s1 av=>[(2,⟨some a4,.var (s1.2:Vector an 4)⟩)]) (fun aA=>Exit.exit 0) (fun aA av=>[(8,I.of (aA.1)),(9,I.of (aA.2.1))]) (fun aA av=>[(2,⟨some a4,.var (aA.2.2:Vector an 4)⟩)]) () (fun s1 r h av=>?_) fun av=>?_
 ·refine aC (bj ea ?_)
  refine bD (cg h (fun h=>?_) fun h=>?_)
  ·refine cO (ag.seq (ag.block (aC (aB ?_))))
   refine aM ?_
   refine aL ?_
   obtain⟨aZ,cq,h⟩:=au h
   obtain⟨bP,c6,h⟩:=au h
   obtain⟨aD,bo,h⟩:=au h
   obtain⟨cT,fe,h⟩:=au h
   refine ag.draw mixed 10 [some 11,some 12,some 13,some 14,some 15,some 16,some 17,some 18,some 19,some 20] [[],[],[],[2],[3],[],[5],[6],[1,4,7],[0]] [.val _,.val _,.val _,.val _,.val _,.val _,.val _,.val _,.val _,.val _] [false,false,false,false,false,false,false,false,false,false] (by kernel_rfl) rfl rfl rfl (fun cx=>⟨ct,ct,ct,c1 fun ax ar=>eb (k:=aZ) fU (ab rfl) (ab rfl) (bZ cq),dg 2 ((aN.id (Vector an 4)).comp (aN.idx (α:=an) 4 aZ (bZ cq).1)) bG,ct,c1 fun ax ar=>eb (k:=bP) fU (ab rfl) (ab rfl) (bZ c6),dg 1 ((aN.id (Vector an 4)).comp (aN.idx (α:=an) 4 bP (bZ c6).1)) bG,c1 fun ax ar=>HS (ab rfl) (ab rfl) (ab rfl) bo,c1 fun ax ar=>eb (k:=cT) fU (ab rfl) (ab rfl) (bZ fe),trivial⟩) fun cx=>?_
   refine nc 2 ((aN.id (Vector an 4)).comp (aN.idx (α:=an) 4 cT (bZ fe).1)) bG ?_
   refine ai.nil (ae.dB (ae.next (ag.cm (bj dd ?_))))
   refine aB ?_
   refine ai.nil ?_
   obtain rfl:=aH h
   exact fc () 0
  refine ag.exit (ae.exit ?_)
  obtain rfl:=aH h
  exact dY () 0
 refine ae.e1 (ae.next (aC (cr 2 dW ?_)))
 refine b8 0 dW ?_
 refine aL (ag.ret ?_)
 obtain rfl:=aH h
 exact ae.hM rfl (fw 0 dW)
theorem rm {J:an} {ah:an} {r:an} (h:nW J ah=some r):bw Tryz.prog 154 [I.of (J),I.of (ah)] (I.of (r)):=by
 unfold nW at h
 refine bw.of Tryz.func154 rfl Tryz.ntmps154 rfl fun W A=>?_
 refine aC (b7 fun a4=>?_)
 refine b7 fun ba=>?_
 refine cC en fun ck=>?_
 refine bW (aY (aU ke) ?_)
 refine cc 2 hK eN ?_
 refine aY (aU ke) ?_
 refine cc 1 hK eN ?_
 refine bj rB ?_
 refine aY (aU im) ?_
 refine cc 2 ev eN ?_
 refine aY (aU im) ?_
 refine cc 1 ev eN ?_
 refine bj rB ?_
 obtain⟨bH,dt,h⟩:=au h
 refine dG dt (c9 (b:= { dv:=J.dv|||ah.dv,b2:=J.b2|||ah.b2:an }) rfl hr en (.cons hK rfl (ab rfl) rfl (.cons ev rfl (ab rfl) rfl (.nil)))) ?_
 refine b8 0 bG ?_
 refine aL (ag.ret ?_)
 obtain rfl:=aH h
 exact ae.hM rfl (fw 0 bG)
theorem LX {J:List bc} {ah:bc→Option Bool} {r:Int} (h:xq J ah=some r):bw Tryz.prog 151 [I.of (J),I.qA Tryz.prog ah] (I.of (r)):=by
 unfold xq at h
 refine bw.of Tryz.func151 rfl Tryz.ntmps151 rfl fun W A=>?_
 refine aC (aM ?_)
 refine bD (aC (aB ?_))
 refine aY (eK Tryz.underlying143) ?_
 refine aB ?_
 refine aL (ag.block ?_)
 obtain⟨ay,ao,h⟩:=au h
 refine gE (γ:=Unit) (δ:=Unit) ao [0,1,7] (fun s1 av=>[(4,I.of (0:Int)),(8,I.of (s1))]) (fun s1 av=>[]) (fun aA=>Sum.elim (fun aA=>Exit.exit 0) (fun aA=>Exit.ret) aA) (fun aA av=>Sum.elim (fun aA=>[(4,I.of (0:Int)),(8,I.of (aA.1)),(9,I.of (aA.2))]) (fun aA=>[(4,I.of (aA.1)),(5,I.of (aA.2.1)),(8,I.of (aA.2.2.1)),(9,I.of (aA.2.2.2.1)),(16,I.of (aA.2.2.2.2))]) aA) (fun aA av=>Sum.elim (fun aA=>[]) (fun aA=>[]) aA) () (fun s1 r h av=>?_) fun av=>?_
 ·refine aC (bj ea ?_)
  refine bD (cg h (fun h=>?_) fun h=>?_)
  ·refine cO (ag.seq (ag.block (aC (aB ?_))))
   refine aM ?_
   refine bW (aB ?_)
   refine aB ?_
   refine aB ?_
   obtain⟨aZ,cq,h⟩:=au h
   refine g5 cq Tryz.underlying143 dI ?_
   refine aY (da dI) ?_
   obtain⟨aD,bo,h⟩:=au h
   refine bh (yb (ab rfl) (ab rfl) bo) ?_
   refine aL (cg h (fun h=>?_) fun h=>?_)
   ·refine aC (aB ?_)
    refine aM ?_
    refine aL (ag.ret (ae.dz (ae.ret ?_)))
    obtain rfl:=aH h
    exact dY () 0
   refine ag.skip (ae.dB (ae.next (ag.cm (bj dd ?_))))
   refine aB ?_
   refine ai.nil ?_
   obtain rfl:=aH h
   exact fc () 0
  refine ag.exit (ae.exit ?_)
  obtain rfl:=aH h
  exact dY () 0
 rcases ay with ay | ay
 ·simp only [Sum.elim_inl] at h
  refine ae.e1 (ae.next (aC (aM ?_)))
  refine aL (ag.ret ?_)
  obtain rfl:=aH h
  exact cX
 simp only [Sum.elim_inr] at h
 refine ae.dz (ae.ret ?_)
 obtain rfl:=aH h
 exact cX
theorem SD {J:List bc} {r:(List bc)} (h:zs J=some r):b9 Tryz.prog 120 [I.of (J)] [] (δ:=(Option Nat×Nat)) (fun d=>I.eq (aS d.1 (r).length d.2)) (fun d=>[⟨d.1,.row 142 (r:List bc) d.2⟩]):=by
 unfold zs at h
 refine b9.of Tryz.func120 rfl Tryz.ntmps120 rfl fun W A=>?_
 refine aC (ai.own (α:=bc) 142 (bh (ew qb) ?_))
 refine bD (aC (aB ?_))
 refine bh (I3 Tryz.underlying143 (ab rfl)) ?_
 refine aL (ag.I4 (ab rfl) (fun aq=>?_) ?_)
 ·subst aq; replace h:=HI h; subst h
  have h:some ([]:List bc)=some []:=rfl
  refine aC (ai.own (α:=bc) 142 (bh (ew qb) ?_))
  refine aL (ag.ret (ae.ret (ae.bI 0 rfl ?_)))
  replace h:=aH h
  exact kW (none,0)
 refine cO (aC (ai.pN (α:=bc) (r:=([]:List bc)) Tryz.underlying143 dI jh rfl rfl (.nil) rfl fun gD=>?_))
 refine aB ?_
 obtain⟨aD,bo,h⟩:=au h
 refine jI 0 Tryz.underlying143 dI jh bo fun kj fC=>?_
 refine aM ?_
 refine aL (ag.ret (ae.bI 0 rfl ?_))
 obtain rfl:=aH h
 exact kW (kj,fC)
theorem ME {J:Int} {r:Int×Int} (h:xY J=some r):bw Tryz.prog 158 [I.of (J)] (I.ep [I.of (r.1),I.of (r.2)]):=by
 unfold xY at h
 refine bw.of Tryz.func158 rfl Tryz.ntmps158 rfl fun W A=>?_
 refine aC (aM ?_)
 refine aM ?_
 refine bW (aB ?_)
 obtain⟨aD,bo,h⟩:=au h
 refine bh (PD (ab rfl) (bU 128) (Nf bo)) ?_
 refine aB ?_
 obtain⟨aK,cb,h⟩:=au h
 refine bh (Bs (ab rfl) (bU 128) (AL cb)) ?_
 refine bj kg ?_
 refine aM ?_
 refine aM ?_
 refine aL (ag.ret ?_)
 obtain rfl:=aH h
 exact wU
theorem MX {J:BitVec 64} {r:an} (h:Ej J=some r):bw Tryz.prog 160 [I.of (J)] (I.of (r)):=by
 unfold Ej at h
 refine bw.of Tryz.func160 rfl Tryz.ntmps160 rfl fun W A=>?_
 refine aC (cC en fun a4=>?_)
 refine bW (aB ?_)
 refine hg hr en ({ (default:an) with b2:=J } :an) (j5 ev .nil) ?_
 refine b8 0 bG ?_
 refine aL (ag.ret ?_)
 obtain rfl:=aH h
 exact ae.hM rfl (fw 0 bG)
theorem TP {J:a3} {ah:Int} {r:ei} (h:z6 J ah=some r):bw Tryz.prog 65 [I.of (J),I.of (ah)] (I.of (r)):=by
 unfold z6 at h
 refine bw.of Tryz.func65 rfl Tryz.ntmps65 rfl fun W A=>?_
 refine aC (b7 fun a4=>?_)
 refine cC qj fun ba=>?_
 refine bD (aC (aY (aU IE) ?_))
 refine cc 1 G0 FK ?_
 refine aY (eK Tryz.underlying26) ?_
 refine aB ?_
 refine aL (ag.block ?_)
 obtain⟨ay,ao,h⟩:=au h
 refine gE (γ:=Unit) (δ:=Unit) ao [0,1,2,4,8,9] (fun s1 av=>[(10,I.of (s1))]) (fun s1 av=>[]) (fun aA=>Sum.elim (fun aA=>Exit.exit 0) (fun aA=>Exit.ret) aA) (fun aA av=>Sum.elim (fun aA=>[(10,I.of (aA.1)),(11,I.of (aA.2))]) (fun aA=>[(10,I.of (aA.1)),(11,I.of (aA.2.1)),(17,I.of (aA.2.2.1))]) aA) (fun aA av=>Sum.elim (fun aA=>[]) (fun aA=>[(0,⟨some ba,.var (aA.2.2.2:ei)⟩)]) aA) () (fun s1 r h av=>?_) fun av=>?_
 ·refine aC (bj ea ?_)
  refine bD (cg h (fun h=>?_) fun h=>?_)
  ·refine cO (ag.seq (ag.block (aC ?_)))
   obtain⟨aZ,cq,h⟩:=au h
   refine g5 cq Tryz.underlying26 oe ?_
   refine aY (da oe) ?_
   refine cC qj fun ck=>?_
   refine b8 0 oe ?_
   refine bW (aY (aU Og) ?_)
   refine cc 0 tO bE ?_
   refine aB ?_
   refine bj gf ?_
   refine aL (cg h (fun h=>?_) fun h=>?_)
   ·refine aC (cr 0 oe ?_)
    refine b8 1 oe ?_
    refine aL (ag.ret (ae.dz (ae.ret ?_)))
    obtain rfl:=aH h
    exact dY () 1
   refine ag.skip (ae.dB (ae.next (ag.cm (bj dd ?_))))
   refine aB ?_
   refine ai.nil ?_
   obtain rfl:=aH h
   exact fc () 1
  refine ag.exit (ae.exit ?_)
  obtain rfl:=aH h
  exact dY () 0
 rcases ay with ay | ay
 ·simp only [Sum.elim_inl] at h
  refine ae.e1 (ae.next (aC (hg wj qj (default:ei) .nil ?_)))
  refine b8 0 oe ?_
  refine aL (ag.ret ?_)
  obtain rfl:=aH h
  exact ae.hM rfl (fw 0 oe)
 simp only [Sum.elim_inr] at h
 refine ae.dz (ae.ret ?_)
 obtain rfl:=aH h
 exact ae.hM rfl (fw 0 oe)
theorem D5 {J:bC} {r:(Vector an 4)} (h:tU J=some r):bw Tryz.prog 197 [I.of (J)] (I.of (r)):=by
 unfold tU at h
 refine bw.of Tryz.func197 rfl Tryz.ntmps197 rfl fun W A=>?_
 refine aC (b7 fun a4=>?_)
 refine cC kR fun ba=>?_
 refine bW (cC kR fun ck=>?_)
 refine bD (aC (aY (aU k9) ?_))
 refine cc 2 ku kS ?_
 refine aY (aU k9) ?_
 refine cc 2 ku kS ?_
 refine aY (eK Tryz.underlying51) ?_
 refine bj yw ?_
 obtain⟨aD,bo,h⟩:=au h
 refine bh (H9 Tryz.underlying51 gw (ab rfl) .none (.some (ab rfl)) bo) ?_
 refine aY (eK Tryz.underlying51) ?_
 refine aB ?_
 refine aL (ag.block ?_)
 obtain⟨ay,ao,h⟩:=au h
 refine gE (γ:=Unit) (δ:=Unit) ao [0,1,2,3,12,13] (fun s1 av=>[(14,I.of (s1.1))]) (fun s1 av=>[(0,⟨some ck,.var (s1.2:Vector an 4)⟩)]) (fun aA=>Exit.exit 0) (fun aA av=>[(14,I.of (aA.1)),(15,I.of (aA.2.1))]) (fun aA av=>[(0,⟨some ck,.var (aA.2.2:Vector an 4)⟩)]) () (fun s1 r h av=>?_) fun av=>?_
 ·refine aC (bj ea ?_)
  refine bD (cg h (fun h=>?_) fun h=>?_)
  ·refine cO (ag.seq (ag.block (aC (aB ?_))))
   obtain⟨aZ,cq,h⟩:=au h
   refine g5 cq Tryz.underlying51 gw ?_
   refine aY (da gw) ?_
   refine cC m9 fun eW=>?_
   refine aM ?_
   refine b8 0 gw ?_
   refine aL (ag.cm (aB ?_))
   refine aY (aU n8) ?_
   refine cc 0 k6 bG ?_
   obtain⟨bP,c6,h⟩:=au h
   refine bh (eb (k:=bP) fU (ab rfl) (ab rfl) (bZ c6)) ?_
   refine nc 1 ((aN.id (Vector an 4)).comp (aN.idx (α:=an) 4 bP (bZ c6).1)) bG ?_
   refine ai.nil (ae.dB (ae.next (ag.cm (bj dd ?_))))
   refine aB ?_
   refine ai.nil ?_
   obtain rfl:=aH h
   exact fc () 1
  refine ag.exit (ae.exit ?_)
  obtain rfl:=aH h
  exact dY () 0
 refine ae.e1 (ae.next (aC (cr 0 dW ?_)))
 refine b8 1 dW ?_
 refine aL (ag.ret ?_)
 obtain rfl:=aH h
 exact ae.hM rfl (fw 1 dW)
theorem Hn {hp:a1 Cell} {J:Ref} {ah:Vector an 4} {r:Int×Bool} (h:tP hp J ah=some r):b9 Tryz.prog 196 [I.of (J),I.of (ah)] ([]++a8 hp) (δ:=Unit) (fun _=>I.ep [I.of (r.1),I.of (r.2)]) (fun _=>[]++a8 hp):=by
 unfold tP at h
 refine b9.of Tryz.func196 rfl Tryz.ntmps196 rfl fun W A=>?_
 refine aC (b7 fun a4=>?_)
 refine aM ?_
 refine aM ?_
 refine bD (aC (aB ?_))
 refine bh (oR Tryz.underlying124 (ab rfl)) ?_
 refine aL (cg h (fun h=>?_) fun h=>?_)
 ·refine aC (aM ?_)
  refine aM ?_
  refine aL (ag.ret (ae.ret ?_))
  obtain rfl:=aH h
  exact ae.kN () (.cons _ (.refl _)) rfl rfl (ej rfl) (ej rfl)
 refine cO (ag.seq ?_)
 obtain⟨cG,dF,h⟩:=au h
 obtain⟨bY,ed,h⟩:=au h
 obtain⟨cv,fx,h⟩:=au h
 obtain⟨cN,fI,h⟩:=au h
 obtain⟨bH,dt,h⟩:=au h
 refine ag.draw mixed 10 [some 11,some 12,some 13,some 14,some 15,some 16,some 10,some 17,some 18,some 6] [[],[0],[1],[2],[],[3,4],[5],[6],[6],[7]] [.val _,.val _,.val _,.val _,.val _,.val _,.val _,.val _,.val _,.val _] [false,false,false,false,false,false,false,false,false,false] (by kernel_rfl) rfl rfl rfl (fun cx=>⟨ct,c1 fun ax ar=>dV (eL (ab rfl) dF),H1 (aU EJ),c1 fun ax ar=>gd ((aN.id ns).comp zG) (r:=bY.oX) Bt (ab rfl) (kB (fun i e q=>ar i e q rfl) (fk (n:=1) rfl (ur ed) rfl)) rfl rfl,eG 0 dW,c1 fun ax ar=>HR (r:=bH) Tryz.underlying186 Fj h0 (mV (ab rfl) fx) (ab rfl) (kB (fun i e q=>ar i e q rfl) (fk (n:=1) rfl (rD fI) rfl)) (aH dt),ct,uV,uV,xh,trivial⟩) fun cx=>?_
 refine aM ?_
 refine bW (aB ?_)
 refine aB ?_
 refine aM ?_
 refine aM ?_
 refine aL (ag.ret ?_)
 obtain rfl:=aH h
 exact ae.kN () (.cons _ (.refl _)) rfl rfl (ej rfl) (ej rfl)
theorem L6 {J:gZ} {ah:Vector an 4} {r:(Vector an 4)×an} (h:xu J ah=some r):bw Tryz.prog 206 [I.of (J),I.of (ah)] (I.ep [I.of (r.1),I.of (r.2)]):=by
 unfold xu at h
 refine bw.of Tryz.func206 rfl Tryz.ntmps206 rfl fun W A=>?_
 refine aC (b7 fun a4=>?_)
 refine b7 fun ba=>?_
 refine cC wk fun ck=>?_
 refine cC en fun eW=>?_
 refine bW (aY (aU EK) ?_)
 refine cc 3 zu bE ?_
 obtain⟨aZ,cq,h⟩:=au h
 refine bh (eb (k:=aZ) fU (ab rfl) (ab rfl) (bZ cq)) ?_
 refine cc 2 ((aN.id (Vector an 4)).comp (aN.idx (α:=an) 4 aZ (bZ cq).1)) bG ?_
 refine cC en fun jd=>?_
 refine b8 0 bG ?_
 refine bW (aY (aU EK) ?_)
 refine cc 4 zu bE ?_
 refine hg hr en (default:an) .nil ?_
 obtain⟨bP,c6,h⟩:=au h
 refine bh (eb (k:=bP) fU (ab rfl) (ab rfl) (bZ c6)) ?_
 refine nc 3 ((aN.id (Vector an 4)).comp (aN.idx (α:=an) 4 bP (bZ c6).1)) bG ?_
 refine bD (ag.draw mixed 3 [some 15,some 16,none] [[],[],[0]] [.val _,.val _,.kF 2 (.var ((c5 ah bP (default:an)):Vector an 4))] [false,false,true] (by kernel_rfl) rfl rfl rfl (fun cx=>⟨eG 3 dW,eG 0 bG,⟨_,_,rfl,fun ax ar=>rC (i:=2) (aN.id (Vector an 4)) (v:=((c5 ah bP (default:an)):Vector an 4)) (b':=((c5 ah bP (default:an)):Vector an 4)) kx (ab rfl) (ab rfl) (ar _ _ rfl) rfl rfl⟩,trivial⟩) fun cx=>?_)
 refine b8 1 bG ?_
 refine aL (ag.ret ?_)
 obtain rfl:=aH h
 exact ae.rP rfl (fw 2 kx) (fw 1 bG)
theorem Mu {J:Int} {r:Int} (h:xU J=some r):bw Tryz.prog 169 [I.of (J)] (I.of (r)):=by
 unfold xU at h
 refine bw.of Tryz.func169 rfl Tryz.ntmps169 rfl fun W A=>?_
 refine aC (aM ?_)
 refine bW (aB ?_)
 refine bj Fi ?_
 refine bj yw ?_
 refine aM ?_
 refine aL (ag.ret ?_)
 obtain rfl:=aH h
 exact cX
theorem MA {J:an} {ah:Int} {r:an} (h:xX J ah=some r):bw Tryz.prog 168 [I.of (J),I.of (ah)] (I.of (r)):=by
 unfold xX at h
 refine bw.of Tryz.func168 rfl Tryz.ntmps168 rfl fun W A=>?_
 refine aC (b7 fun a4=>?_)
 refine cC en fun ba=>?_
 refine bD (ag.block (aC (aB ?_)))
 refine bj sO ?_
 refine aM ?_
 refine aL (cg h (fun h=>?_) fun h=>?_)
 ·refine aC (cr 1 bG ?_)
  refine b8 0 bG ?_
  refine aL (ag.ret (ae.dz (ae.ret ?_)))
  obtain rfl:=aH h
  exact ae.hM rfl (fw 0 bG)
 refine aC (aB ?_)
 refine bj kf ?_
 refine aM ?_
 refine aL (cg h (fun h=>?_) fun h=>?_)
 ·refine aC (aY (aU ke) ?_)
  refine cc 1 hK eN ?_
  refine aB ?_
  refine bj kg ?_
  refine aY (iX Tryz.underlying3 Tryz.underlying147) ?_
  refine bj ru ?_
  obtain⟨bH,dt,h⟩:=au h
  refine dG dt (c9 (b:=({ (default:an) with b2:=J.dv >>> (BitVec.ofInt 64 (bs (ah - 64))).toNat } :an)) rfl hr en (.cons ev rfl (ab rfl) rfl (.nil))) ?_
  refine b8 0 bG ?_
  refine aL (ag.ret (ae.dz (ae.ret ?_)))
  obtain rfl:=aH h
  exact ae.hM rfl (fw 0 bG)
 refine ag.skip (ae.dB (ae.next (aC (aY (aU ke) ?_))))
 refine cc 1 hK eN ?_
 refine aB ?_
 refine aY (iX Tryz.underlying3 Tryz.underlying147) ?_
 refine bj ru ?_
 refine aY (aU im) ?_
 refine cc 1 ev eN ?_
 refine aB ?_
 refine aY (iX Tryz.underlying3 Tryz.underlying147) ?_
 refine bj ru ?_
 refine aY (aU ke) ?_
 refine cc 1 hK eN ?_
 refine aB ?_
 refine bj kg ?_
 refine aY (iX Tryz.underlying3 Tryz.underlying147) ?_
 refine bj n3 ?_
 obtain⟨dn,hx,h⟩:=au h
 refine dG hx (rB (ab rfl) (ab rfl)) ?_
 obtain⟨fm,jH,h⟩:=au h
 refine dG jH (c9 (b:= { dv:=J.dv >>> (BitVec.ofInt 64 ah).toNat,b2:=dn:an }) rfl hr en (.cons hK rfl (ab rfl) rfl (.cons ev rfl (ab rfl) rfl (.nil)))) ?_
 refine b8 0 bG ?_
 refine aL (ag.ret ?_)
 obtain rfl:=aH h
 exact ae.hM rfl (fw 0 bG)
theorem gL {J:bu} {ah:Int} {cu:Nat} {r:Int×bu} (h:fZ J ah=some r):b9 Tryz.prog 29 [I.eq (.pointer (some ⟨cu,0,none⟩)),I.of (ah)] [⟨some cu,.var (J:bu)⟩] (δ:=Unit) (fun d=>I.of (r.1)) (fun d=>[⟨some cu,.var (r.2:bu)⟩]):=by
 unfold fZ at h
 refine b9.of Tryz.func29 rfl Tryz.ntmps29 rfl fun W A=>?_
 refine aC (aM ?_)
 refine bD (aC (aB ?_))
 obtain⟨aD,bo,h⟩:=au h
 refine ai.jC (gJ.call [0] QU (TC bo) ⟨ab rfl,trivial⟩ rfl ⟨rfl,trivial⟩ rfl) rfl rfl rfl ?_
 refine aY hL ?_
 refine aB ?_
 refine dE cV ?_
 refine jw ea ?_
 refine rV ?_
 refine aL (cg h (fun h=>?_) fun h=>?_)
 ·refine aC (aM ?_)
  refine aL (ag.ret (ae.ret (ae.bI 0 rfl ?_)))
  obtain rfl:=aH h
  exact kW ()
 refine cO (aC (aB ?_))
 refine aY dV ?_
 refine aY (aU A4) ?_
 refine cc 0 zP bE ?_
 refine bj dd ?_
 refine aY dV ?_
 refine aY (aU A4) ?_
 refine nc 0 zP bE ?_
 refine bD ?_
 obtain⟨aZ,cq,h⟩:=au h
 obtain⟨aK,cb,h⟩:=au h
 refine ag.draw mixed 14 [some 19,some 20,some 21,some 22,some 23,some 24,some 25,some 26,some 27,some 28,some 29,some 30,some 31,some 32] [[],[0],[1],[2],[],[4],[5],[6],[7],[3,8],[9],[10],[],[11,12]] [.val _,.val _,.val _,.val _,.val _,.val _,.val _,.val _,.val _,.val _,.val _,.val _,.val _,.val _] [false,false,false,false,false,false,false,false,false,false,false,false,false,false] (by kernel_rfl) rfl rfl rfl (fun cx=>⟨ct,H1 dV,H1 (aU Ia),dg 0 DS FJ,ct,H1 dV,H1 (aU A4),dg 0 zP bE,jc kg,kX cq Tryz.underlying22 Kh,H1 (da Kh),H1 (PE Tryz.underlying5 Tryz.underlying3),ct,c1 fun ax ar=>Bs (ab rfl) (ab rfl) (AL cb),trivial⟩) fun cx=>?_
 refine aM ?_
 refine aL (ag.ret (ae.bI 0 rfl ?_))
 obtain rfl:=aH h
 exact kW ()
theorem D2 {J:a3} {ah:Int} {r:Int} (h:tQ J ah=some r):bw Tryz.prog 53 [I.of (J),I.of (ah)] (I.of (r)):=by
 unfold tQ at h
 refine bw.of Tryz.func53 rfl Tryz.ntmps53 rfl fun W A=>?_
 refine aC (b7 fun a4=>?_)
 refine b7 fun ba=>?_
 refine aM ?_
 refine bW (aY (aU mY) ?_)
 refine cc 1 mU mz ?_
 refine ai.share (α:=Int) 0 3 rfl rfl (bh (vW (F:=(fun fJ=>DM fJ ah)) (τs:= [I.ptr ah]) aaS ⟨ab rfl,trivial⟩ (fun _ _ h=>Tm h)) ?_)
 obtain⟨aD,bo,h⟩:=au h
 refine du aaT (Sx bo) ?_
 refine aM ?_
 refine aL (ag.ret ?_)
 obtain rfl:=aH h
 exact cX
theorem Hq {J:a3} {ah:Int} {r:Int} (h:vp J ah=some r):bw Tryz.prog 56 [I.of (J),I.of (ah)] (I.of (r)):=by
 unfold vp at h
 refine bw.of Tryz.func56 rfl Tryz.ntmps56 rfl fun W A=>?_
 refine aC (b7 fun a4=>?_)
 refine b7 fun ba=>?_
 refine aM ?_
 refine bW (aY (aU uo) ?_)
 refine cc 1 tM sZ ?_
 refine ai.share (α:=Int) 0 3 rfl rfl (bh (vW (F:=(fun fJ=>DN fJ ah)) (τs:= [I.ptr ah]) aaU ⟨ab rfl,trivial⟩ (fun _ _ h=>Tn h)) ?_)
 obtain⟨aD,bo,h⟩:=au h
 refine du aaV (Sy bo) ?_
 refine aM ?_
 refine aL (ag.ret ?_)
 obtain rfl:=aH h
 exact cX
theorem To {hp:a1 Cell} {J:ka} {ah:bC} {r:Int×Bool} (h:zQ hp J ah=some r):b9 Tryz.prog 192 [I.of (J),I.of (ah)] ([]++a8 hp) (δ:=Unit) (fun _=>I.ep [I.of (r.1),I.of (r.2)]) (fun _=>[]++a8 hp):=by
 unfold zQ at h
 refine b9.of Tryz.func192 rfl Tryz.ntmps192 rfl fun W A=>?_
 refine aC (b7 fun a4=>?_)
 refine b7 fun ba=>?_
 refine aM ?_
 refine aM ?_
 refine bD ?_
 obtain⟨aD,bo,h⟩:=au h
 obtain⟨aK,cb,h⟩:=au h
 refine jk [0,1,2,3] ?_
 refine ag.qk 2 mixed (bg 6 [] [] _::bg 7 (0::[]) (1::[]) _::bg 8 [] (0::[]) _::bg 9 (2::[]) [] _::⟨some 10,(1::3::[]),[],[],fun _=>I.ep [I.of (aK.1),I.of (aK.2)],fun _ _=>⟨none,.dead⟩⟩::bg 11 (4::[]) [] _::bg 12 (4::[]) [] _::bg 4 (5::[]) [] _::bg 5 (6::[]) [] _::[]) _ (0::1::2::3::[]) rfl rfl (by kernel_rfl) (by kernel_rfl) ⟨cI.q (fy (aU EL)),cI.q (o3 1 zR Bu),cI.q (lG 0 hN),cI.q (cz fun hd E' ax aG ar=>hZ Fk (D5 bo) ⟨ab (aG _ _ rfl),trivial⟩),?_,cI.q (cz fun hd E' ax aG ar=>lC (ab (aG _ _ rfl)) rfl),cI.q (cz fun hd E' ax aG ar=>lC (ab (aG _ _ rfl)) rfl),cI.q (cz fun hd E' ax aG ar=>ew (ab (aG _ _ rfl))),cI.q (cz fun hd E' ax aG ar=>ew (ab (aG _ _ rfl))),trivial⟩ fun fj=>?_
 ·intro hd E' ax aG ar dw
  refine ai.jC (gJ.kO 2 (dw.trans rfl) I6 (Hn cb) ⟨ab (aG _ _ rfl),ab (aG _ _ rfl),trivial⟩) rfl rfl rfl ?_
  exact ai.nil (ae.fin (eP []) rfl rfl)
 refine ae.ez (L2:=(⟨some ba,.var (ah:bC)⟩::⟨some a4,.var (J:ka)⟩::a8 hp)) rfl (km [0,1,2,3,4,5,6,7,8,9,10,11,12] ?_)
 refine ae.next (ag.ret ?_)
 obtain rfl:=aH h
 exact ae.kN () (.cons _ (.cons _ (.refl _))) rfl rfl (ej rfl) (ej rfl)
theorem G1 {J:gZ} {ah:bC} {r:(Vector an 4)×an×Int} (h:vj J ah=some r):bw Tryz.prog 204 [I.of (J),I.of (ah)] (I.ep [I.of (r.1),I.of (r.2.1),I.of (r.2.2)]):=by
 unfold vj at h
 refine bw.of Tryz.func204 rfl Tryz.ntmps204 rfl fun W A=>?_
 refine aC (b7 fun a4=>?_)
 refine b7 fun ba=>?_
 refine cC wk fun ck=>?_
 refine cC en fun eW=>?_
 refine aM ?_
 refine bD ?_
 obtain⟨aD,bo,h⟩:=au h
 obtain⟨aK,cb,h⟩:=au h
 refine ag.draw mixed 10 [some 10,some 11,some 12,some 13,some 9,some 14,some 15,some 7,some 8,none] [[],[],[1],[0,2],[3],[4],[4],[],[],[5,7]] [.val _,.val _,.val _,.val _,.val _,.val _,.val _,.new (.var (default:Vector an 4)),.new (.var (default:an)),.mH 7 (.var (aK.1:Vector an 4))] [false,false,false,false,false,false,false,false,false,true] (by kernel_rfl) rfl rfl rfl (fun cx=>⟨eG 3 Bv,eG 2 hN,eH Fk (D5 bo),eH PF (L6 cb),ct,uV,uV,sv wk,sv en,⟨rfl,_,rfl,fun ax q hq=>rC (i:=q) (aN.id (Vector an 4)) (v:=(aK.1:Vector an 4)) (b':=(aK.1:Vector an 4)) kx (ab rfl) (ab rfl) hq rfl rfl⟩,trivial⟩) fun cx=>?_
 refine b8 1 bG ?_
 refine bD (aC (aY (aU EK) ?_))
 refine cc 5 zu bE ?_
 refine aY (aU k9) ?_
 refine cc 4 ku kS ?_
 refine aY (eK Tryz.underlying51) ?_
 refine bj kf ?_
 refine aL (cg h (fun h=>?_) fun h=>?_)
 ·refine ag.seq (ag.draw mixed 3 [some 22,some 23,none] [[],[],[0]] [.val _,.val _,.kF 3 (.var (aK.1:Vector an 4))] [false,false,true] (by kernel_rfl) rfl rfl rfl (fun hh=>⟨eG 0 kx,eG 1 bG,⟨_,_,rfl,fun ax ar=>rC (i:=3) (aN.id (Vector an 4)) (v:=(aK.1:Vector an 4)) (b':=(aK.1:Vector an 4)) kx (ab rfl) (ab rfl) (ar _ _ rfl) rfl rfl⟩,trivial⟩) fun hh=>?_)
  refine b8 2 bG ?_
  refine aM ?_
  refine aL (ag.ret (ae.ret ?_))
  obtain rfl:=aH h
  exact ae.BS rfl (fw 3 kx) (fw 2 bG) (l5 rfl)
 refine cO (ag.seq ?_)
 obtain⟨aZ,cq,h⟩:=au h
 refine ag.draw mixed 11 [some 24,some 25,some 26,some 27,some 28,some 29,some 30,some 31,some 32,none,none] [[],[],[],[2],[],[4],[3,5],[6],[7],[0],[1]] [.val _,.val _,.val _,.val _,.val _,.val _,.val _,.val _,.val _,.kF 3 (.var (aK.1:Vector an 4)),.kF 2 (.var (aK.2:an))] [false,false,false,false,false,false,false,false,false,true,true] (by kernel_rfl) rfl rfl rfl (fun pT=>⟨eG 0 kx,eG 1 bG,H1 (aU k9),dg 4 ku kS,H1 (aU EK),dg 5 zu bE,kX cq Tryz.underlying51 gw,oy nR qf,H1 (da bE),⟨_,_,rfl,fun ax ar=>rC (i:=3) (aN.id (Vector an 4)) (v:=(aK.1:Vector an 4)) (b':=(aK.1:Vector an 4)) kx (ab rfl) (ab rfl) (ar _ _ rfl) rfl rfl⟩,⟨_,_,rfl,fun ax ar=>rC (i:=2) (aN.id an) (v:=(aK.2:an)) (b':=(aK.2:an)) bG (ab rfl) (ab rfl) (ar _ _ rfl) rfl rfl⟩,trivial⟩) fun pT=>?_
 refine aM ?_
 refine aL (ag.ret ?_)
 obtain rfl:=aH h
 exact ae.BS rfl (fw 3 kx) (fw 2 bG) (l5 rfl)
theorem At {J:Int} {r:an} (h:so J=some r):bw Tryz.prog 148 [I.of (J)] (I.of (r)):=by
 unfold so at h
 refine bw.of Tryz.func148 rfl Tryz.ntmps148 rfl fun W A=>?_
 refine aC (cC en fun a4=>?_)
 refine bW ?_
 obtain⟨bH,dt,h⟩:=au h
 refine dG dt (c9 (b:= { dv:=18446744073709551615#64,b2:=18446744073709551615#64:an }) rfl hr en (.cons hK rfl (fT 18446744073709551615 rfl) rfl (.cons ev rfl (fT 18446744073709551615 rfl) rfl (.nil)))) ?_
 refine aB ?_
 obtain⟨aD,bo,h⟩:=au h
 refine du PG (Mu bo) ?_
 refine bj kg ?_
 obtain⟨aK,cb,h⟩:=au h
 refine du PH (MA cb) ?_
 refine b8 0 bG ?_
 refine aL (ag.ret ?_)
 obtain rfl:=aH h
 exact ae.hM rfl (fw 0 bG)
theorem Ec {J:an} {ah:Int} {r:Bool} (h:sr J ah=some r):bw Tryz.prog 172 [I.of (J),I.of (ah)] (I.of (r)):=by
 unfold sr at h
 refine bw.of Tryz.func172 rfl Tryz.ntmps172 rfl fun W A=>?_
 refine aC (b7 fun a4=>?_)
 refine aM ?_
 refine bW (aB ?_)
 refine bj kf ?_
 refine aB ?_
 refine dE cV ?_
 refine jw ea ?_
 refine iG ?_
 refine aB ?_
 refine eI (fun hb=>fa (i:=0) (aN.id an) (r:=J) bG (ab rfl) rfl rfl rfl) ?_
 refine dE cV ?_
 obtain⟨aD,bo,h⟩:=au h
 refine eI (fun hb=>hZ PH (MA (gN bo hb)) ⟨cJ rfl hb,cJ rfl hb,trivial⟩) ?_
 refine eI (fun hb=>Ic ev OV eN rfl (cJ rfl hb) rfl rfl) ?_
 refine eI (fun hb=>rr (cJ rfl hb) (fT 1 rfl)) ?_
 refine eI (fun hb=>yf (cJ rfl hb) (fT 1 rfl)) ?_
 obtain⟨bH,dt,h⟩:=au h
 refine dG dt (rF (ab rfl) (ab rfl) (fun h=>h)) ?_
 refine aM ?_
 refine aL (ag.ret ?_)
 obtain rfl:=aH h
 exact cX
theorem U7 {hp:a1 Cell} {J:Int} {Q:Ref×(a1 Cell)→Prop} (h:Ek hp J Q):b9 Tryz.prog 208 [I.of (J)] ([]++a8 hp) (δ:= {r:Ref×(a1 Cell) // Q r}×Unit) (fun d=>I.of (d.1.1.1)) (fun d=>[]++a8 d.1.1.2):=by
 unfold Ek at h
 refine b9.of Tryz.func208 rfl Tryz.ntmps208 rfl fun W A=>?_
 refine aC (bh (ew (rl)) ?_)
 refine bW (aB ?_)
 refine bj Fi ?_
 refine bj yw ?_
 obtain⟨bH,dt,h⟩:=aI.c2 h
 refine dG dt (c9 (b:=({ (default:fK) with fL:=min (max 1 J) 128 } :fK)) rfl YE YF (.cons tN rfl (ab rfl) rfl (.nil))) ?_
 refine ai.BR 0 rfl (Cell.j4 bH) (fun _=>rfl) (ab rfl) rfl fun dA wV=>?_
 replace h:=aI.uh h dA wV
 refine aM ?_
 exact aL (ag.ret (ae.gr (⟨⟨((some dA.1:Ref),dA.2),h⟩,()⟩: {r // _}×_) (.refl _) rfl rfl (ej rfl)))
theorem L1 {J:aJ} {ah:Int} {r:Bool} (h:vk J ah=some r):bw Tryz.prog 244 [I.of (J),I.ptr ah] (I.of (r)):=by
 unfold vk at h
 refine bw.of Tryz.func244 rfl Tryz.ntmps244 rfl fun W A=>?_
 refine aC (b7 fun a4=>?_)
 refine aM ?_
 refine bW (aY (aU mX) ?_)
 refine cc 0 lx bE ?_
 refine aY (da bE) ?_
 refine bj gf ?_
 refine aM ?_
 refine aL (ag.ret ?_)
 obtain rfl:=aH h
 exact cX
theorem GX {J:List aJ} {ah:aJ→Option Bool} {r:Int} (h:tK J ah=some r):bw Tryz.prog 87 [I.of (J),I.qA Tryz.prog ah] (I.of (r)):=by
 unfold tK at h
 refine bw.of Tryz.func87 rfl Tryz.ntmps87 rfl fun W A=>?_
 refine aC (aM ?_)
 refine bD (aC (aB ?_))
 refine aY (eK Tryz.underlying67) ?_
 refine aB ?_
 refine aL (ag.block ?_)
 obtain⟨ay,ao,h⟩:=au h
 refine gE (γ:=Unit) (δ:=Unit) ao [0,1,7] (fun s1 av=>[(4,I.of (0:Int)),(8,I.of (s1))]) (fun s1 av=>[]) (fun aA=>Sum.elim (fun aA=>Exit.exit 0) (fun aA=>Exit.ret) aA) (fun aA av=>Sum.elim (fun aA=>[(4,I.of (0:Int)),(8,I.of (aA.1)),(9,I.of (aA.2))]) (fun aA=>[(4,I.of (aA.1)),(5,I.of (aA.2.1)),(8,I.of (aA.2.2.1)),(9,I.of (aA.2.2.2.1)),(16,I.of (aA.2.2.2.2))]) aA) (fun aA av=>Sum.elim (fun aA=>[]) (fun aA=>[]) aA) () (fun s1 r h av=>?_) fun av=>?_
 ·refine aC (bj ea ?_)
  refine bD (cg h (fun h=>?_) fun h=>?_)
  ·refine cO (ag.seq (ag.block (aC (aB ?_))))
   refine aM ?_
   refine bW (aB ?_)
   refine aB ?_
   refine aB ?_
   obtain⟨aZ,cq,h⟩:=au h
   refine g5 cq Tryz.underlying67 cM ?_
   refine aY (da cM) ?_
   obtain⟨aD,bo,h⟩:=au h
   refine bh (yb (ab rfl) (ab rfl) bo) ?_
   refine aL (cg h (fun h=>?_) fun h=>?_)
   ·refine aC (aB ?_)
    refine aM ?_
    refine aL (ag.ret (ae.dz (ae.ret ?_)))
    obtain rfl:=aH h
    exact dY () 0
   refine ag.skip (ae.dB (ae.next (ag.cm (bj dd ?_))))
   refine aB ?_
   refine ai.nil ?_
   obtain rfl:=aH h
   exact fc () 0
  refine ag.exit (ae.exit ?_)
  obtain rfl:=aH h
  exact dY () 0
 rcases ay with ay | ay
 ·simp only [Sum.elim_inl] at h
  refine ae.e1 (ae.next (aC (aM ?_)))
  refine aL (ag.ret ?_)
  obtain rfl:=aH h
  exact cX
 simp only [Sum.elim_inr] at h
 refine ae.dz (ae.ret ?_)
 obtain rfl:=aH h
 exact cX
theorem Sq {J:List aJ} {ah:aJ} {aP:aJ→aJ→Option Int} {r:Int×Bool} (h:zk J ah aP=some r):bw Tryz.prog 239 [I.of (J),I.of (ah),I.yW Tryz.prog aP] (I.ep [I.of (r.1),I.of (r.2)]):=by
 unfold zk at h
 refine bw.of Tryz.func239 rfl Tryz.ntmps239 rfl fun W A=>?_
 refine aC (b7 fun a4=>?_)
 refine aM ?_
 refine aM ?_
 refine bW (aB ?_)
 refine aY (eK Tryz.underlying67) ?_
 refine aM ?_
 refine bW (aB ?_)
 refine aM ?_
 refine aM ?_
 refine bD (ag.block ?_)
 obtain⟨ay,ao,h⟩:=au h
 refine gE (γ:=Unit) (δ:=Unit) ao [0,1,2,4,6,7,8] (fun s1 av=>[(9,I.of (s1.1)),(10,I.of (s1.2))]) (fun s1 av=>[]) (fun aA=>Exit.exit 0) (fun aA av=>[(9,I.of (aA.1)),(10,I.of (aA.2.1)),(17,I.of (aA.2.2))]) (fun aA av=>[]) () (fun s1 r h av=>?_) fun av=>?_
 ·refine ag.seq (aC (aB ?_))
  refine aB ?_
  refine bj ea ?_
  refine aL (cg h (fun h=>?_) fun h=>?_)
  ·refine cO (ag.block (aC (aB ?_)))
   refine aB ?_
   refine bj dd ?_
   refine aY (iX Tryz.underlying3 Tryz.underlying147) ?_
   refine bh (ru (ab rfl) (fT 1 rfl)) ?_
   refine aY (XM Tryz.underlying147 Tryz.underlying3) ?_
   refine aM ?_
   refine bD ?_
   obtain⟨aZ,cq,h⟩:=au h
   obtain⟨aD,bo,h⟩:=au h
   refine ag.draw mixed 8 [some 24,some 25,some 26,some 27,some 28,some 29,some 30,some 31] [[],[],[],[1,2],[3],[],[0,4,5],[6]] [.val _,.val _,.val _,.val _,.val _,.val _,.val _,.val _] [false,false,false,false,false,false,false,false] (by kernel_rfl) rfl rfl rfl (fun cx=>⟨ct,ct,ct,kX cq Tryz.underlying67 cM,H1 (da cM),eG 0 cM,c1 fun ax ar=>HS (ab rfl) (ab rfl) (ab rfl) bo,jc ea,trivial⟩) fun cx=>?_
   refine aL ?_
   obtain⟨bx,cy,h⟩:=au h
   refine jj (γ:=Unit) [0,1,2,4,6,7,8,11,17,31] (fun aW=>[(9,I.of (bx.1)),(10,I.of (bx.2))]) (fun aW=>[]) (fun aW=>?_) (fun hm al=>?_) fun hm al=>?_
   ·refine ae.dB ?_
    obtain rfl:=aH h
    exact fc () 0
   ·have h:=gQ al cy
    refine ag.cm (aB ?_)
    obtain⟨bH,dt,h⟩:=au h
    refine dG dt (dd (ab rfl) (bU 1)) ?_
    refine aM ?_
    refine ai.nil ?_
    obtain rfl:=aH h
    exact dq 0 (hm ())
   have h:=gR al cy
   refine ag.cm (aB ?_)
   refine aM ?_
   refine ai.nil ?_
   obtain rfl:=aH h
   exact dq 0 (hm ())
  refine ag.exit (ae.exit ?_)
  obtain rfl:=aH h
  exact dY () 0
 refine ae.e1 (ae.next (ag.seq (jk [0,1,2,4,7,8,9,10,17] ?_)))
 obtain⟨bP,c6,h⟩:=au h
 obtain⟨aK,cb,h⟩:=au h
 refine ag.draw mixed 15 [some 35,some 36,some 37,some 38,some 39,some 40,some 41,some 42,some 43,some 44,some 45,some 46,some 47,some 48,some 6] [[],[],[],[1,2],[3],[4],[4],[4],[4,6,7],[4,8],[4],[4,5,9,10],[4,11],[4,12],[0]] [.val _,.val _,.val _,.val _,.val _,.val _,.val _,.val _,.val _,.val _,.val _,.val _,.val _,.val _,.val _] [false,false,false,false,false,false,false,false,false,false,false,false,false,false,false] (by kernel_rfl) rfl rfl rfl (fun hh=>⟨ct,ct,ct,jc ea,ct,fz fun ax ar=>fun hb=>cV (ab rfl),fz fun ax ar=>fun hb=>cV (ab rfl),fz fun ax ar=>fun hb=>cV (ab rfl),fz fun ax ar=>fun hb=>ql (k:=bP) Tryz.underlying67 cM (cJ rfl hb) (cJ rfl hb) (bZ (gN c6 hb)),fz fun ax ar=>fun hb=>da cM (cJ rfl hb),fz fun ax ar=>fun hb=>fa (i:=0) (aN.id aJ) (r:=ah) cM (ab rfl) (ar _ _ rfl rfl) rfl rfl,fz fun ax ar=>fun hb=>HS (cJ rfl hb) (cJ rfl hb) (cJ rfl hb) (gN cb hb),fz fun ax ar=>fun hb=>gf (cJ rfl hb) (bU 0),c1 fun ax ar=>rF (ab rfl) (ab rfl) (fun h=>h),xh,trivial⟩) fun hh=>?_
 refine aM ?_
 refine aL (ag.ret ?_)
 obtain rfl:=aH h
 exact wU
theorem Mq {J:Int} {r:Bool} (h:z8 J=some r):bw Tryz.prog 146 [I.of (J)] (I.of (r)):=by
 unfold z8 at h
 refine bw.of Tryz.func146 rfl Tryz.ntmps146 rfl fun W A=>?_
 refine aC (aM ?_)
 refine bW (aB ?_)
 refine aB ?_
 refine bj sP ?_
 refine aM ?_
 refine aL (ag.ret ?_)
 obtain rfl:=aH h
 exact cX
theorem LZ {J:List cR} {ah:cR→Option Bool} {r:Int} (h:xr J ah=some r):bw Tryz.prog 114 [I.of (J),I.qA Tryz.prog ah] (I.of (r)):=by
 unfold xr at h
 refine bw.of Tryz.func114 rfl Tryz.ntmps114 rfl fun W A=>?_
 refine aC (aM ?_)
 refine bD (aC (aB ?_))
 refine aY (eK Tryz.underlying40) ?_
 refine aB ?_
 refine aL (ag.block ?_)
 obtain⟨ay,ao,h⟩:=au h
 refine gE (γ:=Unit) (δ:=Unit) ao [0,1,7] (fun s1 av=>[(4,I.of (0:Int)),(8,I.of (s1))]) (fun s1 av=>[]) (fun aA=>Sum.elim (fun aA=>Exit.exit 0) (fun aA=>Exit.ret) aA) (fun aA av=>Sum.elim (fun aA=>[(4,I.of (0:Int)),(8,I.of (aA.1)),(9,I.of (aA.2))]) (fun aA=>[(4,I.of (aA.1)),(5,I.of (aA.2.1)),(8,I.of (aA.2.2.1)),(9,I.of (aA.2.2.2.1)),(16,I.of (aA.2.2.2.2))]) aA) (fun aA av=>Sum.elim (fun aA=>[]) (fun aA=>[]) aA) () (fun s1 r h av=>?_) fun av=>?_
 ·refine aC (bj ea ?_)
  refine bD (cg h (fun h=>?_) fun h=>?_)
  ·refine cO (ag.seq (ag.block (aC (aB ?_))))
   refine aM ?_
   refine bW (aB ?_)
   refine aB ?_
   refine aB ?_
   obtain⟨aZ,cq,h⟩:=au h
   refine g5 cq Tryz.underlying40 iZ ?_
   refine aY (da iZ) ?_
   obtain⟨aD,bo,h⟩:=au h
   refine bh (yb (ab rfl) (ab rfl) bo) ?_
   refine aL (cg h (fun h=>?_) fun h=>?_)
   ·refine aC (aB ?_)
    refine aM ?_
    refine aL (ag.ret (ae.dz (ae.ret ?_)))
    obtain rfl:=aH h
    exact dY () 0
   refine ag.skip (ae.dB (ae.next (ag.cm (bj dd ?_))))
   refine aB ?_
   refine ai.nil ?_
   obtain rfl:=aH h
   exact fc () 0
  refine ag.exit (ae.exit ?_)
  obtain rfl:=aH h
  exact dY () 0
 rcases ay with ay | ay
 ·simp only [Sum.elim_inl] at h
  refine ae.e1 (ae.next (aC (aM ?_)))
  refine aL (ag.ret ?_)
  obtain rfl:=aH h
  exact cX
 simp only [Sum.elim_inr] at h
 refine ae.dz (ae.ret ?_)
 obtain rfl:=aH h
 exact cX
theorem TD {J:cR} {r:Bool} (h:Hk J=some r):bw Tryz.prog 171 [I.of (J)] (I.of (r)):=by
 unfold Hk at h
 refine bw.of Tryz.func171 rfl Tryz.ntmps171 rfl fun W A=>?_
 refine aC (b7 fun a4=>?_)
 refine aM ?_
 refine bW (aY (aU sG) ?_)
 refine cc 0 lW bE ?_
 refine bj gf ?_
 refine aM ?_
 refine aL (ag.ret ?_)
 obtain rfl:=aH h
 exact cX
theorem UI {J:bC} {r:bC} (h:Ed J=some r):bw Tryz.prog 86 [I.of (J)] (I.of (r)):=by
 unfold Ed at h
 refine bw.of Tryz.func86 rfl Tryz.ntmps86 rfl fun W A=>?_
 refine aC (b7 fun a4=>?_)
 refine cC yK fun ba=>?_
 refine bD ?_
 obtain⟨aD,bo,h⟩:=au h
 obtain⟨aK,cb,h⟩:=au h
 refine ag.draw mixed 7 [some 3,some 4,some 5,some 6,some 7,some 8,some 9] [[],[0],[1],[],[3],[4],[]] [.val _,.val _,.val _,.val _,.val _,.val _,.val _] [false,false,false,false,false,false,false] (by kernel_rfl) rfl rfl rfl (fun cx=>⟨H1 (aU k9),dg 1 ku kS,eH YG (SH bo),H1 (aU ym),dg 1 xD wD,eH YH (SI cb),H1 (aU k9),trivial⟩) fun cx=>?_
 refine nc 1 ku kS ?_
 refine aY (aU ym) ?_
 obtain⟨bH,dt,h⟩:=au h
 refine wW 1 xD wD (hb:=by exact dt) ?_
 refine bW (cr 1 hN ?_)
 refine b8 0 hN ?_
 refine aL (ag.ret ?_)
 obtain rfl:=aH h
 exact ae.hM rfl (fw 0 hN)
theorem TZ {J:bC} {ah:bC} {r:Bool} (h:z9 J ah=some r):bw Tryz.prog 230 [I.of (J),I.of (ah)] (I.of (r)):=by
 unfold z9 at h
 refine bw.of Tryz.func230 rfl Tryz.ntmps230 rfl fun W A=>?_
 refine aC (b7 fun a4=>?_)
 refine b7 fun ba=>?_
 refine aM ?_
 refine bW (aY (aU vX) ?_)
 refine cc 1 rh bE ?_
 refine aY (aU vX) ?_
 refine cc 0 rh bE ?_
 refine bj gf ?_
 refine aB ?_
 refine dE (aU k9) ?_
 refine eI (fun hb=>fa (i:=1) ((aN.id bC).comp ku) (r:=J.b4) kS (cJ rfl hb) rfl rfl rfl) ?_
 refine dE (aU k9) ?_
 refine eI (fun hb=>fa (i:=0) ((aN.id bC).comp ku) (r:=ah.b4) kS (cJ rfl hb) rfl rfl rfl) ?_
 obtain⟨aD,bo,h⟩:=au h
 refine eI (fun hb=>hZ YI (SJ (gN bo hb)) ⟨cJ rfl hb,cJ rfl hb,trivial⟩) ?_
 refine iG ?_
 refine aB ?_
 refine dE (aU vY) ?_
 refine eI (fun hb=>fa (i:=1) ((aN.id bC).comp sf) (r:=J.ik) bE (cJ rfl hb) rfl rfl rfl) ?_
 refine dE (aU vY) ?_
 refine eI (fun hb=>fa (i:=0) ((aN.id bC).comp sf) (r:=ah.ik) bE (cJ rfl hb) rfl rfl rfl) ?_
 refine jw gf ?_
 refine iG ?_
 refine aM ?_
 refine aL (ag.ret ?_)
 obtain rfl:=aH h
 exact cX
theorem TE {hp:a1 Cell} {J:ka} {ah:aJ} {r:(a1 Cell)} (h:z1 hp J ah=some r):b9 Tryz.prog 194 [I.of (J),I.of (ah)] ([]++a8 hp) (δ:=Unit) (fun d=>I.ep []) (fun d=>[]++a8 r):=by
 unfold z1 at h
 refine b9.of Tryz.func194 rfl Tryz.ntmps194 rfl fun W A=>?_
 refine aC (b7 fun a4=>?_)
 refine b7 fun ba=>?_
 refine aL ?_
 obtain⟨aD,bo,h⟩:=au h
 refine ag.draw mixed 7 [some 4,some 5,some 6,some 7,some 8,some 9,some 10] [[],[0],[],[2],[3],[],[5]] [.val _,.val _,.val _,.val _,.val _,.val _,.val _] [false,false,false,false,false,false,false] (by kernel_rfl) rfl rfl rfl (fun cx=>⟨H1 (aU EL),dg 1 zR Bu,H1 (aU la),dg 0 j9 hN,eH Fk (D5 bo),H1 (aU mX),dg 0 lx bE,trivial⟩) fun cx=>?_
 obtain⟨aK,cb,h⟩:=au h
 refine ai.m1 2 0 rfl YJ (TK cb) rfl rfl ⟨ab rfl,ab rfl,ab rfl,trivial⟩ rfl fun aA=>?_
 refine ai.ez (L2:=(⟨some ba,.var (ah:aJ)⟩::⟨some a4,.var (J:ka)⟩::a8 aK.2)) rfl (ai.nil (ae.ou ?_))
 obtain rfl:=aH h
 exact ae.lD () (.cons _ (.cons _ (.refl _))) rfl rfl
theorem S3 {J:cL} {ah:Int} {r:Int} (h:G8 J ah=some r):bw Tryz.prog 237 [I.ptr J,I.of (ah)] (I.of (r)):=by
 unfold G8 at h
 refine bw.of Tryz.func237 rfl Tryz.ntmps237 rfl fun W A=>?_
 refine aC (b7 fun a4=>?_)
 refine aM ?_
 refine bD (aC (aB ?_))
 refine bh (WX Tryz.underlying131 (ab rfl)) ?_
 refine aL (ag.rG (ab rfl) rfl (cO (aC (aB ?_))))
 refine aY Bd ?_
 refine Cl xC sy ?_
 refine aY (da qq) ?_
 refine ai.share (α:=Int) 0 3 rfl rfl (bh (vW (F:=(fun fJ=>vk fJ ah)) (τs:= [I.ptr ah]) PI ⟨ab rfl,trivial⟩ (fun _ _ h=>L1 h)) ?_)
 obtain⟨aD,bo,h⟩:=au h
 refine du JI (GX bo) ?_
 refine aM ?_
 refine aL (ag.ret ?_)
 obtain rfl:=aH h
 exact cX
theorem Ho {J:Int} {ah:Int} {r:Int} (h:vn J ah=some r):bw Tryz.prog 106 [I.of (J),I.of (ah)] (I.of (r)):=by
 unfold vn at h
 refine bw.of Tryz.func106 rfl Tryz.ntmps106 rfl fun W A=>?_
 refine aC (aM ?_)
 refine bW (aB ?_)
 obtain⟨aD,bo,h⟩:=au h
 refine du PJ (Mq bo) ?_
 refine aM ?_
 refine bW (aB ?_)
 obtain⟨aK,cb,h⟩:=au h
 refine du PJ (Mq cb) ?_
 refine aM ?_
 refine bD (aC (aB ?_))
 refine aL (cg h (fun h=>?_) fun h=>?_)
 ·refine ag.seq (aC (aB ?_))
  refine aL (cg h (fun h=>?_) fun h=>?_)
  ·refine aC (aM ?_)
   refine aL (ag.ret (ae.ret (ae.ret ?_)))
   obtain rfl:=aH h
   exact cX
  refine cO (aC (aM ?_))
  refine aL (ag.ret (ae.ret ?_))
  obtain rfl:=aH h
  exact cX
 refine cO (ag.seq (aC (aB ?_)))
 refine aL (cg h (fun h=>?_) fun h=>?_)
 ·refine aC (aM ?_)
  refine aL (ag.ret (ae.ret ?_))
  obtain rfl:=aH h
  exact cX
 refine cO (ag.seq (aC (aB ?_)))
 refine aB ?_
 refine bj ea ?_
 refine aL (cg h (fun h=>?_) fun h=>?_)
 ·refine aC (aM ?_)
  refine aL (ag.ret (ae.ret ?_))
  obtain rfl:=aH h
  exact cX
 refine cO (ag.seq (aC (aB ?_)))
 refine aB ?_
 refine bj pI ?_
 refine aL (cg h (fun h=>?_) fun h=>?_)
 ·refine aC (aM ?_)
  refine aL (ag.ret (ae.ret ?_))
  obtain rfl:=aH h
  exact cX
 refine cO (aC (aM ?_))
 refine aL (ag.ret ?_)
 obtain rfl:=aH h
 exact cX
theorem Sw {J:List cR} {ah:cR→Option Bool} {r:Bool} (h:zn J ah=some r):bw Tryz.prog 89 [I.of (J),I.qA Tryz.prog ah] (I.of (r)):=by
 unfold zn at h
 refine bw.of Tryz.func89 rfl Tryz.ntmps89 rfl fun W A=>?_
 refine aC (aM ?_)
 refine bW (aB ?_)
 refine aB ?_
 obtain⟨aD,bo,h⟩:=au h
 refine du PK (LZ bo) ?_
 refine bj kf ?_
 refine aM ?_
 refine aL (ag.ret ?_)
 obtain rfl:=aH h
 exact cX
theorem ML {J:bc} {ah:bc} {r:bc×Bool} (h:x4 J ah=some r):bw Tryz.prog 122 [I.of (J),I.of (ah)] (I.ep [I.of (r.1),I.of (r.2)]):=by
 unfold x4 at h
 refine bw.of Tryz.func122 rfl Tryz.ntmps122 rfl fun W A=>?_
 refine aC (b7 fun a4=>?_)
 refine b7 fun ba=>?_
 refine cC jh fun ck=>?_
 refine aM ?_
 refine bW (aY (aU n5) ?_)
 refine cc 2 mm dW ?_
 refine aY (aU n5) ?_
 refine cc 1 mm dW ?_
 obtain⟨aD,bo,h⟩:=au h
 refine bh (hZ Bw (z7 bo) ⟨ab rfl,ab rfl,AV oZ (fun _ _ _=>oN),trivial⟩) ?_
 refine cC kR fun eW=>?_
 refine b8 0 dW ?_
 refine bD (ag.seq ?_)
 obtain⟨aK,cb,h⟩:=au h
 obtain⟨bb,dR,h⟩:=au h
 refine ag.draw mixed 9 [some 12,some 13,some 14,some 15,some 16,some 17,some 18,some 19,some 20] [[],[0],[],[2],[1,3],[],[4,5],[],[6,7]] [.val _,.val _,.val _,.val _,.val _,.val _,.val _,.val _,.val _] [false,false,false,false,false,false,false,false,false] (by kernel_rfl) rfl rfl rfl (fun cx=>⟨H1 (aU qc),dg 3 nS dW,H1 (aU qc),dg 2 nS dW,c1 fun ax ar=>hZ Bw (z7 cb) ⟨ab rfl,ab rfl,AV Fl (fun _ _ _=>Eb),trivial⟩,eG 0 dW,c1 fun ax ar=>hZ Bw (z7 dR) ⟨ab rfl,ab rfl,AV oZ (fun _ _ _=>oN),trivial⟩,c1 fun ax ar=>NC (b:=(default:Vector an 4)) (sz:=2) rfl Tryz.underlying60 (by kernel_rfl) kR (.nil),jc (yx I7 rfl YK rfl),trivial⟩) fun cx=>?_
 refine aL (cg h (fun h=>?_) fun h=>?_)
 ·refine aC (hg yy jh (default:bc) .nil ?_)
  refine b8 1 dI ?_
  refine aM ?_
  refine aL (ag.ret (ae.ret ?_))
  obtain rfl:=aH h
  exact ae.rP rfl (fw 1 dI) (l5 rfl)
 refine cO (ag.seq ?_)
 obtain⟨bJ,e2,h⟩:=au h
 obtain⟨bq,gG,h⟩:=au h
 refine ag.draw mixed 11 [some 22,some 23,some 24,some 25,some 26,some 27,some 28,some 29,some 30,some 31,some 32] [[],[0],[],[2],[1,3],[],[5],[],[7],[6,8],[4,9]] [.val _,.val _,.val _,.val _,.val _,.val _,.val _,.val _,.val _,.val _,.val _] [false,false,false,false,false,false,false,false,false,false,false] (by kernel_rfl) rfl rfl rfl (fun hh=>⟨H1 (aU qc),dg 3 nS dW,H1 (aU qc),dg 2 nS dW,c1 fun ax ar=>hZ Bw (z7 e2) ⟨ab rfl,ab rfl,AV rH (fun _ _ _=>rm),trivial⟩,H1 (aU n5),dg 3 mm dW,H1 (aU n5),dg 2 mm dW,c1 fun ax ar=>hZ Bw (z7 gG) ⟨ab rfl,ab rfl,AV rH (fun _ _ _=>rm),trivial⟩,c1 fun ax ar=>c9 (b:= { bS:=bJ,b3:=bq:bc }) rfl yy jh (.cons nS rfl (ab rfl) rfl (.cons mm rfl (ab rfl) rfl (.nil))),trivial⟩) fun hh=>?_
 refine b8 1 dI ?_
 refine aM ?_
 refine aL (ag.ret ?_)
 obtain rfl:=aH h
 exact ae.rP rfl (fw 1 dI) (l5 rfl)
theorem MB {J:a3} {ah:bC} {r:bX×Bool} (h:tV J ah=some r):bw Tryz.prog 170 [I.of (J),I.of (ah)] (I.ep [I.of (r.1),I.of (r.2)]):=by
 unfold tV at h
 refine bw.of Tryz.func170 rfl Tryz.ntmps170 rfl fun W A=>?_
 refine aC (b7 fun a4=>?_)
 refine b7 fun ba=>?_
 refine cC l6 fun ck=>?_
 refine aM ?_
 refine bW (cr 2 gv ?_)
 refine aY (aU vX) ?_
 refine cc 1 rh bE ?_
 obtain⟨aD,bo,h⟩:=au h
 refine du FL (D2 bo) ?_
 refine aM ?_
 refine bD (aC (aB ?_))
 refine bj ea ?_
 refine aL (cg h (fun h=>?_) fun h=>?_)
 ·refine aC (hg BT l6 (default:bX) .nil ?_)
  refine b8 0 gu ?_
  refine aM ?_
  refine aL (ag.ret (ae.ret ?_))
  obtain rfl:=aH h
  exact ae.rP rfl (fw 0 gu) (l5 rfl)
 refine cO (aC (aY (aU mY) ?_))
 refine cc 2 mU mz ?_
 refine aB ?_
 obtain⟨aZ,cq,h⟩:=au h
 refine g5 cq Tryz.underlying27 gu ?_
 refine aY (da gu) ?_
 refine b8 0 gu ?_
 refine aM ?_
 refine aL (ag.ret ?_)
 obtain rfl:=aH h
 exact ae.rP rfl (fw 0 gu) (l5 rfl)
theorem TQ {J:bc} {ah:bc} {r:Bool} (h:xN J ah=some r):bw Tryz.prog 121 [I.of (J),I.ptr ah] (I.of (r)):=by
 unfold xN at h
 refine bw.of Tryz.func121 rfl Tryz.ntmps121 rfl fun W A=>?_
 refine aC (b7 fun a4=>?_)
 refine aM ?_
 refine bW (aY (da dI) ?_)
 refine cr 0 dI ?_
 obtain⟨aD,bo,h⟩:=au h
 refine du PL (ML bo) ?_
 refine aB ?_
 refine eO ?_
 refine eO ?_
 refine cC jh fun ba=>?_
 refine b8 0 dI ?_
 refine aM ?_
 refine bW (aB ?_)
 refine aY hL ?_
 refine aM ?_
 refine aL (ag.ret ?_)
 obtain rfl:=aH h
 exact cX
theorem Uo {J:bc} {ah:bc} {r:Bool} (h:Ap J ah=some r):bw Tryz.prog 125 [I.of (J),I.of (ah)] (I.of (r)):=by
 unfold Ap at h
 refine bw.of Tryz.func125 rfl Tryz.ntmps125 rfl fun W A=>?_
 refine aC (b7 fun a4=>?_)
 refine b7 fun ba=>?_
 refine aM ?_
 refine bW (cr 1 dI ?_)
 refine cr 0 dI ?_
 obtain⟨aD,bo,h⟩:=au h
 refine du PL (ML bo) ?_
 refine aB ?_
 refine eO ?_
 refine eO ?_
 refine cC jh fun ck=>?_
 refine b8 0 dI ?_
 refine aM ?_
 refine bW (aB ?_)
 refine aB ?_
 refine eI (fun hb=>fa (i:=0) (aN.id bc) (r:=aD.1) dI (ab rfl) rfl rfl rfl) ?_
 refine eI (fun hb=>fa (i:=2) (aN.id bc) (r:=J) dI (ab rfl) rfl rfl rfl) ?_
 refine jw (yz OW rfl OX rfl) ?_
 refine iG ?_
 refine aM ?_
 refine aL (ag.ret ?_)
 obtain rfl:=aH h
 exact cX
theorem MM {J:an} {ah:Int} {r:an} (h:x5 J ah=some r):bw Tryz.prog 155 [I.of (J),I.of (ah)] (I.of (r)):=by
 unfold x5 at h
 refine bw.of Tryz.func155 rfl Tryz.ntmps155 rfl fun W A=>?_
 refine aC (b7 fun a4=>?_)
 refine cC en fun ba=>?_
 refine bD ?_
 obtain⟨aD,bo,h⟩:=au h
 obtain⟨aK,cb,h⟩:=au h
 refine ag.draw mixed 10 [some 5,some 6,some 7,some 8,some 9,some 10,some 11,some 12,some 13,some 14] [[],[0],[],[2],[3],[],[5],[6],[4,7],[1,8]] [.val _,.val _,.val _,.val _,.val _,.val _,.val _,.val _,.val _,.val _] [false,false,false,false,false,false,false,false,false,false] (by kernel_rfl) rfl rfl rfl (fun cx=>⟨ct,eH Bx (At bo),H1 (aU ke),dg 1 hK eN,H1 Oh,H1 (aU im),dg 1 ev eN,H1 Oh,c1 fun ax ar=>c9 (b:= { dv:= ~~~J.dv,b2:= ~~~J.b2:an }) rfl hr en (.cons hK rfl (ab rfl) rfl (.cons ev rfl (ab rfl) rfl (.nil))),eH oZ (oN cb),trivial⟩) fun cx=>?_
 refine b8 0 bG ?_
 refine aL (ag.ret ?_)
 obtain rfl:=aH h
 exact ae.hM rfl (fw 0 bG)
theorem MN {J:Vector an 4} {ah:Int} {r:Bool} (h:x6 J ah=some r):bw Tryz.prog 156 [I.of (J),I.of (ah)] (I.of (r)):=by
 unfold x6 at h
 refine bw.of Tryz.func156 rfl Tryz.ntmps156 rfl fun W A=>?_
 refine aC (b7 fun a4=>?_)
 refine aM ?_
 refine bW (aB ?_)
 obtain⟨aD,bo,h⟩:=au h
 refine bh (PD (ab rfl) (bU 128) (Nf bo)) ?_
 obtain⟨aZ,cq,h⟩:=au h
 refine bh (eb (k:=aZ) fU (ab rfl) (ab rfl) (bZ cq)) ?_
 refine cc 0 ((aN.id (Vector an 4)).comp (aN.idx (α:=an) 4 aZ (bZ cq).1)) bG ?_
 refine aB ?_
 obtain⟨aK,cb,h⟩:=au h
 refine bh (Bs (ab rfl) (bU 128) (AL cb)) ?_
 refine bj kg ?_
 obtain⟨bb,dR,h⟩:=au h
 refine du Fm (Ec dR) ?_
 refine aM ?_
 refine aL (ag.ret ?_)
 obtain rfl:=aH h
 exact cX
theorem U8 {J:Vector an 4} {ah:Int} {r:Bool} (h:AE J ah=some r):bw Tryz.prog 157 [I.of (J),I.of (ah)] (I.of (r)):=by
 unfold AE at h
 refine bw.of Tryz.func157 rfl Tryz.ntmps157 rfl fun W A=>?_
 refine aC (b7 fun a4=>?_)
 refine aM ?_
 refine bW (aB ?_)
 obtain⟨aD,bo,h⟩:=au h
 refine du PM (ME bo) ?_
 refine aB ?_
 refine eO ?_
 refine eO ?_
 refine aM ?_
 refine aM ?_
 refine bW (aB ?_)
 obtain⟨aZ,cq,h⟩:=au h
 refine bh (eb (k:=aZ) fU (ab rfl) (ab rfl) (bZ cq)) ?_
 refine cc 0 ((aN.id (Vector an 4)).comp (aN.idx (α:=an) 4 aZ (bZ cq).1)) bG ?_
 refine aB ?_
 obtain⟨aK,cb,h⟩:=au h
 refine du Fm (Ec cb) ?_
 refine aM ?_
 refine aL (ag.ret ?_)
 obtain rfl:=aH h
 exact cX
theorem Tp {J:bu} {cu:Nat} {r:(Vector an 4)×bu} (h:zS J=some r):b9 Tryz.prog 18 [I.eq (.pointer (some ⟨cu,0,none⟩))] [⟨some cu,.var (J:bu)⟩] (δ:=Unit) (fun d=>I.of (r.1)) (fun d=>[⟨some cu,.var (r.2:bu)⟩]):=by
 unfold zS at h
 refine b9.of Tryz.func18 rfl Tryz.ntmps18 rfl fun W A=>?_
 refine aC (cC kR fun a4=>?_)
 refine bW (cC kR fun ba=>?_)
 refine bD (aC (aB ?_))
 refine aL (ag.block ?_)
 obtain⟨ay,ao,h⟩:=au h
 refine gE (γ:=Unit) (δ:=Unit) ao [0,2,3] (fun s1 av=>[(5,I.of (s1.1))]) (fun s1 av=>[(0,⟨some ba,.var (s1.2.1:Vector an 4)⟩),(2,⟨some cu,.var (s1.2.2:bu)⟩)]) (fun aA=>Exit.exit 0) (fun aA av=>[(5,I.of (aA.1)),(6,I.of (aA.2.1))]) (fun aA av=>[(0,⟨some ba,.var (aA.2.2.1:Vector an 4)⟩),(2,⟨some cu,.var (aA.2.2.2:bu)⟩)]) () (fun s1 r h av=>?_) fun av=>?_
 ·refine aC (bj ea ?_)
  refine bD (cg h (fun h=>?_) fun h=>?_)
  ·refine cO (ag.seq (ag.block (aC (aB ?_))))
   refine aM ?_
   refine bW (aB ?_)
   refine aB ?_
   refine ai.bI 2 rfl ?_
   obtain⟨aD,bo,h⟩:=au h
   refine ff 1 gT (gL bo) fun cU=>?_
   refine aY (iX Tryz.underlying3 Tryz.underlying46) ?_
   obtain⟨bH,dt,h⟩:=au h
   refine dG dt (c9 (b:=({ (default:an) with b2:=BitVec.ofInt 64 aD.1 } :an)) rfl hr en (.cons ev rfl (ab rfl) rfl (.nil))) ?_
   obtain⟨aZ,cq,h⟩:=au h
   refine bh (eb (k:=aZ) fU (ab rfl) (ab rfl) (bZ cq)) ?_
   refine nc 1 ((aN.id (Vector an 4)).comp (aN.idx (α:=an) 4 aZ (bZ cq).1)) bG ?_
   refine bW (aB ?_)
   refine ai.bI 0 rfl ?_
   obtain⟨aK,cb,h⟩:=au h
   refine ff 1 gT (gL cb) fun et=>?_
   refine bj gf ?_
   refine aL ?_
   obtain⟨bx,cy,h⟩:=au h
   refine jj (γ:=Unit) [0,2,3,4,5,6,16] (fun aW=>[]) (fun aW=>[(0,⟨some cu,.var (bx.1:bu)⟩),(1,⟨some ba,.var (bx.2:Vector an 4)⟩)]) (fun aW=>?_) (fun hm al=>?_) fun hm al=>?_
   ·refine ae.dB (ae.next (ag.cm (bj dd ?_)))
    refine aB ?_
    refine ai.nil (ae.bI 2 rfl (ae.bI 2 rfl ?_))
    obtain rfl:=aH h
    exact fc () 0
   ·have h:=gQ al cy
    obtain⟨bP,c6,h⟩:=au h
    obtain⟨bb,dR,h⟩:=au h
    obtain⟨dn,hx,h⟩:=au h
    obtain⟨cT,fe,h⟩:=au h
    obtain⟨fm,jH,h⟩:=au h
    refine jk [0,2,3,4,5,6,7,8,9,10,11,12,13,14,15,16] ?_
    refine ag.kP mixed (bg 17 [] [] _::bg 18 [] [] _::bg 19 (1::[]) [] _::bg 20 (2::[]) [] _::bg 21 (3::[]) (1::[]) _::bg 22 (4::[]) [] _::bg 23 [] [] _::⟨some 24,(6::[]),(0::[]),(0::[]),fun _=>I.of (bb.1),fun hd _=>⟨some cu,.var (bb.2:bu)⟩⟩::bg 25 (7::[]) [] _::bg 26 (5::8::[]) [] _::bg 27 (0::[]) [] _::bg 28 (10::[]) [] _::⟨none,(4::9::11::[]),(1::[]),(1::[]),fun _=>I.any,fun hd _=>⟨some ba,.var (fm:Vector an 4)⟩⟩::[]) _ (0::2::3::4::5::6::7::8::9::10::11::12::13::14::15::16::[]) rfl rfl (by kernel_rfl) ⟨fP,fP,cz fun hd E' ax aG ar=>eb (k:=bP) fU (ab (aG _ _ rfl)) (ab (aG _ _ rfl)) (bZ c6),fy (aU im),o3 1 (((aN.id (Vector an 4)).comp (aN.idx (α:=an) 4 bP (bZ c6).1)).comp ev) eN,cz fun hd E' ax aG ar=>n3 (ab (aG _ _ rfl)) (fT 24 rfl),fP,?_,fy (iX Tryz.underlying3 Tryz.underlying46),cz fun hd E' ax aG ar=>(rB (ab (aG _ _ rfl)) (ab (aG _ _ rfl))).as (aH hx),cz fun hd E' ax aG ar=>eb (k:=cT) fU (ab (aG _ _ rfl)) (ab (aG _ _ rfl)) (bZ fe),fy (aU im),?_,trivial⟩ fun fj=>?_
    ·intro hd E' ax aG ar
     refine ai.bI 0 (ar 0 _ rfl rfl) (ai.nw (Lin:= [⟨some cu,.var (aK.2:bu)⟩]) (Lr:=ax.eraseIdx 0) gT (gL dR) ⟨ab (aG _ _ rfl),bU 256,trivial⟩ rfl fun jS=>?_)
     exact ai.nil (ae.back 0 (ar 0 _ rfl rfl) (ae.fin (eP []) rfl rfl))
    ·intro hd E' ax aG ar
     exact ai.store (i:=1) (((aN.id (Vector an 4)).comp (aN.idx (α:=an) 4 cT (bZ fe).1)).comp ev) (v:=(dn:BitVec 64)) (b':=(fm:Vector an 4)) eN (ab (aG _ _ rfl)) (ab (aG _ _ rfl)) (ar 1 _ rfl rfl) rfl (aH jH) (ai.nil (ae.fin (eP []) rfl rfl))
    refine ae.ez (L2:= [⟨some cu,.var (bb.2:bu)⟩,⟨some ba,.var (fm:Vector an 4)⟩,⟨some a4,.var ((default:Vector an 4):Vector an 4)⟩]) rfl (km [0,2,3,4,5,6,7,8,9,10,11,12,13,14,15,16,17,18,19,20,21,22,23,24,25,26,27,28] ?_)
    obtain rfl:=aH h
    exact dq 0 (hm ())
   have h:=gR al cy
   refine ag.skip ?_
   obtain rfl:=aH h
   exact dq 0 (hm ())
  refine ag.exit (ae.exit ?_)
  obtain rfl:=aH h
  exact dY () 0
 refine ae.e1 (ae.next (aC (cr 0 dW ?_)))
 refine b8 1 dW ?_
 refine aL (ag.ret (ae.bI 2 rfl ?_))
 obtain rfl:=aH h
 exact ae.gr () (.cons_cons _ (List.nil_sublist _)) rfl rfl (j2 (i:=2) dW rfl rfl)
theorem MF {J:an} {ah:Int} {r:an} (h:tW J ah=some r):bw Tryz.prog 159 [I.of (J),I.of (ah)] (I.of (r)):=by
 unfold tW at h
 refine bw.of Tryz.func159 rfl Tryz.ntmps159 rfl fun W A=>?_
 refine aC (b7 fun a4=>?_)
 refine cC en fun ba=>?_
 refine bD (ag.block (aC (aB ?_)))
 refine bj sO ?_
 refine aM ?_
 refine aL (cg h (fun h=>?_) fun h=>?_)
 ·refine aC (cr 1 bG ?_)
  refine b8 0 bG ?_
  refine aL (ag.ret (ae.dz (ae.ret ?_)))
  obtain rfl:=aH h
  exact ae.hM rfl (fw 0 bG)
 refine aC (aB ?_)
 refine bj kf ?_
 refine aM ?_
 refine aL (cg h (fun h=>?_) fun h=>?_)
 ·refine aC (aY (aU im) ?_)
  refine cc 1 ev eN ?_
  refine aB ?_
  refine bj kg ?_
  refine aY (iX Tryz.underlying3 Tryz.underlying147) ?_
  refine bj n3 ?_
  obtain⟨bH,dt,h⟩:=au h
  refine dG dt (c9 (b:=({ (default:an) with dv:=J.b2 <<< (BitVec.ofInt 64 (bs (ah - 64))).toNat } :an)) rfl hr en (.cons hK rfl (ab rfl) rfl (.nil))) ?_
  refine b8 0 bG ?_
  refine aL (ag.ret (ae.dz (ae.ret ?_)))
  obtain rfl:=aH h
  exact ae.hM rfl (fw 0 bG)
 refine ag.skip (ae.dB (ae.next (aC (aY (aU ke) ?_))))
 refine cc 1 hK eN ?_
 refine aB ?_
 refine aY (iX Tryz.underlying3 Tryz.underlying147) ?_
 refine bj n3 ?_
 refine aY (aU im) ?_
 refine cc 1 ev eN ?_
 refine aB ?_
 refine bj kg ?_
 refine aY (iX Tryz.underlying3 Tryz.underlying147) ?_
 refine bj ru ?_
 obtain⟨dn,hx,h⟩:=au h
 refine dG hx (rB (ab rfl) (ab rfl)) ?_
 refine aY (aU im) ?_
 refine cc 1 ev eN ?_
 refine aB ?_
 refine aY (iX Tryz.underlying3 Tryz.underlying147) ?_
 refine bj n3 ?_
 obtain⟨fm,jH,h⟩:=au h
 refine dG jH (c9 (b:= { dv:=dn,b2:=J.b2 <<< (BitVec.ofInt 64 ah).toNat:an }) rfl hr en (.cons hK rfl (ab rfl) rfl (.cons ev rfl (ab rfl) rfl (.nil)))) ?_
 refine b8 0 bG ?_
 refine aL (ag.ret ?_)
 obtain rfl:=aH h
 exact ae.hM rfl (fw 0 bG)
theorem Ss {J:List aJ} {ah aP:Int} {og:Option Nat} {fM:Nat} {r:List aJ} (h:GY J ah aP=some r):b9 Tryz.prog 241 [I.eq (aS og J.length fM),I.of ah,I.of aP] [⟨og,.row 56 J fM⟩] (δ:=(Option Nat×Nat)) (fun d=>I.eq (aS d.1 r.length d.2)) (fun d=>[⟨d.1,.row 56 r d.2⟩]):=by
 unfold GY at h
 obtain⟨m,n,rfl,rfl,rW,aR,rfl⟩:=Vw h
 refine b9.of Tryz.func241 rfl Tryz.ntmps241 rfl fun W A=>?_
 refine ag.seq (ag.cm (ai.v (ew qb) rfl rfl rfl (ai.nil (ae.next (ag.seq (ag.cm (ai.v (cV (ab rfl)) rfl rfl rfl (ai.v (cV (ab rfl)) rfl rfl rfl (ai.v (cV (ab rfl)) rfl rfl rfl (ai.v (cV (ab rfl)) rfl rfl rfl (ai.v (oU (i:=0) (xs:=J) Tryz.underlying67 (ab rfl) rfl rfl) rfl rfl rfl (ai.v (Wn (i:=0) (xs:=J) Tryz.underlying67 cM (ab rfl) rfl (ab rfl) (ab rfl) (ab rfl) ⟨rW,aR,Nat.le_refl _⟩) rfl rfl rfl (ai.nil (ae.next (ag.seq (ag.seq (ag.cm (ai.v (cV (ab rfl)) rfl rfl rfl (ai.v (cV (ab rfl)) rfl rfl rfl ?_)))))))))))))))))))
 refine ai.v (gf (ab rfl) (ab rfl)) rfl rfl rfl (ai.nil (ae.next (ag.cond (ab rfl) (fun al=>?_) (fun al=>?_))))
 ·have JJ:m=n:=by simp only [beq_iff_eq] at al; omega
  subst JJ
  rw [List.take_append_drop]
  exact ag.seq (ag.cm (ai.v (cV (ab rfl)) rfl rfl rfl (ai.v (ew (ab rfl)) rfl rfl rfl (ai.nil (ae.next (ag.ret (ae.gr (og,fM) (.cons_cons _ (List.nil_sublist _)) rfl rfl (ej rfl))))))))
 have cD:m<n:=by simp only [beq_eq_false_iff_ne] at al; omega
 refine ag.skip (ae.next (ag.some (i:=0) (xs:=J) rfl (by omega) fun p hp uI o4=>?_))
 subst hp
 refine ag.seq (ag.cm (ai.v (cV (ab rfl)) rfl rfl rfl (ai.v (oU (i:=0) (xs:=J) Tryz.underlying67 (ab rfl) rfl rfl) rfl rfl rfl (ai.v (ew (ab rfl)) rfl rfl rfl (ai.nil (ae.next ?_))))))
 have hlen:(J.take m++J.drop n++J.drop (m+(J.length - n))).length=J.length:=by simp only [List.length_append,List.length_take,List.length_drop]; omega
 have uW:(J.take m++J.drop n).length=m+(J.length - n):=by simp only [List.length_append,List.length_take,List.length_drop]; omega
 refine ag.seq (ag.le (E':= [(0,I.eq (aS (some p) J.length fM)),(1,I.of (m:Int)),(2,I.of (n:Int)),(7,I.of (J.length:Int))]) (.same rfl (.same rfl (.same rfl (.same rfl .nil)))) ?_)
 refine ag.kP mixed (⟨some 20,[],[],[],fun _=>I.eq (aS (some p) J.length fM),fun _ _=>⟨none,.dead⟩⟩::⟨some 21,[],[],[],fun _=>I.of (m:Int),fun _ _=>⟨none,.dead⟩⟩::⟨some 22,(0::1::[]),(0::[]),[],fun _=>I.eq (ib (some p) 0 (m - 0) fM (aj.size aJ)),fun _ _=>⟨none,.dead⟩⟩::⟨some 23,[],[],[],fun _=>I.eq (aS (some p) J.length fM),fun _ _=>⟨none,.dead⟩⟩::⟨some 24,[],[],[],fun _=>I.of (n:Int),fun _ _=>⟨none,.dead⟩⟩::⟨some 25,(3::4::[]),(0::[]),[],fun _=>I.eq (ib (some p) n (J.length - n) fM (aj.size aJ)),fun _ _=>⟨none,.dead⟩⟩::⟨some 26,(0::1::2::3::4::5::[]),(0::[]),(0::[]),fun _=>I.eq (aS (some p) (m+(J.length - n)) fM),fun _ _=>⟨some p,.row 56 (J.take m++J.drop n++J.drop (m+(J.length - n))) fM⟩⟩::⟨some 0,(0::1::2::3::4::5::6::[]),[],[],fun _=>I.eq (aS (some p) (m+(J.length - n)) fM),fun _ _=>⟨none,.dead⟩⟩::[]) _ (0::1::2::7::[]) rfl rfl (by kernel_rfl) ⟨?_,?_,?_,?_,?_,?_,?_,?_,trivial⟩ fun hd=>?_
 ·exact iQ rfl rfl rfl fun hd E' ax aG ar=>cV (ab (aG _ _ rfl))
 ·exact iQ rfl rfl rfl fun hd E' ax aG ar=>cV (ab (aG _ _ rfl))
 ·exact iQ rfl rfl rfl fun hd E' ax aG ar=>yc (i:=0) (xs:=J) Tryz.underlying67 cM (ab (aG _ _ rfl)) (ar 0 _ rfl rfl) .none (.some (ab (aG _ _ rfl))) rfl rfl ⟨Nat.zero_le _,by omega⟩
 ·exact iQ rfl rfl rfl fun hd E' ax aG ar=>cV (ab (aG _ _ rfl))
 ·exact iQ rfl rfl rfl fun hd E' ax aG ar=>cV (ab (aG _ _ rfl))
 ·exact iQ rfl rfl rfl fun hd E' ax aG ar=>yc (i:=0) (xs:=J) Tryz.underlying67 cM (ab (aG _ _ rfl)) (ar 0 _ rfl rfl) (.some (ab (aG _ _ rfl))) .none rfl rfl ⟨aR,Nat.le_refl _⟩
 ·intro hd E' ax aG ar
  have bT:=ar 0 _ rfl rfl
  exact ai.XN (i:=0) (m:=m) (n:=n) (xs:=J) Tryz.underlying67 cM (ab (aG _ _ rfl)) (ab (aG _ _ rfl)) bT cD aR rfl (ai.nil (ae.fin (eP []) rfl rfl))
 ·exact iQ rfl rfl rfl fun hd E' ax aG ar=>ew (ab (aG _ _ rfl))
 refine ae.next (ag.seq (ag.cm (ai.v (cV (ab rfl)) rfl rfl rfl (ai.v (cV (ab rfl)) rfl rfl rfl (ai.v (XO Tryz.underlying67 (ab rfl)) rfl rfl rfl (ai.v (cV (ab rfl)) rfl rfl rfl (ai.v (sw (α:=aJ) (m:=m+(J.length - n)) (h:=J.length) Tryz.underlying67 cM (ab rfl) (.some (ab rfl)) (.some (ab rfl)) rfl rfl ⟨by omega,uI⟩) rfl rfl rfl ?_)))))))
 refine ai.clear (i:=0) (lo:=m+(J.length - n)) (n:=J.length - (m+(J.length - n))) (xs:=J.take m++J.drop n++J.drop (m+(J.length - n))) Tryz.underlying67 cM gx rfl (ab rfl) rfl (by rw [hlen]; omega) rfl ?_
 refine ai.nil (ae.next (ag.seq (ag.cm (ai.v (cV (ab rfl)) rfl rfl rfl (ai.v (ew (ab rfl)) rfl rfl rfl (ai.nil (ae.next (ag.ret ?_))))))))
 have QV:(mZ (J.take m++J.drop n++J.drop (m+(J.length - n))) (m+(J.length - n)) (J.length - (m+(J.length - n)))).take (m+(J.length - n))=J.take m++J.drop n:=by
  unfold mZ
  rw [List.append_assoc,List.take_append_of_le_length (by rw [List.length_take,hlen]; omega),List.take_take,Nat.min_self,List.take_append_of_le_length (by rw [uW]; exact Nat.le_refl _),← uW,List.take_length]
 refine ae.again (.row 56 (J.take m++J.drop n) fM) 0 rfl (fun A W o h=>?_) (fun h=>?_) ?_
 ·have fX:=ED (n:=m+(J.length - n)) (by unfold mZ; simp only [List.length_append,List.length_take,List.length_replicate,List.length_drop,hlen]; omega) h
  rwa [QV] at fX
 ·exact⟨by rw [← QV,h.1]; simp,h.2⟩
 refine ae.gr ((some p,fM):Option Nat×Nat) (.cons_cons _ (List.nil_sublist _)) rfl ?_ (ej rfl)
 rw [uW]
theorem xV {J:Int} {ah:Int} {r:Int} (h:rj J ah=some r):bw Tryz.prog 99 [I.of (J),I.of (ah)] (I.of (r)):=by
 unfold rj at h
 refine bw.of Tryz.func99 rfl Tryz.ntmps99 rfl fun W A=>?_
 refine aC (aM ?_)
 refine bD (ag.block (aC (aB ?_)))
 refine aB ?_
 refine bj ea ?_
 refine aM ?_
 refine aL (cg h (fun h=>?_) fun h=>?_)
 ·refine aC (aM ?_)
  refine aL (ag.ret (ae.dz (ae.ret ?_)))
  obtain rfl:=aH h
  exact cX
 refine aC (aB ?_)
 refine aB ?_
 refine bj pI ?_
 refine aM ?_
 refine aL (cg h (fun h=>?_) fun h=>?_)
 ·refine aC (aM ?_)
  refine aL (ag.ret (ae.dz (ae.ret ?_)))
  obtain rfl:=aH h
  exact cX
 refine ag.skip (ae.dB (ae.next (aC (aM ?_))))
 refine aL (ag.ret ?_)
 obtain rfl:=aH h
 exact cX
theorem MG {J:an} {r:(Vector Bool 128)} (h:xZ J=some r):bw Tryz.prog 161 [I.of (J)] (I.of (r)):=by
 unfold xZ at h
 refine bw.of Tryz.func161 rfl Tryz.ntmps161 rfl fun W A=>?_
 refine aC (b7 fun a4=>?_)
 refine cC Fo fun ba=>?_
 refine bW (cC Fo fun ck=>?_)
 refine bD (aC (aM ?_))
 refine aL (ag.block ?_)
 obtain⟨ay,ao,h⟩:=au h
 refine gE (γ:=Unit) (δ:=Unit) ao [0,1,2,3] (fun s1 av=>[(4,I.of (s1.1))]) (fun s1 av=>[(0,⟨some ck,.var (s1.2:Vector Bool 128)⟩)]) (fun aA=>Exit.exit 0) (fun aA av=>[(4,I.of (aA.1)),(6,I.of (aA.2.1))]) (fun aA av=>[(0,⟨some ck,.var (aA.2.2:Vector Bool 128)⟩)]) () (fun s1 r h av=>?_) fun av=>?_
 ·refine ag.seq (aC (aB ?_))
  refine bj ea ?_
  refine aL (cg h (fun h=>?_) fun h=>?_)
  ·refine cO (ag.seq (ag.block ?_))
   obtain⟨aZ,cq,h⟩:=au h
   obtain⟨bH,dt,h⟩:=au h
   refine ag.draw mixed 19 ((some 9)::(some 10)::(some 11)::(some 12)::(some 13)::(some 14)::(some 15)::(some 16)::(some 17)::(some 18)::(some 19)::(some 20)::(some 21)::(some 22)::(some 23)::(some 24)::(some 25)::(some 26)::none::[]) ([]::[]::[1]::[]::[3]::[]::[5]::[4,6]::[7]::[8]::[]::[10]::[]::[12]::[11,13]::[14]::[15]::[0]::[9,17]::[]) (.val _::.val _::.val _::.val _::.val _::.val _::.val _::.val _::.val _::.val _::.val _::.val _::.val _::.val _::.val _::.val _::.val _::.val _::.kF 0 (.var (bH:Vector Bool 128))::[]) (false::false::false::false::false::false::false::false::false::false::false::false::false::false::false::false::false::false::true::[]) (by kernel_rfl) rfl rfl rfl (fun cx=>⟨ct,ct,jc dd,H1 (aU im),dg 2 ev eN,ct,H1 (iX Tryz.underlying3 Tryz.underlying147),jc ru,c1 fun ax ar=>rr (ab rfl) (fT 1 rfl),c1 fun ax ar=>yf (ab rfl) (fT 1 rfl),H1 (aU ke),dg 2 hK eN,ct,H1 (iX Tryz.underlying3 Tryz.underlying147),jc ru,c1 fun ax ar=>rr (ab rfl) (fT 1 rfl),c1 fun ax ar=>yf (ab rfl) (fT 1 rfl),c1 fun ax ar=>eb (k:=aZ) By (ab rfl) (ab rfl) (bZ cq),⟨_,_,rfl,fun ax ar=>rC (i:=0) ((aN.id (Vector Bool 128)).comp (aN.idx (α:=Bool) 128 aZ (bZ cq).1)) (v:=(((J.b2 >>> (BitVec.ofInt 64 s1.1).toNat)&&&(1#64))==(1#64):Bool)) (b':=(bH:Vector Bool 128)) gF (ab rfl) (ab rfl) (ar _ _ rfl) rfl (aH dt)⟩,trivial⟩) fun cx=>?_
   obtain⟨bP,c6,h⟩:=au h
   refine bh (eb (k:=bP) By (ab rfl) (ab rfl) (bZ c6)) ?_
   obtain⟨dn,hx,h⟩:=au h
   refine wW 0 ((aN.id (Vector Bool 128)).comp (aN.idx (α:=Bool) 128 bP (bZ c6).1)) gF (hb:=by exact hx) ?_
   refine ai.nil (ae.dB (ae.next (ag.cm (aB ?_))))
   refine bj dd ?_
   refine aM ?_
   refine ai.nil ?_
   obtain rfl:=aH h
   exact fc () 0
  refine ag.exit (ae.exit ?_)
  obtain rfl:=aH h
  exact dY () 0
 refine ae.e1 (ae.next (aC (cr 0 Bz ?_)))
 refine b8 1 Bz ?_
 refine aL (ag.ret ?_)
 obtain rfl:=aH h
 exact ae.hM rfl (fw 1 Bz)
theorem UJ {J:a3} {r:(Vector (List Int) 6)} (h:Az J=some r):bw Tryz.prog 131 [I.of (J)] (I.of (r)):=by
 unfold Az at h
 refine bw.of Tryz.func131 rfl Tryz.ntmps131 rfl fun W A=>?_
 refine aC (b7 fun a4=>?_)
 refine cC PN fun ba=>?_
 refine bW (ai.n9 (z:=(default:Vector (List Int) 6)) [0,1,2,3,4,5] TL PN rfl fun ck=>?_)
 refine ai.own (α:=Int) 3 (ai.own (α:=Int) 3 (ai.own (α:=Int) 3 (ai.own (α:=Int) 3 (ai.own (α:=Int) 3 (ai.own (α:=Int) 3 (bD (aC (aY (aU uo) ?_))))))))
 refine cc 8 tM sZ ?_
 refine aY (eK Tryz.underlying23) ?_
 refine aB ?_
 refine aL (ag.block ?_)
 obtain⟨ay,ao,h⟩:=au h
 refine gE (γ:=(Option Nat×Nat)) (δ:=(Option Nat×Nat)) ao [0,1,2,3,17,18] (fun s1 av=>[(19,I.of (s1.1))]) (fun s1 av=>[(5,⟨av.1,.row 3 (s1.2.1:List Int) av.2⟩),(6,⟨some ck,.cj (s1.2.2:Vector (List Int) 6) [(0,aS av.1 s1.2.1.length av.2),(1,aS none ([]:List Int).length 0),(2,aS none ([]:List Int).length 0),(3,aS none ([]:List Int).length 0),(4,aS none ([]:List Int).length 0),(5,aS none ([]:List Int).length 0)]⟩)]) (fun aA=>Exit.exit 0) (fun aA av=>[(19,I.of (aA.1)),(20,I.of (aA.2.1))]) (fun aA av=>[(5,⟨av.1,.row 3 (aA.2.2.1:List Int) av.2⟩),(6,⟨some ck,.cj (aA.2.2.2:Vector (List Int) 6) [(0,aS av.1 aA.2.2.1.length av.2),(1,aS none ([]:List Int).length 0),(2,aS none ([]:List Int).length 0),(3,aS none ([]:List Int).length 0),(4,aS none ([]:List Int).length 0),(5,aS none ([]:List Int).length 0)]⟩)]) (none,0) (fun s1 r h av=>?_) fun av=>?_
 ·refine aC (bj ea ?_)
  refine bD (cg h (fun h=>?_) fun h=>?_)
  ·refine cO (ag.seq (ag.block (aC ?_)))
   obtain⟨aZ,cq,h⟩:=au h
   refine g5 cq Tryz.underlying23 oY ?_
   refine aY (da oY) ?_
   refine cC pH fun eW=>?_
   refine b8 0 oY ?_
   refine aL (ag.cm (bh (eb (k:=0) pJ (ab rfl) (bU 0) ⟨by decide,rfl⟩) ?_))
   refine bh (ho (i:=7) (q:=0) (β:=Vector (List Int) 6) (γ:=Int) kU (ab rfl) rfl rfl) ?_
   refine aY (aU Ib) ?_
   refine cc 0 pw bE ?_
   refine gV [(az J.fF aZ).b0] Tryz.underlying41 bE h0 ?_
   obtain⟨aD,bo,h⟩:=au h
   refine jI 6 Tryz.underlying41 bE h0 bo fun gD fC=>?_
   refine bh (eb (k:=0) pJ (ab rfl) (bU 0) ⟨by decide,rfl⟩) ?_
   refine ai.iP (i:=7) (γ:=Int) (b':=(c5 s1.2.2 0 []:Vector (List Int) 6)) (os':= [(0,aS gD aD.length fC),(1,aS none ([]:List Int).length 0),(2,aS none ([]:List Int).length 0),(3,aS none ([]:List Int).length 0),(4,aS none ([]:List Int).length 0),(5,aS none ([]:List Int).length 0)]) ((aN.id (Vector (List Int) 6)).comp (aN.idx (α:=List Int) 6 0 (by decide))) kU (ab rfl) (ab rfl) h9 rfl rfl rfl rfl ?_
   refine ai.nil (ae.dB (ae.next (ag.cm (bj dd ?_))))
   refine aB ?_
   refine ai.nil ?_
   obtain rfl:=aH h
   exact fc (gD,fC) 1
  refine ag.exit (ae.exit ?_)
  obtain rfl:=aH h
  exact dY (av.1,av.2) 0
 refine ae.e1 (ae.next (ag.seq (aC (aY (aU OY) ?_))))
 refine cc 8 L3 JK ?_
 refine aY (eK Tryz.underlying24) ?_
 refine aB ?_
 refine aL (ag.block ?_)
 obtain⟨aO,ao,h⟩:=au h
 refine gE (γ:=(Option Nat×Nat)) (δ:=(Option Nat×Nat)) ao [0,1,2,3,17,18,19,20,32,33] (fun s2 aW=>[(34,I.of (s2.1))]) (fun s2 aW=>[(4,⟨aW.1,.row 3 (s2.2.1:List Int) aW.2⟩),(6,⟨some ck,.cj (s2.2.2:Vector (List Int) 6) [(0,aS av.1 ay.2.2.1.length av.2),(1,aS aW.1 s2.2.1.length aW.2),(2,aS none ([]:List Int).length 0),(3,aS none ([]:List Int).length 0),(4,aS none ([]:List Int).length 0),(5,aS none ([]:List Int).length 0)]⟩)]) (fun cU=>Exit.exit 2) (fun cU aW=>[(34,I.of (cU.1)),(35,I.of (cU.2.1))]) (fun cU aW=>[(4,⟨aW.1,.row 3 (cU.2.2.1:List Int) aW.2⟩),(6,⟨some ck,.cj (cU.2.2.2:Vector (List Int) 6) [(0,aS av.1 ay.2.2.1.length av.2),(1,aS aW.1 cU.2.2.1.length aW.2),(2,aS none ([]:List Int).length 0),(3,aS none ([]:List Int).length 0),(4,aS none ([]:List Int).length 0),(5,aS none ([]:List Int).length 0)]⟩)]) (none,0) (fun s2 r h aW=>?_) fun aW=>?_
 ·refine aC (bj ea ?_)
  refine bD (cg h (fun h=>?_) fun h=>?_)
  ·refine cO (ag.seq (ag.block (aC ?_)))
   obtain⟨bP,c6,h⟩:=au h
   refine g5 c6 Tryz.underlying24 Fp ?_
   refine aY (da Fp) ?_
   refine cC BA fun jd=>?_
   refine b8 0 Fp ?_
   refine aL (ag.cm (bh (eb (k:=1) pJ (ab rfl) (bU 1) ⟨by decide,rfl⟩) ?_))
   refine bh (ho (i:=7) (q:=1) (β:=Vector (List Int) 6) (γ:=Int) kU (ab rfl) rfl rfl) ?_
   refine aY (aU WY) ?_
   refine cc 0 DU bE ?_
   refine gV [(az J.mo bP).b0] Tryz.underlying41 bE h0 ?_
   obtain⟨aK,cb,h⟩:=au h
   refine jI 5 Tryz.underlying41 bE h0 cb fun kj hD=>?_
   refine bh (eb (k:=1) pJ (ab rfl) (bU 1) ⟨by decide,rfl⟩) ?_
   refine ai.iP (i:=7) (γ:=Int) (b':=(c5 s2.2.2 1 []:Vector (List Int) 6)) (os':= [(0,aS av.1 ay.2.2.1.length av.2),(1,aS kj aK.length hD),(2,aS none ([]:List Int).length 0),(3,aS none ([]:List Int).length 0),(4,aS none ([]:List Int).length 0),(5,aS none ([]:List Int).length 0)]) ((aN.id (Vector (List Int) 6)).comp (aN.idx (α:=List Int) 6 1 (by decide))) kU (ab rfl) (ab rfl) h9 rfl rfl rfl rfl ?_
   refine ai.nil (ae.dB (ae.next (ag.cm (bj dd ?_))))
   refine aB ?_
   refine ai.nil ?_
   obtain rfl:=aH h
   exact fc (kj,hD) 1
  refine ag.exit (ae.exit ?_)
  obtain rfl:=aH h
  exact dY (aW.1,aW.2) 0
 refine ae.e1 (ae.next (ag.seq (aC (aY (aU OZ) ?_))))
 refine cc 8 L7 JL ?_
 refine aY (eK Tryz.underlying25) ?_
 refine aB ?_
 refine aL (ag.block ?_)
 obtain⟨cK,ao,h⟩:=au h
 refine gE (γ:=(Option Nat×Nat)) (δ:=(Option Nat×Nat)) ao [0,1,2,3,17,18,19,20,32,33,34,35,47,48] (fun hV bB=>[(49,I.of (hV.1))]) (fun hV bB=>[(3,⟨bB.1,.row 3 (hV.2.1:List Int) bB.2⟩),(6,⟨some ck,.cj (hV.2.2:Vector (List Int) 6) [(0,aS av.1 ay.2.2.1.length av.2),(1,aS aW.1 aO.2.2.1.length aW.2),(2,aS bB.1 hV.2.1.length bB.2),(3,aS none ([]:List Int).length 0),(4,aS none ([]:List Int).length 0),(5,aS none ([]:List Int).length 0)]⟩)]) (fun et=>Exit.exit 4) (fun et bB=>[(49,I.of (et.1)),(50,I.of (et.2.1))]) (fun et bB=>[(3,⟨bB.1,.row 3 (et.2.2.1:List Int) bB.2⟩),(6,⟨some ck,.cj (et.2.2.2:Vector (List Int) 6) [(0,aS av.1 ay.2.2.1.length av.2),(1,aS aW.1 aO.2.2.1.length aW.2),(2,aS bB.1 et.2.2.1.length bB.2),(3,aS none ([]:List Int).length 0),(4,aS none ([]:List Int).length 0),(5,aS none ([]:List Int).length 0)]⟩)]) (none,0) (fun hV r h bB=>?_) fun bB=>?_
 ·refine aC (bj ea ?_)
  refine bD (cg h (fun h=>?_) fun h=>?_)
  ·refine cO (ag.seq (ag.block (aC ?_)))
   obtain⟨cT,fe,h⟩:=au h
   refine g5 fe Tryz.underlying25 rI ?_
   refine aY (da rI) ?_
   refine cC uA fun jT=>?_
   refine b8 0 rI ?_
   refine aL (ag.cm (bh (eb (k:=2) pJ (ab rfl) (bU 2) ⟨by decide,rfl⟩) ?_))
   refine bh (ho (i:=7) (q:=2) (β:=Vector (List Int) 6) (γ:=Int) kU (ab rfl) rfl rfl) ?_
   refine aY (aU WZ) ?_
   refine cc 0 DZ bE ?_
   refine gV [(az J.mW cT).b0] Tryz.underlying41 bE h0 ?_
   obtain⟨bb,dR,h⟩:=au h
   refine jI 4 Tryz.underlying41 bE h0 dR fun hf pO=>?_
   refine bh (eb (k:=2) pJ (ab rfl) (bU 2) ⟨by decide,rfl⟩) ?_
   refine ai.iP (i:=7) (γ:=Int) (b':=(c5 hV.2.2 2 []:Vector (List Int) 6)) (os':= [(0,aS av.1 ay.2.2.1.length av.2),(1,aS aW.1 aO.2.2.1.length aW.2),(2,aS hf bb.length pO),(3,aS none ([]:List Int).length 0),(4,aS none ([]:List Int).length 0),(5,aS none ([]:List Int).length 0)]) ((aN.id (Vector (List Int) 6)).comp (aN.idx (α:=List Int) 6 2 (by decide))) kU (ab rfl) (ab rfl) h9 rfl rfl rfl rfl ?_
   refine ai.nil (ae.dB (ae.next (ag.cm (bj dd ?_))))
   refine aB ?_
   refine ai.nil ?_
   obtain rfl:=aH h
   exact fc (hf,pO) 1
  refine ag.exit (ae.exit ?_)
  obtain rfl:=aH h
  exact dY (bB.1,bB.2) 0
 refine ae.e1 (ae.next (ag.seq (aC (aY (aU IE) ?_))))
 refine cc 8 G0 FK ?_
 refine aY (eK Tryz.underlying26) ?_
 refine aB ?_
 refine aL (ag.block ?_)
 obtain⟨di,ao,h⟩:=au h
 refine gE (γ:=(Option Nat×Nat)) (δ:=(Option Nat×Nat)) ao [0,1,2,3,17,18,19,20,32,33,34,35,47,48,49,50,62,63] (fun iz cn=>[(64,I.of (iz.1))]) (fun iz cn=>[(2,⟨cn.1,.row 3 (iz.2.1:List Int) cn.2⟩),(6,⟨some ck,.cj (iz.2.2:Vector (List Int) 6) [(0,aS av.1 ay.2.2.1.length av.2),(1,aS aW.1 aO.2.2.1.length aW.2),(2,aS bB.1 cK.2.2.1.length bB.2),(3,aS cn.1 iz.2.1.length cn.2),(4,aS none ([]:List Int).length 0),(5,aS none ([]:List Int).length 0)]⟩)]) (fun jS=>Exit.exit 6) (fun jS cn=>[(64,I.of (jS.1)),(65,I.of (jS.2.1))]) (fun jS cn=>[(2,⟨cn.1,.row 3 (jS.2.2.1:List Int) cn.2⟩),(6,⟨some ck,.cj (jS.2.2.2:Vector (List Int) 6) [(0,aS av.1 ay.2.2.1.length av.2),(1,aS aW.1 aO.2.2.1.length aW.2),(2,aS bB.1 cK.2.2.1.length bB.2),(3,aS cn.1 jS.2.2.1.length cn.2),(4,aS none ([]:List Int).length 0),(5,aS none ([]:List Int).length 0)]⟩)]) (none,0) (fun iz r h cn=>?_) fun cn=>?_
 ·refine aC (bj ea ?_)
  refine bD (cg h (fun h=>?_) fun h=>?_)
  ·refine cO (ag.seq (ag.block (aC ?_)))
   obtain⟨eY,hy,h⟩:=au h
   refine g5 hy Tryz.underlying26 oe ?_
   refine aY (da oe) ?_
   refine cC qj fun q3=>?_
   refine b8 0 oe ?_
   refine aL (ag.cm (bh (eb (k:=3) pJ (ab rfl) (bU 3) ⟨by decide,rfl⟩) ?_))
   refine bh (ho (i:=7) (q:=3) (β:=Vector (List Int) 6) (γ:=Int) kU (ab rfl) rfl rfl) ?_
   refine aY (aU Og) ?_
   refine cc 0 tO bE ?_
   refine gV [(az J.dH eY).b0] Tryz.underlying41 bE h0 ?_
   obtain⟨bJ,e2,h⟩:=au h
   refine jI 3 Tryz.underlying41 bE h0 e2 fun qs wE=>?_
   refine bh (eb (k:=3) pJ (ab rfl) (bU 3) ⟨by decide,rfl⟩) ?_
   refine ai.iP (i:=7) (γ:=Int) (b':=(c5 iz.2.2 3 []:Vector (List Int) 6)) (os':= [(0,aS av.1 ay.2.2.1.length av.2),(1,aS aW.1 aO.2.2.1.length aW.2),(2,aS bB.1 cK.2.2.1.length bB.2),(3,aS qs bJ.length wE),(4,aS none ([]:List Int).length 0),(5,aS none ([]:List Int).length 0)]) ((aN.id (Vector (List Int) 6)).comp (aN.idx (α:=List Int) 6 3 (by decide))) kU (ab rfl) (ab rfl) h9 rfl rfl rfl rfl ?_
   refine ai.nil (ae.dB (ae.next (ag.cm (bj dd ?_))))
   refine aB ?_
   refine ai.nil ?_
   obtain rfl:=aH h
   exact fc (qs,wE) 1
  refine ag.exit (ae.exit ?_)
  obtain rfl:=aH h
  exact dY (cn.1,cn.2) 0
 refine ae.e1 (ae.next (ag.seq (aC (aY (aU mY) ?_))))
 refine cc 8 mU mz ?_
 refine aY (eK Tryz.underlying27) ?_
 refine aB ?_
 refine aL (ag.block ?_)
 obtain⟨fQ,ao,h⟩:=au h
 refine gE (γ:=(Option Nat×Nat)) (δ:=(Option Nat×Nat)) ao [0,1,2,3,17,18,19,20,32,33,34,35,47,48,49,50,62,63,64,65,77,78] (fun fY gy=>[(79,I.of (fY.1))]) (fun fY gy=>[(1,⟨gy.1,.row 3 (fY.2.1:List Int) gy.2⟩),(6,⟨some ck,.cj (fY.2.2:Vector (List Int) 6) [(0,aS av.1 ay.2.2.1.length av.2),(1,aS aW.1 aO.2.2.1.length aW.2),(2,aS bB.1 cK.2.2.1.length bB.2),(3,aS cn.1 di.2.2.1.length cn.2),(4,aS gy.1 fY.2.1.length gy.2),(5,aS none ([]:List Int).length 0)]⟩)]) (fun eu=>Exit.exit 8) (fun eu gy=>[(79,I.of (eu.1)),(80,I.of (eu.2.1))]) (fun eu gy=>[(1,⟨gy.1,.row 3 (eu.2.2.1:List Int) gy.2⟩),(6,⟨some ck,.cj (eu.2.2.2:Vector (List Int) 6) [(0,aS av.1 ay.2.2.1.length av.2),(1,aS aW.1 aO.2.2.1.length aW.2),(2,aS bB.1 cK.2.2.1.length bB.2),(3,aS cn.1 di.2.2.1.length cn.2),(4,aS gy.1 eu.2.2.1.length gy.2),(5,aS none ([]:List Int).length 0)]⟩)]) (none,0) (fun fY r h gy=>?_) fun gy=>?_
 ·refine aC (bj ea ?_)
  refine bD (cg h (fun h=>?_) fun h=>?_)
  ·refine cO (ag.seq (ag.block (aC ?_)))
   obtain⟨iK,nb,h⟩:=au h
   refine g5 nb Tryz.underlying27 gu ?_
   refine aY (da gu) ?_
   refine cC l6 fun Sc=>?_
   refine b8 0 gu ?_
   refine aL (ag.cm (bh (eb (k:=4) pJ (ab rfl) (bU 4) ⟨by decide,rfl⟩) ?_))
   refine bh (ho (i:=7) (q:=4) (β:=Vector (List Int) 6) (γ:=Int) kU (ab rfl) rfl rfl) ?_
   refine aY (aU vV) ?_
   refine cc 0 p9 bE ?_
   refine gV [(az J.bt iK).b0] Tryz.underlying41 bE h0 ?_
   obtain⟨bq,gG,h⟩:=au h
   refine jI 2 Tryz.underlying41 bE h0 gG fun pP QW=>?_
   refine bh (eb (k:=4) pJ (ab rfl) (bU 4) ⟨by decide,rfl⟩) ?_
   refine ai.iP (i:=7) (γ:=Int) (b':=(c5 fY.2.2 4 []:Vector (List Int) 6)) (os':= [(0,aS av.1 ay.2.2.1.length av.2),(1,aS aW.1 aO.2.2.1.length aW.2),(2,aS bB.1 cK.2.2.1.length bB.2),(3,aS cn.1 di.2.2.1.length cn.2),(4,aS pP bq.length QW),(5,aS none ([]:List Int).length 0)]) ((aN.id (Vector (List Int) 6)).comp (aN.idx (α:=List Int) 6 4 (by decide))) kU (ab rfl) (ab rfl) h9 rfl rfl rfl rfl ?_
   refine ai.nil (ae.dB (ae.next (ag.cm (bj dd ?_))))
   refine aB ?_
   refine ai.nil ?_
   obtain rfl:=aH h
   exact fc (pP,QW) 1
  refine ag.exit (ae.exit ?_)
  obtain rfl:=aH h
  exact dY (gy.1,gy.2) 0
 refine ae.e1 (ae.next (ag.seq (aC (aY (aU O0) ?_))))
 refine cc 8 L8 JM ?_
 refine aY (eK Tryz.underlying29) ?_
 refine aB ?_
 refine aL (ag.block ?_)
 obtain⟨ig,ao,h⟩:=au h
 refine gE (γ:=(Option Nat×Nat)) (δ:=(Option Nat×Nat)) ao [0,1,2,3,17,18,19,20,32,33,34,35,47,48,49,50,62,63,64,65,77,78,79,80,92,93] (fun jq nK=>[(94,I.of (jq.1))]) (fun jq nK=>[(0,⟨nK.1,.row 3 (jq.2.1:List Int) nK.2⟩),(6,⟨some ck,.cj (jq.2.2:Vector (List Int) 6) [(0,aS av.1 ay.2.2.1.length av.2),(1,aS aW.1 aO.2.2.1.length aW.2),(2,aS bB.1 cK.2.2.1.length bB.2),(3,aS cn.1 di.2.2.1.length cn.2),(4,aS gy.1 fQ.2.2.1.length gy.2),(5,aS nK.1 jq.2.1.length nK.2)]⟩)]) (fun jU=>Exit.exit 10) (fun jU nK=>[(94,I.of (jU.1)),(95,I.of (jU.2.1))]) (fun jU nK=>[(0,⟨nK.1,.row 3 (jU.2.2.1:List Int) nK.2⟩),(6,⟨some ck,.cj (jU.2.2.2:Vector (List Int) 6) [(0,aS av.1 ay.2.2.1.length av.2),(1,aS aW.1 aO.2.2.1.length aW.2),(2,aS bB.1 cK.2.2.1.length bB.2),(3,aS cn.1 di.2.2.1.length cn.2),(4,aS gy.1 fQ.2.2.1.length gy.2),(5,aS nK.1 jU.2.2.1.length nK.2)]⟩)]) (none,0) (fun jq r h nK=>?_) fun nK=>?_
 ·refine aC (bj ea ?_)
  refine bD (cg h (fun h=>?_) fun h=>?_)
  ·refine cO (ag.seq (ag.block (aC ?_)))
   obtain⟨jo,nB,h⟩:=au h
   refine g5 nB Tryz.underlying29 rJ ?_
   refine aY (da rJ) ?_
   refine cC uB fun aeR=>?_
   refine b8 0 rJ ?_
   refine aL (ag.cm (bh (eb (k:=5) pJ (ab rfl) (bU 5) ⟨by decide,rfl⟩) ?_))
   refine bh (ho (i:=7) (q:=5) (β:=Vector (List Int) 6) (γ:=Int) kU (ab rfl) rfl rfl) ?_
   refine aY (aU W0) ?_
   refine cc 0 D1 bE ?_
   refine gV [(az J.kc jo).b0] Tryz.underlying41 bE h0 ?_
   obtain⟨b6,gH,h⟩:=au h
   refine jI 1 Tryz.underlying41 bE h0 gH fun BU QX=>?_
   refine bh (eb (k:=5) pJ (ab rfl) (bU 5) ⟨by decide,rfl⟩) ?_
   refine ai.iP (i:=7) (γ:=Int) (b':=(c5 jq.2.2 5 []:Vector (List Int) 6)) (os':= [(0,aS av.1 ay.2.2.1.length av.2),(1,aS aW.1 aO.2.2.1.length aW.2),(2,aS bB.1 cK.2.2.1.length bB.2),(3,aS cn.1 di.2.2.1.length cn.2),(4,aS gy.1 fQ.2.2.1.length gy.2),(5,aS BU b6.length QX)]) ((aN.id (Vector (List Int) 6)).comp (aN.idx (α:=List Int) 6 5 (by decide))) kU (ab rfl) (ab rfl) h9 rfl rfl rfl rfl ?_
   refine ai.nil (ae.dB (ae.next (ag.cm (bj dd ?_))))
   refine aB ?_
   refine ai.nil ?_
   obtain rfl:=aH h
   exact fc (BU,QX) 1
  refine ag.exit (ae.exit ?_)
  obtain rfl:=aH h
  exact dY (nK.1,nK.2) 0
 refine ae.e1 (ae.next (aC (ai.lf (β:=Vector (List Int) 6) (γ:=Int) (b':=(c5 ig.2.2.2 0 ay.2.2.1:Vector (List Int) 6)) ((aN.id (Vector (List Int) 6)).comp (aN.idx (α:=List Int) 6 0 (by decide))) 6 5 0 rfl rfl rfl rfl rfl rfl ?_)))
 refine ai.lf (β:=Vector (List Int) 6) (γ:=Int) (b':=(c5 (c5 ig.2.2.2 0 ay.2.2.1) 1 aO.2.2.1:Vector (List Int) 6)) ((aN.id (Vector (List Int) 6)).comp (aN.idx (α:=List Int) 6 1 (by decide))) 6 4 0 rfl rfl rfl rfl rfl rfl ?_
 refine ai.lf (β:=Vector (List Int) 6) (γ:=Int) (b':=(c5 (c5 (c5 ig.2.2.2 0 ay.2.2.1) 1 aO.2.2.1) 2 cK.2.2.1:Vector (List Int) 6)) ((aN.id (Vector (List Int) 6)).comp (aN.idx (α:=List Int) 6 2 (by decide))) 6 3 0 rfl rfl rfl rfl rfl rfl ?_
 refine ai.lf (β:=Vector (List Int) 6) (γ:=Int) (b':=(c5 (c5 (c5 (c5 ig.2.2.2 0 ay.2.2.1) 1 aO.2.2.1) 2 cK.2.2.1) 3 di.2.2.1:Vector (List Int) 6)) ((aN.id (Vector (List Int) 6)).comp (aN.idx (α:=List Int) 6 3 (by decide))) 6 2 0 rfl rfl rfl rfl rfl rfl ?_
 refine ai.lf (β:=Vector (List Int) 6) (γ:=Int) (b':=(c5 (c5 (c5 (c5 (c5 ig.2.2.2 0 ay.2.2.1) 1 aO.2.2.1) 2 cK.2.2.1) 3 di.2.2.1) 4 fQ.2.2.1:Vector (List Int) 6)) ((aN.id (Vector (List Int) 6)).comp (aN.idx (α:=List Int) 6 4 (by decide))) 6 1 0 rfl rfl rfl rfl rfl rfl ?_
 refine ai.lf (β:=Vector (List Int) 6) (γ:=Int) (b':=(c5 (c5 (c5 (c5 (c5 (c5 ig.2.2.2 0 ay.2.2.1) 1 aO.2.2.1) 2 cK.2.2.1) 3 di.2.2.1) 4 fQ.2.2.1) 5 ig.2.2.1:Vector (List Int) 6)) ((aN.id (Vector (List Int) 6)).comp (aN.idx (α:=List Int) 6 5 (by decide))) 6 0 0 rfl rfl rfl rfl rfl rfl ?_
 refine ai.o0 6 rfl ?_
 obtain⟨bH,dt,h⟩:=au h
 refine dG dt (fa (i:=6) (aN.id (Vector (List Int) 6)) (r:=(c5 (c5 (c5 (c5 (c5 (c5 ig.2.2.2 0 ay.2.2.1) 1 aO.2.2.1) 2 cK.2.2.1) 3 di.2.2.1) 4 fQ.2.2.1) 5 ig.2.2.1)) I8 (ab rfl) rfl rfl rfl) ?_
 refine b8 7 I8 ?_
 refine aL (ag.ret ?_)
 obtain rfl:=aH h
 exact ae.hM rfl (fw 7 I8)
theorem Mj {J:BitVec 64} {r:Int} (h:xI J=some r):bw Tryz.prog 145 [I.of (J)] (I.of (r)):=by
 unfold xI at h
 refine bw.of Tryz.func145 rfl Tryz.ntmps145 rfl fun W A=>?_
 refine aC (aM ?_)
 refine bD (aC (aB ?_))
 refine bh (Ie (ab rfl) (fT 4294967296 rfl)) ?_
 refine aL ?_
 obtain⟨bx,cy,h⟩:=au h
 refine jj (γ:=Unit) [4] (fun av=>[(0,I.of (bx.1)),(2,I.of (bx.2))]) (fun av=>[]) (fun av=>?_) (fun hm al=>?_) fun hm al=>?_
 ·refine ae.next (ag.seq (aC (aB ?_)))
  refine bh (Ie (ab rfl) (fT 65536 rfl)) ?_
  refine aL ?_
  obtain⟨cY,eg,h⟩:=au h
  refine jj (γ:=Unit) [4,8] (fun aW=>[(0,I.of (cY.1)),(2,I.of (cY.2))]) (fun aW=>[]) (fun aW=>?_) (fun hm al=>?_) fun hm al=>?_
  ·refine ae.next (ag.seq (aC (aB ?_)))
   refine bh (Ie (ab rfl) (fT 256 rfl)) ?_
   refine aL ?_
   obtain⟨fA,g6,h⟩:=au h
   refine jj (γ:=Unit) [4,8,14] (fun bB=>[(0,I.of (fA.1)),(2,I.of (fA.2))]) (fun bB=>[]) (fun bB=>?_) (fun hm al=>?_) fun hm al=>?_
   ·refine ae.next (aC (aB ?_))
    refine aB ?_
    refine aY (W1 Tryz.underlying46 Tryz.underlying5) ?_
    obtain⟨aD,bo,h⟩:=au h
    refine bh (W2 Tryz.underlying9 (dU (ByteArray.mk (List.toArray (List.append (List.append [0,1,2,2,3,3,3,3,4,4,4,4,4,4,4,4,5,5,5,5,5,5,5,5,5,5,5,5,5,5,5,5,6,6,6,6,6,6,6,6,6,6,6,6,6,6,6,6,6,6,6,6,6,6,6,6,6,6,6,6,6,6,6,6] [7,7,7,7,7,7,7,7,7,7,7,7,7,7,7,7,7,7,7,7,7,7,7,7,7,7,7,7,7,7,7,7,7,7,7,7,7,7,7,7,7,7,7,7,7,7,7,7,7,7,7,7,7,7,7,7,7,7,7,7,7,7,7,7]) (List.append [8,8,8,8,8,8,8,8,8,8,8,8,8,8,8,8,8,8,8,8,8,8,8,8,8,8,8,8,8,8,8,8,8,8,8,8,8,8,8,8,8,8,8,8,8,8,8,8,8,8,8,8,8,8,8,8,8,8,8,8,8,8,8,8] [8,8,8,8,8,8,8,8,8,8,8,8,8,8,8,8,8,8,8,8,8,8,8,8,8,8,8,8,8,8,8,8,8,8,8,8,8,8,8,8,8,8,8,8,8,8,8,8,8,8,8,8,8,8,8,8,8,8,8,8,8,8,8,8]))))) (ab rfl) bo) ?_
    refine aY (PE Tryz.underlying5 Tryz.underlying3) ?_
    refine bj dd ?_
    refine aM ?_
    refine aL (ag.ret ?_)
    obtain rfl:=aH h
    exact cX
   ·have h:=gQ al g6
    refine aC (aB ?_)
    refine bh (ru (ab rfl) (fT 8 rfl)) ?_
    refine aM ?_
    refine aL (ag.cm (aB ?_))
    refine bj dd ?_
    refine aM ?_
    refine ai.nil ?_
    obtain rfl:=aH h
    exact dq 0 (hm ())
   have h:=gR al g6
   refine ag.skip ?_
   obtain rfl:=aH h
   exact dq 0 (hm ())
  ·have h:=gQ al eg
   refine aC (aB ?_)
   refine bh (ru (ab rfl) (fT 16 rfl)) ?_
   refine aM ?_
   refine aL (ag.cm (aB ?_))
   refine bj dd ?_
   refine aM ?_
   refine ai.nil ?_
   obtain rfl:=aH h
   exact dq 0 (hm ())
  have h:=gR al eg
  refine ag.skip ?_
  obtain rfl:=aH h
  exact dq 0 (hm ())
 ·have h:=gQ al cy
  refine aC (aB ?_)
  refine bh (ru (ab rfl) (fT 32 rfl)) ?_
  refine aM ?_
  refine aL (ag.cm (aM ?_))
  refine ai.nil ?_
  obtain rfl:=aH h
  exact dq 0 (hm ())
 have h:=gR al cy
 refine ag.skip ?_
 obtain rfl:=aH h
 exact dq 0 (hm ())
theorem L4 {hp:a1 Cell} {J:Ref} {ah:Int} {aP:Int} {b5:Int} {GJ:Bool} {cu:Nat} {iH:Nat} {oA:Nat} {o5:Nat} {wX:Nat} {r:Int×Int×Bool} (h:vl hp J ah aP b5 GJ=some r):b9 Tryz.prog 214 [I.eq (.pointer (some ⟨cu,0,none⟩)),I.eq (.pointer (some ⟨iH,0,none⟩)),I.eq (.pointer (some ⟨oA,0,none⟩)),I.eq (.pointer (some ⟨o5,0,none⟩)),I.eq (.pointer (some ⟨wX,0,none⟩))] ([⟨some cu,.var (J:Ref)⟩,⟨some iH,.var (ah:Int)⟩,⟨some oA,.var (aP:Int)⟩,⟨some o5,.var (b5:Int)⟩,⟨some wX,.var (GJ:Bool)⟩]++a8 hp) (δ:=Unit) (fun _=>I.ep []) (fun _=>[⟨some cu,.var (J:Ref)⟩,⟨some iH,.var (ah:Int)⟩,⟨some oA,.var (r.1:Int)⟩,⟨some o5,.var (r.2.1:Int)⟩,⟨some wX,.var (r.2.2:Bool)⟩]++a8 hp):=by
 unfold vl at h
 refine b9.of Tryz.func214 rfl Tryz.ntmps214 rfl fun W A=>?_
 refine aC (cr 0 ek ?_)
 refine bh (Ep Tryz.underlying299 (ab rfl)) ?_
 refine aB ?_
 refine eI (fun hb=>fa (i:=0) (aN.id Ref) (r:=J) ek (ab rfl) rfl rfl rfl) ?_
 obtain⟨cG,dF,h⟩:=au h
 refine eI (fun hb=>dV (eL (cJ rfl hb) (gN dF hb))) ?_
 refine dE (aU rv) ?_
 obtain⟨bY,ed,h⟩:=au h
 refine eI (fun hb=>gd ((aN.id dM).comp ri) (r:=bY.dP) gF (cJ rfl hb) (fk (n:=5) rfl (ju (gN ed hb)) rfl) rfl rfl) ?_
 refine iG ?_
 refine aL ?_
 obtain⟨bx,cy,h⟩:=au h
 refine ag.c0 (γ:=Unit) (fun av=>[(0,I.eq (.pointer (some ⟨cu,0,none⟩))),(1,I.eq (.pointer (some ⟨iH,0,none⟩))),(2,I.eq (.pointer (some ⟨oA,0,none⟩))),(3,I.eq (.pointer (some ⟨o5,0,none⟩))),(4,I.eq (.pointer (some ⟨wX,0,none⟩))),(12,I.of (J.isSome&&bY.dP))]) (fun av=>(⟨some cu,.var (J:Ref)⟩::⟨some iH,.var (ah:Int)⟩::⟨some oA,.var (bx.1:Int)⟩::⟨some o5,.var (bx.2.1:Int)⟩::⟨some wX,.var (bx.2.2:Bool)⟩::a8 hp)) (ab rfl) (fun av=>?_) (fun hm al=>?_) (fun hm al=>?_)
 ·refine ae.ou (ae.bI 4 rfl (ae.bI 4 rfl (ae.bI 4 rfl (ae.bI 4 rfl (ae.bI 4 rfl ?_)))))
  obtain rfl:=aH h
  exact ae.lD () (.cons_cons _ (.cons_cons _ (.cons_cons _ (.cons_cons _ (.cons_cons _ (.refl _)))))) rfl rfl
 ·have h:=gQ al cy
  obtain⟨cv,fx,h⟩:=au h
  obtain⟨cN,fI,h⟩:=au h
  refine jk [0,1,2,3,4,5,6,7,8,9,10,11,12] ?_
  refine ag.qk 5 mixed (bg 13 [] (1::[]) _::bg 14 [] (0::[]) _::bg 15 (1::[]) [] _::bg 16 (2::[]) [] _::⟨some 17,(3::[]),[],[],fun _=>I.of (cN.hO),fun _ _=>⟨none,.dead⟩⟩::⟨none,(0::[]),(2::[]),(2::[]),fun _=>I.any,fun hd _=>⟨some oA,.var (ah:Int)⟩⟩::⟨none,(4::[]),(3::[]),(3::[]),fun _=>I.any,fun hd _=>⟨some o5,.var (cN.hO:Int)⟩⟩::⟨none,[],(4::[]),(4::[]),fun _=>I.any,fun hd _=>⟨some wX,.var (true:Bool)⟩⟩::[]) _ (0::1::2::3::4::5::6::7::8::9::10::11::12::[]) rfl rfl (by kernel_rfl) (by kernel_rfl) ⟨cI.q (lG 1 bE),cI.q (lG 0 ek),cI.q (cz fun hd E' ax aG ar=>dV (eL (ab (aG _ _ rfl)) fx)),cI.q (fy (aU A6)),?_,?_,?_,?_,trivial⟩ fun fj=>?_
  ·intro hd E' ax aG ar dw
   refine bh (gd ((aN.id dM).comp z4) (r:=cN.hO) bE (ab (aG _ _ rfl)) (fk (n:=5) (dw.trans rfl) (ju fI) rfl) rfl rfl) ?_
   exact ai.nil (ae.fin (eP []) rfl rfl)
  ·intro hd E' ax aG ar dw
   exact ai.store (i:=2) (aN.id Int) (v:=(ah:Int)) (b':=(ah:Int)) bE (ab (aG _ _ rfl)) (ab (aG _ _ rfl)) (ar 2 _ rfl rfl) rfl rfl (ai.nil (ae.fin (eP []) rfl rfl))
  ·intro hd E' ax aG ar dw
   exact ai.store (i:=3) (aN.id Int) (v:=(cN.hO:Int)) (b':=(cN.hO:Int)) bE (ab (aG _ _ rfl)) (ab (aG _ _ rfl)) (ar 3 _ rfl rfl) rfl rfl (ai.nil (ae.fin (eP []) rfl rfl))
  ·intro hd E' ax aG ar dw
   exact ai.store (i:=4) (aN.id Bool) (v:=(true:Bool)) (b':=(true:Bool)) gF (ab (aG _ _ rfl)) (gi true) (ar 4 _ rfl rfl) rfl rfl (ai.nil (ae.fin (eP []) rfl rfl))
  refine ae.ez (L2:=(⟨some cu,.var (J:Ref)⟩::⟨some iH,.var (ah:Int)⟩::⟨some oA,.var (ah:Int)⟩::⟨some o5,.var (cN.hO:Int)⟩::⟨some wX,.var (true:Bool)⟩::a8 hp)) rfl (km [0,1,2,3,4,5,6,7,8,9,10,11,12,13,14,15,16,17] ?_)
  obtain rfl:=aH h
  exact dq 0 (hm ())
 have h:=gR al cy
 refine ag.skip ?_
 obtain rfl:=aH h
 exact dq 0 (hm ())
theorem SL {ah:Vector an 4} {Lq:Option Addr} {r:(Vector an 4)} (h:G2 ah=some r):bw Tryz.prog 236 [I.eq (.pointer Lq),I.of (ah)] (I.gU 242 [I.va (I.eq (.pointer Lq)),I.ptr r]):=by
 unfold G2 at h
 refine bw.of Tryz.func236 rfl Tryz.ntmps236 rfl fun W A=>?_
 refine aC (ai.aaW (ab rfl) W3 rfl (b7 fun ba=>?_))
 refine bh (ew (E8 .nilFunc)) ?_
 refine bW (ai.share (α:=Vector an 4) 0 3 rfl rfl (bh (I2 (f:=242) (τs:= [I.va (I.eq (.pointer Lq)),I.ptr ah]) ⟨ab rfl,ab rfl,trivial⟩) ?_))
 refine aM ?_
 refine aL (ag.ret ?_)
 obtain rfl:=aH h
 exact cX
theorem Mr {J:an} {ah:an} {r:Int} (h:tS J ah=some r):bw Tryz.prog 110 [I.of (J),I.of (ah)] (I.of (r)):=by
 unfold tS at h
 refine bw.of Tryz.func110 rfl Tryz.ntmps110 rfl fun W A=>?_
 refine aC (b7 fun a4=>?_)
 refine b7 fun ba=>?_
 refine aM ?_
 refine bD (ag.block (aC (cr 1 bG ?_)))
 refine cr 0 bG ?_
 refine bj (yz od rfl uz rfl) ?_
 refine aM ?_
 refine aL (cg h (fun h=>?_) fun h=>?_)
 ·refine aC (aM ?_)
  refine aL (ag.ret (ae.dz (ae.ret ?_)))
  obtain rfl:=aH h
  exact cX
 refine aC (aY (aU ke) ?_)
 refine cc 1 hK eN ?_
 refine aY (aU ke) ?_
 refine cc 0 hK eN ?_
 refine bj Oi ?_
 refine aB ?_
 refine dE (aU ke) ?_
 refine eI (fun hb=>fa (i:=1) ((aN.id an).comp hK) (r:=J.dv) eN (cJ rfl hb) rfl rfl rfl) ?_
 refine dE (aU ke) ?_
 refine eI (fun hb=>fa (i:=0) ((aN.id an).comp hK) (r:=ah.dv) eN (cJ rfl hb) rfl rfl rfl) ?_
 refine jw yf ?_
 refine dE cV ?_
 refine ai.gg (fun hb=>aU im (ab rfl)) rfl rfl rfl rfl rfl (ai.gg (fun hb=>fa (i:=1) ((aN.id an).comp ev) (r:=J.b2) eN (cJ rfl hb) rfl rfl rfl) rfl rfl rfl rfl rfl (ai.gg (fun hb=>aU im (ab rfl)) rfl rfl rfl rfl rfl (ai.gg (fun hb=>fa (i:=0) ((aN.id an).comp ev) (r:=ah.b2) eN (cJ rfl hb) rfl rfl rfl) rfl rfl rfl rfl rfl (ai.gg (fun hb=>Oi (cJ rfl hb) (cJ rfl hb)) rfl rfl rfl rfl rfl (eI (fun hb=>rF (cJ rfl hb) (ab rfl) (fun h=>⟨hb,h⟩)) ?_)))))
 obtain⟨bH,dt,h⟩:=au h
 refine dG dt (s0 (ab rfl) (ab rfl) (fun h=>h)) ?_
 refine aM ?_
 refine aL (cg h (fun h=>?_) fun h=>?_)
 ·refine aC (aM ?_)
  refine aL (ag.ret (ae.dz (ae.ret ?_)))
  obtain rfl:=aH h
  exact cX
 refine ag.skip (ae.dB (ae.next (aC (aM ?_))))
 refine aL (ag.ret ?_)
 obtain rfl:=aH h
 exact cX
theorem Uh {J:bc} {ah:Vector an 4} {aP:Vector an 4} {r:bc} (h:Aj J ah aP=some r):bw Tryz.prog 127 [I.of (J),I.of (ah),I.of (aP)] (I.of (r)):=by
 unfold Aj at h
 refine bw.of Tryz.func127 rfl Tryz.ntmps127 rfl fun W A=>?_
 refine aC (b7 fun a4=>?_)
 refine b7 fun ba=>?_
 refine b7 fun ck=>?_
 refine cC jh fun eW=>?_
 refine bD (aC (aB ?_))
 refine aL (ag.block ?_)
 obtain⟨ay,ao,h⟩:=au h
 refine gE (γ:=Unit) (δ:=Unit) ao [0,1,2,3,4,5,6] (fun s1 av=>[(9,I.of (s1.1))]) (fun s1 av=>[(3,⟨some a4,.var (s1.2:bc)⟩)]) (fun aA=>Exit.exit 0) (fun aA av=>[(9,I.of (aA.1)),(10,I.of (aA.2.1))]) (fun aA av=>[(3,⟨some a4,.var (aA.2.2:bc)⟩)]) () (fun s1 r h av=>?_) fun av=>?_
 ·refine aC (bj ea ?_)
  refine bD (cg h (fun h=>?_) fun h=>?_)
  ·refine cO (ag.seq (ag.block (aC (aB ?_))))
   refine aM ?_
   refine bD ?_
   obtain⟨aZ,cq,h⟩:=au h
   obtain⟨bP,c6,h⟩:=au h
   obtain⟨aD,bo,h⟩:=au h
   refine ag.draw mixed 8 [some 12,some 13,some 14,some 15,some 16,some 17,some 18,some 8] [[],[0],[1],[],[3],[4],[2,5],[]] [.val _,.val _,.val _,.val _,.val _,.val _,.val _,.new (.var (default:an))] [false,false,false,false,false,false,false,false] (by kernel_rfl) rfl rfl rfl (fun cx=>⟨ct,c1 fun ax ar=>eb (k:=aZ) fU (ab rfl) (ab rfl) (bZ cq),dg 2 ((aN.id (Vector an 4)).comp (aN.idx (α:=an) 4 aZ (bZ cq).1)) bG,ct,c1 fun ax ar=>eb (k:=bP) fU (ab rfl) (ab rfl) (bZ c6),dg 1 ((aN.id (Vector an 4)).comp (aN.idx (α:=an) 4 bP (bZ c6).1)) bG,eH oZ (oN bo),sv en,trivial⟩) fun cx=>?_
   refine b8 0 bG ?_
   refine bD ?_
   obtain⟨cT,fe,h⟩:=au h
   obtain⟨eY,hy,h⟩:=au h
   obtain⟨iK,nb,h⟩:=au h
   obtain⟨aK,cb,h⟩:=au h
   obtain⟨bb,dR,h⟩:=au h
   obtain⟨bJ,e2,h⟩:=au h
   obtain⟨jo,nB,h⟩:=au h
   refine ag.draw mixed 17 ((some 19)::(some 20)::(some 21)::(some 22)::(some 23)::(some 24)::(some 25)::(some 26)::(some 27)::(some 28)::(some 29)::(some 30)::(some 31)::(some 32)::(some 33)::(some 34)::(some 35)::[]) ([]::[]::[]::[1,2]::[3]::[]::[5]::[6]::[]::[8]::[9]::[7,10]::[]::[11,12]::[4,13]::[]::[0,15]::[]) (.val _::.val _::.val _::.val _::.val _::.val _::.val _::.val _::.val _::.val _::.val _::.val _::.val _::.val _::.val _::.val _::.val _::[]) (false::false::false::false::false::false::false::false::false::false::false::false::false::false::false::false::false::[]) (by kernel_rfl) rfl rfl rfl (fun hh=>⟨ct,ct,H1 (aU n5),c1 fun ax ar=>eb (k:=cT) fU (ab rfl) (ab rfl) (bZ fe),dg 4 (((aN.id bc).comp mm).comp (aN.idx (α:=an) 4 cT (bZ fe).1)) bG,ct,c1 fun ax ar=>eb (k:=eY) fU (ab rfl) (ab rfl) (bZ hy),dg 3 ((aN.id (Vector an 4)).comp (aN.idx (α:=an) 4 eY (bZ hy).1)) bG,ct,c1 fun ax ar=>eb (k:=iK) fU (ab rfl) (ab rfl) (bZ nb),dg 2 ((aN.id (Vector an 4)).comp (aN.idx (α:=an) 4 iK (bZ nb).1)) bG,eH rH (rm cb),eG 0 bG,eH Fl (Eb dR),eH rH (rm e2),H1 (aU n5),c1 fun ax ar=>eb (k:=jo) fU (ab rfl) (ab rfl) (bZ nB),trivial⟩) fun hh=>?_
   refine nc 4 (((aN.id bc).comp mm).comp (aN.idx (α:=an) 4 jo (bZ nB).1)) bG ?_
   refine aL ?_
   obtain⟨jB,oz,h⟩:=au h
   obtain⟨h7,mG,h⟩:=au h
   obtain⟨bq,gG,h⟩:=au h
   obtain⟨b6,gH,h⟩:=au h
   obtain⟨mR,uX,h⟩:=au h
   refine ag.draw mixed 13 [some 36,some 37,some 38,some 39,some 40,some 41,some 42,some 43,some 44,some 45,some 46,some 47,some 48] [[],[],[],[1,2],[3],[],[5],[6],[],[7,8],[4,9],[],[0,11]] [.val _,.val _,.val _,.val _,.val _,.val _,.val _,.val _,.val _,.val _,.val _,.val _,.val _] [false,false,false,false,false,false,false,false,false,false,false,false,false] (by kernel_rfl) rfl rfl rfl (fun pT=>⟨ct,ct,H1 (aU qc),c1 fun ax ar=>eb (k:=jB) fU (ab rfl) (ab rfl) (bZ oz),dg 4 (((aN.id bc).comp nS).comp (aN.idx (α:=an) 4 jB (bZ oz).1)) bG,ct,c1 fun ax ar=>eb (k:=h7) fU (ab rfl) (ab rfl) (bZ mG),dg 3 ((aN.id (Vector an 4)).comp (aN.idx (α:=an) 4 h7 (bZ mG).1)) bG,eG 0 bG,eH Fl (Eb gG),eH rH (rm gH),H1 (aU qc),c1 fun ax ar=>eb (k:=mR) fU (ab rfl) (ab rfl) (bZ uX),trivial⟩) fun pT=>?_
   obtain⟨bH,dt,h⟩:=au h
   refine wW 4 (((aN.id bc).comp nS).comp (aN.idx (α:=an) 4 mR (bZ uX).1)) bG (hb:=by exact dt) ?_
   refine ai.nil (ae.dB (ae.next (ag.cm (bj dd ?_))))
   refine aB ?_
   refine ai.nil ?_
   obtain rfl:=aH h
   exact fc () 1
  refine ag.exit (ae.exit ?_)
  obtain rfl:=aH h
  exact dY () 0
 refine ae.e1 (ae.next (aC (cr 3 dI ?_)))
 refine b8 0 dI ?_
 refine aL (ag.ret ?_)
 obtain rfl:=aH h
 exact ae.hM rfl (fw 0 dI)
theorem T0 {J:a3} {ah:Int} {r:Int} (h:Aa J ah=some r):bw Tryz.prog 95 [I.of (J),I.of (ah)] (I.of (r)):=by
 unfold Aa at h
 refine bw.of Tryz.func95 rfl Tryz.ntmps95 rfl fun W A=>?_
 refine aC (b7 fun a4=>?_)
 refine aM ?_
 refine bW (cr 0 gv ?_)
 obtain⟨aD,bo,h⟩:=au h
 refine du YL (UJ bo) ?_
 refine bh (Oj (k:=0) Tryz.underlying233 kU (ab rfl) (bU 0) ⟨by decide,rfl⟩) ?_
 refine aB ?_
 obtain⟨aK,cb,h⟩:=au h
 refine du YM (Un cb) ?_
 refine aM ?_
 refine aL (ag.ret ?_)
 obtain rfl:=aH h
 exact cX
theorem S4 {hp:a1 Cell} {J:ka} {ah:Vector an 4} {r:Int×Bool} (h:zz hp J ah=some r):b9 Tryz.prog 193 [I.of (J),I.of (ah)] ([]++a8 hp) (δ:=Unit) (fun _=>I.ep [I.of (r.1),I.of (r.2)]) (fun _=>[]++a8 hp):=by
 unfold zz at h
 refine b9.of Tryz.func193 rfl Tryz.ntmps193 rfl fun W A=>?_
 refine aC (b7 fun a4=>?_)
 refine b7 fun ba=>?_
 refine aM ?_
 refine aM ?_
 refine bW (aY (aU EL) ?_)
 refine cc 1 zR Bu ?_
 refine cr 0 dW ?_
 obtain⟨aD,bo,h⟩:=au h
 refine ai.jC (gJ.kO 2 rfl I6 (Hn bo) ⟨ab rfl,ab rfl,trivial⟩) rfl rfl rfl ?_
 refine eO ?_
 refine eO ?_
 refine aM ?_
 refine aM ?_
 refine aL (ag.ret ?_)
 obtain rfl:=aH h
 exact ae.kN () (.cons _ (.cons _ (.refl _))) rfl rfl (ej rfl) (ej rfl)
theorem UK {J:an} {r:Int} (h:Ee J=some r):bw Tryz.prog 219 [I.of (J)] (I.of (r)):=by
 unfold Ee at h
 refine bw.of Tryz.func219 rfl Tryz.ntmps219 rfl fun W A=>?_
 refine aC (b7 fun a4=>?_)
 refine aM ?_
 refine bD (aC (aY (aU ke) ?_))
 refine cc 0 hK eN ?_
 refine bh (Ok (ab rfl) (fT 0 rfl)) ?_
 refine aL (cg h (fun h=>?_) fun h=>?_)
 ·refine aC (aY (aU ke) ?_)
  refine cc 0 hK eN ?_
  obtain⟨aD,bo,h⟩:=au h
  refine du PO (Mj bo) ?_
  refine bj dd ?_
  refine aM ?_
  refine aL (ag.ret (ae.ret ?_))
  obtain rfl:=aH h
  exact cX
 refine cO (aC (aY (aU im) ?_))
 refine cc 0 ev eN ?_
 obtain⟨aK,cb,h⟩:=au h
 refine du PO (Mj cb) ?_
 refine aM ?_
 refine aL (ag.ret ?_)
 obtain rfl:=aH h
 exact cX
theorem Td {hp:a1 Cell} {J:Ref} {ah:Vector an 4} {r:Bool×(a1 Cell)} (h:DH hp J ah=some r):b9 Tryz.prog 199 [I.of (J),I.of (ah)] ([]++a8 hp) (δ:=Unit) (fun d=>I.of (r.1)) (fun d=>[]++a8 r.2):=by
 unfold DH at h
 refine b9.of Tryz.func199 rfl Tryz.ntmps199 rfl fun W A=>?_
 refine aC (b7 fun a4=>?_)
 refine aM ?_
 refine bD (aC (aB ?_))
 refine cr 0 dW ?_
 obtain⟨aD,bo,h⟩:=au h
 refine ai.jC (gJ.kO 1 rfl I6 (Hn bo) ⟨ab rfl,ab rfl,trivial⟩) rfl rfl rfl ?_
 refine aB ?_
 refine eO ?_
 refine eO ?_
 refine aM ?_
 refine aM ?_
 refine bW (aB ?_)
 refine aY hL ?_
 refine aL (cg h (fun h=>?_) fun h=>?_)
 ·refine aC (aM ?_)
  refine aL (ag.ret (ae.ret ?_))
  obtain rfl:=aH h
  exact ae.gr () (.cons _ (.refl _)) rfl rfl (ej rfl)
 refine cO (ag.seq ?_)
 obtain⟨cG,dF,h⟩:=au h
 obtain⟨bY,ed,h⟩:=au h
 refine ag.draw mixed 5 [some 15,some 16,some 17,some 18,some 19] [[],[0],[1],[2],[]] [.val _,.val _,.val _,.val _,.val _] [false,false,false,false,false] (by kernel_rfl) rfl rfl rfl (fun cx=>⟨ct,c1 fun ax ar=>dV (eL (ab rfl) dF),H1 (aU EJ),c1 fun ax ar=>gd ((aN.id ns).comp zG) (r:=bY.oX) Bt (ab rfl) (kB (fun i e q=>ar i e q rfl) (fk (n:=1) rfl (ur ed) rfl)) rfl rfl,eG 0 dW,trivial⟩) fun cx=>?_
 obtain⟨cv,fx,h⟩:=au h
 obtain⟨cN,fI,h⟩:=au h
 obtain⟨de,kT,h⟩:=au h
 refine ai.I9 (k':=Cell.ot (ir cN ah)) 1 rfl Tryz.underlying186 Fj (mV (ab rfl) fx) (ab rfl) (rD fI) rfl rfl rfl (aH kT) (bW (aM ?_))
 refine aL (ag.ret ?_)
 obtain rfl:=aH h
 exact ae.gr () (.cons _ (.refl _)) rfl rfl (ej rfl)
theorem Mk {hp:a1 Cell} {J:Ref} {r:Bool} (h:xJ hp J=some r):b9 Tryz.prog 217 [I.of (J)] ([]++a8 hp) (δ:=Unit) (fun _=>I.of (r)) (fun _=>[]++a8 hp):=by
 unfold xJ at h
 refine b9.of Tryz.func217 rfl Tryz.ntmps217 rfl fun W A=>?_
 refine aC (aM ?_)
 refine bW (aB ?_)
 obtain⟨cG,dF,h⟩:=au h
 refine bh (dV (eL (ab rfl) dF)) ?_
 refine aY (aU rv) ?_
 obtain⟨bY,ed,h⟩:=au h
 refine bh (gd ((aN.id dM).comp ri) (r:=bY.dP) gF (ab rfl) (fk (n:=0) rfl (ju ed) rfl) rfl rfl) ?_
 refine aY hL ?_
 refine aB ?_
 refine dE cV ?_
 obtain⟨cv,fx,h⟩:=au h
 refine eI (fun hb=>dV (eL (cJ rfl hb) (gN fx hb))) ?_
 refine dE (aU ry) ?_
 obtain⟨cN,fI,h⟩:=au h
 refine eI (fun hb=>gd ((aN.id dM).comp rf) (r:=cN.c8) PQ (cJ rfl hb) (fk (n:=0) rfl (ju (gN fI hb)) rfl) rfl rfl) ?_
 refine eI (fun hb=>NC (b:=(default:Vector Ref 2)) (sz:=1) rfl Tryz.underlying301 (by kernel_rfl) YN (.nil)) ?_
 refine eI (fun hb=>Wo Tryz.underlying301 ek Tryz.underlying299 XP (cJ rfl hb) (cJ rfl hb) YO) ?_
 refine iG ?_
 refine aM ?_
 refine aL (ag.ret ?_)
 obtain rfl:=aH h
 exact ae.gr () (.refl _) rfl rfl (ej rfl)
theorem SQ {hp:a1 Cell} {J:Ref} {ah:an} {aP:Int} {b5:List dy} {o5:Nat} {Ig:Option Nat} {Ih:Nat} {r:(List dy)} (h:DB hp J ah aP b5=some r):b9 Tryz.prog 222 [I.of (J),I.of (ah),I.of (aP),I.eq (.pointer (some ⟨o5,0,none⟩))] ([⟨some o5,.cj ([]:List dy) [(0,aS Ig b5.length Ih)]⟩,⟨Ig,.row 315 (b5:List dy) Ih⟩]++a8 hp) (δ:=(Option Nat×Nat)) (fun d=>I.ep []) (fun d=>[⟨some o5,.cj ([]:List dy) [(0,aS d.1 (r).length d.2)]⟩,⟨d.1,.row 315 (r:List dy) d.2⟩]++a8 hp):=by
 unfold DB at h
 refine b9.of Tryz.func222 rfl Tryz.ntmps222 rfl fun W A=>?_
 refine aC (b7 fun a4=>?_)
 refine bW (aB ?_)
 obtain⟨cG,dF,h⟩:=au h
 refine bh (dV (eL (ab rfl) dF)) ?_
 refine aY (aU rv) ?_
 obtain⟨bY,ed,h⟩:=au h
 refine bh (gd ((aN.id dM).comp ri) (r:=bY.dP) gF (ab rfl) (fk (n:=3) rfl (ju ed) rfl) rfl rfl) ?_
 refine aL ?_
 obtain⟨bx,cy,h⟩:=au h
 refine ag.c0 (γ:=(Option Nat×Nat)) (fun av=>[(0,I.of (J)),(1,I.of (ah)),(2,I.of (aP)),(3,I.eq (.pointer (some ⟨o5,0,none⟩))),(5,I.eq (.pointer (some ⟨a4,0,none⟩))),(10,I.of (bY.dP))]) (fun av=>(⟨some a4,.var (ah:an)⟩::⟨some o5,.cj ([]:List dy) [(0,aS av.1 bx.length av.2)]⟩::⟨av.1,.row 315 (bx:List dy) av.2⟩::a8 hp)) (ab rfl) (fun av=>?_) (fun hm al=>?_) (fun hm al=>?_)
 ·refine ae.ou (ae.bI 2 rfl (ae.bI 2 rfl ?_))
  obtain rfl:=aH h
  exact ae.lD (av.1,av.2) (.cons_cons _ (.cons_cons _ (.cons _ (.refl _)))) rfl rfl
 ·have h:=gQ al cy
  refine ag.draw mixed 9 [some 11,some 12,some 13,some 14,some 15,some 16,some 17,some 18,some 19] [[],[],[],[],[3],[4],[5],[1,2,6],[7]] [.val _,.val _,.val _,.val _,.val _,.val _,.val _,.val _,.val _] [false,false,false,false,false,false,false,false,false] (by kernel_rfl) rfl rfl rfl (fun cx=>⟨c1 fun ax ar=>ho (i:=1) (q:=0) (β:=List dy) (γ:=dy) Ja (ab rfl) (ar _ _ rfl rfl) rfl,eG 0 bG,ct,ct,c1 fun ax ar=>dV (eL (ab rfl) dF),H1 (aU A6),c1 fun ax ar=>gd ((aN.id dM).comp z4) (r:=bY.hO) bE (ab rfl) (kB (fun i e q=>ar i e q rfl) (fk (n:=3) rfl (ju ed) rfl)) rfl rfl,c1 fun ax ar=>c9 (b:= { bS:=ah,vK:=aP,b0:=bY.hO:dy }) rfl YP Jb (.cons SR rfl (ab rfl) rfl (.cons SM rfl (ab rfl) rfl (.cons Tq rfl (ab rfl) rfl (.nil)))),c1 fun ax ar=>jv (r:= [{ bS:=ah,vK:=aP,b0:=bY.hO:dy }]) Tryz.underlying310 PR Jb rfl rfl (.cons (by simp) (ab rfl) (.nil)),trivial⟩) fun cx=>?_
  obtain⟨aD,bo,h⟩:=au h
  refine jI 2 Tryz.underlying310 PR Jb bo fun gD fC=>?_
  refine ai.iP (i:=1) (γ:=dy) (b':=([]:List dy)) (os':= [(0,aS gD aD.length fC)]) (aN.id (List dy)) Ja (ab rfl) (ab rfl) h9 rfl rfl rfl rfl (ai.nil ?_)
  obtain rfl:=aH h
  exact dq 0 (hm (gD,fC))
 have h:=gR al cy
 refine ag.skip ?_
 obtain rfl:=aH h
 exact dq 0 (hm (Ig,Ih))
theorem Sz (n:Nat):∀ (hp:a1 Cell) (J:Ref) (ah:Ref) (aP:an) (b5:Int) (iL:List dy) (o6:Nat) (sA:Option Nat) (sB:Nat) (r:(List dy)),vi n hp J ah aP b5 iL=some r→b9 Tryz.prog 223 [I.of (J),I.of (ah),I.of (aP),I.of (b5),I.of (⟨222,some [.pointer (some ⟨o6,0,none⟩)]⟩:Raw)] ([⟨some o6,.cj ([]:List dy) [(0,aS sA iL.length sB)]⟩,⟨sA,.row 315 (iL:List dy) sB⟩]++a8 hp) (δ:=(Option Nat×Nat)) (fun d=>I.ep []) (fun d=>[⟨some o6,.cj ([]:List dy) [(0,aS d.1 (r).length d.2)]⟩,⟨d.1,.row 315 (r:List dy) d.2⟩]++a8 hp):=by
 induction n with
 | zero=>intro hp J ah aP b5 iL o6 sA sB r h; simp [vi] at h
 | succ n bR=>
   intro hp J ah aP b5 iL o6 sA sB r h
   simp only [vi] at h
   refine b9.of Tryz.func223 rfl Tryz.ntmps223 rfl fun W A=>?_
   refine aC (b7 fun a4=>?_)
   refine bD (aC (aB ?_))
   refine bh (oR Tryz.underlying299 (ab rfl)) ?_
   refine aL (cg h (fun h=>?_) fun h=>?_)
   ·refine ag.ret (ae.ret (ae.bI 2 rfl (ae.bI 2 rfl ?_)))
    obtain rfl:=aH h
    exact ae.lD (sA,sB) (.cons_cons _ (.cons_cons _ (.cons _ (.refl _)))) rfl rfl
   refine cO (aC (aB ?_))
   refine aB ?_
   refine cr 0 bG ?_
   refine aB ?_
   refine ai.bI 2 rfl (ai.bI 2 rfl ?_)
   obtain⟨aD,bo,h⟩:=au h
   refine ai.sa (gn.JN (τs:= [I.of (ah:Ref),I.of (aP:an),I.of (b5:Int)]) 3 2 rfl YQ (HT (ab rfl)) (SQ bo) rfl rfl ⟨ab rfl,ab rfl,ab rfl,trivial⟩) rfl rfl rfl fun aA=>?_
   refine ai.ez (L2:=(⟨some o6,.cj ([]:List dy) [(0,aS aA.1 aD.length aA.2)]⟩::⟨aA.1,.row 315 (aD:List dy) aA.2⟩::⟨some a4,.var (aP:an)⟩::a8 hp)) rfl (bD ?_)
   obtain⟨cG,dF,h⟩:=au h
   obtain⟨bY,ed,h⟩:=au h
   refine ag.draw mixed 10 [some 17,some 18,some 19,some 20,some 21,some 22,some 23,some 24,some 25,some 26] [[],[],[1],[2],[3],[4],[],[],[7],[]] [.val _,.val _,.val _,.val _,.val _,.val _,.val _,.val _,.val _,.val _] [false,false,false,false,false,false,false,false,false,false] (by kernel_rfl) rfl rfl rfl (fun cx=>⟨ct,ct,c1 fun ax ar=>dV (eL (ab rfl) dF),H1 (aU ry),c1 fun ax ar=>eb (k:=0) sQ (ab rfl) (bU 0) ⟨by decide,rfl⟩,c1 fun ax ar=>gd (((aN.id dM).comp rf).comp (aN.idx (α:=Ref) 2 0 (⟨by decide,rfl⟩:0<2∧ (0:Int)=0).1)) (r:=br bY.c8 0) ek (ab rfl) (kB (fun i e q=>ar i e q rfl) (fk (n:=3) rfl (ju ed) rfl)) rfl rfl,eG 2 bG,ct,jc dd,ct,trivial⟩) fun cx=>?_
   obtain⟨aK,cb,h⟩:=au h
   refine ai.sa (gn.m1 3 2 rfl Jc (bR _ _ _ _ _ _ _ _ _ _ cb) rfl rfl ⟨ab rfl,ab rfl,ab rfl,ab rfl,ab rfl,trivial⟩) rfl rfl rfl fun cU=>?_
   refine ai.ez (L2:=(⟨some o6,.cj ([]:List dy) [(0,aS cU.1 aK.length cU.2)]⟩::⟨cU.1,.row 315 (aK:List dy) cU.2⟩::⟨some a4,.var (aP:an)⟩::a8 hp)) rfl (aL ?_)
   obtain⟨bb,dR,h⟩:=au h
   obtain⟨cv,fx,h⟩:=au h
   obtain⟨cN,fI,h⟩:=au h
   obtain⟨bJ,e2,h⟩:=au h
   obtain⟨bq,gG,h⟩:=au h
   refine ag.draw mixed 20 ((some 28)::(some 29)::(some 30)::(some 31)::(some 32)::(some 33)::(some 34)::(some 35)::(some 36)::(some 37)::(some 38)::(some 39)::(some 40)::(some 41)::(some 42)::(some 43)::(some 44)::(some 45)::(some 46)::(some 47)::[]) ([]::[]::[1]::[2]::[3]::[4]::[]::[]::[]::[8]::[9]::[10]::[11]::[]::[12,13]::[7,14]::[6,15]::[]::[17]::[]::[]) (.val _::.val _::.val _::.val _::.val _::.val _::.val _::.val _::.val _::.val _::.val _::.val _::.val _::.val _::.val _::.val _::.val _::.val _::.val _::.val _::[]) (false::false::false::false::false::false::false::false::false::false::false::false::false::false::false::false::false::false::false::false::[]) (by kernel_rfl) rfl rfl rfl (fun hh=>⟨ct,ct,c1 fun ax ar=>dV (eL (ab rfl) dF),H1 (aU ry),c1 fun ax ar=>eb (k:=1) sQ (ab rfl) (bU 1) ⟨by decide,rfl⟩,c1 fun ax ar=>gd (((aN.id dM).comp rf).comp (aN.idx (α:=Ref) 2 1 (⟨by decide,rfl⟩:1<2∧ (1:Int)=1).1)) (r:=br bY.c8 1) ek (ab rfl) (kB (fun i e q=>ar i e q rfl) (fk (n:=3) rfl (ju ed) rfl)) rfl rfl,eG 2 bG,c1 fun ax ar=>hZ PS (MX dR) ⟨fT 1 rfl,trivial⟩,ct,c1 fun ax ar=>dV (eL (ab rfl) fx),H1 (aU vO),c1 fun ax ar=>gd ((aN.id fK).comp tN) (r:=cN.fL) bE (ab rfl) (kB (fun i e q=>ar i e q rfl) (fk (n:=3) rfl (mv fI) rfl)) rfl rfl,jc kg,ct,jc kg,eH PT (MF e2),eH rH (rm gG),ct,jc dd,ct,trivial⟩) fun hh=>?_
   obtain⟨b6,gH,h⟩:=au h
   refine ai.sa (gn.m1 3 2 rfl Jc (bR _ _ _ _ _ _ _ _ _ _ gH) rfl rfl ⟨ab rfl,ab rfl,ab rfl,ab rfl,ab rfl,trivial⟩) rfl rfl rfl fun et=>?_
   refine ai.ez (L2:=(⟨some o6,.cj ([]:List dy) [(0,aS et.1 b6.length et.2)]⟩::⟨et.1,.row 315 (b6:List dy) et.2⟩::⟨some a4,.var (aP:an)⟩::a8 hp)) rfl (ai.nil (ae.ou (ae.bI 1 rfl (ae.bI 1 rfl ?_))))
   obtain rfl:=aH h
   exact ae.lD (et.1,et.2) (.cons_cons _ (.cons_cons _ (.cons _ (.refl _)))) rfl rfl
theorem SE {hp:a1 Cell} {J:Ref} {ah:Ref} {aP:an} {b5:Int} {iL:List dy} {o6:Nat} {sA:Option Nat} {sB:Nat} {r:(List dy)} (h:GZ hp J ah aP b5 iL=some r):b9 Tryz.prog 223 [I.of (J),I.of (ah),I.of (aP),I.of (b5),I.of (⟨222,some [.pointer (some ⟨o6,0,none⟩)]⟩:Raw)] ([⟨some o6,.cj ([]:List dy) [(0,aS sA iL.length sB)]⟩,⟨sA,.row 315 (iL:List dy) sB⟩]++a8 hp) (δ:=(Option Nat×Nat)) (fun d=>I.ep []) (fun d=>[⟨some o6,.cj ([]:List dy) [(0,aS d.1 (r).length d.2)]⟩,⟨d.1,.row 315 (r:List dy) d.2⟩]++a8 hp):=Sz ec hp J ah aP b5 iL o6 sA sB r h
theorem SN {J:cL} {ah:Int} {cu:Nat} {iE:Option Nat} {iF:Nat} {r:Int} (h:DA J ah=some r):b9 Tryz.prog 237 [I.eq (.pointer (some ⟨cu,0,none⟩)),I.of (ah)] [⟨some cu,.cj (({ J with ch:= [] } :cL):cL) [(10,aS iE J.ch.length iF)]⟩,⟨iE,.row 56 (J.ch:List aJ) iF⟩] (δ:=Unit) (fun d=>I.of (r)) (fun d=>[⟨some cu,.cj (({ J with ch:= [] } :cL):cL) [(10,aS iE (J.ch).length iF)]⟩,⟨iE,.row 56 (J.ch:List aJ) iF⟩]):=by
 unfold DA at h
 refine b9.of Tryz.func237 rfl Tryz.ntmps237 rfl fun W A=>?_
 refine aC (b7 fun a4=>?_)
 refine aM ?_
 refine bD (aC (aB ?_))
 refine bh (E9 Tryz.underlying131 (ab rfl)) ?_
 refine aL (ag.rG (ab rfl) rfl (cO (aC (aB ?_))))
 refine aY dV ?_
 refine aY (aU sy) ?_
 refine bh (ho (i:=1) (q:=0) (β:=cL) (γ:=aJ) qq (ab rfl) rfl rfl) ?_
 refine ai.share (α:=Int) 0 3 rfl rfl (bh (vW (F:=(fun fJ=>vk fJ ah)) (τs:= [I.ptr ah]) PI ⟨ab rfl,trivial⟩ (fun _ _ h=>L1 h)) ?_)
 obtain⟨aD,bo,h⟩:=au h
 refine bh (cf.QY (α:=aJ) 2 10 rfl rfl ud (hZ JI (GX bo) ⟨ab rfl,ab rfl,trivial⟩)) ?_
 refine aM ?_
 refine aL (ag.ret (ae.bI 2 rfl (ae.bI 2 rfl ?_)))
 obtain rfl:=aH h
 exact kW ()
theorem Uw {J:a3} {ah:Int} {r:Int} (h:D7 J ah=some r):bw Tryz.prog 62 [I.of (J),I.of (ah)] (I.of (r)):=by
 unfold D7 at h
 refine bw.of Tryz.func62 rfl Tryz.ntmps62 rfl fun W A=>?_
 refine aC (b7 fun a4=>?_)
 refine aM ?_
 refine bD ?_
 obtain⟨aD,bo,h⟩:=au h
 obtain⟨aZ,cq,h⟩:=au h
 refine ag.draw mixed 8 [some 5,some 6,some 7,some 8,some 9,some 10,some 11,some 12] [[],[0],[],[],[2,3],[1,4],[5],[6]] [.val _,.val _,.val _,.val _,.val _,.val _,.val _,.val _] [false,false,false,false,false,false,false,false] (by kernel_rfl) rfl rfl rfl (fun cx=>⟨H1 (aU uo),dg 0 tM sZ,eG 0 gv,ct,eH aaX (T0 bo),kX cq Tryz.underlying23 oY,oy nT A5,H1 (da bE),trivial⟩) fun cx=>?_
 refine aM ?_
 refine aL (ag.ret ?_)
 obtain rfl:=aH h
 exact cX
theorem Ux {J:an} {ah:Int} {r:Bool} (h:Au J ah=some r):bw Tryz.prog 213 [I.of (J),I.of (ah)] (I.of (r)):=by
 unfold Au at h
 refine bw.of Tryz.func213 rfl Tryz.ntmps213 rfl fun W A=>?_
 refine aC (b7 fun a4=>?_)
 refine aM ?_
 refine bW (cr 0 bG ?_)
 obtain⟨aD,bo,h⟩:=au h
 refine du YR (UK bo) ?_
 refine aB ?_
 refine bj sO ?_
 refine aM ?_
 refine aL (ag.ret ?_)
 obtain rfl:=aH h
 exact cX
theorem Ui {J:a3} {ah:cR} {r:Int} (h:vt J ah=some r):bw Tryz.prog 248 [I.of (J),I.of (ah)] (I.of (r)):=by
 unfold vt at h
 refine bw.of Tryz.func248 rfl Tryz.ntmps248 rfl fun W A=>?_
 refine aC (b7 fun a4=>?_)
 refine b7 fun ba=>?_
 refine aM ?_
 refine bW (cr 1 gv ?_)
 refine aY (aU Be) ?_
 refine cc 0 nU bE ?_
 obtain⟨aD,bo,h⟩:=au h
 refine du JO (Hq bo) ?_
 refine aM ?_
 refine bD (aC (aB ?_))
 refine bj ea ?_
 refine aL (cg h (fun h=>?_) fun h=>?_)
 ·refine aC (aM ?_)
  refine aL (ag.ret (ae.ret ?_))
  obtain rfl:=aH h
  exact cX
 refine cO (aC (aY (aU uo) ?_))
 refine cc 1 tM sZ ?_
 refine aB ?_
 obtain⟨aZ,cq,h⟩:=au h
 refine g5 cq Tryz.underlying23 oY ?_
 refine Cl nT A5 ?_
 refine aY (da bE) ?_
 refine aM ?_
 refine aL (ag.ret ?_)
 obtain rfl:=aH h
 exact cX
theorem S5 {hp:a1 Cell} {J:ka} {ah:aJ} {r:(a1 Cell)} (h:zA hp J ah=some r):b9 Tryz.prog 195 [I.of (J),I.of (ah)] ([]++a8 hp) (δ:=Unit) (fun d=>I.ep []) (fun d=>[]++a8 r):=by
 unfold zA at h
 refine b9.of Tryz.func195 rfl Tryz.ntmps195 rfl fun W A=>?_
 refine aC (b7 fun a4=>?_)
 refine b7 fun ba=>?_
 refine aL ?_
 obtain⟨aD,bo,h⟩:=au h
 refine ag.draw mixed 5 [some 4,some 5,some 6,some 7,some 8] [[],[0],[],[2],[3]] [.val _,.val _,.val _,.val _,.val _] [false,false,false,false,false] (by kernel_rfl) rfl rfl rfl (fun cx=>⟨H1 (aU EL),dg 1 zR Bu,H1 (aU la),dg 0 j9 hN,eH Fk (D5 bo),trivial⟩) fun cx=>?_
 obtain⟨aK,cb,h⟩:=au h
 refine ai.m1 2 0 rfl YS (Td cb) rfl rfl ⟨ab rfl,ab rfl,trivial⟩ rfl fun aA=>?_
 refine ai.ez (L2:=(⟨some ba,.var (ah:aJ)⟩::⟨some a4,.var (J:ka)⟩::a8 aK.2)) rfl (ai.nil (ae.ou ?_))
 obtain rfl:=aH h
 exact ae.lD () (.cons _ (.cons _ (.refl _))) rfl rfl
theorem SA {hp:a1 Cell} {J:Ref} {aP:List dy} {oA:Nat} {key02_0:Option Nat} {cap02_0:Nat} {r:(List dy)} (h:Dv hp J aP=some r):b9 Tryz.prog 221 [I.of (J),I.of (⟨222,some [.pointer (some ⟨oA,0,none⟩)]⟩:Raw)] ([⟨some oA,.cj ([]:List dy) [(0,aS key02_0 aP.length cap02_0)]⟩,⟨key02_0,.row 315 (aP:List dy) cap02_0⟩]++a8 hp) (δ:=(Option Nat×Nat)) (fun d=>I.ep []) (fun d=>[⟨some oA,.cj ([]:List dy) [(0,aS d.1 (r).length d.2)]⟩,⟨d.1,.row 315 (r:List dy) d.2⟩]++a8 hp):=by
 unfold Dv at h
 refine b9.of Tryz.func221 rfl Tryz.ntmps221 rfl fun W A=>?_
 refine aC (aB ?_)
 refine bh (Ep Tryz.underlying289 (ab rfl)) ?_
 refine aL ?_
 obtain⟨bx,cy,h⟩:=au h
 refine ag.c0 (γ:=(Option Nat×Nat)) (fun av=>[(0,I.of (J)),(1,I.of (⟨222,some [.pointer (some ⟨oA,0,none⟩)]⟩:Raw)),(5,I.of (J.isSome))]) (fun av=>(⟨some oA,.cj ([]:List dy) [(0,aS av.1 bx.length av.2)]⟩::⟨av.1,.row 315 (bx:List dy) av.2⟩::a8 hp)) (ab rfl) (fun av=>?_) (fun hm al=>?_) (fun hm al=>?_)
 ·refine ae.ou (ae.bI 1 rfl (ae.bI 1 rfl ?_))
  obtain rfl:=aH h
  exact ae.lD (av.1,av.2) (.cons_cons _ (.cons_cons _ (.refl _))) rfl rfl
 ·have h:=gQ al cy
  refine ag.cm (aB ?_)
  refine aB ?_
  obtain⟨cG,dF,h⟩:=au h
  refine bh (dV (eL (ab rfl) dF)) ?_
  refine aY (aU sC) ?_
  obtain⟨bY,ed,h⟩:=au h
  refine bh (gd ((aN.id fK).comp sg) (r:=bY.cQ) ek (ab rfl) (fk (n:=2) rfl (mv ed) rfl) rfl rfl) ?_
  refine hg hr en (default:an) .nil ?_
  refine aB ?_
  obtain⟨aD,bo,h⟩:=au h
  refine ai.sa (gn.m1 2 2 rfl Jc (SE bo) rfl rfl ⟨ab rfl,ab rfl,ab rfl,bU 0,ab rfl,trivial⟩) rfl rfl rfl fun aA=>?_
  refine ai.ez (L2:=(⟨some oA,.cj ([]:List dy) [(0,aS aA.1 aD.length aA.2)]⟩::⟨aA.1,.row 315 (aD:List dy) aA.2⟩::a8 hp)) rfl (ai.nil ?_)
  obtain rfl:=aH h
  exact dq 0 (hm (aA.1,aA.2))
 have h:=gR al cy
 refine ag.skip ?_
 obtain rfl:=aH h
 exact dq 0 (hm (key02_0,cap02_0))
theorem SF {J:cL} {ah:Int} {cu:Nat} {iE:Option Nat} {iF:Nat} {r:Bool×cL} (h:zq J ah=some r):b9 Tryz.prog 233 [I.eq (.pointer (some ⟨cu,0,none⟩)),I.of (ah)] [⟨some cu,.cj (({ J with ch:= [] } :cL):cL) [(10,aS iE J.ch.length iF)]⟩,⟨iE,.row 56 (J.ch:List aJ) iF⟩] (δ:=(Option Nat×Nat)) (fun d=>I.of (r.1)) (fun d=>[⟨some cu,.cj (({ r.2 with ch:= [] } :cL):cL) [(10,aS d.1 (r.2.ch).length d.2)]⟩,⟨d.1,.row 56 (r.2.ch:List aJ) d.2⟩]):=by
 unfold zq at h
 refine b9.of Tryz.func233 rfl Tryz.ntmps233 rfl fun W A=>?_
 refine aC (aM ?_)
 refine bW (aB ?_)
 refine aB ?_
 obtain⟨aD,bo,h⟩:=au h
 refine ai.jC (gJ.call [0,1] PU (SN bo) ⟨ab rfl,ab rfl,trivial⟩ rfl ⟨rfl,rfl,trivial⟩ rfl) rfl rfl rfl ?_
 refine aM ?_
 refine bD (aC (aB ?_))
 refine bj ea ?_
 refine aL (cg h (fun h=>?_) fun h=>?_)
 ·refine aC (aM ?_)
  refine aL (ag.ret (ae.ret (ae.bI 1 rfl (ae.bI 1 rfl ?_))))
  obtain rfl:=aH h
  exact kW (iE,iF)
 refine cO (aC (aB ?_))
 refine aB ?_
 refine aY dV ?_
 refine aY (aU sy) ?_
 refine bh (ho (i:=0) (q:=0) (β:=cL) (γ:=aJ) qq (ab rfl) rfl rfl) ?_
 refine aB ?_
 refine aB ?_
 refine bj dd ?_
 refine ai.bI 1 rfl ?_
 obtain⟨aK,cb,h⟩:=au h
 refine ff 1 YT (Ss cb) fun aA=>?_
 refine aY dV ?_
 refine aY (aU sy) ?_
 refine ai.iP (i:=1) (γ:=aJ) (b':=(({ J with ch:= [] } :cL):cL)) (os':= [(10,aS aA.1 aK.length aA.2)]) ((aN.id cL).comp xC) qq (ab rfl) (ab rfl) h9 rfl rfl rfl rfl (bW (aM ?_))
 refine aL (ag.ret (ae.bI 0 rfl (ae.bI 1 rfl ?_)))
 obtain rfl:=aH h
 exact kW (aA.1,aA.2)
theorem MY {J:bc} {ah:Int} {aP:Bool} {r:bc} (h:vD J ah aP=some r):bw Tryz.prog 129 [I.of (J),I.of (ah),I.of (aP)] (I.of (r)):=by
 unfold vD at h
 refine bw.of Tryz.func129 rfl Tryz.ntmps129 rfl fun W A=>?_
 refine aC (b7 fun a4=>?_)
 refine cC jh fun ba=>?_
 refine bD (aC (aB ?_))
 refine bj ea ?_
 refine aB ?_
 refine dE cV ?_
 refine jw kf ?_
 refine rV ?_
 refine aB ?_
 refine dE (aU n5) ?_
 refine eI (fun hb=>fa (i:=1) ((aN.id bc).comp mm) (r:=J.b3) dW (cJ rfl hb) rfl rfl rfl) ?_
 refine dE cV ?_
 obtain⟨aD,bo,h⟩:=au h
 refine eI (fun hb=>hZ YU (U8 (gN bo hb)) ⟨cJ rfl hb,cJ rfl hb,trivial⟩) ?_
 refine rV ?_
 refine aL (cg h (fun h=>?_) fun h=>?_)
 ·refine aC (cr 1 dI ?_)
  refine b8 0 dI ?_
  refine aL (ag.ret (ae.ret ?_))
  obtain rfl:=aH h
  exact ae.hM rfl (fw 0 dI)
 refine cO (aC (aB ?_))
 obtain⟨aK,cb,h⟩:=au h
 refine du PM (ME cb) ?_
 refine aB ?_
 refine eO ?_
 refine eO ?_
 refine aM ?_
 refine aM ?_
 refine bW ?_
 obtain⟨bb,dR,h⟩:=au h
 refine bh (hZ PS (MX dR) ⟨fT 1 rfl,trivial⟩) ?_
 refine aB ?_
 obtain⟨bJ,e2,h⟩:=au h
 refine du PT (MF e2) ?_
 refine cC en fun ck=>?_
 refine b8 0 bG ?_
 refine bD ?_
 obtain⟨aZ,cq,h⟩:=au h
 obtain⟨bq,gG,h⟩:=au h
 obtain⟨bP,c6,h⟩:=au h
 refine ag.draw mixed 9 [some 31,some 32,some 33,some 34,some 35,some 36,some 37,some 38,some 39] [[],[],[],[1,2],[3],[],[4,5],[],[0,7]] [.val _,.val _,.val _,.val _,.val _,.val _,.val _,.val _,.val _] [false,false,false,false,false,false,false,false,false] (by kernel_rfl) rfl rfl rfl (fun cx=>⟨ct,ct,H1 (aU n5),c1 fun ax ar=>eb (k:=aZ) fU (ab rfl) (ab rfl) (bZ cq),dg 2 (((aN.id bc).comp mm).comp (aN.idx (α:=an) 4 aZ (bZ cq).1)) bG,eG 0 bG,eH rH (rm gG),H1 (aU n5),c1 fun ax ar=>eb (k:=bP) fU (ab rfl) (ab rfl) (bZ c6),trivial⟩) fun cx=>?_
 refine nc 2 (((aN.id bc).comp mm).comp (aN.idx (α:=an) 4 bP (bZ c6).1)) bG ?_
 refine bD (aC (aB ?_))
 refine aL ?_
 obtain⟨bx,cy,h⟩:=au h
 refine jj (γ:=Unit) [0,1,2,3,6,7,8,9,21,40] (fun av=>[]) (fun av=>[(2,⟨some a4,.var (bx:bc)⟩)]) (fun av=>?_) (fun hm al=>?_) fun hm al=>?_
 ·refine ae.next (aC (cr 2 dI ?_))
  refine b8 1 dI ?_
  refine aL (ag.ret ?_)
  obtain rfl:=aH h
  exact ae.hM rfl (fw 1 dI)
 ·have h:=gQ al cy
  obtain⟨cT,fe,h⟩:=au h
  obtain⟨b6,gH,h⟩:=au h
  obtain⟨eY,hy,h⟩:=au h
  refine ag.draw mixed 9 [some 41,some 42,some 43,some 44,some 45,some 46,some 47,some 48,some 49] [[],[],[],[1,2],[3],[],[4,5],[],[0,7]] [.val _,.val _,.val _,.val _,.val _,.val _,.val _,.val _,.val _] [false,false,false,false,false,false,false,false,false] (by kernel_rfl) rfl rfl rfl (fun hh=>⟨ct,ct,H1 (aU qc),c1 fun ax ar=>eb (k:=cT) fU (ab rfl) (ab rfl) (bZ fe),dg 2 (((aN.id bc).comp nS).comp (aN.idx (α:=an) 4 cT (bZ fe).1)) bG,eG 0 bG,eH rH (rm gH),H1 (aU qc),c1 fun ax ar=>eb (k:=eY) fU (ab rfl) (ab rfl) (bZ hy),trivial⟩) fun hh=>?_
  obtain⟨bH,dt,h⟩:=au h
  refine wW 2 (((aN.id bc).comp nS).comp (aN.idx (α:=an) 4 eY (bZ hy).1)) bG (hb:=by exact dt) ?_
  refine ai.nil ?_
  obtain rfl:=aH h
  exact dq 0 (hm ())
 have h:=gR al cy
 refine ag.skip ?_
 obtain rfl:=aH h
 exact dq 0 (hm ())
theorem T1 {J:a3} {ah:bX} {aP:Int} {r:Int} (h:Ab J ah aP=some r):bw Tryz.prog 20 [I.of (J),I.of (ah),I.of (aP)] (I.of (r)):=by
 unfold Ab at h
 refine bw.of Tryz.func20 rfl Tryz.ntmps20 rfl fun W A=>?_
 refine aC (b7 fun a4=>?_)
 refine b7 fun ba=>?_
 refine aM ?_
 refine bD ?_
 obtain⟨aZ,cq,h⟩:=au h
 obtain⟨aD,bo,h⟩:=au h
 refine ag.draw mixed 8 [some 7,some 8,some 9,some 10,some 11,some 12,some 13,some 14] [[],[],[1],[],[2,3],[4],[5],[0,6]] [.val _,.val _,.val _,.val _,.val _,.val _,.val _,.val _] [false,false,false,false,false,false,false,false] (by kernel_rfl) rfl rfl rfl (fun cx=>⟨eG 1 gv,H1 (aU k8),dg 0 jZ kQ,ct,kX cq Tryz.underlying40 iZ,oy nU Be,H1 (da bE),eH aaY (Uw bo),trivial⟩) fun cx=>?_
 refine aM ?_
 refine aL (ag.ret ?_)
 obtain rfl:=aH h
 exact cX
theorem D3 {J:an} {ah:an} {r:Int} (h:sm J ah=some r):bw Tryz.prog 133 [I.of (J),I.of (ah)] (I.of (r)):=by
 unfold sm at h
 refine bw.of Tryz.func133 rfl Tryz.ntmps133 rfl fun W A=>?_
 refine aC (b7 fun a4=>?_)
 refine b7 fun ba=>?_
 refine aM ?_
 refine bD ?_
 obtain⟨aD,bo,h⟩:=au h
 obtain⟨aK,cb,h⟩:=au h
 refine ag.draw mixed 6 [some 8,some 9,some 10,some 11,some 5,some 6] [[],[0],[],[2],[],[]] [.val _,.val _,.val _,.val _,.new (.var (default:Vector Bool 128)),.new (.var (default:Vector Bool 128))] [false,false,false,false,false,false] (by kernel_rfl) rfl rfl rfl (fun cx=>⟨eG 1 bG,eH PV (MG bo),eG 0 bG,eH PV (MG cb),sv Fo,sv Fo,trivial⟩) fun cx=>?_
 refine b8 0 Bz ?_
 refine b8 1 Bz ?_
 refine bD (aC (aM ?_))
 refine aL (ag.block ?_)
 obtain⟨ay,ao,h⟩:=au h
 refine gE (γ:=Unit) (δ:=Unit) ao [0,1,2,3,5,6] (fun s1 av=>[(4,I.of (0:Int)),(7,I.of (s1))]) (fun s1 av=>[]) (fun aA=>Sum.elim (fun aA=>Exit.exit 0) (fun aA=>Exit.ret) aA) (fun aA av=>Sum.elim (fun aA=>[(4,I.of (0:Int)),(7,I.of (aA.1)),(13,I.of (aA.2))]) (fun aA=>[(4,I.of (aA.1)),(7,I.of (aA.2.1)),(13,I.of (aA.2.2.1)),(22,I.of (aA.2.2.2.1)),(25,I.of (aA.2.2.2.2))]) aA) (fun aA av=>Sum.elim (fun aA=>[]) (fun aA=>[]) aA) () (fun s1 r h av=>?_) fun av=>?_
 ·refine ag.seq (aC (aB ?_))
  refine bj kf ?_
  refine aL (cg h (fun h=>?_) fun h=>?_)
  ·refine cO (ag.seq (ag.block (ag.seq ?_)))
   obtain⟨aZ,cq,h⟩:=au h
   obtain⟨bP,c6,h⟩:=au h
   refine ag.draw mixed 7 [some 16,some 17,some 18,some 19,some 20,some 21,some 22] [[],[0],[1],[],[3],[4],[2,5]] [.val _,.val _,.val _,.val _,.val _,.val _,.val _] [false,false,false,false,false,false,false] (by kernel_rfl) rfl rfl rfl (fun hh=>⟨ct,c1 fun ax ar=>eb (k:=aZ) By (ab rfl) (ab rfl) (bZ cq),dg 0 ((aN.id (Vector Bool 128)).comp (aN.idx (α:=Bool) 128 aZ (bZ cq).1)) gF,ct,c1 fun ax ar=>eb (k:=bP) By (ab rfl) (ab rfl) (bZ c6),dg 1 ((aN.id (Vector Bool 128)).comp (aN.idx (α:=Bool) 128 bP (bZ c6).1)) gF,jc (Jd Tryz.underlying4),trivial⟩) fun hh=>?_
   refine aL (cg h (fun h=>?_) fun h=>?_)
   ·refine ag.seq (aC (aB ?_))
    obtain⟨cT,fe,h⟩:=au h
    refine bh (eb (k:=cT) By (ab rfl) (ab rfl) (bZ fe)) ?_
    refine cc 1 ((aN.id (Vector Bool 128)).comp (aN.idx (α:=Bool) 128 cT (bZ fe).1)) gF ?_
    refine aL (cg h (fun h=>?_) fun h=>?_)
    ·refine aC (aM ?_)
     refine aL (ag.ret (ae.ret (ae.dz (ae.ret ?_))))
     obtain rfl:=aH h
     exact dY () 0
    refine cO (aC (aM ?_))
    refine aL (ag.ret (ae.dz (ae.ret ?_)))
    obtain rfl:=aH h
    exact dY () 0
   refine ag.skip (ae.dB (ae.next (ag.cm (aB ?_))))
   refine bj kg ?_
   refine aM ?_
   refine ai.nil ?_
   obtain rfl:=aH h
   exact fc () 0
  refine ag.exit (ae.exit ?_)
  obtain rfl:=aH h
  exact dY () 0
 rcases ay with ay | ay
 ·simp only [Sum.elim_inl] at h
  refine ae.e1 (ae.next (aC (aM ?_)))
  refine aL (ag.ret ?_)
  obtain rfl:=aH h
  exact cX
 simp only [Sum.elim_inr] at h
 refine ae.dz (ae.ret ?_)
 obtain rfl:=aH h
 exact cX
theorem nV {J:bu} {cu:Nat} {r:Bool×bu} (h:lV J=some r):b9 Tryz.prog 28 [I.eq (.pointer (some ⟨cu,0,none⟩))] [⟨some cu,.var (J:bu)⟩] (δ:=Unit) (fun d=>I.of (r.1)) (fun d=>[⟨some cu,.var (r.2:bu)⟩]):=by
 unfold lV at h
 refine b9.of Tryz.func28 rfl Tryz.ntmps28 rfl fun W A=>?_
 refine aC (aM ?_)
 refine bW (aB ?_)
 refine ai.bI 0 rfl ?_
 obtain⟨aD,bo,h⟩:=au h
 refine ff 1 gT (gL bo) fun aA=>?_
 refine bj gf ?_
 refine aM ?_
 refine aL (ag.ret (ae.bI 0 rfl ?_))
 obtain rfl:=aH h
 exact kW ()
theorem Te {J:bu} {cu:Nat} {r:(List dT)×bu} (h:zI J=some r):b9 Tryz.prog 49 [I.eq (.pointer (some ⟨cu,0,none⟩))] [⟨some cu,.var (J:bu)⟩] (δ:=Unit) (fun d=>I.of (r.1)) (fun d=>[⟨some cu,.var (r.2:bu)⟩]):=by
 unfold zI at h
 refine b9.of Tryz.func49 rfl Tryz.ntmps49 rfl fun W A=>?_
 refine aC (bh (ew (look_nil (α:=dT))) ?_)
 refine bW (gV ([0,0,65535,3]:List Int) Tryz.underlying41 bE h0 ?_)
 refine aM ?_
 refine bW (aB ?_)
 refine aB ?_
 refine ai.bI 0 rfl ?_
 obtain⟨aD,bo,h⟩:=au h
 refine ff 1 gT (gL bo) fun aA=>?_
 obtain⟨aZ,cq,h⟩:=au h
 refine g5 cq Tryz.underlying41 bE ?_
 refine aY (da bE) ?_
 refine bh (rp (b:=({ (default:dT) with b0:=1,iN:=1,nY:=4,hX:=az ([0,0,65535,3]:List Int) aZ } :dT)) [3] Ol rfl Je uA (.cons DZ rfl (bU 1) rfl (by rfl) (.cons G9 rfl (bU 1) rfl (by rfl) (.cons L9 rfl (bU 4) rfl (by rfl) (.cons G3 rfl (ab rfl) rfl (by rfl) (.nil)))))) ?_
 refine ai.own (α:=ha) 171 (ai.n9 (z:=(default:dT)) [3] Ol uA rfl fun a4=>?_)
 refine ai.own (α:=ha) 171 (ai.sI (i:=1) rI (ab rfl) (ab rfl) rfl (bW (bh (c9 (b:=({ (default:an) with b2:=1#64 } :an)) rfl hr en (.cons ev rfl (fT 1 rfl) rfl (.nil))) ?_)))
 refine bh (c9 (b:=({ (default:an) with b2:=15#64 } :an)) rfl hr en (.cons ev rfl (fT 15 rfl) rfl (.nil))) ?_
 obtain⟨bH,dt,h⟩:=au h
 refine dG dt (c9 (b:= { bS:=({ (default:an) with b2:=1#64 } :an),b3:=({ (default:an) with b2:=15#64 } :an),qg:=2:ha }) rfl Fq uC (.cons DO rfl (ab rfl) rfl (.cons DV rfl (ab rfl) rfl (.cons DW rfl (bU 2) rfl (.nil))))) ?_
 refine bh (c9 (b:=({ (default:an) with b2:=2#64 } :an)) rfl hr en (.cons ev rfl (fT 2 rfl) rfl (.nil))) ?_
 refine bh (c9 (b:=({ (default:an) with b2:=3#64 } :an)) rfl hr en (.cons ev rfl (fT 3 rfl) rfl (.nil))) ?_
 obtain⟨dn,hx,h⟩:=au h
 refine dG hx (c9 (b:= { bS:=({ (default:an) with b2:=2#64 } :an),b3:=({ (default:an) with b2:=3#64 } :an),qg:=3:ha }) rfl Fq uC (.cons DO rfl (ab rfl) rfl (.cons DV rfl (ab rfl) rfl (.cons DW rfl (bU 3) rfl (.nil))))) ?_
 refine ai.pN (α:=ha) (r:= [bH,dn]) Tryz.underlying167 Fs uC rfl rfl (.cons (by simp) (ab rfl) (.cons (by simp) (ab rfl) (.nil))) rfl fun gD=>?_
 refine aY (aU EM) ?_
 refine ai.iP (i:=2) (γ:=ha) (b':=(({ ({ (default:dT) with b0:=1,iN:=1,nY:=4,hX:=az ([0,0,65535,3]:List Int) aZ } :dT) with pz:= [] } :dT):dT)) (os':= [(3,aS gD [bH,dn].length 2)]) ((aN.id dT).comp DI) BB (ab rfl) (ab rfl) h9 rfl rfl rfl rfl (bD (aC (aB ?_)))
 refine ai.bI 4 rfl ?_
 obtain⟨aK,cb,h⟩:=au h
 refine ff 1 ov (nV cb) fun cU=>?_
 refine aL ?_
 obtain⟨bx,cy,h⟩:=au h
 refine jj (γ:=(Option Nat×Nat)) [0,2,3,4,23] (fun av=>[]) (fun av=>[(0,⟨some cu,.var (bx.1:bu)⟩),(1,⟨av.1,.row 171 (bx.2:List ha) av.2⟩),(3,⟨some a4,.cj (({ ({ (default:dT) with b0:=1,iN:=1,nY:=4,hX:=az ([0,0,65535,3]:List Int) aZ } :dT) with pz:= [] } :dT):dT) [(3,aS av.1 bx.2.length av.2)]⟩)]) (fun av=>?_) (fun hm al=>?_) fun hm al=>?_
 ·refine ae.next (aC (aB ?_))
  refine aB ?_
  refine ai.bI 0 rfl ?_
  obtain⟨bb,dR,h⟩:=au h
  refine ff 1 gT (gL dR) fun et=>?_
  obtain⟨bP,c6,h⟩:=au h
  refine g5 c6 Tryz.underlying41 bE ?_
  refine aY (da bE) ?_
  obtain⟨fm,jH,h⟩:=au h
  refine dG jH (c9 (b:=({ (default:dT) with b0:=2,iN:=2,hX:=az ([0,0,65535,3]:List Int) bP } :dT)) rfl Je uA (.cons DZ rfl (bU 2) rfl (.cons G9 rfl (bU 2) rfl (.cons G3 rfl (ab rfl) rfl (.nil))))) ?_
  refine cC uA fun ba=>?_
  refine b8 0 rI ?_
  refine bW ?_
  obtain⟨hF,mF,h⟩:=au h
  refine dG mF (c9 (b:=({ (default:dT) with b0:=3,iN:=3,nY:=9,hX:=0 } :dT)) rfl Je uA (.cons DZ rfl (bU 3) rfl (.cons G9 rfl (bU 3) rfl (.cons L9 rfl (bU 9) rfl (.cons G3 rfl (bU 0) rfl (.nil)))))) ?_
  refine cC uA fun ck=>?_
  refine b8 0 rI ?_
  refine bD (aC (aB ?_))
  refine ai.bI 2 rfl ?_
  obtain⟨bJ,e2,h⟩:=au h
  refine ff 1 gT (gL e2) fun jS=>?_
  refine bj gf ?_
  refine aL ?_
  obtain⟨cY,eg,h⟩:=au h
  refine jj (γ:=Unit) [0,2,3,4,5,6,23,50] (fun aW=>[]) (fun aW=>[(0,⟨some cu,.var (cY.1:bu)⟩),(1,⟨some ck,.var (cY.2:dT)⟩)]) (fun aW=>?_) (fun hm al=>?_) fun hm al=>?_
  ·refine ae.next (aC (ai.lf (β:=dT) (γ:=ha) (b':=(({ ({ (default:dT) with b0:=1,iN:=1,nY:=4,hX:=az ([0,0,65535,3]:List Int) aZ } :dT) with pz:=bx.2 } :dT):dT)) ((aN.id dT).comp DI) 5 3 0 rfl rfl rfl rfl rfl rfl (ai.o0 5 rfl ?_)))
   obtain⟨hG,nC,h⟩:=au h
   refine dG nC (fa (i:=5) (aN.id dT) (r:=({ ({ (default:dT) with b0:=1,iN:=1,nY:=4,hX:=az ([0,0,65535,3]:List Int) aZ } :dT) with pz:=bx.2 } :dT)) rI (ab rfl) rfl rfl rfl) ?_
   refine cr 2 rI ?_
   refine cr 1 rI ?_
   refine gV [hG,fm,cY.2] Tryz.underlying25 rI uA ?_
   refine aM ?_
   refine aL (ag.ret (ae.bI 0 rfl ?_))
   obtain rfl:=aH h
   exact kW ()
  ·have h:=gQ al eg
   refine ag.cm (bh (c9 (b:=({ (default:an) with b2:=5#64 } :an)) rfl hr en (.cons ev rfl (fT 5 rfl) rfl (.nil))) ?_)
   refine bh (c9 (b:=({ (default:an) with b2:=15#64 } :an)) rfl hr en (.cons ev rfl (fT 15 rfl) rfl (.nil))) ?_
   refine aB ?_
   refine ai.bI 0 rfl ?_
   obtain⟨bq,gG,h⟩:=au h
   refine ff 1 gT (gL gG) fun eu=>?_
   refine bj dd ?_
   obtain⟨jQ,qB,h⟩:=au h
   refine dG qB (c9 (b:= { bS:=({ (default:an) with b2:=5#64 } :an),b3:=({ (default:an) with b2:=15#64 } :an),qg:=bs (1+bq.1):ha }) rfl Fq uC (.cons DO rfl (ab rfl) rfl (.cons DV rfl (ab rfl) rfl (.cons DW rfl (ab rfl) rfl (.nil))))) ?_
   refine gV [jQ] Tryz.underlying167 Fs uC ?_
   refine aY (aU EM) ?_
   refine nc 1 DI BB ?_
   refine ai.nil ?_
   obtain rfl:=aH h
   exact dq 0 (hm ())
  have h:=gR al eg
  refine ag.skip ?_
  obtain rfl:=aH h
  exact dq 0 (hm ())
 ·have h:=gQ al cy
  obtain⟨b6,gH,h⟩:=au h
  obtain⟨jR,qC,h⟩:=au h
  obtain⟨eB,mI,h⟩:=au h
  obtain⟨cT,fe,h⟩:=au h
  obtain⟨ih,tc,h⟩:=au h
  obtain⟨fN,mb,h⟩:=au h
  refine jk [0,2,3,4,7,8,9,10,11,12,13,14,15,16,17,18,19,20,21,22,23] ?_
  refine ag.kP mixed (bg 24 [] [] _::bg 25 (0::[]) (3::[]) _::bg 26 [] [] _::⟨some 27,(2::[]),(0::[]),(0::[]),fun _=>I.of (b6.1),fun hd _=>⟨some cu,.var (b6.2:bu)⟩⟩::bg 28 (3::[]) [] _::bg 29 (4::[]) [] _::bg 30 (5::[]) [] _::bg 31 [] [] _::bg 32 [] [] _::bg 33 [] [] _::⟨some 34,(3::9::[]),(0::[]),(0::[]),fun _=>I.of (eB.1),fun hd _=>⟨some cu,.var (eB.2:bu)⟩⟩::bg 35 (8::10::[]) [] _::bg 36 (11::[]) [] _::bg 37 (6::7::12::[]) [] _::bg 38 (13::[]) [] _::⟨some 39,(1::14::[]),(1::[]),(1::[]),fun hd=>I.eq (aS (hd 15 0) fN.length ((hd 15 1).getD 0)),fun hd _=>⟨(hd 15 0),.row 171 (fN:List ha) ((hd 15 1).getD 0)⟩⟩::bg 40 [] [] _::⟨none,(1::15::16::[]),(3::[]),(3::[]),fun _=>I.any,fun hd _=>⟨some a4,.cj (({ ({ (default:dT) with b0:=1,iN:=1,nY:=4,hX:=az ([0,0,65535,3]:List Int) aZ } :dT) with pz:= [] } :dT):dT) [(3,aS (hd 15 0) fN.length ((hd 15 1).getD 0))]⟩⟩::[]) _ (0::2::3::4::7::8::9::10::11::12::13::14::15::16::17::18::19::20::21::22::23::[]) rfl rfl (by kernel_rfl) ⟨fy (aU EM),cz fun hd E' ax aG ar=>ho (i:=3) (q:=0) (β:=dT) (γ:=ha) BB (ab (aG _ _ rfl)) (ar 3 _ rfl rfl) rfl,fP,?_,zb YV,fy (iX Tryz.underlying3 Tryz.underlying46),cz fun hd E' ax aG ar=>(c9 (b:=({ (default:an) with b2:=BitVec.ofInt 64 (bs (8 * b6.1)) } :an)) rfl hr en (.cons ev rfl (ab (aG _ _ rfl)) rfl (.nil))).as (aH qC),cz fun hd E' ax aG ar=>c9 (b:=({ (default:an) with b2:=8#64 } :an)) rfl hr en (.cons ev rfl (fT 8 rfl) rfl (.nil)),fP,fP,?_,cz fun hd E' ax aG ar=>ql (k:=cT) Tryz.underlying41 bE (ab (aG _ _ rfl)) (ab (aG _ _ rfl)) (bZ fe),fy (da bE),cz fun hd E' ax aG ar=>(c9 (b:= { bS:=jR,b3:=({ (default:an) with b2:=8#64 } :an),qg:=az ([0,0,65535,3]:List Int) cT:ha }) rfl Fq uC (.cons DO rfl (ab (aG _ _ rfl)) rfl (.cons DV rfl (ab (aG _ _ rfl)) rfl (.cons DW rfl (ab (aG _ _ rfl)) rfl (.nil))))).as (aH tc),cz fun hd E' ax aG ar=>jv (r:= [ih]) Tryz.underlying167 Fs uC rfl rfl (.cons (by simp) (ab (aG _ _ rfl)) (.nil)),?_,fy (aU EM),?_,trivial⟩ fun fj=>?_
  ·intro hd E' ax aG ar
   refine ai.bI 0 (ar 0 _ rfl rfl) (ai.nw (Lin:= [⟨some cu,.var (aK.2:bu)⟩]) (Lr:=ax.eraseIdx 0) gT (gL gH) ⟨ab (aG _ _ rfl),bU 2,trivial⟩ rfl fun jU=>?_)
   exact ai.nil (ae.back 0 (ar 0 _ rfl rfl) (ae.fin (eP []) rfl rfl))
  ·intro hd E' ax aG ar
   refine ai.bI 0 (ar 0 _ rfl rfl) (ai.nw (Lin:= [⟨some cu,.var (b6.2:bu)⟩]) (Lr:=ax.eraseIdx 0) gT (gL mI) ⟨ab (aG _ _ rfl),bU 4,trivial⟩ rfl fun q4=>?_)
   exact ai.nil (ae.back 0 (ar 0 _ rfl rfl) (ae.fin (eP []) rfl rfl))
  ·intro hd E' ax aG ar
   refine ai.app (i:=1) Tryz.underlying167 Fs uC (bytes:=40) (by kernel_rfl) (ab (aG _ _ rfl)) (ar 1 _ rfl rfl) (ab (aG _ _ rfl)) mb rfl fun kj fC=>?_
   exact ai.nil (ae.fin (eP [kj,some fC]) rfl rfl)
  ·intro hd E' ax aG ar
   exact ai.iP (i:=3) (γ:=ha) (b':=(({ ({ (default:dT) with b0:=1,iN:=1,nY:=4,hX:=az ([0,0,65535,3]:List Int) aZ } :dT) with pz:= [] } :dT):dT)) (os':= [(3,aS (hd 15 0) fN.length ((hd 15 1).getD 0))]) ((aN.id dT).comp DI) BB (ab (aG _ _ rfl)) (ab (aG _ _ rfl)) h9 (ar 3 _ rfl rfl) rfl rfl rfl (ai.nil (ae.fin (eP []) rfl rfl))
  refine ae.ez (L2:= [⟨some cu,.var (eB.2:bu)⟩,⟨(fj 15 0),.row 171 (fN:List ha) ((fj 15 1).getD 0)⟩,⟨none,.row 171 (([]:List ha):List ha) 0⟩,⟨some a4,.cj (({ ({ (default:dT) with b0:=1,iN:=1,nY:=4,hX:=az ([0,0,65535,3]:List Int) aZ } :dT) with pz:= [] } :dT):dT) [(3,aS (fj 15 0) fN.length ((fj 15 1).getD 0))]⟩,⟨none,.row 171 (([]:List ha):List ha) 0⟩]) rfl (km [0,2,3,4,7,8,9,10,11,12,13,14,15,16,17,18,19,21,22,23,24,26,27,28,29,30,31,32,33,34,35,36,37,38,39,40] ?_)
  obtain rfl:=aH h
  exact dq 0 (hm ((fj 15 0),((fj 15 1).getD 0)))
 have h:=gR al cy
 refine ag.skip ?_
 obtain rfl:=aH h
 exact dq 0 (hm (gD,2))
theorem S6 {J:bu} {cu:Nat} {r:(List ei)×bu} (h:zB J=some r):b9 Tryz.prog 50 [I.eq (.pointer (some ⟨cu,0,none⟩))] [⟨some cu,.var (J:bu)⟩] (δ:=Unit) (fun d=>I.of (r.1)) (fun d=>[⟨some cu,.var (r.2:bu)⟩]):=by
 unfold zB at h
 refine b9.of Tryz.func50 rfl Tryz.ntmps50 rfl fun W A=>?_
 refine aC (bh (ew (look_nil (α:=ei))) ?_)
 refine bW (hg Ft BC ({ (default:ga) with cS:=3 } :ga) (j5 DG .nil) ?_)
 refine cC BC fun a4=>?_
 refine b8 0 Fu ?_
 refine bD ?_
 obtain⟨bH,dt,h⟩:=au h
 obtain⟨dn,hx,h⟩:=au h
 obtain⟨fm,jH,h⟩:=au h
 obtain⟨hF,mF,h⟩:=au h
 obtain⟨hG,nC,h⟩:=au h
 obtain⟨jQ,qB,h⟩:=au h
 obtain⟨jR,qC,h⟩:=au h
 obtain⟨ih,tc,h⟩:=au h
 obtain⟨mj,wY,h⟩:=au h
 obtain⟨lH,wF,h⟩:=au h
 obtain⟨lk,wG,h⟩:=au h
 obtain⟨mJ,wH,h⟩:=au h
 obtain⟨ll,BV,h⟩:=au h
 obtain⟨aD,bo,h⟩:=au h
 obtain⟨lI,BW,h⟩:=au h
 obtain⟨aK,cb,h⟩:=au h
 obtain⟨o7,BX,h⟩:=au h
 obtain⟨pU,BY,h⟩:=au h
 obtain⟨nD,JP,h⟩:=au h
 refine ag.uJ 1 (jk [0,2,3,5] ?_)
 refine ag.kP mixed (bg 6 [] [] _::bg 7 [] [] _::bg 8 (1::[]) [] _::bg 9 (2::[]) [] _::bg 10 [] [] _::bg 11 (4::[]) [] _::bg 12 [] (0::[]) _::bg 13 (6::[]) [] _::bg 14 (7::[]) [] _::bg 15 (5::8::[]) [] _::bg 16 [] [] _::bg 17 (10::[]) [] _::bg 18 [] (0::[]) _::bg 19 (12::[]) [] _::bg 20 [] [] _::bg 21 (14::[]) [] _::bg 22 (13::15::[]) [] _::bg 23 (11::16::[]) [] _::bg 24 [] [] _::bg 25 [] [] _::bg 26 (18::19::[]) [] _::bg 27 [] [] _::bg 28 [] (0::[]) _::bg 29 (22::[]) [] _::bg 30 [] [] _::bg 31 (24::[]) [] _::bg 32 (21::23::25::[]) [] _::bg 33 (20::26::[]) [] _::bg 34 [] [] _::⟨some 35,(28::[]),(1::[]),(1::[]),fun _=>I.of (aD.1),fun hd _=>⟨some cu,.var (aD.2:bu)⟩⟩::bg 36 (29::[]) [] _::bg 37 (30::[]) [] _::bg 38 [] [] _::⟨some 39,(29::32::[]),(1::[]),(1::[]),fun _=>I.of (aK.1),fun hd _=>⟨some cu,.var (aK.2:bu)⟩⟩::bg 40 (33::[]) [] _::bg 41 (34::[]) [] _::bg 42 (35::[]) [] _::bg 43 (36::[]) [] _::bg 44 (31::37::[]) [] _::bg 45 (38::[]) [] _::⟨some 46,(0::3::9::17::27::39::[]),(2::[]),(2::[]),fun hd=>I.eq (aS (hd 40 0) [bH,dn,hG,ih,ll,nD].length 6),fun hd _=>⟨(hd 40 0),.row 153 ([bH,dn,hG,ih,ll,nD]:List ei) 6⟩⟩::⟨some 4,(40::[]),[],[],fun hd=>I.eq (aS (hd 40 0) [bH,dn,hG,ih,ll,nD].length 6),fun _ _=>⟨none,.dead⟩⟩::[]) _ (0::2::3::5::[]) rfl rfl (by kernel_rfl) ⟨cz fun hd E' ax aG ar=>(c9 (b:=({ (default:ei) with b0:=1,cF:=ByteArray.mk #[110,111,112] } :ei)) rfl wj qj (.cons tO rfl (bU 1) rfl (.cons xy rfl (dU (ByteArray.mk #[110,111,112])) rfl (.nil)))).as (aH dt),cz fun hd E' ax aG ar=>c9 (b:=({ (default:ft) with iR:=6 } :ft)) rfl sR oh (.cons sj rfl (bU 6) rfl (.nil)),cz fun hd E' ax aG ar=>jv (r:= [({ (default:ft) with iR:=6 } :ft)]) Tryz.underlying151 BD oh rfl rfl (.cons (by simp) (ab (aG _ _ rfl)) (.nil)),cz fun hd E' ax aG ar=>(c9 (b:=({ (default:ei) with b0:=2,cF:=ByteArray.mk #[100,114,111,112],oV:= [({ (default:ft) with iR:=6 } :ft)] } :ei)) rfl wj qj (.cons tO rfl (bU 2) rfl (.cons xy rfl (dU (ByteArray.mk #[100,114,111,112])) rfl (.cons zJ rfl (ab (aG _ _ rfl)) rfl (.nil))))).as (aH hx),cz fun hd E' ax aG ar=>(c9 (b:= { cF:=ByteArray.mk #[112,111,114,116],fB:=16:jf }) rfl Fv uD (.cons DP rfl (dU (ByteArray.mk #[112,111,114,116])) rfl (.cons zT rfl (bU 16) rfl (.nil)))).as (aH jH),cz fun hd E' ax aG ar=>jv (r:= [fm]) Tryz.underlying150 yA uD rfl rfl (.cons (by simp) (ab (aG _ _ rfl)) (.nil)),lG 0 Fu,cz fun hd E' ax aG ar=>(c9 (b:=({ (default:ft) with iR:=7,ld:=({ (default:ga) with cS:=3 } :ga) } :ft)) rfl sR oh (.cons sj rfl (bU 7) rfl (.cons xK rfl (ab (aG _ _ rfl)) rfl (.nil)))).as (aH mF),cz fun hd E' ax aG ar=>jv (r:= [hF]) Tryz.underlying151 BD oh rfl rfl (.cons (by simp) (ab (aG _ _ rfl)) (.nil)),cz fun hd E' ax aG ar=>(c9 (b:=({ (default:ei) with b0:=3,cF:=ByteArray.mk #[102,111,114,119,97,114,100],kL:= [fm],oV:= [hF] } :ei)) rfl wj qj (.cons tO rfl (bU 3) rfl (.cons xy rfl (dU (ByteArray.mk #[102,111,114,119,97,114,100])) rfl (.cons DC rfl (ab (aG _ _ rfl)) rfl (.cons zJ rfl (ab (aG _ _ rfl)) rfl (.nil)))))).as (aH nC),cz fun hd E' ax aG ar=>c9 (b:= { cF:=ByteArray.mk #[120],fB:=4:jf }) rfl Fv uD (.cons DP rfl (dU (ByteArray.mk #[120])) rfl (.cons zT rfl (bU 4) rfl (.nil))),cz fun hd E' ax aG ar=>jv (r:= [{ cF:=ByteArray.mk #[120],fB:=4:jf }]) Tryz.underlying150 yA uD rfl rfl (.cons (by simp) (ab (aG _ _ rfl)) (.nil)),lG 0 Fu,cz fun hd E' ax aG ar=>(c9 (b:= { iR:=1,kh:=5,ld:=({ (default:ga) with cS:=3 } :ga):ft }) rfl sR oh (.cons sj rfl (bU 1) rfl (.cons vo rfl (bU 5) rfl (.cons xK rfl (ab (aG _ _ rfl)) rfl (.nil))))).as (aH qB),cz fun hd E' ax aG ar=>(c9 (b:=({ (default:ga) with cS:=2,wZ:=5 } :ga)) rfl Ft BC (.cons DG rfl (bU 2) rfl (.cons Mh rfl (bU 5) rfl (.nil)))).as (aH qC),cz fun hd E' ax aG ar=>c9 (b:= { iR:=2,kh:=3,ld:=jR:ft }) rfl sR oh (.cons sj rfl (bU 2) rfl (.cons vo rfl (bU 3) rfl (.cons xK rfl (ab (aG _ _ rfl)) rfl (.nil)))),cz fun hd E' ax aG ar=>jv (r:= [jQ,{ iR:=2,kh:=3,ld:=jR:ft }]) Tryz.underlying151 BD oh rfl rfl (.cons (by simp) (ab (aG _ _ rfl)) (.cons (by simp) (ab (aG _ _ rfl)) (.nil))),cz fun hd E' ax aG ar=>(c9 (b:=({ (default:ei) with b0:=4,cF:=ByteArray.mk #[116,97,103],kL:= [{ cF:=ByteArray.mk #[120],fB:=4:jf }],oV:= [jQ,{ iR:=2,kh:=3,ld:=jR:ft }] } :ei)) rfl wj qj (.cons tO rfl (bU 4) rfl (.cons xy rfl (dU (ByteArray.mk #[116,97,103])) rfl (.cons DC rfl (ab (aG _ _ rfl)) rfl (.cons zJ rfl (ab (aG _ _ rfl)) rfl (.nil)))))).as (aH tc),cz fun hd E' ax aG ar=>c9 (b:= { cF:=ByteArray.mk #[120],fB:=4:jf }) rfl Fv uD (.cons DP rfl (dU (ByteArray.mk #[120])) rfl (.cons zT rfl (bU 4) rfl (.nil))),cz fun hd E' ax aG ar=>c9 (b:= { cF:=ByteArray.mk #[121],fB:=12:jf }) rfl Fv uD (.cons DP rfl (dU (ByteArray.mk #[121])) rfl (.cons zT rfl (bU 12) rfl (.nil))),cz fun hd E' ax aG ar=>(jv (r:= [{ cF:=ByteArray.mk #[120],fB:=4:jf },{ cF:=ByteArray.mk #[121],fB:=12:jf }]) Tryz.underlying150 yA uD rfl rfl (.cons (by simp) (ab (aG _ _ rfl)) (.cons (by simp) (ab (aG _ _ rfl)) (.nil)))).as (aH wY),cz fun hd E' ax aG ar=>c9 (b:=({ (default:ft) with iR:=4,kh:=3 } :ft)) rfl sR oh (.cons sj rfl (bU 4) rfl (.cons vo rfl (bU 3) rfl (.nil))),lG 0 Fu,cz fun hd E' ax aG ar=>(c9 (b:= { iR:=1,kh:=9,ld:=({ (default:ga) with cS:=3 } :ga):ft }) rfl sR oh (.cons sj rfl (bU 1) rfl (.cons vo rfl (bU 9) rfl (.cons xK rfl (ab (aG _ _ rfl)) rfl (.nil))))).as (aH wF),cz fun hd E' ax aG ar=>(c9 (b:=({ (default:ga) with cS:=3,wZ:=1 } :ga)) rfl Ft BC (.cons DG rfl (bU 3) rfl (.cons Mh rfl (bU 1) rfl (.nil)))).as (aH wG),cz fun hd E' ax aG ar=>c9 (b:= { iR:=3,kh:=8,ld:=lk:ft }) rfl sR oh (.cons sj rfl (bU 3) rfl (.cons vo rfl (bU 8) rfl (.cons xK rfl (ab (aG _ _ rfl)) rfl (.nil)))),cz fun hd E' ax aG ar=>(jv (r:= [({ (default:ft) with iR:=4,kh:=3 } :ft),lH,{ iR:=3,kh:=8,ld:=lk:ft }]) Tryz.underlying151 BD oh rfl rfl (.cons (by simp) (ab (aG _ _ rfl)) (.cons (by simp) (ab (aG _ _ rfl)) (.cons (by simp) (ab (aG _ _ rfl)) (.nil))))).as (aH wH),cz fun hd E' ax aG ar=>(c9 (b:=({ (default:ei) with b0:=5,cF:=ByteArray.mk #[119,114,97,112],kL:=mj,oV:=mJ } :ei)) rfl wj qj (.cons tO rfl (bU 5) rfl (.cons xy rfl (dU (ByteArray.mk #[119,114,97,112])) rfl (.cons DC rfl (ab (aG _ _ rfl)) rfl (.cons zJ rfl (ab (aG _ _ rfl)) rfl (.nil)))))).as (aH BV),fP,?_,zb dd,cz fun hd E' ax aG ar=>(c9 (b:=({ (default:ft) with iR:=5,kh:=bs (2+aD.1) } :ft)) rfl sR oh (.cons sj rfl (bU 5) rfl (.cons vo rfl (ab (aG _ _ rfl)) rfl (.nil)))).as (aH BW),fP,?_,fy (iX Tryz.underlying3 Tryz.underlying46),cz fun hd E' ax aG ar=>(c9 (b:=({ (default:an) with b2:=BitVec.ofInt 64 aK.1 } :an)) rfl hr en (.cons ev rfl (ab (aG _ _ rfl)) rfl (.nil))).as (aH BX),cz fun hd E' ax aG ar=>(c9 (b:=({ (default:ga) with cS:=1,bS:=o7 } :ga)) rfl Ft BC (.cons DG rfl (bU 1) rfl (.cons SS rfl (ab (aG _ _ rfl)) rfl (.nil)))).as (aH BY),cz fun hd E' ax aG ar=>c9 (b:= { iR:=2,kh:=6,ld:=pU:ft }) rfl sR oh (.cons sj rfl (bU 2) rfl (.cons vo rfl (bU 6) rfl (.cons xK rfl (ab (aG _ _ rfl)) rfl (.nil)))),cz fun hd E' ax aG ar=>jv (r:= [lI,{ iR:=2,kh:=6,ld:=pU:ft }]) Tryz.underlying151 BD oh rfl rfl (.cons (by simp) (ab (aG _ _ rfl)) (.cons (by simp) (ab (aG _ _ rfl)) (.nil))),cz fun hd E' ax aG ar=>(c9 (b:=({ (default:ei) with b0:=6,cF:=ByteArray.mk #[115,116,114,105,112],oV:= [lI,{ iR:=2,kh:=6,ld:=pU:ft }] } :ei)) rfl wj qj (.cons tO rfl (bU 6) rfl (.cons xy rfl (dU (ByteArray.mk #[115,116,114,105,112])) rfl (.cons zJ rfl (ab (aG _ _ rfl)) rfl (.nil))))).as (aH JP),?_,?_,trivial⟩ fun fj=>?_
 ·intro hd E' ax aG ar
  refine ai.bI 1 (ar 1 _ rfl rfl) (ai.nw (Lin:= [⟨some cu,.var (J:bu)⟩]) (Lr:=ax.eraseIdx 1) gT (gL bo) ⟨ab (aG _ _ rfl),bU 2,trivial⟩ rfl fun aA=>?_)
  exact ai.nil (ae.back 1 (ar 1 _ rfl rfl) (ae.fin (eP []) rfl rfl))
 ·intro hd E' ax aG ar
  refine ai.bI 1 (ar 1 _ rfl rfl) (ai.nw (Lin:= [⟨some cu,.var (aD.2:bu)⟩]) (Lr:=ax.eraseIdx 1) gT (gL cb) ⟨ab (aG _ _ rfl),bU 256,trivial⟩ rfl fun cU=>?_)
  exact ai.nil (ae.back 1 (ar 1 _ rfl rfl) (ae.fin (eP []) rfl rfl))
 ·intro hd E' ax aG ar
  refine ai.pN (α:=ei) (r:= [bH,dn,hG,ih,ll,nD]) Tryz.underlying26 oe qj rfl rfl (.cons (by simp) (ab (aG _ _ rfl)) (.cons (by simp) (ab (aG _ _ rfl)) (.cons (by simp) (ab (aG _ _ rfl)) (.cons (by simp) (ab (aG _ _ rfl)) (.cons (by simp) (ab (aG _ _ rfl)) (.cons (by simp) (ab (aG _ _ rfl)) (.nil))))))) rfl fun gD=>?_
  exact ai.nil (ae.place 2 (ar 2 _ rfl rfl) (ae.fin (eP [gD]) rfl rfl))
 ·intro hd E' ax aG ar
  refine bh (ew (ab (aG _ _ rfl))) ?_
  exact ai.nil (ae.fin (eP []) rfl rfl)
 refine ae.ez (L2:= [⟨some a4,.var (({ (default:ga) with cS:=3 } :ga):ga)⟩,⟨some cu,.var (aK.2:bu)⟩,⟨(fj 40 0),.row 153 ([bH,dn,hG,ih,ll,nD]:List ei) 6⟩]) rfl (km [0,2,3,4,5,6,7,8,9,10,11,12,13,14,15,16,17,18,19,20,21,22,23,24,25,26,27,28,29,30,31,32,33,34,35,36,37,38,39,40,41,42,43,44,45,46] ?_)
 refine ae.bI 2 rfl (ae.next (ag.seq (aC (aB ?_))))
 refine ai.bI 2 rfl ?_
 obtain⟨bb,dR,h⟩:=au h
 refine ff 1 ov (nV dR) fun et=>?_
 refine aL ?_
 obtain⟨bx,cy,h⟩:=au h
 refine jj (γ:=(Option Nat×Nat)) [0,2,3,48] (fun av=>[(4,I.eq (aS av.1 bx.length av.2))]) (fun av=>[(1,⟨av.1,.row 153 (bx:List ei) av.2⟩)]) (fun av=>?_) (fun hm al=>?_) fun hm al=>?_
 ·refine ae.next (ag.seq (aC (aB ?_)))
  refine ai.bI 0 rfl ?_
  obtain⟨bJ,e2,h⟩:=au h
  refine ff 1 ov (nV e2) fun jS=>?_
  refine aL ?_
  obtain⟨cY,eg,h⟩:=au h
  refine jj (γ:=(Option Nat×Nat)) [0,2,3,48,53] (fun aW=>[(4,I.eq (aS aW.1 cY.length aW.2))]) (fun aW=>[(1,⟨aW.1,.row 153 (cY:List ei) aW.2⟩)]) (fun aW=>?_) (fun hm al=>?_) fun hm al=>?_
  ·refine ae.next (aC (aB ?_))
   refine aM ?_
   refine aL (ag.ret (ae.n4 (α:=ei) 1 [2,4,57] ⟨rfl,rfl,rfl,trivial⟩ rfl (ae.bI 0 rfl ?_)))
   obtain rfl:=aH h
   exact kW ()
  ·have h:=gQ al eg
   refine ag.cm (aB ?_)
   obtain⟨aZ,cq,h⟩:=au h
   refine bh (l2 (i:=1) (k:=aZ) (xs:=(bx:List ei)) Tryz.underlying26 oe (ab rfl) (bU 4) rfl (bZ cq)) ?_
   refine aY (aU Om) ?_
   obtain⟨td,BZ,h⟩:=au h
   refine ai.yn (i:=1) (k:=aZ) ((aN.id ei).comp LY) (v:=(ByteArray.mk #[120,32,60,32,121,32,124,124,32,120,32,61,61,32,49,53]:ByteArray)) (r:=(td:List ei)) qD (ab rfl) (dU (ByteArray.mk #[120,32,60,32,121,32,124,124,32,120,32,61,61,32,49,53])) rfl (bZ cq).1 rfl (aH BZ) (ai.l3 (m:=td.length) 4 rfl (nt (aH BZ)) (ai.l3 (m:=td.length) 54 rfl (nt (aH BZ)) (ai.nil ?_)))
   obtain rfl:=aH h
   exact dq 0 (hm (av.1,av.2))
  have h:=gR al eg
  refine ag.skip ?_
  obtain rfl:=aH h
  exact dq 0 (hm (av.1,av.2))
 ·have h:=gQ al cy
  refine ag.cm (aB ?_)
  obtain⟨bP,c6,h⟩:=au h
  refine bh (l2 (i:=1) (k:=bP) (xs:=([bH,dn,hG,ih,ll,nD]:List ei)) Tryz.underlying26 oe (ab rfl) (bU 2) rfl (bZ c6)) ?_
  refine aY (aU Om) ?_
  obtain⟨rX,yL,h⟩:=au h
  refine ai.yn (i:=1) (k:=bP) ((aN.id ei).comp LY) (v:=(ByteArray.mk #[112,111,114,116,32,33,61,32,48]:ByteArray)) (r:=(rX:List ei)) qD (ab rfl) (dU (ByteArray.mk #[112,111,114,116,32,33,61,32,48])) rfl (bZ c6).1 rfl (aH yL) (ai.l3 (m:=rX.length) 4 rfl (nt (aH yL)) (ai.l3 (m:=rX.length) 46 rfl (nt (aH yL)) (ai.l3 (m:=rX.length) 49 rfl (nt (aH yL)) (ai.nil ?_))))
  obtain rfl:=aH h
  exact dq 0 (hm ((fj 40 0),6))
 have h:=gR al cy
 refine ag.skip ?_
 obtain rfl:=aH h
 exact dq 0 (hm ((fj 40 0),6))
theorem Tf {J:bu} {cu:Nat} {r:(List bX)×bu} (h:zK J=some r):b9 Tryz.prog 51 [I.eq (.pointer (some ⟨cu,0,none⟩))] [⟨some cu,.var (J:bu)⟩] (δ:=Unit) (fun d=>I.of (r.1)) (fun d=>[⟨some cu,.var (r.2:bu)⟩]):=by
 unfold zK at h
 refine b9.of Tryz.func51 rfl Tryz.ntmps51 rfl fun W A=>?_
 refine aC (bh (ew (look_nil (α:=bX))) ?_)
 refine bW ?_
 obtain⟨bH,dt,h⟩:=au h
 refine dG dt (c9 (b:= { cF:=ByteArray.mk #[97],g3:=4,cS:=1:cR }) rfl s3 ki (.cons si rfl (dU (ByteArray.mk #[97])) rfl (.cons nU rfl (bU 4) rfl (.cons lW rfl (bU 1) rfl (.nil))))) ?_
 refine gV [bH] Tryz.underlying40 iZ ki ?_
 refine gV ([1,2,4]:List Int) Tryz.underlying41 bE h0 ?_
 refine aB ?_
 refine ai.bI 0 rfl ?_
 obtain⟨aD,bo,h⟩:=au h
 refine ff 1 gT (gL bo) fun aA=>?_
 refine bj dd ?_
 refine aB ?_
 refine ai.bI 0 rfl ?_
 obtain⟨aK,cb,h⟩:=au h
 refine ff 1 gT (gL cb) fun cU=>?_
 refine bj dd ?_
 obtain⟨dn,hx,h⟩:=au h
 refine dG hx (c9 (b:=({ (default:bX) with b0:=1,cF:=ByteArray.mk #[112,111,114,116,115],bN:= [bH],dH:=([1,2,4]:List Int),hX:=bs (1+aD.1),j1:=bs (2+aK.1) } :bX)) rfl BT l6 (.cons p9 rfl (bU 1) rfl (.cons DQ rfl (dU (ByteArray.mk #[112,111,114,116,115])) rfl (.cons jZ rfl (ab rfl) rfl (.cons xv rfl (ab rfl) rfl (.cons DD rfl (ab rfl) rfl (.cons DR rfl (ab rfl) rfl (.nil)))))))) ?_
 refine cC l6 fun a4=>?_
 refine b8 0 gu ?_
 refine bW ?_
 obtain⟨fm,jH,h⟩:=au h
 refine dG jH (c9 (b:= { cF:=ByteArray.mk #[100],g3:=7,cS:=2:cR }) rfl s3 ki (.cons si rfl (dU (ByteArray.mk #[100])) rfl (.cons nU rfl (bU 7) rfl (.cons lW rfl (bU 2) rfl (.nil))))) ?_
 refine ai.pN (α:=cR) (r:= [fm]) Tryz.underlying40 iZ ki rfl rfl (.cons (by simp) (ab rfl) (.nil)) rfl fun gD=>?_
 refine gV ([1,2,3,4]:List Int) Tryz.underlying41 bE h0 ?_
 refine aB ?_
 refine ai.bI 2 rfl ?_
 obtain⟨bb,dR,h⟩:=au h
 refine ff 1 gT (gL dR) fun et=>?_
 refine bj dd ?_
 refine bh (rp (b:=({ (default:bX) with b0:=2,cF:=ByteArray.mk #[114,111,117,116,101,115],dH:=([1,2,3,4]:List Int),hX:=2,j1:=bs (3+bb.1) } :bX)) [] IF rfl BT l6 (.cons p9 rfl (bU 2) rfl (by rfl) (.cons DQ rfl (dU (ByteArray.mk #[114,111,117,116,101,115])) rfl (by rfl) (.hole jZ rfl (ab rfl) h9 rfl rfl (.cons xv rfl (ab rfl) rfl (by rfl) (.cons DD rfl (bU 2) rfl (by rfl) (.cons DR rfl (ab rfl) rfl (by rfl) (.nil)))))))) ?_
 refine ai.n9 (z:=(default:bX)) [2] IG l6 rfl fun ba=>?_
 refine ai.own (α:=cR) 39 (ai.sI (i:=1) gu (ab rfl) (ab rfl) rfl (bD (aC (aB ?_))))
 refine ai.bI 2 rfl ?_
 obtain⟨bJ,e2,h⟩:=au h
 refine ff 1 ov (nV e2) fun jS=>?_
 refine aL ?_
 obtain⟨bx,cy,h⟩:=au h
 refine jj (γ:=(Option Nat×Nat)) [0,2,3,4,28] (fun av=>[]) (fun av=>[(2,⟨some ba,.cj (bx.1:bX) [(2,aS av.1 bx.2.length av.2)]⟩),(3,⟨av.1,.row 39 (bx.2:List cR) av.2⟩)]) (fun av=>?_) (fun hm al=>?_) fun hm al=>?_
 ·refine ae.next (aC ?_)
  obtain⟨hF,mF,h⟩:=au h
  refine dG mF (c9 (b:= { cF:=ByteArray.mk #[101],g3:=6,cS:=3:cR }) rfl s3 ki (.cons si rfl (dU (ByteArray.mk #[101])) rfl (.cons nU rfl (bU 6) rfl (.cons lW rfl (bU 3) rfl (.nil))))) ?_
  obtain⟨hG,nC,h⟩:=au h
  refine dG nC (c9 (b:= { cF:=ByteArray.mk #[97],g3:=4,cS:=3:cR }) rfl s3 ki (.cons si rfl (dU (ByteArray.mk #[97])) rfl (.cons nU rfl (bU 4) rfl (.cons lW rfl (bU 3) rfl (.nil))))) ?_
  refine ai.pN (α:=cR) (r:= [hF,hG]) Tryz.underlying40 iZ ki rfl rfl (.cons (by simp) (ab rfl) (.cons (by simp) (ab rfl) (.nil))) rfl fun kj=>?_
  refine gV ([1,2,3,5,6]:List Int) Tryz.underlying41 bE h0 ?_
  refine aB ?_
  refine ai.bI 1 rfl ?_
  obtain⟨bq,gG,h⟩:=au h
  refine ff 1 gT (gL gG) fun eu=>?_
  refine bj dd ?_
  refine bh (rp (b:=({ (default:bX) with b0:=3,cF:=ByteArray.mk #[97,99,108],dH:=([1,2,3,5,6]:List Int),hX:=1,j1:=bs (4+bq.1) } :bX)) [] IF rfl BT l6 (.cons p9 rfl (bU 3) rfl (by rfl) (.cons DQ rfl (dU (ByteArray.mk #[97,99,108])) rfl (by rfl) (.hole jZ rfl (ab rfl) h9 rfl rfl (.cons xv rfl (ab rfl) rfl (by rfl) (.cons DD rfl (bU 1) rfl (by rfl) (.cons DR rfl (ab rfl) rfl (by rfl) (.nil)))))))) ?_
  refine ai.n9 (z:=(default:bX)) [2] IG l6 rfl fun ck=>?_
  refine ai.own (α:=cR) 39 (ai.sI (i:=1) gu (ab rfl) (ab rfl) rfl (bD (aC (aB ?_))))
  refine ai.bI 2 rfl ?_
  obtain⟨b6,gH,h⟩:=au h
  refine ff 1 ov (nV gH) fun jU=>?_
  refine aL ?_
  obtain⟨cY,eg,h⟩:=au h
  refine jj (γ:=(Option Nat×Nat)) [0,2,3,4,5,28,44] (fun aW=>[]) (fun aW=>[(2,⟨some ck,.cj (cY.1:bX) [(2,aS aW.1 cY.2.length aW.2)]⟩),(3,⟨aW.1,.row 39 (cY.2:List cR) aW.2⟩)]) (fun aW=>?_) (fun hm al=>?_) fun hm al=>?_
  ·refine ae.next (aC ?_)
   obtain⟨jQ,qB,h⟩:=au h
   refine dG qB (c9 (b:= { cF:=ByteArray.mk #[102],g3:=8,cS:=4:cR }) rfl s3 ki (.cons si rfl (dU (ByteArray.mk #[102])) rfl (.cons nU rfl (bU 8) rfl (.cons lW rfl (bU 4) rfl (.nil))))) ?_
   refine ai.pN (α:=cR) (r:= [jQ]) Tryz.underlying40 iZ ki rfl rfl (.cons (by simp) (ab rfl) (.nil)) rfl fun hf=>?_
   refine gV ([1,3,5]:List Int) Tryz.underlying41 bE h0 ?_
   refine bh (c9 (b:=({ (default:an) with b2:=7#64 } :an)) rfl hr en (.cons ev rfl (fT 7 rfl) rfl (.nil))) ?_
   refine gV [({ (default:an) with b2:=7#64 } :an)] Tryz.underlying42 bG en ?_
   refine aB ?_
   refine ai.bI 1 rfl ?_
   obtain⟨eB,mI,h⟩:=au h
   refine ff 1 gT (gL mI) fun q4=>?_
   refine bj dd ?_
   refine bh (rp (b:=({ (default:bX) with b0:=4,cF:=ByteArray.mk #[115,112,97,110,115],dH:=([1,3,5]:List Int),hX:=3,vx:= [({ (default:an) with b2:=7#64 } :an)],j1:=bs (3+eB.1) } :bX)) [] IF rfl BT l6 (.cons p9 rfl (bU 4) rfl (by rfl) (.cons DQ rfl (dU (ByteArray.mk #[115,112,97,110,115])) rfl (by rfl) (.hole jZ rfl (ab rfl) h9 rfl rfl (.cons xv rfl (ab rfl) rfl (by rfl) (.cons DD rfl (bU 3) rfl (by rfl) (.cons SB rfl (ab rfl) rfl (by rfl) (.cons DR rfl (ab rfl) rfl (by rfl) (.nil))))))))) ?_
   refine ai.n9 (z:=(default:bX)) [2] IG l6 rfl fun eW=>?_
   refine ai.own (α:=cR) 39 (ai.sI (i:=1) gu (ab rfl) (ab rfl) rfl (bD (aC (aB ?_))))
   refine ai.bI 2 rfl ?_
   obtain⟨fN,mb,h⟩:=au h
   refine ff 1 ov (nV mb) fun tB=>?_
   refine aL ?_
   obtain⟨fA,g6,h⟩:=au h
   refine jj (γ:=(Option Nat×Nat)) [0,2,3,4,5,6,28,44,61] (fun bB=>[]) (fun bB=>[(2,⟨some eW,.cj (fA.1:bX) [(2,aS bB.1 fA.2.length bB.2)]⟩),(3,⟨bB.1,.row 39 (fA.2:List cR) bB.2⟩)]) (fun bB=>?_) (fun hm al=>?_) fun hm al=>?_
   ·refine ae.next (aC (cr 10 gu ?_))
    refine ai.lf (β:=bX) (γ:=cR) (b':=(({ bx.1 with bN:=bx.2 } :bX):bX)) ((aN.id bX).comp jZ) 8 9 0 rfl rfl rfl rfl rfl rfl (ai.o0 8 rfl (cr 8 gu ?_))
    refine ai.lf (β:=bX) (γ:=cR) (b':=(({ cY.1 with bN:=cY.2 } :bX):bX)) ((aN.id bX).comp jZ) 5 6 0 rfl rfl rfl rfl rfl rfl (ai.o0 5 rfl (cr 5 gu ?_))
    refine ai.lf (β:=bX) (γ:=cR) (b':=(({ fA.1 with bN:=fA.2 } :bX):bX)) ((aN.id bX).comp jZ) 2 3 0 rfl rfl rfl rfl rfl rfl (ai.o0 2 rfl (cr 2 gu ?_))
    obtain⟨jR,qC,h⟩:=au h
    refine ai.QZ (α:=bX) (r0:= [dn,({ bx.1 with bN:=bx.2 } :bX),({ cY.1 with bN:=cY.2 } :bX),({ fA.1 with bN:=fA.2 } :bX)]) (r:=jR) Tryz.underlying27 gu l6 rfl rfl (.cons (by simp) (ab rfl) (.cons (by simp) (ab rfl) (.cons (by simp) (ab rfl) (.cons (by simp) (ab rfl) (.nil))))) (aH qC) rfl fun qs=>?_
    refine aM ?_
    refine bW ?_
    obtain⟨ih,tc,h⟩:=au h
    refine dG tc (jv (r:= [ByteArray.mk #[],ByteArray.mk #[97,32,33,61,32,48],ByteArray.mk #[97,32,60,32,49,52,32,38,38,32,97,32,33,61,32,51]]) Tryz.underlying176 qD F6 rfl rfl (.cons (by simp) (dU (ByteArray.mk #[])) (.cons (by simp) (dU (ByteArray.mk #[97,32,33,61,32,48])) (.cons (by simp) (dU (ByteArray.mk #[97,32,60,32,49,52,32,38,38,32,97,32,33,61,32,51])) (.nil))))) ?_
    obtain⟨mj,wY,h⟩:=au h
    refine dG wY (jv (r:= [ByteArray.mk #[],ByteArray.mk #[100,58,58,112,114,101,102,105,120,95,108,101,110,103,116,104,32,62,61,32,56],ByteArray.mk #[100,58,58,112,114,101,102,105,120,95,108,101,110,103,116,104,32,61,61,32,51,50,32,45,62,32,100,58,58,118,97,108,117,101,32,62,32,48,120,102,102]]) Tryz.underlying176 qD F6 rfl rfl (.cons (by simp) (dU (ByteArray.mk #[])) (.cons (by simp) (dU (ByteArray.mk #[100,58,58,112,114,101,102,105,120,95,108,101,110,103,116,104,32,62,61,32,56])) (.cons (by simp) (dU (ByteArray.mk #[100,58,58,112,114,101,102,105,120,95,108,101,110,103,116,104,32,61,61,32,51,50,32,45,62,32,100,58,58,118,97,108,117,101,32,62,32,48,120,102,102])) (.nil))))) ?_
    obtain⟨lH,wF,h⟩:=au h
    refine dG wF (jv (r:= [ByteArray.mk #[],ByteArray.mk #[112,114,105,111,114,105,116,121,32,60,32,49,48,48,32,38,38,32,40,101,58,58,109,97,115,107,32,33,61,32,48,32,124,124,32,97,58,58,109,97,115,107,32,33,61,32,48,41],ByteArray.mk #[101,58,58,109,97,115,107,32,61,61,32,48,32,45,62,32,112,114,105,111,114,105,116,121,32,62,32,53]]) Tryz.underlying176 qD F6 rfl rfl (.cons (by simp) (dU (ByteArray.mk #[])) (.cons (by simp) (dU (ByteArray.mk #[112,114,105,111,114,105,116,121,32,60,32,49,48,48,32,38,38,32,40,101,58,58,109,97,115,107,32,33,61,32,48,32,124,124,32,97,58,58,109,97,115,107,32,33,61,32,48,41])) (.cons (by simp) (dU (ByteArray.mk #[101,58,58,109,97,115,107,32,61,61,32,48,32,45,62,32,112,114,105,111,114,105,116,121,32,62,32,53])) (.nil))))) ?_
    obtain⟨lk,wG,h⟩:=au h
    refine dG wG (jv (r:= [ByteArray.mk #[],ByteArray.mk #[102,58,58,104,105,103,104,32,45,32,102,58,58,108,111,119,32,60,61,32,48,120,49,48,48],ByteArray.mk #[33,40,102,58,58,108,111,119,32,61,61,32,48,32,38,38,32,102,58,58,104,105,103,104,32,62,32,49,48,48,48,41]]) Tryz.underlying176 qD F6 rfl rfl (.cons (by simp) (dU (ByteArray.mk #[])) (.cons (by simp) (dU (ByteArray.mk #[102,58,58,104,105,103,104,32,45,32,102,58,58,108,111,119,32,60,61,32,48,120,49,48,48])) (.cons (by simp) (dU (ByteArray.mk #[33,40,102,58,58,108,111,119,32,61,61,32,48,32,38,38,32,102,58,58,104,105,103,104,32,62,32,49,48,48,48,41])) (.nil))))) ?_
    refine gV [ih,mj,lH,lk] Tryz.underlying177 Jf YW ?_
    refine aM ?_
    refine bD (aC (aB ?_))
    refine bh (oU (i:=0) Tryz.underlying27 (ab rfl) rfl rfl) ?_
    refine aB ?_
    refine aL (ag.block ?_)
    obtain⟨ay,ao,h⟩:=au h
    refine gE (γ:=(Option Nat×Nat)) (δ:=(Option Nat×Nat)) ao [0,2,3,4,5,6,8,28,44,61,80] (fun s1 cn=>[(7,I.eq (aS cn.1 s1.2.1.length cn.2)),(81,I.of (s1.1))]) (fun s1 cn=>[(0,⟨cn.1,.row 44 (s1.2.1:List bX) cn.2⟩),(1,⟨some cu,.var (s1.2.2:bu)⟩)]) (fun mS=>Exit.exit 0) (fun mS cn=>[(7,I.eq (aS cn.1 mS.2.2.1.length cn.2)),(81,I.of (mS.1)),(82,I.of (mS.2.1))]) (fun mS cn=>[(0,⟨cn.1,.row 44 (mS.2.2.1:List bX) cn.2⟩),(1,⟨some cu,.var (mS.2.2.2:bu)⟩)]) (qs,4) (fun s1 r h cn=>?_) fun cn=>?_
    ·refine aC (bj ea ?_)
     refine bD (cg h (fun h=>?_) fun h=>?_)
     ·refine cO (ag.seq (ag.block (aC (aB ?_))))
      refine aM ?_
      refine aL ?_
      obtain⟨aZ,cq,h⟩:=au h
      obtain⟨e8,o8,h⟩:=au h
      obtain⟨bP,c6,h⟩:=au h
      obtain⟨cT,fe,h⟩:=au h
      obtain⟨mJ,wH,h⟩:=au h
      refine jk [0,2,3,4,5,6,7,8,9,28,44,61,80,81,82,83] ?_
      refine ag.kP mixed (bg 84 [] [] _::bg 85 [] [] _::bg 86 [] [] _::bg 87 [] [] _::bg 88 (2::3::[]) [] _::bg 89 (4::[]) [] _::bg 90 [] [] _::⟨some 91,(6::[]),(1::[]),(1::[]),fun _=>I.of (e8.1),fun hd _=>⟨some cu,.var (e8.2:bu)⟩⟩::bg 92 (5::7::[]) [] _::bg 93 (8::[]) [] _::bg 94 (0::1::[]) (0::[]) _::bg 95 (10::[]) [] _::⟨none,(9::10::11::[]),(0::[]),(0::[]),fun _=>I.any,fun hd _=>⟨cn.1,.row 44 (mJ:List bX) cn.2⟩⟩::[]) _ (0::2::3::4::5::6::7::8::9::28::44::61::80::81::82::83::[]) rfl rfl (by kernel_rfl) ⟨fP,fP,fP,fP,cz fun hd E' ax aG ar=>ql (k:=aZ) Tryz.underlying177 Jf (ab (aG _ _ rfl)) (ab (aG _ _ rfl)) (bZ cq),fy (da Jf),fP,?_,cz fun hd E' ax aG ar=>ql (k:=bP) Tryz.underlying176 qD (ab (aG _ _ rfl)) (ab (aG _ _ rfl)) (bZ c6),fy (da qD),cz fun hd E' ax aG ar=>l2 (i:=0) (k:=cT) (xs:=(s1.2.1:List bX)) Tryz.underlying27 gu (ab (aG _ _ rfl)) (ab (aG _ _ rfl)) (ar 0 _ rfl rfl) (bZ fe),fy (aU XQ),?_,trivial⟩ fun fj=>?_
      ·intro hd E' ax aG ar
       refine ai.bI 1 (ar 1 _ rfl rfl) (ai.nw (Lin:= [⟨some cu,.var (s1.2.2:bu)⟩]) (Lr:=ax.eraseIdx 1) gT (gL o8) ⟨ab (aG _ _ rfl),bU 3,trivial⟩ rfl fun F7=>?_)
       exact ai.nil (ae.back 1 (ar 1 _ rfl rfl) (ae.fin (eP []) rfl rfl))
      ·intro hd E' ax aG ar
       exact ai.yn (i:=0) (k:=cT) ((aN.id bX).comp SC) (v:=(az (az [ih,mj,lH,lk] aZ) bP:ByteArray)) (r:=(mJ:List bX)) qD (ab (aG _ _ rfl)) (ab (aG _ _ rfl)) (ar 0 _ rfl rfl) (bZ fe).1 rfl (aH wH) (ai.nil (ae.fin (eP []) rfl rfl))
      refine ae.ez (L2:= [⟨cn.1,.row 44 (mJ:List bX) cn.2⟩,⟨some cu,.var (e8.2:bu)⟩,⟨none,.row 39 (([]:List cR):List cR) 0⟩,⟨some eW,.var (({ fA.1 with bN:=fA.2 } :bX):bX)⟩,⟨none,.dead⟩,⟨none,.row 39 (([]:List cR):List cR) 0⟩,⟨some ck,.var (({ cY.1 with bN:=cY.2 } :bX):bX)⟩,⟨none,.dead⟩,⟨none,.row 39 (([]:List cR):List cR) 0⟩,⟨some ba,.var (({ bx.1 with bN:=bx.2 } :bX):bX)⟩,⟨none,.dead⟩,⟨some a4,.var (dn:bX)⟩]) rfl (ae.l3 (m:=mJ.length) 7 rfl (nt (aH wH)) (ae.l3 (m:=mJ.length) 84 rfl (nt (aH wH)) (km [0,2,3,4,5,6,7,8,9,28,44,61,80,81,82,83,84,85,86,87,88,89,90,91,92,93,94,95] ?_)))
      refine ae.dB (ae.next (ag.cm (bj dd ?_)))
      refine aB ?_
      refine ai.nil ?_
      obtain rfl:=aH h
      exact fc (cn.1,cn.2) 0
     refine ag.exit (ae.exit ?_)
     obtain rfl:=aH h
     exact dY (cn.1,cn.2) 0
    refine ae.e1 (ae.next (aC (aB ?_)))
    refine aM ?_
    refine aL (ag.ret (ae.n4 (α:=bX) 0 [2,7,97] ⟨rfl,rfl,rfl,trivial⟩ rfl (ae.bI 1 rfl ?_)))
    obtain rfl:=aH h
    exact kW ()
   ·have h:=gQ al g6
    refine ag.cm (aY (aU k8) ?_)
    refine bh (ho (i:=2) (q:=0) (β:=bX) (γ:=cR) kQ (ab rfl) rfl rfl) ?_
    obtain⟨ll,BV,h⟩:=au h
    refine dG BV (c9 (b:= { cF:=ByteArray.mk #[103],g3:=9,cS:=1:cR }) rfl s3 ki (.cons si rfl (dU (ByteArray.mk #[103])) rfl (.cons nU rfl (bU 9) rfl (.cons lW rfl (bU 1) rfl (.nil))))) ?_
    obtain⟨lI,BW,h⟩:=au h
    refine dG BW (c9 (b:= { cF:=ByteArray.mk #[100],g3:=7,cS:=2:cR }) rfl s3 ki (.cons si rfl (dU (ByteArray.mk #[100])) rfl (.cons nU rfl (bU 7) rfl (.cons lW rfl (bU 2) rfl (.nil))))) ?_
    refine gV [ll,lI] Tryz.underlying40 iZ ki ?_
    obtain⟨ee,qt,h⟩:=au h
    refine jI 3 Tryz.underlying40 iZ ki qt fun pP fC=>?_
    refine aY (aU k8) ?_
    refine ai.iP (i:=2) (γ:=cR) (b':=(({ ({ (default:bX) with b0:=4,cF:=ByteArray.mk #[115,112,97,110,115],dH:=([1,3,5]:List Int),hX:=3,vx:= [({ (default:an) with b2:=7#64 } :an)],j1:=bs (3+eB.1) } :bX) with bN:= [] } :bX):bX)) (os':= [(2,aS pP ee.length fC)]) ((aN.id bX).comp jZ) kQ (ab rfl) (ab rfl) h9 rfl rfl rfl rfl (ai.nil ?_)
    obtain rfl:=aH h
    exact dq 0 (hm (pP,fC))
   have h:=gR al g6
   refine ag.skip ?_
   obtain rfl:=aH h
   exact dq 0 (hm (hf,1))
  ·have h:=gQ al eg
   refine ag.cm (aY (aU k8) ?_)
   refine bh (ho (i:=2) (q:=0) (β:=bX) (γ:=cR) kQ (ab rfl) rfl rfl) ?_
   obtain⟨o7,BX,h⟩:=au h
   refine dG BX (c9 (b:= { cF:=ByteArray.mk #[98],g3:=5,cS:=1:cR }) rfl s3 ki (.cons si rfl (dU (ByteArray.mk #[98])) rfl (.cons nU rfl (bU 5) rfl (.cons lW rfl (bU 1) rfl (.nil))))) ?_
   refine gV [o7] Tryz.underlying40 iZ ki ?_
   obtain⟨jl,s4,h⟩:=au h
   refine jI 3 Tryz.underlying40 iZ ki s4 fun BU hD=>?_
   refine aY (aU k8) ?_
   refine ai.iP (i:=2) (γ:=cR) (b':=(({ ({ (default:bX) with b0:=3,cF:=ByteArray.mk #[97,99,108],dH:=([1,2,3,5,6]:List Int),hX:=1,j1:=bs (4+bq.1) } :bX) with bN:= [] } :bX):bX)) (os':= [(2,aS BU jl.length hD)]) ((aN.id bX).comp jZ) kQ (ab rfl) (ab rfl) h9 rfl rfl rfl rfl (ai.nil ?_)
   obtain rfl:=aH h
   exact dq 0 (hm (BU,hD))
  have h:=gR al eg
  refine ag.skip ?_
  obtain rfl:=aH h
  exact dq 0 (hm (kj,2))
 ·have h:=gQ al cy
  refine ag.cm (aY (aU k8) ?_)
  refine bh (ho (i:=2) (q:=0) (β:=bX) (γ:=cR) kQ (ab rfl) rfl rfl) ?_
  obtain⟨pU,BY,h⟩:=au h
  refine dG BY (c9 (b:= { cF:=ByteArray.mk #[109],g3:=3,cS:=1:cR }) rfl s3 ki (.cons si rfl (dU (ByteArray.mk #[109])) rfl (.cons nU rfl (bU 3) rfl (.cons lW rfl (bU 1) rfl (.nil))))) ?_
  refine gV [pU] Tryz.underlying40 iZ ki ?_
  obtain⟨jb,s5,h⟩:=au h
  refine jI 3 Tryz.underlying40 iZ ki s5 fun Q0 pO=>?_
  refine aY (aU k8) ?_
  refine ai.iP (i:=2) (γ:=cR) (b':=(({ ({ (default:bX) with b0:=2,cF:=ByteArray.mk #[114,111,117,116,101,115],dH:=([1,2,3,4]:List Int),hX:=2,j1:=bs (3+bb.1) } :bX) with bN:= [] } :bX):bX)) (os':= [(2,aS Q0 jb.length pO)]) ((aN.id bX).comp jZ) kQ (ab rfl) (ab rfl) h9 rfl rfl rfl rfl (ai.nil ?_)
  obtain rfl:=aH h
  exact dq 0 (hm (Q0,pO))
 have h:=gR al cy
 refine ag.skip ?_
 obtain rfl:=aH h
 exact dq 0 (hm (gD,1))
theorem Tr {J:bu} {ah:List bX} {cu:Nat} {r:(List c3)×bu} (h:zU J ah=some r):b9 Tryz.prog 52 [I.eq (.pointer (some ⟨cu,0,none⟩)),I.of (ah)] [⟨some cu,.var (J:bu)⟩] (δ:=Unit) (fun d=>I.of (r.1)) (fun d=>[⟨some cu,.var (r.2:bu)⟩]):=by
 unfold zU at h
 refine b9.of Tryz.func52 rfl Tryz.ntmps52 rfl fun W A=>?_
 refine aC (bh (ew (look_nil (α:=c3))) ?_)
 refine bW (gV ([1,2,3,4,5,6]:List Int) Tryz.underlying41 bE h0 ?_)
 refine bh (rp (b:=({ (default:c3) with b0:=1,cF:=ByteArray.mk #[97,108,108],dH:=([1,2,3,4,5,6]:List Int),sD:=40,A7:=true } :c3)) [2] yg rfl Jg uB (.cons D1 rfl (bU 1) rfl (by rfl) (.cons Hl rfl (dU (ByteArray.mk #[97,108,108])) rfl (by rfl) (.cons Ha rfl (ab rfl) rfl (by rfl) (.cons Hg rfl (bU 40) rfl (by rfl) (.cons Ts rfl (gi true) rfl (by rfl) (.nil))))))) ?_
 refine ai.own (α:=dN) 183 (ai.n9 (z:=(default:c3)) [2] yg uB rfl fun a4=>?_)
 refine ai.own (α:=dN) 183 (ai.sI (i:=1) rJ (ab rfl) (ab rfl) rfl (bW (aB ?_)))
 refine ai.bI 3 rfl ?_
 obtain⟨aD,bo,h⟩:=au h
 refine ff 1 gT (gL bo) fun aA=>?_
 refine bj dd ?_
 refine gV ([1,2,bs (3+aD.1)]:List Int) Tryz.underlying41 bE h0 ?_
 refine aB ?_
 refine ai.bI 0 rfl ?_
 obtain⟨aK,cb,h⟩:=au h
 refine ff 1 gT (gL cb) fun cU=>?_
 refine bj dd ?_
 refine bh (rp (b:=({ (default:c3) with b0:=2,cF:=ByteArray.mk #[115,111,109,101],dH:=([1,2,bs (3+aD.1)]:List Int),sD:=bs (1+aK.1) } :c3)) [2] yg rfl Jg uB (.cons D1 rfl (bU 2) rfl (by rfl) (.cons Hl rfl (dU (ByteArray.mk #[115,111,109,101])) rfl (by rfl) (.cons Ha rfl (ab rfl) rfl (by rfl) (.cons Hg rfl (ab rfl) rfl (by rfl) (.nil)))))) ?_
 refine ai.own (α:=dN) 183 (ai.n9 (z:=(default:c3)) [2] yg uB rfl fun ba=>?_)
 refine ai.own (α:=dN) 183 (ai.sI (i:=1) rJ (ab rfl) (ab rfl) rfl (bW (aB ?_)))
 refine ai.bI 3 rfl ?_
 obtain⟨bb,dR,h⟩:=au h
 refine ff 1 gT (gL dR) fun et=>?_
 refine bj dd ?_
 refine gV [bs (1+bb.1)] Tryz.underlying41 bE h0 ?_
 refine aB ?_
 refine ai.bI 0 rfl ?_
 obtain⟨bJ,e2,h⟩:=au h
 refine ff 1 gT (gL e2) fun jS=>?_
 refine bh (rp (b:=({ (default:c3) with b0:=7,cF:=ByteArray.mk #[102,101,119],dH:= [bs (1+bb.1)],sD:=bJ.1 } :c3)) [2] yg rfl Jg uB (.cons D1 rfl (bU 7) rfl (by rfl) (.cons Hl rfl (dU (ByteArray.mk #[102,101,119])) rfl (by rfl) (.cons Ha rfl (ab rfl) rfl (by rfl) (.cons Hg rfl (ab rfl) rfl (by rfl) (.nil)))))) ?_
 refine ai.own (α:=dN) 183 (ai.n9 (z:=(default:c3)) [2] yg uB rfl fun ck=>?_)
 refine ai.own (α:=dN) 183 (ai.sI (i:=1) rJ (ab rfl) (ab rfl) rfl (bD (aC (aB ?_))))
 refine aY (eK Tryz.underlying27) ?_
 refine aB ?_
 refine aL (ag.block ?_)
 obtain⟨ay,ao,h⟩:=au h
 refine gE (γ:=(Option Nat×Nat)×(Option Nat×Nat)×(Option Nat×Nat)) (δ:=(Option Nat×Nat)×(Option Nat×Nat)×(Option Nat×Nat)) ao [0,1,4,5,6,7,30,31] (fun s1 av=>[(32,I.of (s1.1))]) (fun s1 av=>[(1,⟨some ck,.cj (s1.2.1:c3) [(2,aS av.1.1 s1.2.2.1.length av.1.2)]⟩),(2,⟨av.1.1,.row 183 (s1.2.2.1:List dN) av.1.2⟩),(3,⟨some cu,.var (s1.2.2.2.1:bu)⟩),(5,⟨some ba,.cj (s1.2.2.2.2.1:c3) [(2,aS av.2.1.1 s1.2.2.2.2.2.1.length av.2.1.2)]⟩),(6,⟨av.2.1.1,.row 183 (s1.2.2.2.2.2.1:List dN) av.2.1.2⟩),(8,⟨some a4,.cj (s1.2.2.2.2.2.2.1:c3) [(2,aS av.2.2.1 s1.2.2.2.2.2.2.2.length av.2.2.2)]⟩),(9,⟨av.2.2.1,.row 183 (s1.2.2.2.2.2.2.2:List dN) av.2.2.2⟩)]) (fun eu=>Exit.exit 0) (fun eu av=>[(32,I.of (eu.1)),(33,I.of (eu.2.1))]) (fun eu av=>[(1,⟨some ck,.cj (eu.2.2.1:c3) [(2,aS av.1.1 eu.2.2.2.1.length av.1.2)]⟩),(2,⟨av.1.1,.row 183 (eu.2.2.2.1:List dN) av.1.2⟩),(3,⟨some cu,.var (eu.2.2.2.2.1:bu)⟩),(5,⟨some ba,.cj (eu.2.2.2.2.2.1:c3) [(2,aS av.2.1.1 eu.2.2.2.2.2.2.1.length av.2.1.2)]⟩),(6,⟨av.2.1.1,.row 183 (eu.2.2.2.2.2.2.1:List dN) av.2.1.2⟩),(8,⟨some a4,.cj (eu.2.2.2.2.2.2.2.1:c3) [(2,aS av.2.2.1 eu.2.2.2.2.2.2.2.2.length av.2.2.2)]⟩),(9,⟨av.2.2.1,.row 183 (eu.2.2.2.2.2.2.2.2:List dN) av.2.2.2⟩)]) ((none,0),(none,0),(none,0)) (fun s1 r h av=>?_) fun av=>?_
 ·refine aC (bj ea ?_)
  refine bD (cg h (fun h=>?_) fun h=>?_)
  ·refine cO (ag.seq (ag.block (aC ?_)))
   obtain⟨aZ,cq,h⟩:=au h
   refine g5 cq Tryz.underlying27 gu ?_
   refine aY (da gu) ?_
   refine cC l6 fun eW=>?_
   refine b8 0 gu ?_
   refine bW (aY (aU k8) ?_)
   refine cc 0 jZ kQ ?_
   refine aY (eK Tryz.underlying40) ?_
   obtain⟨bq,gG,h⟩:=au h
   refine ai.F8 Tryz.underlying181 gF F9 rfl (by kernel_rfl) (ab rfl) (ab rfl) gG rfl fun gD=>?_
   refine aM ?_
   refine bW (aY (aU k8) ?_)
   refine cc 1 jZ kQ ?_
   refine aY (eK Tryz.underlying40) ?_
   obtain⟨b6,gH,h⟩:=au h
   refine ai.F8 Tryz.underlying181 gF F9 rfl (by kernel_rfl) (ab rfl) (ab rfl) gH rfl fun kj=>?_
   refine aM ?_
   refine bD (aC (aB ?_))
   refine bh (oU (i:=1) Tryz.underlying181 (ab rfl) rfl rfl) ?_
   refine aB ?_
   refine aL (ag.block ?_)
   obtain⟨aO,ao,h⟩:=au h
   refine gE (γ:=(Option Nat×Nat)×(Option Nat×Nat)) (δ:=(Option Nat×Nat)×(Option Nat×Nat)) ao [0,1,4,5,6,7,9,30,31,32,33,45] (fun s2 aW=>[(10,I.eq (aS aW.2.1 s2.2.2.1.length aW.2.2)),(11,I.eq (aS aW.1.1 s2.2.1.length aW.1.2)),(46,I.of (s2.1))]) (fun s2 aW=>[(0,⟨aW.1.1,.row 4 (s2.2.1:List Bool) aW.1.2⟩),(1,⟨aW.2.1,.row 4 (s2.2.2.1:List Bool) aW.2.2⟩),(6,⟨some cu,.var (s2.2.2.2:bu)⟩)]) (fun jU=>Exit.exit 2) (fun jU aW=>[(10,I.eq (aS aW.2.1 jU.2.2.2.1.length aW.2.2)),(11,I.eq (aS aW.1.1 jU.2.2.1.length aW.1.2)),(46,I.of (jU.1)),(47,I.of (jU.2.1))]) (fun jU aW=>[(0,⟨aW.1.1,.row 4 (jU.2.2.1:List Bool) aW.1.2⟩),(1,⟨aW.2.1,.row 4 (jU.2.2.2.1:List Bool) aW.2.2⟩),(6,⟨some cu,.var (jU.2.2.2.2:bu)⟩)]) ((kj,b6.length),(gD,bq.length)) (fun s2 r h aW=>?_) fun aW=>?_
   ·refine aC (bj ea ?_)
    refine bD (cg h (fun h=>?_) fun h=>?_)
    ·refine cO (ag.seq (ag.block (aC (aB ?_))))
     refine aM ?_
     refine aL (ag.cm (aB ?_))
     refine aB ?_
     refine aB ?_
     refine aB ?_
     refine aB ?_
     refine ai.bI 6 rfl ?_
     obtain⟨eB,mI,h⟩:=au h
     refine ff 1 gT (gL mI) fun q4=>?_
     refine bj pI ?_
     obtain⟨bP,c6,h⟩:=au h
     refine bh (l2 (i:=2) (k:=bP) (xs:=(s2.2.2.1:List Bool)) Tryz.underlying181 gF (ab rfl) (ab rfl) rfl (bZ c6)) ?_
     refine ai.yn (i:=2) (k:=bP) (aN.id Bool) (v:=(true:Bool)) (r:=(h5 s2.2.2.1 bP true:List Bool)) gF (ab rfl) (gi true) rfl (bZ c6).1 rfl rfl (ai.l3 (m:=(h5 s2.2.2.1 bP true).length) 10 rfl (nt rfl) (ai.l3 (m:=(h5 s2.2.2.1 bP true).length) 49 rfl (nt rfl) ?_))
     obtain⟨cT,fe,h⟩:=au h
     refine bh (l2 (i:=1) (k:=cT) (xs:=(s2.2.1:List Bool)) Tryz.underlying181 gF (ab rfl) (ab rfl) rfl (bZ fe)) ?_
     refine ai.yn (i:=1) (k:=cT) (aN.id Bool) (v:=(decide (eB.1>0):Bool)) (r:=(h5 s2.2.1 cT (decide (eB.1>0)):List Bool)) gF (ab rfl) (ab rfl) rfl (bZ fe).1 rfl rfl (ai.l3 (m:=(h5 s2.2.1 cT (decide (eB.1>0))).length) 11 rfl (nt rfl) (ai.l3 (m:=(h5 s2.2.1 cT (decide (eB.1>0))).length) 51 rfl (nt rfl) (ai.nil (ae.dB (ae.next (ag.cm (bj dd ?_)))))))
     refine aB ?_
     refine ai.nil (ae.bI 6 rfl (ae.bI 6 rfl (ae.bI 6 rfl (ae.bI 6 rfl (ae.bI 6 rfl (ae.bI 6 rfl ?_))))))
     obtain rfl:=aH h
     exact fc ((aW.1.1,aW.1.2),(aW.2.1,aW.2.2)) 0
    refine ag.exit (ae.exit ?_)
    obtain rfl:=aH h
    exact dY ((aW.1.1,aW.1.2),(aW.2.1,aW.2.2)) 0
   refine ae.e1 (ae.next (aC (aY (aU yh) ?_)))
   refine bh (ho (i:=11) (q:=0) (β:=c3) (γ:=dN) wm (ab rfl) rfl rfl) ?_
   refine aY (aU vV) ?_
   refine cc 2 p9 bE ?_
   refine aB ?_
   refine ai.n4 (α:=Bool) 1 [63,10] ⟨rfl,rfl,trivial⟩ rfl ?_
   obtain⟨bH,dt,h⟩:=au h
   refine dG dt (c9 (b:= { ef:=(az ah aZ).b0,sJ:=true,sE:=true,bN:=aO.2.2.2.1:dN }) rfl Jh sS (.cons Hd rfl (ab rfl) rfl (.cons Hh rfl (gi true) rfl (.cons He rfl (gi true) rfl (.cons Hi rfl (ab rfl) rfl (.nil)))))) ?_
   refine gV [bH] Tryz.underlying178 yB sS ?_
   obtain⟨fN,mb,h⟩:=au h
   refine jI 12 Tryz.underlying178 yB sS mb fun hf fC=>?_
   refine aY (aU yh) ?_
   refine ai.iP (i:=11) (γ:=dN) (b':=(({ s1.2.2.2.2.2.2.1 with j0:= [] } :c3):c3)) (os':= [(2,aS hf fN.length fC)]) ((aN.id c3).comp xz) wm (ab rfl) (ab rfl) h9 rfl rfl rfl rfl (bD (aC (aB ?_)))
   refine ai.bI 6 rfl ?_
   obtain⟨e8,o8,h⟩:=au h
   refine ff 1 gT (gL o8) fun tB=>?_
   refine bj pI ?_
   refine aL (ag.freeze (α:=Bool) 1 11 rfl rfl ?_)
   obtain⟨bx,cy,h⟩:=au h
   refine jj (γ:=(Option Nat×Nat)) [0,1,4,5,6,7,9,10,11,30,31,32,33,45,46,47,70] (fun bB=>[]) (fun bB=>[(0,⟨some cu,.var (bx.1:bu)⟩),(8,⟨some ba,.cj (bx.2.1:c3) [(2,aS bB.1 bx.2.2.length bB.2)]⟩),(9,⟨bB.1,.row 183 (bx.2.2:List dN) bB.2⟩)]) (fun bB=>?_) (fun hm al=>?_) fun hm al=>?_
   ·refine ae.next (aC (aB ?_))
    refine ai.bI 0 rfl ?_
    obtain⟨ee,qt,h⟩:=au h
    refine ff 1 ov (nV qt) fun mS=>?_
    refine aL ?_
    obtain⟨cY,eg,h⟩:=au h
    refine jj (γ:=(Option Nat×Nat)) [0,1,4,5,6,7,9,10,11,30,31,32,33,45,46,47,70,86] (fun cn=>[]) (fun cn=>[(0,⟨some cu,.var (cY.1:bu)⟩),(5,⟨some ck,.cj (cY.2.1:c3) [(2,aS cn.1 cY.2.2.length cn.2)]⟩),(6,⟨cn.1,.row 183 (cY.2.2:List dN) cn.2⟩)]) (fun cn=>?_) (fun hm al=>?_) fun hm al=>?_
    ·refine ae.dB (ae.next (ag.cm (bj dd ?_)))
     refine aB ?_
     refine ai.nil (ae.bI 6 rfl (ae.bI 6 rfl (ae.bI 6 rfl (ae.bI 6 rfl (ae.bI 6 rfl (ae.bI 6 rfl ?_))))))
     obtain rfl:=aH h
     exact fc ((cn.1,cn.2),(bB.1,bB.2),(hf,fC)) 3
    ·have h:=gQ al eg
     obtain⟨jl,s4,h⟩:=au h
     obtain⟨jb,s5,h⟩:=au h
     obtain⟨dn,hx,h⟩:=au h
     obtain⟨jx,wI,h⟩:=au h
     refine jk [0,1,4,5,6,7,9,10,11,30,31,32,33,45,46,47,70,85,86] ?_
     refine ag.kP mixed (bg 87 [] [] _::bg 88 (0::[]) (5::[]) _::bg 89 [] [] _::bg 90 (2::[]) (3::[]) _::bg 91 [] [] _::⟨some 92,(4::[]),(0::[]),(0::[]),fun _=>I.of (jl.1),fun hd _=>⟨some cu,.var (jl.2:bu)⟩⟩::bg 93 [] [] _::⟨some 94,(5::6::[]),(0::[]),(0::[]),fun _=>I.of (jb.1),fun hd _=>⟨some cu,.var (jb.2:bu)⟩⟩::bg 95 [] [] _::bg 96 (3::5::7::8::[]) [] _::bg 97 (9::[]) [] _::⟨some 98,(1::10::[]),(6::[]),(6::[]),fun hd=>I.eq (aS (hd 11 0) jx.length ((hd 11 1).getD 0)),fun hd _=>⟨(hd 11 0),.row 183 (jx:List dN) ((hd 11 1).getD 0)⟩⟩::bg 99 [] [] _::⟨none,(1::11::12::[]),(5::[]),(5::[]),fun _=>I.any,fun hd _=>⟨some ck,.cj (({ s1.2.1 with j0:= [] } :c3):c3) [(2,aS (hd 11 0) jx.length ((hd 11 1).getD 0))]⟩⟩::[]) _ (0::1::4::5::6::7::9::10::11::30::31::32::33::45::46::47::70::85::86::[]) rfl rfl (by kernel_rfl) ⟨fy (aU yh),cz fun hd E' ax aG ar=>ho (i:=5) (q:=0) (β:=c3) (γ:=dN) wm (ab (aG _ _ rfl)) (ar 5 _ rfl rfl) rfl,fy (aU vV),o3 3 p9 bE,fP,?_,fP,?_,fP,cz fun hd E' ax aG ar=>(c9 (b:= { ef:=(az ah aZ).b0,sJ:=jl.1,sE:=jb.1,bN:=aO.2.2.2.1:dN }) rfl Jh sS (.cons Hd rfl (ab (aG _ _ rfl)) rfl (.cons Hh rfl (ab (aG _ _ rfl)) rfl (.cons He rfl (ab (aG _ _ rfl)) rfl (.cons Hi rfl (ab (aG _ _ rfl)) rfl (.nil)))))).as (aH hx),cz fun hd E' ax aG ar=>jv (r:= [dn]) Tryz.underlying178 yB sS rfl rfl (.cons (by simp) (ab (aG _ _ rfl)) (.nil)),?_,fy (aU yh),?_,trivial⟩ fun fj=>?_
     ·intro hd E' ax aG ar
      refine ai.bI 0 (ar 0 _ rfl rfl) (ai.nw (Lin:= [⟨some cu,.var (ee.2:bu)⟩]) (Lr:=ax.eraseIdx 0) ov (nV s4) ⟨ab (aG _ _ rfl),trivial⟩ rfl fun F7=>?_)
      exact ai.nil (ae.back 0 (ar 0 _ rfl rfl) (ae.fin (eP []) rfl rfl))
     ·intro hd E' ax aG ar
      refine ai.bI 0 (ar 0 _ rfl rfl) (ai.nw (Lin:= [⟨some cu,.var (jl.2:bu)⟩]) (Lr:=ax.eraseIdx 0) ov (nV s5) ⟨ab (aG _ _ rfl),trivial⟩ rfl fun mc=>?_)
      exact ai.nil (ae.back 0 (ar 0 _ rfl rfl) (ae.fin (eP []) rfl rfl))
     ·intro hd E' ax aG ar
      refine ai.app (i:=6) Tryz.underlying178 yB sS (bytes:=40) (by kernel_rfl) (ab (aG _ _ rfl)) (ar 6 _ rfl rfl) (ab (aG _ _ rfl)) wI rfl fun qs hD=>?_
      exact ai.nil (ae.fin (eP [qs,some hD]) rfl rfl)
     ·intro hd E' ax aG ar
      exact ai.iP (i:=5) (γ:=dN) (b':=(({ s1.2.1 with j0:= [] } :c3):c3)) (os':= [(2,aS (hd 11 0) jx.length ((hd 11 1).getD 0))]) ((aN.id c3).comp xz) wm (ab (aG _ _ rfl)) (ab (aG _ _ rfl)) h9 (ar 5 _ rfl rfl) rfl rfl rfl (ai.nil (ae.fin (eP []) rfl rfl))
     refine ae.ez (L2:= [⟨some cu,.var (jb.2:bu)⟩,⟨none,.dead⟩,⟨none,.dead⟩,⟨some eW,.var (az ah aZ:bX)⟩,⟨none,.row 183 (([]:List dN):List dN) 0⟩,⟨some ck,.cj (({ s1.2.1 with j0:= [] } :c3):c3) [(2,aS (fj 11 0) jx.length ((fj 11 1).getD 0))]⟩,⟨(fj 11 0),.row 183 (jx:List dN) ((fj 11 1).getD 0)⟩,⟨none,.row 183 (([]:List dN):List dN) 0⟩,⟨some ba,.cj (bx.2.1:c3) [(2,aS bB.1 bx.2.2.length bB.2)]⟩,⟨bB.1,.row 183 (bx.2.2:List dN) bB.2⟩,⟨none,.row 183 (([]:List dN):List dN) 0⟩,⟨some a4,.cj (({ s1.2.2.2.2.2.2.1 with j0:= [] } :c3):c3) [(2,aS hf fN.length fC)]⟩,⟨hf,.row 183 (fN:List dN) fC⟩]) rfl (km [0,1,4,5,6,7,9,10,11,30,31,32,33,45,46,47,70,85,86,87,89,90,91,92,93,94,95,96,97,98,99] ?_)
     obtain rfl:=aH h
     exact dq 0 (hm ((fj 11 0),((fj 11 1).getD 0)))
    have h:=gR al eg
    refine ag.skip ?_
    obtain rfl:=aH h
    exact dq 0 (hm (av.1.1,av.1.2))
   ·have h:=gQ al cy
    obtain⟨kG,wJ,h⟩:=au h
    obtain⟨o9,JQ,h⟩:=au h
    obtain⟨fm,jH,h⟩:=au h
    obtain⟨qE,JR,h⟩:=au h
    refine jk [0,1,4,5,6,7,9,10,11,30,31,32,33,45,46,47,59,61,62,63,64,65,66,67,68,69,70] ?_
    refine ag.kP mixed (bg 71 [] [] _::bg 72 (0::[]) (8::[]) _::bg 73 [] [] _::bg 74 (2::[]) (3::[]) _::bg 75 [] [] _::⟨some 76,(4::[]),(0::[]),(0::[]),fun _=>I.of (kG.1),fun hd _=>⟨some cu,.var (kG.2:bu)⟩⟩::bg 77 (5::[]) [] _::bg 78 [] [] _::⟨some 79,(5::7::[]),(0::[]),(0::[]),fun _=>I.of (o9.1),fun hd _=>⟨some cu,.var (o9.2:bu)⟩⟩::bg 80 [] [] _::bg 81 (3::6::8::9::[]) [] _::bg 82 (10::[]) [] _::⟨some 83,(1::11::[]),(9::[]),(9::[]),fun hd=>I.eq (aS (hd 12 0) qE.length ((hd 12 1).getD 0)),fun hd _=>⟨(hd 12 0),.row 183 (qE:List dN) ((hd 12 1).getD 0)⟩⟩::bg 84 [] [] _::⟨none,(1::12::13::[]),(8::[]),(8::[]),fun _=>I.any,fun hd _=>⟨some ba,.cj (({ s1.2.2.2.2.1 with j0:= [] } :c3):c3) [(2,aS (hd 12 0) qE.length ((hd 12 1).getD 0))]⟩⟩::[]) _ (0::1::4::5::6::7::9::10::11::30::31::32::33::45::46::47::59::61::62::63::64::65::66::67::68::69::70::[]) rfl rfl (by kernel_rfl) ⟨fy (aU yh),cz fun hd E' ax aG ar=>ho (i:=8) (q:=0) (β:=c3) (γ:=dN) wm (ab (aG _ _ rfl)) (ar 8 _ rfl rfl) rfl,fy (aU vV),o3 3 p9 bE,fP,?_,zb pI,fP,?_,fP,cz fun hd E' ax aG ar=>(c9 (b:= { ef:=(az ah aZ).b0,sJ:=decide (kG.1>0),sE:=o9.1,bN:=aO.2.2.1:dN }) rfl Jh sS (.cons Hd rfl (ab (aG _ _ rfl)) rfl (.cons Hh rfl (ab (aG _ _ rfl)) rfl (.cons He rfl (ab (aG _ _ rfl)) rfl (.cons Hi rfl (ab (aG _ _ rfl)) rfl (.nil)))))).as (aH jH),cz fun hd E' ax aG ar=>jv (r:= [fm]) Tryz.underlying178 yB sS rfl rfl (.cons (by simp) (ab (aG _ _ rfl)) (.nil)),?_,fy (aU yh),?_,trivial⟩ fun jJ=>?_
    ·intro hd E' ax aG ar
     refine ai.bI 0 (ar 0 _ rfl rfl) (ai.nw (Lin:= [⟨some cu,.var (e8.2:bu)⟩]) (Lr:=ax.eraseIdx 0) gT (gL wJ) ⟨ab (aG _ _ rfl),bU 4,trivial⟩ rfl fun acn=>?_)
     exact ai.nil (ae.back 0 (ar 0 _ rfl rfl) (ae.fin (eP []) rfl rfl))
    ·intro hd E' ax aG ar
     refine ai.bI 0 (ar 0 _ rfl rfl) (ai.nw (Lin:= [⟨some cu,.var (kG.2:bu)⟩]) (Lr:=ax.eraseIdx 0) ov (nV JQ) ⟨ab (aG _ _ rfl),trivial⟩ rfl fun aep=>?_)
     exact ai.nil (ae.back 0 (ar 0 _ rfl rfl) (ae.fin (eP []) rfl rfl))
    ·intro hd E' ax aG ar
     refine ai.app (i:=9) Tryz.underlying178 yB sS (bytes:=40) (by kernel_rfl) (ab (aG _ _ rfl)) (ar 9 _ rfl rfl) (ab (aG _ _ rfl)) JR rfl fun pP pO=>?_
     exact ai.nil (ae.fin (eP [pP,some pO]) rfl rfl)
    ·intro hd E' ax aG ar
     exact ai.iP (i:=8) (γ:=dN) (b':=(({ s1.2.2.2.2.1 with j0:= [] } :c3):c3)) (os':= [(2,aS (hd 12 0) qE.length ((hd 12 1).getD 0))]) ((aN.id c3).comp xz) wm (ab (aG _ _ rfl)) (ab (aG _ _ rfl)) h9 (ar 8 _ rfl rfl) rfl rfl rfl (ai.nil (ae.fin (eP []) rfl rfl))
    refine ae.ez (L2:= [⟨some cu,.var (o9.2:bu)⟩,⟨none,.dead⟩,⟨none,.dead⟩,⟨some eW,.var (az ah aZ:bX)⟩,⟨none,.row 183 (([]:List dN):List dN) 0⟩,⟨some ck,.cj (s1.2.1:c3) [(2,aS av.1.1 s1.2.2.1.length av.1.2)]⟩,⟨av.1.1,.row 183 (s1.2.2.1:List dN) av.1.2⟩,⟨none,.row 183 (([]:List dN):List dN) 0⟩,⟨some ba,.cj (({ s1.2.2.2.2.1 with j0:= [] } :c3):c3) [(2,aS (jJ 12 0) qE.length ((jJ 12 1).getD 0))]⟩,⟨(jJ 12 0),.row 183 (qE:List dN) ((jJ 12 1).getD 0)⟩,⟨none,.row 183 (([]:List dN):List dN) 0⟩,⟨some a4,.cj (({ s1.2.2.2.2.2.2.1 with j0:= [] } :c3):c3) [(2,aS hf fN.length fC)]⟩,⟨hf,.row 183 (fN:List dN) fC⟩]) rfl (km [0,1,4,5,6,7,9,10,11,30,31,32,33,45,46,47,59,61,62,63,64,65,66,67,68,69,70,71,73,74,75,76,77,78,79,80,81,82,83,84] ?_)
    obtain rfl:=aH h
    exact dq 0 (hm ((jJ 12 0),((jJ 12 1).getD 0)))
   have h:=gR al cy
   refine ag.skip ?_
   obtain rfl:=aH h
   exact dq 0 (hm (av.2.1.1,av.2.1.2))
  refine ag.exit (ae.exit ?_)
  obtain rfl:=aH h
  exact dY ((av.1.1,av.1.2),(av.2.1.1,av.2.1.2),(av.2.2.1,av.2.2.2)) 0
 refine ae.e1 (ae.next (aC (ai.lf (β:=c3) (γ:=dN) (b':=(({ ay.2.2.2.2.2.2.2.1 with j0:=ay.2.2.2.2.2.2.2.2 } :c3):c3)) ((aN.id c3).comp xz) 8 9 0 rfl rfl rfl rfl rfl rfl (ai.o0 8 rfl ?_))))
 obtain⟨hF,mF,h⟩:=au h
 refine dG mF (fa (i:=8) (aN.id c3) (r:=({ ay.2.2.2.2.2.2.2.1 with j0:=ay.2.2.2.2.2.2.2.2 } :c3)) rJ (ab rfl) rfl rfl rfl) ?_
 refine ai.lf (β:=c3) (γ:=dN) (b':=(({ ay.2.2.2.2.2.1 with j0:=ay.2.2.2.2.2.2.1 } :c3):c3)) ((aN.id c3).comp xz) 5 6 0 rfl rfl rfl rfl rfl rfl (ai.o0 5 rfl (cr 5 rJ ?_))
 refine ai.lf (β:=c3) (γ:=dN) (b':=(({ ay.2.2.1 with j0:=ay.2.2.2.1 } :c3):c3)) ((aN.id c3).comp xz) 1 2 0 rfl rfl rfl rfl rfl rfl (ai.o0 1 rfl (cr 1 rJ ?_))
 obtain⟨hG,nC,h⟩:=au h
 refine dG nC (jv (r:= [hF,({ ay.2.2.2.2.2.1 with j0:=ay.2.2.2.2.2.2.1 } :c3),({ ay.2.2.1 with j0:=ay.2.2.2.1 } :c3)]) Tryz.underlying29 rJ uB rfl rfl (.cons (by simp) (ab rfl) (.cons (by simp) (ab rfl) (.cons (by simp) (ab rfl) (.nil))))) ?_
 refine aM ?_
 refine aL (ag.ret (ae.bI 3 rfl ?_))
 obtain rfl:=aH h
 exact kW ()
end Go.Proofs.YthkfkliknjiecaaGreat
