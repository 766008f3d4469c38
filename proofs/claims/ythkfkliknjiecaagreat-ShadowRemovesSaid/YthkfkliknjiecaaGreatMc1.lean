/-
  Each function meets its functional program. Conditions: none.
-/
import Derived.Test.YthkfkliknjiecaaGreatMc0
import Derived.Test.YthkfkliknjiecaaGreatMd
set_option maxRecDepth 100000
set_option maxHeartbeats 2000000
namespace Go.Proofs.YthkfkliknjiecaaGreat
open Go Gv
theorem Mb {J:bu} {cu:Nat} {r:a3×bu} (h:xA J=some r):b9 Tryz.prog 8 [I.eq (.pointer (some ⟨cu,0,none⟩))] [⟨some cu,.var (J:bu)⟩] (δ:=Unit) (fun d=>I.of (r.1)) (fun d=>[⟨some cu,.var (r.2:bu)⟩]):=by
 unfold xA at h
 refine b9.of Tryz.func8 rfl Tryz.ntmps8 rfl fun W A=>?_
 refine aC (cC B0 fun a4=>?_)
 refine bW (aB ?_)
 refine ai.bI 1 rfl ?_
 obtain⟨aD,bo,h⟩:=au h
 refine ff 1 gT (gL bo) fun aA=>?_
 refine bj dd ?_
 refine aB ?_
 refine ai.bI 0 rfl ?_
 obtain⟨aK,cb,h⟩:=au h
 refine ff 1 gT (gL cb) fun cU=>?_
 refine bj dd ?_
 refine bh (rp (b:=({ (default:a3) with AF:=bs (2+aD.1),AW:=bs (12+aK.1) } :a3)) [5,7] ND rfl aaZ B0 (.cons SK rfl (ab rfl) rfl (by rfl) (.cons SU rfl (ab rfl) rfl (by rfl) (.nil)))) ?_
 refine ai.own (α:=gb) 113 (ai.own (α:=fu) 115 (ai.n9 (z:=(default:a3)) [5,7] ND B0 rfl fun ba=>?_))
 refine ai.own (α:=gb) 113 (ai.own (α:=fu) 115 (ai.sI (i:=2) gv (ab rfl) (ab rfl) rfl (bW ?_)))
 obtain⟨bH,dt,h⟩:=au h
 refine dG dt (c9 (b:= { b0:=1,cF:=ByteArray.mk #[105,110,103,114,101,115,115],fB:=16:fO }) rfl sT pH (.cons pw rfl (bU 1) rfl (.cons sh rfl (dU (ByteArray.mk #[105,110,103,114,101,115,115])) rfl (.cons nT rfl (bU 16) rfl (.nil))))) ?_
 obtain⟨dn,hx,h⟩:=au h
 refine dG hx (c9 (b:= { b0:=2,cF:=ByteArray.mk #[101,103,114,101,115,115],fB:=16:fO }) rfl sT pH (.cons pw rfl (bU 2) rfl (.cons sh rfl (dU (ByteArray.mk #[101,103,114,101,115,115])) rfl (.cons nT rfl (bU 16) rfl (.nil))))) ?_
 obtain⟨fm,jH,h⟩:=au h
 refine dG jH (c9 (b:= { b0:=3,cF:=ByteArray.mk #[109,101,116,97],fB:=8:fO }) rfl sT pH (.cons pw rfl (bU 3) rfl (.cons sh rfl (dU (ByteArray.mk #[109,101,116,97])) rfl (.cons nT rfl (bU 8) rfl (.nil))))) ?_
 refine hg sT pH { b0:=4,cF:=ByteArray.mk #[97],fB:=4:fO } (j5 pw (j5 sh (j5 nT .nil))) ?_
 refine hg sT pH { b0:=5,cF:=ByteArray.mk #[98],fB:=4:fO } (j5 pw (j5 sh (j5 nT .nil))) ?_
 obtain⟨hF,mF,h⟩:=au h
 refine dG mF (c9 (b:= { b0:=6,cF:=ByteArray.mk #[101],fB:=8:fO }) rfl sT pH (.cons pw rfl (bU 6) rfl (.cons sh rfl (dU (ByteArray.mk #[101])) rfl (.cons nT rfl (bU 8) rfl (.nil))))) ?_
 obtain⟨hG,nC,h⟩:=au h
 refine dG nC (c9 (b:= { b0:=7,cF:=ByteArray.mk #[100],fB:=32:fO }) rfl sT pH (.cons pw rfl (bU 7) rfl (.cons sh rfl (dU (ByteArray.mk #[100])) rfl (.cons nT rfl (bU 32) rfl (.nil))))) ?_
 obtain⟨jQ,qB,h⟩:=au h
 refine dG qB (c9 (b:= { b0:=8,cF:=ByteArray.mk #[102],fB:=12:fO }) rfl sT pH (.cons pw rfl (bU 8) rfl (.cons sh rfl (dU (ByteArray.mk #[102])) rfl (.cons nT rfl (bU 12) rfl (.nil))))) ?_
 obtain⟨jR,qC,h⟩:=au h
 refine dG qC (c9 (b:= { b0:=9,cF:=ByteArray.mk #[103],fB:=4:fO }) rfl sT pH (.cons pw rfl (bU 9) rfl (.cons sh rfl (dU (ByteArray.mk #[103])) rfl (.cons nT rfl (bU 4) rfl (.nil))))) ?_
 obtain⟨ih,tc,h⟩:=au h
 refine dG tc (jv (r:= [bH,dn,fm,{ b0:=4,cF:=ByteArray.mk #[97],fB:=4:fO },{ b0:=5,cF:=ByteArray.mk #[98],fB:=4:fO },hF,hG,jQ,jR]) Tryz.underlying23 oY pH rfl rfl (.cons (by simp) (ab rfl) (.cons (by simp) (ab rfl) (.cons (by simp) (ab rfl) (.cons (by simp) (ab rfl) (.cons (by simp) (ab rfl) (.cons (by simp) (ab rfl) (.cons (by simp) (ab rfl) (.cons (by simp) (ab rfl) (.cons (by simp) (ab rfl) (.nil))))))))))) ?_
 refine aY (aU uo) ?_
 obtain⟨mj,wY,h⟩:=au h
 refine ai.uu (i:=2) ((aN.id a3).comp tM) (v:=(ih:List fO)) (b':=(mj:a3)) sZ (ab rfl) (ab rfl) rfl rfl (aH wY) (by rfl) ?_
 refine bW (gV ([4,5,6]:List Int) Tryz.underlying41 bE h0 ?_)
 obtain⟨lH,wF,h⟩:=au h
 refine dG wF (c9 (b:= { b0:=1,cF:=ByteArray.mk #[111,110,101],fF:=([4,5,6]:List Int):kb }) rfl Ji BA (.cons DU rfl (bU 1) rfl (.cons Hf rfl (dU (ByteArray.mk #[111,110,101])) rfl (.cons G4 rfl (ab rfl) rfl (.nil))))) ?_
 refine gV ([7]:List Int) Tryz.underlying41 bE h0 ?_
 obtain⟨lk,wG,h⟩:=au h
 refine dG wG (c9 (b:= { b0:=2,cF:=ByteArray.mk #[116,119,111],fF:=([7]:List Int):kb }) rfl Ji BA (.cons DU rfl (bU 2) rfl (.cons Hf rfl (dU (ByteArray.mk #[116,119,111])) rfl (.cons G4 rfl (ab rfl) rfl (.nil))))) ?_
 refine gV ([8,9]:List Int) Tryz.underlying41 bE h0 ?_
 obtain⟨mJ,wH,h⟩:=au h
 refine dG wH (c9 (b:= { b0:=3,cF:=ByteArray.mk #[116,104,114,101,101],fF:=([8,9]:List Int):kb }) rfl Ji BA (.cons DU rfl (bU 3) rfl (.cons Hf rfl (dU (ByteArray.mk #[116,104,114,101,101])) rfl (.cons G4 rfl (ab rfl) rfl (.nil))))) ?_
 refine gV [lH,lk,mJ] Tryz.underlying24 Fp BA ?_
 refine aY (aU OY) ?_
 refine ai.uu (i:=2) ((aN.id a3).comp L3) (v:=([lH,lk,mJ]:List kb)) (b':=(({ mj with mo:= [lH,lk,mJ] } :a3):a3)) JK (ab rfl) (ab rfl) rfl rfl rfl (by rfl) ?_
 refine bW (aB ?_)
 refine ai.bI 5 rfl ?_
 obtain⟨bb,dR,h⟩:=au h
 refine ff 1 aa0 (Te dR) fun et=>?_
 refine aB ?_
 refine ai.bI 0 rfl ?_
 obtain⟨bJ,e2,h⟩:=au h
 refine ff 1 aa1 (S6 e2) fun jS=>?_
 refine aB ?_
 refine ai.bI 0 rfl ?_
 obtain⟨bq,gG,h⟩:=au h
 refine ff 1 aa2 (Tf gG) fun eu=>?_
 refine aY (aU OZ) ?_
 obtain⟨ll,BV,h⟩:=au h
 refine ai.uu (i:=3) ((aN.id a3).comp L7) (v:=(bb.1:List dT)) (b':=(ll:a3)) JL (ab rfl) (ab rfl) rfl rfl (aH BV) (by rfl) ?_
 refine aY (aU IE) ?_
 refine ai.uu (i:=3) ((aN.id a3).comp G0) (v:=(bJ.1:List ei)) (b':=(({ ll with dH:=bJ.1 } :a3):a3)) FK (ab rfl) (ab rfl) rfl rfl rfl (by rfl) ?_
 refine aY (aU mY) ?_
 obtain⟨lI,BW,h⟩:=au h
 refine ai.uu (i:=3) ((aN.id a3).comp mU) (v:=(bq.1:List bX)) (b':=(lI:a3)) mz (ab rfl) (ab rfl) rfl rfl (aH BW) (by rfl) ?_
 refine bW (aB ?_)
 refine aY (aU mY) ?_
 refine Rs 3 mU mz ?_
 refine ai.bI 0 rfl ?_
 obtain⟨b6,gH,h⟩:=au h
 refine ff 1 aa3 (Tr gH) fun jU=>?_
 refine aY (aU O0) ?_
 refine ai.uu (i:=3) ((aN.id a3).comp L8) (v:=(b6.1:List c3)) (b':=(({ lI with kc:=b6.1 } :a3):a3)) JM (ab rfl) (ab rfl) rfl rfl rfl (by rfl) ?_
 refine bW (hg BE uE { ef:=1,iN:=1:gb } (j5 zL (j5 Hb .nil)) ?_)
 refine hg BE uE { ef:=2,iN:=2:gb } (j5 zL (j5 Hb .nil)) ?_
 refine hg BE uE ({ (default:gb) with ef:=3 } :gb) (j5 zL .nil) ?_
 refine hg BE uE { ef:=4,iN:=3:gb } (j5 zL (j5 Hb .nil)) ?_
 obtain⟨o7,BX,h⟩:=au h
 refine ai.QZ (α:=gb) (r0:= [{ ef:=1,iN:=1:gb },{ ef:=2,iN:=2:gb },({ (default:gb) with ef:=3 } :gb),{ ef:=4,iN:=3:gb }]) (r:=o7) Tryz.underlying28 Jj uE rfl rfl (.cons (by simp) (ab rfl) (.cons (by simp) (ab rfl) (.cons (by simp) (ab rfl) (.cons (by simp) (ab rfl) (.nil))))) (aH BX) rfl fun gD=>?_
 refine aY (aU IH) ?_
 refine ai.iP (i:=4) (γ:=gb) (b':=(({ ({ lI with kc:=b6.1 } :a3) with nZ:= [] } :a3):a3)) (os':= [(5,aS gD o7.length 4),(7,aS none ([]:List fu).length 0)]) ((aN.id a3).comp G5) FM (ab rfl) (ab rfl) h9 rfl rfl rfl rfl (bD (aC (aB ?_)))
 refine ai.bI 1 rfl ?_
 obtain⟨eB,mI,h⟩:=au h
 refine ff 1 ov (nV mI) fun q4=>?_
 refine aL ?_
 obtain⟨bx,cy,h⟩:=au h
 refine jj (γ:=(Option Nat×Nat)) [0,2,3,51] (fun av=>[]) (fun av=>[(1,⟨av.1,.row 113 (bx:List gb) av.2⟩),(4,⟨some ba,.cj (({ ({ lI with kc:=b6.1 } :a3) with nZ:= [] } :a3):a3) [(5,aS av.1 bx.length av.2),(7,aS none ([]:List fu).length 0)]⟩)]) (fun av=>?_) (fun hm al=>?_) fun hm al=>?_
 ·refine ae.next (ag.seq (aC (aB ?_)))
  refine ai.bI 0 rfl ?_
  obtain⟨fN,mb,h⟩:=au h
  refine ff 1 ov (nV mb) fun tB=>?_
  refine aL ?_
  obtain⟨cY,eg,h⟩:=au h
  refine jj (γ:=(Option Nat×Nat)) [0,2,3,51,59] (fun aW=>[]) (fun aW=>[(4,⟨some ba,.cj (cY.1:a3) [(5,aS av.1 bx.length av.2),(7,aS aW.1 cY.2.length aW.2)]⟩),(5,⟨aW.1,.row 115 (cY.2:List fu) aW.2⟩)]) (fun aW=>?_) (fun hm al=>?_) fun hm al=>?_
  ·refine ae.next (ag.seq (aC (aB ?_)))
   refine ai.bI 0 rfl ?_
   obtain⟨e8,o8,h⟩:=au h
   refine ff 1 ov (nV o8) fun mS=>?_
   refine aB ?_
   refine dE (aU mY) ?_
   refine eI (fun hb=>EN (i:=4) ((aN.id a3).comp mU) (r:=cY.1.bt) mz (cJ rfl hb) rfl rfl rfl (by rfl)) ?_
   obtain⟨aZ,cq,h⟩:=au h
   refine eI (fun hb=>ql (k:=aZ) Tryz.underlying27 gu (cJ rfl hb) (bU 2) (bZ (gN cq hb))) ?_
   refine eI (fun hb=>BF jZ k8 (cJ rfl hb) rfl rfl) ?_
   refine dE (da kQ) ?_
   refine dE (eK Tryz.underlying40) ?_
   refine jw gf ?_
   refine iG ?_
   refine aL ?_
   obtain⟨fA,g6,h⟩:=au h
   refine jj (γ:=(Option Nat×Nat)) [0,2,3,51,59,76] (fun bB=>[]) (fun bB=>[(4,⟨some ba,.cj (fA.1:a3) [(5,aS av.1 bx.length av.2),(7,aS bB.1 fA.2.length bB.2)]⟩),(5,⟨bB.1,.row 115 (fA.2:List fu) bB.2⟩)]) (fun bB=>?_) (fun hm al=>?_) fun hm al=>?_
   ·refine ae.next (ag.seq (aC (aB ?_)))
    refine ai.bI 0 rfl ?_
    obtain⟨ee,qt,h⟩:=au h
    refine ff 1 ov (nV qt) fun F7=>?_
    refine aB ?_
    refine dE (aU mY) ?_
    refine eI (fun hb=>EN (i:=4) ((aN.id a3).comp mU) (r:=fA.1.bt) mz (cJ rfl hb) rfl rfl rfl (by rfl)) ?_
    obtain⟨bP,c6,h⟩:=au h
    refine eI (fun hb=>ql (k:=bP) Tryz.underlying27 gu (cJ rfl hb) (bU 3) (bZ (gN c6 hb))) ?_
    refine eI (fun hb=>BF jZ k8 (cJ rfl hb) rfl rfl) ?_
    refine dE (da kQ) ?_
    refine dE (eK Tryz.underlying40) ?_
    refine jw gf ?_
    refine iG ?_
    refine aL ?_
    obtain⟨p2,Cm,h⟩:=au h
    refine jj (γ:=(Option Nat×Nat)) [0,2,3,51,59,76,93] (fun cn=>[]) (fun cn=>[(4,⟨some ba,.cj (p2.1:a3) [(5,aS av.1 bx.length av.2),(7,aS cn.1 p2.2.length cn.2)]⟩),(5,⟨cn.1,.row 115 (p2.2:List fu) cn.2⟩)]) (fun cn=>?_) (fun hm al=>?_) fun hm al=>?_
    ·refine ae.next (aC (ai.lf (β:=a3) (γ:=gb) (b':=(({ p2.1 with nZ:=bx } :a3):a3)) ((aN.id a3).comp G5) 4 1 0 rfl rfl rfl rfl rfl rfl (ai.lf (β:=a3) (γ:=fu) (b':=(({ ({ p2.1 with nZ:=bx } :a3) with oW:=p2.2 } :a3):a3)) ((aN.id a3).comp DJ) 4 5 0 rfl rfl rfl rfl rfl rfl (ai.o0 4 rfl ?_))))
     obtain⟨pU,BY,h⟩:=au h
     refine dG BY (fa (i:=4) (aN.id a3) (r:=({ ({ p2.1 with nZ:=bx } :a3) with oW:=p2.2 } :a3)) gv (ab rfl) rfl rfl rfl) ?_
     refine b8 7 gv ?_
     refine aL (ag.ret (ae.bI 0 rfl ?_))
     obtain rfl:=aH h
     exact ae.gr () (.cons_cons _ (List.nil_sublist _)) rfl rfl (j2 (i:=7) gv rfl rfl)
    ·have h:=gQ al Cm
     refine ag.cm (aY (aU yo) ?_)
     refine bh (ho (i:=4) (q:=1) (β:=a3) (γ:=fu) wK (ab rfl) rfl rfl) ?_
     obtain⟨nD,JP,h⟩:=au h
     refine dG JP (c9 (b:=({ (default:fu) with ef:=4,wo:=1,qa:=1 } :fu)) rfl Fw rK (.cons DX rfl (bU 4) rfl (.cons Mn rfl (bU 1) rfl (.cons DK rfl (bU 1) rfl (.nil))))) ?_
     obtain⟨td,BZ,h⟩:=au h
     refine dG BZ (c9 (b:=({ (default:fu) with ef:=4,lz:=5,qa:=1 } :fu)) rfl Fw rK (.cons DX rfl (bU 4) rfl (.cons Me rfl (bU 5) rfl (.cons DK rfl (bU 1) rfl (.nil))))) ?_
     refine gV [nD,td] Tryz.underlying30 yC rK ?_
     obtain⟨jl,s4,h⟩:=au h
     refine jI 5 Tryz.underlying30 yC rK s4 fun kj fC=>?_
     refine aY (aU yo) ?_
     refine ai.iP (i:=4) (γ:=fu) (b':=(({ fA.1 with oW:= [] } :a3):a3)) (os':= [(5,aS av.1 bx.length av.2),(7,aS kj jl.length fC)]) ((aN.id a3).comp DJ) wK (ab rfl) (ab rfl) h9 rfl rfl rfl rfl (ai.nil ?_)
     obtain rfl:=aH h
     exact dq 0 (hm (kj,fC))
    have h:=gR al Cm
    refine ag.skip ?_
    obtain rfl:=aH h
    exact dq 0 (hm (bB.1,bB.2))
   ·have h:=gQ al g6
    refine ag.cm (aY (aU yo) ?_)
    refine bh (ho (i:=4) (q:=1) (β:=a3) (γ:=fu) wK (ab rfl) rfl rfl) ?_
    obtain⟨rX,yL,h⟩:=au h
    refine dG yL (c9 (b:=({ (default:fu) with ef:=3,wo:=2,qa:=1 } :fu)) rfl Fw rK (.cons DX rfl (bU 3) rfl (.cons Mn rfl (bU 2) rfl (.cons DK rfl (bU 1) rfl (.nil))))) ?_
    refine gV [rX] Tryz.underlying30 yC rK ?_
    obtain⟨jb,s5,h⟩:=au h
    refine jI 5 Tryz.underlying30 yC rK s5 fun hf hD=>?_
    refine aY (aU yo) ?_
    refine ai.iP (i:=4) (γ:=fu) (b':=(({ cY.1 with oW:= [] } :a3):a3)) (os':= [(5,aS av.1 bx.length av.2),(7,aS hf jb.length hD)]) ((aN.id a3).comp DJ) wK (ab rfl) (ab rfl) h9 rfl rfl rfl rfl (ai.nil ?_)
    obtain rfl:=aH h
    exact dq 0 (hm (hf,hD))
   have h:=gR al g6
   refine ag.skip ?_
   obtain rfl:=aH h
   exact dq 0 (hm (aW.1,aW.2))
  ·have h:=gQ al eg
   refine ag.cm (aY (aU yo) ?_)
   refine bh (ho (i:=4) (q:=1) (β:=a3) (γ:=fu) wK (ab rfl) rfl rfl) ?_
   obtain⟨Kj,aa4,h⟩:=au h
   refine dG aa4 (c9 (b:=({ (default:fu) with ef:=2,lz:=4,qa:=1 } :fu)) rfl Fw rK (.cons DX rfl (bU 2) rfl (.cons Me rfl (bU 4) rfl (.cons DK rfl (bU 1) rfl (.nil))))) ?_
   refine gV [Kj] Tryz.underlying30 yC rK ?_
   obtain⟨jx,wI,h⟩:=au h
   refine jI 5 Tryz.underlying30 yC rK wI fun qs pO=>?_
   refine aY (aU yo) ?_
   refine ai.iP (i:=4) (γ:=fu) (b':=(({ ({ ({ lI with kc:=b6.1 } :a3) with nZ:= [] } :a3) with oW:= [] } :a3):a3)) (os':= [(5,aS av.1 bx.length av.2),(7,aS qs jx.length pO)]) ((aN.id a3).comp DJ) wK (ab rfl) (ab rfl) h9 rfl rfl rfl rfl (ai.nil ?_)
   obtain rfl:=aH h
   exact dq 0 (hm (qs,pO))
  have h:=gR al eg
  refine ag.skip ?_
  obtain rfl:=aH h
  exact dq 0 (hm (none,0))
 ·have h:=gQ al cy
  refine ag.cm (aY (aU IH) ?_)
  refine bh (ho (i:=4) (q:=0) (β:=a3) (γ:=gb) FM (ab rfl) rfl rfl) ?_
  refine hg BE uE ({ (default:gb) with ef:=1 } :gb) (j5 zL .nil) ?_
  refine gV [({ (default:gb) with ef:=1 } :gb)] Tryz.underlying28 Jj uE ?_
  obtain⟨kG,wJ,h⟩:=au h
  refine jI 1 Tryz.underlying28 Jj uE wJ fun pP wE=>?_
  refine aY (aU IH) ?_
  refine ai.iP (i:=4) (γ:=gb) (b':=(({ ({ lI with kc:=b6.1 } :a3) with nZ:= [] } :a3):a3)) (os':= [(5,aS pP kG.length wE),(7,aS none ([]:List fu).length 0)]) ((aN.id a3).comp G5) FM (ab rfl) (ab rfl) h9 rfl rfl rfl rfl (ai.nil ?_)
  obtain rfl:=aH h
  exact dq 0 (hm (pP,wE))
 have h:=gR al cy
 refine ag.skip ?_
 obtain rfl:=aH h
 exact dq 0 (hm (gD,4))
theorem Hr {J:Int} {ah:Int} {r:an} (h:vq J ah=some r):bw Tryz.prog 149 [I.of (J),I.of (ah)] (I.of (r)):=by
 unfold vq at h
 refine bw.of Tryz.func149 rfl Tryz.ntmps149 rfl fun W A=>?_
 refine aC (cC en fun a4=>?_)
 refine bW (aB ?_)
 obtain⟨aD,bo,h⟩:=au h
 refine du PG (Mu bo) ?_
 refine aM ?_
 refine bW (aB ?_)
 refine bj Fi ?_
 refine aB ?_
 refine bj yw ?_
 refine aM ?_
 refine bW (aB ?_)
 obtain⟨aK,cb,h⟩:=au h
 refine du Bx (At cb) ?_
 refine aB ?_
 refine aB ?_
 refine bj kg ?_
 obtain⟨bb,dR,h⟩:=au h
 refine du Bx (At dR) ?_
 obtain⟨bJ,e2,h⟩:=au h
 refine du Fl (Eb e2) ?_
 refine b8 0 bG ?_
 refine aL (ag.ret ?_)
 obtain rfl:=aH h
 exact ae.hM rfl (fw 0 bG)
theorem Tg {ah:Int} {aP:an} {b5:Ref} :Bf Tryz.prog 220 [I.ptr ah,I.ptr aP,I.ptr b5] (fun v:Int=>I.of v) (fun {σ ε} hq step cw=>vm (σ:=σ) (ε:=ε) ah aP b5 hq step cw):=by
 refine Bf.of Tryz.func220 rfl Tryz.ntmps220 rfl ?_
 intro σ ε γ Ls Lx hq kr nE step cw g0 R h W A u sb
 replace h:vm ah aP b5 hq step cw R:=h
 unfold vm at h
 refine aC (aY (da bE) ?_)
 refine aB ?_
 refine aL (ag.block (ag.II (σ:=Int×(σ)) (ε:=(Int×Bool×(σ)) ⊕ (Int×Int×Int×Bool×Bool×Bool×(ε))) (γ:=γ) (δ:=γ) h (fun s1 av=>[(0,I.eq u),(1,I.ptr ah),(2,I.ptr aP),(3,I.ptr b5),(7,I.of (ah)),(8,I.of (s1.1))]) (fun s1 av=>(Ls s1.2 av)) (fun aA=>Sum.elim (fun aA=>Exit.exit 0) (fun aA=>Exit.ret) aA) (fun aA av=>Sum.elim (fun aA=>[(0,I.eq u),(1,I.ptr ah),(2,I.ptr aP),(3,I.ptr b5),(7,I.of (ah)),(8,I.of (aA.1)),(9,I.of (aA.2.1))]) (fun aA=>[(0,I.eq u),(1,I.ptr ah),(2,I.ptr aP),(3,I.ptr b5),(5,I.of (aA.1)),(6,I.of (aA.2.1)),(7,I.of (ah)),(8,I.of (aA.2.2.1)),(9,I.of (aA.2.2.2.1)),(19,I.of (aA.2.2.2.2.1)),(23,I.of (aA.2.2.2.2.2.1))]) aA) (fun aA av=>Sum.elim (fun aA=>(Ls aA.2.2 av)) (fun aA=>(Lx aA.2.2.2.2.2.2 av)) aA) g0 rfl .all (fun s1 R h av=>?_) (fun ay h av=>?_)))
 ·refine aC (bj ea ?_)
  refine bD (ag.cond (ab rfl) (fun al=>?_) (fun al=>?_))
  ·replace h:=qd al h
   refine cO (ag.seq (ag.block (aC (aB ?_))))
   refine aM ?_
   refine bW (aM ?_)
   refine bD (ag.seq ?_)
   obtain⟨cG,dF,h⟩:=aI.c2 h
   obtain⟨bY,ed,h⟩:=aI.c2 h
   obtain⟨aD,bo,h⟩:=aI.c2 h
   refine ag.draw mixed 9 [some 11,some 12,some 13,some 14,some 15,some 16,some 17,some 18,some 19] [[],[],[1],[2],[3],[4],[],[5,6],[0,7]] [.val _,.val _,.val _,.val _,.val _,.val _,.val _,.val _,.val _] [false,false,false,false,false,false,false,false,false] (by kernel_rfl) rfl rfl rfl (fun cx=>⟨H1 (da bG),H1 (da PW),c1 fun ax ar=>dV (eL (ab rfl) dF),H1 (aU vO),c1 fun ax ar=>gd ((aN.id fK).comp tN) (r:=bY.fL) bE (ab rfl) (kB (fun i e q=>ar i e q rfl) (PX (Ls:=Ls) (s:=s1.2) (g:=av) 0 rfl nE (mv ed) rfl)) rfl rfl,jc kg,ct,jc kg,eH Fm (Ec bo),trivial⟩) fun cx=>?_
   refine aL ?_
   obtain⟨bx,cy,h⟩:=aI.c2 h
   refine ag.c0 (γ:=Unit) (fun aW=>[(0,I.eq u),(1,I.ptr ah),(2,I.ptr aP),(3,I.ptr b5),(5,I.of (s1.1)),(6,I.of (bx)),(7,I.of (ah)),(8,I.of (s1.1)),(9,I.of (decide (s1.1<ah))),(19,I.of (aD))]) (fun aW=>(Ls s1.2 av)) (ab rfl) (fun aW=>?_) (fun hm al=>?_) (fun hm al=>?_)
   ·refine ae.next (aC (aB ?_))
    refine aB ?_
    refine ai.XR (Lin:= []) (Ls:=Ls) (Lx:=Lx) (step:=step) (s:=s1.2) (gg:=av) rfl sb rfl (ab rfl) h rfl (fun s2 h bB=>?_) (fun cU h bB=>?_)
    ·simp only [Sum.elim_inl] at h
     refine ai.ez (L2:=(Ls s2 bB)) rfl (aY hL ?_)
     refine aL (ag.rG (ab rfl) (by first | rfl | (rw [hb]; rfl)) ?_)
     refine ag.skip (ae.dB (ae.next (ag.cm (bj dd ?_))))
     refine aB ?_
     exact ai.nil (ae.IJ h bB 0 rfl .all)
    simp only [Sum.elim_inr] at h
    refine ai.ez (L2:=(Lx cU bB)) rfl (aY hL ?_)
    refine aL (ag.Fx (ab rfl) (by first | rfl | (rw [hb]; rfl)) ?_)
    exact ag.ret (ae.dz (ae.ret (ae.vZ h bB 0 rfl (by simp) rfl .all)))
   ·have h:=gQ al cy
    refine ag.cm (aM ?_)
    refine ai.nil ?_
    obtain rfl:=aH h
    exact dq 0 (hm ())
   have h:=gR al cy
   refine ag.skip ?_
   obtain rfl:=aH h
   exact dq 0 (hm ())
  replace h:=qe al h
  exact ag.exit (ae.exit (ae.vZ h av 0 rfl (by simp) rfl .all))
 rcases ay with ay | ay
 ·simp only [Sum.elim_inl] at h
  exact ae.e1 (ae.ou (ae.lD (⟨⟨(.inl ay.2.2:σ ⊕ ε),h⟩,av⟩: {r // _}×_) (.refl _) rfl rfl))
 simp only [Sum.elim_inr] at h
 exact ae.dz (ae.lD (⟨⟨(.inr ay.2.2.2.2.2.2:σ ⊕ ε),h⟩,av⟩: {r // _}×_) (.refl _) rfl rfl)
theorem Hc {hp:a1 Cell} {ah:Int} {aP:an} {b5:Ref} :Bg Tryz.prog 220 [I.ptr ah,I.ptr aP,I.ptr b5] hp (fun v:Int=>I.of v) (fun {σ ε} =>p8 (σ:=σ) (ε:=ε) hp ah aP b5):=by
 refine Bg.of Tryz.func220 rfl Tryz.ntmps220 rfl ?_
 intro σ ε γ Ls Lx kr nE step cw g0 r h W A u sb
 replace h:p8 hp ah aP b5 step cw=some r:=h
 unfold p8 at h
 refine aC (aY (da bE) ?_)
 refine aB ?_
 refine aL (ag.block ?_)
 obtain⟨ay,ao,h⟩:=au h
 refine ag.qm (σ:=Int×(σ)) (ε:=(Int×Bool×(σ)) ⊕ (Int×Int×Int×Bool×Bool×Bool×(ε))) (γ:=γ) (δ:=γ) ao (fun s1 av=>[(0,I.eq u),(1,I.ptr ah),(2,I.ptr aP),(3,I.ptr b5),(7,I.of (ah)),(8,I.of (s1.1))]) (fun s1 av=>(Ls s1.2 av)) (fun aA=>Sum.elim (fun aA=>Exit.exit 0) (fun aA=>Exit.ret) aA) (fun aA av=>Sum.elim (fun aA=>[(0,I.eq u),(1,I.ptr ah),(2,I.ptr aP),(3,I.ptr b5),(7,I.of (ah)),(8,I.of (aA.1)),(9,I.of (aA.2.1))]) (fun aA=>[(0,I.eq u),(1,I.ptr ah),(2,I.ptr aP),(3,I.ptr b5),(5,I.of (aA.1)),(6,I.of (aA.2.1)),(7,I.of (ah)),(8,I.of (aA.2.2.1)),(9,I.of (aA.2.2.2.1)),(19,I.of (aA.2.2.2.2.1)),(23,I.of (aA.2.2.2.2.2.1))]) aA) (fun aA av=>Sum.elim (fun aA=>(Ls aA.2.2 av)) (fun aA=>(Lx aA.2.2.2.2.2.2 av)) aA) g0 rfl .all (fun s1 r h av=>?_) (fun av=>?_)
 ·refine aC (bj ea ?_)
  refine bD (cg h (fun h=>?_) fun h=>?_)
  ·refine cO (ag.seq (ag.block (aC (aB ?_))))
   refine aM ?_
   refine bW (aM ?_)
   refine bD (ag.seq ?_)
   obtain⟨cG,dF,h⟩:=au h
   obtain⟨bY,ed,h⟩:=au h
   obtain⟨aD,bo,h⟩:=au h
   refine ag.draw mixed 9 [some 11,some 12,some 13,some 14,some 15,some 16,some 17,some 18,some 19] [[],[],[1],[2],[3],[4],[],[5,6],[0,7]] [.val _,.val _,.val _,.val _,.val _,.val _,.val _,.val _,.val _] [false,false,false,false,false,false,false,false,false] (by kernel_rfl) rfl rfl rfl (fun cx=>⟨H1 (da bG),H1 (da PW),c1 fun ax ar=>dV (eL (ab rfl) dF),H1 (aU vO),c1 fun ax ar=>gd ((aN.id fK).comp tN) (r:=bY.fL) bE (ab rfl) (kB (fun i e q=>ar i e q rfl) (YX (Ls:=Ls) (s:=s1.2) (g:=av) 0 rfl nE (mv ed) rfl)) rfl rfl,jc kg,ct,jc kg,eH Fm (Ec bo),trivial⟩) fun cx=>?_
   refine aL ?_
   obtain⟨bx,cy,h⟩:=au h
   refine ag.c0 (γ:=Unit) (fun aW=>[(0,I.eq u),(1,I.ptr ah),(2,I.ptr aP),(3,I.ptr b5),(5,I.of (s1.1)),(6,I.of (bx)),(7,I.of (ah)),(8,I.of (s1.1)),(9,I.of (decide (s1.1<ah))),(19,I.of (aD))]) (fun aW=>(Ls s1.2 av)) (ab rfl) (fun aW=>?_) (fun hm al=>?_) (fun hm al=>?_)
   ·refine ae.next (aC (aB ?_))
    refine aB ?_
    obtain⟨aK,cb,h⟩:=au h
    refine ai.yield (Lin:= []) (Ls:=Ls) (Lx:=Lx) (step:=step) (s:=s1.2) (gg:=av) rfl sb rfl (ab rfl) cb rfl (fun s2 aQ bB=>?_) (fun cU aQ bB=>?_)
    ·subst aQ; simp only [Sum.elim_inl] at h
     refine ai.ez (L2:=(Ls s2 bB)) rfl (aY hL ?_)
     refine aL (ag.rG (ab rfl) (by first | rfl | (rw [hb]; rfl)) ?_)
     refine ag.skip (ae.dB (ae.next (ag.cm (bj dd ?_))))
     refine aB ?_
     refine ai.nil ?_
     obtain rfl:=aH h
     exact fc bB 0
    subst aQ; simp only [Sum.elim_inr] at h
    refine ai.ez (L2:=(Lx cU bB)) rfl (aY hL ?_)
    refine aL (ag.Fx (ab rfl) (by first | rfl | (rw [hb]; rfl)) ?_)
    refine ag.ret (ae.dz (ae.ret ?_))
    obtain rfl:=aH h
    exact dY bB 0
   ·have h:=gQ al cy
    refine ag.cm (aM ?_)
    refine ai.nil ?_
    obtain rfl:=aH h
    exact dq 0 (hm ())
   have h:=gR al cy
   refine ag.skip ?_
   obtain rfl:=aH h
   exact dq 0 (hm ())
  refine ag.exit (ae.exit ?_)
  obtain rfl:=aH h
  exact dY av 0
 rcases ay with ay | ay
 ·simp only [Sum.elim_inl] at h
  refine ae.e1 (ae.ou ?_)
  obtain rfl:=aH h
  exact ae.lD av (.refl _) rfl rfl
 simp only [Sum.elim_inr] at h
 refine ae.dz ?_
 obtain rfl:=aH h
 exact ae.lD av (.refl _) rfl rfl
theorem Ac {J:aJ} {r:aJ} (h:oM J=some r):bw Tryz.prog 58 [I.of (J)] (I.of (r)):=by
 unfold oM at h
 refine bw.of Tryz.func58 rfl Tryz.ntmps58 rfl fun W A=>?_
 refine aC (b7 fun a4=>?_)
 refine cC gx fun ba=>?_
 refine bW (aY (aU la) ?_)
 refine cc 1 j9 hN ?_
 obtain⟨aD,bo,h⟩:=au h
 refine du aa5 (UI bo) ?_
 refine aY (aU la) ?_
 refine nc 1 j9 hN ?_
 refine bW (cr 1 cM ?_)
 refine b8 0 cM ?_
 refine aL (ag.ret ?_)
 obtain rfl:=aH h
 exact ae.hM rfl (fw 0 cM)
theorem Tt {hp:a1 Cell} {J:Ref} {ah:an} {r:Int×Int×Bool} (h:zV hp J ah=some r):b9 Tryz.prog 207 [I.of (J),I.of (ah)] ([]++a8 hp) (δ:=Unit) (fun _=>I.ep [I.of (r.1),I.of (r.2.1),I.of (r.2.2)]) (fun _=>[]++a8 hp):=by
 unfold zV at h
 refine b9.ofM Tryz.func207 rfl Tryz.ntmps207 rfl fun W A=>?_
 refine aC (b7 fun a4=>?_)
 refine aM ?_
 refine aM ?_
 refine aM ?_
 refine bD (ag.seq ?_)
 obtain⟨cG,dF,h⟩:=au h
 obtain⟨bY,ed,h⟩:=au h
 obtain⟨aD,bo,h⟩:=au h
 refine ag.draw mixed 11 [some 14,some 15,some 16,some 17,some 18,some 19,some 20,some 21,some 22,some 23,some 24] [[],[0],[1],[2],[2],[2,4],[2,5],[2,6],[2,3,7],[2,8],[2,9]] [.val _,.val _,.val _,.val _,.val _,.val _,.val _,.val _,.val _,.val _,.val _] [false,false,false,false,false,false,false,false,false,false,false] (by kernel_rfl) rfl rfl rfl (fun cx=>⟨ct,c1 fun ax ar=>oR Tryz.underlying289 (ab rfl),ct,fz fun ax ar=>fun hb=>fa (i:=0) (aN.id an) (r:=ah) bG (ab rfl) (ar _ _ rfl rfl) rfl rfl,fz fun ax ar=>fun hb=>cV (ab rfl),fz fun ax ar=>fun hb=>dV (eL (cJ rfl hb) (gN dF hb)),fz fun ax ar=>fun hb=>aU vO (cJ rfl hb),fz fun ax ar=>fun hb=>gd ((aN.id fK).comp tN) (r:=bY.fL) bE (cJ rfl hb) (kB (fun i e q=>ar i e q rfl) (fk (n:=1) rfl (mv (gN ed hb)) rfl)) rfl rfl,fz fun ax ar=>fun hb=>hZ YY (Ux (gN bo hb)) ⟨cJ rfl hb,cJ rfl hb,trivial⟩,fz fun ax ar=>fun hb=>hL (cJ rfl hb),c1 fun ax ar=>s0 (ab rfl) (ab rfl) (fun h=>h),trivial⟩) fun cx=>?_
 refine aL (cg h (fun h=>?_) fun h=>?_)
 ·refine aC (aM ?_)
  refine aM ?_
  refine aM ?_
  refine aL (ag.ret (ae.ret ?_))
  obtain rfl:=aH h
  exact ae.wL (ae.Jk () (.cons _ (.refl _)) rfl rfl (ej rfl) (ej rfl) (ej rfl))
 refine cO (aC (cC h0 fun ba=>?_))
 refine cC h0 fun ck=>?_
 refine cC F9 fun eW=>?_
 refine b8 2 bE ?_
 refine b8 1 bE ?_
 refine b8 0 gF ?_
 refine bW (aB ?_)
 obtain⟨cv,fx,h⟩:=au h
 refine bh (dV (eL (ab rfl) fx)) ?_
 refine aY (aU sC) ?_
 obtain⟨cN,fI,h⟩:=au h
 refine bh (gd ((aN.id fK).comp sg) (r:=cN.cQ) ek (ab rfl) (fk (n:=4) rfl (mv fI) rfl) rfl rfl) ?_
 refine cC wq fun jd=>?_
 refine cC h0 fun jT=>?_
 refine b8 1 ek ?_
 refine b8 0 bE ?_
 refine bW (bh (PY (f:=214) (us:= [.pointer (some ⟨jd,0,none⟩),.pointer (some ⟨jT,0,none⟩),.pointer (some ⟨ba,0,none⟩),.pointer (some ⟨ck,0,none⟩),.pointer (some ⟨eW,0,none⟩)]) ⟨ab rfl,ab rfl,ab rfl,ab rfl,ab rfl,trivial⟩) ?_)
 refine cC aco fun q3=>?_
 refine b8 0 Kk ?_
 refine bW (cr 0 Kk ?_)
 refine ai.bI 3 rfl (ai.bI 4 rfl (ai.bI 5 rfl (ai.bI 4 rfl (ai.bI 5 rfl ?_))))
 obtain⟨aK,cb,h⟩:=au h
 refine ai.sa (gn.JN (τs:= []) 7 5 rfl PZ (HT (ab rfl)) (L4 cb) rfl rfl trivial) rfl rfl rfl fun aA=>?_
 refine ai.ez (L2:=(⟨some jd,.var (cN.cQ:Ref)⟩::⟨some jT,.var (0:Int)⟩::⟨some ba,.var (aK.1:Int)⟩::⟨some ck,.var (aK.2.1:Int)⟩::⟨some eW,.var (aK.2.2:Bool)⟩::⟨some q3,.var ((⟨214,some [.pointer (some ⟨jd,0,none⟩),.pointer (some ⟨jT,0,none⟩),.pointer (some ⟨ba,0,none⟩),.pointer (some ⟨ck,0,none⟩),.pointer (some ⟨eW,0,none⟩)]⟩:Raw):Raw)⟩::⟨some a4,.var (ah:an)⟩::a8 hp)) rfl (bD (ag.seq ?_))
 obtain⟨bb,dR,h⟩:=au h
 refine ag.draw mixed 7 [some 32,some 33,some 34,some 35,some 36,some 37,some 38] [[],[],[],[2],[3],[4],[0,1,5]] [.val _,.val _,.val _,.val _,.val _,.val _,.val _] [false,false,false,false,false,false,false] (by kernel_rfl) rfl rfl rfl (fun hh=>⟨ct,eG 6 bG,ct,c1 fun ax ar=>dV (eL (ab rfl) fx),H1 (aU vO),c1 fun ax ar=>gd ((aN.id fK).comp tN) (r:=cN.fL) bE (ab rfl) (kB (fun i e q=>ar i e q rfl) (fk (n:=7) rfl (mv fI) rfl)) rfl rfl,eH Fy (D0 dR),trivial⟩) fun hh=>?_
 refine aL (ag.block ?_)
 obtain⟨ay,ao,h⟩:=au h
 refine HJ (hp:=hp) (γ:=Unit) (g0:=()) (Ls:=fun s1 av=>(⟨some jd,.var (s1.1:Ref)⟩::⟨some jT,.var (s1.2.1:Int)⟩::⟨some ba,.var (s1.2.2.1:Int)⟩::⟨some ck,.var (s1.2.2.2.1:Int)⟩::⟨some eW,.var (s1.2.2.2.2:Bool)⟩::⟨some q3,.var ((⟨214,some [.pointer (some ⟨jd,0,none⟩),.pointer (some ⟨jT,0,none⟩),.pointer (some ⟨ba,0,none⟩),.pointer (some ⟨ck,0,none⟩),.pointer (some ⟨eW,0,none⟩)]⟩:Raw):Raw)⟩::⟨some a4,.var (ah:an)⟩::a8 hp)) (Lx:=fun cU av=>(⟨some jd,.var (cU.1:Ref)⟩::⟨some jT,.var (cU.2.1:Int)⟩::⟨some ba,.var (cU.2.2.1:Int)⟩::⟨some ck,.var (cU.2.2.2.1:Int)⟩::⟨some eW,.var (cU.2.2.2.2:Bool)⟩::⟨some q3,.var ((⟨214,some [.pointer (some ⟨jd,0,none⟩),.pointer (some ⟨jT,0,none⟩),.pointer (some ⟨ba,0,none⟩),.pointer (some ⟨ck,0,none⟩),.pointer (some ⟨eW,0,none⟩)]⟩:Raw):Raw)⟩::⟨some a4,.var (ah:an)⟩::a8 hp)) (fun s1 av=>[⟨some jd,.var (s1.1:Ref)⟩,⟨some jT,.var (s1.2.1:Int)⟩,⟨some ba,.var (s1.2.2.1:Int)⟩,⟨some ck,.var (s1.2.2.2.1:Int)⟩,⟨some eW,.var (s1.2.2.2.2:Bool)⟩,⟨some q3,.var ((⟨214,some [.pointer (some ⟨jd,0,none⟩),.pointer (some ⟨jT,0,none⟩),.pointer (some ⟨ba,0,none⟩),.pointer (some ⟨ck,0,none⟩),.pointer (some ⟨eW,0,none⟩)]⟩:Raw):Raw)⟩,⟨some a4,.var (ah:an)⟩]) (fun cU=>.exit 0) rfl Fz rfl Hc ao (fun _ _=>rfl) rfl rfl (fun mK s1 r h av kY k2 kZ l D rec qF=>?_) (fun s1 aQ av D=>?_) (fun cU aQ av D=>?_)
 ·refine ag.cm (aM ?_)
  refine ai.nil (ae.begin 0 rfl qF ?_)
  refine ag.block (ag.seq (aC (cr 2 ek ?_)))
  refine bh (oR Tryz.underlying299 (ab rfl)) ?_
  refine aL (cg h (fun h=>?_) fun h=>?_)
  ·refine ag.exit (ae.exit (ae.XS rfl ?_))
   obtain rfl:=aH h
   exact ae.IK () 0 rfl rfl rfl
  refine cO (ag.seq ?_)
  obtain⟨lP,rY,h⟩:=au h
  obtain⟨aZ,cq,h⟩:=au h
  obtain⟨e4,lJ,h⟩:=au h
  refine jk [0,1,3,4,5,6,7,8,9,10,11,12,13,14,15,16,17,18,19,20,21,22,23,24,25,26,27,28,29,30,31,32,33,34,35,36,37,38,39,40,41] ?_
  refine ag.qk 9 mixed (bg 42 [] (2::[]) _::bg 43 [] [] _::bg 44 (0::[]) [] _::bg 45 (2::[]) [] _::bg 46 (1::3::[]) [] _::⟨some 47,(4::[]),[],[],fun _=>I.of (br e4.c8 aZ),fun _ _=>⟨none,.dead⟩⟩::bg 48 [] (3::[]) _::bg 49 (6::[]) [] _::⟨none,(0::5::[]),(2::[]),(2::[]),fun _=>I.any,fun hd _=>⟨some jd,.var (br e4.c8 aZ:Ref)⟩⟩::⟨none,(6::7::[]),(3::[]),(3::[]),fun _=>I.any,fun hd _=>⟨some jT,.var (bs (s1.2.1+1):Int)⟩⟩::[]) _ (0::1::3::4::5::6::7::8::9::10::11::12::13::14::15::16::17::18::19::20::21::22::23::24::25::26::27::28::29::30::31::32::33::34::35::36::37::38::39::40::41::[]) rfl rfl (by kernel_rfl) (by kernel_rfl) ⟨cI.q (lG 2 ek),cI.q (fP),cI.q (cz fun hd E' ax aG ar=>dV (eL (ab (aG _ _ rfl)) rY)),cI.q (fy (aU ry)),cI.q (cz fun hd E' ax aG ar=>eb (k:=aZ) sQ (ab (aG _ _ rfl)) (ab (aG _ _ rfl)) (bZ cq)),?_,cI.q (lG 3 bE),cI.q (zb dd),?_,?_,trivial⟩ fun fj=>?_
  ·intro hd E' ax aG ar dw
   refine bh (gd (((aN.id dM).comp rf).comp (aN.idx (α:=Ref) 2 aZ (bZ cq).1)) (r:=br e4.c8 aZ) ek (ab (aG _ _ rfl)) (fk (n:=9) (dw.trans rfl) (ju lJ) rfl) rfl rfl) ?_
   exact ai.nil (ae.fin (eP []) rfl rfl)
  ·intro hd E' ax aG ar dw
   exact ai.store (i:=2) (aN.id Ref) (v:=(br e4.c8 aZ:Ref)) (b':=(br e4.c8 aZ:Ref)) ek (ab (aG _ _ rfl)) (ab (aG _ _ rfl)) (ar 2 _ rfl rfl) rfl rfl (ai.nil (ae.fin (eP []) rfl rfl))
  ·intro hd E' ax aG ar dw
   exact ai.store (i:=3) (aN.id Int) (v:=(bs (s1.2.1+1):Int)) (b':=(bs (s1.2.1+1):Int)) bE (ab (aG _ _ rfl)) (ab (aG _ _ rfl)) (ar 3 _ rfl rfl) rfl rfl (ai.nil (ae.fin (eP []) rfl rfl))
  refine ae.ez (L2:=(⟨some l,.is (.loop { rec with state:= .busy })⟩::⟨some D,.dx⟩::⟨some jd,.var (br e4.c8 aZ:Ref)⟩::⟨some jT,.var (bs (s1.2.1+1):Int)⟩::⟨some ba,.var (s1.2.2.1:Int)⟩::⟨some ck,.var (s1.2.2.2.1:Int)⟩::⟨some eW,.var (s1.2.2.2.2:Bool)⟩::⟨some q3,.var ((⟨214,some [.pointer (some ⟨jd,0,none⟩),.pointer (some ⟨jT,0,none⟩),.pointer (some ⟨ba,0,none⟩),.pointer (some ⟨ck,0,none⟩),.pointer (some ⟨eW,0,none⟩)]⟩:Raw):Raw)⟩::⟨some a4,.var (ah:an)⟩::a8 hp)) rfl (km [0,1,3,4,5,6,7,8,9,10,11,12,13,14,15,16,17,18,19,20,21,22,23,24,25,26,27,28,29,30,31,32,33,34,35,36,37,38,39,40,41,42,43,44,45,46,47,48,49] ?_)
  refine ae.next (ag.cm (cr 7 Kk ?_))
  refine ai.bI 6 rfl (ai.bI 6 rfl (ai.bI 6 rfl (ai.bI 6 rfl (ai.bI 6 rfl ?_))))
  obtain⟨bJ,e2,h⟩:=au h
  refine ai.sa (gn.JN (τs:= []) 9 5 rfl PZ (HT (ab rfl)) (L4 e2) rfl rfl trivial) rfl rfl rfl fun et=>?_
  refine ai.ez (L2:=(⟨some jd,.var (br e4.c8 aZ:Ref)⟩::⟨some jT,.var (bs (s1.2.1+1):Int)⟩::⟨some ba,.var (bJ.1:Int)⟩::⟨some ck,.var (bJ.2.1:Int)⟩::⟨some eW,.var (bJ.2.2:Bool)⟩::⟨some l,.is (.loop { rec with state:= .busy })⟩::⟨some D,.dx⟩::⟨some q3,.var ((⟨214,some [.pointer (some ⟨jd,0,none⟩),.pointer (some ⟨jT,0,none⟩),.pointer (some ⟨ba,0,none⟩),.pointer (some ⟨ck,0,none⟩),.pointer (some ⟨eW,0,none⟩)]⟩:Raw):Raw)⟩::⟨some a4,.var (ah:an)⟩::a8 hp)) rfl (ai.nil (ae.dB (ae.bI 6 rfl (ae.bI 6 rfl ?_))))
  obtain rfl:=aH h
  exact ae.Ga () 0 rfl
 ·clear ao; subst aQ; simp only [Sum.elim_inl] at h
  refine ae.ez (L2:=(⟨some D,.dx⟩::⟨some jd,.var (s1.1:Ref)⟩::⟨some jT,.var (s1.2.1:Int)⟩::⟨some ba,.var (s1.2.2.1:Int)⟩::⟨some ck,.var (s1.2.2.2.1:Int)⟩::⟨some eW,.var (s1.2.2.2.2:Bool)⟩::⟨some q3,.var ((⟨214,some [.pointer (some ⟨jd,0,none⟩),.pointer (some ⟨jT,0,none⟩),.pointer (some ⟨ba,0,none⟩),.pointer (some ⟨ck,0,none⟩),.pointer (some ⟨eW,0,none⟩)]⟩:Raw):Raw)⟩::⟨some a4,.var (ah:an)⟩::a8 hp)) rfl (ae.dB (ae.next (ag.seq (jk [0,1,3,6,7,8,9,10,11,12,14,15,16,17,18,19,20,21,22,23,24,25,26,27,28,29,30,31,32,33,34,35,36,37,38] ?_))))
  refine ag.draw mixed 5 [some 52,some 53,some 54,some 4,some 5] [[],[],[],[0],[1]] [.val _,.val _,.val _,.val _,.val _] [false,false,false,false,false] (by kernel_rfl) rfl rfl rfl (fun pT=>⟨eG 3 bE,eG 4 bE,eG 5 gF,xh,xh,trivial⟩) fun pT=>?_
  refine aM ?_
  refine aL (ag.ret ?_)
  obtain rfl:=aH h
  refine ae.s6 0 rfl rfl ?_
  exact ae.Jk () (.cons _ (.cons _ (.cons _ (.cons _ (.cons _ (.cons _ (.cons _ (.cons _ (.refl _))))))))) rfl rfl (ej rfl) (ej rfl) (ej rfl)
 clear ao; subst aQ; simp only [Sum.elim_inr] at h
 refine ag.exit (ae.ez (L2:=(⟨some D,.dx⟩::⟨some jd,.var (cU.1:Ref)⟩::⟨some jT,.var (cU.2.1:Int)⟩::⟨some ba,.var (cU.2.2.1:Int)⟩::⟨some ck,.var (cU.2.2.2.1:Int)⟩::⟨some eW,.var (cU.2.2.2.2:Bool)⟩::⟨some q3,.var ((⟨214,some [.pointer (some ⟨jd,0,none⟩),.pointer (some ⟨jT,0,none⟩),.pointer (some ⟨ba,0,none⟩),.pointer (some ⟨ck,0,none⟩),.pointer (some ⟨eW,0,none⟩)]⟩:Raw):Raw)⟩::⟨some a4,.var (ah:an)⟩::a8 hp)) rfl (ae.e1 (ae.next (ag.seq (jk [0,1,3,6,7,8,9,10,11,12,14,15,16,17,18,19,20,21,22,23,24,25,26,27,28,29,30,31,32,33,34,35,36,37,38] ?_)))))
 refine ag.draw mixed 5 [some 52,some 53,some 54,some 4,some 5] [[],[],[],[0],[1]] [.val _,.val _,.val _,.val _,.val _] [false,false,false,false,false] (by kernel_rfl) rfl rfl rfl (fun Cn=>⟨eG 3 bE,eG 4 bE,eG 5 gF,xh,xh,trivial⟩) fun Cn=>?_
 refine aM ?_
 refine aL (ag.ret ?_)
 obtain rfl:=aH h
 refine ae.s6 0 rfl rfl ?_
 exact ae.Jk () (.cons _ (.cons _ (.cons _ (.cons _ (.cons _ (.cons _ (.cons _ (.cons _ (.refl _))))))))) rfl rfl (ej rfl) (ej rfl) (ej rfl)
theorem Uj {J:cA} {ah:Int} {aP:Int} {b5:an} {r:Bool} (h:vu J ah aP b5=some r):bw Tryz.prog 247 [I.of (J),I.of (ah),I.of (aP),I.of (b5)] (I.of (r)):=by
 unfold vu at h
 refine bw.of Tryz.func247 rfl Tryz.ntmps247 rfl fun W A=>?_
 refine aC (b7 fun a4=>?_)
 refine b7 fun ba=>?_
 refine aM ?_
 refine bD (aC (aY (aU uq) ?_))
 refine cc 1 nQ gF ?_
 refine aY hL ?_
 refine aL (cg h (fun h=>?_) fun h=>?_)
 ·refine aC (aB ?_)
  refine bj kf ?_
  refine aB ?_
  refine dE cV ?_
  refine jw sO ?_
  refine iG ?_
  refine aM ?_
  refine aL (ag.ret (ae.ret ?_))
  obtain rfl:=aH h
  exact cX
 refine cO (ag.seq (aC (aB ?_)))
 refine aL (ag.block (aC (bj gf ?_)))
 refine aM ?_
 refine aL (cg h (fun h=>?_) fun h=>?_)
 ·refine aC (cr 0 bG ?_)
  refine aY (aU n8) ?_
  refine cc 1 k6 bG ?_
  refine bj (yz od rfl uz rfl) ?_
  refine aM ?_
  refine aL (ag.ret (ae.dz (ae.ret ?_)))
  obtain rfl:=aH h
  exact cX
 refine aC (bj gf ?_)
 refine aM ?_
 refine aL (cg h (fun h=>?_) fun h=>?_)
 ·refine aC (aB ?_)
  refine aY (aU qf) ?_
  refine cc 1 nR bE ?_
  obtain⟨aD,bo,h⟩:=au h
  refine du Jl (Hr bo) ?_
  refine cC en fun ck=>?_
  refine b8 0 bG ?_
  refine bD ?_
  obtain⟨aK,cb,h⟩:=au h
  obtain⟨bb,dR,h⟩:=au h
  refine ag.draw mixed 8 [some 32,some 33,some 34,some 35,some 36,some 37,some 38,some 39] [[],[],[0,1],[],[3],[],[4,5],[2,6]] [.val _,.val _,.val _,.val _,.val _,.val _,.val _,.val _] [false,false,false,false,false,false,false,false] (by kernel_rfl) rfl rfl rfl (fun cx=>⟨eG 1 bG,eG 0 bG,eH oZ (oN cb),H1 (aU n8),dg 2 k6 bG,eG 0 bG,eH oZ (oN dR),jc (yz od rfl uz rfl),trivial⟩) fun cx=>?_
  refine aM ?_
  refine aL (ag.ret (ae.dz (ae.ret ?_)))
  obtain rfl:=aH h
  exact cX
 refine aC (bj gf ?_)
 refine aM ?_
 refine aL (cg h (fun h=>?_) fun h=>?_)
 ·refine ag.seq ?_
  obtain⟨bJ,e2,h⟩:=au h
  refine ag.draw mixed 7 [some 42,some 43,some 44,some 45,some 46,some 47,some 48] [[],[],[1],[0,2],[],[4],[3,5]] [.val _,.val _,.val _,.val _,.val _,.val _,.val _] [false,false,false,false,false,false,false] (by kernel_rfl) rfl rfl rfl (fun hh=>⟨eG 0 bG,H1 (aU sH),dg 1 pv bG,eH oZ (oN e2),H1 (aU n8),dg 1 k6 bG,jc (yz od rfl uz rfl),trivial⟩) fun hh=>?_
  refine aM ?_
  refine aL (ag.ret (ae.dz (ae.ret ?_)))
  obtain rfl:=aH h
  exact cX
 refine aC (bj gf ?_)
 refine aM ?_
 refine aL (cg h (fun h=>?_) fun h=>?_)
 ·refine aC (aY (aU n8) ?_)
  refine cc 1 k6 bG ?_
  refine cr 0 bG ?_
  obtain⟨bq,gG,h⟩:=au h
  refine du P0 (Mr gG) ?_
  refine bj sO ?_
  refine aB ?_
  refine eI (fun hb=>fa (i:=0) (aN.id an) (r:=b5) bG (ab rfl) rfl rfl rfl) ?_
  refine dE (aU IL) ?_
  refine eI (fun hb=>fa (i:=1) ((aN.id cA).comp xE) (r:=J.l0) bG (cJ rfl hb) rfl rfl rfl) ?_
  obtain⟨b6,gH,h⟩:=au h
  refine eI (fun hb=>hZ P0 (Mr (gN gH hb)) ⟨cJ rfl hb,cJ rfl hb,trivial⟩) ?_
  refine jw sO ?_
  refine iG ?_
  refine aM ?_
  refine aL (ag.ret (ae.dz (ae.ret ?_)))
  obtain rfl:=aH h
  exact cX
 refine ag.skip (ae.dB (ae.next (aC (aM ?_))))
 refine aL (ag.ret ?_)
 obtain rfl:=aH h
 exact cX
theorem Mf {hp:a1 Cell} {J:Ref} {ah:Int} {aP:Bool} {r:aJ×Bool} (h:xF hp J ah aP=some r):b9 Tryz.prog 59 [I.of (J),I.of (ah),I.of (aP)] ([]++a8 hp) (δ:=Unit) (fun _=>I.ep [I.of (r.1),I.of (r.2)]) (fun _=>[]++a8 hp):=by
 unfold xF at h
 refine b9.of Tryz.func59 rfl Tryz.ntmps59 rfl fun W A=>?_
 refine aC (cC gx fun a4=>?_)
 refine aM ?_
 refine bD (aC (aB ?_))
 refine aY hL ?_
 refine aL (cg h (fun h=>?_) fun h=>?_)
 ·refine aC (hg wM gx (default:aJ) .nil ?_)
  refine b8 0 cM ?_
  refine aM ?_
  refine aL (ag.ret (ae.ret ?_))
  obtain rfl:=aH h
  exact ae.kN () (.cons _ (.refl _)) rfl rfl (j2 (i:=0) cM rfl rfl) (ej rfl)
 refine cO (aC (aB ?_))
 obtain⟨cG,dF,h⟩:=au h
 refine bh (dV (eL (ab rfl) dF)) ?_
 refine aY (aU EO) ?_
 obtain⟨bY,ed,h⟩:=au h
 refine bh (gd ((aN.id hn).comp zt) (r:=bY.ly) BG (ab rfl) (fk (n:=1) rfl (m0 ed) rfl) rfl rfl) ?_
 refine aB ?_
 obtain⟨cv,fx,h⟩:=au h
 obtain⟨cN,fI,h⟩:=au h
 obtain⟨bH,dt,h⟩:=au h
 refine bh (vP (r:=bH) Tryz.underlying119 Gb gx (mV (ab rfl) fx) (ab rfl) (fk (n:=1) rfl (v3 fI) rfl) (aH dt)) ?_
 obtain⟨aD,bo,h⟩:=au h
 refine du B1 (Ac bo) ?_
 refine b8 0 cM ?_
 refine aM ?_
 refine aL (ag.ret ?_)
 obtain rfl:=aH h
 exact ae.kN () (.cons _ (.refl _)) rfl rfl (j2 (i:=0) cM rfl rfl) (ej rfl)
theorem T2 {hp:a1 Cell} {J:Ref} {r:(List dy)} (h:D4 hp J=some r):b9 Tryz.prog 218 [I.of (J)] ([]++a8 hp) (δ:=Unit) (fun _=>I.of (r)) (fun _=>[]++a8 hp):=by
 unfold D4 at h
 refine b9.of Tryz.func218 rfl Tryz.ntmps218 rfl fun W A=>?_
 refine aC (bh (ew (look_nil (α:=dy))) ?_)
 refine bW (ai.n9 (z:=(default:List dy)) [0] W4 YZ rfl fun a4=>?_)
 refine ai.own (α:=dy) 315 (bW (aB ?_))
 refine bh (PY (f:=222) (us:= [.pointer (some ⟨a4,0,none⟩)]) ⟨ab rfl,trivial⟩) ?_
 refine ai.Ki (γ:=dy) (b':=([]:List dy)) (aN.id (List dy)) 1 0 rfl rfl rfl (ai.bI 0 rfl (ai.bI 1 rfl ?_))
 obtain⟨aD,bo,h⟩:=au h
 refine ai.sa (gn.m1 2 2 rfl Y0 (SA (key02_0:=none) (cap02_0:=0) bo) rfl rfl ⟨ab rfl,ab rfl,trivial⟩) rfl rfl rfl fun aA=>?_
 refine ai.ez (L2:=(⟨some a4,.cj ([]:List dy) [(0,aS aA.1 aD.length aA.2)]⟩::⟨aA.1,.row 315 (aD:List dy) aA.2⟩::a8 hp)) rfl (bW (bh (ho (i:=0) (q:=0) (β:=List dy) (γ:=dy) Ja (ab rfl) rfl rfl) ?_))
 refine aM ?_
 refine aL (ag.ret (ae.BH (β:=List dy) (γ:=dy) (b':=(aD:List dy)) (aN.id (List dy)) 0 1 0 2 rfl rfl rfl rfl rfl rfl rfl (ae.o0 0 rfl ?_)))
 obtain rfl:=aH h
 exact ae.gr () (.cons _ (.cons _ (.refl _))) rfl rfl (ej rfl)
theorem S7 {hp:a1 Cell} {J:jD} {ah:aJ} {Q:(a1 Cell)→Prop} (h:zC hp J ah Q):b9 Tryz.prog 228 [I.of (J),I.of (ah)] ([]++a8 hp) (δ:= {r:(a1 Cell) // Q r}×Unit) (fun d=>I.ep []) (fun d=>[]++a8 d.1.1):=by
 unfold zC at h
 refine b9.of Tryz.func228 rfl Tryz.ntmps228 rfl fun W A=>?_
 refine aC (b7 fun a4=>?_)
 refine b7 fun ba=>?_
 refine aL (ag.cm (aY (aU EP) ?_))
 refine cc 1 zW BI ?_
 refine aY (aU mX) ?_
 refine cc 0 lx bE ?_
 obtain⟨cG,dF,h⟩:=aI.c2 h
 obtain⟨bY,ed,h⟩:=aI.c2 h
 obtain⟨aD,bo,h⟩:=aI.c2 h
 refine ai.sa (gn.obj 2 (fun q:Option Nat×Nat=>Cell.rQ aD.2 q.1 q.2) rfl (uv ed) Y1 (SF bo) rfl (fun _=>rfl) ⟨eL (ab rfl) dF,ab rfl,trivial⟩) rfl rfl rfl fun aA=>?_
 replace h:=aI.any_bind h aA
 obtain⟨de,kT,h⟩:=aI.c2 h
 refine ai.ez (L2:=(⟨some ba,.var (ah:aJ)⟩::⟨some a4,.var (J:jD)⟩::a8 de)) (by rw [← aH kT]; rfl) ?_
 exact ai.nil (ae.ou (ae.lD (⟨⟨de,h⟩,()⟩: {r // _}×_) (.cons _ (.cons _ (.refl _))) rfl rfl))
theorem SO {hp:a1 Cell} {J:gZ} {ah:Vector an 4} {r:Int×Bool} (h:zv hp J ah=some r):b9 Tryz.prog 201 [I.of (J),I.of (ah)] ([]++a8 hp) (δ:=Unit) (fun _=>I.ep [I.of (r.1),I.of (r.2)]) (fun _=>[]++a8 hp):=by
 unfold zv at h
 refine b9.of Tryz.func201 rfl Tryz.ntmps201 rfl fun W A=>?_
 refine aC (b7 fun a4=>?_)
 refine b7 fun ba=>?_
 refine aM ?_
 refine aM ?_
 refine bW (cr 1 Bv ?_)
 refine cr 0 dW ?_
 obtain⟨aD,bo,h⟩:=au h
 refine du PF (L6 bo) ?_
 refine aB ?_
 refine eO ?_
 refine eO ?_
 refine cC wk fun ck=>?_
 refine cC en fun eW=>?_
 refine b8 1 kx ?_
 refine b8 0 bG ?_
 refine bD ?_
 obtain⟨cG,dF,h⟩:=au h
 obtain⟨bY,ed,h⟩:=au h
 obtain⟨bH,dt,h⟩:=au h
 obtain⟨aK,cb,h⟩:=au h
 obtain⟨bb,dR,h⟩:=au h
 obtain⟨bJ,e2,h⟩:=au h
 refine jk [0,1,2,3,4,5,6,7,11,12,13,14,15,16] ?_
 refine ag.qk 4 mixed (bg 18 [] [] _::bg 19 (0::[]) (3::[]) _::bg 20 [] (1::[]) _::⟨some 21,(1::2::[]),[],[],fun _=>I.of (bH),fun _ _=>⟨none,.dead⟩⟩::bg 22 [] (0::[]) _::bg 23 [] [] _::bg 24 (5::[]) (3::[]) _::bg 25 (6::[]) [] _::bg 26 (4::7::[]) [] _::⟨some 27,(3::8::[]),[],[],fun _=>I.ep [I.of (bJ.1),I.of (bJ.2.1),I.of (bJ.2.2)],fun _ _=>⟨none,.dead⟩⟩::bg 17 (9::[]) [] _::bg 28 (10::[]) [] _::bg 29 (10::[]) [] _::bg 30 (10::[]) [] _::bg 8 (11::[]) [] _::bg 9 (12::[]) [] _::bg 10 (13::[]) [] _::[]) _ (0::1::2::3::4::5::6::7::11::12::13::14::15::16::[]) rfl rfl (by kernel_rfl) (by kernel_rfl) ⟨cI.q (fy (aU sF)),cI.q (o3 3 re rL),cI.q (lG 1 kx),?_,cI.q (lG 0 bG),cI.q (fy (aU Ii)),cI.q (o3 3 Dz bE),cI.q (cz fun hd E' ax aG ar=>hZ Bx (At cb) ⟨ab (aG _ _ rfl),trivial⟩),cI.q (cz fun hd E' ax aG ar=>hZ oZ (oN dR) ⟨ab (aG _ _ rfl),ab (aG _ _ rfl),trivial⟩),?_,cI.q (fP),cI.q (cz fun hd E' ax aG ar=>lC (ab (aG _ _ rfl)) rfl),cI.q (cz fun hd E' ax aG ar=>lC (ab (aG _ _ rfl)) rfl),cI.q (cz fun hd E' ax aG ar=>lC (ab (aG _ _ rfl)) rfl),cI.q (cz fun hd E' ax aG ar=>ew (ab (aG _ _ rfl))),cI.q (cz fun hd E' ax aG ar=>ew (ab (aG _ _ rfl))),cI.q (cz fun hd E' ax aG ar=>ew (ab (aG _ _ rfl))),trivial⟩ fun fj=>?_
 ·intro hd E' ax aG ar dw
  refine bh (vP (r:=bH) Tryz.underlying128 uF yD (mV (ab (aG _ _ rfl)) dF) (ab (aG _ _ rfl)) (fk (n:=4) (dw.trans rfl) (mw ed) rfl) (aH dt)) ?_
  exact ai.nil (ae.fin (eP []) rfl rfl)
 ·intro hd E' ax aG ar dw
  refine ai.jC (gJ.kO 4 (dw.trans rfl) Y2 (Tt e2) ⟨ab (aG _ _ rfl),ab (aG _ _ rfl),trivial⟩) rfl rfl rfl ?_
  exact ai.nil (ae.fin (eP []) rfl rfl)
 refine ae.ez (L2:=(⟨some eW,.var (aD.2:an)⟩::⟨some ck,.var (aD.1:Vector an 4)⟩::⟨some ba,.var (ah:Vector an 4)⟩::⟨some a4,.var (J:gZ)⟩::a8 hp)) rfl (km [0,1,2,3,4,5,6,7,8,9,10,11,12,13,14,15,16,17,18,19,20,21,22,23,24,25,26,27,28,29,30] ?_)
 refine ae.next (aC (aB ?_))
 refine aB ?_
 refine aM ?_
 refine aM ?_
 refine aL (ag.ret ?_)
 obtain rfl:=aH h
 exact ae.kN () (.cons _ (.cons _ (.cons _ (.cons _ (.refl _))))) rfl rfl (ej rfl) (ej rfl)
theorem T3 {J:a3} {ah:bC} {aP:Vector an 4} {r:Bool} (h:tT J ah aP=some r):bw Tryz.prog 243 [I.of (J),I.of (ah),I.of (aP)] (I.of (r)):=by
 unfold tT at h
 refine bw.of Tryz.func243 rfl Tryz.ntmps243 rfl fun W A=>?_
 refine aC (b7 fun a4=>?_)
 refine b7 fun ba=>?_
 refine b7 fun ck=>?_
 refine aM ?_
 refine bW (cr 2 gv ?_)
 refine cr 1 hN ?_
 obtain⟨aD,bo,h⟩:=au h
 refine du P1 (MB bo) ?_
 refine aB ?_
 refine eO ?_
 refine eO ?_
 refine cC l6 fun eW=>?_
 refine b8 0 gu ?_
 refine aM ?_
 refine bD (aC (aB ?_))
 refine aY hL ?_
 refine aL (cg h (fun h=>?_) fun h=>?_)
 ·refine aC (aM ?_)
  refine aL (ag.ret (ae.ret ?_))
  obtain rfl:=aH h
  exact cX
 refine cO (ag.seq (aC (aY (aU k8) ?_)))
 refine cc 0 jZ kQ ?_
 refine aY (eK Tryz.underlying40) ?_
 refine aB ?_
 refine aL (ag.block ?_)
 obtain⟨ay,ao,h⟩:=au h
 refine gE (γ:=Unit) (δ:=Unit) ao [0,1,2,3,4,5,6,7,8,18,20,21] (fun s1 av=>[(22,I.of (s1))]) (fun s1 av=>[]) (fun aA=>Sum.elim (fun aA=>Exit.exit 0) (fun aA=>Exit.ret) aA) (fun aA av=>Sum.elim (fun aA=>[(22,I.of (aA.1)),(23,I.of (aA.2))]) (fun aA=>[(9,I.of (aA.1)),(22,I.of (aA.2.1)),(23,I.of (aA.2.2.1)),(52,I.of (aA.2.2.2))]) aA) (fun aA av=>Sum.elim (fun aA=>[]) (fun aA=>[]) aA) () (fun s1 r h av=>?_) fun av=>?_
 ·refine aC (bj ea ?_)
  refine bD (cg h (fun h=>?_) fun h=>?_)
  ·refine cO (ag.seq (ag.block (aC (aB ?_))))
   obtain⟨aZ,cq,h⟩:=au h
   refine g5 cq Tryz.underlying40 iZ ?_
   refine aY (da iZ) ?_
   refine cC ki fun jd=>?_
   refine aM ?_
   refine b8 0 iZ ?_
   refine bD ?_
   obtain⟨bP,c6,h⟩:=au h
   obtain⟨aK,cb,h⟩:=au h
   obtain⟨cT,fe,h⟩:=au h
   obtain⟨bb,dR,h⟩:=au h
   obtain⟨bH,dt,h⟩:=au h
   refine ag.draw mixed 26 ((some 27)::(some 28)::(some 29)::(some 30)::(some 31)::(some 32)::(some 33)::(some 34)::(some 35)::(some 36)::(some 37)::(some 38)::(some 39)::(some 40)::(some 41)::(some 42)::(some 43)::(some 44)::(some 45)::(some 46)::(some 47)::(some 48)::(some 49)::(some 50)::(some 51)::(some 52)::[]) ([]::[]::[1]::[2]::[0,3]::[4]::[5]::[5,6]::[5,7]::[8]::[9]::[9,10]::[9]::[9,11,12]::[9,13]::[9]::[9,15]::[9]::[9]::[9,17,18]::[9]::[9,20]::[9,21]::[9,14,16,19,22]::[9,23]::[9,24]::[]) (.val _::.val _::.val _::.val _::.val _::.val _::.val _::.val _::.val _::.val _::.val _::.val _::.val _::.val _::.val _::.val _::.val _::.val _::.val _::.val _::.val _::.val _::.val _::.val _::.val _::.val _::[]) (false::false::false::false::false::false::false::false::false::false::false::false::false::false::false::false::false::false::false::false::false::false::false::false::false::false::[]) (by kernel_rfl) rfl rfl rfl (fun cx=>⟨ct,H1 (aU k9),dg 3 ku kS,H1 (eK Tryz.underlying51),jc kf,ct,fz fun ax ar=>fun hb=>cV (ab rfl),fz fun ax ar=>fun hb=>kf (cJ rfl hb) (bU 4),c1 fun ax ar=>s0 (ab rfl) (ab rfl) (fun h=>h),ct,fz fun ax ar=>fun hb=>aU k9 (ab rfl),fz fun ax ar=>fun hb=>fa (i:=3) ((aN.id bC).comp ku) (r:=ah.b4) kS (cJ rfl hb) (ar _ _ rfl rfl) rfl rfl,fz fun ax ar=>fun hb=>cV (ab rfl),fz fun ax ar=>fun hb=>ql (k:=bP) Tryz.underlying51 gw (cJ rfl hb) (cJ rfl hb) (bZ (gN c6 hb)),fz fun ax ar=>fun hb=>da gw (cJ rfl hb),fz fun ax ar=>fun hb=>aU sG (ab rfl),fz fun ax ar=>fun hb=>fa (i:=0) ((aN.id cR).comp lW) (r:=(az aD.1.bN aZ).cS) bE (cJ rfl hb) (ar _ _ rfl rfl) rfl rfl,fz fun ax ar=>fun hb=>fa (i:=4) (aN.id a3) (r:=J) gv (ab rfl) (ar _ _ rfl rfl) rfl rfl,fz fun ax ar=>fun hb=>fa (i:=0) (aN.id cR) (r:=(az aD.1.bN aZ)) iZ (ab rfl) (ar _ _ rfl rfl) rfl rfl,fz fun ax ar=>fun hb=>hZ Y3 (Ui (gN cb hb)) ⟨cJ rfl hb,cJ rfl hb,trivial⟩,fz fun ax ar=>fun hb=>cV (ab rfl),fz fun ax ar=>fun hb=>eb (k:=cT) fU (ab rfl) (cJ rfl hb) (bZ (gN fe hb)),fz fun ax ar=>fun hb=>fa (i:=2) ((aN.id (Vector an 4)).comp (aN.idx (α:=an) 4 cT (bZ (gN fe hb)).1)) (r:=br aP cT) bG (cJ rfl hb) (ar _ _ rfl rfl) rfl rfl,fz fun ax ar=>fun hb=>hZ Y4 (Uj (gN dR hb)) ⟨cJ rfl hb,cJ rfl hb,cJ rfl hb,cJ rfl hb,trivial⟩,fz fun ax ar=>fun hb=>hL (cJ rfl hb),u9 dt fun ax ar=>s0 (ab rfl) (ab rfl) (fun h=>h),trivial⟩) fun cx=>?_
   refine aL (cg h (fun h=>?_) fun h=>?_)
   ·refine aC (aM ?_)
    refine aL (ag.ret (ae.dz (ae.ret ?_)))
    obtain rfl:=aH h
    exact dY () 1
   refine ag.skip (ae.dB (ae.next (ag.cm (bj dd ?_))))
   refine aB ?_
   refine ai.nil ?_
   obtain rfl:=aH h
   exact fc () 1
  refine ag.exit (ae.exit ?_)
  obtain rfl:=aH h
  exact dY () 0
 rcases ay with ay | ay
 ·simp only [Sum.elim_inl] at h
  refine ae.e1 (ae.next (aC (aM ?_)))
  refine aL (ag.ret ?_)
  obtain rfl:=aH h
  exact cX
 simp only [Sum.elim_inr] at h
 refine ae.dz (ae.ret ?_)
 obtain rfl:=aH h
 exact cX
theorem T4 {hp:a1 Cell} {J:Ref} {r:Int} (h:xP hp J=some r):b9 Tryz.prog 211 [I.of (J)] ([]++a8 hp) (δ:=Unit) (fun _=>I.of (r)) (fun _=>[]++a8 hp):=by
 unfold xP at h
 refine b9.of Tryz.func211 rfl Tryz.ntmps211 rfl fun W A=>?_
 refine aC (aM ?_)
 refine bW (aB ?_)
 obtain⟨aD,bo,h⟩:=au h
 refine ai.jC (gJ.kO 0 rfl Y5 (T2 bo) ⟨ab rfl,trivial⟩) rfl rfl rfl ?_
 refine aY (eK Tryz.underlying310) ?_
 refine aM ?_
 refine aL (ag.ret ?_)
 obtain rfl:=aH h
 exact ae.gr () (.refl _) rfl rfl (ej rfl)
theorem Up {J:cA} {ah:cA} {r:Int} (h:Aq J ah=some r):bw Tryz.prog 132 [I.of (J),I.of (ah)] (I.of (r)):=by
 unfold Aq at h
 refine bw.of Tryz.func132 rfl Tryz.ntmps132 rfl fun W A=>?_
 refine aC (b7 fun a4=>?_)
 refine b7 fun ba=>?_
 refine aM ?_
 refine bD (ag.block (aC (aY (aU uq) ?_)))
 refine cc 1 nQ gF ?_
 refine aY (aU uq) ?_
 refine cc 0 nQ gF ?_
 refine bj (Jd Tryz.underlying4) ?_
 refine aB ?_
 refine dE (aU uq) ?_
 refine eI (fun hb=>fa (i:=0) ((aN.id cA).comp nQ) (r:=ah.g1) gF (cJ rfl hb) rfl rfl rfl) ?_
 refine iG ?_
 refine aM ?_
 refine aL (cg h (fun h=>?_) fun h=>?_)
 ·refine aC (aM ?_)
  refine aL (ag.ret (ae.dz (ae.ret ?_)))
  obtain rfl:=aH h
  exact cX
 refine aC (aY (aU uq) ?_)
 refine cc 1 nQ gF ?_
 refine aY (aU uq) ?_
 refine cc 0 nQ gF ?_
 refine bj (Jd Tryz.underlying4) ?_
 refine aM ?_
 refine aL (cg h (fun h=>?_) fun h=>?_)
 ·refine aC (aM ?_)
  refine aL (ag.ret (ae.dz (ae.ret ?_)))
  obtain rfl:=aH h
  exact cX
 refine aC (aY (aU n8) ?_)
 refine cc 1 k6 bG ?_
 refine aY (aU n8) ?_
 refine cc 0 k6 bG ?_
 refine bj (yx od rfl uz rfl) ?_
 refine aM ?_
 refine aL (cg h (fun h=>?_) fun h=>?_)
 ·refine aC (aY (aU n8) ?_)
  refine cc 1 k6 bG ?_
  refine aY (aU n8) ?_
  refine cc 0 k6 bG ?_
  obtain⟨aD,bo,h⟩:=au h
  refine du FA (D3 bo) ?_
  refine aM ?_
  refine aL (ag.ret (ae.dz (ae.ret ?_)))
  obtain rfl:=aH h
  exact cX
 refine aC (aY (aU sH) ?_)
 refine cc 1 pv bG ?_
 refine aY (aU sH) ?_
 refine cc 0 pv bG ?_
 refine bj (yx od rfl uz rfl) ?_
 refine aM ?_
 refine aL (cg h (fun h=>?_) fun h=>?_)
 ·refine aC (aY (aU sH) ?_)
  refine cc 1 pv bG ?_
  refine aY (aU sH) ?_
  refine cc 0 pv bG ?_
  obtain⟨aK,cb,h⟩:=au h
  refine du FA (D3 cb) ?_
  refine aM ?_
  refine aL (ag.ret (ae.dz (ae.ret ?_)))
  obtain rfl:=aH h
  exact cX
 refine aC (aY (aU qf) ?_)
 refine cc 1 nR bE ?_
 refine aY (aU qf) ?_
 refine cc 0 nR bE ?_
 refine bj sP ?_
 refine aM ?_
 refine aL (cg h (fun h=>?_) fun h=>?_)
 ·refine aC (aY (aU qf) ?_)
  refine cc 1 nR bE ?_
  refine aY (aU qf) ?_
  refine cc 0 nR bE ?_
  obtain⟨bb,dR,h⟩:=au h
  refine du yM (xV dR) ?_
  refine aM ?_
  refine aL (ag.ret (ae.dz (ae.ret ?_)))
  obtain rfl:=aH h
  exact cX
 refine ag.skip (ae.dB (ae.next (aC (aY (aU IL) ?_))))
 refine cc 1 xE bG ?_
 refine aY (aU IL) ?_
 refine cc 0 xE bG ?_
 obtain⟨bJ,e2,h⟩:=au h
 refine du FA (D3 e2) ?_
 refine aM ?_
 refine aL (ag.ret ?_)
 obtain rfl:=aH h
 exact cX
theorem Uk {J:List an} {ah:List an} {r:Int} (h:Ak J ah=some r):bw Tryz.prog 100 [I.of (J),I.of (ah)] (I.of (r)):=by
 unfold Ak at h
 refine bw.of Tryz.func100 rfl Tryz.ntmps100 rfl fun W A=>?_
 refine aC (aM ?_)
 refine bD (aC (aM ?_))
 refine aL (ag.block ?_)
 obtain⟨ay,ao,h⟩:=au h
 refine gE (γ:=Unit) (δ:=Unit) ao [0,1] (fun s1 av=>[(4,I.of (0:Int)),(5,I.of (s1))]) (fun s1 av=>[]) (fun aA=>Sum.elim (fun aA=>Exit.exit 0) (fun aA=>Exit.ret) aA) (fun aA av=>Sum.elim (fun aA=>[(4,I.of (0:Int)),(5,I.of (aA.1)),(16,I.of (aA.2))]) (fun aA=>[(4,I.of (aA.1)),(5,I.of (aA.2.1)),(6,I.of (aA.2.2.1)),(16,I.of (aA.2.2.2.1)),(29,I.of (aA.2.2.2.2))]) aA) (fun aA av=>Sum.elim (fun aA=>[]) (fun aA=>[]) aA) () (fun s1 r h av=>?_) fun av=>?_
 ·refine ag.seq (aC (aB ?_))
  refine aB ?_
  refine aY (eK Tryz.underlying42) ?_
  refine bj ea ?_
  refine aB ?_
  refine dE cV ?_
  refine dE cV ?_
  refine dE (eK Tryz.underlying42) ?_
  refine jw ea ?_
  refine iG ?_
  refine aL (cg h (fun h=>?_) fun h=>?_)
  ·refine cO (ag.seq (ag.block (ag.seq ?_)))
   obtain⟨aZ,cq,h⟩:=au h
   obtain⟨bP,c6,h⟩:=au h
   obtain⟨aD,bo,h⟩:=au h
   refine ag.draw mixed 9 [some 19,some 20,some 21,some 22,some 23,some 24,some 25,some 26,some 27] [[],[],[0,1],[2],[],[],[4,5],[6],[3,7]] [.val _,.val _,.val _,.val _,.val _,.val _,.val _,.val _,.val _] [false,false,false,false,false,false,false,false,false] (by kernel_rfl) rfl rfl rfl (fun cx=>⟨ct,ct,kX cq Tryz.underlying42 bG,H1 (da bG),ct,ct,kX c6 Tryz.underlying42 bG,H1 (da bG),eH FA (D3 bo),trivial⟩) fun cx=>?_
   refine aM ?_
   refine bW (aB ?_)
   refine bj sP ?_
   refine aL (cg h (fun h=>?_) fun h=>?_)
   ·refine aC (aB ?_)
    refine aM ?_
    refine aL (ag.ret (ae.dz (ae.ret ?_)))
    obtain rfl:=aH h
    exact dY () 0
   refine ag.skip (ae.dB (ae.next (ag.cm (aB ?_))))
   refine bj dd ?_
   refine aM ?_
   refine ai.nil ?_
   obtain rfl:=aH h
   exact fc () 0
  refine ag.exit (ae.exit ?_)
  obtain rfl:=aH h
  exact dY () 0
 rcases ay with ay | ay
 ·simp only [Sum.elim_inl] at h
  refine ae.e1 (ae.next (aC (aB ?_)))
  refine aY (eK Tryz.underlying42) ?_
  refine aB ?_
  refine aY (eK Tryz.underlying42) ?_
  obtain⟨aK,cb,h⟩:=au h
  refine du yM (xV cb) ?_
  refine aM ?_
  refine aL (ag.ret ?_)
  obtain rfl:=aH h
  exact cX
 simp only [Sum.elim_inr] at h
 refine ae.dz (ae.ret ?_)
 obtain rfl:=aH h
 exact cX
theorem T5 {J:List cA} {ah:List cA} {r:Int} (h:Ad J ah=some r):bw Tryz.prog 98 [I.of (J),I.of (ah)] (I.of (r)):=by
 unfold Ad at h
 refine bw.of Tryz.func98 rfl Tryz.ntmps98 rfl fun W A=>?_
 refine aC (aM ?_)
 refine bD (aC (aM ?_))
 refine aL (ag.block ?_)
 obtain⟨ay,ao,h⟩:=au h
 refine gE (γ:=Unit) (δ:=Unit) ao [0,1] (fun s1 av=>[(4,I.of (0:Int)),(5,I.of (s1))]) (fun s1 av=>[]) (fun aA=>Sum.elim (fun aA=>Exit.exit 0) (fun aA=>Exit.ret) aA) (fun aA av=>Sum.elim (fun aA=>[(4,I.of (0:Int)),(5,I.of (aA.1)),(16,I.of (aA.2))]) (fun aA=>[(4,I.of (aA.1)),(5,I.of (aA.2.1)),(6,I.of (aA.2.2.1)),(16,I.of (aA.2.2.2.1)),(29,I.of (aA.2.2.2.2))]) aA) (fun aA av=>Sum.elim (fun aA=>[]) (fun aA=>[]) aA) () (fun s1 r h av=>?_) fun av=>?_
 ·refine ag.seq (aC (aB ?_))
  refine aB ?_
  refine aY (eK Tryz.underlying51) ?_
  refine bj ea ?_
  refine aB ?_
  refine dE cV ?_
  refine dE cV ?_
  refine dE (eK Tryz.underlying51) ?_
  refine jw ea ?_
  refine iG ?_
  refine aL (cg h (fun h=>?_) fun h=>?_)
  ·refine cO (ag.seq (ag.block (ag.seq ?_)))
   obtain⟨aZ,cq,h⟩:=au h
   obtain⟨bP,c6,h⟩:=au h
   obtain⟨aD,bo,h⟩:=au h
   refine ag.draw mixed 9 [some 19,some 20,some 21,some 22,some 23,some 24,some 25,some 26,some 27] [[],[],[0,1],[2],[],[],[4,5],[6],[3,7]] [.val _,.val _,.val _,.val _,.val _,.val _,.val _,.val _,.val _] [false,false,false,false,false,false,false,false,false] (by kernel_rfl) rfl rfl rfl (fun cx=>⟨ct,ct,kX cq Tryz.underlying51 gw,H1 (da gw),ct,ct,kX c6 Tryz.underlying51 gw,H1 (da gw),eH Y6 (Up bo),trivial⟩) fun cx=>?_
   refine aM ?_
   refine bW (aB ?_)
   refine bj sP ?_
   refine aL (cg h (fun h=>?_) fun h=>?_)
   ·refine aC (aB ?_)
    refine aM ?_
    refine aL (ag.ret (ae.dz (ae.ret ?_)))
    obtain rfl:=aH h
    exact dY () 0
   refine ag.skip (ae.dB (ae.next (ag.cm (aB ?_))))
   refine bj dd ?_
   refine aM ?_
   refine ai.nil ?_
   obtain rfl:=aH h
   exact fc () 0
  refine ag.exit (ae.exit ?_)
  obtain rfl:=aH h
  exact dY () 0
 rcases ay with ay | ay
 ·simp only [Sum.elim_inl] at h
  refine ae.e1 (ae.next (aC (aB ?_)))
  refine aY (eK Tryz.underlying51) ?_
  refine aB ?_
  refine aY (eK Tryz.underlying51) ?_
  obtain⟨aK,cb,h⟩:=au h
  refine du yM (xV cb) ?_
  refine aM ?_
  refine aL (ag.ret ?_)
  obtain rfl:=aH h
  exact cX
 simp only [Sum.elim_inr] at h
 refine ae.dz (ae.ret ?_)
 obtain rfl:=aH h
 exact cX
theorem Uq {J:List Int} {r:Int} (h:Ar J=some r):bw Tryz.prog 105 [I.of (J)] (I.of (r)):=by
 unfold Ar at h
 refine bw.of Tryz.func105 rfl Tryz.ntmps105 rfl fun W A=>?_
 refine aC (aM ?_)
 refine bD (aC (aB ?_))
 refine aY (eK Tryz.underlying41) ?_
 refine aB ?_
 refine aL (ag.block ?_)
 obtain⟨ay,ao,h⟩:=au h
 refine gE (γ:=Unit) (δ:=Unit) ao [0,5,6] (fun s1 av=>[(2,I.of (0:Int)),(7,I.of (s1))]) (fun s1 av=>[]) (fun aA=>Sum.elim (fun aA=>Exit.exit 0) (fun aA=>Exit.ret) aA) (fun aA av=>Sum.elim (fun aA=>[(2,I.of (0:Int)),(7,I.of (aA.1)),(8,I.of (aA.2))]) (fun aA=>[(2,I.of (aA.1)),(4,I.of (aA.2.1)),(7,I.of (aA.2.2.1)),(8,I.of (aA.2.2.2.1)),(12,I.of (aA.2.2.2.2))]) aA) (fun aA av=>Sum.elim (fun aA=>[]) (fun aA=>[]) aA) () (fun s1 r h av=>?_) fun av=>?_
 ·refine aC (bj ea ?_)
  refine bD (cg h (fun h=>?_) fun h=>?_)
  ·refine cO (ag.seq (ag.block (aC ?_)))
   obtain⟨aZ,cq,h⟩:=au h
   refine g5 cq Tryz.underlying41 bE ?_
   refine aY (da bE) ?_
   refine aM ?_
   refine bW (aB ?_)
   refine bj sP ?_
   refine aL (cg h (fun h=>?_) fun h=>?_)
   ·refine aC (aB ?_)
    refine aM ?_
    refine aL (ag.ret (ae.dz (ae.ret ?_)))
    obtain rfl:=aH h
    exact dY () 0
   refine ag.skip (ae.dB (ae.next (ag.cm (bj dd ?_))))
   refine aB ?_
   refine ai.nil ?_
   obtain rfl:=aH h
   exact fc () 0
  refine ag.exit (ae.exit ?_)
  obtain rfl:=aH h
  exact dY () 0
 rcases ay with ay | ay
 ·simp only [Sum.elim_inl] at h
  refine ae.e1 (ae.next (aC (aM ?_)))
  refine aL (ag.ret ?_)
  obtain rfl:=aH h
  exact cX
 simp only [Sum.elim_inr] at h
 refine ae.dz (ae.ret ?_)
 obtain rfl:=aH h
 exact cX
theorem St {J:List bc} {ah:bc→Option Bool} {og:Option Nat} {fM:Nat} {r:(List bc)} (h:xp J ah=some r):b9 Tryz.prog 119 [I.eq (aS og J.length fM),I.qA Tryz.prog ah] [⟨og,.row 142 (J:List bc) fM⟩] (δ:=Unit) (fun d=>I.of (r)) (fun d=>[]):=by
 unfold xp at h
 refine b9.of Tryz.func119 rfl Tryz.ntmps119 rfl fun W A=>?_
 refine aC (bh (ew (look_nil (α:=bc))) ?_)
 refine bW (aB ?_)
 refine aB ?_
 obtain⟨aD,bo,h⟩:=au h
 refine bh (cf.QY (α:=bc) 0 8 rfl rfl ud (hZ P2 (LX bo) ⟨ab rfl,ab rfl,trivial⟩)) ?_
 refine aM ?_
 refine bD (aC (aB ?_))
 refine bj gf ?_
 refine aL (cg h (fun h=>?_) fun h=>?_)
 ·refine aC (aB ?_)
  refine aM ?_
  refine aL (ag.ret (ae.ret (ae.n4 (α:=bc) 0 [4,0,8,13] ⟨rfl,rfl,rfl,rfl,trivial⟩ rfl ?_)))
  obtain rfl:=aH h
  exact kW ()
 refine cO (ag.seq (aC (aB ?_)))
 refine bj dd ?_
 refine aM ?_
 refine aL (ag.block ?_)
 obtain⟨ay,ao,h⟩:=au h
 refine gE (γ:=(Option Nat×Nat)) (δ:=(Option Nat×Nat)) ao [1,4,12] (fun s1 av=>[(0,I.eq (aS av.1 s1.2.2.length av.2)),(5,I.of (s1.1)),(6,I.of (s1.2.1))]) (fun s1 av=>[(0,⟨av.1,.row 142 (s1.2.2:List bc) av.2⟩)]) (fun aA=>Exit.exit 0) (fun aA av=>[(0,I.eq (aS av.1 aA.2.2.2.length av.2)),(5,I.of (aA.1)),(6,I.of (aA.2.1)),(19,I.of (aA.2.2.1))]) (fun aA av=>[(0,⟨av.1,.row 142 (aA.2.2.2:List bc) av.2⟩)]) (og,fM) (fun s1 r h av=>?_) fun av=>?_
 ·refine ag.seq (aC (aB ?_))
  refine aB ?_
  refine bh (oU (i:=0) Tryz.underlying143 (ab rfl) rfl rfl) ?_
  refine bj ea ?_
  refine aL (cg h (fun h=>?_) fun h=>?_)
  ·refine cO (ag.seq (ag.block (aC (aB ?_))))
   refine aB ?_
   obtain⟨aZ,cq,h⟩:=au h
   refine bh (l2 (i:=0) (k:=aZ) (xs:=(s1.2.2:List bc)) Tryz.underlying143 dI (ab rfl) (ab rfl) rfl (bZ cq)) ?_
   refine bh (pA (i:=0) (k:=aZ) (aN.id bc) (r:=(az s1.2.2 aZ)) dI (ab rfl) rfl (bZ cq).1 rfl rfl) ?_
   refine cC jh fun a4=>?_
   refine b8 0 dI ?_
   refine bW (aB ?_)
   refine cr 0 dI ?_
   obtain⟨aK,cb,h⟩:=au h
   refine bh (yb (ab rfl) (ab rfl) cb) ?_
   refine aY hL ?_
   refine aL ?_
   obtain⟨bx,cy,h⟩:=au h
   refine jj (γ:=(Option Nat×Nat)) [1,4,6,7,12,19,29] (fun aW=>[(0,I.eq (aS aW.1 bx.2.length aW.2)),(5,I.of (bx.1))]) (fun aW=>[(1,⟨aW.1,.row 142 (bx.2:List bc) aW.2⟩)]) (fun aW=>?_) (fun hm al=>?_) fun hm al=>?_
   ·refine ae.dB (ae.next (ag.cm (aB ?_)))
    refine bj dd ?_
    refine aM ?_
    refine ai.nil ?_
    obtain rfl:=aH h
    exact fc (aW.1,aW.2) 1
   ·have h:=gQ al cy
    refine aC (aB ?_)
    refine aB ?_
    refine cr 0 dI ?_
    obtain⟨bP,c6,h⟩:=au h
    refine bh (l2 (i:=1) (k:=bP) (xs:=(s1.2.2:List bc)) Tryz.underlying143 dI (ab rfl) (ab rfl) rfl (bZ c6)) ?_
    refine ai.yn (i:=1) (k:=bP) (aN.id bc) (v:=((az s1.2.2 aZ):bc)) (r:=(h5 s1.2.2 bP (az s1.2.2 aZ):List bc)) dI (ab rfl) (ab rfl) rfl (bZ c6).1 rfl rfl (ai.l3 (m:=(h5 s1.2.2 bP (az s1.2.2 aZ)).length) 0 rfl (nt rfl) (ai.l3 (m:=(h5 s1.2.2 bP (az s1.2.2 aZ)).length) 17 rfl (nt rfl) (ai.l3 (m:=(h5 s1.2.2 bP (az s1.2.2 aZ)).length) 22 rfl (nt rfl) (ai.l3 (m:=(h5 s1.2.2 bP (az s1.2.2 aZ)).length) 30 rfl (nt rfl) (aL (ag.cm (aB ?_)))))))
    refine bj dd ?_
    refine aM ?_
    refine ai.nil ?_
    obtain rfl:=aH h
    exact dq 0 (hm (av.1,av.2))
   have h:=gR al cy
   refine ag.skip ?_
   obtain rfl:=aH h
   exact dq 0 (hm (av.1,av.2))
  refine ag.exit (ae.exit ?_)
  obtain rfl:=aH h
  exact dY (av.1,av.2) 0
 refine ae.e1 (ae.next (aC (aB ?_)))
 refine aB ?_
 obtain⟨bb,dR,h⟩:=au h
 refine bh (yc (i:=0) (xs:=(ay.2.2.2:List bc)) (m:=bb.1) (n:=bb.2) Tryz.underlying143 dI (ab rfl) rfl (.some (ab rfl)) .none (x8 dR).1 (x8 dR).2.1 (x8 dR).2.2) ?_
 obtain⟨bH,dt,h⟩:=au h
 refine ai.clear (i:=0) (r:=bH) Tryz.underlying143 dI jh rfl (ab rfl) rfl (by have:=(x8 dR).2.2; omega) (aH dt) ?_
 refine ai.l3 (m:=bH.length) 0 rfl (MZ (by have:=(x8 dR).2.2; omega) (aH dt)) ?_
 refine ai.l3 (m:=bH.length) 36 rfl (MZ (by have:=(x8 dR).2.2; omega) (aH dt)) ?_
 refine bW (aB ?_)
 refine aB ?_
 obtain⟨cT,fe,h⟩:=au h
 refine bh (yc (i:=0) (xs:=(bH:List bc)) (m:=0) (n:=cT) Tryz.underlying143 dI (ab rfl) rfl .none (.some (ab rfl)) rfl (bZ fe).2 ⟨Nat.zero_le _,Nat.le_of_lt_succ (bZ fe).1⟩) ?_
 obtain⟨dn,hx,h⟩:=au h
 refine ai.Y7 (i:=0) (n:=cT) (xs:=(bH:List bc)) (r:=dn) 41 rfl rfl (Nat.le_of_lt_succ (bZ fe).1) (aH hx) (aM ?_)
 refine aL (ag.ret (ae.n4 (α:=bc) 0 [4,41] ⟨rfl,rfl,trivial⟩ rfl ?_))
 obtain rfl:=aH h
 exact kW ()
theorem Su {J:List bc} {ah:bc→Option Bool} {r:Bool} (h:zl J ah=some r):bw Tryz.prog 123 [I.of (J),I.qA Tryz.prog ah] (I.of (r)):=by
 unfold zl at h
 refine bw.of Tryz.func123 rfl Tryz.ntmps123 rfl fun W A=>?_
 refine aC (aM ?_)
 refine bW (aB ?_)
 refine aB ?_
 obtain⟨aD,bo,h⟩:=au h
 refine du P2 (LX bo) ?_
 refine bj kf ?_
 refine aM ?_
 refine aL (ag.ret ?_)
 obtain rfl:=aH h
 exact cX
theorem Mi {hp:a1 Cell} {J:Ref} {ah:an} {aP:Int} {r:Bool} (h:xG hp J ah aP=some r):b9 Tryz.prog 216 [I.of (J),I.of (ah),I.of (aP)] ([]++a8 hp) (δ:=Unit) (fun _=>I.of (r)) (fun _=>[]++a8 hp):=by
 unfold xG at h
 refine b9.of Tryz.func216 rfl Tryz.ntmps216 rfl fun W A=>?_
 refine aC (b7 fun a4=>?_)
 refine aM ?_
 refine bD ?_
 obtain⟨cG,dF,h⟩:=au h
 obtain⟨bY,ed,h⟩:=au h
 obtain⟨cv,fx,h⟩:=au h
 obtain⟨cN,fI,h⟩:=au h
 obtain⟨aD,bo,h⟩:=au h
 obtain⟨aK,cb,h⟩:=au h
 obtain⟨bH,dt,h⟩:=au h
 refine ag.draw mixed 26 ((some 7)::(some 8)::(some 9)::(some 10)::(some 11)::(some 12)::(some 13)::(some 14)::(some 15)::(some 16)::(some 17)::(some 18)::(some 19)::(some 20)::(some 21)::(some 22)::(some 23)::(some 24)::(some 25)::(some 26)::(some 27)::(some 28)::(some 29)::(some 30)::(some 31)::(some 32)::[]) ([]::[0]::[1]::[2]::[2,3]::[2,4]::[5]::[6]::[6]::[6,8]::[6,9]::[6,10]::[6,7,11]::[6,12]::[13]::[14]::[14]::[14,16]::[14,17]::[14,18]::[14]::[14,19,20]::[14,15,21]::[14]::[14,22,23]::[14,24]::[]) (.val _::.val _::.val _::.val _::.val _::.val _::.val _::.val _::.val _::.val _::.val _::.val _::.val _::.val _::.val _::.val _::.val _::.val _::.val _::.val _::.val _::.val _::.val _::.val _::.val _::.val _::[]) (false::false::false::false::false::false::false::false::false::false::false::false::false::false::false::false::false::false::false::false::false::false::false::false::false::false::[]) (by kernel_rfl) rfl rfl rfl (fun cx=>⟨ct,c1 fun ax ar=>Ep Tryz.underlying289 (ab rfl),ct,fz fun ax ar=>fun hb=>cV (ab rfl),fz fun ax ar=>fun hb=>kf (cJ rfl hb) (bU 0),c1 fun ax ar=>rF (ab rfl) (ab rfl) (fun h=>h),ct,fz fun ax ar=>fun hb=>cV (ab rfl),fz fun ax ar=>fun hb=>cV (ab rfl),fz fun ax ar=>fun hb=>dV (eL (cJ rfl hb) (gN dF hb)),fz fun ax ar=>fun hb=>aU vO (cJ rfl hb),fz fun ax ar=>fun hb=>gd ((aN.id fK).comp tN) (r:=bY.fL) bE (cJ rfl hb) (kB (fun i e q=>ar i e q rfl) (fk (n:=1) rfl (mv (gN ed hb)) rfl)) rfl rfl,fz fun ax ar=>fun hb=>sO (cJ rfl hb) (cJ rfl hb),c1 fun ax ar=>rF (ab rfl) (ab rfl) (fun h=>h),ct,fz fun ax ar=>fun hb=>fa (i:=0) (aN.id an) (r:=ah) bG (ab rfl) (ar _ _ rfl rfl) rfl rfl,fz fun ax ar=>fun hb=>cV (ab rfl),fz fun ax ar=>fun hb=>dV (eL (cJ rfl hb) (gN fx hb)),fz fun ax ar=>fun hb=>aU vO (cJ rfl hb),fz fun ax ar=>fun hb=>gd ((aN.id fK).comp tN) (r:=cN.fL) bE (cJ rfl hb) (kB (fun i e q=>ar i e q rfl) (fk (n:=1) rfl (mv (gN fI hb)) rfl)) rfl rfl,fz fun ax ar=>fun hb=>cV (ab rfl),fz fun ax ar=>fun hb=>hZ Jl (Hr (gN bo hb)) ⟨cJ rfl hb,cJ rfl hb,trivial⟩,fz fun ax ar=>fun hb=>hZ oZ (oN (gN cb hb)) ⟨cJ rfl hb,cJ rfl hb,trivial⟩,fz fun ax ar=>fun hb=>fa (i:=0) (aN.id an) (r:=ah) bG (ab rfl) (ar _ _ rfl rfl) rfl rfl,fz fun ax ar=>fun hb=>yz od rfl uz rfl (cJ rfl hb) (cJ rfl hb),u9 dt fun ax ar=>rF (ab rfl) (ab rfl) (fun h=>h),trivial⟩) fun cx=>?_
 refine aM ?_
 refine aL (ag.ret ?_)
 obtain rfl:=aH h
 exact ae.gr () (.cons _ (.refl _)) rfl rfl (ej rfl)
theorem Uy {J:List aJ} {og:Option Nat} {fM:Nat} {r:(List aJ)} (h:x0 J=some r):b9 Tryz.prog 234 [I.eq (aS og J.length fM)] [⟨og,.row 56 (J:List aJ) fM⟩] (δ:=Unit) (fun d=>I.of (r)) (fun d=>[⟨og,.row 56 (J:List aJ) fM⟩]):=by
 unfold x0 at h
 refine b9.of Tryz.func234 rfl Tryz.ntmps234 rfl fun W A=>?_
 refine aC (bh (ew (look_nil (α:=aJ))) ?_)
 refine bW (ai.own (α:=aJ) 56 (bh (ew qb) ?_))
 refine bD (aC (aB ?_))
 refine bh (oU (i:=1) Tryz.underlying67 (ab rfl) rfl rfl) ?_
 refine aB ?_
 refine aL (ag.block ?_)
 obtain⟨ay,ao,h⟩:=au h
 refine gE (γ:=(Option Nat×Nat)) (δ:=(Option Nat×Nat)) ao [0,2,6,7] (fun s1 av=>[(3,I.eq (aS av.1 s1.2.length av.2)),(8,I.of (s1.1))]) (fun s1 av=>[(0,⟨av.1,.row 56 (s1.2:List aJ) av.2⟩)]) (fun aA=>Exit.exit 0) (fun aA av=>[(3,I.eq (aS av.1 aA.2.2.length av.2)),(8,I.of (aA.1)),(9,I.of (aA.2.1))]) (fun aA av=>[(0,⟨av.1,.row 56 (aA.2.2:List aJ) av.2⟩)]) (none,0) (fun s1 r h av=>?_) fun av=>?_
 ·refine aC (bj ea ?_)
  refine bD (cg h (fun h=>?_) fun h=>?_)
  ·refine cO (ag.seq (ag.block (aC ?_)))
   obtain⟨aZ,cq,h⟩:=au h
   refine bh (l2 (i:=1) (k:=aZ) (xs:=(J:List aJ)) Tryz.underlying67 cM (ab rfl) (ab rfl) rfl (bZ cq)) ?_
   refine bh (pA (i:=1) (k:=aZ) (aN.id aJ) (r:=(az J aZ)) cM (ab rfl) rfl (bZ cq).1 rfl rfl) ?_
   refine cC gx fun a4=>?_
   refine b8 0 cM ?_
   refine aL (ag.cm (aB ?_))
   refine cr 0 cM ?_
   obtain⟨aD,bo,h⟩:=au h
   refine du B1 (Ac bo) ?_
   refine gV [aD] Tryz.underlying67 cM gx ?_
   obtain⟨aK,cb,h⟩:=au h
   refine jI 1 Tryz.underlying67 cM gx cb fun gD fC=>?_
   refine aM ?_
   refine ai.nil (ae.dB (ae.next (ag.cm (bj dd ?_))))
   refine aB ?_
   refine ai.nil ?_
   obtain rfl:=aH h
   exact fc (gD,fC) 1
  refine ag.exit (ae.exit ?_)
  obtain rfl:=aH h
  exact dY (av.1,av.2) 0
 refine ae.e1 (ae.next (aC (aB ?_)))
 refine aM ?_
 refine aL (ag.ret (ae.n4 (α:=aJ) 0 [2,3,18] ⟨rfl,rfl,rfl,trivial⟩ rfl (ae.bI 1 rfl ?_)))
 obtain rfl:=aH h
 exact kW ()
theorem Mv {J:a3} {ah:bC} {r:Int} (h:xW J ah=some r):bw Tryz.prog 150 [I.of (J),I.of (ah)] (I.of (r)):=by
 unfold xW at h
 refine bw.of Tryz.func150 rfl Tryz.ntmps150 rfl fun W A=>?_
 refine aC (b7 fun a4=>?_)
 refine b7 fun ba=>?_
 refine aM ?_
 refine bW (cr 1 gv ?_)
 refine cr 0 hN ?_
 obtain⟨aD,bo,h⟩:=au h
 refine du P1 (MB bo) ?_
 refine aB ?_
 refine eO ?_
 refine eO ?_
 refine cC l6 fun ck=>?_
 refine b8 0 gu ?_
 refine aM ?_
 refine bW (aY (aU k8) ?_)
 refine cc 0 jZ kQ ?_
 obtain⟨aK,cb,h⟩:=au h
 refine bh (hZ PK (LZ cb) ⟨ab rfl,NF Y8 (fun _ _=>TD),trivial⟩) ?_
 refine aM ?_
 refine bD (aC (aB ?_))
 refine aY hL ?_
 refine aB ?_
 refine dE cV ?_
 refine jw ea ?_
 refine rV ?_
 refine aB ?_
 refine dE cV ?_
 refine dE (aU k9) ?_
 refine eI (fun hb=>fa (i:=1) ((aN.id bC).comp ku) (r:=ah.b4) kS (cJ rfl hb) rfl rfl rfl) ?_
 refine dE (eK Tryz.underlying51) ?_
 refine jw kf ?_
 obtain⟨bH,dt,h⟩:=au h
 refine dG dt (s0 (ab rfl) (ab rfl) (fun h=>h)) ?_
 refine aL (cg h (fun h=>?_) fun h=>?_)
 ·refine aC (aM ?_)
  refine aL (ag.ret (ae.ret ?_))
  obtain rfl:=aH h
  exact cX
 refine cO (aC (aY (aU k9) ?_))
 refine cc 1 ku kS ?_
 refine aB ?_
 obtain⟨aZ,cq,h⟩:=au h
 refine g5 cq Tryz.underlying51 gw ?_
 refine Cl nR qf ?_
 refine aY (da bE) ?_
 refine aM ?_
 refine aL (ag.ret ?_)
 obtain rfl:=aH h
 exact cX
theorem Uz {J:cA} {ah:Int} {aP:Int} {r:an} (h:Av J ah aP=some r):bw Tryz.prog 115 [I.of (J),I.of (ah),I.of (aP)] (I.of (r)):=by
 unfold Av at h
 refine bw.of Tryz.func115 rfl Tryz.ntmps115 rfl fun W A=>?_
 refine aC (b7 fun a4=>?_)
 refine cC en fun ba=>?_
 refine bD (ag.block (aC (aY (aU uq) ?_)))
 refine cc 1 nQ gF ?_
 refine aY hL ?_
 refine aM ?_
 refine aL (cg h (fun h=>?_) fun h=>?_)
 ·refine aC (hg hr en (default:an) .nil ?_)
  refine b8 0 bG ?_
  refine aL (ag.ret (ae.dz (ae.ret ?_)))
  obtain rfl:=aH h
  exact ae.hM rfl (fw 0 bG)
 refine aC (aB ?_)
 refine bj gf ?_
 refine aM ?_
 refine aL (cg h (fun h=>?_) fun h=>?_)
 ·refine aC (aB ?_)
  obtain⟨aD,bo,h⟩:=au h
  refine du Bx (At bo) ?_
  refine b8 0 bG ?_
  refine aL (ag.ret (ae.dz (ae.ret ?_)))
  obtain rfl:=aH h
  exact ae.hM rfl (fw 0 bG)
 refine aC (aB ?_)
 refine bj gf ?_
 refine aM ?_
 refine aL (cg h (fun h=>?_) fun h=>?_)
 ·refine aC (aB ?_)
  refine aY (aU qf) ?_
  refine cc 1 nR bE ?_
  obtain⟨aK,cb,h⟩:=au h
  refine du Jl (Hr cb) ?_
  refine b8 0 bG ?_
  refine aL (ag.ret (ae.dz (ae.ret ?_)))
  obtain rfl:=aH h
  exact ae.hM rfl (fw 0 bG)
 refine ag.skip (ae.dB (ae.next (aC (aY (aU sH) ?_))))
 refine cc 1 pv bG ?_
 refine b8 0 bG ?_
 refine aL (ag.ret ?_)
 obtain rfl:=aH h
 exact ae.hM rfl (fw 0 bG)
theorem MH {J:bc} {ah:List bc} {r:(List bc)} (h:x1 J ah=some r):bw Tryz.prog 93 [I.of (J),I.of (ah)] (I.of (r)):=by
 unfold x1 at h
 refine bw.of Tryz.func93 rfl Tryz.ntmps93 rfl fun W A=>?_
 refine aC (b7 fun a4=>?_)
 refine bh (ew (look_nil (α:=bc))) ?_
 refine bW (aB ?_)
 obtain⟨aD,bo,h⟩:=au h
 refine ff 0 Y9 (SD bo) fun aA=>?_
 refine ai.share (α:=bc) 1 2 rfl rfl (bh (vW (F:=(fun fJ=>xN fJ J)) (τs:= [I.ptr J]) Za ⟨ab rfl,trivial⟩ (fun _ _ h=>TQ h)) ?_)
 refine ai.bI 0 rfl ?_
 obtain⟨aK,cb,h⟩:=au h
 refine ff 1 Zb (St cb) fun cU=>?_
 refine aM ?_
 refine aL (ag.ret ?_)
 obtain rfl:=aH h
 exact cX
theorem Tu {J:bc} {ah:bc} {r:Bool} (h:zX J ah=some r):bw Tryz.prog 124 [I.of (J),I.ptr ah] (I.of (r)):=by
 unfold zX at h
 refine bw.of Tryz.func124 rfl Tryz.ntmps124 rfl fun W A=>?_
 refine aC (b7 fun a4=>?_)
 refine aM ?_
 refine bW (aY (da dI) ?_)
 refine cr 0 dI ?_
 obtain⟨aD,bo,h⟩:=au h
 refine du Zc (Uo bo) ?_
 refine aM ?_
 refine aL (ag.ret ?_)
 obtain rfl:=aH h
 exact cX
theorem Mo {hp:a1 Cell} {J:Ref} {ah:an} {aP:Int} {r:Ref} (h:xO hp J ah aP=some r):b9 Tryz.prog 212 [I.of (J),I.of (ah),I.of (aP)] ([]++a8 hp) (δ:=Unit) (fun _=>I.of (r)) (fun _=>[]++a8 hp):=by
 unfold xO at h
 refine b9.ofM Tryz.func212 rfl Tryz.ntmps212 rfl fun W A=>?_
 refine aC (b7 fun a4=>?_)
 refine cC wq fun ba=>?_
 refine bD (aC (aB ?_))
 refine cr 1 bG ?_
 refine aB ?_
 obtain⟨aD,bo,h⟩:=au h
 refine ai.jC (gJ.kO 2 rfl P3 (Mi bo) ⟨ab rfl,ab rfl,ab rfl,trivial⟩) rfl rfl rfl ?_
 refine aY hL ?_
 refine aL (cg h (fun h=>?_) fun h=>?_)
 ·refine aC (ai.store (i:=0) (aN.id Ref) (v:=((none:Ref):Ref)) (b':=((none:Ref):Ref)) ek (ab rfl) (rl) rfl rfl rfl (aL (ag.ret (ae.ret ?_))))
  obtain rfl:=aH h
  exact ae.wL (ae.gr () (.cons _ (.cons _ (.refl _))) rfl rfl (j2 (i:=0) ek rfl rfl))
 refine cO (aC (aB ?_))
 obtain⟨cG,dF,h⟩:=au h
 refine bh (dV (eL (ab rfl) dF)) ?_
 refine aY (aU sC) ?_
 obtain⟨bY,ed,h⟩:=au h
 refine bh (gd ((aN.id fK).comp sg) (r:=bY.cQ) ek (ab rfl) (fk (n:=2) rfl (mv ed) rfl) rfl rfl) ?_
 refine cC wq fun ck=>?_
 refine b8 0 ek ?_
 refine bD (aC (aB ?_))
 refine cr 2 bG ?_
 refine aB ?_
 obtain⟨aK,cb,h⟩:=au h
 refine du Fy (D0 cb) ?_
 refine aL (ag.block ?_)
 obtain⟨ay,ao,h⟩:=au h
 refine HJ (hp:=hp) (γ:=Unit) (g0:=()) (Ls:=fun s1 av=>(⟨some ck,.var (s1:Ref)⟩::⟨some ba,.var ((default:Ref):Ref)⟩::⟨some a4,.var (ah:an)⟩::a8 hp)) (Lx:=fun aA av=>(⟨some ck,.var (aA.1:Ref)⟩::⟨some ba,.var (aA.2:Ref)⟩::⟨some a4,.var (ah:an)⟩::a8 hp)) (fun s1 av=>[⟨some ck,.var (s1:Ref)⟩,⟨some ba,.var ((default:Ref):Ref)⟩,⟨some a4,.var (ah:an)⟩]) (fun aA=>.ret) rfl Fz rfl Hc ao (fun _ _=>rfl) rfl rfl (fun mK s1 r h av kY k2 kZ l D rec qF=>?_) (fun s1 aQ av D=>?_) (fun aA aQ av D=>?_)
 ·refine ag.cm (aM ?_)
  refine ai.nil (ae.begin 0 rfl qF ?_)
  refine ag.block (ag.seq (aC (cr 2 ek ?_)))
  refine bh (oR Tryz.underlying299 (ab rfl)) ?_
  refine aL (cg h (fun h=>?_) fun h=>?_)
  ·refine aC (ai.store (i:=3) (aN.id Ref) (v:=((none:Ref):Ref)) (b':=((none:Ref):Ref)) ek (ab rfl) (rl) rfl rfl rfl (aL (ag.ret (ae.ret (ae.dz ?_)))))
   obtain rfl:=aH h
   exact ae.IK () 0 rfl rfl rfl
  refine cO (ag.cm (cr 2 ek ?_))
  refine aB ?_
  obtain⟨cv,fx,h⟩:=au h
  refine bh (dV (eL (ab rfl) fx)) ?_
  refine aY (aU ry) ?_
  obtain⟨aZ,cq,h⟩:=au h
  refine bh (eb (k:=aZ) sQ (ab rfl) (ab rfl) (bZ cq)) ?_
  obtain⟨cN,fI,h⟩:=au h
  refine bh (gd (((aN.id dM).comp rf).comp (aN.idx (α:=Ref) 2 aZ (bZ cq).1)) (r:=br cN.c8 aZ) ek (ab rfl) (fk (n:=5) rfl (ju fI) rfl) rfl rfl) ?_
  refine b8 2 ek ?_
  refine ai.nil (ae.dB ?_)
  obtain rfl:=aH h
  exact ae.Ga () 0 rfl
 ·clear ao; subst aQ; simp only [Sum.elim_inl] at h
  refine ae.ez (L2:=(⟨some D,.dx⟩::⟨some ck,.var (s1:Ref)⟩::⟨some ba,.var ((default:Ref):Ref)⟩::⟨some a4,.var (ah:an)⟩::a8 hp)) rfl (ae.dB (ae.next (aC (cr 1 ek ?_))))
  refine b8 2 ek ?_
  refine aL (ag.ret ?_)
  obtain rfl:=aH h
  refine ae.s6 0 rfl rfl ?_
  exact ae.gr () (.cons _ (.cons _ (.cons _ (.cons _ (.refl _))))) rfl rfl (j2 (i:=2) ek rfl rfl)
 clear ao; subst aQ; simp only [Sum.elim_inr] at h
 refine ag.ret (ae.ez (L2:=(⟨some D,.dx⟩::⟨some ck,.var (aA.1:Ref)⟩::⟨some ba,.var (aA.2:Ref)⟩::⟨some a4,.var (ah:an)⟩::a8 hp)) rfl (ae.dz (ae.ret ?_)))
 obtain rfl:=aH h
 refine ae.s6 0 rfl rfl ?_
 exact ae.gr () (.cons _ (.cons _ (.cons _ (.cons _ (.refl _))))) rfl rfl (j2 (i:=2) ek rfl rfl)
theorem SV {J:cL} {cu:Nat} {iE:Option Nat} {iF:Nat} {r:(List aJ)} (h:zx J=some r):b9 Tryz.prog 229 [I.eq (.pointer (some ⟨cu,0,none⟩))] [⟨some cu,.cj (({ J with ch:= [] } :cL):cL) [(10,aS iE J.ch.length iF)]⟩,⟨iE,.row 56 (J.ch:List aJ) iF⟩] (δ:=Unit) (fun d=>I.of (r)) (fun d=>[⟨some cu,.cj (({ J with ch:= [] } :cL):cL) [(10,aS iE (J.ch).length iF)]⟩,⟨iE,.row 56 (J.ch:List aJ) iF⟩]):=by
 unfold zx at h
 refine b9.of Tryz.func229 rfl Tryz.ntmps229 rfl fun W A=>?_
 refine aC (bh (ew (look_nil (α:=aJ))) ?_)
 refine bD (aC (aB ?_))
 refine bh (E9 Tryz.underlying131 (ab rfl)) ?_
 refine aL (ag.rG (ab rfl) rfl (cO (aC (aB ?_))))
 refine aY dV ?_
 refine aY (aU sy) ?_
 refine bh (ho (i:=0) (q:=0) (β:=cL) (γ:=aJ) qq (ab rfl) rfl rfl) ?_
 obtain⟨aD,bo,h⟩:=au h
 refine ai.jC (gJ.call [1] Zd (Uy bo) ⟨ab rfl,trivial⟩ rfl ⟨rfl,trivial⟩ rfl) rfl rfl rfl ?_
 refine aM ?_
 refine aL (ag.ret (ae.bI 1 rfl (ae.bI 1 rfl ?_)))
 obtain rfl:=aH h
 exact kW ()
theorem Hu {J:a3} {ah:aJ} {aP:aJ} {r:Bool} (h:vy J ah aP=some r):bw Tryz.prog 118 [I.of (J),I.of (ah),I.of (aP)] (I.of (r)):=by
 unfold vy at h
 refine bw.of Tryz.func118 rfl Tryz.ntmps118 rfl fun W A=>?_
 refine aC (b7 fun a4=>?_)
 refine b7 fun ba=>?_
 refine b7 fun ck=>?_
 refine aM ?_
 refine bD ?_
 obtain⟨aD,bo,h⟩:=au h
 obtain⟨aK,cb,h⟩:=au h
 obtain⟨bb,dR,h⟩:=au h
 obtain⟨bJ,e2,h⟩:=au h
 obtain⟨bq,gG,h⟩:=au h
 obtain⟨b6,gH,h⟩:=au h
 refine ag.draw mixed 24 ((some 7)::(some 8)::(some 9)::(some 10)::(some 11)::(some 12)::(some 13)::(some 14)::(some 15)::(some 16)::(some 17)::(some 18)::(some 19)::(some 20)::(some 21)::(some 22)::(some 23)::(some 24)::(some 25)::(some 26)::(some 27)::(some 28)::(some 29)::(some 30)::[]) ([]::[0]::[1]::[]::[3]::[4]::[2,5]::[]::[]::[8]::[7,9]::[]::[]::[12]::[11,13]::[10,14]::[]::[16]::[]::[18]::[17,19]::[6,15,20]::[21]::[22]::[]) (.val _::.val _::.val _::.val _::.val _::.val _::.val _::.val _::.val _::.val _::.val _::.val _::.val _::.val _::.val _::.val _::.val _::.val _::.val _::.val _::.val _::.val _::.val _::.val _::[]) (false::false::false::false::false::false::false::false::false::false::false::false::false::false::false::false::false::false::false::false::false::false::false::false::[]) (by kernel_rfl) rfl rfl rfl (fun cx=>⟨H1 (aU la),H1 (aU vY),dg 1 (j9.comp sf) bE,H1 (aU la),H1 (aU vY),dg 0 (j9.comp sf) bE,eH Jm (Ho bo),eG 2 gv,H1 (aU la),dg 1 j9 hN,eH P4 (Mv cb),eG 2 gv,H1 (aU la),dg 0 j9 hN,eH P4 (Mv dR),eH Jm (Ho e2),H1 (aU mX),dg 1 lx bE,H1 (aU mX),dg 0 lx bE,eH Jm (Ho gG),c1 fun ax ar=>jv (r:= [aD,bJ,bq]) Tryz.underlying41 bE h0 rfl rfl (.cons (by simp) (ab rfl) (.cons (by simp) (ab rfl) (.cons (by simp) (ab rfl) (.nil)))),eH Ze (Uq gH),jc pI,trivial⟩) fun cx=>?_
 refine aM ?_
 refine aL (ag.ret ?_)
 obtain rfl:=aH h
 exact cX
theorem T6 {J:bC} {ah:bC} {r:Int} (h:Ae J ah=some r):bw Tryz.prog 67 [I.of (J),I.of (ah)] (I.of (r)):=by
 unfold Ae at h
 refine bw.of Tryz.func67 rfl Tryz.ntmps67 rfl fun W A=>?_
 refine aC (b7 fun a4=>?_)
 refine b7 fun ba=>?_
 refine aM ?_
 refine bD (ag.seq ?_)
 obtain⟨aD,bo,h⟩:=au h
 obtain⟨aK,cb,h⟩:=au h
 obtain⟨bb,dR,h⟩:=au h
 obtain⟨bJ,e2,h⟩:=au h
 refine ag.draw mixed 23 ((some 7)::(some 8)::(some 9)::(some 10)::(some 11)::(some 12)::(some 13)::(some 14)::(some 15)::(some 16)::(some 17)::(some 18)::(some 19)::(some 20)::(some 21)::(some 22)::(some 23)::(some 24)::(some 25)::(some 26)::(some 27)::(some 28)::(some 29)::[]) ([]::[0]::[]::[2]::[1,3]::[]::[5]::[]::[7]::[6,8]::[]::[10]::[]::[12]::[11,13]::[]::[15]::[]::[17]::[16,18]::[4,9,14,19]::[20]::[]::[]) (.val _::.val _::.val _::.val _::.val _::.val _::.val _::.val _::.val _::.val _::.val _::.val _::.val _::.val _::.val _::.val _::.val _::.val _::.val _::.val _::.val _::.val _::.val _::[]) (false::false::false::false::false::false::false::false::false::false::false::false::false::false::false::false::false::false::false::false::false::false::false::[]) (by kernel_rfl) rfl rfl rfl (fun cx=>⟨H1 (aU vX),dg 1 rh bE,H1 (aU vX),dg 0 rh bE,eH yM (xV bo),H1 (aU vY),dg 0 sf bE,H1 (aU vY),dg 1 sf bE,eH yM (xV cb),H1 (aU k9),dg 1 ku kS,H1 (aU k9),dg 0 ku kS,eH aa6 (T5 dR),H1 (aU Fa),dg 1 xx bE,H1 (aU Fa),dg 0 xx bE,eH yM (xV e2),c1 fun ax ar=>jv (r:= [aD,aK,bb,bJ]) Tryz.underlying41 bE h0 rfl rfl (.cons (by simp) (ab rfl) (.cons (by simp) (ab rfl) (.cons (by simp) (ab rfl) (.cons (by simp) (ab rfl) (.nil))))),H1 (eK Tryz.underlying41),ct,trivial⟩) fun cx=>?_
 refine aL (ag.block ?_)
 obtain⟨ay,ao,h⟩:=au h
 refine gE (γ:=Unit) (δ:=Unit) ao [0,1,2,3,27,28] (fun s1 av=>[(4,I.of (0:Int)),(29,I.of (s1))]) (fun s1 av=>[]) (fun aA=>Sum.elim (fun aA=>Exit.exit 0) (fun aA=>Exit.ret) aA) (fun aA av=>Sum.elim (fun aA=>[(4,I.of (0:Int)),(29,I.of (aA.1)),(30,I.of (aA.2))]) (fun aA=>[(4,I.of (aA.1)),(6,I.of (aA.2.1)),(29,I.of (aA.2.2.1)),(30,I.of (aA.2.2.2.1)),(34,I.of (aA.2.2.2.2))]) aA) (fun aA av=>Sum.elim (fun aA=>[]) (fun aA=>[]) aA) () (fun s1 r h av=>?_) fun av=>?_
 ·refine aC (bj ea ?_)
  refine bD (cg h (fun h=>?_) fun h=>?_)
  ·refine cO (ag.seq (ag.block (aC ?_)))
   obtain⟨aZ,cq,h⟩:=au h
   refine g5 cq Tryz.underlying41 bE ?_
   refine aY (da bE) ?_
   refine aM ?_
   refine bW (aB ?_)
   refine bj sP ?_
   refine aL (cg h (fun h=>?_) fun h=>?_)
   ·refine aC (aB ?_)
    refine aM ?_
    refine aL (ag.ret (ae.dz (ae.ret ?_)))
    obtain rfl:=aH h
    exact dY () 0
   refine ag.skip (ae.dB (ae.next (ag.cm (bj dd ?_))))
   refine aB ?_
   refine ai.nil ?_
   obtain rfl:=aH h
   exact fc () 0
  refine ag.exit (ae.exit ?_)
  obtain rfl:=aH h
  exact dY () 0
 rcases ay with ay | ay
 ·simp only [Sum.elim_inl] at h
  refine ae.e1 (ae.next (aC (aY (aU ym) ?_)))
  refine cc 1 xD wD ?_
  refine aY (aU ym) ?_
  refine cc 0 xD wD ?_
  obtain⟨bq,gG,h⟩:=au h
  refine du Zf (Uk gG) ?_
  refine aM ?_
  refine aL (ag.ret ?_)
  obtain rfl:=aH h
  exact cX
 simp only [Sum.elim_inr] at h
 refine ae.dz (ae.ret ?_)
 obtain rfl:=aH h
 exact cX
theorem Ms {hp:a1 Cell} {J:Ref} {ah:an} {aP:Int} {r:Int×Bool} (h:vr hp J ah aP=some r):b9 Tryz.prog 205 [I.of (J),I.of (ah),I.of (aP)] ([]++a8 hp) (δ:=Unit) (fun _=>I.ep [I.of (r.1),I.of (r.2)]) (fun _=>[]++a8 hp):=by
 unfold vr at h
 refine b9.of Tryz.func205 rfl Tryz.ntmps205 rfl fun W A=>?_
 refine aC (b7 fun a4=>?_)
 refine aM ?_
 refine aM ?_
 refine bW (aB ?_)
 refine cr 0 bG ?_
 refine aB ?_
 obtain⟨aD,bo,h⟩:=au h
 refine ai.jC (gJ.kO 1 rfl P5 (Mo bo) ⟨ab rfl,ab rfl,ab rfl,trivial⟩) rfl rfl rfl ?_
 refine aM ?_
 refine bD (aC (aB ?_))
 refine bh (oR Tryz.underlying299 (ab rfl)) ?_
 refine aB ?_
 refine dE cV ?_
 obtain⟨cG,dF,h⟩:=au h
 refine eI (fun hb=>dV (eL (cJ rfl hb) (gN dF hb))) ?_
 refine dE (aU rv) ?_
 obtain⟨bY,ed,h⟩:=au h
 refine eI (fun hb=>gd ((aN.id dM).comp ri) (r:=bY.dP) gF (cJ rfl hb) (fk (n:=1) rfl (ju (gN ed hb)) rfl) rfl rfl) ?_
 refine dE hL ?_
 refine rV ?_
 refine aL (cg h (fun h=>?_) fun h=>?_)
 ·refine aC (aM ?_)
  refine aM ?_
  refine aL (ag.ret (ae.ret ?_))
  obtain rfl:=aH h
  exact ae.kN () (.cons _ (.refl _)) rfl rfl (ej rfl) (ej rfl)
 refine cO (aC (aB ?_))
 obtain⟨cv,fx,h⟩:=au h
 refine bh (dV (eL (ab rfl) fx)) ?_
 refine aY (aU A6) ?_
 obtain⟨cN,fI,h⟩:=au h
 refine bh (gd ((aN.id dM).comp z4) (r:=cN.hO) bE (ab rfl) (fk (n:=1) rfl (ju fI) rfl) rfl rfl) ?_
 refine aM ?_
 refine aM ?_
 refine aL (ag.ret ?_)
 obtain rfl:=aH h
 exact ae.kN () (.cons _ (.refl _)) rfl rfl (ej rfl) (ej rfl)
theorem Tv {hp:a1 Cell} {J:jD} {ah:bC} {r:Int×Bool} (h:zY hp J ah=some r):b9 Tryz.prog 225 [I.of (J),I.of (ah)] ([]++a8 hp) (δ:=Unit) (fun _=>I.ep [I.of (r.1),I.of (r.2)]) (fun _=>[]++a8 hp):=by
 unfold zY at h
 refine b9.of Tryz.func225 rfl Tryz.ntmps225 rfl fun W A=>?_
 refine aC (b7 fun a4=>?_)
 refine b7 fun ba=>?_
 refine aM ?_
 refine aM ?_
 refine bD (aC (aY (aU EP) ?_))
 refine cc 1 zW BI ?_
 obtain⟨cG,dF,h⟩:=au h
 obtain⟨bY,ed,h⟩:=au h
 obtain⟨aD,bo,h⟩:=au h
 refine ai.jC (gJ.obj 2 rfl (uv ed) Zg (SV bo) rfl ⟨eL (ab rfl) dF,trivial⟩) rfl rfl rfl ?_
 refine aY (eK Tryz.underlying67) ?_
 refine aB ?_
 refine aL (ag.block ?_)
 obtain⟨ay,ao,h⟩:=au h
 refine ag.qm (σ:=Int) (ε:=(Int×Bool) ⊕ (Int×Bool×Int×Bool×Bool)) (γ:=Unit) (δ:=Unit) ao (fun s1 av=>[(0,I.of (J)),(1,I.of (ah)),(2,I.eq (.pointer (some ⟨a4,0,none⟩))),(3,I.eq (.pointer (some ⟨ba,0,none⟩))),(4,I.of (0:Int)),(5,I.of (false)),(10,I.of (aD)),(11,I.of (aD.length:Int)),(12,I.of (s1))]) (fun s1 av=>(⟨some ba,.var (ah:bC)⟩::⟨some a4,.var (J:jD)⟩::a8 hp)) (fun aA=>Sum.elim (fun aA=>Exit.exit 0) (fun aA=>Exit.ret) aA) (fun aA av=>Sum.elim (fun aA=>[(0,I.of (J)),(1,I.of (ah)),(2,I.eq (.pointer (some ⟨a4,0,none⟩))),(3,I.eq (.pointer (some ⟨ba,0,none⟩))),(4,I.of (0:Int)),(5,I.of (false)),(10,I.of (aD)),(11,I.of (aD.length:Int)),(12,I.of (aA.1)),(13,I.of (aA.2))]) (fun aA=>[(0,I.of (J)),(1,I.of (ah)),(2,I.eq (.pointer (some ⟨a4,0,none⟩))),(3,I.eq (.pointer (some ⟨ba,0,none⟩))),(4,I.of (aA.1)),(5,I.of (aA.2.1)),(10,I.of (aD)),(11,I.of (aD.length:Int)),(12,I.of (aA.2.2.1)),(13,I.of (aA.2.2.2.1)),(19,I.of (aA.2.2.2.2))]) aA) (fun aA av=>Sum.elim (fun aA=>(⟨some ba,.var (ah:bC)⟩::⟨some a4,.var (J:jD)⟩::a8 hp)) (fun aA=>(⟨some ba,.var (ah:bC)⟩::⟨some a4,.var (J:jD)⟩::a8 hp)) aA) () rfl .all (fun s1 r h av=>?_) (fun av=>?_)
 ·refine aC (bj ea ?_)
  refine bD (cg h (fun h=>?_) fun h=>?_)
  ·refine cO (ag.seq (ag.block (aC ?_)))
   obtain⟨aZ,cq,h⟩:=au h
   refine g5 cq Tryz.underlying67 cM ?_
   refine aY (da cM) ?_
   refine cC gx fun ck=>?_
   refine b8 0 cM ?_
   refine bW (aY (aU la) ?_)
   refine cc 0 j9 hN ?_
   refine cr 1 hN ?_
   obtain⟨aK,cb,h⟩:=au h
   refine du Zh (TZ cb) ?_
   refine aL (cg h (fun h=>?_) fun h=>?_)
   ·refine aC (aY (aU mX) ?_)
    refine cc 0 lx bE ?_
    refine aM ?_
    refine aM ?_
    refine aL (ag.ret (ae.dz (ae.ret ?_)))
    obtain rfl:=aH h
    exact dY () 1
   refine ag.skip (ae.dB (ae.next (ag.cm (bj dd ?_))))
   refine aB ?_
   refine ai.nil ?_
   obtain rfl:=aH h
   exact fc () 1
  refine ag.exit (ae.exit ?_)
  obtain rfl:=aH h
  exact dY () 0
 rcases ay with ay | ay
 ·simp only [Sum.elim_inl] at h
  refine ae.e1 (ae.next (aC (aM ?_)))
  refine aM ?_
  refine aL (ag.ret ?_)
  obtain rfl:=aH h
  exact ae.kN () (.cons _ (.cons _ (.refl _))) rfl rfl (ej rfl) (ej rfl)
 simp only [Sum.elim_inr] at h
 refine ae.dz (ae.ret ?_)
 obtain rfl:=aH h
 exact ae.kN () (.cons _ (.cons _ (.refl _))) rfl rfl (ej rfl) (ej rfl)
theorem Ul {J:bc} {ah:List bc} {r:(Vector an 4)×(Vector an 4)} (h:Al J ah=some r):bw Tryz.prog 126 [I.of (J),I.of (ah)] (I.ep [I.of (r.1),I.of (r.2)]):=by
 unfold Al at h
 refine bw.of Tryz.func126 rfl Tryz.ntmps126 rfl fun W A=>?_
 refine aC (b7 fun a4=>?_)
 refine cC kR fun ba=>?_
 refine cC kR fun ck=>?_
 refine bD (aC (aB ?_))
 refine aY (eK Tryz.underlying143) ?_
 refine aB ?_
 refine aL (ag.block ?_)
 obtain⟨ay,ao,h⟩:=au h
 refine gE (γ:=Unit) (δ:=Unit) ao [0,1,2,4,5,11,12] (fun s1 av=>[(13,I.of (s1.1))]) (fun s1 av=>[(0,⟨some ck,.var (s1.2.1:Vector an 4)⟩),(1,⟨some ba,.var (s1.2.2:Vector an 4)⟩)]) (fun aA=>Exit.exit 0) (fun aA av=>[(13,I.of (aA.1)),(14,I.of (aA.2.1))]) (fun aA av=>[(0,⟨some ck,.var (aA.2.2.1:Vector an 4)⟩),(1,⟨some ba,.var (aA.2.2.2:Vector an 4)⟩)]) () (fun s1 r h av=>?_) fun av=>?_
 ·refine aC (bj ea ?_)
  refine bD (cg h (fun h=>?_) fun h=>?_)
  ·refine cO (ag.seq (ag.block (aC ?_)))
   obtain⟨aZ,cq,h⟩:=au h
   refine g5 cq Tryz.underlying143 dI ?_
   refine aY (da dI) ?_
   refine cC jh fun eW=>?_
   refine b8 0 dI ?_
   refine bW (aY (aU n5) ?_)
   refine cc 0 mm dW ?_
   refine aB ?_
   refine aL (ag.block ?_)
   obtain⟨aO,ao,h⟩:=au h
   refine gE (γ:=Unit) (δ:=Unit) ao [0,1,2,4,5,7,11,12,13,14,18] (fun s2 aW=>[(19,I.of (s2.1))]) (fun s2 aW=>[(1,⟨some ck,.var (s2.2.1:Vector an 4)⟩),(2,⟨some ba,.var (s2.2.2:Vector an 4)⟩)]) (fun cU=>Exit.exit 2) (fun cU aW=>[(19,I.of (cU.1)),(20,I.of (cU.2.1))]) (fun cU aW=>[(1,⟨some ck,.var (cU.2.2.1:Vector an 4)⟩),(2,⟨some ba,.var (cU.2.2.2:Vector an 4)⟩)]) () (fun s2 r h aW=>?_) fun aW=>?_
   ·refine aC (bj ea ?_)
    refine bD (cg h (fun h=>?_) fun h=>?_)
    ·refine cO (ag.seq (ag.block (aC (aB ?_))))
     obtain⟨bP,c6,h⟩:=au h
     refine bh (Oj (k:=bP) Tryz.underlying60 bG (ab rfl) (ab rfl) (bZ c6)) ?_
     refine cC en fun jd=>?_
     refine aM ?_
     refine b8 0 bG ?_
     refine bD ?_
     obtain⟨cT,fe,h⟩:=au h
     obtain⟨aD,bo,h⟩:=au h
     obtain⟨aK,cb,h⟩:=au h
     refine ag.draw mixed 8 [some 23,some 24,some 25,some 26,some 27,some 28,some 29,some 10] [[],[],[],[1,2],[3],[4],[0,5],[]] [.val _,.val _,.val _,.val _,.val _,.val _,.val _,.new (.var (default:an))] [false,false,false,false,false,false,false,false] (by kernel_rfl) rfl rfl rfl (fun cx=>⟨eG 0 bG,ct,H1 (aU n5),c1 fun ax ar=>eb (k:=cT) fU (ab rfl) (ab rfl) (bZ fe),dg 4 (((aN.id bc).comp mm).comp (aN.idx (α:=an) 4 cT (bZ fe).1)) bG,eH P6 (MM bo),eH oZ (oN cb),sv en,trivial⟩) fun cx=>?_
     refine b8 0 bG ?_
     refine bD ?_
     obtain⟨eY,hy,h⟩:=au h
     obtain⟨iK,nb,h⟩:=au h
     obtain⟨bb,dR,h⟩:=au h
     obtain⟨bJ,e2,h⟩:=au h
     obtain⟨jo,nB,h⟩:=au h
     refine ag.draw mixed 12 [some 30,some 31,some 32,some 33,some 34,some 35,some 36,some 37,some 38,some 39,some 40,some 41] [[],[],[1],[2],[],[],[],[5,6],[7],[4,8],[3,9],[0]] [.val _,.val _,.val _,.val _,.val _,.val _,.val _,.val _,.val _,.val _,.val _,.val _] [false,false,false,false,false,false,false,false,false,false,false,false] (by kernel_rfl) rfl rfl rfl (fun hh=>⟨ct,ct,c1 fun ax ar=>eb (k:=eY) fU (ab rfl) (ab rfl) (bZ hy),dg 3 ((aN.id (Vector an 4)).comp (aN.idx (α:=an) 4 eY (bZ hy).1)) bG,eG 0 bG,ct,H1 (aU qc),c1 fun ax ar=>eb (k:=iK) fU (ab rfl) (ab rfl) (bZ nb),dg 2 (((aN.id bc).comp nS).comp (aN.idx (α:=an) 4 iK (bZ nb).1)) bG,eH oZ (oN dR),eH rH (rm e2),c1 fun ax ar=>eb (k:=jo) fU (ab rfl) (ab rfl) (bZ nB),trivial⟩) fun hh=>?_
     refine nc 3 ((aN.id (Vector an 4)).comp (aN.idx (α:=an) 4 jo (bZ nB).1)) bG ?_
     refine aL ?_
     obtain⟨jB,oz,h⟩:=au h
     obtain⟨h7,mG,h⟩:=au h
     obtain⟨bq,gG,h⟩:=au h
     obtain⟨b6,gH,h⟩:=au h
     obtain⟨eB,mI,h⟩:=au h
     obtain⟨mR,uX,h⟩:=au h
     refine ag.draw mixed 13 [some 42,some 43,some 44,some 45,some 46,some 47,some 48,some 49,some 50,some 51,some 52,some 53,some 54] [[],[],[1],[2],[],[],[],[5,6],[7],[8],[4,9],[3,10],[0]] [.val _,.val _,.val _,.val _,.val _,.val _,.val _,.val _,.val _,.val _,.val _,.val _,.val _] [false,false,false,false,false,false,false,false,false,false,false,false,false] (by kernel_rfl) rfl rfl rfl (fun pT=>⟨ct,ct,c1 fun ax ar=>eb (k:=jB) fU (ab rfl) (ab rfl) (bZ oz),dg 4 ((aN.id (Vector an 4)).comp (aN.idx (α:=an) 4 jB (bZ oz).1)) bG,eG 0 bG,ct,H1 (aU qc),c1 fun ax ar=>eb (k:=h7) fU (ab rfl) (ab rfl) (bZ mG),dg 2 (((aN.id bc).comp nS).comp (aN.idx (α:=an) 4 h7 (bZ mG).1)) bG,eH P6 (MM gG),eH oZ (oN gH),eH rH (rm mI),c1 fun ax ar=>eb (k:=mR) fU (ab rfl) (ab rfl) (bZ uX),trivial⟩) fun pT=>?_
     refine nc 4 ((aN.id (Vector an 4)).comp (aN.idx (α:=an) 4 mR (bZ uX).1)) bG ?_
     refine ai.nil (ae.dB (ae.next (ag.cm (bj dd ?_))))
     refine aB ?_
     refine ai.nil ?_
     obtain rfl:=aH h
     exact fc () 2
    refine ag.exit (ae.exit ?_)
    obtain rfl:=aH h
    exact dY () 0
   refine ae.e1 (ae.dB (ae.next (ag.cm (bj dd ?_))))
   refine aB ?_
   refine ai.nil ?_
   obtain rfl:=aH h
   exact fc () 1
  refine ag.exit (ae.exit ?_)
  obtain rfl:=aH h
  exact dY () 0
 refine ae.e1 (ae.next (ag.seq (ag.draw mixed 3 [some 57,some 58,none] [[],[],[0]] [.val _,.val _,.kF 1 (.var (ay.2.2.2:Vector an 4))] [false,false,true] (by kernel_rfl) rfl rfl rfl (fun Cn=>⟨eG 1 dW,eG 0 dW,⟨_,_,rfl,fun ax ar=>rC (i:=1) (aN.id (Vector an 4)) (v:=(ay.2.2.2:Vector an 4)) (b':=(ay.2.2.2:Vector an 4)) dW (ab rfl) (ab rfl) (ar _ _ rfl) rfl rfl⟩,trivial⟩) fun Cn=>?_)))
 refine b8 0 dW ?_
 refine aL (ag.ret ?_)
 obtain rfl:=aH h
 exact ae.rP rfl (fw 1 dW) (fw 0 dW)
theorem T7 {J:Vector an 4} {ah:List bc} {r:Int} (h:Af J ah=some r):bw Tryz.prog 128 [I.of (J),I.of (ah)] (I.of (r)):=by
 unfold Af at h
 refine bw.of Tryz.func128 rfl Tryz.ntmps128 rfl fun W A=>?_
 refine aC (b7 fun a4=>?_)
 refine aM ?_
 refine bW (aM ?_)
 refine aM ?_
 refine bD (aC (aB ?_))
 refine aL (ag.block ?_)
 obtain⟨ay,ao,h⟩:=au h
 refine gE (γ:=Unit) (δ:=Unit) ao [0,1,2,4] (fun s1 av=>[(5,I.of (s1.1)),(6,I.of (s1.2.1)),(11,I.of (s1.2.2))]) (fun s1 av=>[]) (fun aA=>Exit.exit 0) (fun aA av=>[(5,I.of (aA.1)),(6,I.of (aA.2.1)),(11,I.of (aA.2.2.1)),(12,I.of (aA.2.2.2))]) (fun aA av=>[]) () (fun s1 r h av=>?_) fun av=>?_
 ·refine aC (bj ea ?_)
  refine bD (cg h (fun h=>?_) fun h=>?_)
  ·refine cO (ag.seq (ag.block (aC (aB ?_))))
   refine aM ?_
   refine bD (aC (cr 0 dW ?_))
   refine aB ?_
   obtain⟨aD,bo,h⟩:=au h
   refine du P7 (MN bo) ?_
   refine aY hL ?_
   refine aL (cg h (fun h=>?_) fun h=>?_)
   ·refine ag.exit (ae.exit (ae.e1 (ae.next (ag.cm (bj dd ?_)))))
    refine aB ?_
    refine ai.nil ?_
    obtain rfl:=aH h
    exact fc () 0
   refine cO (aC (aM ?_))
   refine bD (aC (aB ?_))
   refine aY (eK Tryz.underlying143) ?_
   refine aB ?_
   refine aL (ag.block ?_)
   obtain⟨aO,ao,h⟩:=au h
   refine gE (γ:=Unit) (δ:=Unit) ao [0,1,2,4,5,6,7,11,12,17,18,19] (fun s2 aW=>[(8,I.of (s2.1)),(20,I.of (s2.2))]) (fun s2 aW=>[]) (fun cU=>Exit.exit 2) (fun cU aW=>[(8,I.of (cU.1)),(20,I.of (cU.2.1)),(21,I.of (cU.2.2))]) (fun cU aW=>[]) () (fun s2 r h aW=>?_) fun aW=>?_
   ·refine aC (bj ea ?_)
    refine bD (cg h (fun h=>?_) fun h=>?_)
    ·refine cO (ag.seq (ag.block (aC ?_)))
     obtain⟨aZ,cq,h⟩:=au h
     refine g5 cq Tryz.underlying143 dI ?_
     refine aY (da dI) ?_
     refine cC jh fun ba=>?_
     refine b8 0 dI ?_
     refine bW (aY (aU n5) ?_)
     refine cc 0 mm dW ?_
     refine aB ?_
     obtain⟨aK,cb,h⟩:=au h
     refine du P7 (MN cb) ?_
     refine aL ?_
     obtain⟨bx,cy,h⟩:=au h
     refine jj (γ:=Unit) [0,1,2,4,5,6,7,10,11,12,17,18,19,20,21,27] (fun bB=>[(8,I.of (bx))]) (fun bB=>[]) (fun bB=>?_) (fun hm al=>?_) fun hm al=>?_
     ·refine ae.dB (ae.next (ag.cm (bj dd ?_)))
      refine aB ?_
      refine ai.nil ?_
      obtain rfl:=aH h
      exact fc () 1
     ·have h:=gQ al cy
      refine ag.cm (aB ?_)
      refine bj dd ?_
      refine aM ?_
      refine ai.nil ?_
      obtain rfl:=aH h
      exact dq 0 (hm ())
     have h:=gR al cy
     refine ag.skip ?_
     obtain rfl:=aH h
     exact dq 0 (hm ())
    refine ag.exit (ae.exit ?_)
    obtain rfl:=aH h
    exact dY () 0
   refine ae.e1 (ae.next (aC (aB ?_)))
   refine aB ?_
   refine bj pI ?_
   refine aL ?_
   obtain⟨cY,eg,h⟩:=au h
   refine jj (γ:=Unit) [0,1,2,4,7,8,11,12,17,18,19,20,21,33] (fun cn=>[(5,I.of (cY.1)),(6,I.of (cY.2))]) (fun cn=>[]) (fun cn=>?_) (fun hm al=>?_) fun hm al=>?_
   ·refine ae.dB (ae.next (ag.cm (bj dd ?_)))
    refine aB ?_
    refine ai.nil ?_
    obtain rfl:=aH h
    exact fc () 0
   ·have h:=gQ al eg
    refine ag.cm (aB ?_)
    refine aB ?_
    refine aM ?_
    refine aM ?_
    refine ai.nil ?_
    obtain rfl:=aH h
    exact dq 0 (hm ())
   have h:=gR al eg
   refine ag.skip ?_
   obtain rfl:=aH h
   exact dq 0 (hm ())
  refine ag.exit (ae.exit ?_)
  obtain rfl:=aH h
  exact dY () 0
 refine ae.e1 (ae.next (aC (aB ?_)))
 refine aM ?_
 refine aL (ag.ret ?_)
 obtain rfl:=aH h
 exact cX
theorem Ng {J:a3} {ah:bC} {r:bc×Bool} (h:uc J ah=some r):bw Tryz.prog 91 [I.of (J),I.of (ah)] (I.ep [I.of (r.1),I.of (r.2)]):=by
 unfold uc at h
 refine bw.of Tryz.func91 rfl Tryz.ntmps91 rfl fun W A=>?_
 refine aC (b7 fun a4=>?_)
 refine b7 fun ba=>?_
 refine cC jh fun ck=>?_
 refine aM ?_
 refine bW (cr 2 gv ?_)
 refine aY (aU vX) ?_
 refine cc 1 rh bE ?_
 obtain⟨aD,bo,h⟩:=au h
 refine du FL (D2 bo) ?_
 refine aM ?_
 refine bD (aC (aB ?_))
 refine bj ea ?_
 refine aL (cg h (fun h=>?_) fun h=>?_)
 ·refine aC (hg yy jh (default:bc) .nil ?_)
  refine b8 0 dI ?_
  refine aM ?_
  refine aL (ag.ret (ae.ret ?_))
  obtain rfl:=aH h
  exact ae.rP rfl (fw 0 dI) (l5 rfl)
 refine cO (aC (cC jh fun eW=>?_))
 refine bD (aC (aY (aU mY) ?_))
 refine cc 3 mU mz ?_
 refine aB ?_
 obtain⟨aZ,cq,h⟩:=au h
 refine g5 cq Tryz.underlying27 gu ?_
 refine Cl jZ k8 ?_
 refine aY (da kQ) ?_
 refine aY (eK Tryz.underlying40) ?_
 refine aB ?_
 refine aL (ag.block ?_)
 obtain⟨ay,ao,h⟩:=au h
 refine gE (γ:=Unit) (δ:=Unit) ao [0,1,2,3,4,5,6,7,16,23,24] (fun s1 av=>[(25,I.of (s1.1))]) (fun s1 av=>[(0,⟨some eW,.var (s1.2:bc)⟩)]) (fun aA=>Sum.elim (fun aA=>Exit.exit 0) (fun aA=>Exit.ret) aA) (fun aA av=>Sum.elim (fun aA=>[(25,I.of (aA.1)),(26,I.of (aA.2.1))]) (fun aA=>[(8,I.of (aA.1)),(10,I.of (aA.2.1)),(25,I.of (aA.2.2.1)),(26,I.of (aA.2.2.2.1)),(51,I.of (aA.2.2.2.2.1))]) aA) (fun aA av=>Sum.elim (fun aA=>[(0,⟨some eW,.var (aA.2.2:bc)⟩)]) (fun aA=>[(0,⟨some eW,.var (aA.2.2.2.2.2:bc)⟩)]) aA) () (fun s1 r h av=>?_) fun av=>?_
 ·refine aC (bj ea ?_)
  refine bD (cg h (fun h=>?_) fun h=>?_)
  ·refine cO (ag.seq (ag.block (aC (aB ?_))))
   obtain⟨bP,c6,h⟩:=au h
   refine g5 c6 Tryz.underlying40 iZ ?_
   refine aY (da iZ) ?_
   refine cC ki fun jd=>?_
   refine aM ?_
   refine b8 0 iZ ?_
   refine bW (cr 4 gv ?_)
   refine aY (aU Be) ?_
   refine cc 0 nU bE ?_
   obtain⟨aK,cb,h⟩:=au h
   refine du JO (Hq cb) ?_
   refine aM ?_
   refine bD (aC (aY (aU sG) ?_))
   refine cc 0 lW bE ?_
   refine bj gf ?_
   refine aB ?_
   refine dE cV ?_
   refine jw ea ?_
   obtain⟨bH,dt,h⟩:=au h
   refine dG dt (s0 (ab rfl) (ab rfl) (fun h=>h)) ?_
   refine aB ?_
   refine dE cV ?_
   refine dE (aU k9) ?_
   refine eI (fun hb=>fa (i:=3) ((aN.id bC).comp ku) (r:=ah.b4) kS (cJ rfl hb) rfl rfl rfl) ?_
   refine dE (eK Tryz.underlying51) ?_
   refine jw kf ?_
   refine rV ?_
   refine aB ?_
   refine dE cV ?_
   refine jw kf ?_
   obtain⟨dn,hx,h⟩:=au h
   refine dG hx (s0 (ab rfl) (ab rfl) (fun h=>h)) ?_
   refine aL (cg h (fun h=>?_) fun h=>?_)
   ·refine aC (hg yy jh (default:bc) .nil ?_)
    refine b8 2 dI ?_
    refine aM ?_
    refine aL (ag.ret (ae.ret (ae.dz (ae.ret ?_))))
    obtain rfl:=aH h
    exact dY () 1
   refine cO (ag.seq ?_)
   obtain⟨cT,fe,h⟩:=au h
   obtain⟨eY,hy,h⟩:=au h
   obtain⟨bb,dR,h⟩:=au h
   obtain⟨iK,nb,h⟩:=au h
   refine ag.draw mixed 17 ((some 53)::(some 54)::(some 55)::(some 56)::(some 57)::(some 58)::(some 59)::(some 60)::(some 61)::(some 62)::(some 63)::(some 64)::(some 65)::(some 66)::(some 67)::(some 68)::(some 69)::[]) ([]::[]::[1]::[]::[2,3]::[4]::[]::[6]::[]::[8]::[]::[9,10]::[11]::[12]::[5,7,13]::[]::[0,15]::[]) (.val _::.val _::.val _::.val _::.val _::.val _::.val _::.val _::.val _::.val _::.val _::.val _::.val _::.val _::.val _::.val _::.val _::[]) (false::false::false::false::false::false::false::false::false::false::false::false::false::false::false::false::false::[]) (by kernel_rfl) rfl rfl rfl (fun cx=>⟨ct,H1 (aU k9),dg 3 ku kS,ct,kX fe Tryz.underlying51 gw,H1 (da gw),H1 (aU sG),dg 0 lW bE,H1 (aU uo),dg 4 tM sZ,ct,kX hy Tryz.underlying23 oY,oy nT A5,H1 (da bE),eH Zi (Uz dR),H1 (aU n5),c1 fun ax ar=>eb (k:=iK) fU (ab rfl) (ab rfl) (bZ nb),trivial⟩) fun cx=>?_
   refine nc 1 (((aN.id bc).comp mm).comp (aN.idx (α:=an) 4 iK (bZ nb).1)) bG ?_
   refine aL ?_
   obtain⟨jo,nB,h⟩:=au h
   obtain⟨jB,oz,h⟩:=au h
   obtain⟨bJ,e2,h⟩:=au h
   obtain⟨h7,mG,h⟩:=au h
   refine ag.draw mixed 14 [some 70,some 71,some 72,some 73,some 74,some 75,some 76,some 77,some 78,some 79,some 80,some 81,some 82,some 83] [[],[],[1],[],[2,3],[4],[5],[],[],[7,8],[9],[6,10],[],[0,12]] [.val _,.val _,.val _,.val _,.val _,.val _,.val _,.val _,.val _,.val _,.val _,.val _,.val _,.val _] [false,false,false,false,false,false,false,false,false,false,false,false,false,false] (by kernel_rfl) rfl rfl rfl (fun hh=>⟨ct,H1 (aU k9),dg 3 ku kS,ct,kX nB Tryz.underlying51 gw,oy k6 n8,H1 (da bG),ct,H1 (aU n5),c1 fun ax ar=>eb (k:=jB) fU (ab rfl) (ab rfl) (bZ oz),dg 1 (((aN.id bc).comp mm).comp (aN.idx (α:=an) 4 jB (bZ oz).1)) bG,eH oZ (oN e2),H1 (aU qc),c1 fun ax ar=>eb (k:=h7) fU (ab rfl) (ab rfl) (bZ mG),trivial⟩) fun hh=>?_
   obtain⟨fm,jH,h⟩:=au h
   refine wW 1 (((aN.id bc).comp nS).comp (aN.idx (α:=an) 4 h7 (bZ mG).1)) bG (hb:=by exact jH) ?_
   refine ai.nil (ae.dB (ae.next (ag.cm (bj dd ?_))))
   refine aB ?_
   refine ai.nil ?_
   obtain rfl:=aH h
   exact fc () 1
  refine ag.exit (ae.exit ?_)
  obtain rfl:=aH h
  exact dY () 0
 rcases ay with ay | ay
 ·simp only [Sum.elim_inl] at h
  refine ae.e1 (ae.next (aC (cr 0 dI ?_)))
  refine b8 1 dI ?_
  refine aM ?_
  refine aL (ag.ret ?_)
  obtain rfl:=aH h
  exact ae.rP rfl (fw 1 dI) (l5 rfl)
 simp only [Sum.elim_inr] at h
 refine ae.dz (ae.ret ?_)
 obtain rfl:=aH h
 exact ae.rP rfl (fw 1 dI) (l5 rfl)
theorem TR (n:Nat):∀ (J:bc) (ah:List bc) (r:Bool),sk n J ah=some r→bw Tryz.prog 94 [I.of (J),I.of (ah)] (I.of (r)):=by
 induction n with
 | zero=>intro J ah r h; simp [sk] at h
 | succ n bR=>
   intro J ah r h
   simp only [sk] at h
   refine bw.of Tryz.func94 rfl Tryz.ntmps94 rfl fun W A=>?_
   refine aC (b7 fun a4=>?_)
   refine aM ?_
   refine bW (cr 0 dI ?_)
   refine aB ?_
   obtain⟨aD,bo,h⟩:=au h
   refine du Q1 (MH bo) ?_
   refine aM ?_
   refine bD (aC (aB ?_))
   refine ai.share (α:=bc) 0 2 rfl rfl (bh (vW (F:=(fun fJ=>zX fJ J)) (τs:= [I.ptr J]) Zj ⟨ab rfl,trivial⟩ (fun _ _ h=>Tu h)) ?_)
   obtain⟨aK,cb,h⟩:=au h
   refine du Zk (Su cb) ?_
   refine aL (cg h (fun h=>?_) fun h=>?_)
   ·refine aC (aM ?_)
    refine aL (ag.ret (ae.ret ?_))
    obtain rfl:=aH h
    exact cX
   refine cO (ag.seq (aC (aB ?_)))
   refine aY (eK Tryz.underlying143) ?_
   refine bj gf ?_
   refine aL (cg h (fun h=>?_) fun h=>?_)
   ·refine aC (aM ?_)
    refine aL (ag.ret (ae.ret ?_))
    obtain rfl:=aH h
    exact cX
   refine cO (aC (aY (da dI) ?_))
   refine aB ?_
   obtain⟨bb,dR,h⟩:=au h
   refine du Zl (Ul dR) ?_
   refine aB ?_
   refine eO ?_
   refine eO ?_
   refine cC kR fun ba=>?_
   refine cC kR fun ck=>?_
   refine b8 1 dW ?_
   refine b8 0 dW ?_
   refine bD (aC (aY (da dI) ?_))
   refine cr 1 dW ?_
   refine cr 0 dW ?_
   obtain⟨bJ,e2,h⟩:=au h
   refine du Zm (Uh e2) ?_
   refine cC jh fun eW=>?_
   refine b8 0 dI ?_
   refine bW (cr 0 dI ?_)
   refine aY (da dI) ?_
   refine bj (yx OW rfl OX rfl) ?_
   refine aL (cg h (fun h=>?_) fun h=>?_)
   ·refine aC (cr 0 dI ?_)
    refine aB ?_
    obtain⟨bq,gG,h⟩:=au h
    refine du FN (bR _ _ _ gG) ?_
    refine aM ?_
    refine aL (ag.ret (ae.ret ?_))
    obtain rfl:=aH h
    exact cX
   refine cO (aC (cr 2 dW ?_))
   refine aB ?_
   obtain⟨b6,gH,h⟩:=au h
   refine du Zn (T7 gH) ?_
   refine aM ?_
   refine bW (aY (da dI) ?_)
   refine aB ?_
   obtain⟨eB,mI,h⟩:=au h
   refine du P8 (MY mI) ?_
   refine aB ?_
   obtain⟨fN,mb,h⟩:=au h
   refine du FN (bR _ _ _ mb) ?_
   refine aB ?_
   refine dE (da dI) ?_
   refine dE cV ?_
   obtain⟨e8,o8,h⟩:=au h
   refine eI (fun hb=>hZ P8 (MY (gN o8 hb)) ⟨cJ rfl hb,cJ rfl hb,gi true,trivial⟩) ?_
   refine dE cV ?_
   obtain⟨ee,qt,h⟩:=au h
   refine eI (fun hb=>hZ FN (bR _ _ _ (gN qt hb)) ⟨cJ rfl hb,cJ rfl hb,trivial⟩) ?_
   refine iG ?_
   refine aM ?_
   refine aL (ag.ret ?_)
   obtain rfl:=aH h
   exact cX
theorem T8 {J:bc} {ah:List bc} {r:Bool} (h:Hs J ah=some r):bw Tryz.prog 94 [I.of (J),I.of (ah)] (I.of (r)):=TR ec J ah r h
theorem SW {J:cL} {ah:aJ} {aP:aJ} {r:Int} (h:xw J ah aP=some r):bw Tryz.prog 238 [I.ptr J,I.of (ah),I.of (aP)] (I.of (r)):=by
 unfold xw at h
 refine bw.of Tryz.func238 rfl Tryz.ntmps238 rfl fun W A=>?_
 refine aC (b7 fun a4=>?_)
 refine b7 fun ba=>?_
 refine aM ?_
 refine bD (ag.block (ag.seq ?_))
 obtain⟨aD,bo,h⟩:=au h
 refine ag.draw mixed 7 [some 8,some 9,some 10,some 11,some 12,some 13,some 14] [[],[0],[1],[2],[],[],[3,4,5]] [.val _,.val _,.val _,.val _,.val _,.val _,.val _] [false,false,false,false,false,false,false] (by kernel_rfl) rfl rfl rfl (fun cx=>⟨ct,H1 Bd,oy Dw Ij,H1 (da gv),eG 1 cM,eG 0 cM,eH Jn (Hu bo),trivial⟩) fun cx=>?_
 refine aM ?_
 refine aL (cg h (fun h=>?_) fun h=>?_)
 ·refine aC (aM ?_)
  refine aL (ag.ret (ae.dz (ae.ret ?_)))
  obtain rfl:=aH h
  exact cX
 refine ag.seq ?_
 obtain⟨aK,cb,h⟩:=au h
 refine ag.draw mixed 7 [some 16,some 17,some 18,some 19,some 20,some 21,some 22] [[],[0],[1],[2],[],[],[3,4,5]] [.val _,.val _,.val _,.val _,.val _,.val _,.val _] [false,false,false,false,false,false,false] (by kernel_rfl) rfl rfl rfl (fun hh=>⟨ct,H1 Bd,oy Dw Ij,H1 (da gv),eG 0 cM,eG 1 cM,eH Jn (Hu cb),trivial⟩) fun hh=>?_
 refine aM ?_
 refine aL (cg h (fun h=>?_) fun h=>?_)
 ·refine aC (aM ?_)
  refine aL (ag.ret (ae.dz (ae.ret ?_)))
  obtain rfl:=aH h
  exact cX
 refine ag.skip (ae.dB (ae.next (aC (aM ?_))))
 refine aL (ag.ret ?_)
 obtain rfl:=aH h
 exact cX
theorem Th {ah:List aJ} {aP:a3} {b5:aJ} :v5 Tryz.prog 117 [I.ptr ah,I.ptr aP,I.ptr b5] [] (fun v:bc=>I.of v) (fun {σ ε} =>zM (σ:=σ) (ε:=ε) ah aP b5):=by
 refine v5.of Tryz.func117 rfl Tryz.ntmps117 rfl ?_
 intro σ ε γ Ls Lx step cw g0 r h W A u sb
 replace h:zM ah aP b5 step cw=some r:=h
 unfold zM at h
 refine aC (aY (da qq) ?_)
 refine aY (eK Tryz.underlying67) ?_
 refine aB ?_
 refine aL (ag.block ?_)
 obtain⟨ay,ao,h⟩:=au h
 refine ag.qm (σ:=Int×(σ)) (ε:=(Int×Bool×(σ)) ⊕ (Bool×Int×Bool×Bool×Bool×(ε))) (γ:=γ) (δ:=γ) ao (fun s1 av=>[(0,I.eq u),(1,I.ptr ah),(2,I.ptr aP),(3,I.ptr b5),(9,I.of (ah)),(10,I.of (ah.length:Int)),(11,I.of (s1.1))]) (fun s1 av=>(Ls s1.2 av)) (fun aA=>Sum.elim (fun aA=>Exit.exit 0) (fun aA=>Exit.ret) aA) (fun aA av=>Sum.elim (fun aA=>[(0,I.eq u),(1,I.ptr ah),(2,I.ptr aP),(3,I.ptr b5),(9,I.of (ah)),(10,I.of (ah.length:Int)),(11,I.of (aA.1)),(12,I.of (aA.2.1))]) (fun aA=>[(0,I.eq u),(1,I.ptr ah),(2,I.ptr aP),(3,I.ptr b5),(8,I.of (aA.1)),(9,I.of (ah)),(10,I.of (ah.length:Int)),(11,I.of (aA.2.1)),(12,I.of (aA.2.2.1)),(19,I.of (aA.2.2.2.1)),(33,I.of (aA.2.2.2.2.1))]) aA) (fun aA av=>Sum.elim (fun aA=>(Ls aA.2.2 av)) (fun aA=>(Lx aA.2.2.2.2.2 av)) aA) g0 rfl .all (fun s1 r h av=>?_) (fun av=>?_)
 ·refine aC (bj ea ?_)
  refine bD (cg h (fun h=>?_) fun h=>?_)
  ·refine cO (ag.seq (ag.block (aC ?_)))
   obtain⟨aZ,cq,h⟩:=au h
   refine g5 cq Tryz.underlying67 cM ?_
   refine aY (da cM) ?_
   refine cC gx fun a4=>?_
   refine b8 0 cM ?_
   refine bD (aC (aY (da gv) ?_))
   refine cr 0 cM ?_
   refine aY (da cM) ?_
   obtain⟨aD,bo,h⟩:=au h
   refine du Jn (Hu bo) ?_
   refine aY hL ?_
   refine aL (cg h (fun h=>?_) fun h=>?_)
   ·refine ag.exit (ae.exit (ae.e1 (ae.next (ag.cm (bj dd ?_)))))
    refine aB ?_
    refine ai.nil ?_
    obtain rfl:=aH h
    exact fc av 1
   refine cO (aC (aY (da gv) ?_))
   refine aY (aU la) ?_
   refine cc 0 j9 hN ?_
   obtain⟨aK,cb,h⟩:=au h
   refine du Q2 (Ng cb) ?_
   refine aB ?_
   refine eO ?_
   refine eO ?_
   refine cC jh fun ba=>?_
   refine b8 0 dI ?_
   refine aM ?_
   refine bW (aB ?_)
   refine aB ?_
   refine dE cV ?_
   refine eI (fun hb=>fa (i:=0) (aN.id bc) (r:=aK.1) dI (ab rfl) rfl rfl rfl) ?_
   refine ai.cases aK.2 (fun hb=>?_) (fun hb=>?_)
   ·replace h:=gQ hb h
    obtain⟨bb,dR,h⟩:=au h
    refine ai.O1 (Lin:= [⟨some ba,.var (aK.1:bc)⟩,⟨some a4,.var (az ah aZ:aJ)⟩]) (Ls:=Ls) (Lx:=Lx) (step:=step) (s:=s1.2) (gg:=av) rfl sb hb rfl rfl rfl (cJ rfl hb) dR rfl (fun s2 aQ aW=>?_) (fun cU aQ aW=>?_)
    ·subst aQ; simp only [Sum.elim_inl] at h
     refine ai.ez (L2:=(⟨some ba,.var (aK.1:bc)⟩::⟨some a4,.var (az ah aZ:aJ)⟩::Ls s2 aW)) rfl (dE hL ?_)
     refine iG ?_
     refine aL (ag.rG (ab rfl) (by first | rfl | (rw [hb]; rfl)) ?_)
     refine ag.skip (ae.dB (ae.next (ag.cm (bj dd ?_))))
     refine aB ?_
     refine ai.nil ?_
     obtain rfl:=aH h
     exact fc aW 2
    subst aQ; simp only [Sum.elim_inr] at h
    refine ai.ez (L2:=(⟨some ba,.var (aK.1:bc)⟩::⟨some a4,.var (az ah aZ:aJ)⟩::Lx cU aW)) rfl (dE hL ?_)
    refine iG ?_
    refine aL (ag.Fx (ab rfl) (by first | rfl | (rw [hb]; rfl)) ?_)
    refine ag.ret (ae.dz (ae.ret ?_))
    obtain rfl:=aH h
    exact dY aW 2
   replace h:=gR hb h
   refine ai.P9 (.of false) hb rfl rfl rfl rfl rfl ?_
   refine dE hL ?_
   refine iG ?_
   refine aL (ag.rG (ab rfl) (by first | rfl | (rw [hb]; rfl)) ?_)
   refine ag.skip (ae.dB (ae.next (ag.cm (bj dd ?_))))
   refine aB ?_
   refine ai.nil ?_
   obtain rfl:=aH h
   exact fc av 2
  refine ag.exit (ae.exit ?_)
  obtain rfl:=aH h
  exact dY av 0
 rcases ay with ay | ay
 ·simp only [Sum.elim_inl] at h
  refine ae.e1 (ae.ou ?_)
  obtain rfl:=aH h
  exact ae.lD av (.refl _) rfl rfl
 simp only [Sum.elim_inr] at h
 refine ae.dz ?_
 obtain rfl:=aH h
 exact ae.lD av (.refl _) rfl rfl
theorem T9 {J:bc} {ah:List bc} {r:Bool×Int} (h:xQ J ah=some r):bw Tryz.prog 61 [I.of (J),I.of (ah)] (I.ep [I.of (r.1),I.of (r.2)]):=by
 unfold xQ at h
 refine bw.of Tryz.func61 rfl Tryz.ntmps61 rfl fun W A=>?_
 refine aC (b7 fun a4=>?_)
 refine aM ?_
 refine aM ?_
 refine bW (cr 0 dI ?_)
 refine aB ?_
 obtain⟨aD,bo,h⟩:=au h
 refine du Q1 (MH bo) ?_
 refine aM ?_
 refine bD (aC (aB ?_))
 refine aY (eK Tryz.underlying143) ?_
 refine bj pI ?_
 refine aL (cg h (fun h=>?_) fun h=>?_)
 ·refine aC (aM ?_)
  refine aM ?_
  refine aL (ag.ret (ae.ret ?_))
  obtain rfl:=aH h
  exact wU
 refine cO (aC (cr 0 dI ?_))
 refine aB ?_
 obtain⟨aK,cb,h⟩:=au h
 refine du FN (T8 cb) ?_
 refine aM ?_
 refine aM ?_
 refine aL (ag.ret ?_)
 obtain rfl:=aH h
 exact wU
theorem Sv {ah:cL} {aP:Vector an 4} {iH:Nat} {mq:Option Nat} {mr:Nat} :v5 Tryz.prog 242 [I.va (I.eq (.pointer (some ⟨iH,0,none⟩))),I.ptr aP] [⟨some iH,.cj (({ ah with ch:= [] } :cL):cL) [(10,aS mq ah.ch.length mr)]⟩,⟨mq,.row 56 (ah.ch:List aJ) mr⟩] (fun v:aJ=>I.of v) (fun {σ ε} =>zm (σ:=σ) (ε:=ε) ah aP):=by
 refine v5.of Tryz.func242 rfl Tryz.ntmps242 rfl ?_
 intro σ ε γ Ls Lx step cw g0 r h W A u sb
 replace h:zm ah aP step cw=some r:=h
 unfold zm at h
 refine aC (bh (On Tryz.underlying131 rfl (ab rfl)) ?_)
 refine aY dV ?_
 refine aY (aU sy) ?_
 refine bh (ho (i:=0) (q:=0) (β:=cL) (γ:=aJ) qq (ab rfl) rfl rfl) ?_
 refine bh (oU (i:=1) Tryz.underlying67 (ab rfl) rfl rfl) ?_
 refine aB ?_
 refine aL (ag.block ?_)
 obtain⟨ay,ao,h⟩:=au h
 refine ag.qm (σ:=Int×(σ)) (ε:=(Int×Bool×(σ)) ⊕ (Int×Bool×Bool×(ε))) (γ:=γ) (δ:=γ) ao (fun s1 av=>[(0,I.eq u),(1,I.va (I.eq (.pointer (some ⟨iH,0,none⟩)))),(2,I.ptr aP),(9,I.eq (aS mq ah.ch.length mr)),(10,I.of (ah.ch.length:Int)),(11,I.of (s1.1))]) (fun s1 av=>(⟨some iH,.cj (({ ah with ch:= [] } :cL):cL) [(10,aS mq ah.ch.length mr)]⟩::⟨mq,.row 56 (ah.ch:List aJ) mr⟩::Ls s1.2 av)) (fun aA=>Sum.elim (fun aA=>Exit.exit 0) (fun aA=>Exit.ret) aA) (fun aA av=>Sum.elim (fun aA=>[(0,I.eq u),(1,I.va (I.eq (.pointer (some ⟨iH,0,none⟩)))),(2,I.ptr aP),(9,I.eq (aS mq ah.ch.length mr)),(10,I.of (ah.ch.length:Int)),(11,I.of (aA.1)),(12,I.of (aA.2.1))]) (fun aA=>[(0,I.eq u),(1,I.va (I.eq (.pointer (some ⟨iH,0,none⟩)))),(2,I.ptr aP),(9,I.eq (aS mq ah.ch.length mr)),(10,I.of (ah.ch.length:Int)),(11,I.of (aA.1)),(12,I.of (aA.2.1)),(28,I.of (aA.2.2.1))]) aA) (fun aA av=>Sum.elim (fun aA=>(⟨some iH,.cj (({ ah with ch:= [] } :cL):cL) [(10,aS mq ah.ch.length mr)]⟩::⟨mq,.row 56 (ah.ch:List aJ) mr⟩::Ls aA.2.2 av)) (fun aA=>(⟨some iH,.cj (({ ah with ch:= [] } :cL):cL) [(10,aS mq ah.ch.length mr)]⟩::⟨mq,.row 56 (ah.ch:List aJ) mr⟩::Lx aA.2.2.2 av)) aA) g0 rfl .all (fun s1 r h av=>?_) (fun av=>?_)
 ·refine aC (bj ea ?_)
  refine bD (cg h (fun h=>?_) fun h=>?_)
  ·refine cO (ag.seq (ag.block (aC ?_)))
   obtain⟨aZ,cq,h⟩:=au h
   refine bh (l2 (i:=1) (k:=aZ) (xs:=(ah.ch:List aJ)) Tryz.underlying67 cM (ab rfl) (ab rfl) rfl (bZ cq)) ?_
   refine bh (pA (i:=1) (k:=aZ) (aN.id aJ) (r:=(az ah.ch aZ)) cM (ab rfl) rfl (bZ cq).1 rfl rfl) ?_
   refine cC gx fun a4=>?_
   refine b8 0 cM ?_
   refine bD ?_
   obtain⟨aD,bo,h⟩:=au h
   refine ag.draw mixed 11 [some 15,some 16,some 17,some 18,some 19,some 20,some 21,some 22,some 23,some 24,some 25] [[],[0],[1],[2],[],[4],[],[3,5,6],[7],[8],[8]] [.val _,.val _,.val _,.val _,.val _,.val _,.val _,.val _,.val _,.val _,.val _] [false,false,false,false,false,false,false,false,false,false,false] (by kernel_rfl) rfl rfl rfl (fun cx=>⟨c1 fun ax ar=>On Tryz.underlying131 rfl (ab rfl),H1 dV,H1 (aU Ij),c1 fun ax ar=>EN (i:=1) ((aN.id cL).comp Dw) (r:=ah.oQ) gv (ab rfl) (ar _ _ rfl rfl) rfl rfl (by rfl),H1 (aU la),dg 0 j9 hN,H1 (da dW),eH Zo (T3 bo),ct,fz fun ax ar=>fun hb=>cV (ab rfl),fz fun ax ar=>fun hb=>fa (i:=0) (aN.id aJ) (r:=(az ah.ch aZ)) cM (ab rfl) (ar _ _ rfl rfl) rfl rfl,trivial⟩) fun cx=>?_
   refine ai.cases aD (fun hb=>?_) (fun hb=>?_)
   ·replace h:=gQ hb h
    obtain⟨aK,cb,h⟩:=au h
    refine ai.O1 (Lin:= [⟨some a4,.var ((az ah.ch aZ):aJ)⟩,⟨some iH,.cj (({ ah with ch:= [] } :cL):cL) [(10,aS mq ah.ch.length mr)]⟩,⟨mq,.row 56 (ah.ch:List aJ) mr⟩]) (Ls:=Ls) (Lx:=Lx) (step:=step) (s:=s1.2) (gg:=av) rfl sb hb rfl rfl rfl (cJ rfl hb) cb rfl (fun s2 aQ aW=>?_) (fun cU aQ aW=>?_)
    ·subst aQ; simp only [Sum.elim_inl] at h
     refine ai.ez (L2:=(⟨some a4,.var ((az ah.ch aZ):aJ)⟩::⟨some iH,.cj (({ ah with ch:= [] } :cL):cL) [(10,aS mq ah.ch.length mr)]⟩::⟨mq,.row 56 (ah.ch:List aJ) mr⟩::Ls s2 aW)) rfl (dE hL ?_)
     refine iG ?_
     refine aL (ag.rG (ab rfl) (by first | rfl | (rw [hb]; rfl)) ?_)
     refine ag.skip (ae.dB (ae.next (ag.cm (bj dd ?_))))
     refine aB ?_
     refine ai.nil ?_
     obtain rfl:=aH h
     exact fc aW 1
    subst aQ; simp only [Sum.elim_inr] at h
    refine ai.ez (L2:=(⟨some a4,.var ((az ah.ch aZ):aJ)⟩::⟨some iH,.cj (({ ah with ch:= [] } :cL):cL) [(10,aS mq ah.ch.length mr)]⟩::⟨mq,.row 56 (ah.ch:List aJ) mr⟩::Lx cU aW)) rfl (dE hL ?_)
    refine iG ?_
    refine aL (ag.Fx (ab rfl) (by first | rfl | (rw [hb]; rfl)) ?_)
    refine ag.ret (ae.dz (ae.ret ?_))
    obtain rfl:=aH h
    exact dY aW 1
   replace h:=gR hb h
   refine ai.P9 (.of false) hb rfl rfl rfl rfl rfl ?_
   refine dE hL ?_
   refine iG ?_
   refine aL (ag.rG (ab rfl) (by first | rfl | (rw [hb]; rfl)) ?_)
   refine ag.skip (ae.dB (ae.next (ag.cm (bj dd ?_))))
   refine aB ?_
   refine ai.nil ?_
   obtain rfl:=aH h
   exact fc av 1
  refine ag.exit (ae.exit ?_)
  obtain rfl:=aH h
  exact dY av 0
 rcases ay with ay | ay
 ·simp only [Sum.elim_inl] at h
  refine ae.e1 (ae.ou (ae.bI 1 rfl (ae.bI 1 rfl ?_)))
  obtain rfl:=aH h
  exact ae.lD av (.cons_cons _ (.cons_cons _ (.refl _))) rfl rfl
 simp only [Sum.elim_inr] at h
 refine ae.dz (ae.bI 1 rfl (ae.bI 1 rfl ?_))
 obtain rfl:=aH h
 exact ae.lD av (.cons_cons _ (.cons_cons _ (.refl _))) rfl rfl
theorem UA {J:bC} {ah:bC} {r:Bool} (h:D8 J ah=some r):bw Tryz.prog 63 [I.of (J),I.of (ah)] (I.of (r)):=by
 unfold D8 at h
 refine bw.of Tryz.func63 rfl Tryz.ntmps63 rfl fun W A=>?_
 refine aC (b7 fun a4=>?_)
 refine b7 fun ba=>?_
 refine aM ?_
 refine bW (cr 1 hN ?_)
 refine cr 0 hN ?_
 obtain⟨aD,bo,h⟩:=au h
 refine du aa7 (T6 bo) ?_
 refine bj gf ?_
 refine aM ?_
 refine aL (ag.ret ?_)
 obtain rfl:=aH h
 exact cX
theorem S8 {hp:a1 Cell} {J:gZ} {ah:bC} {r:Int×Bool} (h:zD hp J ah=some r):b9 Tryz.prog 200 [I.of (J),I.of (ah)] ([]++a8 hp) (δ:=Unit) (fun _=>I.ep [I.of (r.1),I.of (r.2)]) (fun _=>[]++a8 hp):=by
 unfold zD at h
 refine b9.of Tryz.func200 rfl Tryz.ntmps200 rfl fun W A=>?_
 refine aC (b7 fun a4=>?_)
 refine b7 fun ba=>?_
 refine aM ?_
 refine aM ?_
 refine bW (cr 1 Bv ?_)
 refine cr 0 hN ?_
 obtain⟨aD,bo,h⟩:=au h
 refine du Jo (G1 bo) ?_
 refine aB ?_
 refine eO ?_
 refine eO ?_
 refine eO ?_
 refine cC wk fun ck=>?_
 refine cC en fun eW=>?_
 refine b8 1 kx ?_
 refine b8 0 bG ?_
 refine aM ?_
 refine bD ?_
 obtain⟨cG,dF,h⟩:=au h
 obtain⟨bY,ed,h⟩:=au h
 obtain⟨bH,dt,h⟩:=au h
 obtain⟨aK,cb,h⟩:=au h
 refine jk [0,1,2,3,6,7,8,9,10,11,12,13,14,15] ?_
 refine ag.qk 4 mixed (bg 16 [] [] _::bg 17 (0::[]) (3::[]) _::bg 18 [] (1::[]) _::⟨some 19,(1::2::[]),[],[],fun _=>I.of (bH),fun _ _=>⟨none,.dead⟩⟩::bg 20 [] (0::[]) _::bg 21 [] [] _::⟨some 22,(3::4::5::[]),[],[],fun _=>I.ep [I.of (aK.1),I.of (aK.2)],fun _ _=>⟨none,.dead⟩⟩::bg 23 (6::[]) [] _::bg 24 (6::[]) [] _::bg 4 (7::[]) [] _::bg 5 (8::[]) [] _::[]) _ (0::1::2::3::6::7::8::9::10::11::12::13::14::15::[]) rfl rfl (by kernel_rfl) (by kernel_rfl) ⟨cI.q (fy (aU sF)),cI.q (o3 3 re rL),cI.q (lG 1 kx),?_,cI.q (lG 0 bG),cI.q (fP),?_,cI.q (cz fun hd E' ax aG ar=>lC (ab (aG _ _ rfl)) rfl),cI.q (cz fun hd E' ax aG ar=>lC (ab (aG _ _ rfl)) rfl),cI.q (cz fun hd E' ax aG ar=>ew (ab (aG _ _ rfl))),cI.q (cz fun hd E' ax aG ar=>ew (ab (aG _ _ rfl))),trivial⟩ fun fj=>?_
 ·intro hd E' ax aG ar dw
  refine bh (vP (r:=bH) Tryz.underlying128 uF yD (mV (ab (aG _ _ rfl)) dF) (ab (aG _ _ rfl)) (fk (n:=4) (dw.trans rfl) (mw ed) rfl) (aH dt)) ?_
  exact ai.nil (ae.fin (eP []) rfl rfl)
 ·intro hd E' ax aG ar dw
  refine ai.jC (gJ.kO 4 (dw.trans rfl) Qa (Ms cb) ⟨ab (aG _ _ rfl),ab (aG _ _ rfl),ab (aG _ _ rfl),trivial⟩) rfl rfl rfl ?_
  exact ai.nil (ae.fin (eP []) rfl rfl)
 refine ae.ez (L2:=(⟨some eW,.var (aD.2.1:an)⟩::⟨some ck,.var (aD.1:Vector an 4)⟩::⟨some ba,.var (ah:bC)⟩::⟨some a4,.var (J:gZ)⟩::a8 hp)) rfl (km [0,1,2,3,4,5,6,7,8,9,10,11,12,13,14,15,16,17,18,19,20,21,22,23,24] ?_)
 refine ae.next (ag.ret ?_)
 obtain rfl:=aH h
 exact ae.kN () (.cons _ (.cons _ (.cons _ (.cons _ (.refl _))))) rfl rfl (ej rfl) (ej rfl)
theorem Sr {J aP:List aJ} {ah:Int} {og Qb:Option Nat} {fM wu:Nat} {r:List aJ} (h:Du J ah aP=some r):b9 Tryz.prog 240 [I.eq (aS og J.length fM),I.of ah,I.eq (aS Qb aP.length wu)] [⟨og,.row 56 J fM⟩,⟨Qb,.row 56 aP wu⟩] (δ:=(Option Nat×Nat)) (fun d=>I.eq (aS d.1 r.length d.2)) (fun d=>[⟨d.1,.row 56 r d.2⟩]):=by
 unfold Du at h
 obtain⟨k,rfl,aw,a2,te,mL,rfl⟩:=Vx h
 refine b9.of Tryz.func240 rfl Tryz.ntmps240 rfl fun W A=>?_
 refine ag.seq (ag.cm (ai.v (ew qb) rfl rfl rfl (ai.nil (ae.next (ag.seq (ag.cm (ai.v (cV (ab rfl)) rfl rfl rfl (ai.v (cV (ab rfl)) rfl rfl rfl (ai.v (yc (i:=0) (xs:=J) Tryz.underlying67 cM (ab rfl) rfl (.some (ab rfl)) .none rfl rfl ⟨aw,Nat.le_refl _⟩) rfl rfl rfl (ai.nil (ae.next (ag.seq (ag.cm (ai.v (cV (ab rfl)) rfl rfl rfl (ai.v (oU (i:=1) (xs:=aP) Tryz.underlying67 (ab rfl) rfl rfl) rfl rfl rfl (ai.v (ew (ab rfl)) rfl rfl rfl (ai.nil (ae.next (ag.seq ?_)))))))))))))))))))
 refine ag.seq (ag.cm (ai.v (cV (ab rfl)) rfl rfl rfl (ai.v (gf (ab rfl) (bU 0)) rfl rfl rfl (ai.nil (ae.next (ag.cond (ab rfl) (fun al=>?_) (fun _=>?_)))))))
 ·exfalso; simp only [beq_iff_eq] at al; omega
 refine ag.skip (ae.next (ag.seq (ag.cm (ai.v (cV (ab rfl)) rfl rfl rfl (ai.v (oU (i:=0) (xs:=J) Tryz.underlying67 (ab rfl) rfl rfl) rfl rfl rfl (ai.v (ew (ab rfl)) rfl rfl rfl (ai.nil (ae.next (ag.seq (ag.seq (ag.cm (ai.v (cV (ab rfl)) rfl rfl rfl (ai.v (cV (ab rfl)) rfl rfl rfl (ai.v (gf (ab rfl) (ab rfl)) rfl rfl rfl (ai.nil (ae.next (ag.cond (ab rfl) (fun al=>?_) (fun al=>?_))))))))))))))))))
 ·have jK:k=J.length:=by simp only [beq_iff_eq] at al; omega
  subst jK
  refine ag.seq (ag.cm (ai.v (cV (ab rfl)) rfl rfl rfl (ai.n4 (α:=aJ) 1 [2,13] ⟨rfl,rfl,trivial⟩ rfl (ai.v (cV (ab rfl)) rfl rfl rfl (ai.app (i:=0) (xs:=J) (ys:=aP) (r:=J++aP) Tryz.underlying67 cM gx (by kernel_rfl) (ab rfl) rfl (ab rfl) (by unfold fV; rw [if_pos ⟨te,mL⟩]) rfl fun gD fC=>?_)))))
  refine ai.v (ew (ab rfl)) rfl rfl rfl (ai.nil (ae.next (ag.ret ?_)))
  have aQ:J.take J.length++aP++J.drop J.length=J++aP:=by simp
  rw [aQ]
  exact ae.gr (gD,fC) (.cons_cons _ (List.nil_sublist _)) rfl rfl (ej rfl)
 have jK:k<J.length:=by simp only [beq_eq_false_iff_ne] at al; omega
 refine ag.skip (ae.next (ag.some (i:=0) (xs:=J) rfl (by omega) fun p hp uI o4=>?_))
 subst hp
 refine ag.some (i:=1) (xs:=aP) rfl (by omega) fun q hq aee aeh=>?_
 subst hq
 refine ag.apart rfl fun Gc=>?_
 refine ag.seq (ag.seq (ag.cm (ai.v (cV (ab rfl)) rfl rfl rfl (ai.v (cV (ab rfl)) rfl rfl rfl (ai.v (dd (ab rfl) (ab rfl)) rfl rfl rfl (ai.v (cV (ab rfl)) rfl rfl rfl (ai.v (XT Tryz.underlying67 (ab rfl)) rfl rfl rfl (ai.v (pI (ab rfl) (ab rfl)) rfl rfl rfl (ai.nil (ae.next ?_))))))))))
 have hw:bs ((J.length:Int)+(aP.length:Int))=((J.length+aP.length:Nat):Int):=by
  have nd:maxLen=9223372036854775807:=rfl
  rw [hC (by omega) (by omega)]; simp
 refine ag.cond (ab rfl) (fun fI=>?_) (fun fI=>?_)
 ·have yE:fM<J.length+aP.length:=by rw [hw] at fI; simp only [decide_eq_true_eq] at fI; omega
  have nd:maxLen=9223372036854775807:=rfl
  have aE:bs (bs ((J.length:Int)+(aP.length:Int)) - (k:Int))=((J.length+aP.length - k:Nat):Int):=by
   rw [hw,hC (by omega) (by omega)]; omega
  refine ag.seq (ag.cm (ai.v (cV (ab rfl)) rfl rfl rfl (ai.v (cV (ab rfl)) rfl rfl rfl (ai.v (yc (i:=0) (xs:=J) Tryz.underlying67 cM (ab rfl) rfl .none (.some (ab rfl)) rfl rfl ⟨Nat.zero_le _,aw⟩) rfl rfl rfl (ai.v (cV (ab rfl)) rfl rfl rfl (ai.v (cV (ab rfl)) rfl rfl rfl (ai.v (dd (ab rfl) (ab rfl)) rfl rfl rfl (ai.v (cV (ab rfl)) rfl rfl rfl (ai.v (kg (ab rfl) (ab rfl)) rfl rfl rfl (ai.aa8 (i:=0) (m:=k) (k:=J.length+aP.length - k) (xs:=J) (z:=(default:aJ)) Tryz.underlying67 Tryz.underlying3 cM gx (by rfl) (by kernel_rfl) (ab rfl) (by rw [← aE]; exact ab rfl) rfl aw (by omega) (by omega) (by rw [show k+(J.length+aP.length - k)=J.length+aP.length by omega]; exact te) (by omega) rfl fun aA fC=>?_))))))))))
  refine ai.v (ew (ab rfl)) rfl rfl rfl (ai.nil (ae.next ?_))
  have hlen:(J.take k++List.replicate (J.length+aP.length - k) (default:aJ)).length=J.length+aP.length:=by simp; omega
  refine ag.some (i:=0) (xs:=J.take k++List.replicate (J.length+aP.length - k) (default:aJ)) rfl (by omega) fun cU nf Zp aei=>?_
  rw [hlen] at Zp
  refine ag.seq (ag.cm (ai.v (cV (ab rfl)) rfl rfl rfl (ai.v (cV (ab rfl)) rfl rfl rfl (ai.v (sw (α:=aJ) (m:=k) (h:=k+(J.length+aP.length - k)) Tryz.underlying67 cM (ab rfl) (.some (ab rfl)) .none rfl rfl ⟨by omega,by omega⟩) rfl rfl rfl ?_))))
  refine ai.v (cV (ab rfl)) rfl rfl rfl (ai.FB (i:=0) (p:=aA) (off:=k * aj.size aJ) (dLen:=k+(J.length+aP.length - k) - k) (dCap:=fC - k) (N:=aP.length) (vs:=aP) (T:=56) Tryz.underlying67 cM (by rw [← Ik (by omega)]; exact ab rfl) (Oo (i:=2) (ab rfl) rfl a2) (Nat.min_eq_left (by omega)) rfl rfl (fun A W o cells h dc=>HU (by omega) h dc) ?_)
  refine ai.nil (ae.next ?_)
  have ay:(J.take k++List.replicate (J.length+aP.length - k) (default:aJ)).take k++aP++(J.take k++List.replicate (J.length+aP.length - k) (default:aJ)).drop (k+aP.length)=J.take k++aP++List.replicate (J.length - k) (default:aJ):=by
   have jL:(J.take k).length=k:=by rw [List.length_take]; omega
   rw [List.take_left' jL,List.drop_append,jL,List.drop_eq_nil_of_le (by omega),List.nil_append,List.drop_replicate]
   congr 2
   omega
  have pV:bs ((k:Int)+(aP.length:Int))=((k+aP.length:Nat):Int):=by rw [hC (by omega) (by omega)]; simp
  refine ag.seq (ag.le (E':= [(0,I.eq (aS (some p) J.length fM)),(1,I.of (k:Int)),(7,I.of (aP.length:Int)),(9,I.eq (aS (some aA) (k+(J.length+aP.length - k)) fC))]) (.same rfl (.same rfl (.same rfl (.same rfl .nil)))) ?_)
  refine ag.kP mixed (⟨some 46,[],[],[],fun _=>I.eq (aS (some aA) (k+(J.length+aP.length - k)) fC),fun _ _=>⟨none,.dead⟩⟩::⟨some 47,[],[],[],fun _=>I.of (k:Int),fun _ _=>⟨none,.dead⟩⟩::⟨some 48,[],[],[],fun _=>I.of (aP.length:Int),fun _ _=>⟨none,.dead⟩⟩::⟨some 49,(1::2::[]),[],[],fun _=>I.of (bs ((k:Int)+(aP.length:Int))),fun _ _=>⟨none,.dead⟩⟩::⟨some 50,(0::3::[]),[],[],fun _=>I.eq (ib (some aA) (k+aP.length) ((k+(J.length+aP.length - k)) - (k+aP.length)) fC (aj.size aJ)),fun _ _=>⟨none,.dead⟩⟩::⟨some 51,[],[],[],fun _=>I.eq (aS (some p) J.length fM),fun _ _=>⟨none,.dead⟩⟩::⟨some 52,[],[],[],fun _=>I.of (k:Int),fun _ _=>⟨none,.dead⟩⟩::⟨some 53,(5::6::[]),[],[],fun _=>I.eq (ib (some p) k (J.length - k) fM (aj.size aJ)),fun _ _=>⟨none,.dead⟩⟩::⟨some 54,(4::7::[]),(0::1::[]),(0::[]),fun _=>I.of ((((J.drop k).take (J.length - k)).length:Nat):Int),fun _ _=>⟨some aA,.row 56 ((J.take k++aP++List.replicate (J.length - k) (default:aJ)).take (k+aP.length)++(J.drop k).take (J.length - k)++(J.take k++aP++List.replicate (J.length - k) (default:aJ)).drop (k+aP.length+((J.drop k).take (J.length - k)).length)) fC⟩⟩::[]) ((some 46,[],[],[])::(some 47,[],[],[])::(some 48,[],[],[])::(some 49,(1::2::[]),[],[])::(some 50,(0::3::[]),[],[])::(some 51,[],[],[])::(some 52,[],[],[])::(some 53,(5::6::[]),[],[])::(some 54,(4::7::[]),(0::1::[]),(0::[]))::[]) (0::1::7::9::[]) rfl rfl (by kernel_rfl) ⟨?_,?_,?_,?_,?_,?_,?_,?_,?_,trivial⟩ fun hd=>?_
  ·exact iQ rfl rfl rfl fun hd E' ax aG ar=>cV (ab (aG _ _ rfl))
  ·exact iQ rfl rfl rfl fun hd E' ax aG ar=>cV (ab (aG _ _ rfl))
  ·exact iQ rfl rfl rfl fun hd E' ax aG ar=>cV (ab (aG _ _ rfl))
  ·exact iQ rfl rfl rfl fun hd E' ax aG ar=>dd (ab (aG _ _ rfl)) (ab (aG _ _ rfl))
  ·exact iQ rfl rfl rfl fun hd E' ax aG ar=>sw (α:=aJ) (m:=k+aP.length) (h:=(k+(J.length+aP.length - k))) Tryz.underlying67 cM (ab (aG _ _ rfl)) (.some (ab (aG _ _ rfl))) .none pV rfl ⟨by omega,by omega⟩
  ·exact iQ rfl rfl rfl fun hd E' ax aG ar=>cV (ab (aG _ _ rfl))
  ·exact iQ rfl rfl rfl fun hd E' ax aG ar=>cV (ab (aG _ _ rfl))
  ·exact iQ rfl rfl rfl fun hd E' ax aG ar=>sw (α:=aJ) (m:=k) (h:=J.length) Tryz.underlying67 cM (ab (aG _ _ rfl)) (.some (ab (aG _ _ rfl))) .none rfl rfl ⟨by omega,by omega⟩
  ·intro hd E' ax aG ar
   have bT:=ar 0 _ rfl rfl
   rw [ay] at bT
   refine ai.FB (i:=0) (p:=aA) (off:=(k+aP.length) * aj.size aJ) (T:=56) (vs:=(J.drop k).take (J.length - k)) (N:=J.length - k) (dLen:=(k+(J.length+aP.length - k)) - (k+aP.length)) (dCap:=fC - (k+aP.length)) Tryz.underlying67 cM (by rw [← Ik (p:=aA) (lo:=k+aP.length) (cap:=fC) (size:=aj.size aJ) (by omega)]; exact ab (aG _ _ rfl)) (ER (i:=1) (ab (aG _ _ rfl)) (ar 1 _ rfl rfl) (by omega) (by omega)) (by rw [show((J.drop k).take (J.length - k)).length=J.length - k by simp]; exact Nat.min_eq_left (by omega)) bT rfl (fun A W o cells h dc=>HU (by simp; omega) h dc) ?_
   exact ai.nil (ae.fin (eP []) rfl rfl)
  have aO:((J.take k++aP++List.replicate (J.length - k) (default:aJ)).take (k+aP.length)++(J.drop k).take (J.length - k)++(J.take k++aP++List.replicate (J.length - k) (default:aJ)).drop (k+aP.length+((J.drop k).take (J.length - k)).length))=J.take k++aP++J.drop k:=by
   have jL:(J.take k++aP).length=k+aP.length:=by simp; omega
   have c6:(J.drop k).take (J.length - k)=J.drop k:=List.take_of_length_le (by simp)
   have fe:(J.take k++aP++List.replicate (J.length - k) (default:aJ)).drop (k+aP.length+(J.drop k).length)= []:=List.drop_eq_nil_of_le (by rw [List.length_append,jL,List.length_replicate,List.length_drop]; omega)
   rw [c6,List.take_left' jL,fe,List.append_nil]
  refine ae.ez (L2:= [⟨some aA,.row 56 ((J.take k++aP++List.replicate (J.length - k) (default:aJ)).take (k+aP.length)++(J.drop k).take (J.length - k)++(J.take k++aP++List.replicate (J.length - k) (default:aJ)).drop (k+aP.length+((J.drop k).take (J.length - k)).length)) fC⟩,⟨some p,.row 56 J fM⟩,⟨some q,.row 56 aP wu⟩]) rfl ?_
  rw [aO]
  refine ae.le (E':= [(9,I.eq (aS (some aA) (k+(J.length+aP.length - k)) fC))]) (.same rfl .nil) (ae.next (ag.seq (ag.cm (ai.v (cV (ab rfl)) rfl rfl rfl (ai.v (ew (ab rfl)) rfl rfl rfl (ai.nil (ae.next (ag.ret ?_))))))))
  have cK:k+(J.length+aP.length - k)=(J.take k++aP++J.drop k).length:=by simp; omega
  rw [cK]
  exact ae.gr (some aA,fC) (.cons_cons _ (List.nil_sublist _)) rfl rfl (ej rfl)
 have yE:J.length+aP.length≤fM:=by rw [hw] at fI; simp only [decide_eq_false_iff_not] at fI; omega
 have nd:maxLen=9223372036854775807:=rfl
 have pV:bs ((k:Int)+(aP.length:Int))=((k+aP.length:Nat):Int):=by rw [hC (by omega) (by omega)]; simp
 refine ag.skip (ae.next (ag.seq (ag.cm (ai.v (cV (ab rfl)) rfl rfl rfl (ai.v (cV (ab rfl)) rfl rfl rfl (ai.v (cV (ab rfl)) rfl rfl rfl (ai.v (dd (ab rfl) (ab rfl)) rfl rfl rfl (ai.v (sw (α:=aJ) (m:=0) (h:=J.length+aP.length) Tryz.underlying67 cM (ab rfl) .none (.some (ab rfl)) rfl hw ⟨by omega,by omega⟩) rfl rfl rfl ?_))))))))
 refine ai.v (ew (ab rfl)) rfl rfl rfl (ai.nil (ae.next (ag.seq (ag.seq (ag.cm (ai.v (cV (ab rfl)) rfl rfl rfl (ai.v (cV (ab rfl)) rfl rfl rfl (ai.v (cV (ab rfl)) rfl rfl rfl (ai.v (cV (ab rfl)) rfl rfl rfl (ai.v (dd (ab rfl) (ab rfl)) rfl rfl rfl (ai.v (sw (α:=aJ) (p:=p) (n:=J.length+aP.length) (cap:=fM) (m:=k+aP.length) (h:=J.length+aP.length) Tryz.underlying67 cM (Fb (size:=aj.size aJ) (ab rfl)) (.some (ab rfl)) .none pV rfl ⟨by omega,by omega⟩) rfl rfl rfl ?_)))))))))))
 refine ai.v (Zq (α:=aJ) (p:=p) (q:=q) (T:=56) (U:=56) (xs:=J) (vs:=aP) (cap:=fM) (cap':=wu) (i:=0) (j:=1) (tR:=4) (by kernel_rfl) Tryz.func245 (by kernel_rfl) (by kernel_rfl) (by kernel_rfl) (by kernel_rfl) Tryz.underlying67 cM (ab rfl) (IM (p:=p) (lo:=k+aP.length) (cap:=fM) (size:=aj.size aJ) (by omega) (ab rfl)) rfl rfl Gc (by omega)) rfl rfl rfl ?_
 refine ai.v (hL (ab rfl)) rfl rfl rfl (ai.nil (ae.next (ag.cond (ab rfl) (fun _=>?_) (fun lJ=>by cases lJ))))
 have j6:(J.length+aP.length - 0)=J.length+aP.length:=by omega
 have Rt:(J.drop k).take (J.length - k)=J.drop k:=List.take_of_length_le (by simp)
 refine ag.seq (ag.le (E':= [(0,I.eq (ib (some p) 0 (J.length+aP.length - 0) fM (aj.size aJ))),(1,I.of (k:Int)),(2,I.eq (aS (some q) aP.length wu)),(7,I.of (aP.length:Int))]) (.same rfl (.same rfl (.same rfl (.same rfl .nil)))) ?_)
 refine ag.kP mixed (⟨some 69,[],[],[],fun _=>I.eq (ib (some p) 0 (J.length+aP.length - 0) fM (aj.size aJ)),fun _ _=>⟨none,.dead⟩⟩::⟨some 70,[],[],[],fun _=>I.of (k:Int),fun _ _=>⟨none,.dead⟩⟩::⟨some 71,[],[],[],fun _=>I.of (aP.length:Int),fun _ _=>⟨none,.dead⟩⟩::⟨some 72,(1::2::[]),[],[],fun _=>I.of (bs ((k:Int)+(aP.length:Int))),fun _ _=>⟨none,.dead⟩⟩::⟨some 73,(0::3::[]),[],[],fun _=>I.eq (ib (some p) (k+aP.length) (J.length+aP.length - (k+aP.length)) fM (aj.size aJ)),fun _ _=>⟨none,.dead⟩⟩::⟨some 74,[],[],[],fun _=>I.eq (ib (some p) 0 (J.length+aP.length - 0) fM (aj.size aJ)),fun _ _=>⟨none,.dead⟩⟩::⟨some 75,[],[],[],fun _=>I.of (k:Int),fun _ _=>⟨none,.dead⟩⟩::⟨some 76,(5::6::[]),[],[],fun _=>I.eq (ib (some p) k (J.length+aP.length - k) fM (aj.size aJ)),fun _ _=>⟨none,.dead⟩⟩::⟨some 77,(4::7::[]),(0::[]),(0::[]),fun _=>I.of ((((J.drop k).take (J.length - k)).length:Nat):Int),fun _ _=>⟨some p,.Co 56 J k aP.length fM⟩⟩::[]) ((some 69,[],[],[])::(some 70,[],[],[])::(some 71,[],[],[])::(some 72,(1::2::[]),[],[])::(some 73,(0::3::[]),[],[])::(some 74,[],[],[])::(some 75,[],[],[])::(some 76,(5::6::[]),[],[])::(some 77,(4::7::[]),(0::[]),(0::[]))::[]) (0::1::2::7::[]) rfl rfl (by kernel_rfl) ⟨?_,?_,?_,?_,?_,?_,?_,?_,?_,trivial⟩ fun hd=>?_
 ·exact iQ rfl rfl rfl fun hd E' ax aG ar=>cV (ab (aG _ _ rfl))
 ·exact iQ rfl rfl rfl fun hd E' ax aG ar=>cV (ab (aG _ _ rfl))
 ·exact iQ rfl rfl rfl fun hd E' ax aG ar=>cV (ab (aG _ _ rfl))
 ·exact iQ rfl rfl rfl fun hd E' ax aG ar=>dd (ab (aG _ _ rfl)) (ab (aG _ _ rfl))
 ·exact iQ rfl rfl rfl fun hd E' ax aG ar=>sw (α:=aJ) (n:=J.length+aP.length) (m:=k+aP.length) (h:=J.length+aP.length) Tryz.underlying67 cM (Fb (size:=aj.size aJ) (ab (aG _ _ rfl))) (.some (ab (aG _ _ rfl))) .none pV rfl ⟨by omega,by omega⟩
 ·exact iQ rfl rfl rfl fun hd E' ax aG ar=>cV (ab (aG _ _ rfl))
 ·exact iQ rfl rfl rfl fun hd E' ax aG ar=>cV (ab (aG _ _ rfl))
 ·exact iQ rfl rfl rfl fun hd E' ax aG ar=>sw (α:=aJ) (n:=J.length+aP.length) (m:=k) (h:=J.length+aP.length) Tryz.underlying67 cM (Fb (size:=aj.size aJ) (ab (aG _ _ rfl))) (.some (ab (aG _ _ rfl))) .none rfl rfl ⟨by omega,by omega⟩
 ·intro hd E' ax aG ar
  have bT:=ar 0 _ rfl rfl
  refine ai.FB (i:=0) (p:=p) (off:=(k+aP.length) * aj.size aJ) (T:=56) (vs:=(J.drop k).take (J.length - k)) (N:=J.length+aP.length - k) (dLen:=J.length+aP.length - (k+aP.length)) (dCap:=fM - (k+aP.length)) (cp':= .Co 56 J k aP.length fM) Tryz.underlying67 cM (IM (p:=p) (lo:=k+aP.length) (cap:=fM) (size:=aj.size aJ) (by omega) (ab (aG _ _ rfl))) (ER (i:=0) (ab (aG _ _ rfl)) bT (by omega) (by omega)) (by rw [Rt]; rw [show(J.drop k).length=J.length+aP.length - (k+aP.length) by simp; omega]; exact Nat.min_eq_right (by omega)) bT rfl (fun A W o cells h dc=>W5 aw yE h (by rw [← Rt]; exact dc)) ?_
  exact ai.nil (ae.fin (eP []) rfl rfl)
 refine ae.ez (L2:= [⟨some p,.Co 56 J k aP.length fM⟩,⟨some q,.row 56 aP wu⟩]) rfl (ae.le (E':= [(0,I.eq (ib (some p) 0 (J.length+aP.length - 0) fM (aj.size aJ))),(1,I.of (k:Int)),(2,I.eq (aS (some q) aP.length wu))]) (.same rfl (.same rfl (.same rfl .nil))) ?_)
 refine ae.next (ag.seq (ag.cm (ai.v (cV (ab rfl)) rfl rfl rfl (ai.v (cV (ab rfl)) rfl rfl rfl (ai.v (sw (α:=aJ) (n:=J.length+aP.length) (m:=k) (h:=J.length+aP.length) Tryz.underlying67 cM (Fb (size:=aj.size aJ) (ab rfl)) (.some (ab rfl)) .none rfl rfl ⟨by omega,by omega⟩) rfl rfl rfl ?_)))))
 refine ai.v (cV (ab rfl)) rfl rfl rfl (ai.FB (i:=0) (p:=p) (off:=k * aj.size aJ) (dLen:=J.length+aP.length - k) (dCap:=fM - k) (N:=aP.length) (vs:=aP) (T:=56) (cp':= .row 56 (J.take k++aP++J.drop k) fM) Tryz.underlying67 cM (IM (p:=p) (lo:=k) (cap:=fM) (size:=aj.size aJ) (by omega) (ab rfl)) (Oo (i:=1) (ab rfl) rfl a2) (Nat.min_eq_left (by omega)) rfl rfl (fun A W o cells h dc=>Wp aw h dc) ?_)
 refine ai.nil (ae.next (ag.seq (ag.cm (ai.v (cV (ab rfl)) rfl rfl rfl (ai.v (ew (ab rfl)) rfl rfl rfl (ai.nil (ae.next (ag.ret ?_))))))))
 have cK:J.length+aP.length - 0=(J.take k++aP++J.drop k).length:=by simp; omega
 rw [x9,cK]
 exact ae.gr (some p,fM) (.cons_cons _ (List.nil_sublist _)) rfl rfl (ej rfl)
theorem SX {J:cL} {ah:aJ} {cu:Nat} {iE:Option Nat} {iF:Nat} {r:Bool×cL} (h:zy J ah=some r):b9 Tryz.prog 232 [I.eq (.pointer (some ⟨cu,0,none⟩)),I.of (ah)] [⟨some cu,.cj (({ J with ch:= [] } :cL):cL) [(10,aS iE J.ch.length iF)]⟩,⟨iE,.row 56 (J.ch:List aJ) iF⟩] (δ:=(Option Nat×Nat)) (fun d=>I.of (r.1)) (fun d=>[⟨some cu,.cj (({ r.2 with ch:= [] } :cL):cL) [(10,aS d.1 (r.2.ch).length d.2)]⟩,⟨d.1,.row 56 (r.2.ch:List aJ) d.2⟩]):=by
 unfold zy at h
 refine b9.of Tryz.func232 rfl Tryz.ntmps232 rfl fun W A=>?_
 refine aC (b7 fun a4=>?_)
 refine aM ?_
 refine bD (aC (aB ?_))
 refine bh (E9 Tryz.underlying131 (ab rfl)) ?_
 refine aB ?_
 refine dE cV ?_
 refine dE (aU mX) ?_
 refine eI (fun hb=>fa (i:=0) ((aN.id aJ).comp lx) (r:=ah.cH) bE (cJ rfl hb) rfl rfl rfl) ?_
 obtain⟨aD,bo,h⟩:=au h
 refine eI (fun hb=>cf.Zr (β:=cL) (γ:=aJ) (b':=(J:cL)) ((aN.id cL).comp xC) 1 2 0 rfl rfl rfl rfl rfl rfl ud (cf.Qc 1 rfl ud (cf.Qd (z:=(J:cL)) 1 11 rfl (fun _ _ _ h=>h.1 hb) rfl ud (hZ PU (S3 (gN bo hb)) ⟨ab rfl,cJ rfl hb,trivial⟩)))) ?_
 refine jw kf ?_
 refine rV ?_
 refine aL (cg h (fun h=>?_) fun h=>?_)
 ·refine aC (aM ?_)
  refine aL (ag.ret (ae.ret (ae.bI 2 rfl (ae.bI 2 rfl ?_))))
  obtain rfl:=aH h
  exact kW (iE,iF)
 refine cO (aC (aB ?_))
 refine bh (Zs (ab rfl)) ?_
 refine aM ?_
 refine bD ?_
 obtain⟨aK,cb,h⟩:=au h
 refine jk [0,1,3,4,5,8,9,10,11,12,13,14,15,16,17,18] ?_
 refine ag.kP mixed (bg 20 [] [] _::bg 21 (0::[]) [] _::bg 22 (1::[]) [] _::bg 23 (2::[]) (1::[]) _::bg 24 [] (0::[]) _::bg 25 [] [] _::bg 26 (3::4::5::[]) (1::2::[]) _::bg 19 (6::[]) [] _::bg 27 (7::[]) [] _::bg 28 (7::[]) [] _::bg 6 (8::[]) [] _::bg 7 (9::[]) [] _::[]) _ (0::1::3::4::5::8::9::10::11::12::13::14::15::16::17::18::[]) rfl rfl (by kernel_rfl) ⟨fP,fy dV,fy (aU sy),cz fun hd E' ax aG ar=>ho (i:=1) (q:=0) (β:=cL) (γ:=aJ) qq (ab (aG _ _ rfl)) (ar 1 _ rfl rfl) rfl,lG 0 cM,fP,cz fun hd E' ax aG ar=>cf.XU (β:=cL) (γ:=aJ) (b':=(J:cL)) ((aN.id cL).comp xC) 1 2 0 23 rfl (ar 1 _ rfl rfl) (ar 2 _ rfl rfl) rfl rfl rfl (aG _ _ rfl) (HK ud Er) (cf.Qc 1 (Kl (Ru rfl (ar 1 _ rfl rfl))) (HK ud Er) (cf.XV (F:=(fun fJ dA=>xw J fJ dA)) 1 25 (aG _ _ rfl) (Kl (Kl (Ru rfl (ar 1 _ rfl rfl)))) Zt (fun _ _ _ h=>SW h) (HK ud Er) (hZ Zu (Sq cb) ⟨ab rfl,ab (aG _ _ rfl),ab rfl,trivial⟩))),fP,cz fun hd E' ax aG ar=>lC (ab (aG _ _ rfl)) rfl,cz fun hd E' ax aG ar=>lC (ab (aG _ _ rfl)) rfl,cz fun hd E' ax aG ar=>ew (ab (aG _ _ rfl)),cz fun hd E' ax aG ar=>ew (ab (aG _ _ rfl)),trivial⟩ fun fj=>?_
 refine ae.ez (L2:= [⟨some a4,.var (ah:aJ)⟩,⟨some cu,.cj (({ J with ch:= [] } :cL):cL) [(10,aS iE J.ch.length iF)]⟩,⟨iE,.row 56 (J.ch:List aJ) iF⟩]) rfl (km [0,1,3,4,5,6,7,8,9,10,11,12,13,14,15,16,17,18,19,20,21,22,23,24,25,26,27,28] ?_)
 refine ae.next (ag.seq ?_)
 obtain⟨bb,dR,h⟩:=au h
 obtain⟨bJ,e2,h⟩:=au h
 refine ag.uJ 1 (jk [0,1,3,4,5,6,7,8,9,10,11,12,13,14,15,16,17,18,19,20,21,22,23,24,25,26,27,28] ?_)
 refine ag.kP mixed (bg 29 [] [] _::bg 30 [] [] _::bg 31 (1::[]) [] _::bg 32 (2::[]) [] _::bg 33 (3::[]) (1::[]) _::bg 34 [] [] _::bg 35 [] (0::[]) _::bg 36 (6::[]) [] _::⟨some 37,(7::[]),(3::[]),(3::[]),fun hd=>I.eq (aS (hd 8 0) [bb].length 1),fun hd _=>⟨(hd 8 0),.row 56 ([bb]:List aJ) 1⟩⟩::⟨some 38,(4::5::8::[]),(2::3::[]),(2::3::[]),fun hd=>I.eq (aS (hd 9 0) bJ.length ((hd 9 1).getD 0)),fun hd j=>bif Nat.beq j 2 then⟨(hd 9 0),.row 56 (bJ:List aJ) ((hd 9 1).getD 0)⟩ else⟨none,.dead⟩⟩::bg 39 (0::[]) [] _::bg 40 (10::[]) [] _::⟨none,(4::9::11::[]),(1::[]),(1::[]),fun _=>I.any,fun hd _=>⟨some cu,.cj (({ J with ch:= [] } :cL):cL) [(10,aS (hd 9 0) bJ.length ((hd 9 1).getD 0))]⟩⟩::[]) _ (0::1::3::4::5::6::7::8::9::10::11::12::13::14::15::16::17::18::19::20::21::22::23::24::25::26::27::28::[]) rfl rfl (by kernel_rfl) ⟨fP,fP,fy dV,fy (aU sy),cz fun hd E' ax aG ar=>ho (i:=1) (q:=0) (β:=cL) (γ:=aJ) qq (ab (aG _ _ rfl)) (ar 1 _ rfl rfl) rfl,fP,lG 0 cM,cz fun hd E' ax aG ar=>hZ B1 (Ac dR) ⟨ab (aG _ _ rfl),trivial⟩,?_,?_,fy dV,fy (aU sy),?_,trivial⟩ fun jJ=>?_
 ·intro hd E' ax aG ar
  refine ai.pN (α:=aJ) (r:= [bb]) Tryz.underlying67 cM gx rfl rfl (.cons (by simp) (ab (aG _ _ rfl)) (.nil)) rfl fun gD=>?_
  exact ai.nil (ae.place 3 (ar 3 _ rfl rfl) (ae.fin (eP [gD]) rfl rfl))
 ·intro hd E' ax aG ar
  refine ai.XW (fun q=>⟨q.1,.row 56 (bJ:List aJ) q.2⟩) 2 3 Zv (Sr e2) ⟨ab (aG _ _ rfl),ab (aG _ _ rfl),ab (aG _ _ rfl),trivial⟩ rfl (ar 2 _ rfl rfl) (ar 3 _ rfl rfl) (fun _=>rfl) rfl fun⟨kj,fC⟩=>?_
  exact ai.nil (ae.fin (eP [kj,some fC]) rfl rfl)
 ·intro hd E' ax aG ar
  exact ai.iP (i:=1) (γ:=aJ) (b':=(({ J with ch:= [] } :cL):cL)) (os':= [(10,aS (hd 9 0) bJ.length ((hd 9 1).getD 0))]) ((aN.id cL).comp xC) qq (ab (aG _ _ rfl)) (ab (aG _ _ rfl)) h9 (ar 1 _ rfl rfl) rfl rfl rfl (ai.nil (ae.fin (eP []) rfl rfl))
 refine ae.ez (L2:= [⟨some a4,.var (ah:aJ)⟩,⟨some cu,.cj (({ J with ch:= [] } :cL):cL) [(10,aS (jJ 9 0) bJ.length ((jJ 9 1).getD 0))]⟩,⟨(jJ 9 0),.row 56 (bJ:List aJ) ((jJ 9 1).getD 0)⟩,⟨none,.dead⟩]) rfl (km [0,1,3,4,5,6,7,8,9,10,11,12,13,14,15,16,17,18,19,20,21,22,24,25,26,27,28,29,30,31,32,34,35,36,38,39,40] ?_)
 refine ae.bI 3 rfl (ae.next (aC (aM ?_)))
 refine aL (ag.ret (ae.bI 3 rfl (ae.bI 3 rfl ?_)))
 obtain rfl:=aH h
 exact kW ((jJ 9 0),((jJ 9 1).getD 0))
theorem TM {J:a3} {ah:List aJ} {aP:Int} {r:bc×(List bc)×Int} (h:z5 J ah aP=some r):bw Tryz.prog 60 [I.of (J),I.of (ah),I.of (aP)] (I.ep [I.of (r.1),I.of (r.2.1),I.of (r.2.2)]):=by
 unfold z5 at h
 refine bw.ofM Tryz.func60 rfl Tryz.ntmps60 rfl fun W A=>?_
 refine aC (b7 fun a4=>?_)
 refine b7 fun ba=>?_
 refine cC jh fun ck=>?_
 refine bh (ew (look_nil (α:=bc))) ?_
 refine aM ?_
 refine bW (aB ?_)
 refine ai.share (α:=Int) 1 5 rfl rfl (bh (vW (F:=(fun fJ=>DE fJ aP)) (τs:= [I.ptr aP]) aa9 ⟨ab rfl,trivial⟩ (fun _ _ h=>S1 h)) ?_)
 obtain⟨aD,bo,h⟩:=au h
 refine du JI (GX bo) ?_
 refine aM ?_
 refine bD (aC (aB ?_))
 refine bj ea ?_
 refine aL (cg h (fun h=>?_) fun h=>?_)
 ·refine aC (hg yy jh (default:bc) .nil ?_)
  refine b8 0 dI ?_
  refine bh (ew (look_nil (α:=bc))) ?_
  refine aM ?_
  refine aL (ag.ret (ae.ret ?_))
  obtain rfl:=aH h
  exact ae.wL (ae.BS rfl (fw 0 dI) (l5 rfl) (l5 rfl))
 refine cO (ag.seq ?_)
 obtain⟨aZ,cq,h⟩:=au h
 obtain⟨aK,cb,h⟩:=au h
 refine ag.draw mixed 8 [some 21,some 22,some 23,some 24,some 25,some 26,some 27,some 28] [[],[],[],[1,2],[3],[4],[5],[0,6]] [.val _,.val _,.val _,.val _,.val _,.val _,.val _,.val _] [false,false,false,false,false,false,false,false] (by kernel_rfl) rfl rfl rfl (fun cx=>⟨eG 2 gv,ct,ct,kX cq Tryz.underlying67 cM,oy j9 la,oy rh vX,H1 (da bE),eH FL (D2 cb),trivial⟩) fun cx=>?_
 refine aM ?_
 refine bD (aC (aB ?_))
 refine bj kf ?_
 refine aB ?_
 refine dE (aU mY) ?_
 refine eI (fun hb=>fa (i:=2) ((aN.id a3).comp mU) (r:=J.bt) mz (cJ rfl hb) rfl rfl rfl) ?_
 refine dE cV ?_
 obtain⟨bP,c6,h⟩:=au h
 refine eI (fun hb=>ql (k:=bP) Tryz.underlying27 gu (cJ rfl hb) (cJ rfl hb) (bZ (gN c6 hb))) ?_
 refine eI (fun hb=>BF jZ k8 (cJ rfl hb) rfl rfl) ?_
 refine dE (da kQ) ?_
 obtain⟨bb,dR,h⟩:=au h
 refine eI (fun hb=>hZ aba (Sw (gN dR hb)) ⟨cJ rfl hb,NF abb (fun _ _=>S2),trivial⟩) ?_
 refine iG ?_
 refine aL (cg h (fun h=>?_) fun h=>?_)
 ·refine aC (hg yy jh (default:bc) .nil ?_)
  refine b8 0 dI ?_
  refine bh (ew (look_nil (α:=bc))) ?_
  refine aM ?_
  refine aL (ag.ret (ae.ret ?_))
  obtain rfl:=aH h
  exact ae.wL (ae.BS rfl (fw 0 dI) (l5 rfl) (l5 rfl))
 refine cO (ag.seq ?_)
 obtain⟨cT,fe,h⟩:=au h
 obtain⟨bJ,e2,h⟩:=au h
 refine ag.draw mixed 12 [some 42,some 43,some 44,some 45,some 46,some 47,some 48,some 41,some 49,some 50,some 11,none] [[],[],[],[1,2],[3],[4],[0,5],[6],[7],[7],[],[8,10]] [.val _,.val _,.val _,.val _,.val _,.val _,.val _,.val _,.val _,.val _,.new (.var (default:bc)),.mH 10 (.var (bJ.1:bc))] [false,false,false,false,false,false,false,false,false,false,false,true] (by kernel_rfl) rfl rfl rfl (fun hh=>⟨eG 2 gv,ct,ct,kX fe Tryz.underlying67 cM,oy j9 la,H1 (da hN),eH Q2 (Ng e2),ct,uV,uV,sv jh,⟨rfl,_,rfl,fun ax q hq=>rC (i:=q) (aN.id bc) (v:=(bJ.1:bc)) (b':=(bJ.1:bc)) dI (ab rfl) (ab rfl) hq rfl rfl⟩,trivial⟩) fun hh=>?_
 refine aM ?_
 refine bW (ai.n9 (z:=(default:List bc)) [0] W6 Zw rfl fun eW=>?_)
 refine ai.own (α:=bc) 142 (bD (ag.seq ?_))
 obtain⟨eY,hy,h⟩:=au h
 obtain⟨bq,gG,h⟩:=au h
 refine ag.draw mixed 7 [some 51,some 52,some 53,some 54,some 55,some 56,some 57] [[],[],[],[],[2,3],[4],[0,1,5]] [.val _,.val _,.val _,.val _,.val _,.val _,.val _] [false,false,false,false,false,false,false] (by kernel_rfl) rfl rfl rfl (fun pT=>⟨eG 5 gv,ct,ct,ct,kX hy Tryz.underlying67 cM,H1 (da cM),eH abc (TO gG),trivial⟩) fun pT=>?_
 refine aL (ag.block ?_)
 obtain⟨ay,ao,h⟩:=au h
 refine NG (γ:=(Option Nat×Nat)) (g0:=(none,0)) (Lin:= []) (Ls:=fun s1 av=>[⟨av.1,.row 142 (s1.1:List bc) av.2⟩,⟨some eW,.cj (s1.2:List bc) [(0,aS av.1 s1.1.length av.2)]⟩,⟨some (hh 10),.var (bJ.1:bc)⟩,⟨some ck,.var ((default:bc):bc)⟩,⟨none,.dead⟩,⟨some a4,.var (J:a3)⟩]) (Lx:=fun aA av=>Empty.elim aA) (fun aA=>Empty.elim aA) rfl Zx rfl Th ao rfl rfl (fun mK s1 r h av kY k2 kZ l D rec qF=>?_) (fun s1 aQ av D=>?_) (fun aA aQ av D=>?_)
 ·refine ag.cm (cC jh fun jd=>?_)
  refine b8 0 dI ?_
  refine ai.nil (ae.begin 1 rfl qF ?_)
  refine ag.block (ag.cm (bh (ho (i:=4) (q:=0) (β:=List bc) (γ:=bc) Jp (ab rfl) rfl rfl) ?_))
  refine cr 0 dI ?_
  refine gV [mK] Tryz.underlying143 dI jh ?_
  obtain⟨b6,gH,h⟩:=au h
  refine jI 3 Tryz.underlying143 dI jh gH fun gD fC=>?_
  refine ai.iP (i:=4) (γ:=bc) (b':=([]:List bc)) (os':= [(0,aS gD b6.length fC)]) (aN.id (List bc)) Jp (ab rfl) (ab rfl) h9 rfl rfl rfl rfl (ai.nil (ae.dB ?_))
  obtain rfl:=aH h
  exact ae.Ga (gD,fC) 1 rfl
 ·clear ao; subst aQ; simp only [Sum.elim_inl] at h
  refine ae.ez (L2:= [⟨some D,.dx⟩,⟨av.1,.row 142 (s1.1:List bc) av.2⟩,⟨some eW,.cj (s1.2:List bc) [(0,aS av.1 s1.1.length av.2)]⟩,⟨some (hh 10),.var (bJ.1:bc)⟩,⟨some ck,.var ((default:bc):bc)⟩,⟨none,.dead⟩,⟨some a4,.var (J:a3)⟩]) rfl (ae.dB (ae.next (ag.seq (ag.draw mixed 3 [some 63,some 64,none] [[],[],[0]] [.val _,.val _,.kF 4 (.var (bJ.1:bc))] [false,false,true] (by kernel_rfl) rfl rfl rfl (fun Cn=>⟨eG 3 dI,c1 fun ax ar=>ho (i:=2) (q:=0) (β:=List bc) (γ:=bc) Jp (ab rfl) (ar _ _ rfl (by kernel_rfl)) rfl,⟨_,_,rfl,fun ax ar=>rC (i:=4) (aN.id bc) (v:=(bJ.1:bc)) (b':=(bJ.1:bc)) dI (ab rfl) (ab rfl) (ar _ _ rfl) rfl rfl⟩,trivial⟩) fun Cn=>?_))))
  refine aM ?_
  refine aM ?_
  refine aL (ag.ret (ae.BH (β:=List bc) (γ:=bc) (b':=(s1.1:List bc)) (aN.id (List bc)) 2 1 0 7 rfl rfl rfl rfl rfl rfl rfl (ae.o0 2 rfl ?_)))
  obtain rfl:=aH h
  refine ae.s6 0 rfl rfl ?_
  exact ae.BS rfl (fw 4 dI) (l5 rfl) (l5 rfl)
 exact Empty.elim aA
theorem SG {J:cL} {ah:Vector an 4} {cu:Nat} {iE:Option Nat} {iF:Nat} {r:aJ×Bool} (h:xt J ah=some r):b9 Tryz.prog 231 [I.eq (.pointer (some ⟨cu,0,none⟩)),I.of (ah)] [⟨some cu,.cj (({ J with ch:= [] } :cL):cL) [(10,aS iE J.ch.length iF)]⟩,⟨iE,.row 56 (J.ch:List aJ) iF⟩] (δ:=Unit) (fun d=>I.ep [I.of (r.1),I.of (r.2)]) (fun d=>[⟨some cu,.cj (({ J with ch:= [] } :cL):cL) [(10,aS iE (J.ch).length iF)]⟩,⟨iE,.row 56 (J.ch:List aJ) iF⟩]):=by
 unfold xt at h
 refine b9.ofM Tryz.func231 rfl Tryz.ntmps231 rfl fun W A=>?_
 refine aC (b7 fun a4=>?_)
 refine cC gx fun ba=>?_
 refine cC F9 fun ck=>?_
 refine bD (aC (aB ?_))
 refine bh (E9 Tryz.underlying131 (ab rfl)) ?_
 refine aL (ag.rG (ab rfl) rfl (cO (ag.seq (aC (aB ?_)))))
 refine cr 2 dW ?_
 obtain⟨aD,bo,h⟩:=au h
 refine du Zy (SL bo) ?_
 refine aL (ag.block (ag.bI 4 rfl (ag.bI 4 rfl ?_)))
 obtain⟨ay,ao,h⟩:=au h
 refine NG (γ:=Unit) (g0:=()) (Lin:= [⟨some cu,.cj (({ J with ch:= [] } :cL):cL) [(10,aS iE J.ch.length iF)]⟩,⟨iE,.row 56 (J.ch:List aJ) iF⟩]) (Ls:=fun s1 av=>[⟨some ck,.var ((default:Bool):Bool)⟩,⟨some ba,.var ((default:aJ):aJ)⟩,⟨some a4,.var (ah:Vector an 4)⟩]) (Lx:=fun aA av=>[⟨some ck,.var (aA.1:Bool)⟩,⟨some ba,.var (aA.2:aJ)⟩,⟨some a4,.var (ah:Vector an 4)⟩]) (fun aA=>.ret) rfl Zz rfl Sv ao rfl rfl (fun mK s1 r h av kY k2 kZ l D rec qF=>?_) (fun s1 aQ av D=>?_) (fun aA aQ av D=>?_)
 ·refine ag.cm (cC gx fun eW=>?_)
  refine b8 0 cM ?_
  refine ai.nil (ae.begin 1 rfl qF ?_)
  refine ag.block (aC (cr 0 cM ?_))
  obtain⟨aK,cb,h⟩:=au h
  refine du B1 (Ac cb) ?_
  refine b8 4 cM ?_
  refine b8 3 gF ?_
  refine aL (ag.ret (ae.dz ?_))
  obtain rfl:=aH h
  exact ae.IK () 1 rfl rfl rfl
 ·clear ao; subst aQ; simp only [Sum.elim_inl] at h
  refine ae.ez (L2:= [⟨some D,.dx⟩,⟨some cu,.cj (({ J with ch:= [] } :cL):cL) [(10,aS iE J.ch.length iF)]⟩,⟨iE,.row 56 (J.ch:List aJ) iF⟩,⟨some ck,.var ((default:Bool):Bool)⟩,⟨some ba,.var ((default:aJ):aJ)⟩,⟨some a4,.var (ah:Vector an 4)⟩]) rfl (ae.dB (ae.next (aC (hg wM gx (default:aJ) .nil ?_))))
  refine b8 4 cM ?_
  refine b8 3 gF ?_
  refine aL (ag.ret (ae.bI 2 rfl (ae.bI 2 rfl ?_)))
  obtain rfl:=aH h
  refine ae.s6 2 rfl rfl ?_
  exact ae.kN () (.cons_cons _ (.cons_cons _ (List.nil_sublist _))) rfl rfl (j2 (i:=4) cM rfl rfl) (j2 (i:=3) gF rfl rfl)
 clear ao; subst aQ; simp only [Sum.elim_inr] at h
 refine ag.ret (ae.ez (L2:= [⟨some D,.dx⟩,⟨some cu,.cj (({ J with ch:= [] } :cL):cL) [(10,aS iE J.ch.length iF)]⟩,⟨iE,.row 56 (J.ch:List aJ) iF⟩,⟨some ck,.var (aA.1:Bool)⟩,⟨some ba,.var (aA.2:aJ)⟩,⟨some a4,.var (ah:Vector an 4)⟩]) rfl (ae.dz (ae.ret (ae.bI 2 rfl (ae.bI 2 rfl ?_)))))
 obtain rfl:=aH h
 refine ae.s6 2 rfl rfl ?_
 exact ae.kN () (.cons_cons _ (.cons_cons _ (List.nil_sublist _))) rfl rfl (j2 (i:=4) cM rfl rfl) (j2 (i:=3) gF rfl rfl)
theorem TF {hp:a1 Cell} {J:Ref} {ah:an} {aP:Int} {r:Bool×(a1 Cell)} (h:xH hp J ah aP=some r):b9 Tryz.prog 210 [I.of (J),I.of (ah),I.of (aP)] ([]++a8 hp) (δ:=Unit) (fun d=>I.of (r.1)) (fun d=>[]++a8 r.2):=by
 unfold xH at h
 refine b9.ofM Tryz.func210 rfl Tryz.ntmps210 rfl fun W A=>?_
 refine aC (b7 fun a4=>?_)
 refine aM ?_
 refine bD (aC (aB ?_))
 refine cr 0 bG ?_
 refine aB ?_
 obtain⟨aD,bo,h⟩:=au h
 refine ai.jC (gJ.kO 1 rfl Qa (Ms bo) ⟨ab rfl,ab rfl,ab rfl,trivial⟩) rfl rfl rfl ?_
 refine aB ?_
 refine eO ?_
 refine eO ?_
 refine aM ?_
 refine aM ?_
 refine bW (aB ?_)
 refine aY hL ?_
 refine aL (cg h (fun h=>?_) fun h=>?_)
 ·refine aC (aM ?_)
  refine aL (ag.ret (ae.ret ?_))
  obtain rfl:=aH h
  exact ae.wL (ae.gr () (.cons _ (.refl _)) rfl rfl (ej rfl))
 refine cO (aC (aB ?_))
 obtain⟨cG,dF,h⟩:=au h
 refine bh (dV (eL (ab rfl) dF)) ?_
 refine aY (aU sC) ?_
 obtain⟨bY,ed,h⟩:=au h
 refine bh (gd ((aN.id fK).comp sg) (r:=bY.cQ) ek (ab rfl) (fk (n:=1) rfl (mv ed) rfl) rfl rfl) ?_
 refine ai.pN (α:=Ref) (r:= [bY.cQ]) Tryz.underlying309 ek wq rfl rfl (.cons (by simp) (ab rfl) (.nil)) rfl fun gD=>?_
 refine ai.n9 (z:=(default:List Ref)) [0] W7 ZA rfl fun ba=>?_
 refine ai.own (α:=Ref) 299 (ai.n9 (z:=(default:List Int)) [0] XX abd rfl fun ck=>?_)
 refine ai.own (α:=Int) 3 (ai.iP (i:=3) (γ:=Ref) (b':=([]:List Ref)) (os':= [(0,aS gD [bY.cQ].length 1)]) (aN.id (List Ref)) uG (ab rfl) (ab rfl) h9 rfl rfl rfl rfl (ai.own (α:=Int) 3 (ai.iP (i:=2) (γ:=Int) (b':=([]:List Int)) (os':= [(0,aS none ([]:List Int).length 0)]) (aN.id (List Int)) kU (ab rfl) (qb) h9 rfl rfl rfl rfl (bD (aC (aB ?_))))))
 refine cr 6 bG ?_
 refine aB ?_
 obtain⟨aK,cb,h⟩:=au h
 refine du Fy (D0 cb) ?_
 refine aL (ag.block ?_)
 obtain⟨ay,ao,h⟩:=au h
 refine HJ (hp:=hp) (γ:=(Option Nat×Nat)×(Option Nat×Nat)) (g0:=((none,0),(gD,1))) (Ls:=fun s1 av=>(⟨av.1.1,.row 3 (s1.1:List Int) av.1.2⟩::⟨none,.row 3 (([]:List Int):List Int) 0⟩::⟨some ck,.cj ([]:List Int) [(0,aS av.1.1 s1.1.length av.1.2)]⟩::⟨none,.row 299 (([]:List Ref):List Ref) 0⟩::⟨some ba,.cj ([]:List Ref) [(0,aS av.2.1 s1.2.length av.2.2)]⟩::⟨av.2.1,.row 299 (s1.2:List Ref) av.2.2⟩::⟨some a4,.var (ah:an)⟩::a8 hp)) (Lx:=fun aA av=>Empty.elim aA) (fun s1 av=>[⟨av.1.1,.row 3 (s1.1:List Int) av.1.2⟩,⟨none,.row 3 (([]:List Int):List Int) 0⟩,⟨some ck,.cj ([]:List Int) [(0,aS av.1.1 s1.1.length av.1.2)]⟩,⟨none,.row 299 (([]:List Ref):List Ref) 0⟩,⟨some ba,.cj ([]:List Ref) [(0,aS av.2.1 s1.2.length av.2.2)]⟩,⟨av.2.1,.row 299 (s1.2:List Ref) av.2.2⟩,⟨some a4,.var (ah:an)⟩]) (fun aA=>Empty.elim aA) rfl Fz rfl Hc ao (fun _ _=>rfl) rfl rfl (fun mK s1 r h av kY k2 kZ l D rec qF=>?_) (fun s1 aQ av D=>?_) (fun aA aQ av D=>?_)
 ·refine ag.cm (aM ?_)
  refine ai.nil (ae.begin 0 rfl qF ?_)
  refine ag.block ?_
  obtain⟨aZ,cq,h⟩:=au h
  obtain⟨cv,fx,h⟩:=au h
  obtain⟨bP,c6,h⟩:=au h
  obtain⟨cN,fI,h⟩:=au h
  obtain⟨bb,dR,h⟩:=au h
  obtain⟨bJ,e2,h⟩:=au h
  refine jk [0,1,2,4,6,7,8,9,10,11,14,15,16,17,18,19,20,21,22,23,24,25,26,28,29,30,31,32] ?_
  refine ag.qk 9 mixed (bg 33 [] (6::[]) _::bg 34 [] (6::[]) _::bg 35 [] (6::[]) _::bg 36 (2::[]) (7::[]) _::bg 37 (3::[]) [] _::bg 38 (1::3::4::[]) (7::[]) _::bg 39 (3::5::[]) (7::[]) _::bg 40 [] [] _::bg 41 (3::5::6::[]) [] _::bg 42 (3::5::6::8::[]) [] _::bg 43 (3::5::6::7::9::[]) [] _::⟨some 44,(3::5::6::10::[]),[],[],fun _=>I.of (br cN.c8 bP),fun _ _=>⟨none,.dead⟩⟩::bg 45 (3::5::6::11::[]) [] _::⟨some 46,(0::3::5::6::12::[]),(7::[]),(7::[]),fun hd=>I.eq (aS (hd 13 0) bb.length ((hd 13 1).getD 0)),fun hd _=>⟨(hd 13 0),.row 299 (bb:List Ref) ((hd 13 1).getD 0)⟩⟩::bg 47 [] (4::[]) _::bg 48 [] [] _::bg 49 (15::[]) [] _::⟨some 50,(14::16::[]),(2::[]),(2::[]),fun hd=>I.eq (aS (hd 17 0) bJ.length ((hd 17 1).getD 0)),fun hd _=>⟨(hd 17 0),.row 3 (bJ:List Int) ((hd 17 1).getD 0)⟩⟩::⟨none,(0::1::2::13::[]),(6::[]),(6::[]),fun _=>I.any,fun hd _=>⟨some ba,.cj ([]:List Ref) [(0,aS (hd 13 0) bb.length ((hd 13 1).getD 0))]⟩⟩::⟨none,(14::17::[]),(4::[]),(4::[]),fun _=>I.any,fun hd _=>⟨some ck,.cj ([]:List Int) [(0,aS (hd 17 0) bJ.length ((hd 17 1).getD 0))]⟩⟩::[]) _ (0::1::2::4::6::7::8::9::10::11::14::15::16::17::18::19::20::21::22::23::24::25::26::28::29::30::31::32::[]) rfl rfl (by kernel_rfl) (by kernel_rfl) ⟨cI.q (cz fun hd E' ax aG ar=>ho (i:=6) (q:=0) (β:=List Ref) (γ:=Ref) uG (ab (aG _ _ rfl)) (ar 6 _ rfl rfl) rfl),cI.q (cz fun hd E' ax aG ar=>ho (i:=6) (q:=0) (β:=List Ref) (γ:=Ref) uG (ab (aG _ _ rfl)) (ar 6 _ rfl rfl) rfl),cI.q (cz fun hd E' ax aG ar=>ho (i:=6) (q:=0) (β:=List Ref) (γ:=Ref) uG (ab (aG _ _ rfl)) (ar 6 _ rfl rfl) rfl),cI.q (cz fun hd E' ax aG ar=>oU (i:=7) Tryz.underlying309 (ab (aG _ _ rfl)) rfl (ar 7 _ rfl rfl)),cI.q (zb kg),cI.q (cz fun hd E' ax aG ar=>l2 (i:=7) (k:=aZ) (xs:=(s1.2:List Ref)) Tryz.underlying309 ek (ab (aG _ _ rfl)) (ab (aG _ _ rfl)) (ar 7 _ rfl rfl) (bZ cq)),cI.q (cz fun hd E' ax aG ar=>pA (i:=7) (k:=aZ) (aN.id Ref) (r:=(az s1.2 aZ)) ek (ab (aG _ _ rfl)) (ar 7 _ rfl rfl) (bZ cq).1 rfl rfl),cI.q (fP),cI.q (cz fun hd E' ax aG ar=>dV (eL (ab (aG _ _ rfl)) fx)),cI.q (fy (aU ry)),cI.q (cz fun hd E' ax aG ar=>eb (k:=bP) sQ (ab (aG _ _ rfl)) (ab (aG _ _ rfl)) (bZ c6)),?_,cI.q (cz fun hd E' ax aG ar=>jv (r:= [br cN.c8 bP]) Tryz.underlying309 ek wq rfl rfl (.cons (by simp) (ab (aG _ _ rfl)) (.nil))),?_,cI.q (cz fun hd E' ax aG ar=>ho (i:=4) (q:=0) (β:=List Int) (γ:=Int) kU (ab (aG _ _ rfl)) (ar 4 _ rfl rfl) rfl),cI.q (fP),cI.q (cz fun hd E' ax aG ar=>jv (r:= [mK]) Tryz.underlying41 bE h0 rfl rfl (.cons (by simp) (ab (aG _ _ rfl)) (.nil))),?_,?_,?_,trivial⟩ fun fj=>?_
  ·intro hd E' ax aG ar dw
   refine bh (gd (((aN.id dM).comp rf).comp (aN.idx (α:=Ref) 2 bP (bZ c6).1)) (r:=br cN.c8 bP) ek (ab (aG _ _ rfl)) (fk (n:=9) (dw.trans rfl) (ju fI) rfl) rfl rfl) ?_
   exact ai.nil (ae.fin (eP []) rfl rfl)
  ·intro hd E' ax aG ar dw
   refine ai.app (i:=7) Tryz.underlying309 ek wq (bytes:=8) (by kernel_rfl) (ab (aG _ _ rfl)) (ar 7 _ rfl rfl) (ab (aG _ _ rfl)) dR rfl fun kj fC=>?_
   exact ai.nil (ae.fin (eP [kj,some fC]) rfl rfl)
  ·intro hd E' ax aG ar dw
   refine ai.app (i:=2) Tryz.underlying41 bE h0 (bytes:=8) (by kernel_rfl) (ab (aG _ _ rfl)) (ar 2 _ rfl rfl) (ab (aG _ _ rfl)) e2 rfl fun hf hD=>?_
   exact ai.nil (ae.fin (eP [hf,some hD]) rfl rfl)
  ·intro hd E' ax aG ar dw
   exact ai.iP (i:=6) (γ:=Ref) (b':=([]:List Ref)) (os':= [(0,aS (hd 13 0) bb.length ((hd 13 1).getD 0))]) (aN.id (List Ref)) uG (ab (aG _ _ rfl)) (ab (aG _ _ rfl)) h9 (ar 6 _ rfl rfl) rfl rfl rfl (ai.nil (ae.fin (eP []) rfl rfl))
  ·intro hd E' ax aG ar dw
   exact ai.iP (i:=4) (γ:=Int) (b':=([]:List Int)) (os':= [(0,aS (hd 17 0) bJ.length ((hd 17 1).getD 0))]) (aN.id (List Int)) kU (ab (aG _ _ rfl)) (ab (aG _ _ rfl)) h9 (ar 4 _ rfl rfl) rfl rfl rfl (ai.nil (ae.fin (eP []) rfl rfl))
  refine ae.ez (L2:=(⟨some l,.is (.loop { rec with state:= .busy })⟩::⟨some D,.dx⟩::⟨(fj 17 0),.row 3 (bJ:List Int) ((fj 17 1).getD 0)⟩::⟨none,.row 3 (([]:List Int):List Int) 0⟩::⟨some ck,.cj ([]:List Int) [(0,aS (fj 17 0) bJ.length ((fj 17 1).getD 0))]⟩::⟨none,.row 299 (([]:List Ref):List Ref) 0⟩::⟨some ba,.cj ([]:List Ref) [(0,aS (fj 13 0) bb.length ((fj 13 1).getD 0))]⟩::⟨(fj 13 0),.row 299 (bb:List Ref) ((fj 13 1).getD 0)⟩::⟨some a4,.var (ah:an)⟩::a8 hp)) rfl (km [0,1,2,4,6,7,8,9,10,11,14,15,16,17,18,19,20,21,22,23,24,25,26,28,29,30,31,32,36,37,39,40,41,42,43,44,45,46,48,49,50] ?_)
  refine ae.dB ?_
  obtain rfl:=aH h
  exact ae.Ga (((fj 17 0),((fj 17 1).getD 0)),((fj 13 0),((fj 13 1).getD 0))) 0 rfl
 ·clear ao; subst aQ; simp only [Sum.elim_inl] at h
  refine ae.ez (L2:=(⟨some D,.dx⟩::⟨av.1.1,.row 3 (s1.1:List Int) av.1.2⟩::⟨none,.row 3 (([]:List Int):List Int) 0⟩::⟨some ck,.cj ([]:List Int) [(0,aS av.1.1 s1.1.length av.1.2)]⟩::⟨none,.row 299 (([]:List Ref):List Ref) 0⟩::⟨some ba,.cj ([]:List Ref) [(0,aS av.2.1 s1.2.length av.2.2)]⟩::⟨av.2.1,.row 299 (s1.2:List Ref) av.2.2⟩::⟨some a4,.var (ah:an)⟩::a8 hp)) rfl (ae.dB (ae.next (aC (bh (ho (i:=5) (q:=0) (β:=List Ref) (γ:=Ref) uG (ab rfl) rfl rfl) ?_))))
  refine aB ?_
  obtain⟨cT,fe,h⟩:=au h
  refine bh (l2 (i:=6) (k:=cT) (xs:=(s1.2:List Ref)) Tryz.underlying309 ek (ab rfl) (ab rfl) rfl (bZ fe)) ?_
  refine bh (pA (i:=6) (k:=cT) (aN.id Ref) (r:=(az s1.2 cT)) ek (ab rfl) rfl (bZ fe).1 rfl rfl) ?_
  refine aM ?_
  refine bW (aB ?_)
  refine aB ?_
  obtain⟨lP,rY,h⟩:=au h
  refine bh (dV (eL (ab rfl) rY)) ?_
  refine aY (aU rv) ?_
  obtain⟨e4,lJ,h⟩:=au h
  obtain⟨de,kT,h⟩:=au h
  refine ai.oa (k':=Cell.gk ({ e4 with dP:=false } :dM)) 8 rfl ((aN.id dM).comp ri) (v:=(false:Bool)) gF (ab rfl) (gi false) (ju lJ) rfl rfl rfl rfl (aH kT) (bh (dV (eL (ab rfl) rY)) ?_)
  refine aY (aU A6) ?_
  obtain⟨oE,Cp,h⟩:=au h
  obtain⟨dk,uK,h⟩:=au h
  refine ai.oa (k':=Cell.gk ({ oE with hO:=0 } :dM)) 8 rfl ((aN.id dM).comp z4) (v:=(0:Int)) bE (ab rfl) (bU 0) (ju Cp) rfl rfl rfl rfl (aH uK) (bD (aC (aB ?_)))
  refine bj kg ?_
  refine aM ?_
  refine aL (ag.block ?_)
  obtain⟨aO,ao,h⟩:=au h
  refine ag.qm (σ:=Int×(a1 Cell)) (ε:=(Int×Bool×(a1 Cell))) (γ:=Unit) (δ:=Unit) ao (fun s2 aW=>[(0,I.of (J)),(1,I.of (ah)),(2,I.of (aP)),(4,I.eq (.pointer (some ⟨a4,0,none⟩))),(6,I.of (false)),(8,I.of (aD.2)),(9,I.eq (.pointer (some ⟨ba,0,none⟩))),(10,I.eq (.pointer (some ⟨ck,0,none⟩))),(12,I.of (az s1.2 cT)),(13,I.of (s2.1)),(22,I.of (!aD.2)),(31,I.gU 220 [I.ptr aK.1,I.ptr aK.2.1,I.ptr aK.2.2])]) (fun s2 aW=>(⟨some D,.dx⟩::⟨av.1.1,.row 3 (s1.1:List Int) av.1.2⟩::⟨none,.row 3 (([]:List Int):List Int) 0⟩::⟨some ck,.cj ([]:List Int) [(0,aS av.1.1 s1.1.length av.1.2)]⟩::⟨none,.row 299 (([]:List Ref):List Ref) 0⟩::⟨some ba,.cj ([]:List Ref) [(0,aS av.2.1 s1.2.length av.2.2)]⟩::⟨av.2.1,.row 299 (s1.2:List Ref) av.2.2⟩::⟨some a4,.var (ah:an)⟩::a8 s2.2)) (fun cU=>Exit.exit 2) (fun cU aW=>[(0,I.of (J)),(1,I.of (ah)),(2,I.of (aP)),(4,I.eq (.pointer (some ⟨a4,0,none⟩))),(6,I.of (false)),(8,I.of (aD.2)),(9,I.eq (.pointer (some ⟨ba,0,none⟩))),(10,I.eq (.pointer (some ⟨ck,0,none⟩))),(12,I.of (az s1.2 cT)),(13,I.of (cU.1)),(22,I.of (!aD.2)),(31,I.gU 220 [I.ptr aK.1,I.ptr aK.2.1,I.ptr aK.2.2]),(72,I.of (cU.2.1))]) (fun cU aW=>(⟨some D,.dx⟩::⟨av.1.1,.row 3 (s1.1:List Int) av.1.2⟩::⟨none,.row 3 (([]:List Int):List Int) 0⟩::⟨some ck,.cj ([]:List Int) [(0,aS av.1.1 s1.1.length av.1.2)]⟩::⟨none,.row 299 (([]:List Ref):List Ref) 0⟩::⟨some ba,.cj ([]:List Ref) [(0,aS av.2.1 s1.2.length av.2.2)]⟩::⟨av.2.1,.row 299 (s1.2:List Ref) av.2.2⟩::⟨some a4,.var (ah:an)⟩::a8 cU.2.2)) () rfl .all (fun s2 r h aW=>?_) (fun aW=>?_)
  ·refine ag.seq (aC (aB ?_))
   refine bj kf ?_
   refine aB ?_
   refine eI (fun hb=>ho (i:=5) (q:=0) (β:=List Ref) (γ:=Ref) uG (ab rfl) rfl rfl) ?_
   refine dE cV ?_
   refine jw dd ?_
   obtain⟨eY,hy,h⟩:=au h
   refine eI (fun hb=>l2 (i:=6) (k:=eY) (xs:=(s1.2:List Ref)) Tryz.underlying309 ek (cJ rfl hb) (cJ rfl hb) rfl (bZ (gN hy hb))) ?_
   refine eI (fun hb=>pA (i:=6) (k:=eY) (aN.id Ref) (r:=(az s1.2 eY)) ek (cJ rfl hb) rfl (bZ (gN hy hb)).1 rfl rfl) ?_
   obtain⟨bq,gG,h⟩:=au h
   refine ai.adR (fun hb=>gJ.kO 8 rfl Qe (Mk (gN gG hb)) ⟨cJ rfl hb,trivial⟩) rfl rfl rfl rfl rfl ?_
   refine iG ?_
   refine aL (cg h (fun h=>?_) fun h=>?_)
   ·refine cO (ag.seq (ag.block ?_))
    obtain⟨h7,mG,h⟩:=au h
    obtain⟨mR,uX,h⟩:=au h
    obtain⟨q5,Km,h⟩:=au h
    refine jk [0,1,2,4,6,8,9,10,12,13,22,31,63,64,65,66,67,68,69,70,71,72] ?_
    refine ag.yF 10 8 mixed (bg 75 [] (5::[]) _::bg 76 [] [] _::bg 77 (0::1::[]) (6::[]) _::bg 78 (2::[]) (6::[]) _::bg 79 [] (3::[]) _::bg 80 [] [] _::bg 81 (4::5::[]) (1::[]) _::bg 82 (6::[]) (1::[]) _::bg 83 (3::[]) [] _::bg 84 (8::[]) [] _::[]) _ (0::1::2::4::6::8::9::10::12::13::22::31::63::64::65::66::67::68::69::70::71::72::[]) rfl rfl (by kernel_rfl) (by kernel_rfl) ⟨cI.q (cz fun hd E' ax aG ar=>ho (i:=5) (q:=0) (β:=List Ref) (γ:=Ref) uG (ab (aG _ _ rfl)) (ar 5 _ rfl rfl) rfl),cI.q (fP),cI.q (cz fun hd E' ax aG ar=>l2 (i:=6) (k:=h7) (xs:=(s1.2:List Ref)) Tryz.underlying309 ek (ab (aG _ _ rfl)) (ab (aG _ _ rfl)) (ar 6 _ rfl rfl) (bZ mG)),cI.q (cz fun hd E' ax aG ar=>pA (i:=6) (k:=h7) (aN.id Ref) (r:=(az s1.2 h7)) ek (ab (aG _ _ rfl)) (ar 6 _ rfl rfl) (bZ mG).1 rfl rfl),cI.q (cz fun hd E' ax aG ar=>ho (i:=3) (q:=0) (β:=List Int) (γ:=Int) kU (ab (aG _ _ rfl)) (ar 3 _ rfl rfl) rfl),cI.q (fP),cI.q (cz fun hd E' ax aG ar=>l2 (i:=1) (k:=mR) (xs:=(s1.1:List Int)) Tryz.underlying41 bE (ab (aG _ _ rfl)) (ab (aG _ _ rfl)) (ar 1 _ rfl rfl) (bZ uX)),cI.q (cz fun hd E' ax aG ar=>pA (i:=1) (k:=mR) (aN.id Int) (r:=(az s1.1 mR)) bE (ab (aG _ _ rfl)) (ar 1 _ rfl rfl) (bZ uX).1 rfl rfl),cI.q (cz fun hd E' ax aG ar=>dV (eL (ab (aG _ _ rfl)) Km)),cI.q (fy (aU ry)),trivial⟩ fun jJ=>?_
    refine ai.ez (L2:=(⟨some D,.dx⟩::⟨av.1.1,.row 3 (s1.1:List Int) av.1.2⟩::⟨none,.row 3 (([]:List Int):List Int) 0⟩::⟨some ck,.cj ([]:List Int) [(0,aS av.1.1 s1.1.length av.1.2)]⟩::⟨none,.row 299 (([]:List Ref):List Ref) 0⟩::⟨some ba,.cj ([]:List Ref) [(0,aS av.2.1 s1.2.length av.2.2)]⟩::⟨av.2.1,.row 299 (s1.2:List Ref) av.2.2⟩::⟨some a4,.var (ah:an)⟩::a8 s2.2)) rfl (ai.le (E':= [(0,I.of (J)),(1,I.of (ah)),(2,I.of (aP)),(4,I.eq (.pointer (some ⟨a4,0,none⟩))),(6,I.of (false)),(8,I.of (aD.2)),(9,I.eq (.pointer (some ⟨ba,0,none⟩))),(10,I.eq (.pointer (some ⟨ck,0,none⟩))),(12,I.of (az s1.2 cT)),(13,I.of (s2.1)),(22,I.of (!aD.2)),(31,I.gU 220 [I.ptr aK.1,I.ptr aK.2.1,I.ptr aK.2.2]),(63,I.of (s2.1)),(64,I.of (decide (s2.1≥0))),(65,I.of (decide (s2.1≥0))),(66,I.cond ((decide (s2.1≥0))=true) (I.eq (aS av.2.1 s1.2.length av.2.2))),(67,I.cond ((decide (s2.1≥0))=true) (I.of (s2.1))),(68,I.cond ((decide (s2.1≥0))=true) (I.of (bs (s2.1+1)))),(69,I.cond ((decide (s2.1≥0))=true) (I.eq (.pointer (some ⟨av.2.1.getD 0,eY * 1,none⟩)))),(70,I.cond ((decide (s2.1≥0))=true) (I.of (az s1.2 eY))),(71,I.cond ((decide (s2.1≥0))=true) (I.of (bq))),(72,I.of ((decide (s2.1≥0))&&bq)),(75,I.eq (aS av.2.1 s1.2.length av.2.2)),(76,I.of (s2.1)),(77,I.eq (.pointer (some ⟨av.2.1.getD 0,h7 * 1,none⟩))),(78,I.of (az s1.2 h7)),(79,I.eq (aS av.1.1 s1.1.length av.1.2)),(80,I.of (s2.1)),(81,I.eq (.pointer (some ⟨av.1.1.getD 0,mR * 1,none⟩))),(82,I.of (az s1.1 mR)),(83,I.eq (.pointer (some ⟨q5,0,none⟩))),(84,I.eq (.pointer (some ⟨q5,0+0,none⟩)))]) .all ?_)
    obtain⟨Cq,Q3,h⟩:=au h
    refine bh (eb (k:=Cq) sQ (ab rfl) (ab rfl) (bZ Q3)) ?_
    obtain⟨pk,Cr,h⟩:=au h
    obtain⟨hi,B2,h⟩:=au h
    refine ai.oa (k':=Cell.gk ({ pk with c8:=c5 pk.c8 Cq (none:Ref) } :dM)) 8 rfl (((aN.id dM).comp rf).comp (aN.idx (α:=Ref) 2 Cq (bZ Q3).1)) (v:=((none:Ref):Ref)) ek (ab rfl) (rl) (ju Cr) rfl rfl rfl rfl (aH B2) (ai.nil (ae.dB (ae.next (ag.cm (aB ?_)))))
    refine bj kg ?_
    refine aM ?_
    refine ai.nil ?_
    obtain rfl:=aH h
    exact fc () 0
   refine ag.exit (ae.exit ?_)
   obtain rfl:=aH h
   exact dY () 0
  refine ae.e1 (ae.next (ag.seq (aC (aB ?_))))
  refine bh (dV (eL (ab rfl) dF)) ?_
  refine aY (aU sC) ?_
  obtain⟨lQ,qG,h⟩:=au h
  refine bh (gd ((aN.id fK).comp sg) (r:=lQ.cQ) ek (ab rfl) (fk (n:=8) rfl (mv qG) rfl) rfl rfl) ?_
  obtain⟨b6,gH,h⟩:=au h
  refine ai.jC (gJ.kO 8 rfl Qe (Mk gH) ⟨ab rfl,trivial⟩) rfl rfl rfl ?_
  refine aL ?_
  obtain⟨bx,cy,h⟩:=au h
  refine ag.c0 (γ:=Unit) (fun bB=>[(0,I.of (J)),(1,I.of (ah)),(2,I.of (aP)),(4,I.eq (.pointer (some ⟨a4,0,none⟩))),(6,I.of (false)),(8,I.of (aD.2)),(9,I.eq (.pointer (some ⟨ba,0,none⟩))),(10,I.eq (.pointer (some ⟨ck,0,none⟩))),(12,I.of (az s1.2 cT)),(13,I.of (aO.1)),(22,I.of (!aD.2)),(31,I.gU 220 [I.ptr aK.1,I.ptr aK.2.1,I.ptr aK.2.2]),(72,I.of (aO.2.1)),(90,I.of (b6))]) (fun bB=>(⟨some D,.dx⟩::⟨av.1.1,.row 3 (s1.1:List Int) av.1.2⟩::⟨none,.row 3 (([]:List Int):List Int) 0⟩::⟨some ck,.cj ([]:List Int) [(0,aS av.1.1 s1.1.length av.1.2)]⟩::⟨none,.row 299 (([]:List Ref):List Ref) 0⟩::⟨some ba,.cj ([]:List Ref) [(0,aS av.2.1 s1.2.length av.2.2)]⟩::⟨av.2.1,.row 299 (s1.2:List Ref) av.2.2⟩::⟨some a4,.var (ah:an)⟩::a8 bx)) (ab rfl) (fun bB=>?_) (fun hm al=>?_) (fun hm al=>?_)
  ·refine ae.next (aC (aM ?_))
   refine aL (ag.ret ?_)
   obtain rfl:=aH h
   refine ae.s6 0 rfl rfl ?_
   exact ae.gr () (.cons _ (.cons _ (.cons _ (.cons _ (.cons _ (.cons _ (.cons _ (.cons _ (.refl _))))))))) rfl rfl (ej rfl)
  ·have h:=gQ al cy
   refine ag.cm (aB ?_)
   refine bh (dV (eL (ab rfl) dF)) ?_
   refine aY (aU sC) ?_
   obtain⟨uY,JS,h⟩:=au h
   refine ai.oa (k':=Cell.j4 ({ lQ with cQ:=(none:Ref) } :fK)) 8 rfl ((aN.id fK).comp sg) (v:=((none:Ref):Ref)) ek (ab rfl) (rl) (mv qG) rfl rfl rfl rfl (aH JS) (ai.nil ?_)
   obtain rfl:=aH h
   exact dq 0 (hm ())
  have h:=gR al cy
  refine ag.skip ?_
  obtain rfl:=aH h
  exact dq 0 (hm ())
 exact Empty.elim aA
theorem UB {J:aJ} {ah:aJ} {r:Bool} (h:Aw J ah=some r):bw Tryz.prog 22 [I.of (J),I.of (ah)] (I.of (r)):=by
 unfold Aw at h
 refine bw.of Tryz.func22 rfl Tryz.ntmps22 rfl fun W A=>?_
 refine aC (b7 fun a4=>?_)
 refine b7 fun ba=>?_
 refine aM ?_
 refine bW (aY (aU la) ?_)
 refine cc 1 j9 hN ?_
 refine aY (aU la) ?_
 refine cc 0 j9 hN ?_
 obtain⟨aD,bo,h⟩:=au h
 refine du abe (UA bo) ?_
 refine aB ?_
 refine dE (aU mX) ?_
 refine eI (fun hb=>fa (i:=1) ((aN.id aJ).comp lx) (r:=J.cH) bE (cJ rfl hb) rfl rfl rfl) ?_
 refine dE (aU mX) ?_
 refine eI (fun hb=>fa (i:=0) ((aN.id aJ).comp lx) (r:=ah.cH) bE (cJ rfl hb) rfl rfl rfl) ?_
 refine jw gf ?_
 refine iG ?_
 refine aB ?_
 refine dE (aU O2) ?_
 refine eI (fun hb=>fa (i:=1) ((aN.id aJ).comp L0) (r:=J.vQ) bE (cJ rfl hb) rfl rfl rfl) ?_
 refine dE (aU O2) ?_
 refine eI (fun hb=>fa (i:=0) ((aN.id aJ).comp L0) (r:=ah.vQ) bE (cJ rfl hb) rfl rfl rfl) ?_
 refine jw gf ?_
 refine iG ?_
 refine aM ?_
 refine aL (ag.ret ?_)
 obtain rfl:=aH h
 exact cX
theorem Mc {hp:a1 Cell} {y:gM} {J:bC} {r:Int×Bool} (h:DL hp y J=some r):kM Tryz.prog "matchguard/index.find" (I.of y) [I.of (J)] ([]++a8 hp) (δ:=Unit) (fun _=>I.ep [I.of (r.1),I.of (r.2)]) (fun _=>[]++a8 hp):=by
 cases y with
 | nil=>cases h
 | mA z=>exact kM.of Vy (fun A W u hu=>Es hu) (To h)
 | mB z=>exact kM.of Vz (fun A W u hu=>Et hu) (S8 h)
 | mC z=>exact kM.of VA (fun A W u hu=>Eu hu) (Tv h)
theorem TG {hp:a1 Cell} {J:jD} {ah:aJ} {Q:(a1 Cell)→Prop} (h:z2 hp J ah Q):b9 Tryz.prog 227 [I.of (J),I.of (ah)] ([]++a8 hp) (δ:= {r:(a1 Cell) // Q r}×Unit) (fun d=>I.ep []) (fun d=>[]++a8 d.1.1):=by
 unfold z2 at h
 refine b9.of Tryz.func227 rfl Tryz.ntmps227 rfl fun W A=>?_
 refine aC (b7 fun a4=>?_)
 refine b7 fun ba=>?_
 refine aL (ag.cm (aY (aU EP) ?_))
 refine cc 1 zW BI ?_
 refine cr 0 cM ?_
 obtain⟨cG,dF,h⟩:=aI.c2 h
 obtain⟨bY,ed,h⟩:=aI.c2 h
 obtain⟨aD,bo,h⟩:=aI.c2 h
 refine ai.sa (gn.obj 2 (fun q:Option Nat×Nat=>Cell.rQ aD.2 q.1 q.2) rfl (uv ed) ZB (SX bo) rfl (fun _=>rfl) ⟨eL (ab rfl) dF,ab rfl,trivial⟩) rfl rfl rfl fun aA=>?_
 replace h:=aI.any_bind h aA
 obtain⟨de,kT,h⟩:=aI.c2 h
 refine ai.ez (L2:=(⟨some ba,.var (ah:aJ)⟩::⟨some a4,.var (J:jD)⟩::a8 de)) (by rw [← aH kT]; rfl) ?_
 exact ai.nil (ae.ou (ae.lD (⟨⟨de,h⟩,()⟩: {r // _}×_) (.cons _ (.cons _ (.refl _))) rfl rfl))
theorem Ht {J:a3} {ah:List aJ} {aP:Int} {r:Bool×Int} (h:vv J ah aP=some r):bw Tryz.prog 17 [I.of (J),I.of (ah),I.of (aP)] (I.ep [I.of (r.1),I.of (r.2)]):=by
 unfold vv at h
 refine bw.of Tryz.func17 rfl Tryz.ntmps17 rfl fun W A=>?_
 refine aC (b7 fun a4=>?_)
 refine aM ?_
 refine aM ?_
 refine bW (cr 0 gv ?_)
 refine aB ?_
 refine aB ?_
 obtain⟨aD,bo,h⟩:=au h
 refine du abf (TM bo) ?_
 refine aB ?_
 refine eO ?_
 refine eO ?_
 refine eO ?_
 refine cC jh fun ba=>?_
 refine b8 0 dI ?_
 refine aM ?_
 refine aM ?_
 refine bD (aC (aB ?_))
 refine bj sP ?_
 refine aL (cg h (fun h=>?_) fun h=>?_)
 ·refine aC (aB ?_)
  refine aM ?_
  refine aM ?_
  refine aL (ag.ret (ae.ret ?_))
  obtain rfl:=aH h
  exact wU
 refine cO (aC (cr 0 dI ?_))
 refine aB ?_
 obtain⟨aK,cb,h⟩:=au h
 refine du abg (T9 cb) ?_
 refine eO ?_
 refine eO ?_
 refine aM ?_
 refine aM ?_
 refine aL (ag.ret ?_)
 obtain rfl:=aH h
 exact wU
theorem S9 {hp:a1 Cell} {J:jD} {ah:Vector an 4} {r:Int×Bool} (h:zE hp J ah=some r):b9 Tryz.prog 226 [I.of (J),I.of (ah)] ([]++a8 hp) (δ:=Unit) (fun _=>I.ep [I.of (r.1),I.of (r.2)]) (fun _=>[]++a8 hp):=by
 unfold zE at h
 refine b9.of Tryz.func226 rfl Tryz.ntmps226 rfl fun W A=>?_
 refine aC (b7 fun a4=>?_)
 refine b7 fun ba=>?_
 refine aM ?_
 refine aM ?_
 refine bW (aY (aU EP) ?_)
 refine cc 1 zW BI ?_
 refine cr 0 dW ?_
 obtain⟨cG,dF,h⟩:=au h
 obtain⟨bY,ed,h⟩:=au h
 obtain⟨aD,bo,h⟩:=au h
 refine ai.jC (gJ.obj 2 rfl (uv ed) ZC (SG bo) rfl ⟨eL (ab rfl) dF,ab rfl,trivial⟩) rfl rfl rfl ?_
 refine aB ?_
 refine eO ?_
 refine eO ?_
 refine cC gx fun ck=>?_
 refine b8 0 cM ?_
 refine aM ?_
 refine bW (aY (aU mX) ?_)
 refine cc 0 lx bE ?_
 refine aB ?_
 refine aM ?_
 refine aM ?_
 refine aL (ag.ret ?_)
 obtain rfl:=aH h
 exact ae.kN () (.cons _ (.cons _ (.cons _ (.refl _)))) rfl rfl (ej rfl) (ej rfl)
theorem SP {hp:a1 Cell} {J:gZ} {ah:aJ} {r:(a1 Cell)} (h:zw hp J ah=some r):b9 Tryz.prog 203 [I.of (J),I.of (ah)] ([]++a8 hp) (δ:=Unit) (fun d=>I.ep []) (fun d=>[]++a8 r):=by
 unfold zw at h
 refine b9.of Tryz.func203 rfl Tryz.ntmps203 rfl fun W A=>?_
 refine aC (b7 fun a4=>?_)
 refine b7 fun ba=>?_
 refine bW (cr 1 Bv ?_)
 refine aY (aU la) ?_
 refine cc 0 j9 hN ?_
 obtain⟨aD,bo,h⟩:=au h
 refine du Jo (G1 bo) ?_
 refine aB ?_
 refine eO ?_
 refine eO ?_
 refine eO ?_
 refine cC wk fun ck=>?_
 refine cC en fun eW=>?_
 refine b8 1 kx ?_
 refine b8 0 bG ?_
 refine aM ?_
 refine bD ?_
 obtain⟨cG,dF,h⟩:=au h
 obtain⟨bY,ed,h⟩:=au h
 obtain⟨bH,dt,h⟩:=au h
 refine ag.draw mixed 6 [some 15,some 16,some 17,some 18,some 19,some 20] [[],[0],[],[1,2],[],[]] [.val _,.val _,.val _,.val _,.val _,.val _] [false,false,false,false,false,false] (by kernel_rfl) rfl rfl rfl (fun cx=>⟨H1 (aU sF),dg 3 re rL,eG 1 kx,c1 fun ax ar=>vP (r:=bH) Tryz.underlying128 uF yD (mV (ab rfl) dF) (ab rfl) (kB (fun i e q=>ar i e q rfl) (fk (n:=4) rfl (mw ed) rfl)) (aH dt),eG 0 bG,ct,trivial⟩) fun cx=>?_
 obtain⟨aK,cb,h⟩:=au h
 refine ai.m1 4 0 rfl ZD (TF cb) rfl rfl ⟨ab rfl,ab rfl,ab rfl,trivial⟩ rfl fun aA=>?_
 refine ai.ez (L2:=(⟨some eW,.var (aD.2.1:an)⟩::⟨some ck,.var (aD.1:Vector an 4)⟩::⟨some ba,.var (ah:aJ)⟩::⟨some a4,.var (J:gZ)⟩::a8 aK.2)) rfl (bW (aY (aU sF) ?_))
 refine cc 3 re rL ?_
 refine cr 1 kx ?_
 obtain⟨cN,fI,h⟩:=au h
 obtain⟨dn,hx,h⟩:=au h
 refine bh (vP (r:=dn) Tryz.underlying128 uF yD (mV (ab rfl) dF) (ab rfl) (fk (n:=4) rfl (mw fI) rfl) (aH hx)) ?_
 obtain⟨bb,dR,h⟩:=au h
 refine ai.jC (gJ.kO 4 rfl ZE (T4 dR) ⟨ab rfl,trivial⟩) rfl rfl rfl ?_
 refine bj gf ?_
 refine aL ?_
 obtain⟨bx,cy,h⟩:=au h
 refine ag.c0 (γ:=Unit) (fun av=>[(0,I.of (J)),(1,I.of (ah)),(2,I.eq (.pointer (some ⟨a4,0,none⟩))),(3,I.eq (.pointer (some ⟨ba,0,none⟩))),(4,I.eq (.pointer (some ⟨ck,0,none⟩))),(5,I.eq (.pointer (some ⟨eW,0,none⟩))),(6,I.of (aD.2.2)),(27,I.of (bb==0))]) (fun av=>(⟨some eW,.var (aD.2.1:an)⟩::⟨some ck,.var (aD.1:Vector an 4)⟩::⟨some ba,.var (ah:aJ)⟩::⟨some a4,.var (J:gZ)⟩::a8 bx)) (ab rfl) (fun av=>?_) (fun hm al=>?_) (fun hm al=>?_)
 ·refine ae.ou ?_
  obtain rfl:=aH h
  exact ae.lD () (.cons _ (.cons _ (.cons _ (.cons _ (.refl _))))) rfl rfl
 ·have h:=gQ al cy
  refine ag.cm (aY (aU sF) ?_)
  refine cc 3 re rL ?_
  refine cr 1 kx ?_
  obtain⟨de,kT,h⟩:=au h
  refine ai.I9 (k':=Cell.l7 (ir cN aD.1)) 4 rfl Tryz.underlying128 uF (mV (ab rfl) dF) (ab rfl) (mw fI) rfl rfl rfl (aH kT) (ai.nil ?_)
  obtain rfl:=aH h
  exact dq 0 (hm ())
 have h:=gR al cy
 refine ag.skip ?_
 obtain rfl:=aH h
 exact dq 0 (hm ())
theorem Ua {hp:a1 Cell} {J:Ref} {ah:an} {aP:Int} {b5:Int} {Q:Bool×(a1 Cell)→Prop} (h:xR hp J ah aP b5 Q):b9 Tryz.prog 209 [I.of (J),I.of (ah),I.of (aP),I.of (b5)] ([]++a8 hp) (δ:= {r:Bool×(a1 Cell) // Q r}×Unit) (fun d=>I.of (d.1.1.1)) (fun d=>[]++a8 d.1.1.2):=by
 unfold xR at h
 refine b9.ofM Tryz.func209 rfl Tryz.ntmps209 rfl fun W A=>?_
 refine aC (b7 fun a4=>?_)
 refine aM ?_
 refine bD (aC (aB ?_))
 refine cr 0 bG ?_
 refine aB ?_
 obtain⟨aD,bo,h⟩:=aI.c2 h
 refine ai.jC (gJ.kO 1 rfl P3 (Mi bo) ⟨ab rfl,ab rfl,ab rfl,trivial⟩) rfl rfl rfl ?_
 refine aY hL ?_
 refine aL (ag.cond (ab rfl) (fun al=>?_) (fun al=>?_))
 ·replace h:=qd al h
  refine aC (aM ?_)
  exact aL (ag.ret (ae.ret (ae.wL (ae.gr (⟨⟨(false,hp),h⟩,()⟩: {r // _}×_) (.cons _ (.refl _)) rfl rfl (ej rfl)))))
 replace h:=qe al h
 refine cO (ag.seq (aC (aB ?_)))
 refine cr 0 bG ?_
 refine aB ?_
 obtain⟨aK,cb,h⟩:=aI.c2 h
 refine ai.jC (gJ.kO 1 rfl P5 (Mo cb) ⟨ab rfl,ab rfl,ab rfl,trivial⟩) rfl rfl rfl ?_
 refine aM ?_
 refine bW (aB ?_)
 refine bh (Ep Tryz.underlying299 (ab rfl)) ?_
 refine aB ?_
 refine dE cV ?_
 obtain⟨cG,dF,h⟩:=aI.c2 h
 refine eI (fun hb=>dV (eL (cJ rfl hb) (gN dF hb))) ?_
 refine dE (aU rv) ?_
 obtain⟨bY,ed,h⟩:=aI.c2 h
 refine eI (fun hb=>gd ((aN.id dM).comp ri) (r:=bY.dP) gF (cJ rfl hb) (fk (n:=1) rfl (ju (gN ed hb)) rfl) rfl rfl) ?_
 refine iG ?_
 refine aL (ag.cond (ab rfl) (fun al=>?_) (fun al=>?_))
 ·replace h:=qd al h
  refine aC (aM ?_)
  exact aL (ag.ret (ae.ret (ae.wL (ae.gr (⟨⟨(false,hp),h⟩,()⟩: {r // _}×_) (.cons _ (.refl _)) rfl rfl (ej rfl)))))
 replace h:=qe al h
 refine cO (ag.seq (aC (aB ?_)))
 obtain⟨cv,fx,h⟩:=aI.c2 h
 refine bh (dV (eL (ab rfl) fx)) ?_
 refine aY (aU sC) ?_
 obtain⟨cN,fI,h⟩:=aI.c2 h
 refine bh (gd ((aN.id fK).comp sg) (r:=cN.cQ) ek (ab rfl) (fk (n:=1) rfl (mv fI) rfl) rfl rfl) ?_
 refine bh (oR Tryz.underlying299 (ab rfl)) ?_
 refine aL (ag.yp (γ:=Unit) h (fun bx av=>[(0,I.of (J)),(1,I.of (ah)),(2,I.of (aP)),(3,I.of (b5)),(5,I.eq (.pointer (some ⟨a4,0,none⟩))),(8,I.of (false)),(9,I.of (aK)),(16,I.of (!aD)),(28,I.of (aK.isSome&&bY.dP)),(33,I.of (cN.cQ.isNone))]) (fun bx av=>(⟨some a4,.var (ah:an)⟩::a8 bx)) (ab rfl) (fun bx av h=>?_) (fun hm al h=>?_) (fun hm al h=>?_))
 ·refine ae.next (aC (aB ?_))
  refine bh (dV (eL (ab rfl) fx)) ?_
  refine aY (aU sC) ?_
  obtain⟨e4,lJ,h⟩:=aI.c2 h
  refine bh (gd ((aN.id fK).comp sg) (r:=e4.cQ) ek (ab rfl) (fk (n:=1) rfl (mv lJ) rfl) rfl rfl) ?_
  refine cC wq fun ba=>?_
  refine b8 0 ek ?_
  refine bD (aC (aB ?_))
  refine cr 1 bG ?_
  refine aB ?_
  obtain⟨bb,dR,h⟩:=aI.c2 h
  refine du Fy (D0 dR) ?_
  refine aL (ag.block (VB (σ:=Ref×(a1 Cell)) (ε:=Empty) (γ:=Unit) (g0:=()) (Ls:=fun s2 bB=>(⟨some ba,.var (s2.1:Ref)⟩::⟨some a4,.var (ah:an)⟩::a8 s2.2)) (Lx:=fun cU bB=>Empty.elim cU) (hq:=fun s2=>s2.2) (fun s2 bB=>[⟨some ba,.var (s2.1:Ref)⟩,⟨some a4,.var (ah:an)⟩]) (fun cU=>Empty.elim cU) rfl Fz rfl Tg h (fun _ _=>rfl) rfl rfl (fun yX s2 R h bB kY k2 kZ l D rec qF=>?_) (fun s2 h bB D=>?_) (fun cU h bB D=>?_)))
  ·refine ag.cm (aM ?_)
   refine ai.nil (ae.begin 0 rfl qF ?_)
   refine ag.block (ag.seq (aC (cr 2 ek ?_)))
   refine aB ?_
   obtain⟨lP,rY,h⟩:=aI.c2 h
   refine bh (dV (eL (ab rfl) rY)) ?_
   refine aY (aU ry) ?_
   obtain⟨aZ,cq,h⟩:=aI.c2 h
   refine bh (eb (k:=aZ) sQ (ab rfl) (ab rfl) (bZ cq)) ?_
   obtain⟨oE,Cp,h⟩:=aI.c2 h
   refine bh (gd (((aN.id dM).comp rf).comp (aN.idx (α:=Ref) 2 aZ (bZ cq).1)) (r:=br oE.c8 aZ) ek (ab rfl) (fk (n:=4) rfl (ju Cp) rfl) rfl rfl) ?_
   refine bh (oR Tryz.underlying299 (ab rfl)) ?_
   refine aL (ag.yp (γ:=Unit) h (fun cY cn=>[(0,I.of (J)),(1,I.of (ah)),(2,I.of (aP)),(3,I.of (b5)),(5,I.eq (.pointer (some ⟨a4,0,none⟩))),(8,I.of (false)),(9,I.of (aK)),(10,I.eq (.pointer (some ⟨ba,0,none⟩))),(11,I.of (yX)),(16,I.of (!aD)),(28,I.of (aK.isSome&&bY.dP)),(33,I.of (cN.cQ.isNone)),(46,I.gU 220 [I.ptr bb.1,I.ptr bb.2.1,I.ptr bb.2.2]),(47,I.of (yX)),(54,I.of ((br oE.c8 aZ).isNone))]) (fun cY cn=>(⟨some l,.is (.loop { rec with state:= .busy })⟩::⟨some D,.dx⟩::⟨some ba,.var (s2.1:Ref)⟩::⟨some a4,.var (ah:an)⟩::a8 cY)) (ab rfl) (fun cY cn h=>?_) (fun hm al h=>?_) (fun hm al h=>?_))
   ·refine ae.next (ag.cm (cr 2 ek ?_))
    refine aB ?_
    refine bh (dV (eL (ab rfl) rY)) ?_
    refine aY (aU ry) ?_
    obtain⟨bP,c6,h⟩:=aI.c2 h
    refine bh (eb (k:=bP) sQ (ab rfl) (ab rfl) (bZ c6)) ?_
    obtain⟨pk,Cr,h⟩:=aI.c2 h
    refine bh (gd (((aN.id dM).comp rf).comp (aN.idx (α:=Ref) 2 bP (bZ c6).1)) (r:=br pk.c8 bP) ek (ab rfl) (fk (n:=4) rfl (ju Cr) rfl) rfl rfl) ?_
    refine b8 2 ek ?_
    exact ai.nil (ae.dB (ae.abh h () 0 rfl))
   ·refine ag.cm (cr 2 ek ?_)
    refine aB ?_
    refine hg Qf Qg (default:dM) .nil ?_
    refine ai.BR 4 rfl (Cell.gk (default:dM)) (fun _=>rfl) (ab rfl) rfl fun dA wV=>?_
    replace h:=aI.uh h dA wV
    refine bh (dV (eL (ab rfl) rY)) ?_
    refine aY (aU ry) ?_
    obtain⟨cT,fe,h⟩:=aI.c2 h
    refine bh (eb (k:=cT) sQ (ab rfl) (ab rfl) (bZ fe)) ?_
    obtain⟨lQ,qG,h⟩:=aI.c2 h
    obtain⟨de,kT,h⟩:=aI.c2 h
    exact ai.oa (k':=Cell.gk ({ lQ with c8:=c5 lQ.c8 cT (some dA.1:Ref) } :dM)) 4 rfl (((aN.id dM).comp rf).comp (aN.idx (α:=Ref) 2 cT (bZ fe).1)) (v:=((some dA.1:Ref):Ref)) ek (ab rfl) (ab rfl) (ju qG) rfl rfl rfl rfl (aH kT) (ai.nil (dq 0 (hm de () h)))
   exact ag.skip (dq 0 (hm s2.2 () h))
  ·simp only [Sum.elim_inl] at h
   refine ae.ez (L2:=(⟨some D,.dx⟩::⟨some ba,.var (s2.1:Ref)⟩::⟨some a4,.var (ah:an)⟩::a8 s2.2)) rfl (ae.dB (ae.next (ag.seq ?_)))
   obtain⟨ks,Gd,h⟩:=aI.c2 h
   obtain⟨zc,Ge,h⟩:=aI.c2 h
   obtain⟨dk,uK,h⟩:=aI.c2 h
   refine ag.ZF mixed 9 (lg 9 0) rfl rfl (dj.cut (γ:=Unit) 3 (lg 9 63) (fun O3=>[(0,I.of (J)),(1,I.of (ah)),(2,I.of (aP)),(3,I.of (b5)),(5,I.eq (.pointer (some ⟨a4,0,none⟩))),(8,I.of (false)),(9,I.of (aK)),(10,I.eq (.pointer (some ⟨ba,0,none⟩))),(16,I.of (!aD)),(28,I.of (aK.isSome&&bY.dP)),(33,I.of (cN.cQ.isNone)),(39,I.of (J)),(40,I.eq (.pointer (some ⟨cv,0,none⟩))),(41,I.eq (.pointer (some ⟨cv,0+1,none⟩))),(42,I.of (e4.cQ)),(43,I.of (J)),(44,I.of (ah)),(45,I.of (aP)),(46,I.gU 220 [I.ptr bb.1,I.ptr bb.2.1,I.ptr bb.2.2]),(68,I.of (s2.1)),(69,I.of (s2.1)),(70,I.of (b5)),(71,I.eq (.pointer (some ⟨ks,0,none⟩))),(72,I.eq (.pointer (some ⟨ks,0+2,none⟩)))]) (fun O3=>(⟨some D,.dx⟩::⟨some ba,.var (s2.1:Ref)⟩::⟨some a4,.var (ah:an)⟩::a8 dk)) (fun O3=>?_) (fun Jq=>?_))
   ·refine dj.tail 6 rfl (by kernel_rfl) ?_
    obtain⟨Lt,acp,h⟩:=aI.c2 h
    refine bh (dV (eL (ab rfl) acp)) ?_
    refine aY (aU A6) ?_
    obtain⟨Lu,acq,h⟩:=aI.c2 h
    obtain⟨hi,B2,h⟩:=aI.c2 h
    refine ai.oa (k':=Cell.gk ({ Lu with hO:=b5 } :dM)) 3 rfl ((aN.id dM).comp z4) (v:=(b5:Int)) bE (ab rfl) (ab rfl) (ju acq) rfl rfl rfl rfl (aH B2) (bW (aM ?_))
    refine aL (ag.ret (ae.s6 0 rfl rfl ?_))
    exact ae.gr (⟨⟨(true,hi),h⟩,()⟩: {r // _}×_) (.cons _ (.cons _ (.cons _ (.refl _)))) rfl rfl (ej rfl)
   refine dj.cut (γ:=Unit) 4 (lg 9 61) (fun O4=>[(0,I.of (J)),(1,I.of (ah)),(2,I.of (aP)),(3,I.of (b5)),(5,I.eq (.pointer (some ⟨a4,0,none⟩))),(8,I.of (false)),(9,I.of (aK)),(10,I.eq (.pointer (some ⟨ba,0,none⟩))),(16,I.of (!aD)),(28,I.of (aK.isSome&&bY.dP)),(33,I.of (cN.cQ.isNone)),(39,I.of (J)),(40,I.eq (.pointer (some ⟨cv,0,none⟩))),(41,I.eq (.pointer (some ⟨cv,0+1,none⟩))),(42,I.of (e4.cQ)),(43,I.of (J)),(44,I.of (ah)),(45,I.of (aP)),(46,I.gU 220 [I.ptr bb.1,I.ptr bb.2.1,I.ptr bb.2.2]),(68,I.of (s2.1)),(70,I.of (b5)),(71,I.eq (.pointer (some ⟨ks,0,none⟩))),(72,I.eq (.pointer (some ⟨ks,0+2,none⟩)))]) (fun O4=>(⟨some D,.dx⟩::⟨some ba,.var (s2.1:Ref)⟩::⟨some a4,.var (ah:an)⟩::a8 dk)) (fun O4=>?_) (fun Qh=>?_)
   ·refine dj.step [1] (by kernel_rfl) rfl ⟨⟨_,rfl,?_⟩,trivial⟩
    ·refine cr 1 ek ?_
     exact ai.nil (ae.any (by kernel_rfl) (dj.le .all (Jq ())))
   refine dj.cut (γ:=Unit) 4 (lg 9 59) (fun O5=>[(0,I.of (J)),(1,I.of (ah)),(2,I.of (aP)),(3,I.of (b5)),(5,I.eq (.pointer (some ⟨a4,0,none⟩))),(8,I.of (false)),(9,I.of (aK)),(10,I.eq (.pointer (some ⟨ba,0,none⟩))),(16,I.of (!aD)),(28,I.of (aK.isSome&&bY.dP)),(33,I.of (cN.cQ.isNone)),(39,I.of (J)),(40,I.eq (.pointer (some ⟨cv,0,none⟩))),(41,I.eq (.pointer (some ⟨cv,0+1,none⟩))),(42,I.of (e4.cQ)),(43,I.of (J)),(44,I.of (ah)),(45,I.of (aP)),(46,I.gU 220 [I.ptr bb.1,I.ptr bb.2.1,I.ptr bb.2.2]),(68,I.of (s2.1)),(69,I.of (s2.1)),(71,I.eq (.pointer (some ⟨ks,0,none⟩))),(72,I.eq (.pointer (some ⟨ks,0+2,none⟩)))]) (fun O5=>(⟨some D,.dx⟩::⟨some ba,.var (s2.1:Ref)⟩::⟨some a4,.var (ah:an)⟩::a8 dk)) (fun O5=>?_) (fun Qi=>?_)
   ·refine dj.step [2] (by kernel_rfl) rfl ⟨⟨_,rfl,?_⟩,trivial⟩
    ·refine aB ?_
     exact ai.nil (ae.any (by kernel_rfl) (dj.le .all (Jq ())))
   refine dj.cut (γ:=Unit) 4 (lg 9 31) (fun O6=>[(0,I.of (J)),(1,I.of (ah)),(2,I.of (aP)),(3,I.of (b5)),(5,I.eq (.pointer (some ⟨a4,0,none⟩))),(8,I.of (false)),(9,I.of (aK)),(10,I.eq (.pointer (some ⟨ba,0,none⟩))),(16,I.of (!aD)),(28,I.of (aK.isSome&&bY.dP)),(33,I.of (cN.cQ.isNone)),(39,I.of (J)),(40,I.eq (.pointer (some ⟨cv,0,none⟩))),(41,I.eq (.pointer (some ⟨cv,0+1,none⟩))),(42,I.of (e4.cQ)),(43,I.of (J)),(44,I.of (ah)),(45,I.of (aP)),(46,I.gU 220 [I.ptr bb.1,I.ptr bb.2.1,I.ptr bb.2.2]),(68,I.of (s2.1)),(69,I.of (s2.1)),(70,I.of (b5)),(71,I.eq (.pointer (some ⟨ks,0,none⟩))),(72,I.eq (.pointer (some ⟨ks,0+2,none⟩)))]) (fun O6=>(⟨some D,.dx⟩::⟨some ba,.var (s2.1:Ref)⟩::⟨some a4,.var (ah:an)⟩::a8 s2.2)) (fun O6=>?_) (fun Jr=>?_)
   ·refine dj.step [5] (by kernel_rfl) rfl ⟨⟨_,rfl,?_⟩,trivial⟩
    ·exact ai.oa (k':=Cell.gk ({ zc with dP:=true } :dM)) 3 rfl ((aN.id dM).comp ri) (v:=(true:Bool)) gF (ab rfl) (gi true) (ju Ge) rfl rfl rfl rfl (aH uK) (ai.nil (ae.any (by kernel_rfl) (dj.le .all (Jq ()))))
   refine dj.cut (γ:=Unit) 5 (lg 9 57) (fun O7=>[(0,I.of (J)),(1,I.of (ah)),(2,I.of (aP)),(3,I.of (b5)),(5,I.eq (.pointer (some ⟨a4,0,none⟩))),(8,I.of (false)),(9,I.of (aK)),(10,I.eq (.pointer (some ⟨ba,0,none⟩))),(16,I.of (!aD)),(28,I.of (aK.isSome&&bY.dP)),(33,I.of (cN.cQ.isNone)),(39,I.of (J)),(40,I.eq (.pointer (some ⟨cv,0,none⟩))),(41,I.eq (.pointer (some ⟨cv,0+1,none⟩))),(42,I.of (e4.cQ)),(43,I.of (J)),(44,I.of (ah)),(45,I.of (aP)),(46,I.gU 220 [I.ptr bb.1,I.ptr bb.2.1,I.ptr bb.2.2]),(68,I.of (s2.1)),(71,I.eq (.pointer (some ⟨ks,0,none⟩))),(72,I.eq (.pointer (some ⟨ks,0+2,none⟩)))]) (fun O7=>(⟨some D,.dx⟩::⟨some ba,.var (s2.1:Ref)⟩::⟨some a4,.var (ah:an)⟩::a8 dk)) (fun O7=>?_) (fun ZG=>?_)
   ·refine dj.step [1,2] (by kernel_rfl) rfl ⟨⟨_,rfl,?_⟩,⟨_,rfl,?_⟩,trivial⟩
    ·refine cr 1 ek ?_
     exact ai.nil (ae.any (by kernel_rfl) (dj.le .all (Qi ())))
    refine aB ?_
    exact ai.nil (ae.any (by kernel_rfl) (dj.le .all (Qh ())))
   refine dj.cut (γ:=Unit) 5 (lg 9 29) (fun O8=>[(0,I.of (J)),(1,I.of (ah)),(2,I.of (aP)),(3,I.of (b5)),(5,I.eq (.pointer (some ⟨a4,0,none⟩))),(8,I.of (false)),(9,I.of (aK)),(10,I.eq (.pointer (some ⟨ba,0,none⟩))),(16,I.of (!aD)),(28,I.of (aK.isSome&&bY.dP)),(33,I.of (cN.cQ.isNone)),(39,I.of (J)),(40,I.eq (.pointer (some ⟨cv,0,none⟩))),(41,I.eq (.pointer (some ⟨cv,0+1,none⟩))),(42,I.of (e4.cQ)),(43,I.of (J)),(44,I.of (ah)),(45,I.of (aP)),(46,I.gU 220 [I.ptr bb.1,I.ptr bb.2.1,I.ptr bb.2.2]),(68,I.of (s2.1)),(70,I.of (b5)),(71,I.eq (.pointer (some ⟨ks,0,none⟩))),(72,I.eq (.pointer (some ⟨ks,0+2,none⟩)))]) (fun O8=>(⟨some D,.dx⟩::⟨some ba,.var (s2.1:Ref)⟩::⟨some a4,.var (ah:an)⟩::a8 s2.2)) (fun O8=>?_) (fun Qj=>?_)
   ·refine dj.step [1,5] (by kernel_rfl) rfl ⟨⟨_,rfl,?_⟩,⟨_,rfl,?_⟩,trivial⟩
    ·refine cr 1 ek ?_
     exact ai.nil (ae.any (by kernel_rfl) (dj.le .all (Jr ())))
    exact ai.oa (k':=Cell.gk ({ zc with dP:=true } :dM)) 3 rfl ((aN.id dM).comp ri) (v:=(true:Bool)) gF (ab rfl) (gi true) (ju Ge) rfl rfl rfl rfl (aH uK) (ai.nil (ae.any (by kernel_rfl) (dj.le .all (Qh ()))))
   refine dj.cut (γ:=Unit) 5 (lg 9 27) (fun O9=>[(0,I.of (J)),(1,I.of (ah)),(2,I.of (aP)),(3,I.of (b5)),(5,I.eq (.pointer (some ⟨a4,0,none⟩))),(8,I.of (false)),(9,I.of (aK)),(10,I.eq (.pointer (some ⟨ba,0,none⟩))),(16,I.of (!aD)),(28,I.of (aK.isSome&&bY.dP)),(33,I.of (cN.cQ.isNone)),(39,I.of (J)),(40,I.eq (.pointer (some ⟨cv,0,none⟩))),(41,I.eq (.pointer (some ⟨cv,0+1,none⟩))),(42,I.of (e4.cQ)),(43,I.of (J)),(44,I.of (ah)),(45,I.of (aP)),(46,I.gU 220 [I.ptr bb.1,I.ptr bb.2.1,I.ptr bb.2.2]),(68,I.of (s2.1)),(69,I.of (s2.1)),(71,I.eq (.pointer (some ⟨ks,0,none⟩))),(72,I.eq (.pointer (some ⟨ks,0+2,none⟩)))]) (fun O9=>(⟨some D,.dx⟩::⟨some ba,.var (s2.1:Ref)⟩::⟨some a4,.var (ah:an)⟩::a8 s2.2)) (fun O9=>?_) (fun Qk=>?_)
   ·refine dj.step [2,5] (by kernel_rfl) rfl ⟨⟨_,rfl,?_⟩,⟨_,rfl,?_⟩,trivial⟩
    ·refine aB ?_
     exact ai.nil (ae.any (by kernel_rfl) (dj.le .all (Jr ())))
    exact ai.oa (k':=Cell.gk ({ zc with dP:=true } :dM)) 3 rfl ((aN.id dM).comp ri) (v:=(true:Bool)) gF (ab rfl) (gi true) (ju Ge) rfl rfl rfl rfl (aH uK) (ai.nil (ae.any (by kernel_rfl) (dj.le .all (Qi ()))))
   refine dj.cut (γ:=Unit) 5 (lg 9 15) (fun Pa=>[(0,I.of (J)),(1,I.of (ah)),(2,I.of (aP)),(3,I.of (b5)),(5,I.eq (.pointer (some ⟨a4,0,none⟩))),(8,I.of (false)),(9,I.of (aK)),(10,I.eq (.pointer (some ⟨ba,0,none⟩))),(16,I.of (!aD)),(28,I.of (aK.isSome&&bY.dP)),(33,I.of (cN.cQ.isNone)),(39,I.of (J)),(40,I.eq (.pointer (some ⟨cv,0,none⟩))),(41,I.eq (.pointer (some ⟨cv,0+1,none⟩))),(42,I.of (e4.cQ)),(43,I.of (J)),(44,I.of (ah)),(45,I.of (aP)),(46,I.gU 220 [I.ptr bb.1,I.ptr bb.2.1,I.ptr bb.2.2]),(68,I.of (s2.1)),(69,I.of (s2.1)),(70,I.of (b5)),(71,I.eq (.pointer (some ⟨ks,0,none⟩)))]) (fun Pa=>(⟨some D,.dx⟩::⟨some ba,.var (s2.1:Ref)⟩::⟨some a4,.var (ah:an)⟩::a8 s2.2)) (fun Pa=>?_) (fun Js=>?_)
   ·refine dj.step [4] (by kernel_rfl) rfl ⟨⟨_,rfl,?_⟩,trivial⟩
    ·refine aY (aU rv) ?_
     exact ai.nil (ae.any (by kernel_rfl) (dj.le .all (Jr ())))
   refine dj.cut (γ:=Unit) 6 (lg 9 25) (fun Pb=>[(0,I.of (J)),(1,I.of (ah)),(2,I.of (aP)),(3,I.of (b5)),(5,I.eq (.pointer (some ⟨a4,0,none⟩))),(8,I.of (false)),(9,I.of (aK)),(10,I.eq (.pointer (some ⟨ba,0,none⟩))),(16,I.of (!aD)),(28,I.of (aK.isSome&&bY.dP)),(33,I.of (cN.cQ.isNone)),(39,I.of (J)),(40,I.eq (.pointer (some ⟨cv,0,none⟩))),(41,I.eq (.pointer (some ⟨cv,0+1,none⟩))),(42,I.of (e4.cQ)),(43,I.of (J)),(44,I.of (ah)),(45,I.of (aP)),(46,I.gU 220 [I.ptr bb.1,I.ptr bb.2.1,I.ptr bb.2.2]),(68,I.of (s2.1)),(71,I.eq (.pointer (some ⟨ks,0,none⟩))),(72,I.eq (.pointer (some ⟨ks,0+2,none⟩)))]) (fun Pb=>(⟨some D,.dx⟩::⟨some ba,.var (s2.1:Ref)⟩::⟨some a4,.var (ah:an)⟩::a8 s2.2)) (fun Pb=>?_) (fun ZH=>?_)
   ·refine dj.step [1,2,5] (by kernel_rfl) rfl ⟨⟨_,rfl,?_⟩,⟨_,rfl,?_⟩,⟨_,rfl,?_⟩,trivial⟩
    ·refine cr 1 ek ?_
     exact ai.nil (ae.any (by kernel_rfl) (dj.le .all (Qk ())))
    ·refine aB ?_
     exact ai.nil (ae.any (by kernel_rfl) (dj.le .all (Qj ())))
    exact ai.oa (k':=Cell.gk ({ zc with dP:=true } :dM)) 3 rfl ((aN.id dM).comp ri) (v:=(true:Bool)) gF (ab rfl) (gi true) (ju Ge) rfl rfl rfl rfl (aH uK) (ai.nil (ae.any (by kernel_rfl) (dj.le .all (ZG ()))))
   refine dj.cut (γ:=Unit) 6 (lg 9 13) (fun Pc=>[(0,I.of (J)),(1,I.of (ah)),(2,I.of (aP)),(3,I.of (b5)),(5,I.eq (.pointer (some ⟨a4,0,none⟩))),(8,I.of (false)),(9,I.of (aK)),(10,I.eq (.pointer (some ⟨ba,0,none⟩))),(16,I.of (!aD)),(28,I.of (aK.isSome&&bY.dP)),(33,I.of (cN.cQ.isNone)),(39,I.of (J)),(40,I.eq (.pointer (some ⟨cv,0,none⟩))),(41,I.eq (.pointer (some ⟨cv,0+1,none⟩))),(42,I.of (e4.cQ)),(43,I.of (J)),(44,I.of (ah)),(45,I.of (aP)),(46,I.gU 220 [I.ptr bb.1,I.ptr bb.2.1,I.ptr bb.2.2]),(68,I.of (s2.1)),(70,I.of (b5)),(71,I.eq (.pointer (some ⟨ks,0,none⟩)))]) (fun Pc=>(⟨some D,.dx⟩::⟨some ba,.var (s2.1:Ref)⟩::⟨some a4,.var (ah:an)⟩::a8 s2.2)) (fun Pc=>?_) (fun Ql=>?_)
   ·refine dj.step [1,4] (by kernel_rfl) rfl ⟨⟨_,rfl,?_⟩,⟨_,rfl,?_⟩,trivial⟩
    ·refine cr 1 ek ?_
     exact ai.nil (ae.any (by kernel_rfl) (dj.le .all (Js ())))
    refine aY (aU rv) ?_
    exact ai.nil (ae.any (by kernel_rfl) (dj.le .all (Qj ())))
   refine dj.cut (γ:=Unit) 6 (lg 9 11) (fun Qm=>[(0,I.of (J)),(1,I.of (ah)),(2,I.of (aP)),(3,I.of (b5)),(5,I.eq (.pointer (some ⟨a4,0,none⟩))),(8,I.of (false)),(9,I.of (aK)),(10,I.eq (.pointer (some ⟨ba,0,none⟩))),(16,I.of (!aD)),(28,I.of (aK.isSome&&bY.dP)),(33,I.of (cN.cQ.isNone)),(39,I.of (J)),(40,I.eq (.pointer (some ⟨cv,0,none⟩))),(41,I.eq (.pointer (some ⟨cv,0+1,none⟩))),(42,I.of (e4.cQ)),(43,I.of (J)),(44,I.of (ah)),(45,I.of (aP)),(46,I.gU 220 [I.ptr bb.1,I.ptr bb.2.1,I.ptr bb.2.2]),(68,I.of (s2.1)),(69,I.of (s2.1)),(71,I.eq (.pointer (some ⟨ks,0,none⟩)))]) (fun Qm=>(⟨some D,.dx⟩::⟨some ba,.var (s2.1:Ref)⟩::⟨some a4,.var (ah:an)⟩::a8 s2.2)) (fun Qm=>?_) (fun Q4=>?_)
   ·refine dj.step [2,4] (by kernel_rfl) rfl ⟨⟨_,rfl,?_⟩,⟨_,rfl,?_⟩,trivial⟩
    ·refine aB ?_
     exact ai.nil (ae.any (by kernel_rfl) (dj.le .all (Js ())))
    refine aY (aU rv) ?_
    exact ai.nil (ae.any (by kernel_rfl) (dj.le .all (Qk ())))
   refine dj.cut (γ:=Unit) 6 (lg 9 7) (fun Qn=>[(0,I.of (J)),(1,I.of (ah)),(2,I.of (aP)),(3,I.of (b5)),(5,I.eq (.pointer (some ⟨a4,0,none⟩))),(8,I.of (false)),(9,I.of (aK)),(10,I.eq (.pointer (some ⟨ba,0,none⟩))),(16,I.of (!aD)),(28,I.of (aK.isSome&&bY.dP)),(33,I.of (cN.cQ.isNone)),(39,I.of (J)),(40,I.eq (.pointer (some ⟨cv,0,none⟩))),(41,I.eq (.pointer (some ⟨cv,0+1,none⟩))),(42,I.of (e4.cQ)),(43,I.of (J)),(44,I.of (ah)),(45,I.of (aP)),(46,I.gU 220 [I.ptr bb.1,I.ptr bb.2.1,I.ptr bb.2.2]),(68,I.of (s2.1)),(69,I.of (s2.1)),(70,I.of (b5))]) (fun Qn=>(⟨some D,.dx⟩::⟨some ba,.var (s2.1:Ref)⟩::⟨some a4,.var (ah:an)⟩::a8 s2.2)) (fun Qn=>?_) (fun JT=>?_)
   ·refine dj.step [3] (by kernel_rfl) rfl ⟨⟨_,rfl,?_⟩,trivial⟩
    ·refine bh (dV (eL (ab rfl) Gd)) ?_
     exact ai.nil (ae.any (by kernel_rfl) (dj.le .all (Js ())))
   refine dj.cut (γ:=Unit) 7 (lg 9 6) (fun Qo=>[(0,I.of (J)),(1,I.of (ah)),(2,I.of (aP)),(3,I.of (b5)),(5,I.eq (.pointer (some ⟨a4,0,none⟩))),(8,I.of (false)),(9,I.of (aK)),(10,I.eq (.pointer (some ⟨ba,0,none⟩))),(16,I.of (!aD)),(28,I.of (aK.isSome&&bY.dP)),(33,I.of (cN.cQ.isNone)),(39,I.of (J)),(40,I.eq (.pointer (some ⟨cv,0,none⟩))),(41,I.eq (.pointer (some ⟨cv,0+1,none⟩))),(42,I.of (e4.cQ)),(43,I.of (J)),(44,I.of (ah)),(45,I.of (aP)),(46,I.gU 220 [I.ptr bb.1,I.ptr bb.2.1,I.ptr bb.2.2]),(69,I.of (s2.1)),(70,I.of (b5))]) (fun Qo=>(⟨some D,.dx⟩::⟨some ba,.var (s2.1:Ref)⟩::⟨some a4,.var (ah:an)⟩::a8 s2.2)) (fun Qo=>?_) (fun Q5=>?_)
   ·refine dj.step [0] (by kernel_rfl) rfl ⟨⟨_,rfl,?_⟩,trivial⟩
    ·refine cr 1 ek ?_
     exact ai.nil (ae.any (by kernel_rfl) (dj.le .all (JT ())))
   refine dj.cut (γ:=Unit) 7 (lg 9 9) (fun Qp=>[(0,I.of (J)),(1,I.of (ah)),(2,I.of (aP)),(3,I.of (b5)),(5,I.eq (.pointer (some ⟨a4,0,none⟩))),(8,I.of (false)),(9,I.of (aK)),(10,I.eq (.pointer (some ⟨ba,0,none⟩))),(16,I.of (!aD)),(28,I.of (aK.isSome&&bY.dP)),(33,I.of (cN.cQ.isNone)),(39,I.of (J)),(40,I.eq (.pointer (some ⟨cv,0,none⟩))),(41,I.eq (.pointer (some ⟨cv,0+1,none⟩))),(42,I.of (e4.cQ)),(43,I.of (J)),(44,I.of (ah)),(45,I.of (aP)),(46,I.gU 220 [I.ptr bb.1,I.ptr bb.2.1,I.ptr bb.2.2]),(68,I.of (s2.1)),(71,I.eq (.pointer (some ⟨ks,0,none⟩)))]) (fun Qp=>(⟨some D,.dx⟩::⟨some ba,.var (s2.1:Ref)⟩::⟨some a4,.var (ah:an)⟩::a8 s2.2)) (fun Qp=>?_) (fun abi=>?_)
   ·refine dj.step [1,2,4] (by kernel_rfl) rfl ⟨⟨_,rfl,?_⟩,⟨_,rfl,?_⟩,⟨_,rfl,?_⟩,trivial⟩
    ·refine cr 1 ek ?_
     exact ai.nil (ae.any (by kernel_rfl) (dj.le .all (Q4 ())))
    ·refine aB ?_
     exact ai.nil (ae.any (by kernel_rfl) (dj.le .all (Ql ())))
    refine aY (aU rv) ?_
    exact ai.nil (ae.any (by kernel_rfl) (dj.le .all (ZH ())))
   refine dj.cut (γ:=Unit) 7 (lg 9 5) (fun Qq=>[(0,I.of (J)),(1,I.of (ah)),(2,I.of (aP)),(3,I.of (b5)),(5,I.eq (.pointer (some ⟨a4,0,none⟩))),(8,I.of (false)),(9,I.of (aK)),(10,I.eq (.pointer (some ⟨ba,0,none⟩))),(16,I.of (!aD)),(28,I.of (aK.isSome&&bY.dP)),(33,I.of (cN.cQ.isNone)),(39,I.of (J)),(40,I.eq (.pointer (some ⟨cv,0,none⟩))),(41,I.eq (.pointer (some ⟨cv,0+1,none⟩))),(42,I.of (e4.cQ)),(43,I.of (J)),(44,I.of (ah)),(45,I.of (aP)),(46,I.gU 220 [I.ptr bb.1,I.ptr bb.2.1,I.ptr bb.2.2]),(68,I.of (s2.1)),(70,I.of (b5))]) (fun Qq=>(⟨some D,.dx⟩::⟨some ba,.var (s2.1:Ref)⟩::⟨some a4,.var (ah:an)⟩::a8 s2.2)) (fun Qq=>?_) (fun Q6=>?_)
   ·refine dj.step [1,3] (by kernel_rfl) rfl ⟨⟨_,rfl,?_⟩,⟨_,rfl,?_⟩,trivial⟩
    ·refine cr 1 ek ?_
     exact ai.nil (ae.any (by kernel_rfl) (dj.le .all (JT ())))
    refine bh (dV (eL (ab rfl) Gd)) ?_
    exact ai.nil (ae.any (by kernel_rfl) (dj.le .all (Ql ())))
   refine dj.cut (γ:=Unit) 7 (lg 9 3) (fun Qr=>[(0,I.of (J)),(1,I.of (ah)),(2,I.of (aP)),(3,I.of (b5)),(5,I.eq (.pointer (some ⟨a4,0,none⟩))),(8,I.of (false)),(9,I.of (aK)),(10,I.eq (.pointer (some ⟨ba,0,none⟩))),(16,I.of (!aD)),(28,I.of (aK.isSome&&bY.dP)),(33,I.of (cN.cQ.isNone)),(39,I.of (J)),(40,I.eq (.pointer (some ⟨cv,0,none⟩))),(41,I.eq (.pointer (some ⟨cv,0+1,none⟩))),(42,I.of (e4.cQ)),(43,I.of (J)),(44,I.of (ah)),(45,I.of (aP)),(46,I.gU 220 [I.ptr bb.1,I.ptr bb.2.1,I.ptr bb.2.2]),(68,I.of (s2.1)),(69,I.of (s2.1))]) (fun Qr=>(⟨some D,.dx⟩::⟨some ba,.var (s2.1:Ref)⟩::⟨some a4,.var (ah:an)⟩::a8 s2.2)) (fun Qr=>?_) (fun Q7=>?_)
   ·refine dj.step [2,3] (by kernel_rfl) rfl ⟨⟨_,rfl,?_⟩,⟨_,rfl,?_⟩,trivial⟩
    ·refine aB ?_
     exact ai.nil (ae.any (by kernel_rfl) (dj.le .all (JT ())))
    refine bh (dV (eL (ab rfl) Gd)) ?_
    exact ai.nil (ae.any (by kernel_rfl) (dj.le .all (Q4 ())))
   refine dj.cut (γ:=Unit) 8 (lg 9 4) (fun Qs=>[(0,I.of (J)),(1,I.of (ah)),(2,I.of (aP)),(3,I.of (b5)),(5,I.eq (.pointer (some ⟨a4,0,none⟩))),(8,I.of (false)),(9,I.of (aK)),(10,I.eq (.pointer (some ⟨ba,0,none⟩))),(16,I.of (!aD)),(28,I.of (aK.isSome&&bY.dP)),(33,I.of (cN.cQ.isNone)),(39,I.of (J)),(40,I.eq (.pointer (some ⟨cv,0,none⟩))),(41,I.eq (.pointer (some ⟨cv,0+1,none⟩))),(42,I.of (e4.cQ)),(43,I.of (J)),(44,I.of (ah)),(45,I.of (aP)),(46,I.gU 220 [I.ptr bb.1,I.ptr bb.2.1,I.ptr bb.2.2]),(70,I.of (b5))]) (fun Qs=>(⟨some D,.dx⟩::⟨some ba,.var (s2.1:Ref)⟩::⟨some a4,.var (ah:an)⟩::a8 s2.2)) (fun Qs=>?_) (fun abj=>?_)
   ·refine dj.step [0,1] (by kernel_rfl) rfl ⟨⟨_,rfl,?_⟩,⟨_,rfl,?_⟩,trivial⟩
    ·refine cr 1 ek ?_
     exact ai.nil (ae.any (by kernel_rfl) (dj.le .all (Q6 ())))
    refine cr 1 ek ?_
    exact ai.nil (ae.any (by kernel_rfl) (dj.le .all (Q5 ())))
   refine dj.cut (γ:=Unit) 8 (lg 9 2) (fun Qt=>[(0,I.of (J)),(1,I.of (ah)),(2,I.of (aP)),(3,I.of (b5)),(5,I.eq (.pointer (some ⟨a4,0,none⟩))),(8,I.of (false)),(9,I.of (aK)),(10,I.eq (.pointer (some ⟨ba,0,none⟩))),(16,I.of (!aD)),(28,I.of (aK.isSome&&bY.dP)),(33,I.of (cN.cQ.isNone)),(39,I.of (J)),(40,I.eq (.pointer (some ⟨cv,0,none⟩))),(41,I.eq (.pointer (some ⟨cv,0+1,none⟩))),(42,I.of (e4.cQ)),(43,I.of (J)),(44,I.of (ah)),(45,I.of (aP)),(46,I.gU 220 [I.ptr bb.1,I.ptr bb.2.1,I.ptr bb.2.2]),(69,I.of (s2.1))]) (fun Qt=>(⟨some D,.dx⟩::⟨some ba,.var (s2.1:Ref)⟩::⟨some a4,.var (ah:an)⟩::a8 s2.2)) (fun Qt=>?_) (fun abk=>?_)
   ·refine dj.step [0,2] (by kernel_rfl) rfl ⟨⟨_,rfl,?_⟩,⟨_,rfl,?_⟩,trivial⟩
    ·refine cr 1 ek ?_
     exact ai.nil (ae.any (by kernel_rfl) (dj.le .all (Q7 ())))
    refine aB ?_
    exact ai.nil (ae.any (by kernel_rfl) (dj.le .all (Q5 ())))
   refine dj.cut (γ:=Unit) 8 (lg 9 1) (fun Qu=>[(0,I.of (J)),(1,I.of (ah)),(2,I.of (aP)),(3,I.of (b5)),(5,I.eq (.pointer (some ⟨a4,0,none⟩))),(8,I.of (false)),(9,I.of (aK)),(10,I.eq (.pointer (some ⟨ba,0,none⟩))),(16,I.of (!aD)),(28,I.of (aK.isSome&&bY.dP)),(33,I.of (cN.cQ.isNone)),(39,I.of (J)),(40,I.eq (.pointer (some ⟨cv,0,none⟩))),(41,I.eq (.pointer (some ⟨cv,0+1,none⟩))),(42,I.of (e4.cQ)),(43,I.of (J)),(44,I.of (ah)),(45,I.of (aP)),(46,I.gU 220 [I.ptr bb.1,I.ptr bb.2.1,I.ptr bb.2.2]),(68,I.of (s2.1))]) (fun Qu=>(⟨some D,.dx⟩::⟨some ba,.var (s2.1:Ref)⟩::⟨some a4,.var (ah:an)⟩::a8 s2.2)) (fun Qu=>?_) (fun abl=>?_)
   ·refine dj.step [1,2,3] (by kernel_rfl) rfl ⟨⟨_,rfl,?_⟩,⟨_,rfl,?_⟩,⟨_,rfl,?_⟩,trivial⟩
    ·refine cr 1 ek ?_
     exact ai.nil (ae.any (by kernel_rfl) (dj.le .all (Q7 ())))
    ·refine aB ?_
     exact ai.nil (ae.any (by kernel_rfl) (dj.le .all (Q6 ())))
    refine bh (dV (eL (ab rfl) Gd)) ?_
    exact ai.nil (ae.any (by kernel_rfl) (dj.le .all (abi ())))
   refine dj.step [0,1,2] (by kernel_rfl) rfl ⟨⟨_,rfl,?_⟩,⟨_,rfl,?_⟩,⟨_,rfl,?_⟩,trivial⟩
   ·refine cr 1 ek ?_
    exact ai.nil (ae.any (by kernel_rfl) (dj.le .all (abl ())))
   ·refine cr 1 ek ?_
    exact ai.nil (ae.any (by kernel_rfl) (dj.le .all (abk ())))
   refine aB ?_
   exact ai.nil (ae.any (by kernel_rfl) (dj.le .all (abj ())))
  exact Empty.elim cU
 ·refine ag.cm (aB ?_)
  refine hg Qf Qg (default:dM) .nil ?_
  refine ai.BR 1 rfl (Cell.gk (default:dM)) (fun _=>rfl) (ab rfl) rfl fun dK Ck=>?_
  replace h:=aI.uh h dK Ck
  refine bh (dV (eL (ab rfl) fx)) ?_
  refine aY (aU sC) ?_
  obtain⟨Db,Gf,h⟩:=aI.c2 h
  obtain⟨uY,JS,h⟩:=aI.c2 h
  exact ai.oa (k':=Cell.j4 ({ Db with cQ:=(some dK.1:Ref) } :fK)) 1 rfl ((aN.id fK).comp sg) (v:=((some dK.1:Ref):Ref)) ek (ab rfl) (ab rfl) (mv Gf) rfl rfl rfl rfl (aH JS) (ai.nil (dq 0 (hm uY () h)))
 exact ag.skip (dq 0 (hm hp () h))
theorem Ti {hp:a1 Cell} {J:gZ} {ah:aJ} {Q:(a1 Cell)→Prop} (h:zN hp J ah Q):b9 Tryz.prog 202 [I.of (J),I.of (ah)] ([]++a8 hp) (δ:= {r:(a1 Cell) // Q r}×Unit) (fun d=>I.ep []) (fun d=>[]++a8 d.1.1):=by
 unfold zN at h
 refine b9.of Tryz.func202 rfl Tryz.ntmps202 rfl fun W A=>?_
 refine aC (b7 fun a4=>?_)
 refine b7 fun ba=>?_
 refine bW (cr 1 Bv ?_)
 refine aY (aU la) ?_
 refine cc 0 j9 hN ?_
 obtain⟨aD,bo,h⟩:=aI.c2 h
 refine du Jo (G1 bo) ?_
 refine aB ?_
 refine eO ?_
 refine eO ?_
 refine eO ?_
 refine cC wk fun ck=>?_
 refine cC en fun eW=>?_
 refine b8 1 kx ?_
 refine b8 0 bG ?_
 refine aM ?_
 refine bD (aC (aY (aU sF) ?_))
 refine cc 3 re rL ?_
 refine cr 1 kx ?_
 obtain⟨cG,dF,h⟩:=aI.c2 h
 obtain⟨bY,ed,h⟩:=aI.c2 h
 obtain⟨bH,dt,h⟩:=aI.c2 h
 refine bh (vP (r:=bH) Tryz.underlying128 uF yD (mV (ab rfl) dF) (ab rfl) (fk (n:=4) rfl (mw ed) rfl) (aH dt)) ?_
 refine bh (oR Tryz.underlying289 (ab rfl)) ?_
 refine aL (ag.yp (γ:=Unit) h (fun bx av=>[(0,I.of (J)),(1,I.of (ah)),(2,I.eq (.pointer (some ⟨a4,0,none⟩))),(3,I.eq (.pointer (some ⟨ba,0,none⟩))),(4,I.eq (.pointer (some ⟨ck,0,none⟩))),(5,I.eq (.pointer (some ⟨eW,0,none⟩))),(6,I.of (aD.2.2)),(19,I.of (bH.isNone))]) (fun bx av=>(⟨some eW,.var (aD.2.1:an)⟩::⟨some ck,.var (aD.1:Vector an 4)⟩::⟨some ba,.var (ah:aJ)⟩::⟨some a4,.var (J:gZ)⟩::a8 bx)) (ab rfl) (fun bx av h=>?_) (fun hm al h=>?_) (fun hm al h=>?_))
 ·refine ae.next ?_
  obtain⟨cN,fI,h⟩:=aI.c2 h
  obtain⟨dn,hx,h⟩:=aI.c2 h
  refine ag.draw mixed 8 [some 26,some 27,some 28,some 29,some 30,some 31,some 32,some 33] [[],[0],[],[1,2],[],[],[],[6]] [.val _,.val _,.val _,.val _,.val _,.val _,.val _,.val _] [false,false,false,false,false,false,false,false] (by kernel_rfl) rfl rfl rfl (fun cx=>⟨H1 (aU sF),dg 3 re rL,eG 1 kx,c1 fun ax ar=>vP (r:=dn) Tryz.underlying128 uF yD (mV (ab rfl) dF) (ab rfl) (kB (fun i e q=>ar i e q rfl) (fk (n:=4) rfl (mw fI) rfl)) (aH hx),eG 0 bG,ct,H1 (aU mX),dg 2 lx bE,trivial⟩) fun cx=>?_
  refine ai.m1 4 0 rfl ZI (Ua h) rfl rfl ⟨ab rfl,ab rfl,ab rfl,ab rfl,trivial⟩ rfl fun⟨⟨aK,h⟩,aA⟩=>?_
  exact ai.ez (L2:=(⟨some eW,.var (aD.2.1:an)⟩::⟨some ck,.var (aD.1:Vector an 4)⟩::⟨some ba,.var (ah:aJ)⟩::⟨some a4,.var (J:gZ)⟩::a8 aK.2)) rfl (ai.nil (ae.ou (ae.lD (⟨⟨aK.2,h⟩,()⟩: {r // _}×_) (.cons _ (.cons _ (.cons _ (.cons _ (.refl _))))) rfl rfl)))
 ·obtain⟨acr,abm,abn⟩:=aI.ex h
  refine XY mixed 6 5 25 _ (K:=acr) [some (20,I.eq (.pointer (some ⟨a4,0+2,none⟩))),some (21,I.of (J.n6)),some (22,I.of (aD.1)),some (23,I.eq (.pointer (some ⟨a4,0+1,none⟩))),some (24,I.of (J.fL)),none] _ [[],[0],[],[],[3],[4]] _ (fun bb=>I.of (bb.1)) (fun bb=>(⟨some eW,.var (aD.2.1:an)⟩::⟨some ck,.var (aD.1:Vector an 4)⟩::⟨some ba,.var (ah:aJ)⟩::⟨some a4,.var (J:gZ)⟩::a8 bb.2)) rfl rfl rfl rfl rfl rfl (by kernel_rfl) ⟨⟨aU sF (ab rfl),fun bb uL=>aU sF (ab rfl)⟩,⟨fa (i:=3) ((aN.id gZ).comp re) (r:=J.n6) rL (ab rfl) rfl rfl rfl,fun bb uL=>fa (i:=3) ((aN.id gZ).comp re) (r:=J.n6) rL (ab rfl) rfl rfl rfl⟩,⟨fa (i:=1) (aN.id (Vector an 4)) (r:=aD.1) kx (ab rfl) rfl rfl rfl,fun bb uL=>fa (i:=1) (aN.id (Vector an 4)) (r:=aD.1) kx (ab rfl) rfl rfl rfl⟩,⟨aU Ii (ab rfl),fun bb uL=>aU Ii (ab rfl)⟩,⟨fa (i:=3) ((aN.id gZ).comp Dz) (r:=J.fL) bE (ab rfl) rfl rfl rfl,fun bb uL=>fa (i:=3) ((aN.id gZ).comp Dz) (r:=J.fL) bE (ab rfl) rfl rfl rfl⟩,trivial⟩ (fun bj zd aG bP=>?_) (fun bb uL=>?_)
  ·refine ai.m1 4 0 rfl ZJ (U7 abm) rfl rfl ⟨ab (aG rfl),trivial⟩ rfl fun⟨⟨bb,uL⟩,_⟩=>?_
   exact ai.ez (L2:=(⟨some eW,.var (aD.2.1:an)⟩::⟨some ck,.var (aD.1:Vector an 4)⟩::⟨some ba,.var (ah:aJ)⟩::⟨some a4,.var (J:gZ)⟩::a8 bb.2)) rfl (ai.nil (bP bb uL))
  have h:=abn bb uL
  refine ai.le (E':= [(0,I.of (J)),(1,I.of (ah)),(2,I.eq (.pointer (some ⟨a4,0,none⟩))),(3,I.eq (.pointer (some ⟨ba,0,none⟩))),(4,I.eq (.pointer (some ⟨ck,0,none⟩))),(5,I.eq (.pointer (some ⟨eW,0,none⟩))),(6,I.of (aD.2.2)),(7,I.ep [I.of (aD.1),I.of (aD.2.1),I.of (aD.2.2)]),(8,I.of (J)),(9,I.eq (.pointer (some ⟨ba,0+0,none⟩))),(10,I.of (ah.bK)),(11,I.ep [I.of (aD.1),I.of (aD.2.1),I.of (aD.2.2)]),(12,I.of (aD.1)),(13,I.of (aD.2.1)),(14,I.of (aD.2.2)),(15,I.eq (.pointer (some ⟨a4,0+2,none⟩))),(16,I.of (J.n6)),(17,I.of (aD.1)),(18,I.of (bH)),(19,I.of (bH.isNone)),(20,I.eq (.pointer (some ⟨a4,0+2,none⟩))),(21,I.of (J.n6)),(22,I.of (aD.1)),(23,I.eq (.pointer (some ⟨a4,0+1,none⟩))),(24,I.of (J.fL)),(25,I.of (bb.1))]) .all ?_
  obtain⟨e4,lJ,h⟩:=aI.c2 h
  obtain⟨de,kT,h⟩:=aI.c2 h
  refine ai.I5 (k':=Cell.l7 (hc e4 aD.1 bb.1)) 4 rfl (by first | exact .inl rfl | exact .inr rfl) Tryz.underlying128 uF (mV (ab rfl) dF) (ab rfl) (ab rfl) (mw lJ) rfl rfl rfl (aH kT) ?_
  exact ai.nil (dq 0 (hm de () h))
 exact ag.skip (dq 0 (hm hp () h))
theorem Tw {hp:a1 Cell} {y:gM} {J:aJ} {Q:(a1 Cell)→Prop} (h:Hj hp y J Q):kM Tryz.prog "matchguard/index.put" (I.of y) [I.of (J)] ([]++a8 hp) (δ:= {r:(a1 Cell) // Q r}×Unit) (fun d=>I.ep []) (fun d=>[]++a8 d.1.1):=by
 cases y with
 | nil=>exact h.elim
 | mA z=>
   obtain⟨r,aa,ad⟩:=h
   exact kM.of VC (fun A W u hu=>Es hu) (b9.map (fun d=>(⟨r,ad⟩,d)) (fun _=>rfl) (fun _=>rfl) (TE aa))
 | mB z=>exact kM.of VD (fun A W u hu=>Et hu) (Ti h)
 | mC z=>exact kM.of VE (fun A W u hu=>Eu hu) (TG h)
theorem SY {hp:a1 Cell} {y:gM} {J:Vector an 4} {r:Int×Bool} (h:G6 hp y J=some r):kM Tryz.prog "matchguard/index.lookup" (I.of y) [I.of (J)] ([]++a8 hp) (δ:=Unit) (fun _=>I.ep [I.of (r.1),I.of (r.2)]) (fun _=>[]++a8 hp):=by
 cases y with
 | nil=>cases h
 | mA z=>exact kM.of VF (fun A W u hu=>Es hu) (S4 h)
 | mB z=>exact kM.of VG (fun A W u hu=>Et hu) (SO h)
 | mC z=>exact kM.of VH (fun A W u hu=>Eu hu) (S9 h)
theorem TH {hp:a1 Cell} {J:Ref} {ah:bC} {r:aJ×Bool} (h:z3 hp J ah=some r):b9 Tryz.prog 32 [I.of (J),I.of (ah)] ([]++a8 hp) (δ:=Unit) (fun _=>I.ep [I.of (r.1),I.of (r.2)]) (fun _=>[]++a8 hp):=by
 unfold z3 at h
 refine b9.of Tryz.func32 rfl Tryz.ntmps32 rfl fun W A=>?_
 refine aC (b7 fun a4=>?_)
 refine cC gx fun ba=>?_
 refine aM ?_
 refine bD (aC (aB ?_))
 refine bh (oR Tryz.underlying36 (ab rfl)) ?_
 refine aL (cg h (fun h=>?_) fun h=>?_)
 ·refine aC (hg wM gx (default:aJ) .nil ?_)
  refine b8 0 cM ?_
  refine aM ?_
  refine aL (ag.ret (ae.ret ?_))
  obtain rfl:=aH h
  exact ae.kN () (.cons _ (.cons _ (.refl _))) rfl rfl (j2 (i:=0) cM rfl rfl) (ej rfl)
 refine cO (ag.seq ?_)
 obtain⟨cG,dF,h⟩:=au h
 obtain⟨bY,ed,h⟩:=au h
 obtain⟨aD,bo,h⟩:=au h
 refine jk [0,1,3,4,5,8,9] ?_
 refine ag.qk 2 mixed (bg 12 [] [] _::bg 13 (0::[]) [] _::bg 14 (1::[]) [] _::⟨some 15,(2::[]),[],[],fun _=>I.of (bY.iW),fun _ _=>⟨none,.dead⟩⟩::bg 16 [] (1::[]) _::⟨some 17,(3::4::[]),[],[],fun _=>I.ep [I.of (aD.1),I.of (aD.2)],fun _ _=>⟨none,.dead⟩⟩::bg 11 (5::[]) [] _::bg 18 (6::[]) [] _::bg 19 (6::[]) [] _::bg 6 (7::[]) [] _::bg 7 (8::[]) [] _::[]) _ (0::1::3::4::5::8::9::[]) rfl rfl (by kernel_rfl) (by kernel_rfl) ⟨cI.q (fP),cI.q (cz fun hd E' ax aG ar=>dV (eL (ab (aG _ _ rfl)) dF)),cI.q (fy (aU uj)),?_,cI.q (lG 1 hN),?_,cI.q (fP),cI.q (cz fun hd E' ax aG ar=>lC (ab (aG _ _ rfl)) rfl),cI.q (cz fun hd E' ax aG ar=>lC (ab (aG _ _ rfl)) rfl),cI.q (cz fun hd E' ax aG ar=>ew (ab (aG _ _ rfl))),cI.q (cz fun hd E' ax aG ar=>ew (ab (aG _ _ rfl))),trivial⟩ fun fj=>?_
 ·intro hd E' ax aG ar dw
  refine bh (gd ((aN.id hn).comp tL) (r:=bY.iW) sU (ab (aG _ _ rfl)) (fk (n:=2) (dw.trans rfl) (m0 ed) rfl) rfl rfl) ?_
  exact ai.nil (ae.fin (eP []) rfl rfl)
 ·intro hd E' ax aG ar dw
  refine ai.jC (gJ.yN 2 (dw.trans rfl) (Mc bo) ⟨ab (aG _ _ rfl),ab (aG _ _ rfl),trivial⟩) rfl rfl rfl ?_
  exact ai.nil (ae.fin (eP []) rfl rfl)
 refine ae.ez (L2:=(⟨some ba,.var ((default:aJ):aJ)⟩::⟨some a4,.var (ah:bC)⟩::a8 hp)) rfl (km [0,1,3,4,5,6,7,8,9,11,12,13,14,15,16,17,18,19] ?_)
 refine ae.next (aC (aB ?_))
 refine aB ?_
 refine aB ?_
 obtain⟨aK,cb,h⟩:=au h
 refine ai.jC (gJ.kO 2 rfl Q8 (Mf cb) ⟨ab rfl,ab rfl,ab rfl,trivial⟩) rfl rfl rfl ?_
 refine eO ?_
 refine eO ?_
 refine b8 0 cM ?_
 refine aM ?_
 refine aL (ag.ret ?_)
 obtain rfl:=aH h
 exact ae.kN () (.cons _ (.cons _ (.refl _))) rfl rfl (j2 (i:=0) cM rfl rfl) (ej rfl)
theorem SZ {hp:a1 Cell} {y:gM} {J:aJ} {Q:(a1 Cell)→Prop} (h:G7 hp y J Q):kM Tryz.prog "matchguard/index.remove" (I.of y) [I.of (J)] ([]++a8 hp) (δ:= {r:(a1 Cell) // Q r}×Unit) (fun d=>I.ep []) (fun d=>[]++a8 d.1.1):=by
 cases y with
 | nil=>exact h.elim
 | mA z=>
   obtain⟨r,aa,ad⟩:=h
   exact kM.of VI (fun A W u hu=>Es hu) (b9.map (fun d=>(⟨r,ad⟩,d)) (fun _=>rfl) (fun _=>rfl) (S5 aa))
 | mB z=>
   obtain⟨r,aa,ad⟩:=h
   exact kM.of VJ (fun A W u hu=>Et hu) (b9.map (fun d=>(⟨r,ad⟩,d)) (fun _=>rfl) (fun _=>rfl) (SP aa))
 | mC z=>exact kM.of VK (fun A W u hu=>Eu hu) (S7 h)
theorem MC {r:Bool} (h:As=some r):bw Tryz.prog 23 [] (I.of (r)):=by
 unfold As at h
 refine bw.of Tryz.func23 rfl Tryz.ntmps23 rfl fun W A=>?_
 refine aC (aM ?_)
 refine bW ?_
 obtain⟨aD,bo,h⟩:=au h
 refine ff 0 Kn (Hy bo) fun aA=>?_
 refine ai.bI 0 rfl ?_
 obtain⟨aK,cb,h⟩:=au h
 refine ff 1 Rv (Mb cb) fun cU=>?_
 refine cC B0 fun a4=>?_
 refine b8 0 gv ?_
 refine bW ?_
 obtain⟨bb,dR,h⟩:=au h
 refine ai.F8 Tryz.underlying51 gw m9 rfl (by kernel_rfl) (bU 2) (bU 2) dR rfl fun gD=>?_
 refine ai.freeze (α:=cA) 0 10 rfl rfl ?_
 obtain⟨bH,dt,h⟩:=au h
 refine dG dt (c9 (b:=({ (default:bC) with ef:=3,b4:=bb,ik:=5,lz:=1 } :bC)) rfl JU yK (.cons rh rfl (bU 3) rfl (.cons ku rfl (ab rfl) rfl (.cons sf rfl (bU 5) rfl (.cons xx rfl (bU 1) rfl (.nil)))))) ?_
 obtain⟨dn,hx,h⟩:=au h
 refine dG hx (c9 (b:=({ (default:aJ) with bK:=bH,cH:=1 } :aJ)) rfl wM gx (.cons j9 rfl (ab rfl) rfl (.cons lx rfl (bU 1) rfl (.nil)))) ?_
 refine cC gx fun ba=>?_
 refine b8 0 cM ?_
 refine bW ?_
 obtain⟨bJ,e2,h⟩:=au h
 refine ai.F8 Tryz.underlying51 gw m9 rfl (by kernel_rfl) (bU 2) (bU 2) e2 rfl fun kj=>?_
 refine ai.freeze (α:=cA) 0 13 rfl rfl ?_
 obtain⟨fm,jH,h⟩:=au h
 refine dG jH (c9 (b:=({ (default:bC) with ef:=3,b4:=bJ,ik:=4,lz:=1 } :bC)) rfl JU yK (.cons rh rfl (bU 3) rfl (.cons ku rfl (ab rfl) rfl (.cons sf rfl (bU 4) rfl (.cons xx rfl (bU 1) rfl (.nil)))))) ?_
 obtain⟨hF,mF,h⟩:=au h
 refine dG mF (c9 (b:=({ (default:aJ) with bK:=fm,cH:=2 } :aJ)) rfl wM gx (.cons j9 rfl (ab rfl) rfl (.cons lx rfl (bU 2) rfl (.nil)))) ?_
 refine cC gx fun ck=>?_
 refine b8 0 cM ?_
 refine bW (cr 4 gv ?_)
 refine cr 2 cM ?_
 refine cr 0 cM ?_
 refine gV [dn,hF] Tryz.underlying67 cM gx ?_
 obtain⟨bq,gG,h⟩:=au h
 refine du JV (Ht gG) ?_
 refine aB ?_
 refine eO ?_
 refine eO ?_
 refine aM ?_
 refine aM ?_
 refine bW (cr 4 gv ?_)
 refine cr 2 cM ?_
 refine cr 0 cM ?_
 refine gV [dn,hF] Tryz.underlying67 cM gx ?_
 obtain⟨b6,gH,h⟩:=au h
 refine du JV (Ht gH) ?_
 refine aB ?_
 refine eO ?_
 refine eO ?_
 refine aM ?_
 refine aM ?_
 refine bW (aB ?_)
 refine aB ?_
 refine dE cV ?_
 refine dE hL ?_
 refine iG ?_
 refine aB ?_
 refine dE cV ?_
 refine jw gf ?_
 refine iG ?_
 refine aB ?_
 refine dE cV ?_
 refine jw gf ?_
 refine iG ?_
 refine aM ?_
 refine aL (ag.ret ?_)
 obtain rfl:=aH h
 exact cX
end Go.Proofs.YthkfkliknjiecaaGreat
