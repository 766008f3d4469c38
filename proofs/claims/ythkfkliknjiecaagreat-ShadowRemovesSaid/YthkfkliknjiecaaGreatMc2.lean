/-
  Each function meets its functional program. Conditions: none.
-/
import Derived.Test.YthkfkliknjiecaaGreatMc1
import Derived.Test.YthkfkliknjiecaaGreatMc0
set_option maxRecDepth 100000
set_option maxHeartbeats 2000000
namespace Go.Proofs.YthkfkliknjiecaaGreat
open Go Gv
theorem Ml {hp:a1 Cell} {J:Ref} {ah:aJ} {Q:Bool×(a1 Cell)→Prop} (h:xL hp J ah Q):b9 Tryz.prog 10 [I.of (J),I.of (ah)] ([]++a8 hp) (δ:= {r:Bool×(a1 Cell) // Q r}×Unit) (fun d=>I.of (d.1.1.1)) (fun d=>[]++a8 d.1.1.2):=by
 unfold xL at h
 refine b9.of Tryz.func10 rfl Tryz.ntmps10 rfl fun W A=>?_
 refine aC (b7 fun a4=>?_)
 refine aM ?_
 refine bD (aC (aB ?_))
 refine bh (oR Tryz.underlying36 (ab rfl)) ?_
 refine aL (ag.cond (ab rfl) (fun al=>?_) (fun al=>?_))
 ·replace h:=qd al h
  refine aC (aM ?_)
  exact aL (ag.ret (ae.ret (ae.gr (⟨⟨(false,hp),h⟩,()⟩: {r // _}×_) (.cons _ (.refl _)) rfl rfl (ej rfl))))
 replace h:=qe al h
 refine cO (ag.seq ?_)
 obtain⟨cG,dF,h⟩:=aI.c2 h
 obtain⟨bY,ed,h⟩:=aI.c2 h
 obtain⟨cv,fx,h⟩:=aI.c2 h
 obtain⟨cN,fI,h⟩:=aI.c2 h
 obtain⟨bH,dt,h⟩:=aI.c2 h
 refine ag.ZK 1 1 (jk [0,1,3,4,9,10] ?_)
 refine ag.qk 2 mixed (bg 12 [] [] _::bg 13 (0::[]) [] _::bg 14 (1::[]) [] _::⟨some 15,(2::[]),[],[],fun _=>I.of (bY.ly),fun _ _=>⟨none,.dead⟩⟩::bg 16 [] [] _::bg 17 (4::[]) (0::[]) _::⟨some 18,(3::5::[]),[],[],fun _=>I.ep [I.of (bH.getD default),I.of (bH.isSome)],fun _ _=>⟨none,.dead⟩⟩::bg 11 (6::[]) [] _::bg 19 (7::[]) [] _::bg 20 (7::[]) [] _::⟨some 5,[],(1::[]),(1::[]),fun hd=>I.eq (.pointer (some ⟨((hd 10 0).getD 0),0,none⟩)),fun hd _=>⟨some ((hd 10 0).getD 0),.var ((default:aJ):aJ)⟩⟩::⟨none,(8::10::[]),(1::[]),(1::[]),fun _=>I.any,fun hd _=>⟨some ((hd 10 0).getD 0),.var (bH.getD default:aJ)⟩⟩::bg 6 (9::[]) [] _::[]) _ (0::1::3::4::9::10::[]) rfl rfl (by kernel_rfl) (by kernel_rfl) ⟨cI.q (fP),cI.q (cz fun hd E' ax aG ar=>dV (eL (ab (aG _ _ rfl)) dF)),cI.q (fy (aU EO)),?_,cI.q (fy (aU mX)),cI.q (o3 0 lx bE),?_,cI.q (fP),cI.q (cz fun hd E' ax aG ar=>lC (ab (aG _ _ rfl)) rfl),cI.q (cz fun hd E' ax aG ar=>lC (ab (aG _ _ rfl)) rfl),?_,?_,cI.q (cz fun hd E' ax aG ar=>ew (ab (aG _ _ rfl))),trivial⟩ fun fj=>?_
 ·intro hd E' ax aG ar dw
  refine bh (gd ((aN.id hn).comp zt) (r:=bY.ly) BG (ab (aG _ _ rfl)) (fk (n:=2) (dw.trans rfl) (m0 ed) rfl) rfl rfl) ?_
  exact ai.nil (ae.fin (eP []) rfl rfl)
 ·intro hd E' ax aG ar dw
  refine bh (HR (r:=bH) Tryz.underlying119 Gb gx (mV (ab (aG _ _ rfl)) fx) (ab (aG _ _ rfl)) (fk (n:=2) (dw.trans rfl) (v3 fI) rfl) (aH dt)) ?_
  exact ai.nil (ae.fin (eP []) rfl rfl)
 ·intro hd E' ax aG ar dw
  refine cC gx fun ba=>?_
  exact ai.nil (ae.place 1 (ar 1 _ rfl rfl) (ae.fin (eP [some ba]) rfl rfl))
 ·intro hd E' ax aG ar dw
  exact ai.store (i:=1) (aN.id aJ) (v:=(bH.getD default:aJ)) (b':=(bH.getD default:aJ)) cM (ab (aG _ _ rfl)) (ab (aG _ _ rfl)) (ar 1 _ rfl rfl) rfl rfl (ai.nil (ae.fin (eP []) rfl rfl))
 refine ae.ez (L2:=(⟨some a4,.var (ah:aJ)⟩::⟨some ((fj 10 0).getD 0),.var (bH.getD default:aJ)⟩::a8 hp)) rfl (km [0,1,3,4,5,6,9,10,11,12,13,14,15,16,17,18,19,20] ?_)
 refine ae.bI 1 rfl (ae.next (ag.seq (ag.seq ?_)))
 obtain⟨lP,rY,h⟩:=aI.c2 h
 obtain⟨e4,lJ,h⟩:=aI.c2 h
 obtain⟨aD,bo,h⟩:=aI.c2 h
 refine jk [0,1,3,4,5,6,9,10,11,12,13,14,15,16,17,18,19,20] ?_
 refine ag.qk 2 mixed (bg 22 [] [] _::bg 23 (0::[]) [] _::bg 24 (1::[]) [] _::⟨some 25,(2::[]),[],[],fun _=>I.of (e4.iW),fun _ _=>⟨none,.dead⟩⟩::bg 26 [] [] _::bg 27 (4::[]) (1::[]) _::⟨some 28,(3::5::[]),[],[],fun _=>I.ep [I.of (aD.1),I.of (aD.2)],fun _ _=>⟨none,.dead⟩⟩::bg 21 (6::[]) [] _::bg 29 (7::[]) [] _::bg 30 (7::[]) [] _::bg 7 (8::[]) [] _::bg 8 (9::[]) [] _::[]) _ (0::1::3::4::5::6::9::10::11::12::13::14::15::16::17::18::19::20::[]) rfl rfl (by kernel_rfl) (by kernel_rfl) ⟨cI.q (fP),cI.q (cz fun hd E' ax aG ar=>dV (eL (ab (aG _ _ rfl)) rY)),cI.q (fy (aU uj)),?_,cI.q (fy (aU la)),cI.q (o3 1 j9 hN),?_,cI.q (fP),cI.q (cz fun hd E' ax aG ar=>lC (ab (aG _ _ rfl)) rfl),cI.q (cz fun hd E' ax aG ar=>lC (ab (aG _ _ rfl)) rfl),cI.q (cz fun hd E' ax aG ar=>ew (ab (aG _ _ rfl))),cI.q (cz fun hd E' ax aG ar=>ew (ab (aG _ _ rfl))),trivial⟩ fun jJ=>?_
 ·intro hd E' ax aG ar dw
  refine bh (gd ((aN.id hn).comp tL) (r:=e4.iW) sU (ab (aG _ _ rfl)) (fk (n:=2) (dw.trans rfl) (m0 lJ) rfl) rfl rfl) ?_
  exact ai.nil (ae.fin (eP []) rfl rfl)
 ·intro hd E' ax aG ar dw
  refine ai.jC (gJ.yN 2 (dw.trans rfl) (Mc bo) ⟨ab (aG _ _ rfl),ab (aG _ _ rfl),trivial⟩) rfl rfl rfl ?_
  exact ai.nil (ae.fin (eP []) rfl rfl)
 refine ae.ez (L2:=(⟨some ((fj 10 0).getD 0),.var (bH.getD default:aJ)⟩::⟨some a4,.var (ah:aJ)⟩::a8 hp)) rfl (km [0,1,3,4,5,6,7,8,9,10,11,12,13,14,15,16,17,18,19,20,21,22,23,24,25,26,27,28,29,30] ?_)
 refine ae.next (aC (aB ?_))
 refine aB ?_
 refine dE cV ?_
 refine rV ?_
 refine aL (ag.cond (ab rfl) (fun al=>?_) (fun al=>?_))
 ·replace h:=qd al h
  refine aC (aM ?_)
  exact aL (ag.ret (ae.ret (ae.gr (⟨⟨(false,hp),h⟩,()⟩: {r // _}×_) (.cons _ (.cons _ (.refl _))) rfl rfl (ej rfl))))
 replace h:=qe al h
 refine cO (ag.seq ?_)
 obtain⟨GK,Rw,h⟩:=aI.c2 h
 obtain⟨oE,Cp,h⟩:=aI.c2 h
 obtain⟨aK,cb,h⟩:=aI.c2 h
 refine ag.draw mixed 8 [some 35,some 36,some 37,some 38,some 39,some 40,some 41,some 42] [[],[0],[1],[2],[],[4],[],[6]] [.val _,.val _,.val _,.val _,.val _,.val _,.val _,.val _] [false,false,false,false,false,false,false,false] (by kernel_rfl) rfl rfl rfl (fun cx=>⟨ct,c1 fun ax ar=>dV (eL (ab rfl) Rw),H1 (aU EO),c1 fun ax ar=>gd ((aN.id hn).comp zt) (r:=oE.ly) BG (ab rfl) (kB (fun i e q=>ar i e q rfl) (fk (n:=2) rfl (m0 Cp) rfl)) rfl rfl,H1 (aU mX),dg 1 lx bE,eG 1 cM,eH B1 (Ac cb),trivial⟩) fun cx=>?_
 obtain⟨q5,Km,h⟩:=aI.c2 h
 obtain⟨pk,Cr,h⟩:=aI.c2 h
 obtain⟨de,kT,h⟩:=aI.c2 h
 refine ai.I5 (k':=Cell.kC (hc pk ah.cH aK)) 2 rfl (by first | exact .inl rfl | exact .inr rfl) Tryz.underlying119 Gb (mV (ab rfl) Km) (ab rfl) (ab rfl) (v3 Cr) rfl rfl rfl (aH kT) ?_
 refine bD ?_
 obtain⟨lQ,qG,h⟩:=aI.c2 h
 refine ag.draw mixed 5 [some 43,some 44,some 45,some 46,some 47] [[],[0],[1],[2],[]] [.val _,.val _,.val _,.val _,.val _] [false,false,false,false,false] (by kernel_rfl) rfl rfl rfl (fun hh=>⟨ct,c1 fun ax ar=>dV (eL (ab rfl) Rw),H1 (aU uj),c1 fun ax ar=>gd ((aN.id hn).comp tL) (r:=lQ.iW) sU (ab rfl) (kB (fun i e q=>ar i e q rfl) (fk (n:=2) rfl (m0 qG) rfl)) rfl rfl,eG 1 cM,trivial⟩) fun hh=>?_
 refine ai.yN 2 0 rfl (Tw h) rfl rfl ⟨ab rfl,ab rfl,trivial⟩ rfl fun⟨⟨bb,h⟩,aA⟩=>?_
 refine ai.ez (L2:=(⟨some ((fj 10 0).getD 0),.var (bH.getD default:aJ)⟩::⟨some a4,.var (ah:aJ)⟩::a8 bb)) rfl (bW (aM ?_))
 exact aL (ag.ret (ae.gr (⟨⟨(true,bb),h⟩,()⟩: {r // _}×_) (.cons _ (.cons _ (.refl _))) rfl rfl (ej rfl)))
theorem Md {hp:a1 Cell} {J:Ref} {ah:Vector an 4} {r:aJ×Bool} (h:xB hp J ah=some r):b9 Tryz.prog 12 [I.of (J),I.of (ah)] ([]++a8 hp) (δ:=Unit) (fun _=>I.ep [I.of (r.1),I.of (r.2)]) (fun _=>[]++a8 hp):=by
 unfold xB at h
 refine b9.of Tryz.func12 rfl Tryz.ntmps12 rfl fun W A=>?_
 refine aC (b7 fun a4=>?_)
 refine cC gx fun ba=>?_
 refine aM ?_
 refine bD (aC (aB ?_))
 refine bh (oR Tryz.underlying36 (ab rfl)) ?_
 refine aL (cg h (fun h=>?_) fun h=>?_)
 ·refine aC (hg wM gx (default:aJ) .nil ?_)
  refine b8 0 cM ?_
  refine aM ?_
  refine aL (ag.ret (ae.ret ?_))
  obtain rfl:=aH h
  exact ae.kN () (.cons _ (.cons _ (.refl _))) rfl rfl (j2 (i:=0) cM rfl rfl) (ej rfl)
 refine cO (ag.seq (aC (aB ?_)))
 refine aL (ag.block ?_)
 obtain⟨ay,ao,h⟩:=au h
 refine ag.qm (σ:=Int×(Vector an 4)) (ε:=(Int×Bool×(Vector an 4))) (γ:=Unit) (δ:=Unit) ao (fun s1 av=>[(0,I.of (J)),(1,I.of (ah)),(3,I.eq (.pointer (some ⟨a4,0,none⟩))),(4,I.eq (.pointer (some ⟨ba,0,none⟩))),(5,I.of (false)),(10,I.of (J.isNone)),(12,I.of (s1.1))]) (fun s1 av=>(⟨some ba,.var ((default:aJ):aJ)⟩::⟨some a4,.var (s1.2:Vector an 4)⟩::a8 hp)) (fun aA=>Exit.exit 0) (fun aA av=>[(0,I.of (J)),(1,I.of (ah)),(3,I.eq (.pointer (some ⟨a4,0,none⟩))),(4,I.eq (.pointer (some ⟨ba,0,none⟩))),(5,I.of (false)),(10,I.of (J.isNone)),(12,I.of (aA.1)),(13,I.of (aA.2.1))]) (fun aA av=>(⟨some ba,.var ((default:aJ):aJ)⟩::⟨some a4,.var (aA.2.2:Vector an 4)⟩::a8 hp)) () rfl .all (fun s1 r h av=>?_) (fun av=>?_)
 ·refine aC (bj ea ?_)
  refine bD (cg h (fun h=>?_) fun h=>?_)
  ·refine cO (ag.seq (ag.block (aC (aB ?_))))
   refine aM ?_
   refine bW (aB ?_)
   refine aB ?_
   obtain⟨cG,dF,h⟩:=au h
   refine bh (dV (eL (ab rfl) dF)) ?_
   refine aY (aU W8) ?_
   obtain⟨bY,ed,h⟩:=au h
   refine bh (gd ((aN.id hn).comp Ma) (r:=bY.pD) bE (ab rfl) (fk (n:=2) rfl (m0 ed) rfl) rfl rfl) ?_
   refine bj kf ?_
   refine aL ?_
   obtain⟨bx,cy,h⟩:=au h
   refine ag.c0 (γ:=Unit) (fun aW=>[(0,I.of (J)),(1,I.of (ah)),(3,I.eq (.pointer (some ⟨a4,0,none⟩))),(4,I.eq (.pointer (some ⟨ba,0,none⟩))),(5,I.of (false)),(6,I.of (s1.1)),(10,I.of (J.isNone)),(12,I.of (s1.1)),(13,I.of (decide (s1.1<4))),(20,I.of (decide (s1.1≥bY.pD)))]) (fun aW=>(⟨some ba,.var ((default:aJ):aJ)⟩::⟨some a4,.var (bx:Vector an 4)⟩::a8 hp)) (ab rfl) (fun aW=>?_) (fun hm al=>?_) (fun hm al=>?_)
   ·refine ae.dB (ae.next (ag.cm (bj dd ?_)))
    refine aB ?_
    refine ai.nil ?_
    obtain rfl:=aH h
    exact fc () 0
   ·have h:=gQ al cy
    refine ag.cm (aB ?_)
    refine hg hr en (default:an) .nil ?_
    obtain⟨aZ,cq,h⟩:=au h
    refine bh (eb (k:=aZ) fU (ab rfl) (ab rfl) (bZ cq)) ?_
    refine nc 1 ((aN.id (Vector an 4)).comp (aN.idx (α:=an) 4 aZ (bZ cq).1)) bG ?_
    refine ai.nil ?_
    obtain rfl:=aH h
    exact dq 0 (hm ())
   have h:=gR al cy
   refine ag.skip ?_
   obtain rfl:=aH h
   exact dq 0 (hm ())
  refine ag.exit (ae.exit ?_)
  obtain rfl:=aH h
  exact dY () 0
 refine ae.e1 (ae.next (ag.seq ?_))
 obtain⟨cv,fx,h⟩:=au h
 obtain⟨cN,fI,h⟩:=au h
 obtain⟨aD,bo,h⟩:=au h
 refine jk [0,1,3,4,5,10,12,13] ?_
 refine ag.qk 2 mixed (bg 26 [] [] _::bg 27 (0::[]) [] _::bg 28 (1::[]) [] _::⟨some 29,(2::[]),[],[],fun _=>I.of (cN.iW),fun _ _=>⟨none,.dead⟩⟩::bg 30 [] (1::[]) _::⟨some 31,(3::4::[]),[],[],fun _=>I.ep [I.of (aD.1),I.of (aD.2)],fun _ _=>⟨none,.dead⟩⟩::bg 25 (5::[]) [] _::bg 32 (6::[]) [] _::bg 33 (6::[]) [] _::bg 7 (7::[]) [] _::bg 8 (8::[]) [] _::[]) _ (0::1::3::4::5::10::12::13::[]) rfl rfl (by kernel_rfl) (by kernel_rfl) ⟨cI.q (fP),cI.q (cz fun hd E' ax aG ar=>dV (eL (ab (aG _ _ rfl)) fx)),cI.q (fy (aU uj)),?_,cI.q (lG 1 dW),?_,cI.q (fP),cI.q (cz fun hd E' ax aG ar=>lC (ab (aG _ _ rfl)) rfl),cI.q (cz fun hd E' ax aG ar=>lC (ab (aG _ _ rfl)) rfl),cI.q (cz fun hd E' ax aG ar=>ew (ab (aG _ _ rfl))),cI.q (cz fun hd E' ax aG ar=>ew (ab (aG _ _ rfl))),trivial⟩ fun fj=>?_
 ·intro hd E' ax aG ar dw
  refine bh (gd ((aN.id hn).comp tL) (r:=cN.iW) sU (ab (aG _ _ rfl)) (fk (n:=2) (dw.trans rfl) (m0 fI) rfl) rfl rfl) ?_
  exact ai.nil (ae.fin (eP []) rfl rfl)
 ·intro hd E' ax aG ar dw
  refine ai.jC (gJ.yN 2 (dw.trans rfl) (SY bo) ⟨ab (aG _ _ rfl),ab (aG _ _ rfl),trivial⟩) rfl rfl rfl ?_
  exact ai.nil (ae.fin (eP []) rfl rfl)
 refine ae.ez (L2:=(⟨some ba,.var ((default:aJ):aJ)⟩::⟨some a4,.var (ay.2.2:Vector an 4)⟩::a8 hp)) rfl (km [0,1,3,4,5,7,8,10,12,13,25,26,27,28,29,30,31,32,33] ?_)
 refine ae.next (aC (aB ?_))
 refine aB ?_
 refine aB ?_
 obtain⟨aK,cb,h⟩:=au h
 refine ai.jC (gJ.kO 2 rfl Q8 (Mf cb) ⟨ab rfl,ab rfl,ab rfl,trivial⟩) rfl rfl rfl ?_
 refine eO ?_
 refine eO ?_
 refine b8 0 cM ?_
 refine aM ?_
 refine aL (ag.ret ?_)
 obtain rfl:=aH h
 exact ae.kN () (.cons _ (.cons _ (.refl _))) rfl rfl (j2 (i:=0) cM rfl rfl) (ej rfl)
theorem Tj {hp:a1 Cell} {J:Ref} {ah:bC} {Q:aJ×Bool×(a1 Cell)→Prop} (h:zO hp J ah Q):b9 Tryz.prog 11 [I.of (J),I.of (ah)] ([]++a8 hp) (δ:= {r:aJ×Bool×(a1 Cell) // Q r}×Unit) (fun d=>I.ep [I.of (d.1.1.1),I.of (d.1.1.2.1)]) (fun d=>[]++a8 d.1.1.2.2):=by
 unfold zO at h
 refine b9.of Tryz.func11 rfl Tryz.ntmps11 rfl fun W A=>?_
 refine aC (b7 fun a4=>?_)
 refine cC gx fun ba=>?_
 refine aM ?_
 refine bW (aB ?_)
 refine cr 1 hN ?_
 obtain⟨aD,bo,h⟩:=aI.c2 h
 refine ai.jC (gJ.kO 2 rfl abo (TH bo) ⟨ab rfl,ab rfl,trivial⟩) rfl rfl rfl ?_
 refine aB ?_
 refine eO ?_
 refine eO ?_
 refine cC gx fun ck=>?_
 refine b8 0 cM ?_
 refine aM ?_
 refine bD (aC (aB ?_))
 refine aL (ag.yp (γ:=Unit) h (fun bx av=>[(0,I.of (J)),(1,I.of (ah)),(3,I.eq (.pointer (some ⟨a4,0,none⟩))),(4,I.eq (.pointer (some ⟨ba,0,none⟩))),(5,I.of (false)),(6,I.eq (.pointer (some ⟨ck,0,none⟩))),(7,I.of (aD.2)),(14,I.of (aD.2))]) (fun bx av=>(⟨some ck,.var (aD.1:aJ)⟩::⟨some ba,.var ((default:aJ):aJ)⟩::⟨some a4,.var (ah:bC)⟩::a8 bx)) (ab rfl) (fun bx av h=>?_) (fun hm al h=>?_) (fun hm al h=>?_))
 ·refine ae.next (aC (cr 0 cM ?_))
  refine aB ?_
  refine b8 1 cM ?_
  refine aM ?_
  exact aL (ag.ret (ae.kN (⟨⟨(aD.1,aD.2,bx),h⟩,()⟩: {r // _}×_) (.cons _ (.cons _ (.cons _ (.refl _)))) rfl rfl (j2 (i:=1) cM rfl rfl) (ej rfl)))
 ·refine ag.seq ?_
  obtain⟨cG,dF,h⟩:=aI.c2 h
  obtain⟨bY,ed,h⟩:=aI.c2 h
  refine ag.draw mixed 5 [some 15,some 16,some 17,some 18,some 19] [[],[0],[1],[2],[]] [.val _,.val _,.val _,.val _,.val _] [false,false,false,false,false] (by kernel_rfl) rfl rfl rfl (fun cx=>⟨ct,c1 fun ax ar=>dV (eL (ab rfl) dF),H1 (aU uj),c1 fun ax ar=>gd ((aN.id hn).comp tL) (r:=bY.iW) sU (ab rfl) (kB (fun i e q=>ar i e q rfl) (fk (n:=3) rfl (m0 ed) rfl)) rfl rfl,eG 0 cM,trivial⟩) fun cx=>?_
  refine ai.yN 3 0 rfl (SZ h) rfl rfl ⟨ab rfl,ab rfl,trivial⟩ rfl fun⟨⟨aK,h⟩,aA⟩=>?_
  refine ai.ez (L2:=(⟨some ck,.var (aD.1:aJ)⟩::⟨some ba,.var ((default:aJ):aJ)⟩::⟨some a4,.var (ah:bC)⟩::a8 aK)) rfl (aL ?_)
  obtain⟨cN,fI,h⟩:=aI.c2 h
  refine ag.draw mixed 6 [some 21,some 22,some 23,some 24,some 25,some 26] [[],[0],[1],[2],[],[4]] [.val _,.val _,.val _,.val _,.val _,.val _] [false,false,false,false,false,false] (by kernel_rfl) rfl rfl rfl (fun hh=>⟨ct,c1 fun ax ar=>dV (eL (ab rfl) dF),H1 (aU EO),c1 fun ax ar=>gd ((aN.id hn).comp zt) (r:=cN.ly) BG (ab rfl) (kB (fun i e q=>ar i e q rfl) (fk (n:=3) rfl (m0 fI) rfl)) rfl rfl,H1 (aU mX),dg 0 lx bE,trivial⟩) fun hh=>?_
  obtain⟨cv,fx,h⟩:=aI.c2 h
  obtain⟨e4,lJ,h⟩:=aI.c2 h
  obtain⟨de,kT,h⟩:=aI.c2 h
  exact ai.I9 (k':=Cell.kC (ir e4 aD.1.cH)) 3 rfl Tryz.underlying119 Gb (mV (ab rfl) fx) (ab rfl) (v3 lJ) rfl rfl rfl (aH kT) (ai.nil (dq 0 (hm de () h)))
 exact ag.skip (dq 0 (hm hp () h))
theorem UL {hp:a1 Cell} {J:a3} {ah:Int} {Q:Ref×(a1 Cell)→Prop} (h:x7 hp J ah Q):b9 Tryz.prog 9 [I.of (J),I.of (ah)] ([]++a8 hp) (δ:= {r:Ref×(a1 Cell) // Q r}×Unit) (fun d=>I.of (d.1.1.1)) (fun d=>[]++a8 d.1.1.2):=by
 unfold x7 at h
 refine b9.of Tryz.func9 rfl Tryz.ntmps9 rfl fun W A=>?_
 refine aC (b7 fun a4=>?_)
 refine bh (ew (rl)) ?_
 refine bW (cr 0 gv ?_)
 refine aB ?_
 obtain⟨aD,bo,h⟩:=aI.c2 h
 refine du FL (D2 bo) ?_
 refine aM ?_
 refine bD (aC (aB ?_))
 refine bj ea ?_
 refine aL (ag.cond (ab rfl) (fun al=>?_) (fun al=>?_))
 ·replace h:=qd al h
  refine aC (bh (ew (rl)) ?_)
  exact aL (ag.ret (ae.ret (ae.gr (⟨⟨((none:Ref),hp),h⟩,()⟩: {r // _}×_) (.cons _ (.refl _)) rfl rfl (ej rfl))))
 replace h:=qe al h
 refine cO (aC (aY (aU mY) ?_))
 refine cc 0 mU mz ?_
 refine aB ?_
 obtain⟨aZ,cq,h⟩:=aI.c2 h
 refine g5 cq Tryz.underlying27 gu ?_
 refine aY (da gu) ?_
 refine cC l6 fun ba=>?_
 refine b8 0 gu ?_
 refine bW (cr 0 gu ?_)
 obtain⟨aK,cb,h⟩:=aI.c2 h
 refine du abp (Ue cb) ?_
 refine aB ?_
 refine eO ?_
 refine eO ?_
 refine aM ?_
 refine aM ?_
 refine bW (aB ?_)
 refine aY (aU k8) ?_
 refine cc 0 jZ kQ ?_
 refine aY (eK Tryz.underlying40) ?_
 refine ai.ID (α:=Int) (β:=aJ) 2 rfl (Cell.kC ([]:List (Int×aJ))) (fun _=>rfl) rfl fun dA wV=>?_
 replace h:=aI.uh h dA wV
 obtain⟨bH,dt,h⟩:=aI.c2 h
 refine dG dt (c9 (b:=({ (default:hn) with sK:=aK.1,pD:=(((az J.bt aZ).bN).length:Int),ly:=(⟨some dA.1⟩:gS) } :hn)) rfl ZL ZM (.cons Ta rfl (ab rfl) rfl (.cons Ma rfl (ab rfl) rfl (.cons zt rfl (ab rfl) rfl (.nil))))) ?_
 refine ai.BR 2 rfl (Cell.ny bH) (fun _=>rfl) (ab rfl) rfl fun dK Ck=>?_
 replace h:=aI.uh h dK Ck
 refine aM ?_
 refine bD (aC (aB ?_))
 refine aL (ag.block (aC (bj gf ?_)))
 refine aM ?_
 refine aL (ag.yp (γ:=Unit) h (fun bx av=>[(0,I.of (J)),(1,I.of (ah)),(2,I.eq (.pointer (some ⟨a4,0,none⟩))),(4,I.of (none:Ref)),(5,I.of (aD)),(6,I.eq (.pointer (some ⟨ba,0,none⟩))),(7,I.of (aK.1)),(8,I.of (aK.2)),(9,I.of (some dK.1:Ref)),(16,I.of (decide (aD<0))),(34,I.of (aK.1)),(42,I.of (aK.1==1))]) (fun bx av=>(⟨some ba,.var (az J.bt aZ:bX)⟩::⟨some a4,.var (J:a3)⟩::a8 bx)) (ab rfl) (fun bx av h=>?_) (fun hm al h=>?_) (fun hm al h=>?_))
 ·refine ae.dB (ae.next (aC (aB ?_)))
  refine aM ?_
  exact aL (ag.ret (ae.gr (⟨⟨((some dK.1:Ref),bx),h⟩,()⟩: {r // _}×_) (.cons _ (.cons _ (.refl _))) rfl rfl (ej rfl)))
 ·refine ag.cm (aB ?_)
  refine ai.m1 2 0 rfl abq (UH h) rfl rfl trivial rfl fun⟨⟨bb,h⟩,aA⟩=>?_
  refine ai.ez (L2:=(⟨some ba,.var (az J.bt aZ:bX)⟩::⟨some a4,.var (J:a3)⟩::a8 bb.2)) rfl (hg ZN ZO { qH:=bb.1:ka } (j5 zR .nil) ?_)
  refine bh (IN Tryz.underlying127 rfl (ab rfl) (fun _ _ _ h=>VL h)) ?_
  refine bh (dV (eL (ab rfl) rfl)) ?_
  refine aY (aU uj) ?_
  obtain⟨bY,ed,h⟩:=aI.c2 h
  obtain⟨de,kT,h⟩:=aI.c2 h
  exact ai.oa (k':=Cell.ny ({ bY with iW:=(gM.mA ({ qH:=bb.1:ka })) } :hn)) 2 rfl ((aN.id hn).comp tL) (v:=((gM.mA ({ qH:=bb.1:ka })):gM)) sU (ab rfl) (ab rfl) (m0 ed) rfl rfl rfl rfl (aH kT) (ai.nil (dq 0 (hm de () h)))
 refine aC (bj gf ?_)
 refine aM ?_
 refine aL (ag.yp (γ:=Unit) h (fun cY aW=>[(0,I.of (J)),(1,I.of (ah)),(2,I.eq (.pointer (some ⟨a4,0,none⟩))),(4,I.of (none:Ref)),(5,I.of (aD)),(6,I.eq (.pointer (some ⟨ba,0,none⟩))),(7,I.of (aK.1)),(8,I.of (aK.2)),(9,I.of (some dK.1:Ref)),(16,I.of (decide (aD<0))),(34,I.of (aK.1)),(42,I.of (aK.1==1)),(50,I.of (aK.1==2))]) (fun cY aW=>(⟨some ba,.var (az J.bt aZ:bX)⟩::⟨some a4,.var (J:a3)⟩::a8 cY)) (ab rfl) (fun cY aW h=>?_) (fun hm al h=>?_) (fun hm al h=>?_))
 ·exact dq 0 (hm cY () h)
 ·refine aC (aM ?_)
  refine bD (ag.seq ?_)
  obtain⟨bP,c6,h⟩:=aI.c2 h
  obtain⟨bJ,e2,h⟩:=aI.c2 h
  refine ag.draw mixed 8 [some 52,some 53,some 54,some 55,some 56,some 57,some 58,some 59] [[],[],[1],[],[2,3],[4],[5],[0,6]] [.val _,.val _,.val _,.val _,.val _,.val _,.val _,.val _] [false,false,false,false,false,false,false,false] (by kernel_rfl) rfl rfl rfl (fun cx=>⟨eG 1 gv,H1 (aU k8),dg 0 jZ kQ,ct,kX c6 Tryz.underlying40 iZ,oy nU Be,H1 (da bE),eH JO (Hq e2),trivial⟩) fun cx=>?_
  refine aM ?_
  refine bW (aB ?_)
  refine bj kf ?_
  refine aL ?_
  obtain⟨fA,g6,h⟩:=aI.c2 h
  refine ag.c0 (γ:=Unit) (fun bB=>[(0,I.of (J)),(1,I.of (ah)),(2,I.eq (.pointer (some ⟨a4,0,none⟩))),(4,I.of (none:Ref)),(5,I.of (aD)),(6,I.eq (.pointer (some ⟨ba,0,none⟩))),(7,I.of (aK.1)),(8,I.of (aK.2)),(9,I.of (some dK.1:Ref)),(10,I.of (fA)),(11,I.of (bJ)),(16,I.of (decide (aD<0))),(34,I.of (aK.1)),(42,I.of (aK.1==1)),(50,I.of (aK.1==2)),(61,I.of (decide (bJ≥0)))]) (fun bB=>(⟨some ba,.var (az J.bt aZ:bX)⟩::⟨some a4,.var (J:a3)⟩::a8 dK.2)) (ab rfl) (fun bB=>?_) (fun hm al=>?_) (fun hm al=>?_)
  ·refine ae.next (ag.cm (aB ?_))
   refine aB ?_
   refine aB ?_
   refine ai.ID (α:=Vector an 4) (β:=Ref) 2 rfl (Cell.l7 ([]:List ((Vector an 4)×Ref))) (fun _=>rfl) rfl fun hH acs=>?_
   replace h:=aI.uh h hH acs
   obtain⟨dn,hx,h⟩:=aI.c2 h
   refine dG hx (c9 (b:= { sV:=aK.2,fL:=fA,n6:=(⟨some hH.1⟩:gS):gZ }) rfl ZP ZQ (.cons zu rfl (ab rfl) rfl (.cons Dz rfl (ab rfl) rfl (.cons re rfl (ab rfl) rfl (.nil))))) ?_
   refine bh (IN Tryz.underlying130 rfl (ab rfl) (fun _ _ _ h=>VM h)) ?_
   refine bh (dV (eL (ab rfl) rfl)) ?_
   refine aY (aU uj) ?_
   obtain⟨cN,fI,h⟩:=aI.c2 h
   obtain⟨dk,uK,h⟩:=aI.c2 h
   exact ai.oa (k':=Cell.ny ({ cN with iW:=(gM.mB dn) } :hn)) 2 rfl ((aN.id hn).comp tL) (v:=((gM.mB dn):gM)) sU (ab rfl) (ab rfl) (m0 fI) rfl rfl rfl rfl (aH uK) (ai.nil (dq 0 (hm dk () h)))
  ·have h:=gQ al g6
   refine ag.cm (aY (aU uo) ?_)
   refine cc 1 tM sZ ?_
   refine aB ?_
   obtain⟨cT,fe,h⟩:=au h
   refine g5 fe Tryz.underlying23 oY ?_
   refine Cl nT A5 ?_
   refine aY (da bE) ?_
   refine aM ?_
   refine ai.nil ?_
   obtain rfl:=aH h
   exact dq 0 (hm ())
  have h:=gR al g6
  refine ag.skip ?_
  obtain rfl:=aH h
  exact dq 0 (hm ())
 refine ag.cm (aB ?_)
 refine cr 1 gv ?_
 obtain⟨bq,gG,h⟩:=aI.c2 h
 refine ff 0 abr (TJ gG) fun cU=>?_
 refine ai.ZR 4 2 (Cell.rQ bq cU.2.1 cU.2.2) rfl rfl rfl rfl List.mem_cons_self fun jV Gg acu=>?_
 replace h:=h (cU.2.1,cU.2.2) jV Gg
 refine ai.ZS 37 rfl acu (hg ZT ZU { ch:=(some jV.1:Ref):jD } (j5 zW .nil) ?_)
 refine bh (IN Tryz.underlying134 rfl (ab rfl) (fun _ _ _ h=>VN h)) ?_
 refine bh (dV (eL (ab rfl) rfl)) ?_
 refine aY (aU uj) ?_
 obtain⟨e4,lJ,h⟩:=aI.c2 h
 obtain⟨hi,B2,h⟩:=aI.c2 h
 exact ai.oa (k':=Cell.ny ({ e4 with iW:=(gM.mC ({ ch:=(some jV.1:Ref):jD })) } :hn)) 2 rfl ((aN.id hn).comp tL) (v:=((gM.mC ({ ch:=(some jV.1:Ref):jD })):gM)) sU (ab rfl) (ab rfl) (m0 lJ) rfl rfl rfl rfl (aH B2) (ai.nil (dq 0 (hm hi () h)))
theorem Tx {J:bu} {ah:a3} {aP:cR} {cu:Nat} {r:cA×bu} (h:zZ J ah aP=some r):b9 Tryz.prog 64 [I.eq (.pointer (some ⟨cu,0,none⟩)),I.of (ah),I.of (aP)] [⟨some cu,.var (J:bu)⟩] (δ:=Unit) (fun d=>I.of (r.1)) (fun d=>[⟨some cu,.var (r.2:bu)⟩]):=by
 unfold zZ at h
 refine b9.of Tryz.func64 rfl Tryz.ntmps64 rfl fun W A=>?_
 refine aC (b7 fun a4=>?_)
 refine b7 fun ba=>?_
 refine cC m9 fun ck=>?_
 refine bW (cr 2 gv ?_)
 refine aY (aU Be) ?_
 refine cc 1 nU bE ?_
 obtain⟨aD,bo,h⟩:=au h
 refine du abt (Uf bo) ?_
 refine aM ?_
 refine bW (aB ?_)
 refine ai.bI 3 rfl ?_
 obtain⟨aK,cb,h⟩:=au h
 refine ff 1 gT (gL cb) fun aA=>?_
 refine aY (iX Tryz.underlying3 Tryz.underlying46) ?_
 refine bh (n3 (ab rfl) (fT 24 rfl)) ?_
 refine aB ?_
 refine ai.bI 0 rfl ?_
 obtain⟨bb,dR,h⟩:=au h
 refine ff 1 gT (gL dR) fun cU=>?_
 refine aY (iX Tryz.underlying3 Tryz.underlying46) ?_
 refine bh (n3 (ab rfl) (fT 8 rfl)) ?_
 obtain⟨bH,dt,h⟩:=au h
 refine dG dt (rB (ab rfl) (ab rfl)) ?_
 refine aB ?_
 refine ai.bI 0 rfl ?_
 obtain⟨bJ,e2,h⟩:=au h
 refine ff 1 gT (gL e2) fun et=>?_
 refine aY (iX Tryz.underlying3 Tryz.underlying46) ?_
 refine bj rB ?_
 obtain⟨dn,hx,h⟩:=au h
 refine dG hx (c9 (b:=({ (default:an) with b2:=bH|||(BitVec.ofInt 64 bJ.1) } :an)) rfl hr en (.cons ev rfl (ab rfl) rfl (.nil))) ?_
 refine aB ?_
 obtain⟨bq,gG,h⟩:=au h
 refine du FO (Ea gG) ?_
 refine cC en fun eW=>?_
 refine b8 0 bG ?_
 refine bD (aC (aY (aU sG) ?_))
 refine cc 3 lW bE ?_
 refine aL (ag.block (aC (bj gf ?_)))
 refine aM ?_
 refine aL (cg h (fun h=>?_) fun h=>?_)
 ·refine aC (aB ?_)
  refine ai.bI 1 rfl ?_
  obtain⟨b6,gH,h⟩:=au h
  refine ff 1 gT (gL gH) fun jS=>?_
  refine bj pI ?_
  refine aL (cg h (fun h=>?_) fun h=>?_)
  ·refine aC (aB ?_)
   refine aB ?_
   refine aB ?_
   refine ai.bI 0 rfl ?_
   obtain⟨eB,mI,h⟩:=au h
   refine ff 1 gT (gL mI) fun eu=>?_
   refine bj dd ?_
   refine gV [aD,8,16,1,bs (1+eB.1)] Tryz.underlying41 bE h0 ?_
   refine aB ?_
   refine ai.bI 0 rfl ?_
   obtain⟨fN,mb,h⟩:=au h
   refine ff 1 gT (gL mb) fun jU=>?_
   obtain⟨aZ,cq,h⟩:=au h
   refine g5 cq Tryz.underlying41 bE ?_
   refine aY (da bE) ?_
   refine aM ?_
   refine bD ?_
   obtain⟨e8,o8,h⟩:=au h
   obtain⟨fm,jH,h⟩:=au h
   obtain⟨hF,mF,h⟩:=au h
   refine ag.draw mixed 10 [some 51,some 52,some 53,some 54,some 55,some 56,some 57,some 58,some 59,some 60] [[],[],[1],[],[],[3,4],[5],[2,6],[7],[0,8]] [.val _,.val _,.val _,.val _,.val _,.val _,.val _,.val _,.val _,.val _] [false,false,false,false,false,false,false,false,false,false] (by kernel_rfl) rfl rfl rfl (fun cx=>⟨ct,H1 (aU im),dg 1 ev eN,ct,ct,eH abu (Uv o8),c1 fun ax ar=>Ic ev OV eN rfl (ab rfl) rfl rfl,jc rr,u9 jH fun ax ar=>c9 (b:=({ (default:an) with b2:=bq.b2&&&e8.b2 } :an)) rfl hr en (.cons ev rfl (ab rfl) rfl (.nil)),u9 mF fun ax ar=>c9 (b:=({ (default:cA) with g1:=true,fp:=az [aD,8,16,1,bs (1+eB.1)] aZ,bS:=fm } :cA)) rfl wN m9 (.cons nQ rfl (gi true) rfl (.cons nR rfl (ab rfl) rfl (.cons k6 rfl (ab rfl) rfl (.nil)))),trivial⟩) fun cx=>?_
   refine b8 2 gw ?_
   refine aL (ag.ret (ae.dz (ae.ret (ae.bI 0 rfl ?_))))
   obtain rfl:=aH h
   exact ae.gr () (.cons_cons _ (List.nil_sublist _)) rfl rfl (j2 (i:=2) gw rfl rfl)
  refine ag.skip (ae.dB (ae.next (aC (hg wN m9 (default:cA) .nil ?_))))
  refine b8 2 gw ?_
  refine aL (ag.ret (ae.bI 0 rfl ?_))
  obtain rfl:=aH h
  exact ae.gr () (.cons_cons _ (List.nil_sublist _)) rfl rfl (j2 (i:=2) gw rfl rfl)
 refine aC (bj gf ?_)
 refine aM ?_
 refine aL (cg h (fun h=>?_) fun h=>?_)
 ·refine aC (aB ?_)
  refine ai.bI 1 rfl ?_
  obtain⟨ee,qt,h⟩:=au h
  refine ff 1 gT (gL qt) fun q4=>?_
  refine gV ([255,15,1,12,ee.1]:List Int) Tryz.underlying41 bE h0 ?_
  refine aB ?_
  refine ai.bI 0 rfl ?_
  obtain⟨jl,s4,h⟩:=au h
  refine ff 1 gT (gL s4) fun tB=>?_
  obtain⟨bP,c6,h⟩:=au h
  refine g5 c6 Tryz.underlying41 bE ?_
  refine aY (da bE) ?_
  refine aY (iX Tryz.underlying3 Tryz.underlying46) ?_
  obtain⟨hG,nC,h⟩:=au h
  refine dG nC (c9 (b:=({ (default:an) with b2:=BitVec.ofInt 64 (az ([255,15,1,12,ee.1]:List Int) bP) } :an)) rfl hr en (.cons ev rfl (ab rfl) rfl (.nil))) ?_
  refine aB ?_
  obtain⟨jb,s5,h⟩:=au h
  refine du FO (Ea s5) ?_
  refine cC en fun jd=>?_
  refine b8 0 bG ?_
  refine bW (aY (aU im) ?_)
  refine cc 0 ev eN ?_
  refine bh (Ok (ab rfl) (fT 0 rfl)) ?_
  refine aL (cg h (fun h=>?_) fun h=>?_)
  ·refine aC (cr 0 bG ?_)
   refine aY (aU im) ?_
   refine cc 2 ev eN ?_
   refine aY (aU im) ?_
   refine cc 0 ev eN ?_
   refine bj rr ?_
   obtain⟨jQ,qB,h⟩:=au h
   refine dG qB (c9 (b:=({ (default:an) with b2:=bq.b2&&&jb.b2 } :an)) rfl hr en (.cons ev rfl (ab rfl) rfl (.nil))) ?_
   obtain⟨jR,qC,h⟩:=au h
   refine dG qC (c9 (b:=({ (default:cA) with g1:=true,b3:=jb,bS:=jQ } :cA)) rfl wN m9 (.cons nQ rfl (gi true) rfl (.cons pv rfl (ab rfl) rfl (.cons k6 rfl (ab rfl) rfl (.nil))))) ?_
   refine b8 3 gw ?_
   refine aL (ag.ret (ae.dz (ae.ret (ae.bI 1 rfl ?_))))
   obtain rfl:=aH h
   exact ae.gr () (.cons_cons _ (List.nil_sublist _)) rfl rfl (j2 (i:=3) gw rfl rfl)
  refine ag.skip (ae.dB (ae.next (aC (hg wN m9 (default:cA) .nil ?_))))
  refine b8 3 gw ?_
  refine aL (ag.ret (ae.bI 1 rfl ?_))
  obtain rfl:=aH h
  exact ae.gr () (.cons_cons _ (List.nil_sublist _)) rfl rfl (j2 (i:=3) gw rfl rfl)
 refine aC (bj gf ?_)
 refine aM ?_
 refine aL (cg h (fun h=>?_) fun h=>?_)
 ·refine ag.seq ?_
  obtain⟨jx,wI,h⟩:=au h
  obtain⟨ih,tc,h⟩:=au h
  refine jk [0,1,2,4,5,6,7,8,12,13,14,15,16,17,18,19,20,21,22,23,24,25,26,27,28,29,30,31,32,33,36,37,61,62,85,86] ?_
  refine ag.kP mixed (bg 87 [] [] _::bg 88 (0::[]) (0::[]) _::bg 89 [] [] _::⟨some 90,(2::[]),(1::[]),(1::[]),fun _=>I.of (jx.1),fun hd _=>⟨some cu,.var (jx.2:bu)⟩⟩::bg 91 (3::[]) [] _::bg 92 (1::4::[]) [] _::bg 93 [] [] _::bg 94 (6::[]) [] _::bg 95 (7::[]) [] _::bg 96 (8::[]) [] _::bg 97 (5::9::[]) [] _::bg 11 (10::[]) [] _::[]) _ (0::1::2::4::5::6::7::8::12::13::14::15::16::17::18::19::20::21::22::23::24::25::26::27::28::29::30::31::32::33::36::37::61::62::85::86::[]) rfl rfl (by kernel_rfl) ⟨fy (aU im),o3 0 ev eN,fP,?_,fy (iX Tryz.underlying3 Tryz.underlying46),zb W9,fP,fy (iX Tryz.underlying3 Tryz.underlying147),cz fun hd E' ax aG ar=>n3 (fT 1 rfl) (ab (aG _ _ rfl)),cz fun hd E' ax aG ar=>ui (ab (aG _ _ rfl)) (fT 1 rfl),cz fun hd E' ax aG ar=>(Wq (ab (aG _ _ rfl)) (ab (aG _ _ rfl))).as (aH tc),cz fun hd E' ax aG ar=>ew (ab (aG _ _ rfl)),trivial⟩ fun fj=>?_
  ·intro hd E' ax aG ar
   refine ai.bI 1 (ar 1 _ rfl rfl) (ai.nw (Lin:= [⟨some cu,.var (bJ.2:bu)⟩]) (Lr:=ax.eraseIdx 1) gT (gL wI) ⟨ab (aG _ _ rfl),bU 256,trivial⟩ rfl fun mS=>?_)
   exact ai.nil (ae.back 1 (ar 1 _ rfl rfl) (ae.fin (eP []) rfl rfl))
  refine ae.ez (L2:= [⟨some eW,.var (bq:an)⟩,⟨some cu,.var (jx.2:bu)⟩,⟨some ck,.var ((default:cA):cA)⟩,⟨some ba,.var (aP:cR)⟩,⟨some a4,.var (ah:a3)⟩]) rfl (km [0,1,2,4,5,6,7,8,11,12,13,14,15,16,17,18,19,20,21,22,23,24,25,26,27,28,29,30,31,32,33,36,37,61,62,85,86,87,88,89,90,91,92,93,94,95,96,97] ?_)
  refine ae.next (aC (aB ?_))
  refine ai.bI 1 rfl ?_
  obtain⟨kG,wJ,h⟩:=au h
  refine ff 1 gT (gL wJ) fun F7=>?_
  refine bj pI ?_
  refine aB ?_
  refine dE (aU im) ?_
  refine eI (fun hb=>fa (i:=1) ((aN.id an).comp ev) (r:=bq.b2) eN (cJ rfl hb) rfl rfl rfl) ?_
  refine eI (fun hb=>yf (cJ rfl hb) (fT 0 rfl)) ?_
  refine dE cV ?_
  refine ai.gg (fun hb=>cV (ab rfl)) rfl rfl rfl rfl rfl (ai.gg (fun hb=>cV (ab rfl)) rfl rfl rfl rfl rfl (ai.gg (fun hb=>iX Tryz.underlying3 Tryz.underlying147 (cJ rfl hb)) rfl rfl rfl rfl rfl (ai.gg (fun hb=>n3 (fT 1 rfl) (cJ rfl hb)) rfl rfl rfl rfl rfl (ai.gg (fun hb=>ui (cJ rfl hb) (fT 1 rfl)) rfl rfl rfl rfl rfl (ai.gg (fun hb=>yf (cJ rfl hb) (cJ rfl hb)) rfl rfl rfl rfl rfl (eI (fun hb=>rF (cJ rfl hb) (ab rfl) (fun h=>⟨hb,h⟩)) ?_))))))
  refine dE hL ?_
  obtain⟨mj,wY,h⟩:=au h
  refine dG wY (rF (ab rfl) (ab rfl) (fun h=>h)) ?_
  refine aL (cg h (fun h=>?_) fun h=>?_)
  ·refine aC (cr 1 bG ?_)
   refine aB ?_
   refine hg hr en ({ (default:an) with b2:=ih } :an) (j5 ev .nil) ?_
   obtain⟨lH,wF,h⟩:=au h
   refine dG wF (c9 (b:=({ (default:cA) with g1:=true,bS:=bq,l0:=({ (default:an) with b2:=ih } :an) } :cA)) rfl wN m9 (.cons nQ rfl (gi true) rfl (.cons k6 rfl (ab rfl) rfl (.cons xE rfl (ab rfl) rfl (.nil))))) ?_
   refine b8 2 gw ?_
   refine aL (ag.ret (ae.dz (ae.ret (ae.bI 0 rfl ?_))))
   obtain rfl:=aH h
   exact ae.gr () (.cons_cons _ (List.nil_sublist _)) rfl rfl (j2 (i:=2) gw rfl rfl)
  refine ag.skip (ae.dB (ae.next (aC (hg wN m9 (default:cA) .nil ?_))))
  refine b8 2 gw ?_
  refine aL (ag.ret (ae.bI 0 rfl ?_))
  obtain rfl:=aH h
  exact ae.gr () (.cons_cons _ (List.nil_sublist _)) rfl rfl (j2 (i:=2) gw rfl rfl)
 refine aC (cr 0 bG ?_)
 obtain⟨lk,wG,h⟩:=au h
 refine dG wG (c9 (b:=({ (default:cA) with g1:=true,bS:=bq } :cA)) rfl wN m9 (.cons nQ rfl (gi true) rfl (.cons k6 rfl (ab rfl) rfl (.nil)))) ?_
 refine b8 2 gw ?_
 refine aL (ag.ret (ae.dz (ae.ret (ae.bI 1 rfl ?_))))
 obtain rfl:=aH h
 exact ae.gr () (.cons_cons _ (List.nil_sublist _)) rfl rfl (j2 (i:=2) gw rfl rfl)
theorem Ty {J:bu} {ah:a3} {aP:Int} {cu:Nat} {r:bC×bu} (h:z0 J ah aP=some r):b9 Tryz.prog 27 [I.eq (.pointer (some ⟨cu,0,none⟩)),I.of (ah),I.of (aP)] [⟨some cu,.var (J:bu)⟩] (δ:=Unit) (fun d=>I.of (r.1)) (fun d=>[⟨some cu,.var (r.2:bu)⟩]):=by
 unfold z0 at h
 refine b9.of Tryz.func27 rfl Tryz.ntmps27 rfl fun W A=>?_
 refine aC (b7 fun a4=>?_)
 refine cC yK fun ba=>?_
 refine bD ?_
 obtain⟨aD,bo,h⟩:=au h
 obtain⟨aZ,cq,h⟩:=au h
 refine ag.draw mixed 10 [some 13,some 14,some 15,some 16,some 17,some 18,some 19,some 20,some 21,some 7] [[],[0],[],[],[3],[4],[2,5],[1,6],[7],[]] [.val _,.val _,.val _,.val _,.val _,.val _,.val _,.val _,.val _,.new (.var (default:bX))] [false,false,false,false,false,false,false,false,false,false] (by kernel_rfl) rfl rfl rfl (fun cx=>⟨H1 (aU mY),dg 1 mU mz,ct,H1 (aU mY),dg 1 mU mz,H1 (eK Tryz.underlying27),eH JW (Hz bo),kX cq Tryz.underlying27 gu,H1 (da gu),sv l6,trivial⟩) fun cx=>?_
 refine b8 0 gu ?_
 refine bW (aY (aU vV) ?_)
 refine cc 0 p9 bE ?_
 refine bh (rp (b:=({ (default:bC) with ef:=(az ah.bt aZ).b0 } :bC)) [1,4] NH rfl JU yK (.cons rh rfl (ab rfl) rfl (by rfl) (.nil))) ?_
 refine ai.own (α:=cA) 50 (ai.own (α:=an) 48 (ai.n9 (z:=(default:bC)) [1,4] NH yK rfl fun ck=>?_))
 refine ai.own (α:=cA) 50 (ai.own (α:=an) 48 (ai.sI (i:=2) hN (ab rfl) (ab rfl) rfl (bD (aC (aY (aU k8) ?_)))))
 refine cc 5 jZ kQ ?_
 refine aY (eK Tryz.underlying40) ?_
 refine aB ?_
 refine aL (ag.block ?_)
 obtain⟨ay,ao,h⟩:=au h
 refine gE (γ:=(Option Nat×Nat)) (δ:=(Option Nat×Nat)) ao [0,1,2,4,6,7,8,26,27] (fun s1 av=>[(28,I.of (s1.1))]) (fun s1 av=>[(2,⟨some ck,.cj (s1.2.1:bC) [(1,aS av.1 s1.2.2.1.length av.2),(4,aS none ([]:List an).length 0)]⟩),(4,⟨av.1,.row 50 (s1.2.2.1:List cA) av.2⟩),(8,⟨some cu,.var (s1.2.2.2:bu)⟩)]) (fun aA=>Exit.exit 0) (fun aA av=>[(28,I.of (aA.1)),(29,I.of (aA.2.1))]) (fun aA av=>[(2,⟨some ck,.cj (aA.2.2.1:bC) [(1,aS av.1 aA.2.2.2.1.length av.2),(4,aS none ([]:List an).length 0)]⟩),(4,⟨av.1,.row 50 (aA.2.2.2.1:List cA) av.2⟩),(8,⟨some cu,.var (aA.2.2.2.2:bu)⟩)]) (none,0) (fun s1 r h av=>?_) fun av=>?_
 ·refine aC (bj ea ?_)
  refine bD (cg h (fun h=>?_) fun h=>?_)
  ·refine cO (ag.seq (ag.block (aC ?_)))
   obtain⟨bP,c6,h⟩:=au h
   refine g5 c6 Tryz.underlying40 iZ ?_
   refine aY (da iZ) ?_
   refine cC ki fun eW=>?_
   refine b8 0 iZ ?_
   refine bD ?_
   obtain⟨aK,cb,h⟩:=au h
   obtain⟨bb,dR,h⟩:=au h
   refine jk [0,1,2,4,6,7,8,10,26,27,28,29,30,31] ?_
   refine ag.kP mixed (bg 32 [] [] _::bg 33 (0::[]) (3::[]) _::bg 34 [] [] _::bg 35 [] (8::[]) _::bg 36 [] (0::[]) _::⟨some 37,(2::3::4::[]),(9::[]),(9::[]),fun _=>I.of (aK.1),fun hd _=>⟨some cu,.var (aK.2:bu)⟩⟩::bg 38 (5::[]) [] _::⟨some 39,(1::6::[]),(5::[]),(5::[]),fun hd=>I.eq (aS (hd 7 0) bb.length ((hd 7 1).getD 0)),fun hd _=>⟨(hd 7 0),.row 50 (bb:List cA) ((hd 7 1).getD 0)⟩⟩::bg 40 [] [] _::⟨none,(1::7::8::[]),(3::[]),(3::[]),fun _=>I.any,fun hd _=>⟨some ck,.cj (({ s1.2.1 with b4:= [] } :bC):bC) [(1,aS (hd 7 0) bb.length ((hd 7 1).getD 0)),(4,aS none ([]:List an).length 0)]⟩⟩::[]) _ (0::1::2::4::6::7::8::10::26::27::28::29::30::31::[]) rfl rfl (by kernel_rfl) ⟨fy (aU k9),cz fun hd E' ax aG ar=>ho (i:=3) (q:=0) (β:=bC) (γ:=cA) kS (ab (aG _ _ rfl)) (ar 3 _ rfl rfl) rfl,fP,lG 8 gv,lG 0 iZ,?_,cz fun hd E' ax aG ar=>jv (r:= [aK.1]) Tryz.underlying51 gw m9 rfl rfl (.cons (by simp) (ab (aG _ _ rfl)) (.nil)),?_,fy (aU k9),?_,trivial⟩ fun fj=>?_
   ·intro hd E' ax aG ar
    refine ai.bI 9 (ar 9 _ rfl rfl) (ai.nw (Lin:= [⟨some cu,.var (s1.2.2.2:bu)⟩]) (Lr:=ax.eraseIdx 9) abv (Tx cb) ⟨ab (aG _ _ rfl),ab (aG _ _ rfl),ab (aG _ _ rfl),trivial⟩ rfl fun cU=>?_)
    exact ai.nil (ae.back 9 (ar 9 _ rfl rfl) (ae.fin (eP []) rfl rfl))
   ·intro hd E' ax aG ar
    refine ai.app (i:=5) Tryz.underlying51 gw m9 (bytes:=64) (by kernel_rfl) (ab (aG _ _ rfl)) (ar 5 _ rfl rfl) (ab (aG _ _ rfl)) dR rfl fun gD fC=>?_
    exact ai.nil (ae.fin (eP [gD,some fC]) rfl rfl)
   ·intro hd E' ax aG ar
    exact ai.iP (i:=3) (γ:=cA) (b':=(({ s1.2.1 with b4:= [] } :bC):bC)) (os':= [(1,aS (hd 7 0) bb.length ((hd 7 1).getD 0)),(4,aS none ([]:List an).length 0)]) ((aN.id bC).comp ku) kS (ab (aG _ _ rfl)) (ab (aG _ _ rfl)) h9 (ar 3 _ rfl rfl) rfl rfl rfl (ai.nil (ae.fin (eP []) rfl rfl))
   refine ae.ez (L2:= [⟨some eW,.var (az ((az ah.bt aZ).bN) bP:cR)⟩,⟨none,.row 48 (([]:List an):List an) 0⟩,⟨none,.row 50 (([]:List cA):List cA) 0⟩,⟨some ck,.cj (({ s1.2.1 with b4:= [] } :bC):bC) [(1,aS (fj 7 0) bb.length ((fj 7 1).getD 0)),(4,aS none ([]:List an).length 0)]⟩,⟨none,.row 48 (([]:List an):List an) 0⟩,⟨(fj 7 0),.row 50 (bb:List cA) ((fj 7 1).getD 0)⟩,⟨some (cx 9),.var (az ah.bt aZ:bX)⟩,⟨some ba,.var ((default:bC):bC)⟩,⟨some a4,.var (ah:a3)⟩,⟨some cu,.var (aK.2:bu)⟩]) rfl (km [0,1,2,4,6,7,8,10,26,27,28,29,30,31,32,34,35,36,37,38,39,40] ?_)
   refine ae.next (aC (aY (aU sG) ?_))
   refine cc 0 lW bE ?_
   refine bj gf ?_
   refine aB ?_
   refine dE (aU sG) ?_
   refine eI (fun hb=>fa (i:=0) ((aN.id cR).comp lW) (r:=(az ((az ah.bt aZ).bN) bP).cS) bE (cJ rfl hb) rfl rfl rfl) ?_
   refine jw gf ?_
   obtain⟨bH,dt,h⟩:=au h
   refine dG dt (s0 (ab rfl) (ab rfl) (fun h=>h)) ?_
   refine aL ?_
   obtain⟨bx,cy,h⟩:=au h
   refine jj (γ:=Unit) [0,1,2,4,6,7,8,10,26,27,28,29,48] (fun aW=>[]) (fun aW=>[(3,⟨some ck,.cj (bx.1:bC) [(1,aS (fj 7 0) bb.length ((fj 7 1).getD 0)),(4,aS none ([]:List an).length 0)]⟩),(9,⟨some cu,.var (bx.2:bu)⟩)]) (fun aW=>?_) (fun hm al=>?_) fun hm al=>?_
   ·refine ae.dB (ae.next (ag.cm (bj dd ?_)))
    refine aB ?_
    refine ai.nil ?_
    obtain rfl:=aH h
    exact fc ((fj 7 0),((fj 7 1).getD 0)) 1
   ·have h:=gQ al cy
    refine ag.cm (aB ?_)
    refine ai.bI 9 rfl ?_
    obtain⟨bJ,e2,h⟩:=au h
    refine ff 1 gT (gL e2) fun et=>?_
    refine bj dd ?_
    refine aY (aU vY) ?_
    obtain⟨dn,hx,h⟩:=au h
    refine ai.uu (i:=4) ((aN.id bC).comp sf) (v:=(bs (1+bJ.1):Int)) (b':=(dn:bC)) bE (ab rfl) (ab rfl) rfl rfl (aH hx) (by rfl) ?_
    refine ai.nil (ae.bI 9 rfl (ae.bI 9 rfl (ae.bI 9 rfl (ae.bI 9 rfl (ae.bI 9 rfl (ae.bI 9 rfl (ae.bI 9 rfl (ae.bI 9 rfl (ae.bI 9 rfl ?_)))))))))
    obtain rfl:=aH h
    exact dq 0 (hm ())
   have h:=gR al cy
   refine ag.skip ?_
   obtain rfl:=aH h
   exact dq 0 (hm ())
  refine ag.exit (ae.exit ?_)
  obtain rfl:=aH h
  exact dY (av.1,av.2) 0
 refine ae.e1 (ae.next (ag.seq ?_))
 obtain⟨bq,gG,h⟩:=au h
 obtain⟨cT,fe,h⟩:=au h
 obtain⟨fm,jH,h⟩:=au h
 refine jk [0,1,2,4,6,7,8,26,27,28,29] ?_
 refine ag.kP mixed (bg 54 [] [] _::bg 55 (0::[]) (5::[]) _::bg 56 [] [] _::bg 57 [] [] _::bg 58 (3::[]) (5::[]) _::bg 59 (4::[]) [] _::⟨some 60,(2::5::[]),(8::[]),(8::[]),fun _=>I.of (bq.1),fun hd _=>⟨some cu,.var (bq.2:bu)⟩⟩::bg 61 (1::6::[]) [] _::bg 62 (7::[]) [] _::bg 63 [] [] _::⟨none,(8::9::[]),(2::[]),(2::[]),fun _=>I.any,fun hd _=>⟨some ck,.cj (fm:bC) [(1,aS av.1 ay.2.2.2.1.length av.2),(4,aS none ([]:List an).length 0)]⟩⟩::[]) _ (0::1::2::4::6::7::8::26::27::28::29::[]) rfl rfl (by kernel_rfl) ⟨fy (aU Pd),o3 5 xv kU,fP,fy (aU Pd),o3 5 xv kU,fy (eK Tryz.underlying41),?_,cz fun hd E' ax aG ar=>ql (k:=cT) Tryz.underlying41 bE (ab (aG _ _ rfl)) (ab (aG _ _ rfl)) (bZ fe),fy (da bE),fy (aU Fa),?_,trivial⟩ fun jJ=>?_
 ·intro hd E' ax aG ar
  refine ai.bI 8 (ar 8 _ rfl rfl) (ai.nw (Lin:= [⟨some cu,.var (ay.2.2.2.2:bu)⟩]) (Lr:=ax.eraseIdx 8) gT (gL gG) ⟨ab (aG _ _ rfl),ab (aG _ _ rfl),trivial⟩ rfl fun jS=>?_)
  exact ai.nil (ae.back 8 (ar 8 _ rfl rfl) (ae.fin (eP []) rfl rfl))
 ·intro hd E' ax aG ar
  refine ai.uu (i:=2) ((aN.id bC).comp xx) (v:=(az ((az ah.bt aZ).dH) cT:Int)) (b':=(fm:bC)) bE (ab (aG _ _ rfl)) (ab (aG _ _ rfl)) (ar 2 _ rfl rfl) rfl (aH jH) (by rfl) ?_
  exact ai.nil (ae.fin (eP []) rfl rfl)
 refine ae.ez (L2:= [⟨none,.row 48 (([]:List an):List an) 0⟩,⟨none,.row 50 (([]:List cA):List cA) 0⟩,⟨some ck,.cj (fm:bC) [(1,aS av.1 ay.2.2.2.1.length av.2),(4,aS none ([]:List an).length 0)]⟩,⟨none,.row 48 (([]:List an):List an) 0⟩,⟨av.1,.row 50 (ay.2.2.2.1:List cA) av.2⟩,⟨some (cx 9),.var (az ah.bt aZ:bX)⟩,⟨some ba,.var ((default:bC):bC)⟩,⟨some a4,.var (ah:a3)⟩,⟨some cu,.var (bq.2:bu)⟩]) rfl (km [0,1,2,4,6,7,8,26,27,28,29,54,55,56,57,58,59,60,61,62,63] ?_)
 refine ae.next (ag.seq (aC (cr 7 gv ?_)))
 refine aY (aU Fa) ?_
 refine Rs 2 xx bE ?_
 obtain⟨b6,gH,h⟩:=au h
 refine du abw (TP gH) ?_
 refine bh (Ic DC Xa ZV rfl (ab rfl) rfl rfl) ?_
 refine aY (eK Tryz.underlying150) ?_
 refine aB ?_
 refine aL (ag.block ?_)
 obtain⟨aO,ao,h⟩:=au h
 refine gE (γ:=(Option Nat×Nat)) (δ:=(Option Nat×Nat)) ao [0,1,2,4,6,7,8,26,27,28,29,68,69] (fun s2 bB=>[(70,I.of (s2.1))]) (fun s2 bB=>[(2,⟨some ck,.cj (s2.2.1:bC) [(1,aS av.1 ay.2.2.2.1.length av.2),(4,aS bB.1 s2.2.2.1.length bB.2)]⟩),(3,⟨bB.1,.row 48 (s2.2.2.1:List an) bB.2⟩),(8,⟨some cu,.var (s2.2.2.2:bu)⟩)]) (fun eu=>Exit.exit 2) (fun eu bB=>[(70,I.of (eu.1)),(71,I.of (eu.2.1))]) (fun eu bB=>[(2,⟨some ck,.cj (eu.2.2.1:bC) [(1,aS av.1 ay.2.2.2.1.length av.2),(4,aS bB.1 eu.2.2.2.1.length bB.2)]⟩),(3,⟨bB.1,.row 48 (eu.2.2.2.1:List an) bB.2⟩),(8,⟨some cu,.var (eu.2.2.2.2:bu)⟩)]) (none,0) (fun s2 r h bB=>?_) fun bB=>?_
 ·refine aC (bj ea ?_)
  refine bD (cg h (fun h=>?_) fun h=>?_)
  ·refine cO (ag.seq (ag.block (aC ?_)))
   obtain⟨eY,hy,h⟩:=au h
   refine g5 hy Tryz.underlying150 yA ?_
   refine aY (da yA) ?_
   refine cC uD fun jd=>?_
   refine b8 0 yA ?_
   refine aL ?_
   obtain⟨eB,mI,h⟩:=au h
   obtain⟨hF,mF,h⟩:=au h
   obtain⟨fN,mb,h⟩:=au h
   obtain⟨e8,o8,h⟩:=au h
   refine jk [0,1,2,4,6,7,8,12,26,27,28,29,68,69,70,71,72,73] ?_
   refine ag.kP mixed (bg 74 [] [] _::bg 75 (0::[]) (3::[]) _::bg 76 [] [] _::⟨some 77,(2::[]),(9::[]),(9::[]),fun _=>I.of (eB.1),fun hd _=>⟨some cu,.var (eB.2:bu)⟩⟩::bg 78 (3::[]) [] _::bg 79 (4::[]) [] _::bg 80 [] [] _::bg 81 (6::[]) (0::[]) _::bg 82 (5::7::[]) [] _::bg 83 (8::[]) [] _::⟨some 84,(1::9::[]),(4::[]),(4::[]),fun hd=>I.eq (aS (hd 10 0) e8.length ((hd 10 1).getD 0)),fun hd _=>⟨(hd 10 0),.row 48 (e8:List an) ((hd 10 1).getD 0)⟩⟩::bg 85 [] [] _::⟨none,(1::10::11::[]),(3::[]),(3::[]),fun _=>I.any,fun hd _=>⟨some ck,.cj (({ s2.2.1 with lb:= [] } :bC):bC) [(1,aS av.1 ay.2.2.2.1.length av.2),(4,aS (hd 10 0) e8.length ((hd 10 1).getD 0))]⟩⟩::[]) _ (0::1::2::4::6::7::8::12::26::27::28::29::68::69::70::71::72::73::[]) rfl rfl (by kernel_rfl) ⟨fy (aU ym),cz fun hd E' ax aG ar=>ho (i:=3) (q:=1) (β:=bC) (γ:=an) wD (ab (aG _ _ rfl)) (ar 3 _ rfl rfl) rfl,fP,?_,fy (iX Tryz.underlying3 Tryz.underlying46),cz fun hd E' ax aG ar=>(c9 (b:=({ (default:an) with b2:=BitVec.ofInt 64 eB.1 } :an)) rfl hr en (.cons ev rfl (ab (aG _ _ rfl)) rfl (.nil))).as (aH mF),fy (aU Xb),o3 0 zT bE,cz fun hd E' ax aG ar=>hZ FO (Ea mb) ⟨ab (aG _ _ rfl),ab (aG _ _ rfl),trivial⟩,cz fun hd E' ax aG ar=>jv (r:= [fN]) Tryz.underlying42 bG en rfl rfl (.cons (by simp) (ab (aG _ _ rfl)) (.nil)),?_,fy (aU ym),?_,trivial⟩ fun pW=>?_
   ·intro hd E' ax aG ar
    refine ai.bI 9 (ar 9 _ rfl rfl) (ai.nw (Lin:= [⟨some cu,.var (s2.2.2.2:bu)⟩]) (Lr:=ax.eraseIdx 9) gT (gL mI) ⟨ab (aG _ _ rfl),bU 256,trivial⟩ rfl fun jU=>?_)
    exact ai.nil (ae.back 9 (ar 9 _ rfl rfl) (ae.fin (eP []) rfl rfl))
   ·intro hd E' ax aG ar
    refine ai.app (i:=4) Tryz.underlying42 bG en (bytes:=16) (by kernel_rfl) (ab (aG _ _ rfl)) (ar 4 _ rfl rfl) (ab (aG _ _ rfl)) o8 rfl fun kj hD=>?_
    exact ai.nil (ae.fin (eP [kj,some hD]) rfl rfl)
   ·intro hd E' ax aG ar
    exact ai.iP (i:=3) (γ:=an) (b':=(({ s2.2.1 with lb:= [] } :bC):bC)) (os':= [(1,aS av.1 ay.2.2.2.1.length av.2),(4,aS (hd 10 0) e8.length ((hd 10 1).getD 0))]) ((aN.id bC).comp xD) wD (ab (aG _ _ rfl)) (ab (aG _ _ rfl)) h9 (ar 3 _ rfl rfl) rfl rfl rfl (ai.nil (ae.fin (eP []) rfl rfl))
   refine ae.ez (L2:= [⟨some jd,.var (az b6.kL eY:jf)⟩,⟨none,.row 48 (([]:List an):List an) 0⟩,⟨none,.row 50 (([]:List cA):List cA) 0⟩,⟨some ck,.cj (({ s2.2.1 with lb:= [] } :bC):bC) [(1,aS av.1 ay.2.2.2.1.length av.2),(4,aS (pW 10 0) e8.length ((pW 10 1).getD 0))]⟩,⟨(pW 10 0),.row 48 (e8:List an) ((pW 10 1).getD 0)⟩,⟨av.1,.row 50 (ay.2.2.2.1:List cA) av.2⟩,⟨some (cx 9),.var (az ah.bt aZ:bX)⟩,⟨some ba,.var ((default:bC):bC)⟩,⟨some a4,.var (ah:a3)⟩,⟨some cu,.var (eB.2:bu)⟩]) rfl (km [0,1,2,4,6,7,8,12,26,27,28,29,68,69,70,71,72,73,74,76,77,78,79,80,81,82,83,84,85] ?_)
   refine ae.dB (ae.next (ag.cm (bj dd ?_)))
   refine aB ?_
   refine ai.nil ?_
   obtain rfl:=aH h
   exact fc ((pW 10 0),((pW 10 1).getD 0)) 1
  refine ag.exit (ae.exit ?_)
  obtain rfl:=aH h
  exact dY (bB.1,bB.2) 0
 refine ae.e1 (ae.next (aC (ai.lf (β:=bC) (γ:=cA) (b':=(({ aO.2.2.1 with b4:=ay.2.2.2.1 } :bC):bC)) ((aN.id bC).comp ku) 2 4 0 rfl rfl rfl rfl rfl rfl (ai.lf (β:=bC) (γ:=an) (b':=(({ ({ aO.2.2.1 with b4:=ay.2.2.2.1 } :bC) with lb:=aO.2.2.2.1 } :bC):bC)) ((aN.id bC).comp xD) 2 3 0 rfl rfl rfl rfl rfl rfl (ai.o0 2 rfl ?_)))))
 obtain⟨hG,nC,h⟩:=au h
 refine dG nC (fa (i:=2) (aN.id bC) (r:=({ ({ aO.2.2.1 with b4:=ay.2.2.2.1 } :bC) with lb:=aO.2.2.2.1 } :bC)) hN (ab rfl) rfl rfl rfl) ?_
 refine b8 6 hN ?_
 refine aL (ag.ret (ae.bI 8 rfl ?_))
 obtain rfl:=aH h
 exact ae.gr () (.cons_cons _ (List.nil_sublist _)) rfl rfl (j2 (i:=7) hN rfl rfl)
theorem Um {hp:a1 Cell} {J:a3} {ah:bu} {aP:Int} {b5:Int} {iH:Nat} {Q:Ref×(List aJ)×bu×(a1 Cell)→Prop} (h:Am hp J ah aP b5 Q):b9 Tryz.prog 16 [I.of (J),I.eq (.pointer (some ⟨iH,0,none⟩)),I.of (aP),I.of (b5)] ([⟨some iH,.var (ah:bu)⟩]++a8 hp) (δ:= {r:Ref×(List aJ)×bu×(a1 Cell) // Q r}×Unit) (fun d=>I.ep [I.of (d.1.1.1),I.of (d.1.1.2.1)]) (fun d=>[⟨some iH,.var (d.1.1.2.2.1:bu)⟩]++a8 d.1.1.2.2.2):=by
 unfold Am at h
 refine b9.of Tryz.func16 rfl Tryz.ntmps16 rfl fun W A=>?_
 refine aC (b7 fun a4=>?_)
 refine bh (ew (rl)) ?_
 refine bh (ew (look_nil (α:=aJ))) ?_
 refine bD ?_
 obtain⟨aD,bo,h⟩:=aI.c2 h
 obtain⟨aZ,cq,h⟩:=aI.c2 h
 refine ag.draw mixed 11 [some 14,some 15,some 16,some 17,some 18,some 19,some 20,some 21,some 22,some 23,some 24] [[],[],[1],[],[],[4],[5],[3,6],[2,7],[8],[9]] [.val _,.val _,.val _,.val _,.val _,.val _,.val _,.val _,.val _,.val _,.val _] [false,false,false,false,false,false,false,false,false,false,false] (by kernel_rfl) rfl rfl rfl (fun cx=>⟨eG 0 gv,H1 (aU mY),dg 0 mU mz,ct,H1 (aU mY),dg 0 mU mz,H1 (eK Tryz.underlying27),eH JW (Hz bo),kX cq Tryz.underlying27 gu,oy p9 vV,H1 (da bE),trivial⟩) fun cx=>?_
 refine ai.m1 2 0 rfl acv (UL h) rfl rfl ⟨ab rfl,ab rfl,trivial⟩ rfl fun⟨⟨aK,h⟩,aA⟩=>?_
 refine ai.ez (L2:=(⟨some a4,.var (J:a3)⟩::⟨some iH,.var (ah:bu)⟩::a8 aK.2)) rfl (aM ?_)
 refine bW (ai.own (α:=aJ) 56 (bh (ew qb) ?_))
 refine bD (aC (aM ?_))
 refine aL (ag.block (ag.II (σ:=Int×(List aJ)×bu×(a1 Cell)) (ε:=(Int×Bool×(List aJ)×bu×(a1 Cell))) (γ:=(Option Nat×Nat)) (δ:=(Option Nat×Nat)) h (fun s1 av=>[(0,I.of (J)),(1,I.eq (.pointer (some ⟨iH,0,none⟩))),(2,I.of (aP)),(3,I.of (b5)),(4,I.eq (.pointer (some ⟨a4,0,none⟩))),(8,I.of (none:Ref)),(9,I.of ([]:List aJ)),(10,I.of (aK.1)),(11,I.eq (aS av.1 s1.2.1.length av.2)),(12,I.of (s1.1))]) (fun s1 av=>(⟨av.1,.row 56 (s1.2.1:List aJ) av.2⟩::⟨some a4,.var (J:a3)⟩::⟨some iH,.var (s1.2.2.1:bu)⟩::a8 s1.2.2.2)) (fun cU=>Exit.exit 0) (fun cU av=>[(0,I.of (J)),(1,I.eq (.pointer (some ⟨iH,0,none⟩))),(2,I.of (aP)),(3,I.of (b5)),(4,I.eq (.pointer (some ⟨a4,0,none⟩))),(8,I.of (none:Ref)),(9,I.of ([]:List aJ)),(10,I.of (aK.1)),(11,I.eq (aS av.1 cU.2.2.1.length av.2)),(12,I.of (cU.1)),(32,I.of (cU.2.1))]) (fun cU av=>(⟨av.1,.row 56 (cU.2.2.1:List aJ) av.2⟩::⟨some a4,.var (J:a3)⟩::⟨some iH,.var (cU.2.2.2.1:bu)⟩::a8 cU.2.2.2.2)) (none,0) rfl .all (fun s1 R h av=>?_) (fun ay h av=>?_)))
 ·refine ag.seq (aC (aB ?_))
  refine aB ?_
  refine bj ea ?_
  refine aB ?_
  refine dE cV ?_
  obtain⟨bb,dR,h⟩:=aI.c2 h
  refine eI (fun hb=>cf.Qd (z:=(s1.2.2.1:bu)) 2 30 rfl (fun _ _ _ h=>h.1 hb) rfl Er (hZ QU (Tc (gN dR hb)) ⟨ab rfl,trivial⟩)) ?_
  refine iG ?_
  refine aL (ag.cond (ab rfl) (fun al=>?_) (fun al=>?_))
  ·replace h:=qd al h
   refine cO (ag.seq (ag.block (aC (aB ?_))))
   refine cr 1 gv ?_
   refine aB ?_
   refine ai.bI 2 rfl ?_
   obtain⟨bJ,e2,h⟩:=aI.c2 h
   refine ff 1 abx (Ty e2) fun et=>?_
   refine aB ?_
   refine bj dd ?_
   obtain⟨bH,dt,h⟩:=aI.c2 h
   refine dG dt (c9 (b:=({ (default:aJ) with bK:=bJ.1,cH:=bs (s1.1+1) } :aJ)) rfl wM gx (.cons j9 rfl (ab rfl) rfl (.cons lx rfl (ab rfl) rfl (.nil)))) ?_
   refine cC gx fun ba=>?_
   refine b8 0 cM ?_
   refine bW (aB ?_)
   refine cr 0 cM ?_
   refine ai.m1 4 0 rfl Q9 (Ml h) rfl rfl ⟨ab rfl,ab rfl,trivial⟩ rfl fun⟨⟨bq,h⟩,jS⟩=>?_
   refine ai.ez (L2:=(⟨some ba,.var (bH:aJ)⟩::⟨some iH,.var (bJ.2:bu)⟩::⟨av.1,.row 56 (s1.2.1:List aJ) av.2⟩::⟨some a4,.var (J:a3)⟩::a8 bq.2)) rfl (aL ?_)
   obtain⟨bx,cy,h⟩:=aI.c2 h
   refine ag.c0 (γ:=(Option Nat×Nat)) (fun aW=>[(0,I.of (J)),(1,I.eq (.pointer (some ⟨iH,0,none⟩))),(2,I.of (aP)),(3,I.of (b5)),(4,I.eq (.pointer (some ⟨a4,0,none⟩))),(8,I.of (none:Ref)),(9,I.of ([]:List aJ)),(10,I.of (aK.1)),(11,I.eq (aS aW.1 bx.length aW.2)),(12,I.of (s1.1)),(13,I.eq (.pointer (some ⟨ba,0,none⟩))),(32,I.of ((decide (s1.1<b5))&&bb)),(44,I.of (bq.1))]) (fun aW=>(⟨some ba,.var (bH:aJ)⟩::⟨some iH,.var (bJ.2:bu)⟩::⟨aW.1,.row 56 (bx:List aJ) aW.2⟩::⟨some a4,.var (J:a3)⟩::a8 bq.2)) (ab rfl) (fun aW=>?_) (fun hm al=>?_) (fun hm al=>?_)
   ·refine ae.dB (ae.next (ag.cm (aB ?_)))
    refine bj dd ?_
    refine aM ?_
    exact ai.nil (ae.bI 3 rfl (ae.bI 3 rfl (ae.bI 2 rfl (ae.IJ h (aW.1,aW.2) 1 rfl .all))))
   ·have h:=gQ al cy
    refine ag.cm (aB ?_)
    refine cr 0 cM ?_
    refine gV [bH] Tryz.underlying67 cM gx ?_
    obtain⟨b6,gH,h⟩:=au h
    refine jI 2 Tryz.underlying67 cM gx gH fun gD fC=>?_
    refine aM ?_
    refine ai.nil ?_
    obtain rfl:=aH h
    exact dq 0 (hm (gD,fC))
   have h:=gR al cy
   refine ag.skip ?_
   obtain rfl:=aH h
   exact dq 0 (hm (av.1,av.2))
  replace h:=qe al h
  exact ag.exit (ae.exit (ae.vZ h (av.1,av.2) 0 rfl (by simp) rfl .all))
 refine ae.e1 (ae.next (aC (aB ?_)))
 refine aB ?_
 refine aM ?_
 refine aM ?_
 exact aL (ag.ret (ae.n4 (α:=aJ) 0 [9,11,50] ⟨rfl,rfl,rfl,trivial⟩ rfl (ae.bI 2 rfl (ae.kN (⟨⟨(aK.1,ay.2.2.1,ay.2.2.2.1,ay.2.2.2.2),h⟩,()⟩: {r // _}×_) (.cons_cons _ (.cons _ (.cons _ (.refl _)))) rfl rfl (ej rfl) (ej rfl)))))
theorem Tb {hp:a1 Cell} {J:List (BitVec 8)} {ah:List (BitVec 8)} {aP:Int} {b5:List (Vector an 4)} {Q:Bool×(a1 Cell)→Prop} (h:zF hp J ah aP b5 Q):b9 Tryz.prog 4 [I.of (J),I.of (ah),I.of (aP),I.of (b5)] ([]++a8 hp) (δ:= {r:Bool×(a1 Cell) // Q r}×Unit) (fun d=>I.of (d.1.1.1)) (fun d=>[]++a8 d.1.1.2):=by
 unfold zF at h
 refine b9.of Tryz.func4 rfl Tryz.ntmps4 rfl fun W A=>?_
 refine aC (aM ?_)
 refine bW (aB ?_)
 obtain⟨aD,bo,h⟩:=aI.c2 h
 refine ff 0 Kn (Hy bo) fun aA=>?_
 refine ai.bI 0 rfl ?_
 obtain⟨aK,cb,h⟩:=aI.c2 h
 refine ff 1 Rv (Mb cb) fun cU=>?_
 refine aB ?_
 obtain⟨bb,dR,h⟩:=aI.c2 h
 refine ff 0 Kn (Hy dR) fun et=>?_
 refine cC B0 fun a4=>?_
 refine b8 0 gv ?_
 refine aM ?_
 refine bD ?_
 obtain⟨bJ,e2,h⟩:=aI.c2 h
 obtain⟨aZ,cq,h⟩:=aI.c2 h
 refine ag.draw mixed 10 [some 38,some 39,some 40,some 41,some 42,some 43,some 44,some 45,some 46,some 11] [[],[0],[],[],[3],[4],[2,5],[1,6],[7],[]] [.val _,.val _,.val _,.val _,.val _,.val _,.val _,.val _,.val _,.new (.var (default:bX))] [false,false,false,false,false,false,false,false,false,false] (by kernel_rfl) rfl rfl rfl (fun cx=>⟨H1 (aU mY),dg 0 mU mz,ct,H1 (aU mY),dg 0 mU mz,H1 (eK Tryz.underlying27),eH JW (Hz e2),kX cq Tryz.underlying27 gu,H1 (da gu),sv l6,trivial⟩) fun cx=>?_
 refine b8 0 gu ?_
 refine bW (cr 1 gv ?_)
 refine aB ?_
 refine aB ?_
 refine ai.bI 2 rfl (ai.sa (gn.m1 4 1 rfl aby (Um h) rfl rfl ⟨ab rfl,ab rfl,ab rfl,bU 12,trivial⟩) rfl rfl rfl fun⟨⟨bq,h⟩,jS⟩=>?_)
 refine ai.ez (L2:=(⟨some et,.var (bq.2.2.1:bu)⟩::⟨some (cx 9),.var (az aK.1.bt aZ:bX)⟩::⟨some a4,.var (aK.1:a3)⟩::⟨some aA,.var (aK.2:bu)⟩::a8 bq.2.2.2)) rfl (aB ?_)
 refine eO ?_
 refine eO ?_
 refine aM ?_
 refine aM ?_
 refine bD (aC (aB ?_))
 refine aY (eK Tryz.underlying67) ?_
 refine aB ?_
 refine aL (ag.block (ag.II (σ:=Int) (ε:=(Int×Bool) ⊕ (Bool×Bool×Int×Bool×Int×Bool×Bool×Int×Int×Bool×Int×Int×Bool×Bool×bu×(a1 Cell))) (γ:=Unit) (δ:=Unit) h (fun s1 av=>[(0,I.of (J)),(1,I.of (ah)),(2,I.of (aP)),(3,I.of (b5)),(8,I.of (false)),(9,I.eq (.pointer (some ⟨a4,0,none⟩))),(10,I.eq (.pointer (some ⟨et,0,none⟩))),(11,I.eq (.pointer (some ⟨(cx 9),0,none⟩))),(12,I.of (bq.1)),(13,I.of (bq.2.1)),(54,I.of (bq.2.1)),(55,I.of (bq.2.1.length:Int)),(56,I.of (s1))]) (fun s1 av=>(⟨some et,.var (bq.2.2.1:bu)⟩::⟨some (cx 9),.var (az aK.1.bt aZ:bX)⟩::⟨some a4,.var (aK.1:a3)⟩::⟨some aA,.var (aK.2:bu)⟩::a8 bq.2.2.2)) (fun eu=>Sum.elim (fun eu=>Exit.exit 0) (fun eu=>Exit.ret) eu) (fun eu av=>Sum.elim (fun eu=>[(0,I.of (J)),(1,I.of (ah)),(2,I.of (aP)),(3,I.of (b5)),(8,I.of (false)),(9,I.eq (.pointer (some ⟨a4,0,none⟩))),(10,I.eq (.pointer (some ⟨et,0,none⟩))),(11,I.eq (.pointer (some ⟨(cx 9),0,none⟩))),(12,I.of (bq.1)),(13,I.of (bq.2.1)),(54,I.of (bq.2.1)),(55,I.of (bq.2.1.length:Int)),(56,I.of (eu.1)),(57,I.of (eu.2))]) (fun eu=>[(0,I.of (J)),(1,I.of (ah)),(2,I.of (aP)),(3,I.of (b5)),(8,I.of (eu.1)),(9,I.eq (.pointer (some ⟨a4,0,none⟩))),(10,I.eq (.pointer (some ⟨et,0,none⟩))),(11,I.eq (.pointer (some ⟨(cx 9),0,none⟩))),(12,I.of (bq.1)),(13,I.of (bq.2.1)),(16,I.of (eu.2.1)),(17,I.of (eu.2.2.1)),(28,I.of (eu.2.2.2.1)),(54,I.of (bq.2.1)),(55,I.of (bq.2.1.length:Int)),(56,I.of (eu.2.2.2.2.1)),(57,I.of (eu.2.2.2.2.2.1)),(73,I.of (eu.2.2.2.2.2.2.1)),(85,I.of (eu.2.2.2.2.2.2.2.1)),(86,I.of (eu.2.2.2.2.2.2.2.2.1)),(87,I.of (eu.2.2.2.2.2.2.2.2.2.1)),(117,I.of (eu.2.2.2.2.2.2.2.2.2.2.1)),(118,I.of (eu.2.2.2.2.2.2.2.2.2.2.2.1)),(119,I.of (eu.2.2.2.2.2.2.2.2.2.2.2.2.1)),(141,I.of (eu.2.2.2.2.2.2.2.2.2.2.2.2.2.1))]) eu) (fun eu av=>Sum.elim (fun eu=>(⟨some et,.var (bq.2.2.1:bu)⟩::⟨some (cx 9),.var (az aK.1.bt aZ:bX)⟩::⟨some a4,.var (aK.1:a3)⟩::⟨some aA,.var (aK.2:bu)⟩::a8 bq.2.2.2)) (fun eu=>(⟨some et,.var (eu.2.2.2.2.2.2.2.2.2.2.2.2.2.2.1:bu)⟩::⟨some (cx 9),.var (az aK.1.bt aZ:bX)⟩::⟨some a4,.var (aK.1:a3)⟩::⟨some aA,.var (aK.2:bu)⟩::a8 eu.2.2.2.2.2.2.2.2.2.2.2.2.2.2.2)) eu) () rfl .all (fun s1 R h av=>?_) (fun ay h av=>?_)))
 ·refine aC (bj ea ?_)
  refine bD (ag.cond (ab rfl) (fun al=>?_) (fun al=>?_))
  ·replace h:=qd al h
   refine cO (ag.seq (ag.block (aC ?_)))
   obtain⟨bP,c6,h⟩:=aI.c2 h
   refine g5 c6 Tryz.underlying67 cM ?_
   refine aY (da cM) ?_
   refine cC gx fun ba=>?_
   refine b8 0 cM ?_
   refine bD (aC (cr 3 gv ?_))
   refine aB ?_
   refine aY (aU mX) ?_
   refine cc 0 lx bE ?_
   obtain⟨b6,gH,h⟩:=aI.c2 h
   refine du JV (Ht gH) ?_
   refine aB ?_
   refine eO ?_
   refine eO ?_
   refine aM ?_
   refine aM ?_
   refine bW (aB ?_)
   refine aY hL ?_
   refine aB ?_
   refine dE cV ?_
   refine jw sP ?_
   refine rV ?_
   refine aL (ag.cond (ab rfl) (fun al=>?_) (fun al=>?_))
   ·replace h:=qd al h
    refine ag.exit (ae.exit (ae.e1 (ae.next (ag.cm (bj dd ?_)))))
    refine aB ?_
    exact ai.nil (ae.IJ h () 1 rfl .all)
   replace h:=qe al h
   refine cO (aC (ai.own (α:=Vector an 4) 60 (bh (ew qb) ?_)))
   refine bD (aC (ai.pN (α:=Vector an 4) (r:=([]:List (Vector an 4))) Tryz.underlying65 dW kR rfl rfl (.nil) rfl fun gD=>?_))
   refine aB ?_
   refine aB ?_
   refine aY (eK Tryz.underlying65) ?_
   refine bj yw ?_
   obtain⟨eB,mI,h⟩:=aI.c2 h
   refine bh (H9 Tryz.underlying65 dW (ab rfl) .none (.some (ab rfl)) mI) ?_
   obtain⟨fN,mb,h⟩:=aI.c2 h
   refine jI 0 Tryz.underlying65 dW kR mb fun kj fC=>?_
   refine aB ?_
   refine ai.bI 3 rfl ?_
   obtain⟨e8,o8,h⟩:=aI.c2 h
   refine ff 1 abz (Tp o8) fun jU=>?_
   refine gV [e8.1] Tryz.underlying65 dW kR ?_
   obtain⟨ee,qt,h⟩:=aI.c2 h
   refine jI 1 Tryz.underlying65 dW kR qt fun hf hD=>?_
   refine bh (oU (i:=1) Tryz.underlying65 (ab rfl) rfl rfl) ?_
   refine aB ?_
   refine aL (ag.block ?_)
   obtain⟨aO,ao,h⟩:=aI.c2 h
   refine ag.qm (σ:=Int×(List (Vector an 4))) (ε:=(Int×Bool×(List (Vector an 4)))) (γ:=(Option Nat×Nat)) (δ:=(Option Nat×Nat)) ao (fun s2 aW=>[(0,I.of (J)),(1,I.of (ah)),(2,I.of (aP)),(3,I.of (b5)),(8,I.of (false)),(9,I.eq (.pointer (some ⟨a4,0,none⟩))),(10,I.eq (.pointer (some ⟨et,0,none⟩))),(11,I.eq (.pointer (some ⟨(cx 9),0,none⟩))),(12,I.of (bq.1)),(13,I.of (bq.2.1)),(15,I.eq (.pointer (some ⟨ba,0,none⟩))),(16,I.of (b6.1)),(17,I.of (b6.2)),(18,I.eq (aS aW.1 s2.2.length aW.2)),(54,I.of (bq.2.1)),(55,I.of (bq.2.1.length:Int)),(56,I.of (s1)),(57,I.of (decide (s1<(bq.2.1.length:Int)))),(73,I.of ((!b6.1)||(b6.2 !=0))),(84,I.eq (aS hf ee.length hD)),(85,I.of (ee.length:Int)),(86,I.of (s2.1))]) (fun s2 aW=>(⟨some et,.var (e8.2:bu)⟩::⟨hf,.row 60 (ee:List (Vector an 4)) hD⟩::⟨aW.1,.row 60 (s2.2:List (Vector an 4)) aW.2⟩::⟨some ba,.var (az bq.2.1 bP:aJ)⟩::⟨some (cx 9),.var (az aK.1.bt aZ:bX)⟩::⟨some a4,.var (aK.1:a3)⟩::⟨some aA,.var (aK.2:bu)⟩::a8 bq.2.2.2)) (fun q4=>Exit.exit 2) (fun q4 aW=>[(0,I.of (J)),(1,I.of (ah)),(2,I.of (aP)),(3,I.of (b5)),(8,I.of (false)),(9,I.eq (.pointer (some ⟨a4,0,none⟩))),(10,I.eq (.pointer (some ⟨et,0,none⟩))),(11,I.eq (.pointer (some ⟨(cx 9),0,none⟩))),(12,I.of (bq.1)),(13,I.of (bq.2.1)),(15,I.eq (.pointer (some ⟨ba,0,none⟩))),(16,I.of (b6.1)),(17,I.of (b6.2)),(18,I.eq (aS aW.1 q4.2.2.length aW.2)),(54,I.of (bq.2.1)),(55,I.of (bq.2.1.length:Int)),(56,I.of (s1)),(57,I.of (decide (s1<(bq.2.1.length:Int)))),(73,I.of ((!b6.1)||(b6.2 !=0))),(84,I.eq (aS hf ee.length hD)),(85,I.of (ee.length:Int)),(86,I.of (q4.1)),(87,I.of (q4.2.1))]) (fun q4 aW=>(⟨some et,.var (e8.2:bu)⟩::⟨hf,.row 60 (ee:List (Vector an 4)) hD⟩::⟨aW.1,.row 60 (q4.2.2:List (Vector an 4)) aW.2⟩::⟨some ba,.var (az bq.2.1 bP:aJ)⟩::⟨some (cx 9),.var (az aK.1.bt aZ:bX)⟩::⟨some a4,.var (aK.1:a3)⟩::⟨some aA,.var (aK.2:bu)⟩::a8 bq.2.2.2)) (none,0) rfl .all (fun s2 r h aW=>?_) (fun aW=>?_)
   ·refine aC (bj ea ?_)
    refine bD (cg h (fun h=>?_) fun h=>?_)
    ·refine cO (ag.seq (ag.block (aC ?_)))
     obtain⟨cT,fe,h⟩:=au h
     refine bh (l2 (i:=1) (k:=cT) (xs:=(ee:List (Vector an 4))) Tryz.underlying65 dW (ab rfl) (ab rfl) rfl (bZ fe)) ?_
     refine bh (pA (i:=1) (k:=cT) (aN.id (Vector an 4)) (r:=(az ee cT)) dW (ab rfl) rfl (bZ fe).1 rfl rfl) ?_
     refine cC kR fun ck=>?_
     refine b8 0 dW ?_
     refine bD (aC (aY (aU k8) ?_))
     refine cc 5 jZ kQ ?_
     refine aY (eK Tryz.underlying40) ?_
     refine aB ?_
     refine aL (ag.block ?_)
     obtain⟨cK,ao,h⟩:=au h
     refine ag.qm (σ:=Int×(Vector an 4)) (ε:=(Int×Bool×(Vector an 4))) (γ:=Unit) (δ:=Unit) ao (fun hV bB=>[(0,I.of (J)),(1,I.of (ah)),(2,I.of (aP)),(3,I.of (b5)),(8,I.of (false)),(9,I.eq (.pointer (some ⟨a4,0,none⟩))),(10,I.eq (.pointer (some ⟨et,0,none⟩))),(11,I.eq (.pointer (some ⟨(cx 9),0,none⟩))),(12,I.of (bq.1)),(13,I.of (bq.2.1)),(15,I.eq (.pointer (some ⟨ba,0,none⟩))),(16,I.of (b6.1)),(17,I.of (b6.2)),(18,I.eq (aS aW.1 s2.2.length aW.2)),(20,I.eq (.pointer (some ⟨ck,0,none⟩))),(54,I.of (bq.2.1)),(55,I.of (bq.2.1.length:Int)),(56,I.of (s1)),(57,I.of (decide (s1<(bq.2.1.length:Int)))),(73,I.of ((!b6.1)||(b6.2 !=0))),(84,I.eq (aS hf ee.length hD)),(85,I.of (ee.length:Int)),(86,I.of (s2.1)),(87,I.of (decide (s2.1<(ee.length:Int)))),(92,I.of (((az aK.1.bt aZ).bN).length:Int)),(93,I.of (hV.1))]) (fun hV bB=>(⟨some ck,.var (hV.2:Vector an 4)⟩::⟨some et,.var (e8.2:bu)⟩::⟨hf,.row 60 (ee:List (Vector an 4)) hD⟩::⟨aW.1,.row 60 (s2.2:List (Vector an 4)) aW.2⟩::⟨some ba,.var (az bq.2.1 bP:aJ)⟩::⟨some (cx 9),.var (az aK.1.bt aZ:bX)⟩::⟨some a4,.var (aK.1:a3)⟩::⟨some aA,.var (aK.2:bu)⟩::a8 bq.2.2.2)) (fun tB=>Exit.exit 4) (fun tB bB=>[(0,I.of (J)),(1,I.of (ah)),(2,I.of (aP)),(3,I.of (b5)),(8,I.of (false)),(9,I.eq (.pointer (some ⟨a4,0,none⟩))),(10,I.eq (.pointer (some ⟨et,0,none⟩))),(11,I.eq (.pointer (some ⟨(cx 9),0,none⟩))),(12,I.of (bq.1)),(13,I.of (bq.2.1)),(15,I.eq (.pointer (some ⟨ba,0,none⟩))),(16,I.of (b6.1)),(17,I.of (b6.2)),(18,I.eq (aS aW.1 s2.2.length aW.2)),(20,I.eq (.pointer (some ⟨ck,0,none⟩))),(54,I.of (bq.2.1)),(55,I.of (bq.2.1.length:Int)),(56,I.of (s1)),(57,I.of (decide (s1<(bq.2.1.length:Int)))),(73,I.of ((!b6.1)||(b6.2 !=0))),(84,I.eq (aS hf ee.length hD)),(85,I.of (ee.length:Int)),(86,I.of (s2.1)),(87,I.of (decide (s2.1<(ee.length:Int)))),(92,I.of (((az aK.1.bt aZ).bN).length:Int)),(93,I.of (tB.1)),(94,I.of (tB.2.1))]) (fun tB bB=>(⟨some ck,.var (tB.2.2:Vector an 4)⟩::⟨some et,.var (e8.2:bu)⟩::⟨hf,.row 60 (ee:List (Vector an 4)) hD⟩::⟨aW.1,.row 60 (s2.2:List (Vector an 4)) aW.2⟩::⟨some ba,.var (az bq.2.1 bP:aJ)⟩::⟨some (cx 9),.var (az aK.1.bt aZ:bX)⟩::⟨some a4,.var (aK.1:a3)⟩::⟨some aA,.var (aK.2:bu)⟩::a8 bq.2.2.2)) () rfl .all (fun hV r h bB=>?_) (fun bB=>?_)
     ·refine aC (bj ea ?_)
      refine bD (cg h (fun h=>?_) fun h=>?_)
      ·refine cO (ag.seq (ag.block (aC (aB ?_))))
       refine aM ?_
       refine aL ?_
       obtain⟨eY,hy,h⟩:=au h
       obtain⟨jl,s4,h⟩:=au h
       obtain⟨jb,s5,h⟩:=au h
       obtain⟨iK,nb,h⟩:=au h
       refine ag.draw mixed 10 [some 96,some 97,some 98,some 99,some 100,some 101,some 102,some 103,some 104,some 105] [[],[],[1],[2],[],[],[],[4,5,6],[3,7],[0]] [.val _,.val _,.val _,.val _,.val _,.val _,.val _,.val _,.val _,.val _] [false,false,false,false,false,false,false,false,false,false] (by kernel_rfl) rfl rfl rfl (fun hh=>⟨ct,ct,c1 fun ax ar=>eb (k:=eY) fU (ab rfl) (ab rfl) (bZ hy),dg 0 ((aN.id (Vector an 4)).comp (aN.idx (α:=an) 4 eY (bZ hy).1)) bG,eG 6 gv,eG 5 gu,ct,eH abA (T1 s4),eH FO (Ea s5),c1 fun ax ar=>eb (k:=iK) fU (ab rfl) (ab rfl) (bZ nb),trivial⟩) fun hh=>?_
       refine nc 0 ((aN.id (Vector an 4)).comp (aN.idx (α:=an) 4 iK (bZ nb).1)) bG ?_
       refine ai.nil (ae.dB (ae.next (ag.cm (bj dd ?_))))
       refine aB ?_
       refine ai.nil ?_
       obtain rfl:=aH h
       exact fc () 0
      refine ag.exit (ae.exit ?_)
      obtain rfl:=aH h
      exact dY () 0
     refine ae.e1 (ae.next ?_)
     obtain⟨jx,wI,h⟩:=au h
     refine ag.draw mixed 7 [some 107,some 108,some 109,some 110,some 111,some 112,some 113] [[],[],[],[2],[],[3,4],[1,5]] [.val _,.val _,.val _,.val _,.val _,.val _,.val _] [false,false,false,false,false,false,false] (by kernel_rfl) rfl rfl rfl (fun pT=>⟨ct,eG 0 dW,H1 (aU la),dg 4 j9 hN,eG 0 dW,eH abB (Ug wI),c1 fun ax ar=>jv (r:= [cK.2.2,jx]) Tryz.underlying65 dW kR rfl rfl (.cons (by simp) (ab rfl) (.cons (by simp) (ab rfl) (.nil))),trivial⟩) fun pT=>?_
     obtain⟨kG,wJ,h⟩:=au h
     refine jI 3 Tryz.underlying65 dW kR wJ fun qs pO=>?_
     refine aM ?_
     refine ai.nil (ae.dB (ae.next (ag.cm (bj dd ?_))))
     refine aB ?_
     refine ai.nil ?_
     obtain rfl:=aH h
     exact fc (qs,pO) 1
    refine ag.exit (ae.exit ?_)
    obtain rfl:=aH h
    exact dY (aW.1,aW.2) 0
   refine ae.e1 (ae.next (aC (ai.own (α:=aJ) 56 (bh (ew qb) ?_))))
   refine bD (aC (aB ?_))
   refine bh (oU (i:=3) Tryz.underlying65 (ab rfl) rfl rfl) ?_
   refine aB ?_
   refine aL (ag.block ?_)
   obtain⟨di,ao,h⟩:=aI.c2 h
   refine ag.qm (σ:=Int×(List aJ)) (ε:=(Int×Bool×(List aJ))) (γ:=(Option Nat×Nat)) (δ:=(Option Nat×Nat)) ao (fun iz cn=>[(0,I.of (J)),(1,I.of (ah)),(2,I.of (aP)),(3,I.of (b5)),(8,I.of (false)),(9,I.eq (.pointer (some ⟨a4,0,none⟩))),(10,I.eq (.pointer (some ⟨et,0,none⟩))),(11,I.eq (.pointer (some ⟨(cx 9),0,none⟩))),(12,I.of (bq.1)),(13,I.of (bq.2.1)),(15,I.eq (.pointer (some ⟨ba,0,none⟩))),(16,I.of (b6.1)),(17,I.of (b6.2)),(18,I.eq (aS aW.1 aO.2.2.length aW.2)),(22,I.eq (aS cn.1 iz.2.length cn.2)),(54,I.of (bq.2.1)),(55,I.of (bq.2.1.length:Int)),(56,I.of (s1)),(57,I.of (decide (s1<(bq.2.1.length:Int)))),(73,I.of ((!b6.1)||(b6.2 !=0))),(84,I.eq (aS hf ee.length hD)),(85,I.of (ee.length:Int)),(86,I.of (aO.1)),(87,I.of (aO.2.1)),(116,I.eq (aS aW.1 aO.2.2.length aW.2)),(117,I.of (aO.2.2.length:Int)),(118,I.of (iz.1))]) (fun iz cn=>(⟨cn.1,.row 56 (iz.2:List aJ) cn.2⟩::⟨some et,.var (e8.2:bu)⟩::⟨hf,.row 60 (ee:List (Vector an 4)) hD⟩::⟨aW.1,.row 60 (aO.2.2:List (Vector an 4)) aW.2⟩::⟨some ba,.var (az bq.2.1 bP:aJ)⟩::⟨some (cx 9),.var (az aK.1.bt aZ:bX)⟩::⟨some a4,.var (aK.1:a3)⟩::⟨some aA,.var (aK.2:bu)⟩::a8 bq.2.2.2)) (fun mS=>Exit.exit 6) (fun mS cn=>[(0,I.of (J)),(1,I.of (ah)),(2,I.of (aP)),(3,I.of (b5)),(8,I.of (false)),(9,I.eq (.pointer (some ⟨a4,0,none⟩))),(10,I.eq (.pointer (some ⟨et,0,none⟩))),(11,I.eq (.pointer (some ⟨(cx 9),0,none⟩))),(12,I.of (bq.1)),(13,I.of (bq.2.1)),(15,I.eq (.pointer (some ⟨ba,0,none⟩))),(16,I.of (b6.1)),(17,I.of (b6.2)),(18,I.eq (aS aW.1 aO.2.2.length aW.2)),(22,I.eq (aS cn.1 mS.2.2.length cn.2)),(54,I.of (bq.2.1)),(55,I.of (bq.2.1.length:Int)),(56,I.of (s1)),(57,I.of (decide (s1<(bq.2.1.length:Int)))),(73,I.of ((!b6.1)||(b6.2 !=0))),(84,I.eq (aS hf ee.length hD)),(85,I.of (ee.length:Int)),(86,I.of (aO.1)),(87,I.of (aO.2.1)),(116,I.eq (aS aW.1 aO.2.2.length aW.2)),(117,I.of (aO.2.2.length:Int)),(118,I.of (mS.1)),(119,I.of (mS.2.1))]) (fun mS cn=>(⟨cn.1,.row 56 (mS.2.2:List aJ) cn.2⟩::⟨some et,.var (e8.2:bu)⟩::⟨hf,.row 60 (ee:List (Vector an 4)) hD⟩::⟨aW.1,.row 60 (aO.2.2:List (Vector an 4)) aW.2⟩::⟨some ba,.var (az bq.2.1 bP:aJ)⟩::⟨some (cx 9),.var (az aK.1.bt aZ:bX)⟩::⟨some a4,.var (aK.1:a3)⟩::⟨some aA,.var (aK.2:bu)⟩::a8 bq.2.2.2)) (none,0) rfl .all (fun iz r h cn=>?_) (fun cn=>?_)
   ·refine aC (bj ea ?_)
    refine bD (cg h (fun h=>?_) fun h=>?_)
    ·refine cO (ag.seq (ag.block (aC ?_)))
     obtain⟨jo,nB,h⟩:=au h
     refine bh (l2 (i:=3) (k:=jo) (xs:=(aO.2.2:List (Vector an 4))) Tryz.underlying65 dW (ab rfl) (ab rfl) rfl (bZ nB)) ?_
     refine bh (pA (i:=3) (k:=jo) (aN.id (Vector an 4)) (r:=(az aO.2.2 jo)) dW (ab rfl) rfl (bZ nB).1 rfl rfl) ?_
     refine cC kR fun eW=>?_
     refine b8 0 dW ?_
     refine bW (aB ?_)
     refine cr 0 dW ?_
     obtain⟨o9,JQ,h⟩:=au h
     refine ai.jC (gJ.kO 9 rfl Ra (Md JQ) ⟨ab rfl,ab rfl,trivial⟩) rfl rfl rfl ?_
     refine aB ?_
     refine eO ?_
     refine eO ?_
     refine cC gx fun jd=>?_
     refine b8 0 cM ?_
     refine aM ?_
     refine aL (ag.cm (aB ?_))
     refine cr 0 cM ?_
     refine gV [o9.1] Tryz.underlying67 cM gx ?_
     obtain⟨qE,JR,h⟩:=au h
     refine jI 2 Tryz.underlying67 cM gx JR fun pP wE=>?_
     refine aM ?_
     refine ai.nil (ae.dB (ae.next (ag.cm (bj dd ?_))))
     refine aB ?_
     refine ai.nil ?_
     obtain rfl:=aH h
     exact fc (pP,wE) 2
    refine ag.exit (ae.exit ?_)
    obtain rfl:=aH h
    exact dY (cn.1,cn.2) 0
   refine ae.e1 (ae.next (ag.seq (aC (aB ?_))))
   refine aY (aU la) ?_
   refine cc 4 j9 hN ?_
   refine ai.m1 8 0 rfl abC (Tj h) rfl rfl ⟨ab rfl,ab rfl,trivial⟩ rfl fun⟨⟨iI,h⟩,F7⟩=>?_
   refine ai.ez (L2:=(⟨cn.1,.row 56 (di.2.2:List aJ) cn.2⟩::⟨some et,.var (e8.2:bu)⟩::⟨hf,.row 60 (ee:List (Vector an 4)) hD⟩::⟨aW.1,.row 60 (aO.2.2:List (Vector an 4)) aW.2⟩::⟨some ba,.var (az bq.2.1 bP:aJ)⟩::⟨some (cx 9),.var (az aK.1.bt aZ:bX)⟩::⟨some a4,.var (aK.1:a3)⟩::⟨some aA,.var (aK.2:bu)⟩::a8 iI.2.2)) rfl (aB ?_)
   refine eO ?_
   refine eO ?_
   refine cC gx fun jT=>?_
   refine b8 0 cM ?_
   refine aM ?_
   refine bW (aB ?_)
   refine aY hL ?_
   refine aL (ag.cond (ab rfl) (fun al=>?_) (fun al=>?_))
   ·replace h:=qd al h
    refine aC (aM ?_)
    exact aL (ag.ret (ae.ret (ae.dz (ae.ret (ae.bI 5 rfl (ae.bI 5 rfl (ae.bI 5 rfl (ae.bI 4 rfl (ae.bI 4 rfl (ae.vZ h () 5 rfl (by simp) rfl .all))))))))))
   replace h:=qe al h
   refine cO (ag.seq (aC (aB ?_)))
   refine bh (oU (i:=4) Tryz.underlying65 (ab rfl) rfl rfl) ?_
   refine aB ?_
   refine aL (ag.block ?_)
   obtain⟨fQ,ao,h⟩:=aI.c2 h
   refine ag.qm (σ:=Int) (ε:=(Int×Bool) ⊕ (Int×Int×Bool×Bool)) (γ:=Unit) (δ:=Unit) ao (fun fY gy=>[(0,I.of (J)),(1,I.of (ah)),(2,I.of (aP)),(3,I.of (b5)),(8,I.of (false)),(9,I.eq (.pointer (some ⟨a4,0,none⟩))),(10,I.eq (.pointer (some ⟨et,0,none⟩))),(11,I.eq (.pointer (some ⟨(cx 9),0,none⟩))),(12,I.of (bq.1)),(13,I.of (bq.2.1)),(15,I.eq (.pointer (some ⟨ba,0,none⟩))),(16,I.of (b6.1)),(17,I.of (b6.2)),(18,I.eq (aS aW.1 aO.2.2.length aW.2)),(22,I.eq (aS cn.1 di.2.2.length cn.2)),(28,I.of (iI.2.1)),(54,I.of (bq.2.1)),(55,I.of (bq.2.1.length:Int)),(56,I.of (s1)),(57,I.of (decide (s1<(bq.2.1.length:Int)))),(73,I.of ((!b6.1)||(b6.2 !=0))),(84,I.eq (aS hf ee.length hD)),(85,I.of (ee.length:Int)),(86,I.of (aO.1)),(87,I.of (aO.2.1)),(116,I.eq (aS aW.1 aO.2.2.length aW.2)),(117,I.of (aO.2.2.length:Int)),(118,I.of (di.1)),(119,I.of (di.2.1)),(141,I.of (!iI.2.1)),(142,I.eq (aS aW.1 aO.2.2.length aW.2)),(143,I.of (aO.2.2.length:Int)),(144,I.of (fY))]) (fun fY gy=>(⟨some jT,.var (iI.1:aJ)⟩::⟨cn.1,.row 56 (di.2.2:List aJ) cn.2⟩::⟨some et,.var (e8.2:bu)⟩::⟨hf,.row 60 (ee:List (Vector an 4)) hD⟩::⟨aW.1,.row 60 (aO.2.2:List (Vector an 4)) aW.2⟩::⟨some ba,.var (az bq.2.1 bP:aJ)⟩::⟨some (cx 9),.var (az aK.1.bt aZ:bX)⟩::⟨some a4,.var (aK.1:a3)⟩::⟨some aA,.var (aK.2:bu)⟩::a8 iI.2.2)) (fun mc=>Sum.elim (fun mc=>Exit.exit 8) (fun mc=>Exit.ret) mc) (fun mc gy=>Sum.elim (fun mc=>[(0,I.of (J)),(1,I.of (ah)),(2,I.of (aP)),(3,I.of (b5)),(8,I.of (false)),(9,I.eq (.pointer (some ⟨a4,0,none⟩))),(10,I.eq (.pointer (some ⟨et,0,none⟩))),(11,I.eq (.pointer (some ⟨(cx 9),0,none⟩))),(12,I.of (bq.1)),(13,I.of (bq.2.1)),(15,I.eq (.pointer (some ⟨ba,0,none⟩))),(16,I.of (b6.1)),(17,I.of (b6.2)),(18,I.eq (aS aW.1 aO.2.2.length aW.2)),(22,I.eq (aS cn.1 di.2.2.length cn.2)),(28,I.of (iI.2.1)),(54,I.of (bq.2.1)),(55,I.of (bq.2.1.length:Int)),(56,I.of (s1)),(57,I.of (decide (s1<(bq.2.1.length:Int)))),(73,I.of ((!b6.1)||(b6.2 !=0))),(84,I.eq (aS hf ee.length hD)),(85,I.of (ee.length:Int)),(86,I.of (aO.1)),(87,I.of (aO.2.1)),(116,I.eq (aS aW.1 aO.2.2.length aW.2)),(117,I.of (aO.2.2.length:Int)),(118,I.of (di.1)),(119,I.of (di.2.1)),(141,I.of (!iI.2.1)),(142,I.eq (aS aW.1 aO.2.2.length aW.2)),(143,I.of (aO.2.2.length:Int)),(144,I.of (mc.1)),(145,I.of (mc.2))]) (fun mc=>[(0,I.of (J)),(1,I.of (ah)),(2,I.of (aP)),(3,I.of (b5)),(8,I.of (false)),(9,I.eq (.pointer (some ⟨a4,0,none⟩))),(10,I.eq (.pointer (some ⟨et,0,none⟩))),(11,I.eq (.pointer (some ⟨(cx 9),0,none⟩))),(12,I.of (bq.1)),(13,I.of (bq.2.1)),(15,I.eq (.pointer (some ⟨ba,0,none⟩))),(16,I.of (b6.1)),(17,I.of (b6.2)),(18,I.eq (aS aW.1 aO.2.2.length aW.2)),(22,I.eq (aS cn.1 di.2.2.length cn.2)),(28,I.of (iI.2.1)),(29,I.of (mc.1)),(54,I.of (bq.2.1)),(55,I.of (bq.2.1.length:Int)),(56,I.of (s1)),(57,I.of (decide (s1<(bq.2.1.length:Int)))),(73,I.of ((!b6.1)||(b6.2 !=0))),(84,I.eq (aS hf ee.length hD)),(85,I.of (ee.length:Int)),(86,I.of (aO.1)),(87,I.of (aO.2.1)),(116,I.eq (aS aW.1 aO.2.2.length aW.2)),(117,I.of (aO.2.2.length:Int)),(118,I.of (di.1)),(119,I.of (di.2.1)),(141,I.of (!iI.2.1)),(142,I.eq (aS aW.1 aO.2.2.length aW.2)),(143,I.of (aO.2.2.length:Int)),(144,I.of (mc.2.1)),(145,I.of (mc.2.2.1)),(161,I.of (mc.2.2.2))]) mc) (fun mc gy=>Sum.elim (fun mc=>(⟨some jT,.var (iI.1:aJ)⟩::⟨cn.1,.row 56 (di.2.2:List aJ) cn.2⟩::⟨some et,.var (e8.2:bu)⟩::⟨hf,.row 60 (ee:List (Vector an 4)) hD⟩::⟨aW.1,.row 60 (aO.2.2:List (Vector an 4)) aW.2⟩::⟨some ba,.var (az bq.2.1 bP:aJ)⟩::⟨some (cx 9),.var (az aK.1.bt aZ:bX)⟩::⟨some a4,.var (aK.1:a3)⟩::⟨some aA,.var (aK.2:bu)⟩::a8 iI.2.2)) (fun mc=>(⟨some jT,.var (iI.1:aJ)⟩::⟨cn.1,.row 56 (di.2.2:List aJ) cn.2⟩::⟨some et,.var (e8.2:bu)⟩::⟨hf,.row 60 (ee:List (Vector an 4)) hD⟩::⟨aW.1,.row 60 (aO.2.2:List (Vector an 4)) aW.2⟩::⟨some ba,.var (az bq.2.1 bP:aJ)⟩::⟨some (cx 9),.var (az aK.1.bt aZ:bX)⟩::⟨some a4,.var (aK.1:a3)⟩::⟨some aA,.var (aK.2:bu)⟩::a8 iI.2.2)) mc) () rfl .all (fun fY r h gy=>?_) (fun gy=>?_)
   ·refine aC (bj ea ?_)
    refine bD (cg h (fun h=>?_) fun h=>?_)
    ·refine cO (ag.seq (ag.block (aC (aB ?_))))
     obtain⟨jB,oz,h⟩:=au h
     refine bh (l2 (i:=4) (k:=jB) (xs:=(aO.2.2:List (Vector an 4))) Tryz.underlying65 dW (ab rfl) (ab rfl) rfl (bZ oz)) ?_
     refine bh (pA (i:=4) (k:=jB) (aN.id (Vector an 4)) (r:=(az aO.2.2 jB)) dW (ab rfl) rfl (bZ oz).1 rfl rfl) ?_
     refine cC kR fun q3=>?_
     refine aM ?_
     refine b8 0 dW ?_
     refine bW (aB ?_)
     refine cr 0 dW ?_
     obtain⟨Ko,abD,h⟩:=au h
     refine ai.jC (gJ.kO 10 rfl Ra (Md abD) ⟨ab rfl,ab rfl,trivial⟩) rfl rfl rfl ?_
     refine aB ?_
     refine eO ?_
     refine eO ?_
     refine cC gx fun Sc=>?_
     refine b8 0 cM ?_
     refine aM ?_
     refine bD ?_
     obtain⟨h7,mG,h⟩:=au h
     obtain⟨Kp,abE,h⟩:=au h
     refine jk [0,1,2,3,8,9,10,11,12,13,15,16,17,18,22,28,29,30,31,32,54,55,56,57,73,84,85,86,87,116,117,118,119,141,142,143,144,145,146,147,148,149,150,151,152,153,154] ?_
     refine ag.qk 11 mixed (bg 155 [] (0::[]) _::bg 156 [] [] _::bg 157 [] [] _::bg 158 (1::2::[]) (3::[]) _::bg 159 (3::[]) (3::[]) _::bg 160 (0::4::[]) [] _::bg 161 (5::[]) [] _::[]) _ (0::1::2::3::8::9::10::11::12::13::15::16::17::18::22::28::29::30::31::32::54::55::56::57::73::84::85::86::87::116::117::118::119::141::142::143::144::145::146::147::148::149::150::151::152::153::154::[]) rfl rfl (by kernel_rfl) (by kernel_rfl) ⟨cI.q (lG 0 cM),cI.q (fP),cI.q (fP),cI.q (cz fun hd E' ax aG ar=>l2 (i:=3) (k:=h7) (xs:=(di.2.2:List aJ)) Tryz.underlying67 cM (ab (aG _ _ rfl)) (ab (aG _ _ rfl)) (ar 3 _ rfl rfl) (bZ mG)),cI.q (cz fun hd E' ax aG ar=>pA (i:=3) (k:=h7) (aN.id aJ) (r:=(az di.2.2 h7)) cM (ab (aG _ _ rfl)) (ar 3 _ rfl rfl) (bZ mG).1 rfl rfl),cI.q (cz fun hd E' ax aG ar=>hZ abF (UB abE) ⟨ab (aG _ _ rfl),ab (aG _ _ rfl),trivial⟩),cI.q (fy hL),trivial⟩ fun fj=>?_
     refine ae.ez (L2:=(⟨some Sc,.var (Ko.1:aJ)⟩::⟨some q3,.var ((az aO.2.2 jB):Vector an 4)⟩::⟨some jT,.var (iI.1:aJ)⟩::⟨cn.1,.row 56 (di.2.2:List aJ) cn.2⟩::⟨some et,.var (e8.2:bu)⟩::⟨hf,.row 60 (ee:List (Vector an 4)) hD⟩::⟨aW.1,.row 60 (aO.2.2:List (Vector an 4)) aW.2⟩::⟨some ba,.var (az bq.2.1 bP:aJ)⟩::⟨some (cx 9),.var (az aK.1.bt aZ:bX)⟩::⟨some a4,.var (aK.1:a3)⟩::⟨some aA,.var (aK.2:bu)⟩::a8 iI.2.2)) rfl (km [0,1,2,3,8,9,10,11,12,13,15,16,17,18,22,28,29,30,31,32,54,55,56,57,73,84,85,86,87,116,117,118,119,141,142,143,144,145,146,147,148,149,150,151,152,153,154,155,156,157,158,159,160,161] ?_)
     refine ae.next (cg h (fun h=>?_) fun h=>?_)
     ·refine aC (aM ?_)
      refine aL (ag.ret (ae.dz (ae.ret ?_)))
      obtain rfl:=aH h
      exact dY () 2
     refine ag.skip (ae.dB (ae.next (ag.cm (bj dd ?_))))
     refine aB ?_
     refine ai.nil ?_
     obtain rfl:=aH h
     exact fc () 2
    refine ag.exit (ae.exit ?_)
    obtain rfl:=aH h
    exact dY () 0
   rcases fQ with fQ | fQ
   ·simp only [Sum.elim_inl] at h
    refine ae.e1 (ae.next (aC (aB ?_)))
    refine cr 5 cM ?_
    refine ai.m1 9 0 rfl Q9 (Ml h) rfl rfl ⟨ab rfl,ab rfl,trivial⟩ rfl fun⟨⟨w0,h⟩,acn⟩=>?_
    refine ai.ez (L2:=(⟨some jT,.var (iI.1:aJ)⟩::⟨cn.1,.row 56 (di.2.2:List aJ) cn.2⟩::⟨some et,.var (e8.2:bu)⟩::⟨hf,.row 60 (ee:List (Vector an 4)) hD⟩::⟨aW.1,.row 60 (aO.2.2:List (Vector an 4)) aW.2⟩::⟨some ba,.var (az bq.2.1 bP:aJ)⟩::⟨some (cx 9),.var (az aK.1.bt aZ:bX)⟩::⟨some a4,.var (aK.1:a3)⟩::⟨some aA,.var (aK.2:bu)⟩::a8 w0.2)) rfl (aB ?_)
    obtain⟨Rx,abG,h⟩:=aI.c2 h
    refine eI (fun hb=>hZ Rb (MC (gN abG hb)) trivial) ?_
    refine iG ?_
    refine aM ?_
    exact aL (ag.ret (ae.dz (ae.ret (ae.bI 5 rfl (ae.bI 5 rfl (ae.bI 5 rfl (ae.bI 4 rfl (ae.bI 4 rfl (ae.vZ h () 5 rfl (by simp) rfl .all)))))))))
   simp only [Sum.elim_inr] at h
   exact ae.dz (ae.ret (ae.dz (ae.ret (ae.bI 5 rfl (ae.bI 5 rfl (ae.bI 5 rfl (ae.bI 4 rfl (ae.bI 4 rfl (ae.vZ h () 5 rfl (by simp) rfl .all)))))))))
  replace h:=qe al h
  exact ag.exit (ae.exit (ae.vZ h () 0 rfl (by simp) rfl .all))
 rcases ay with ay | ay
 ·simp only [Sum.elim_inl] at h
  refine ae.e1 (ae.next (aC ?_))
  obtain⟨Kq,abH,h⟩:=aI.c2 h
  refine du Rb (MC abH) ?_
  refine aM ?_
  exact aL (ag.ret (ae.gr (⟨⟨(Kq,bq.2.2.2),h⟩,()⟩: {r // _}×_) (.cons _ (.cons _ (.cons _ (.cons _ (.refl _))))) rfl rfl (ej rfl)))
 simp only [Sum.elim_inr] at h
 exact ae.dz (ae.ret (ae.gr (⟨⟨(ay.1,ay.2.2.2.2.2.2.2.2.2.2.2.2.2.2.2),h⟩,()⟩: {r // _}×_) (.cons _ (.cons _ (.cons _ (.cons _ (.refl _))))) rfl rfl (ej rfl)))
end Go.Proofs.YthkfkliknjiecaaGreat
