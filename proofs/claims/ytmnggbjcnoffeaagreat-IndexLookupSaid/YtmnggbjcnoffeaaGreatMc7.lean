/-
  Each function meets its functional program. Conditions: none.
-/
import Derived.Test.YtmnggbjcnoffeaaGreatMc0
import Derived.Test.YtmnggbjcnoffeaaGreatMc6
import Derived.Test.YtmnggbjcnoffeaaGreatMc1
import Derived.Test.YtmnggbjcnoffeaaGreatMc3
import Derived.Test.YtmnggbjcnoffeaaGreatMc4
import Derived.Test.YtmnggbjcnoffeaaGreatMc2
namespace Go.Proofs.YtmnggbjcnoffeaaGreat
open Go Gv
set_option linter.unusedVariables false
set_option linter.unusedSimpArgs false
set_option maxRecDepth 100000
set_option maxHeartbeats 2000000
theorem NG {J:cF} {aj:aJ} {b6:Nat} {ju:Option Nat} {jv:Nat} {r:Bool × cF} (h:wH J aj=some r):cf Tryz.prog 267 [I.eq (.pointer (some ⟨b6,0,none⟩)),I.of (aj)] [⟨some b6,.cg (({ J with cb:= [] } :cF):cF) [(10,aV ju J.cb.length jv)]⟩,⟨ju,.row 52 (J.cb:List aJ) jv⟩] (δ:=(Option Nat × Nat)) (fun d=>I.of (r.1)) (fun d=> [⟨some b6,.cg (({ r.2 with cb:= [] } :cF):cF) [(10,aV d.1 (r.2.cb).length d.2)]⟩,⟨d.1,.row 52 (r.2.cb:List aJ) d.2⟩]):=by
 unfold wH at h
 refine cf.of Tryz.func267 rfl Tryz.ntmps267 rfl fun W A=> ?_
 refine aA ?_
 refine b8 fun aR=> ?_
 refine aM ?_
 refine bK ?_
 refine aA ?_
 refine aB ?_
 refine bj (EG Tryz.underlying170 (ad rfl)) ?_
 refine aB ?_
 refine dK cU ?_
 refine dK (aQ mC) ?_
 refine ea (fun hb=>dP (i:=0) ((aK.id aJ).comp lN) (r:=aj.cI) bo (b3 rfl hb) rfl rfl rfl) ?_
 obtain⟨ak,bt,h⟩:=ay h
 refine ea (fun hb=>bY.Tf (β:=cF) (γ:=aJ) (b':=(J:cF)) ((aK.id cF).comp wV) 1 2 0 rfl rfl rfl rfl rfl rfl uV (bY.Lb 1 rfl uV (bY.Lc (z:=(J:cF)) 1 11 rfl (fun _ _ _ h=>h.1 hb) rfl uV (iQ Tg (NI (fC bt hb)) ⟨ad rfl,b3 rfl hb,trivial⟩)))) ?_
 refine iW kX ?_
 refine tj ?_
 refine aI ?_
 refine b4 h (fun h=>?_) fun h=>?_
 ·refine aA ?_
  refine aM ?_
  refine aI ?_
  refine ag.ret ?_
  refine ab.ret ?_
  refine ab.bI 2 rfl ?_
  refine ab.bI 2 rfl ?_
  obtain rfl:=aH h
  exact mS (ju,jv)
 ·refine cP ?_
  refine aA ?_
  refine aB ?_
  refine bj (Th (ad rfl)) ?_
  refine aM ?_
  refine bK ?_
  obtain⟨aO,cq,h⟩:=ay h
  refine iC [0,1,3,4,5,8,9,10,11,12,13,14,15,16,17,18] ?_
  refine ag.jV mixed (bb 20 [] [] _ :: bb 21 (0 :: []) [] _ :: bb 22 (1 :: []) [] _ :: bb 23 (2 :: []) (1 :: []) _ :: bb 24 [] (0 :: []) _ :: bb 25 [] [] _ :: bb 26 (3 :: 4 :: 5 :: []) (1 :: 2 :: []) _ :: bb 19 (6 :: []) [] _ :: bb 27 (7 :: []) [] _ :: bb 28 (7 :: []) [] _ :: bb 6 (8 :: []) [] _ :: bb 7 (9 :: []) [] _ :: []) _ (0 :: 1 :: 3 :: 4 :: 5 :: 8 :: 9 :: 10 :: 11 :: 12 :: 13 :: 14 :: 15 :: 16 :: 17 :: 18 :: []) rfl rfl (by kernel_rfl) ⟨fJ,e1 eI,e1 (aQ uZ),cw fun hd E' L' aE ao=>iO (i:=1) (q:=0) (β:=cF) (γ:=aJ) s0 (ad (aE _ _ rfl)) (ao 1 _ rfl rfl) rfl,k5 0 cO,fJ,cw fun hd E' L' aE ao=>bY.RN (β:=cF) (γ:=aJ) (b':=(J:cF)) ((aK.id cF).comp wV) 1 2 0 23 rfl (ao 1 _ rfl rfl) (ao 2 _ rfl rfl) rfl rfl rfl (aE _ _ rfl) (DG uV Ba) (bY.Lb 1 (FZ (Mk rfl (ao 1 _ rfl rfl))) (DG uV Ba) (bY.RO (F:=(fun hF dL=>ud J hF dL)) 1 25 (aE _ _ rfl) (FZ (FZ (Mk rfl (ao 1 _ rfl rfl)))) Ti (fun _ _ _ h=>NF h) (DG uV Ba) (iQ Tj (Nj cq) ⟨ad rfl,ad (aE _ _ rfl),ad rfl,trivial⟩))),fJ,cw fun hd E' L' aE ao=>kY (ad (aE _ _ rfl)) rfl,cw fun hd E' L' aE ao=>kY (ad (aE _ _ rfl)) rfl,cw fun hd E' L' aE ao=>eW (ad (aE _ _ rfl)),cw fun hd E' L' aE ao=>eW (ad (aE _ _ rfl)),trivial⟩ fun fl=> ?_
  refine ab.en (L2:= [⟨some aR,.var (aj:aJ)⟩,⟨some b6,.cg (({ J with cb:= [] } :cF):cF) [(10,aV ju J.cb.length jv)]⟩,⟨ju,.row 52 (J.cb:List aJ) jv⟩]) rfl ?_
  refine jF [0,1,3,4,5,6,7,8,9,10,11,12,13,14,15,16,17,18,19,20,21,22,23,24,25,26,27,28] ?_
  refine ab.next ?_
  refine ag.seq ?_
  obtain⟨bc,fb,h⟩:=ay h
  obtain⟨br,fY,h⟩:=ay h
  refine ag.p7 1 ?_
  refine iC [0,1,3,4,5,6,7,8,9,10,11,12,13,14,15,16,17,18,19,20,21,22,23,24,25,26,27,28] ?_
  refine ag.jV mixed (bb 29 [] [] _ :: bb 30 [] [] _ :: bb 31 (1 :: []) [] _ :: bb 32 (2 :: []) [] _ :: bb 33 (3 :: []) (1 :: []) _ :: bb 34 [] [] _ :: bb 35 [] (0 :: []) _ :: bb 36 (6 :: []) [] _ :: ⟨some 37,(7 :: []),(3 :: []),(3 :: []),fun hd=>I.eq (aV (hd 8 0) [bc].length 1),fun hd _=>⟨(hd 8 0),.row 52 ([bc]:List aJ) 1⟩⟩ :: ⟨some 38,(4 :: 5 :: 8 :: []),(2 :: 3 :: []),(2 :: 3 :: []),fun hd=>I.eq (aV (hd 9 0) br.length ((hd 9 1).getD 0)),fun hd j=>bif Nat.beq j 2 then⟨(hd 9 0),.row 52 (br:List aJ) ((hd 9 1).getD 0)⟩ else⟨none,.dead⟩⟩ :: bb 39 (0 :: []) [] _ :: bb 40 (10 :: []) [] _ :: ⟨none,(4 :: 9 :: 11 :: []),(1 :: []),(1 :: []),fun _=>I.any,fun hd _=>⟨some b6,.cg (({ J with cb:= [] } :cF):cF) [(10,aV (hd 9 0) br.length ((hd 9 1).getD 0))]⟩⟩ :: []) _ (0 :: 1 :: 3 :: 4 :: 5 :: 6 :: 7 :: 8 :: 9 :: 10 :: 11 :: 12 :: 13 :: 14 :: 15 :: 16 :: 17 :: 18 :: 19 :: 20 :: 21 :: 22 :: 23 :: 24 :: 25 :: 26 :: 27 :: 28 :: []) rfl rfl (by kernel_rfl) ⟨fJ,fJ,e1 eI,e1 (aQ uZ),cw fun hd E' L' aE ao=>iO (i:=1) (q:=0) (β:=cF) (γ:=aJ) s0 (ad (aE _ _ rfl)) (ao 1 _ rfl rfl) rfl,fJ,k5 0 cO,cw fun hd E' L' aE ao=>iQ za (xe fb) ⟨ad (aE _ _ rfl),trivial⟩,?_,?_,e1 eI,e1 (aQ uZ),?_,trivial⟩ fun jH=> ?_
  ·intro hd E' L' aE ao
   refine ai.pf (α:=aJ) (r:= [bc]) Tryz.underlying38 cO hn rfl rfl (.cons (by simp) (ad (aE _ _ rfl)) (.nil)) rfl fun gR=> ?_
   refine ai.nil ?_
   refine ab.place 3 (ao 3 _ rfl rfl) ?_
   exact ab.fin (eh [gR]) rfl rfl
  ·intro hd E' L' aE ao
   refine ai.RP (fun q=>⟨q.1,.row 52 (br:List aJ) q.2⟩) 2 3 Tk (Nk fY) ⟨ad (aE _ _ rfl),ad (aE _ _ rfl),ad (aE _ _ rfl),trivial⟩ rfl (ao 2 _ rfl rfl) (ao 3 _ rfl rfl) (fun _=>rfl) rfl fun⟨kH,fH⟩=> ?_
   refine ai.nil ?_
   exact ab.fin (eh [kH,some fH]) rfl rfl
  ·intro hd E' L' aE ao
   refine ai.jf (i:=1) (γ:=aJ) (b':=(({ J with cb:= [] } :cF):cF)) (os':= [(10,aV (hd 9 0) br.length ((hd 9 1).getD 0))]) ((aK.id cF).comp wV) s0 (ad (aE _ _ rfl)) (ad (aE _ _ rfl)) ic (ao 1 _ rfl rfl) rfl rfl rfl ?_
   refine ai.nil ?_
   exact ab.fin (eh []) rfl rfl
  refine ab.en (L2:= [⟨some aR,.var (aj:aJ)⟩,⟨some b6,.cg (({ J with cb:= [] } :cF):cF) [(10,aV (jH 9 0) br.length ((jH 9 1).getD 0))]⟩,⟨(jH 9 0),.row 52 (br:List aJ) ((jH 9 1).getD 0)⟩,⟨none,.dead⟩]) rfl ?_
  refine jF [0,1,3,4,5,6,7,8,9,10,11,12,13,14,15,16,17,18,19,20,21,22,24,25,26,27,28,29,30,31,32,34,35,36,38,39,40] ?_
  refine ab.bI 3 rfl ?_
  refine ab.next ?_
  refine aA ?_
  refine aM ?_
  refine aI ?_
  refine ag.ret ?_
  refine ab.bI 3 rfl ?_
  refine ab.bI 3 rfl ?_
  obtain rfl:=aH h
  exact mS ((jH 9 0),((jH 9 1).getD 0))
theorem Ns {J:cF} {aj:Vector al 4} {b6:Nat} {ju:Option Nat} {jv:Nat} {r:aJ × Bool} (h:tY J aj=some r):cf Tryz.prog 266 [I.eq (.pointer (some ⟨b6,0,none⟩)),I.of (aj)] [⟨some b6,.cg (({ J with cb:= [] } :cF):cF) [(10,aV ju J.cb.length jv)]⟩,⟨ju,.row 52 (J.cb:List aJ) jv⟩] (δ:=Unit) (fun d=>I.cG [I.of (r.1),I.of (r.2)]) (fun d=> [⟨some b6,.cg (({ J with cb:= [] } :cF):cF) [(10,aV ju (J.cb).length jv)]⟩,⟨ju,.row 52 (J.cb:List aJ) jv⟩]):=by
 unfold tY at h
 refine cf.ofM Tryz.func266 rfl Tryz.ntmps266 rfl fun W A=> ?_
 refine aA ?_
 refine b8 fun aR=> ?_
 refine cM hn fun a0=> ?_
 refine cM Cn fun bF=> ?_
 refine bK ?_
 refine aA ?_
 refine aB ?_
 refine bj (EG Tryz.underlying170 (ad rfl)) ?_
 refine aI ?_
 refine ag.sO (ad rfl) rfl ?_
 refine cP ?_
 refine ag.seq ?_
 refine aA ?_
 refine aB ?_
 refine cm 2 g2 ?_
 obtain⟨ak,bt,h⟩:=ay h
 refine ev Tl (Ny bt) ?_
 refine aI ?_
 refine ag.block ?_
 refine ag.bI 4 rfl ?_
 refine ag.bI 4 rfl ?_
 obtain⟨av,an,h⟩:=ay h
 refine Qu (γ:=Unit) (g0:=()) (Lin:= [⟨some b6,.cg (({ J with cb:= [] } :cF):cF) [(10,aV ju J.cb.length jv)]⟩,⟨ju,.row 52 (J.cb:List aJ) jv⟩]) (Ls:=fun s1 aw=> [⟨some bF,.var ((default:Bool):Bool)⟩,⟨some a0,.var ((default:aJ):aJ)⟩,⟨some aR,.var (aj:Vector al 4)⟩]) (Lx:=fun az aw=> [⟨some bF,.var (az.1:Bool)⟩,⟨some a0,.var (az.2:aJ)⟩,⟨some aR,.var (aj:Vector al 4)⟩]) (fun az=> .ret) rfl Tm rfl Nm an rfl rfl (fun rI s1 r h aw kp kz kq l D rec tq=> ?_) (fun s1 aU aw D=> ?_) (fun az aU aw D=> ?_)
 ·clear an
  refine ag.cj ?_
  refine cM hn fun cA=> ?_
  refine ck 0 cO ?_
  refine ai.nil ?_
  refine ab.begin 1 rfl tq ?_
  refine ag.block ?_
  refine aA ?_
  refine cm 0 cO ?_
  obtain⟨aO,cq,h⟩:=ay h
  refine ev za (xe cq) ?_
  refine ck 4 cO ?_
  refine ck 3 fk ?_
  refine aI ?_
  refine ag.ret ?_
  refine ab.c5 ?_
  obtain rfl:=aH h
  exact ab.EF () 1 rfl rfl rfl
 ·clear an; subst aU; simp only [Sum.elim_inl] at h
  refine ab.en (L2:= [⟨some D,.db⟩,⟨some b6,.cg (({ J with cb:= [] } :cF):cF) [(10,aV ju J.cb.length jv)]⟩,⟨ju,.row 52 (J.cb:List aJ) jv⟩,⟨some bF,.var ((default:Bool):Bool)⟩,⟨some a0,.var ((default:aJ):aJ)⟩,⟨some aR,.var (aj:Vector al 4)⟩]) rfl ?_
  refine ab.dz ?_
  refine ab.next ?_
  refine aA ?_
  refine ho BZ hn (default:aJ) .nil ?_
  refine ck 4 cO ?_
  refine ck 3 fk ?_
  refine aI ?_
  refine ag.ret ?_
  refine ab.bI 2 rfl ?_
  refine ab.bI 2 rfl ?_
  obtain rfl:=aH h
  refine ab.s8 2 rfl rfl ?_
  exact ab.kF () (.cons_cons _ (.cons_cons _ (List.nil_sublist _))) rfl rfl (jy (i:=4) cO rfl rfl) (jy (i:=3) fk rfl rfl)
 ·clear an; subst aU; simp only [Sum.elim_inr] at h
  refine ag.ret ?_
  refine ab.en (L2:= [⟨some D,.db⟩,⟨some b6,.cg (({ J with cb:= [] } :cF):cF) [(10,aV ju J.cb.length jv)]⟩,⟨ju,.row 52 (J.cb:List aJ) jv⟩,⟨some bF,.var (az.1:Bool)⟩,⟨some a0,.var (az.2:aJ)⟩,⟨some aR,.var (aj:Vector al 4)⟩]) rfl ?_
  refine ab.c5 ?_
  refine ab.ret ?_
  refine ab.bI 2 rfl ?_
  refine ab.bI 2 rfl ?_
  obtain rfl:=aH h
  refine ab.s8 2 rfl rfl ?_
  exact ab.kF () (.cons_cons _ (.cons_cons _ (List.nil_sublist _))) rfl rfl (jy (i:=4) cO rfl rfl) (jy (i:=3) fk rfl rfl)
end Go.Proofs.YtmnggbjcnoffeaaGreat
namespace Go.Proofs.YtmnggbjcnoffeaaGreat
open Go Gv
set_option linter.unusedVariables false
set_option linter.unusedSimpArgs false
set_option maxRecDepth 100000
set_option maxHeartbeats 2000000
end Go.Proofs.YtmnggbjcnoffeaaGreat
namespace Go.Proofs.YtmnggbjcnoffeaaGreat
open Go Gv
set_option linter.unusedVariables false
set_option linter.unusedSimpArgs false
set_option maxRecDepth 100000
set_option maxHeartbeats 2000000
theorem NS {hp:a1 Cell} {y:gm} {J:bu} {r:Int × Bool} (h:Dd hp y J=some r):kW Tryz.prog "matchguard/index.find" (I.of y) [I.of (J)] ([] ++ a3 hp) (δ:=Unit) (fun _=>I.cG [I.of (r.1),I.of (r.2)]) (fun _=> [] ++ a3 hp):=by
 cases y with
 | nil=>cases h
 | lX z=>exact kW.of PV (fun A W u hu=>DH hu) (NW h)
 | lY z=>exact kW.of PW (fun A W u hu=>DI hu) (NL h)
 | lZ z=>exact kW.of PX (fun A W u hu=>DJ hu) (N1 h)
theorem Oa {hp:a1 Cell} {J:je} {aj:aJ} {Q:(a1 Cell)→Prop} (h:w7 hp J aj Q):cf Tryz.prog 262 [I.of (J),I.of (aj)] ([] ++ a3 hp) (δ:= {r:(a1 Cell) // Q r} × Unit) (fun d=>I.cG []) (fun d=> [] ++ a3 d.1.1):=by
 unfold w7 at h
 refine cf.of Tryz.func262 rfl Tryz.ntmps262 rfl fun W A=> ?_
 refine aA ?_
 refine b8 fun aR=> ?_
 refine b8 fun a0=> ?_
 refine aI ?_
 refine ag.cj ?_
 refine aT (aQ Ef) ?_
 refine bL 1 AO BQ ?_
 refine cm 0 cO ?_
 obtain⟨cW,eA,h⟩:=aC.cJ h
 obtain⟨cd,ff,h⟩:=aC.cJ h
 obtain⟨ak,bt,h⟩:=aC.cJ h
 refine ai.CS (eR.obj 2 (fun q:Option Nat × Nat=>Cell.rA ak.2 q.1 q.2) rfl (vb ff) Tn (NG bt) rfl (fun _=>rfl) ⟨fv (ad rfl) eA,ad rfl,trivial⟩) rfl rfl rfl fun az=> ?_
 replace h:=aC.any_bind h az
 obtain⟨dF,oq,h⟩:=aC.cJ h
 refine ai.en (L2:=(⟨some a0,.var (aj:aJ)⟩ :: ⟨some aR,.var (J:je)⟩ :: a3 dF)) (by rw [← aH oq]; rfl) ?_
 refine ai.nil ?_
 refine ab.sZ ?_
 exact ab.o8 (⟨⟨dF,h⟩,()⟩: {r // _} × _) (.cons _ (.cons _ (.refl _))) rfl rfl
theorem NM {hp:a1 Cell} {J:je} {aj:Vector al 4} {r:Int × Bool} (h:wM hp J aj=some r):cf Tryz.prog 261 [I.of (J),I.of (aj)] ([] ++ a3 hp) (δ:=Unit) (fun _=>I.cG [I.of (r.1),I.of (r.2)]) (fun _=> [] ++ a3 hp):=by
 unfold wM at h
 refine cf.of Tryz.func261 rfl Tryz.ntmps261 rfl fun W A=> ?_
 refine aA ?_
 refine b8 fun aR=> ?_
 refine b8 fun a0=> ?_
 refine aM ?_
 refine aM ?_
 refine b2 ?_
 refine aT (aQ Ef) ?_
 refine bL 1 AO BQ ?_
 refine cm 0 g2 ?_
 obtain⟨cW,eA,h⟩:=ay h
 obtain⟨cd,ff,h⟩:=ay h
 obtain⟨ak,bt,h⟩:=ay h
 refine ai.lf (gO.obj 2 rfl (vb ff) To (Ns bt) rfl ⟨fv (ad rfl) eA,ad rfl,trivial⟩) rfl rfl rfl ?_
 refine aB ?_
 refine h6 ?_
 refine h6 ?_
 refine cM hn fun bF=> ?_
 refine ck 0 cO ?_
 refine aM ?_
 refine b2 ?_
 refine aT (aQ mC) ?_
 refine bL 0 lN bo ?_
 refine aB ?_
 refine aM ?_
 refine aM ?_
 refine aI ?_
 refine ag.ret ?_
 obtain rfl:=aH h
 exact ab.kF () (.cons _ (.cons _ (.cons _ (.refl _)))) rfl rfl (dV rfl) (dV rfl)
end Go.Proofs.YtmnggbjcnoffeaaGreat
namespace Go.Proofs.YtmnggbjcnoffeaaGreat
open Go Gv
set_option linter.unusedVariables false
set_option linter.unusedSimpArgs false
set_option maxRecDepth 100000
set_option maxHeartbeats 2000000
theorem N2 {hp:a1 Cell} {y:gm} {J:aJ} {Q:(a1 Cell)→Prop} (h:Dh hp y J Q):kW Tryz.prog "matchguard/index.put" (I.of y) [I.of (J)] ([] ++ a3 hp) (δ:= {r:(a1 Cell) // Q r} × Unit) (fun d=>I.cG []) (fun d=> [] ++ a3 d.1.1):=by
 cases y with
 | nil=>exact h.elim
 | lX z=>
   obtain⟨r,aa,ae⟩:=h
   exact kW.of PY (fun A W u hu=>DH hu) (cf.map (fun d=>(⟨r,ae⟩,d)) (fun _=>rfl) (fun _=>rfl) (N9 aa))
 | lY z=>exact kW.of PZ (fun A W u hu=>DI hu) (NR h)
 | lZ z=>exact kW.of P0 (fun A W u hu=>DJ hu) (Oa h)
theorem NH {hp:a1 Cell} {y:gm} {J:Vector al 4} {r:Int × Bool} (h:C6 hp y J=some r):kW Tryz.prog "matchguard/index.lookup" (I.of y) [I.of (J)] ([] ++ a3 hp) (δ:=Unit) (fun _=>I.cG [I.of (r.1),I.of (r.2)]) (fun _=> [] ++ a3 hp):=by
 cases y with
 | nil=>cases h
 | lX z=>exact kW.of P1 (fun A W u hu=>DH hu) (NJ h)
 | lY z=>exact kW.of P2 (fun A W u hu=>DI hu) (Nz h)
 | lZ z=>exact kW.of P3 (fun A W u hu=>DJ hu) (NM h)
end Go.Proofs.YtmnggbjcnoffeaaGreat
namespace Go.Proofs.YtmnggbjcnoffeaaGreat
open Go Gv
set_option linter.unusedVariables false
set_option linter.unusedSimpArgs false
set_option maxRecDepth 100000
set_option maxHeartbeats 2000000
theorem NT {hp:a1 Cell} {J:Ref} {aj:Vector al 4} {r:aJ × Bool} (h:wT hp J aj=some r):cf Tryz.prog 20 [I.of (J),I.of (aj)] ([] ++ a3 hp) (δ:=Unit) (fun _=>I.cG [I.of (r.1),I.of (r.2)]) (fun _=> [] ++ a3 hp):=by
 unfold wT at h
 refine cf.of Tryz.func20 rfl Tryz.ntmps20 rfl fun W A=> ?_
 refine aA ?_
 refine b8 fun aR=> ?_
 refine cM hn fun a0=> ?_
 refine aM ?_
 refine bK ?_
 refine aA ?_
 refine aB ?_
 refine bj (m9 Tryz.underlying37 (ad rfl)) ?_
 refine aI ?_
 refine b4 h (fun h=>?_) fun h=>?_
 ·refine aA ?_
  refine ho BZ hn (default:aJ) .nil ?_
  refine ck 0 cO ?_
  refine aM ?_
  refine aI ?_
  refine ag.ret ?_
  refine ab.ret ?_
  obtain rfl:=aH h
  exact ab.kF () (.cons _ (.cons _ (.refl _))) rfl rfl (jy (i:=0) cO rfl rfl) (dV rfl)
 ·refine cP ?_
  refine ag.seq ?_
  refine aA ?_
  refine aB ?_
  refine aI ?_
  refine ag.block ?_
  obtain⟨av,an,h⟩:=ay h
  refine ag.sR (σ:=Int × (Vector al 4)) (ε:=(Int × Bool × (Vector al 4))) (γ:=Unit) (δ:=Unit) an (fun s1 aw=> [(0,I.of (J)),(1,I.of (aj)),(3,I.eq (.pointer (some ⟨aR,0,none⟩))),(4,I.eq (.pointer (some ⟨a0,0,none⟩))),(5,I.of (false)),(10,I.of (J.isNone)),(12,I.of (s1.1))]) (fun s1 aw=>(⟨some a0,.var ((default:aJ):aJ)⟩ :: ⟨some aR,.var (s1.2:Vector al 4)⟩ :: a3 hp)) (fun az=>Exit.exit 0) (fun az aw=> [(0,I.of (J)),(1,I.of (aj)),(3,I.eq (.pointer (some ⟨aR,0,none⟩))),(4,I.eq (.pointer (some ⟨a0,0,none⟩))),(5,I.of (false)),(10,I.of (J.isNone)),(12,I.of (az.1)),(13,I.of (az.2.1))]) (fun az aw=>(⟨some a0,.var ((default:aJ):aJ)⟩ :: ⟨some aR,.var (az.2.2:Vector al 4)⟩ :: a3 hp)) () rfl (.same rfl (.same rfl (.same rfl (.same rfl (.same rfl (.same rfl (.same rfl .nil))))))) (fun s1 r h aw=> ?_) (fun aw=> ?_)
  ·clear an
   refine aA ?_
   refine bd dJ ?_
   refine bK ?_
   refine b4 h (fun h=>?_) fun h=>?_
   ·refine cP ?_
    refine ag.seq ?_
    refine ag.block ?_
    refine aA ?_
    refine aB ?_
    refine aM ?_
    refine b2 ?_
    refine aB ?_
    refine aB ?_
    obtain⟨cW,eA,h⟩:=ay h
    refine bj (eI (fv (ad rfl) eA)) ?_
    refine aT (aQ Q6) ?_
    obtain⟨cd,ff,h⟩:=ay h
    refine bj (hj ((aK.id gA).comp Hv) (r:=cd.nH) bo (ad rfl) (gn (n:=2) rfl (nc ff) rfl) rfl rfl) ?_
    refine bd kX ?_
    refine aI ?_
    obtain⟨bB,cz,h⟩:=ay h
    refine ag.cC (γ:=Unit) (fun a5=> [(0,I.of (J)),(1,I.of (aj)),(3,I.eq (.pointer (some ⟨aR,0,none⟩))),(4,I.eq (.pointer (some ⟨a0,0,none⟩))),(5,I.of (false)),(6,I.of (s1.1)),(10,I.of (J.isNone)),(12,I.of (s1.1)),(13,I.of (decide (s1.1 < 4))),(20,I.of (decide (s1.1≥cd.nH)))]) (fun a5=>(⟨some a0,.var ((default:aJ):aJ)⟩ :: ⟨some aR,.var (bB:Vector al 4)⟩ :: a3 hp)) (ad rfl) (fun a5=> ?_) (fun hm ar=> ?_) (fun hm ar=> ?_)
    ·clear cz
     refine ab.dz ?_
     refine ab.next ?_
     refine ag.cj ?_
     refine bd c8 ?_
     refine aB ?_
     refine ai.nil ?_
     obtain rfl:=aH h
     exact fe () 0
    ·have h:=gI ar cz
     refine ag.cj ?_
     refine aB ?_
     refine ho hl et (default:al) .nil ?_
     obtain⟨aW,cc,h⟩:=ay h
     refine bj (fj (k:=aW) lx (ad rfl) (ad rfl) (cK cc)) ?_
     refine po 1 ((aK.id (Vector al 4)).comp (aK.idx (α:=al) 4 aW (cK cc).1)) bV ?_
     refine ai.nil ?_
     obtain rfl:=aH h
     exact df 0 (hm ())
    ·have h:=gJ ar cz
     refine ag.skip ?_
     obtain rfl:=aH h
     exact df 0 (hm ())
   ·refine ag.exit ?_
    refine ab.exit ?_
    obtain rfl:=aH h
    exact dE () 0
  ·clear an
   refine ab.e4 ?_
   refine ab.next ?_
   refine ag.seq ?_
   obtain⟨ct,fQ,h⟩:=ay h
   obtain⟨cS,gD,h⟩:=ay h
   obtain⟨ak,bt,h⟩:=ay h
   refine iC [0,1,3,4,5,10,12,13] ?_
   refine ag.pY 2 mixed (bb 26 [] [] _ :: bb 27 (0 :: []) [] _ :: bb 28 (1 :: []) [] _ :: ⟨some 29,(2 :: []),[],[],fun _=>I.of (cS.iM),fun _ _=>⟨none,.dead⟩⟩ :: bb 30 [] (1 :: []) _ :: ⟨some 31,(3 :: 4 :: []),[],[],fun _=>I.cG [I.of (ak.1),I.of (ak.2)],fun _ _=>⟨none,.dead⟩⟩ :: bb 25 (5 :: []) [] _ :: bb 32 (6 :: []) [] _ :: bb 33 (6 :: []) [] _ :: bb 7 (7 :: []) [] _ :: bb 8 (8 :: []) [] _ :: []) _ (0 :: 1 :: 3 :: 4 :: 5 :: 10 :: 12 :: 13 :: []) rfl rfl (by kernel_rfl) (by kernel_rfl) ⟨cR.q (fJ),cR.q (cw fun hd E' L' aE ao=>eI (fv (ad (aE _ _ rfl)) fQ)),cR.q (e1 (aQ u3)),?_,cR.q (k5 1 g2),?_,cR.q (fJ),cR.q (cw fun hd E' L' aE ao=>kY (ad (aE _ _ rfl)) rfl),cR.q (cw fun hd E' L' aE ao=>kY (ad (aE _ _ rfl)) rfl),cR.q (cw fun hd E' L' aE ao=>eW (ad (aE _ _ rfl))),cR.q (cw fun hd E' L' aE ao=>eW (ad (aE _ _ rfl))),trivial⟩ fun fl=> ?_
   ·intro hd E' L' aE ao dB
    refine bj (hj ((aK.id gA).comp ua) (r:=cS.iM) sS (ad (aE _ _ rfl)) (gn (n:=2) (dB.trans rfl) (nc gD) rfl) rfl rfl) ?_
    refine ai.nil ?_
    exact ab.fin (eh []) rfl rfl
   ·intro hd E' L' aE ao dB
    refine ai.lf (gO.B4 2 (dB.trans rfl) (NH bt) ⟨ad (aE _ _ rfl),ad (aE _ _ rfl),trivial⟩) rfl rfl rfl ?_
    refine ai.nil ?_
    exact ab.fin (eh []) rfl rfl
   refine ab.en (L2:=(⟨some a0,.var ((default:aJ):aJ)⟩ :: ⟨some aR,.var (av.2.2:Vector al 4)⟩ :: a3 hp)) rfl ?_
   refine jF [0,1,3,4,5,7,8,10,12,13,25,26,27,28,29,30,31,32,33] ?_
   refine ab.next ?_
   refine aA ?_
   refine aB ?_
   refine aB ?_
   refine aB ?_
   obtain⟨aO,cq,h⟩:=ay h
   refine ai.lf (gO.lr 2 rfl UD (NZ cq) ⟨ad rfl,ad rfl,ad rfl,trivial⟩) rfl rfl rfl ?_
   refine h6 ?_
   refine h6 ?_
   refine ck 0 cO ?_
   refine aM ?_
   refine aI ?_
   refine ag.ret ?_
   obtain rfl:=aH h
   exact ab.kF () (.cons _ (.cons _ (.refl _))) rfl rfl (jy (i:=0) cO rfl rfl) (dV rfl)
end Go.Proofs.YtmnggbjcnoffeaaGreat
namespace Go.Proofs.YtmnggbjcnoffeaaGreat
open Go Gv
set_option linter.unusedVariables false
set_option linter.unusedSimpArgs false
set_option maxRecDepth 100000
set_option maxHeartbeats 2000000
theorem N3 {J:bk} {aj:aY} {aS:cB} {b6:Nat} {r:ca × bk} (h:w3 J aj aS=some r):cf Tryz.prog 75 [I.eq (.pointer (some ⟨b6,0,none⟩)),I.of (aj),I.of (aS)] [⟨some b6,.var (J:bk)⟩] (δ:=Unit) (fun d=>I.of (r.1)) (fun d=> [⟨some b6,.var (r.2:bk)⟩]):=by
 unfold w3 at h
 refine cf.of Tryz.func75 rfl Tryz.ntmps75 rfl fun W A=> ?_
 refine aA ?_
 refine b8 fun aR=> ?_
 refine b8 fun a0=> ?_
 refine cM mL fun bF=> ?_
 refine b2 ?_
 refine cm 2 fs ?_
 refine aT (aQ Bq) ?_
 refine bL 1 m3 bo ?_
 obtain⟨ak,bt,h⟩:=ay h
 refine ev Tp (OB bt) ?_
 refine aM ?_
 refine b2 ?_
 refine aB ?_
 refine ai.bI 3 rfl ?_
 obtain⟨aO,cq,h⟩:=ay h
 refine eE 1 fP (fL cq) fun az=> ?_
 refine aT (h1 Tryz.underlying3 Tryz.underlying41) ?_
 refine bj (na (ad rfl) (fi 24 rfl)) ?_
 refine aB ?_
 refine ai.bI 0 rfl ?_
 obtain⟨bc,fb,h⟩:=ay h
 refine eE 1 fP (fL fb) fun c6=> ?_
 refine aT (h1 Tryz.underlying3 Tryz.underlying41) ?_
 refine bj (na (ad rfl) (fi 8 rfl)) ?_
 obtain⟨bg,dd,h⟩:=ay h
 refine dp dd (pR (ad rfl) (ad rfl)) ?_
 refine aB ?_
 refine ai.bI 0 rfl ?_
 obtain⟨br,fY,h⟩:=ay h
 refine eE 1 fP (fL fY) fun e6=> ?_
 refine aT (h1 Tryz.underlying3 Tryz.underlying41) ?_
 refine bd pR ?_
 obtain⟨dw,ha,h⟩:=ay h
 refine dp ha (cT (b:=({ (default:al) with bS:=bg ||| (BitVec.ofInt 64 br.1) } :al)) rfl hl et (.cons ec rfl (ad rfl) rfl (.nil))) ?_
 refine aB ?_
 obtain⟨cx,ih,h⟩:=ay h
 refine ev FA (Dt ih) ?_
 refine cM et fun cA=> ?_
 refine ck 0 bV ?_
 refine bK ?_
 refine aA ?_
 refine aT (aQ ra) ?_
 refine bL 3 kP bo ?_
 refine aI ?_
 refine ag.block ?_
 refine aA ?_
 refine bd fz ?_
 refine aM ?_
 refine aI ?_
 refine b4 h (fun h=>?_) fun h=>?_
 ·refine aA ?_
  refine aB ?_
  refine ai.bI 1 rfl ?_
  obtain⟨dr,jG,h⟩:=ay h
  refine eE 1 fP (fL jG) fun h9=> ?_
  refine bd ni ?_
  refine aI ?_
  refine b4 h (fun h=>?_) fun h=>?_
  ·refine aA ?_
   refine aB ?_
   refine aB ?_
   refine aB ?_
   refine ai.bI 0 rfl ?_
   obtain⟨dC,l6,h⟩:=ay h
   refine eE 1 fP (fL l6) fun fZ=> ?_
   refine bd c8 ?_
   refine gx [ak,8,16,1,bw (1 + dC.1)] Tryz.underlying63 bo g4 ?_
   refine aB ?_
   refine ai.bI 0 rfl ?_
   obtain⟨e7,nr,h⟩:=ay h
   refine eE 1 fP (fL nr) fun gX=> ?_
   obtain⟨aW,cc,h⟩:=ay h
   refine gk cc Tryz.underlying63 bo ?_
   refine aT (c7 bo) ?_
   refine aM ?_
   refine bK ?_
   obtain⟨fT,oB,h⟩:=ay h
   obtain⟨ft,km,h⟩:=ay h
   obtain⟨hz,l4,h⟩:=ay h
   refine ag.draw mixed 10 [some 51,some 52,some 53,some 54,some 55,some 56,some 57,some 58,some 59,some 60] [[],[],[1],[],[],[3,4],[5],[2,6],[7],[0,8]] [.val _,.val _,.val _,.val _,.val _,.val _,.val _,.val _,.val _,.val _] [false,false,false,false,false,false,false,false,false,false] (by kernel_rfl) rfl rfl rfl (fun c1=>⟨c3,H1 (aQ hS),dI 1 ec ek,c3,c3,fm Tq (OV oB),e0 fun L' ao=>D9 ec Ka ek rfl (ad rfl) rfl rfl,iq o1,qD km fun L' ao=>cT (b:=({ (default:al) with bS:=cx.bS &&& fT.bS } :al)) rfl hl et (.cons ec rfl (ad rfl) rfl (.nil)),qD l4 fun L' ao=>cT (b:=({ (default:ca) with gu:=true,dO:=aF [ak,8,16,1,bw (1 + dC.1)] aW,cL:=ft } :ca)) rfl s9 mL (.cons mm rfl (fD true) rfl (.cons lO rfl (ad rfl) rfl (.cons iJ rfl (ad rfl) rfl (.nil)))),trivial⟩) fun c1=> ?_
   refine ck 2 fO ?_
   refine aI ?_
   refine ag.ret ?_
   refine ab.c5 ?_
   refine ab.ret ?_
   refine ab.bI 0 rfl ?_
   obtain rfl:=aH h
   exact ab.gv () (.cons_cons _ (List.nil_sublist _)) rfl rfl (jy (i:=2) fO rfl rfl)
  ·refine ag.skip ?_
   refine ab.dz ?_
   refine ab.next ?_
   refine aA ?_
   refine ho s9 mL (default:ca) .nil ?_
   refine ck 2 fO ?_
   refine aI ?_
   refine ag.ret ?_
   refine ab.bI 0 rfl ?_
   obtain rfl:=aH h
   exact ab.gv () (.cons_cons _ (List.nil_sublist _)) rfl rfl (jy (i:=2) fO rfl rfl)
 ·refine aA ?_
  refine bd fz ?_
  refine aM ?_
  refine aI ?_
  refine b4 h (fun h=>?_) fun h=>?_
  ·refine aA ?_
   refine aB ?_
   refine ai.bI 1 rfl ?_
   obtain⟨gL,ou,h⟩:=ay h
   refine eE 1 fP (fL ou) fun wh=> ?_
   refine gx ([255,15,1,12,gL.1]:List Int) Tryz.underlying63 bo g4 ?_
   refine aB ?_
   refine ai.bI 0 rfl ?_
   obtain⟨gF,p9,h⟩:=ay h
   refine eE 1 fP (fL p9) fun jo=> ?_
   obtain⟨bR,cN,h⟩:=ay h
   refine gk cN Tryz.underlying63 bo ?_
   refine aT (c7 bo) ?_
   refine aT (h1 Tryz.underlying3 Tryz.underlying41) ?_
   obtain⟨gy,l5,h⟩:=ay h
   refine dp l5 (cT (b:=({ (default:al) with bS:=BitVec.ofInt 64 (aF ([255,15,1,12,gL.1]:List Int) bR) } :al)) rfl hl et (.cons ec rfl (ad rfl) rfl (.nil))) ?_
   refine aB ?_
   obtain⟨gT,qa,h⟩:=ay h
   refine ev FA (Dt qa) ?_
   refine cM et fun hW=> ?_
   refine ck 0 bV ?_
   refine b2 ?_
   refine aT (aQ hS) ?_
   refine bL 0 ec ek ?_
   refine bj (JC (ad rfl) (fi 0 rfl)) ?_
   refine aI ?_
   refine b4 h (fun h=>?_) fun h=>?_
   ·refine aA ?_
    refine cm 0 bV ?_
    refine aT (aQ hS) ?_
    refine bL 2 ec ek ?_
    refine aT (aQ hS) ?_
    refine bL 0 ec ek ?_
    refine bd o1 ?_
    obtain⟨ir,oy,h⟩:=ay h
    refine dp oy (cT (b:=({ (default:al) with bS:=cx.bS &&& gT.bS } :al)) rfl hl et (.cons ec rfl (ad rfl) rfl (.nil))) ?_
    obtain⟨iu,oz,h⟩:=ay h
    refine dp oz (cT (b:=({ (default:ca) with gu:=true,gK:=gT,cL:=ir } :ca)) rfl s9 mL (.cons mm rfl (fD true) rfl (.cons ny rfl (ad rfl) rfl (.cons iJ rfl (ad rfl) rfl (.nil))))) ?_
    refine ck 3 fO ?_
    refine aI ?_
    refine ag.ret ?_
    refine ab.c5 ?_
    refine ab.ret ?_
    refine ab.bI 1 rfl ?_
    obtain rfl:=aH h
    exact ab.gv () (.cons_cons _ (List.nil_sublist _)) rfl rfl (jy (i:=3) fO rfl rfl)
   ·refine ag.skip ?_
    refine ab.dz ?_
    refine ab.next ?_
    refine aA ?_
    refine ho s9 mL (default:ca) .nil ?_
    refine ck 3 fO ?_
    refine aI ?_
    refine ag.ret ?_
    refine ab.bI 1 rfl ?_
    obtain rfl:=aH h
    exact ab.gv () (.cons_cons _ (List.nil_sublist _)) rfl rfl (jy (i:=3) fO rfl rfl)
  ·refine aA ?_
   refine bd fz ?_
   refine aM ?_
   refine aI ?_
   refine b4 h (fun h=>?_) fun h=>?_
   ·refine ag.seq ?_
    obtain⟨gU,qb,h⟩:=ay h
    obtain⟨g5,qj,h⟩:=ay h
    refine iC [0,1,2,4,5,6,7,8,12,13,14,15,16,17,18,19,20,21,22,23,24,25,26,27,28,29,30,31,32,33,36,37,61,62,85,86] ?_
    refine ag.jV mixed (bb 87 [] [] _ :: bb 88 (0 :: []) (0 :: []) _ :: bb 89 [] [] _ :: ⟨some 90,(2 :: []),(1 :: []),(1 :: []),fun _=>I.of (gU.1),fun hd _=>⟨some b6,.var (gU.2:bk)⟩⟩ :: bb 91 (3 :: []) [] _ :: bb 92 (1 :: 4 :: []) [] _ :: bb 93 [] [] _ :: bb 94 (6 :: []) [] _ :: bb 95 (7 :: []) [] _ :: bb 96 (8 :: []) [] _ :: bb 97 (5 :: 9 :: []) [] _ :: bb 11 (10 :: []) [] _ :: []) _ (0 :: 1 :: 2 :: 4 :: 5 :: 6 :: 7 :: 8 :: 12 :: 13 :: 14 :: 15 :: 16 :: 17 :: 18 :: 19 :: 20 :: 21 :: 22 :: 23 :: 24 :: 25 :: 26 :: 27 :: 28 :: 29 :: 30 :: 31 :: 32 :: 33 :: 36 :: 37 :: 61 :: 62 :: 85 :: 86 :: []) rfl rfl (by kernel_rfl) ⟨e1 (aQ hS),mT 0 ec ek,fJ,?_,e1 (h1 Tryz.underlying3 Tryz.underlying41),z6 Q7,fJ,e1 (h1 Tryz.underlying3 Tryz.underlying130),cw fun hd E' L' aE ao=>na (fi 1 rfl) (ad (aE _ _ rfl)),cw fun hd E' L' aE ao=>q4 (ad (aE _ _ rfl)) (fi 1 rfl),cw fun hd E' L' aE ao=>(Qv (ad (aE _ _ rfl)) (ad (aE _ _ rfl))).as (aH qj),cw fun hd E' L' aE ao=>eW (ad (aE _ _ rfl)),trivial⟩ fun fl=> ?_
    ·intro hd E' L' aE ao
     refine ai.bI 1 (ao 1 _ rfl rfl) ?_
     refine ai.kZ (Lin:= [⟨some b6,.var (br.2:bk)⟩]) (Lr:=L'.eraseIdx 1) fP (fL qb) ⟨ad (aE _ _ rfl),bD 256,trivial⟩ rfl fun oO=> ?_
     refine ai.nil ?_
     refine ab.back 1 (ao 1 _ rfl rfl) ?_
     exact ab.fin (eh []) rfl rfl
    refine ab.en (L2:= [⟨some cA,.var (cx:al)⟩,⟨some b6,.var (gU.2:bk)⟩,⟨some bF,.var ((default:ca):ca)⟩,⟨some a0,.var (aS:cB)⟩,⟨some aR,.var (aj:aY)⟩]) rfl ?_
    refine jF [0,1,2,4,5,6,7,8,11,12,13,14,15,16,17,18,19,20,21,22,23,24,25,26,27,28,29,30,31,32,33,36,37,61,62,85,86,87,88,89,90,91,92,93,94,95,96,97] ?_
    refine ab.next ?_
    refine aA ?_
    refine aB ?_
    refine ai.bI 1 rfl ?_
    obtain⟨hU,s6,h⟩:=ay h
    refine eE 1 fP (fL s6) fun FR=> ?_
    refine bd ni ?_
    refine aB ?_
    refine dK (aQ hS) ?_
    refine ea (fun hb=>dP (i:=1) ((aK.id al).comp ec) (r:=cx.bS) ek (b3 rfl hb) rfl rfl rfl) ?_
    refine ea (fun hb=>uY (b3 rfl hb) (fi 0 rfl)) ?_
    refine dK cU ?_
    refine ai.gg (fun hb=>cU (ad rfl)) rfl rfl rfl rfl rfl ?_
    refine ai.gg (fun hb=>cU (ad rfl)) rfl rfl rfl rfl rfl ?_
    refine ai.gg (fun hb=>h1 Tryz.underlying3 Tryz.underlying130 (b3 rfl hb)) rfl rfl rfl rfl rfl ?_
    refine ai.gg (fun hb=>na (fi 1 rfl) (b3 rfl hb)) rfl rfl rfl rfl rfl ?_
    refine ai.gg (fun hb=>q4 (b3 rfl hb) (fi 1 rfl)) rfl rfl rfl rfl rfl ?_
    refine ai.gg (fun hb=>uY (b3 rfl hb) (b3 rfl hb)) rfl rfl rfl rfl rfl ?_
    refine ea (fun hb=>mE (b3 rfl hb) (ad rfl) (fun h=>⟨hb,h⟩)) ?_
    refine dK iy ?_
    obtain⟨kO,tn,h⟩:=ay h
    refine dp tn (mE (ad rfl) (ad rfl) (fun h=>h)) ?_
    refine aI ?_
    refine b4 h (fun h=>?_) fun h=>?_
    ·refine aA ?_
     refine cm 1 bV ?_
     refine aB ?_
     refine ho hl et ({ (default:al) with bS:=g5 } :al) (h4 ec .nil) ?_
     obtain⟨kn,s3,h⟩:=ay h
     refine dp s3 (cT (b:=({ (default:ca) with gu:=true,cL:=cx,jg:=({ (default:al) with bS:=g5 } :al) } :ca)) rfl s9 mL (.cons mm rfl (fD true) rfl (.cons iJ rfl (ad rfl) rfl (.cons sb rfl (ad rfl) rfl (.nil))))) ?_
     refine ck 2 fO ?_
     refine aI ?_
     refine ag.ret ?_
     refine ab.c5 ?_
     refine ab.ret ?_
     refine ab.bI 0 rfl ?_
     obtain rfl:=aH h
     exact ab.gv () (.cons_cons _ (List.nil_sublist _)) rfl rfl (jy (i:=2) fO rfl rfl)
    ·refine ag.skip ?_
     refine ab.dz ?_
     refine ab.next ?_
     refine aA ?_
     refine ho s9 mL (default:ca) .nil ?_
     refine ck 2 fO ?_
     refine aI ?_
     refine ag.ret ?_
     refine ab.bI 0 rfl ?_
     obtain rfl:=aH h
     exact ab.gv () (.cons_cons _ (List.nil_sublist _)) rfl rfl (jy (i:=2) fO rfl rfl)
   ·refine aA ?_
    refine cm 0 bV ?_
    obtain⟨j3,s4,h⟩:=ay h
    refine dp s4 (cT (b:=({ (default:ca) with gu:=true,cL:=cx } :ca)) rfl s9 mL (.cons mm rfl (fD true) rfl (.cons iJ rfl (ad rfl) rfl (.nil)))) ?_
    refine ck 2 fO ?_
    refine aI ?_
    refine ag.ret ?_
    refine ab.c5 ?_
    refine ab.ret ?_
    refine ab.bI 1 rfl ?_
    obtain rfl:=aH h
    exact ab.gv () (.cons_cons _ (List.nil_sublist _)) rfl rfl (jy (i:=2) fO rfl rfl)
end Go.Proofs.YtmnggbjcnoffeaaGreat
namespace Go.Proofs.YtmnggbjcnoffeaaGreat
open Go Gv
set_option linter.unusedVariables false
set_option linter.unusedSimpArgs false
set_option maxRecDepth 100000
set_option maxHeartbeats 2000000
theorem N4 {J:bk} {aj:aY} {aS:Int} {b6:Nat} {r:bu × bk} (h:w4 J aj aS=some r):cf Tryz.prog 27 [I.eq (.pointer (some ⟨b6,0,none⟩)),I.of (aj),I.of (aS)] [⟨some b6,.var (J:bk)⟩] (δ:=Unit) (fun d=>I.of (r.1)) (fun d=> [⟨some b6,.var (r.2:bk)⟩]):=by
 unfold w4 at h
 refine cf.of Tryz.func27 rfl Tryz.ntmps27 rfl fun W A=> ?_
 refine aA ?_
 refine b8 fun aR=> ?_
 refine cM BX fun a0=> ?_
 refine bK ?_
 obtain⟨ak,bt,h⟩:=ay h
 obtain⟨aW,cc,h⟩:=ay h
 refine ag.draw mixed 10 [some 13,some 14,some 15,some 16,some 17,some 18,some 19,some 20,some 21,some 7] [[],[0],[],[],[3],[4],[2,5],[1,6],[7],[]] [.val _,.val _,.val _,.val _,.val _,.val _,.val _,.val _,.val _,.new (.var (default:bN))] [false,false,false,false,false,false,false,false,false,false] (by kernel_rfl) rfl rfl rfl (fun c1=>⟨H1 (aQ mB),dI 1 mn lW,c3,H1 (aQ mB),dI 1 mn lW,H1 (ej Tryz.underlying28),fm LS (Ib bt),lB cc Tryz.underlying28 fG,H1 (c7 fG),o0 kJ,trivial⟩) fun c1=> ?_
 refine ck 0 fG ?_
 refine b2 ?_
 refine aT (aQ sC) ?_
 refine bL 0 n4 bo ?_
 refine bj (oZ (b:=({ (default:bu) with dD:=(aF aj.bQ aW).bG } :bu)) [1,4] Ja rfl UE BX (.cons qP rfl (ad rfl) rfl (by rfl) (.nil))) ?_
 refine ai.own (α:=ca) 88 ?_
 refine ai.own (α:=al) 43 ?_
 refine ai.o3 (z:=(default:bu)) [1,4] Ja BX rfl fun bF=> ?_
 refine ai.own (α:=ca) 88 ?_
 refine ai.own (α:=al) 43 ?_
 refine ai.pS (i:=2) g9 (ad rfl) (ad rfl) rfl ?_
 refine bK ?_
 refine aA ?_
 refine aT (aQ kg) ?_
 refine bL 5 iK jY ?_
 refine aT (ej Tryz.underlying62) ?_
 refine aB ?_
 refine aI ?_
 refine ag.block ?_
 obtain⟨av,an,h⟩:=ay h
 refine gj (γ:=(Option Nat × Nat)) (δ:=(Option Nat × Nat)) an [0,1,2,4,6,7,8,26,27] (fun s1 aw=> [(28,I.of (s1.1))]) (fun s1 aw=> [(2,⟨some bF,.cg (s1.2.1:bu) [(1,aV aw.1 s1.2.2.1.length aw.2),(4,aV none ([]:List al).length 0)]⟩),(4,⟨aw.1,.row 88 (s1.2.2.1:List ca) aw.2⟩),(8,⟨some b6,.var (s1.2.2.2:bk)⟩)]) (fun az=>Exit.exit 0) (fun az aw=> [(28,I.of (az.1)),(29,I.of (az.2.1))]) (fun az aw=> [(2,⟨some bF,.cg (az.2.2.1:bu) [(1,aV aw.1 az.2.2.2.1.length aw.2),(4,aV none ([]:List al).length 0)]⟩),(4,⟨aw.1,.row 88 (az.2.2.2.1:List ca) aw.2⟩),(8,⟨some b6,.var (az.2.2.2.2:bk)⟩)]) (none,0) (fun s1 r h aw=> ?_) fun aw=> ?_
 ·clear an
  refine aA ?_
  refine bd dJ ?_
  refine bK ?_
  refine b4 h (fun h=>?_) fun h=>?_
  ·refine cP ?_
   refine ag.seq ?_
   refine ag.block ?_
   refine aA ?_
   obtain⟨bR,cN,h⟩:=ay h
   refine gk cN Tryz.underlying62 g8 ?_
   refine aT (c7 g8) ?_
   refine cM iz fun cA=> ?_
   refine ck 0 g8 ?_
   refine bK ?_
   obtain⟨aO,cq,h⟩:=ay h
   obtain⟨bc,fb,h⟩:=ay h
   refine iC [0,1,2,4,6,7,8,10,26,27,28,29,30,31] ?_
   refine ag.jV mixed (bb 32 [] [] _ :: bb 33 (0 :: []) (3 :: []) _ :: bb 34 [] [] _ :: bb 35 [] (8 :: []) _ :: bb 36 [] (0 :: []) _ :: ⟨some 37,(2 :: 3 :: 4 :: []),(9 :: []),(9 :: []),fun _=>I.of (aO.1),fun hd _=>⟨some b6,.var (aO.2:bk)⟩⟩ :: bb 38 (5 :: []) [] _ :: ⟨some 39,(1 :: 6 :: []),(5 :: []),(5 :: []),fun hd=>I.eq (aV (hd 7 0) bc.length ((hd 7 1).getD 0)),fun hd _=>⟨(hd 7 0),.row 88 (bc:List ca) ((hd 7 1).getD 0)⟩⟩ :: bb 40 [] [] _ :: ⟨none,(1 :: 7 :: 8 :: []),(3 :: []),(3 :: []),fun _=>I.any,fun hd _=>⟨some bF,.cg (({ s1.2.1 with bW:= [] } :bu):bu) [(1,aV (hd 7 0) bc.length ((hd 7 1).getD 0)),(4,aV none ([]:List al).length 0)]⟩⟩ :: []) _ (0 :: 1 :: 2 :: 4 :: 6 :: 7 :: 8 :: 10 :: 26 :: 27 :: 28 :: 29 :: 30 :: 31 :: []) rfl rfl (by kernel_rfl) ⟨e1 (aQ jT),cw fun hd E' L' aE ao=>iO (i:=3) (q:=0) (β:=bu) (γ:=ca) jA (ad (aE _ _ rfl)) (ao 3 _ rfl rfl) rfl,fJ,k5 8 fs,k5 0 g8,?_,cw fun hd E' L' aE ao=>iR (r:= [aO.1]) Tryz.underlying47 fO mL rfl rfl (.cons (by simp) (ad (aE _ _ rfl)) (.nil)),?_,e1 (aQ jT),?_,trivial⟩ fun fl=> ?_
   ·intro hd E' L' aE ao
    refine ai.bI 9 (ao 9 _ rfl rfl) ?_
    refine ai.kZ (Lin:= [⟨some b6,.var (s1.2.2.2:bk)⟩]) (Lr:=L'.eraseIdx 9) UF (N3 cq) ⟨ad (aE _ _ rfl),ad (aE _ _ rfl),ad (aE _ _ rfl),trivial⟩ rfl fun c6=> ?_
    refine ai.nil ?_
    refine ab.back 9 (ao 9 _ rfl rfl) ?_
    exact ab.fin (eh []) rfl rfl
   ·intro hd E' L' aE ao
    refine ai.app (i:=5) Tryz.underlying47 fO mL (bytes:=64) (by kernel_rfl) (ad (aE _ _ rfl)) (ao 5 _ rfl rfl) (ad (aE _ _ rfl)) fb rfl fun gR fH=> ?_
    refine ai.nil ?_
    exact ab.fin (eh [gR,some fH]) rfl rfl
   ·intro hd E' L' aE ao
    refine ai.jf (i:=3) (γ:=ca) (b':=(({ s1.2.1 with bW:= [] } :bu):bu)) (os':= [(1,aV (hd 7 0) bc.length ((hd 7 1).getD 0)),(4,aV none ([]:List al).length 0)]) ((aK.id bu).comp jQ) jA (ad (aE _ _ rfl)) (ad (aE _ _ rfl)) ic (ao 3 _ rfl rfl) rfl rfl rfl ?_
    refine ai.nil ?_
    exact ab.fin (eh []) rfl rfl
   refine ab.en (L2:= [⟨some cA,.var (aF ((aF aj.bQ aW).bX) bR:cB)⟩,⟨none,.row 43 (([]:List al):List al) 0⟩,⟨none,.row 88 (([]:List ca):List ca) 0⟩,⟨some bF,.cg (({ s1.2.1 with bW:= [] } :bu):bu) [(1,aV (fl 7 0) bc.length ((fl 7 1).getD 0)),(4,aV none ([]:List al).length 0)]⟩,⟨none,.row 43 (([]:List al):List al) 0⟩,⟨(fl 7 0),.row 88 (bc:List ca) ((fl 7 1).getD 0)⟩,⟨some (c1 9),.var (aF aj.bQ aW:bN)⟩,⟨some a0,.var ((default:bu):bu)⟩,⟨some aR,.var (aj:aY)⟩,⟨some b6,.var (aO.2:bk)⟩]) rfl ?_
   refine jF [0,1,2,4,6,7,8,10,26,27,28,29,30,31,32,34,35,36,37,38,39,40] ?_
   refine ab.next ?_
   refine aA ?_
   refine aT (aQ ra) ?_
   refine bL 0 kP bo ?_
   refine bd fz ?_
   refine aB ?_
   refine dK (aQ ra) ?_
   refine ea (fun hb=>dP (i:=0) ((aK.id cB).comp kP) (r:=(aF ((aF aj.bQ aW).bX) bR).cH) bo (b3 rfl hb) rfl rfl rfl) ?_
   refine iW fz ?_
   obtain⟨bg,dd,h⟩:=ay h
   refine dp dd (rz (ad rfl) (ad rfl) (fun h=>h)) ?_
   refine aI ?_
   obtain⟨bB,cz,h⟩:=ay h
   refine h5 (γ:=Unit) [0,1,2,4,6,7,8,10,26,27,28,29,48] (fun a5=> []) (fun a5=> [(3,⟨some bF,.cg (bB.1:bu) [(1,aV (fl 7 0) bc.length ((fl 7 1).getD 0)),(4,aV none ([]:List al).length 0)]⟩),(9,⟨some b6,.var (bB.2:bk)⟩)]) (fun a5=> ?_) (fun hm ar=> ?_) fun hm ar=> ?_
   ·clear cz
    refine ab.dz ?_
    refine ab.next ?_
    refine ag.cj ?_
    refine bd c8 ?_
    refine aB ?_
    refine ai.nil ?_
    obtain rfl:=aH h
    exact fe ((fl 7 0),((fl 7 1).getD 0)) 1
   ·have h:=gI ar cz
    refine ag.cj ?_
    refine aB ?_
    refine ai.bI 9 rfl ?_
    obtain⟨br,fY,h⟩:=ay h
    refine eE 1 fP (fL fY) fun e6=> ?_
    refine bd c8 ?_
    refine aT (aQ n9) ?_
    obtain⟨dw,ha,h⟩:=ay h
    refine ai.re (i:=4) ((aK.id bu).comp n3) (v:=(bw (1 + br.1):Int)) (b':=(dw:bu)) bo (ad rfl) (ad rfl) rfl rfl (aH ha) (by rfl) ?_
    refine ai.nil ?_
    refine ab.bI 9 rfl ?_
    refine ab.bI 9 rfl ?_
    refine ab.bI 9 rfl ?_
    refine ab.bI 9 rfl ?_
    refine ab.bI 9 rfl ?_
    refine ab.bI 9 rfl ?_
    refine ab.bI 9 rfl ?_
    refine ab.bI 9 rfl ?_
    refine ab.bI 9 rfl ?_
    obtain rfl:=aH h
    exact df 0 (hm ())
   ·have h:=gJ ar cz
    refine ag.skip ?_
    obtain rfl:=aH h
    exact df 0 (hm ())
  ·refine ag.exit ?_
   refine ab.exit ?_
   obtain rfl:=aH h
   exact dE (aw.1,aw.2) 0
 ·clear an
  refine ab.e4 ?_
  refine ab.next ?_
  refine ag.seq ?_
  obtain⟨cx,ih,h⟩:=ay h
  obtain⟨dj,gp,h⟩:=ay h
  obtain⟨ft,km,h⟩:=ay h
  refine iC [0,1,2,4,6,7,8,26,27,28,29] ?_
  refine ag.jV mixed (bb 54 [] [] _ :: bb 55 (0 :: []) (5 :: []) _ :: bb 56 [] [] _ :: bb 57 [] [] _ :: bb 58 (3 :: []) (5 :: []) _ :: bb 59 (4 :: []) [] _ :: ⟨some 60,(2 :: 5 :: []),(8 :: []),(8 :: []),fun _=>I.of (cx.1),fun hd _=>⟨some b6,.var (cx.2:bk)⟩⟩ :: bb 61 (1 :: 6 :: []) [] _ :: bb 62 (7 :: []) [] _ :: bb 63 [] [] _ :: ⟨none,(8 :: 9 :: []),(2 :: []),(2 :: []),fun _=>I.any,fun hd _=>⟨some bF,.cg (ft:bu) [(1,aV aw.1 av.2.2.2.1.length aw.2),(4,aV none ([]:List al).length 0)]⟩⟩ :: []) _ (0 :: 1 :: 2 :: 4 :: 6 :: 7 :: 8 :: 26 :: 27 :: 28 :: 29 :: []) rfl rfl (by kernel_rfl) ⟨e1 (aQ Ki),mT 5 uc kI,fJ,e1 (aQ Ki),mT 5 uc kI,e1 (ej Tryz.underlying63),?_,cw fun hd E' L' aE ao=>o7 (k:=dj) Tryz.underlying63 bo (ad (aE _ _ rfl)) (ad (aE _ _ rfl)) (cK gp),e1 (c7 bo),e1 (aQ Bs),?_,trivial⟩ fun jH=> ?_
  ·intro hd E' L' aE ao
   refine ai.bI 8 (ao 8 _ rfl rfl) ?_
   refine ai.kZ (Lin:= [⟨some b6,.var (av.2.2.2.2:bk)⟩]) (Lr:=L'.eraseIdx 8) fP (fL ih) ⟨ad (aE _ _ rfl),ad (aE _ _ rfl),trivial⟩ rfl fun h9=> ?_
   refine ai.nil ?_
   refine ab.back 8 (ao 8 _ rfl rfl) ?_
   exact ab.fin (eh []) rfl rfl
  ·intro hd E' L' aE ao
   refine ai.re (i:=2) ((aK.id bu).comp AB) (v:=(aF ((aF aj.bQ aW).c4) dj:Int)) (b':=(ft:bu)) bo (ad (aE _ _ rfl)) (ad (aE _ _ rfl)) (ao 2 _ rfl rfl) rfl (aH km) (by rfl) ?_
   refine ai.nil ?_
   exact ab.fin (eh []) rfl rfl
  refine ab.en (L2:= [⟨none,.row 43 (([]:List al):List al) 0⟩,⟨none,.row 88 (([]:List ca):List ca) 0⟩,⟨some bF,.cg (ft:bu) [(1,aV aw.1 av.2.2.2.1.length aw.2),(4,aV none ([]:List al).length 0)]⟩,⟨none,.row 43 (([]:List al):List al) 0⟩,⟨aw.1,.row 88 (av.2.2.2.1:List ca) aw.2⟩,⟨some (c1 9),.var (aF aj.bQ aW:bN)⟩,⟨some a0,.var ((default:bu):bu)⟩,⟨some aR,.var (aj:aY)⟩,⟨some b6,.var (cx.2:bk)⟩]) rfl ?_
  refine jF [0,1,2,4,6,7,8,26,27,28,29,54,55,56,57,58,59,60,61,62,63] ?_
  refine ab.next ?_
  refine ag.seq ?_
  refine aA ?_
  refine cm 7 fs ?_
  refine aT (aQ Bs) ?_
  refine Mg 2 AB bo ?_
  obtain⟨dr,jG,h⟩:=ay h
  refine ev UG (Oi jG) ?_
  refine bj (D9 Ay Q8 Tr rfl (ad rfl) rfl rfl) ?_
  refine aT (ej Tryz.underlying145) ?_
  refine aB ?_
  refine aI ?_
  refine ag.block ?_
  obtain⟨aX,an,h⟩:=ay h
  refine gj (γ:=(Option Nat × Nat)) (δ:=(Option Nat × Nat)) an [0,1,2,4,6,7,8,26,27,28,29,68,69] (fun s2 bA=> [(70,I.of (s2.1))]) (fun s2 bA=> [(2,⟨some bF,.cg (s2.2.1:bu) [(1,aV aw.1 av.2.2.2.1.length aw.2),(4,aV bA.1 s2.2.2.1.length bA.2)]⟩),(3,⟨bA.1,.row 43 (s2.2.2.1:List al) bA.2⟩),(8,⟨some b6,.var (s2.2.2.2:bk)⟩)]) (fun fZ=>Exit.exit 2) (fun fZ bA=> [(70,I.of (fZ.1)),(71,I.of (fZ.2.1))]) (fun fZ bA=> [(2,⟨some bF,.cg (fZ.2.2.1:bu) [(1,aV aw.1 av.2.2.2.1.length aw.2),(4,aV bA.1 fZ.2.2.2.1.length bA.2)]⟩),(3,⟨bA.1,.row 43 (fZ.2.2.2.1:List al) bA.2⟩),(8,⟨some b6,.var (fZ.2.2.2.2:bk)⟩)]) (none,0) (fun s2 r h bA=> ?_) fun bA=> ?_
  ·clear an
   refine aA ?_
   refine bd dJ ?_
   refine bK ?_
   refine b4 h (fun h=>?_) fun h=>?_
   ·refine cP ?_
    refine ag.seq ?_
    refine ag.block ?_
    refine aA ?_
    obtain⟨hM,jE,h⟩:=ay h
    refine gk jE Tryz.underlying145 vo ?_
    refine aT (c7 vo) ?_
    refine cM rp fun hW=> ?_
    refine ck 0 vo ?_
    refine aI ?_
    obtain⟨dC,l6,h⟩:=ay h
    obtain⟨hz,l4,h⟩:=ay h
    obtain⟨e7,nr,h⟩:=ay h
    obtain⟨fT,oB,h⟩:=ay h
    refine iC [0,1,2,4,6,7,8,12,26,27,28,29,68,69,70,71,72,73] ?_
    refine ag.jV mixed (bb 74 [] [] _ :: bb 75 (0 :: []) (3 :: []) _ :: bb 76 [] [] _ :: ⟨some 77,(2 :: []),(9 :: []),(9 :: []),fun _=>I.of (dC.1),fun hd _=>⟨some b6,.var (dC.2:bk)⟩⟩ :: bb 78 (3 :: []) [] _ :: bb 79 (4 :: []) [] _ :: bb 80 [] [] _ :: bb 81 (6 :: []) (0 :: []) _ :: bb 82 (5 :: 7 :: []) [] _ :: bb 83 (8 :: []) [] _ :: ⟨some 84,(1 :: 9 :: []),(4 :: []),(4 :: []),fun hd=>I.eq (aV (hd 10 0) fT.length ((hd 10 1).getD 0)),fun hd _=>⟨(hd 10 0),.row 43 (fT:List al) ((hd 10 1).getD 0)⟩⟩ :: bb 85 [] [] _ :: ⟨none,(1 :: 10 :: 11 :: []),(3 :: []),(3 :: []),fun _=>I.any,fun hd _=>⟨some bF,.cg (({ s2.2.1 with jU:= [] } :bu):bu) [(1,aV aw.1 av.2.2.2.1.length aw.2),(4,aV (hd 10 0) fT.length ((hd 10 1).getD 0))]⟩⟩ :: []) _ (0 :: 1 :: 2 :: 4 :: 6 :: 7 :: 8 :: 12 :: 26 :: 27 :: 28 :: 29 :: 68 :: 69 :: 70 :: 71 :: 72 :: 73 :: []) rfl rfl (by kernel_rfl) ⟨e1 (aQ u9),cw fun hd E' L' aE ao=>iO (i:=3) (q:=1) (β:=bu) (γ:=al) sY (ad (aE _ _ rfl)) (ao 3 _ rfl rfl) rfl,fJ,?_,e1 (h1 Tryz.underlying3 Tryz.underlying41),cw fun hd E' L' aE ao=>(cT (b:=({ (default:al) with bS:=BitVec.ofInt 64 dC.1 } :al)) rfl hl et (.cons ec rfl (ad (aE _ _ rfl)) rfl (.nil))).as (aH l4),e1 (aQ Q9),mT 0 wX bo,cw fun hd E' L' aE ao=>iQ FA (Dt nr) ⟨ad (aE _ _ rfl),ad (aE _ _ rfl),trivial⟩,cw fun hd E' L' aE ao=>iR (r:= [e7]) Tryz.underlying48 bV et rfl rfl (.cons (by simp) (ad (aE _ _ rfl)) (.nil)),?_,e1 (aQ u9),?_,trivial⟩ fun qm=> ?_
    ·intro hd E' L' aE ao
     refine ai.bI 9 (ao 9 _ rfl rfl) ?_
     refine ai.kZ (Lin:= [⟨some b6,.var (s2.2.2.2:bk)⟩]) (Lr:=L'.eraseIdx 9) fP (fL l6) ⟨ad (aE _ _ rfl),bD 256,trivial⟩ rfl fun gX=> ?_
     refine ai.nil ?_
     refine ab.back 9 (ao 9 _ rfl rfl) ?_
     exact ab.fin (eh []) rfl rfl
    ·intro hd E' L' aE ao
     refine ai.app (i:=4) Tryz.underlying48 bV et (bytes:=16) (by kernel_rfl) (ad (aE _ _ rfl)) (ao 4 _ rfl rfl) (ad (aE _ _ rfl)) oB rfl fun kH mN=> ?_
     refine ai.nil ?_
     exact ab.fin (eh [kH,some mN]) rfl rfl
    ·intro hd E' L' aE ao
     refine ai.jf (i:=3) (γ:=al) (b':=(({ s2.2.1 with jU:= [] } :bu):bu)) (os':= [(1,aV aw.1 av.2.2.2.1.length aw.2),(4,aV (hd 10 0) fT.length ((hd 10 1).getD 0))]) ((aK.id bu).comp uh) sY (ad (aE _ _ rfl)) (ad (aE _ _ rfl)) ic (ao 3 _ rfl rfl) rfl rfl rfl ?_
     refine ai.nil ?_
     exact ab.fin (eh []) rfl rfl
    refine ab.en (L2:= [⟨some hW,.var (aF dr.jt hM:hQ)⟩,⟨none,.row 43 (([]:List al):List al) 0⟩,⟨none,.row 88 (([]:List ca):List ca) 0⟩,⟨some bF,.cg (({ s2.2.1 with jU:= [] } :bu):bu) [(1,aV aw.1 av.2.2.2.1.length aw.2),(4,aV (qm 10 0) fT.length ((qm 10 1).getD 0))]⟩,⟨(qm 10 0),.row 43 (fT:List al) ((qm 10 1).getD 0)⟩,⟨aw.1,.row 88 (av.2.2.2.1:List ca) aw.2⟩,⟨some (c1 9),.var (aF aj.bQ aW:bN)⟩,⟨some a0,.var ((default:bu):bu)⟩,⟨some aR,.var (aj:aY)⟩,⟨some b6,.var (dC.2:bk)⟩]) rfl ?_
    refine jF [0,1,2,4,6,7,8,12,26,27,28,29,68,69,70,71,72,73,74,76,77,78,79,80,81,82,83,84,85] ?_
    refine ab.dz ?_
    refine ab.next ?_
    refine ag.cj ?_
    refine bd c8 ?_
    refine aB ?_
    refine ai.nil ?_
    obtain rfl:=aH h
    exact fe ((qm 10 0),((qm 10 1).getD 0)) 1
   ·refine ag.exit ?_
    refine ab.exit ?_
    obtain rfl:=aH h
    exact dE (bA.1,bA.2) 0
  ·clear an
   refine ab.e4 ?_
   refine ab.next ?_
   refine aA ?_
   refine ai.iA (β:=bu) (γ:=ca) (b':=(({ aX.2.2.1 with bW:=av.2.2.2.1 } :bu):bu)) ((aK.id bu).comp jQ) 2 4 0 rfl rfl rfl rfl rfl rfl ?_
   refine ai.iA (β:=bu) (γ:=al) (b':=(({ ({ aX.2.2.1 with bW:=av.2.2.2.1 } :bu) with jU:=aX.2.2.2.1 } :bu):bu)) ((aK.id bu).comp uh) 2 3 0 rfl rfl rfl rfl rfl rfl ?_
   refine ai.nM 2 rfl ?_
   obtain⟨gy,l5,h⟩:=ay h
   refine dp l5 (dP (i:=2) (aK.id bu) (r:=({ ({ aX.2.2.1 with bW:=av.2.2.2.1 } :bu) with jU:=aX.2.2.2.1 } :bu)) g9 (ad rfl) rfl rfl rfl) ?_
   refine ck 6 g9 ?_
   refine aI ?_
   refine ag.ret ?_
   refine ab.bI 8 rfl ?_
   obtain rfl:=aH h
   exact ab.gv () (.cons_cons _ (List.nil_sublist _)) rfl rfl (jy (i:=7) g9 rfl rfl)
end Go.Proofs.YtmnggbjcnoffeaaGreat
namespace Go.Proofs.YtmnggbjcnoffeaaGreat
open Go Gv
set_option linter.unusedVariables false
set_option linter.unusedSimpArgs false
set_option maxRecDepth 100000
set_option maxHeartbeats 2000000
theorem Of {hp:a1 Cell} {J:Ref} {aj:aJ} {Q:Bool × (a1 Cell)→Prop} (h:w8 hp J aj Q):cf Tryz.prog 44 [I.of (J),I.of (aj)] ([] ++ a3 hp) (δ:= {r:Bool × (a1 Cell) // Q r} × Unit) (fun d=>I.of (d.1.1.1)) (fun d=> [] ++ a3 d.1.1.2):=by
 unfold w8 at h
 refine cf.of Tryz.func44 rfl Tryz.ntmps44 rfl fun W A=> ?_
 refine aA ?_
 refine b8 fun aR=> ?_
 refine aM ?_
 refine bK ?_
 refine aA ?_
 refine aB ?_
 refine bj (m9 Tryz.underlying37 (ad rfl)) ?_
 refine aI ?_
 refine ag.cond (ad rfl) (fun ar=> ?_) (fun ar=> ?_)
 ·replace h:=q5 ar h
  refine aA ?_
  refine aM ?_
  refine aI ?_
  refine ag.ret ?_
  refine ab.ret ?_
  exact ab.gv (⟨⟨(false,hp),h⟩,()⟩: {r // _} × _) (.cons _ (.refl _)) rfl rfl (dV rfl)
 ·replace h:=q6 ar h
  refine cP ?_
  refine ag.seq ?_
  obtain⟨cW,eA,h⟩:=aC.cJ h
  obtain⟨cd,ff,h⟩:=aC.cJ h
  obtain⟨ct,fQ,h⟩:=aC.cJ h
  obtain⟨cS,gD,h⟩:=aC.cJ h
  obtain⟨bg,dd,h⟩:=aC.cJ h
  refine ag.Ts 1 1 ?_
  refine iC [0,1,3,4,9,10] ?_
  refine ag.pY 2 mixed (bb 12 [] [] _ :: bb 13 (0 :: []) [] _ :: bb 14 (1 :: []) [] _ :: ⟨some 15,(2 :: []),[],[],fun _=>I.of (cd.ll),fun _ _=>⟨none,.dead⟩⟩ :: bb 16 [] [] _ :: bb 17 (4 :: []) (0 :: []) _ :: ⟨some 18,(3 :: 5 :: []),[],[],fun _=>I.cG [I.of (bg.getD default),I.of (bg.isSome)],fun _ _=>⟨none,.dead⟩⟩ :: bb 11 (6 :: []) [] _ :: bb 19 (7 :: []) [] _ :: bb 20 (7 :: []) [] _ :: ⟨some 5,[],(1 :: []),(1 :: []),fun hd=>I.eq (.pointer (some ⟨((hd 10 0).getD 0),0,none⟩)),fun hd _=>⟨some ((hd 10 0).getD 0),.var ((default:aJ):aJ)⟩⟩ :: ⟨none,(8 :: 10 :: []),(1 :: []),(1 :: []),fun _=>I.any,fun hd _=>⟨some ((hd 10 0).getD 0),.var (bg.getD default:aJ)⟩⟩ :: bb 6 (9 :: []) [] _ :: []) _ (0 :: 1 :: 3 :: 4 :: 9 :: 10 :: []) rfl rfl (by kernel_rfl) (by kernel_rfl) ⟨cR.q (fJ),cR.q (cw fun hd E' L' aE ao=>eI (fv (ad (aE _ _ rfl)) eA)),cR.q (e1 (aQ Ec)),?_,cR.q (e1 (aQ mC)),cR.q (mT 0 lN bo),?_,cR.q (fJ),cR.q (cw fun hd E' L' aE ao=>kY (ad (aE _ _ rfl)) rfl),cR.q (cw fun hd E' L' aE ao=>kY (ad (aE _ _ rfl)) rfl),?_,?_,cR.q (cw fun hd E' L' aE ao=>eW (ad (aE _ _ rfl))),trivial⟩ fun fl=> ?_
  ·intro hd E' L' aE ao dB
   refine bj (hj ((aK.id gA).comp Aw) (r:=cd.ll) BM (ad (aE _ _ rfl)) (gn (n:=2) (dB.trans rfl) (nc ff) rfl) rfl rfl) ?_
   refine ai.nil ?_
   exact ab.fin (eh []) rfl rfl
  ·intro hd E' L' aE ao dB
   refine bj (DS (r:=bg) Tryz.underlying133 FU hn (n6 (ad (aE _ _ rfl)) fQ) (ad (aE _ _ rfl)) (gn (n:=2) (dB.trans rfl) (x7 gD) rfl) (aH dd)) ?_
   refine ai.nil ?_
   exact ab.fin (eh []) rfl rfl
  ·intro hd E' L' aE ao dB
   refine cM hn fun a0=> ?_
   refine ai.nil ?_
   refine ab.place 1 (ao 1 _ rfl rfl) ?_
   exact ab.fin (eh [some a0]) rfl rfl
  ·intro hd E' L' aE ao dB
   refine ai.store (i:=1) (aK.id aJ) (v:=(bg.getD default:aJ)) (b':=(bg.getD default:aJ)) cO (ad (aE _ _ rfl)) (ad (aE _ _ rfl)) (ao 1 _ rfl rfl) rfl rfl ?_
   refine ai.nil ?_
   exact ab.fin (eh []) rfl rfl
  refine ab.en (L2:=(⟨some aR,.var (aj:aJ)⟩ :: ⟨some ((fl 10 0).getD 0),.var (bg.getD default:aJ)⟩ :: a3 hp)) rfl ?_
  refine jF [0,1,3,4,5,6,9,10,11,12,13,14,15,16,17,18,19,20] ?_
  refine ab.bI 1 rfl ?_
  refine ab.next ?_
  refine ag.seq ?_
  refine ag.seq ?_
  obtain⟨oP,tr,h⟩:=aC.cJ h
  obtain⟨e2,l9,h⟩:=aC.cJ h
  obtain⟨ak,bt,h⟩:=aC.cJ h
  refine iC [0,1,3,4,5,6,9,10,11,12,13,14,15,16,17,18,19,20] ?_
  refine ag.pY 2 mixed (bb 22 [] [] _ :: bb 23 (0 :: []) [] _ :: bb 24 (1 :: []) [] _ :: ⟨some 25,(2 :: []),[],[],fun _=>I.of (e2.iM),fun _ _=>⟨none,.dead⟩⟩ :: bb 26 [] [] _ :: bb 27 (4 :: []) (1 :: []) _ :: ⟨some 28,(3 :: 5 :: []),[],[],fun _=>I.cG [I.of (ak.1),I.of (ak.2)],fun _ _=>⟨none,.dead⟩⟩ :: bb 21 (6 :: []) [] _ :: bb 29 (7 :: []) [] _ :: bb 30 (7 :: []) [] _ :: bb 7 (8 :: []) [] _ :: bb 8 (9 :: []) [] _ :: []) _ (0 :: 1 :: 3 :: 4 :: 5 :: 6 :: 9 :: 10 :: 11 :: 12 :: 13 :: 14 :: 15 :: 16 :: 17 :: 18 :: 19 :: 20 :: []) rfl rfl (by kernel_rfl) (by kernel_rfl) ⟨cR.q (fJ),cR.q (cw fun hd E' L' aE ao=>eI (fv (ad (aE _ _ rfl)) tr)),cR.q (e1 (aQ u3)),?_,cR.q (e1 (aQ jx)),cR.q (mT 1 jd g9),?_,cR.q (fJ),cR.q (cw fun hd E' L' aE ao=>kY (ad (aE _ _ rfl)) rfl),cR.q (cw fun hd E' L' aE ao=>kY (ad (aE _ _ rfl)) rfl),cR.q (cw fun hd E' L' aE ao=>eW (ad (aE _ _ rfl))),cR.q (cw fun hd E' L' aE ao=>eW (ad (aE _ _ rfl))),trivial⟩ fun jH=> ?_
  ·intro hd E' L' aE ao dB
   refine bj (hj ((aK.id gA).comp ua) (r:=e2.iM) sS (ad (aE _ _ rfl)) (gn (n:=2) (dB.trans rfl) (nc l9) rfl) rfl rfl) ?_
   refine ai.nil ?_
   exact ab.fin (eh []) rfl rfl
  ·intro hd E' L' aE ao dB
   refine ai.lf (gO.B4 2 (dB.trans rfl) (NS bt) ⟨ad (aE _ _ rfl),ad (aE _ _ rfl),trivial⟩) rfl rfl rfl ?_
   refine ai.nil ?_
   exact ab.fin (eh []) rfl rfl
  refine ab.en (L2:=(⟨some ((fl 10 0).getD 0),.var (bg.getD default:aJ)⟩ :: ⟨some aR,.var (aj:aJ)⟩ :: a3 hp)) rfl ?_
  refine jF [0,1,3,4,5,6,7,8,9,10,11,12,13,14,15,16,17,18,19,20,21,22,23,24,25,26,27,28,29,30] ?_
  refine ab.next ?_
  refine aA ?_
  refine aB ?_
  refine aB ?_
  refine dK cU ?_
  refine tj ?_
  refine aI ?_
  refine ag.cond (ad rfl) (fun ar=> ?_) (fun ar=> ?_)
  ·replace h:=q5 ar h
   refine aA ?_
   refine aM ?_
   refine aI ?_
   refine ag.ret ?_
   refine ab.ret ?_
   exact ab.gv (⟨⟨(false,hp),h⟩,()⟩: {r // _} × _) (.cons _ (.cons _ (.refl _))) rfl rfl (dV rfl)
  ·replace h:=q6 ar h
   refine cP ?_
   refine ag.seq ?_
   obtain⟨GX,Ml,h⟩:=aC.cJ h
   obtain⟨r1,FW,h⟩:=aC.cJ h
   obtain⟨aO,cq,h⟩:=aC.cJ h
   refine ag.draw mixed 8 [some 35,some 36,some 37,some 38,some 39,some 40,some 41,some 42] [[],[0],[1],[2],[],[4],[],[6]] [.val _,.val _,.val _,.val _,.val _,.val _,.val _,.val _] [false,false,false,false,false,false,false,false] (by kernel_rfl) rfl rfl rfl (fun c1=>⟨c3,e0 fun L' ao=>eI (fv (ad rfl) Ml),H1 (aQ Ec),e0 fun L' ao=>hj ((aK.id gA).comp Aw) (r:=r1.ll) BM (ad rfl) (mM (fun i e q=>ao i e q rfl) (gn (n:=2) rfl (nc FW) rfl)) rfl rfl,H1 (aQ mC),dI 1 lN bo,e5 1 cO,fm za (xe cq),trivial⟩) fun c1=> ?_
   obtain⟨GY,Vt,h⟩:=aC.cJ h
   obtain⟨tP,FX,h⟩:=aC.cJ h
   obtain⟨dF,oq,h⟩:=aC.cJ h
   refine ai.EW (k':=Cell.lz (g3 tP aj.cI aO)) 2 rfl (by first | exact .inl rfl | exact .inr rfl) Tryz.underlying133 FU (n6 (ad rfl) Vt) (ad rfl) (ad rfl) (x7 FX) rfl rfl rfl (aH oq) ?_
   refine bK ?_
   obtain⟨qG,FY,h⟩:=aC.cJ h
   refine ag.draw mixed 5 [some 43,some 44,some 45,some 46,some 47] [[],[0],[1],[2],[]] [.val _,.val _,.val _,.val _,.val _] [false,false,false,false,false] (by kernel_rfl) rfl rfl rfl (fun jk=>⟨c3,e0 fun L' ao=>eI (fv (ad rfl) Ml),H1 (aQ u3),e0 fun L' ao=>hj ((aK.id gA).comp ua) (r:=qG.iM) sS (ad rfl) (mM (fun i e q=>ao i e q rfl) (gn (n:=2) rfl (nc FY) rfl)) rfl rfl,e5 1 cO,trivial⟩) fun jk=> ?_
   refine ai.B4 2 0 rfl (N2 h) rfl rfl ⟨ad rfl,ad rfl,trivial⟩ rfl fun⟨⟨bc,h⟩,az⟩=> ?_
   refine ai.en (L2:=(⟨some ((fl 10 0).getD 0),.var (bg.getD default:aJ)⟩ :: ⟨some aR,.var (aj:aJ)⟩ :: a3 bc)) rfl ?_
   refine b2 ?_
   refine aM ?_
   refine aI ?_
   refine ag.ret ?_
   exact ab.gv (⟨⟨(true,bc),h⟩,()⟩: {r // _} × _) (.cons _ (.cons _ (.refl _))) rfl rfl (dV rfl)
end Go.Proofs.YtmnggbjcnoffeaaGreat
namespace Go.Proofs.YtmnggbjcnoffeaaGreat
open Go Gv
set_option linter.unusedVariables false
set_option linter.unusedSimpArgs false
set_option maxRecDepth 100000
set_option maxHeartbeats 2000000
theorem OG {hp:a1 Cell} {J:aY} {aj:bk} {aS:Int} {cn:Int} {hr:Nat} {Q:Ref × (List aJ) × bk × (a1 Cell)→Prop} (h:xq hp J aj aS cn Q):cf Tryz.prog 17 [I.of (J),I.eq (.pointer (some ⟨hr,0,none⟩)),I.of (aS),I.of (cn)] ([⟨some hr,.var (aj:bk)⟩] ++ a3 hp) (δ:= {r:Ref × (List aJ) × bk × (a1 Cell) // Q r} × Unit) (fun d=>I.cG [I.of (d.1.1.1),I.of (d.1.1.2.1)]) (fun d=> [⟨some hr,.var (d.1.1.2.2.1:bk)⟩] ++ a3 d.1.1.2.2.2):=by
 unfold xq at h
 refine cf.of Tryz.func17 rfl Tryz.ntmps17 rfl fun W A=> ?_
 refine aA ?_
 refine b8 fun aR=> ?_
 refine bj (eW (qU)) ?_
 refine bj (eW (look_nil (α:=aJ))) ?_
 refine bK ?_
 obtain⟨ak,bt,h⟩:=aC.cJ h
 obtain⟨aW,cc,h⟩:=aC.cJ h
 refine ag.draw mixed 11 [some 14,some 15,some 16,some 17,some 18,some 19,some 20,some 21,some 22,some 23,some 24] [[],[],[1],[],[],[4],[5],[3,6],[2,7],[8],[9]] [.val _,.val _,.val _,.val _,.val _,.val _,.val _,.val _,.val _,.val _,.val _] [false,false,false,false,false,false,false,false,false,false,false] (by kernel_rfl) rfl rfl rfl (fun c1=>⟨e5 0 fs,H1 (aQ mB),dI 0 mn lW,c3,H1 (aQ mB),dI 0 mn lW,H1 (ej Tryz.underlying28),fm LS (Ib bt),lB cc Tryz.underlying28 fG,qi n4 sC,H1 (c7 bo),trivial⟩) fun c1=> ?_
 refine ai.kj 2 0 rfl vG (uQ h) rfl rfl ⟨ad rfl,ad rfl,trivial⟩ rfl fun⟨⟨aO,h⟩,az⟩=> ?_
 refine ai.en (L2:=(⟨some aR,.var (J:aY)⟩ :: ⟨some hr,.var (aj:bk)⟩ :: a3 aO.2)) rfl ?_
 refine aM ?_
 refine b2 ?_
 refine ai.own (α:=aJ) 52 ?_
 refine bj (eW xN) ?_
 refine bK ?_
 refine aA ?_
 refine aM ?_
 refine aI ?_
 refine ag.block ?_
 refine ag.Ke (σ:=Int × (List aJ) × bk × (a1 Cell)) (ε:=(Int × Bool × (List aJ) × bk × (a1 Cell))) (γ:=(Option Nat × Nat)) (δ:=(Option Nat × Nat)) h (fun s1 aw=> [(0,I.of (J)),(1,I.eq (.pointer (some ⟨hr,0,none⟩))),(2,I.of (aS)),(3,I.of (cn)),(4,I.eq (.pointer (some ⟨aR,0,none⟩))),(8,I.of (none:Ref)),(9,I.of ([]:List aJ)),(10,I.of (aO.1)),(11,I.eq (aV aw.1 s1.2.1.length aw.2)),(12,I.of (s1.1))]) (fun s1 aw=>(⟨aw.1,.row 52 (s1.2.1:List aJ) aw.2⟩ :: ⟨some aR,.var (J:aY)⟩ :: ⟨some hr,.var (s1.2.2.1:bk)⟩ :: a3 s1.2.2.2)) (fun c6=>Exit.exit 0) (fun c6 aw=> [(0,I.of (J)),(1,I.eq (.pointer (some ⟨hr,0,none⟩))),(2,I.of (aS)),(3,I.of (cn)),(4,I.eq (.pointer (some ⟨aR,0,none⟩))),(8,I.of (none:Ref)),(9,I.of ([]:List aJ)),(10,I.of (aO.1)),(11,I.eq (aV aw.1 c6.2.2.1.length aw.2)),(12,I.of (c6.1)),(32,I.of (c6.2.1))]) (fun c6 aw=>(⟨aw.1,.row 52 (c6.2.2.1:List aJ) aw.2⟩ :: ⟨some aR,.var (J:aY)⟩ :: ⟨some hr,.var (c6.2.2.2.1:bk)⟩ :: a3 c6.2.2.2.2)) (none,0) rfl (.same rfl (.same rfl (.same rfl (.same rfl (.same rfl (.same rfl (.same rfl (.same rfl (.same rfl (.same rfl .nil)))))))))) (fun s1 R h aw=> ?_) (fun av h aw=> ?_)
 ·refine ag.seq ?_
  refine aA ?_
  refine aB ?_
  refine aB ?_
  refine bd dJ ?_
  refine aB ?_
  refine dK cU ?_
  obtain⟨bc,fb,h⟩:=aC.cJ h
  refine ea (fun hb=>bY.Lc (z:=(s1.2.2.1:bk)) 2 30 rfl (fun _ _ _ h=>h.1 hb) rfl Ba (iQ LH (NN (fC fb hb)) ⟨ad rfl,trivial⟩)) ?_
  refine ig ?_
  refine aI ?_
  refine ag.cond (ad rfl) (fun ar=> ?_) (fun ar=> ?_)
  ·replace h:=q5 ar h
   refine cP ?_
   refine ag.seq ?_
   refine ag.block ?_
   refine aA ?_
   refine aB ?_
   refine cm 1 fs ?_
   refine aB ?_
   refine ai.bI 2 rfl ?_
   obtain⟨br,fY,h⟩:=aC.cJ h
   refine eE 1 UH (N4 fY) fun e6=> ?_
   refine aB ?_
   refine ho BZ hn { bH:=br.1,cI:=s1.1,kE:=1:aJ } (h4 jd (h4 lN (h4 C0 .nil))) ?_
   refine cM hn fun a0=> ?_
   refine ck 0 cO ?_
   refine b2 ?_
   refine aB ?_
   obtain⟨bg,dd,h⟩:=aC.cJ h
   refine dp dd (dP (i:=0) (aK.id aJ) (r:=({ bH:=br.1,cI:=s1.1,kE:=1:aJ })) cO (ad rfl) rfl rfl rfl) ?_
   refine ai.kj 4 0 rfl UI (Of h) rfl rfl ⟨ad rfl,ad rfl,trivial⟩ rfl fun⟨⟨cx,h⟩,h9⟩=> ?_
   refine ai.en (L2:=(⟨some a0,.var ({ bH:=br.1,cI:=s1.1,kE:=1:aJ } :aJ)⟩ :: ⟨some hr,.var (br.2:bk)⟩ :: ⟨aw.1,.row 52 (s1.2.1:List aJ) aw.2⟩ :: ⟨some aR,.var (J:aY)⟩ :: a3 cx.2)) rfl ?_
   refine aI ?_
   obtain⟨bB,cz,h⟩:=aC.cJ h
   refine ag.cC (γ:=(Option Nat × Nat)) (fun a5=> [(0,I.of (J)),(1,I.eq (.pointer (some ⟨hr,0,none⟩))),(2,I.of (aS)),(3,I.of (cn)),(4,I.eq (.pointer (some ⟨aR,0,none⟩))),(8,I.of (none:Ref)),(9,I.of ([]:List aJ)),(10,I.of (aO.1)),(11,I.eq (aV a5.1 bB.length a5.2)),(12,I.of (s1.1)),(13,I.eq (.pointer (some ⟨a0,0,none⟩))),(32,I.of ((decide (s1.1 < cn)) && bc)),(43,I.of (cx.1))]) (fun a5=>(⟨some a0,.var ({ bH:=br.1,cI:=s1.1,kE:=1:aJ } :aJ)⟩ :: ⟨some hr,.var (br.2:bk)⟩ :: ⟨a5.1,.row 52 (bB:List aJ) a5.2⟩ :: ⟨some aR,.var (J:aY)⟩ :: a3 cx.2)) (ad rfl) (fun a5=> ?_) (fun hm ar=> ?_) (fun hm ar=> ?_)
   ·clear cz
    refine ab.dz ?_
    refine ab.next ?_
    refine ag.cj ?_
    refine aB ?_
    refine bd c8 ?_
    refine aM ?_
    refine ai.nil ?_
    refine ab.bI 3 rfl ?_
    refine ab.bI 3 rfl ?_
    refine ab.bI 2 rfl ?_
    exact ab.Kf h (a5.1,a5.2) 1 rfl (.same rfl (.same rfl (.same rfl (.same rfl (.same rfl (.same rfl (.same rfl (.same rfl (.same rfl (.same rfl .nil))))))))))
   ·have h:=gI ar cz
    refine ag.cj ?_
    refine aB ?_
    obtain⟨dw,ha,h⟩:=ay h
    refine dp ha (dP (i:=0) (aK.id aJ) (r:=({ bH:=br.1,cI:=s1.1,kE:=1:aJ })) cO (ad rfl) rfl rfl rfl) ?_
    refine gx [dw] Tryz.underlying38 cO hn ?_
    obtain⟨dr,jG,h⟩:=ay h
    refine j2 2 Tryz.underlying38 cO hn jG fun gR fH=> ?_
    refine aM ?_
    refine ai.nil ?_
    obtain rfl:=aH h
    exact df 0 (hm (gR,fH))
   ·have h:=gJ ar cz
    refine ag.skip ?_
    obtain rfl:=aH h
    exact df 0 (hm (aw.1,aw.2))
  ·replace h:=q6 ar h
   refine ag.exit ?_
   refine ab.exit ?_
   exact ab.EE h (aw.1,aw.2) 0 rfl (by simp) rfl (.same rfl (.same rfl (.same rfl (.same rfl (.same rfl (.same rfl (.same rfl (.same rfl (.same rfl (.same rfl (.same rfl .nil)))))))))))
 ·refine ab.e4 ?_
  refine ab.next ?_
  refine aA ?_
  refine aB ?_
  refine aB ?_
  refine aM ?_
  refine aM ?_
  refine aI ?_
  refine ag.ret ?_
  refine ab.my (α:=aJ) 0 [9,11,49] ⟨rfl,rfl,rfl,trivial⟩ rfl ?_
  refine ab.bI 2 rfl ?_
  exact ab.kF (⟨⟨(aO.1,av.2.2.1,av.2.2.2.1,av.2.2.2.2),h⟩,()⟩: {r // _} × _) (.cons_cons _ (.cons _ (.cons _ (.refl _)))) rfl rfl (dV rfl) (dV rfl)
end Go.Proofs.YtmnggbjcnoffeaaGreat
namespace Go.Proofs.YtmnggbjcnoffeaaGreat
open Go Gv
set_option linter.unusedVariables false
set_option linter.unusedSimpArgs false
set_option maxRecDepth 100000
set_option maxHeartbeats 2000000
theorem N5 {hp:a1 Cell} {J:List (BitVec 8)} {aj:List (BitVec 8)} {aS:Int} {cn:List (Vector al 4)} {Q:Bool × (a1 Cell)→Prop} (h:w5 hp J aj aS cn Q):cf Tryz.prog 3 [I.of (J),I.of (aj),I.of (aS),I.of (cn)] ([] ++ a3 hp) (δ:= {r:Bool × (a1 Cell) // Q r} × Unit) (fun d=>I.of (d.1.1.1)) (fun d=> [] ++ a3 d.1.1.2):=by
 unfold w5 at h
 refine cf.of Tryz.func3 rfl Tryz.ntmps3 rfl fun W A=> ?_
 refine aA ?_
 refine aM ?_
 refine b2 ?_
 refine aB ?_
 obtain⟨ak,bt,h⟩:=aC.cJ h
 refine eE 0 Fw (Ds bt) fun az=> ?_
 refine ai.bI 0 rfl ?_
 obtain⟨aO,cq,h⟩:=aC.cJ h
 refine eE 1 LR (Hw cq) fun c6=> ?_
 refine aB ?_
 obtain⟨bc,fb,h⟩:=aC.cJ h
 refine eE 0 Fw (Ds fb) fun e6=> ?_
 refine cM y9 fun aR=> ?_
 refine ck 0 fs ?_
 refine aM ?_
 refine b2 ?_
 refine cm 0 fs ?_
 refine aB ?_
 refine aB ?_
 refine ai.bI 1 rfl ?_
 refine ai.CS (eR.kj 3 1 rfl UJ (OG h) rfl rfl ⟨ad rfl,ad rfl,ad rfl,bD 12,trivial⟩) rfl rfl rfl fun⟨⟨br,h⟩,h9⟩=> ?_
 refine ai.en (L2:=(⟨some e6,.var (br.2.2.1:bk)⟩ :: ⟨some aR,.var (aO.1:aY)⟩ :: ⟨some az,.var (aO.2:bk)⟩ :: a3 br.2.2.2)) rfl ?_
 refine aB ?_
 refine h6 ?_
 refine h6 ?_
 refine aM ?_
 refine aM ?_
 refine b2 ?_
 refine ai.pf (α:=Vector al 4) (r:=([]:List (Vector al 4))) Tryz.underlying23 g2 nR rfl rfl (.nil) rfl fun gR=> ?_
 refine aB ?_
 refine aB ?_
 refine aT (ej Tryz.underlying23) ?_
 refine bd vl ?_
 obtain⟨cx,ih,h⟩:=aC.cJ h
 refine bj (D4 Tryz.underlying23 g2 (ad rfl) .none (.some (ad rfl)) ih) ?_
 obtain⟨dr,jG,h⟩:=aC.cJ h
 refine j2 0 Tryz.underlying23 g2 nR jG fun kH fH=> ?_
 refine aB ?_
 refine ai.bI 1 rfl ?_
 obtain⟨dC,l6,h⟩:=aC.cJ h
 refine eE 1 LU (Hx l6) fun fZ=> ?_
 refine gx [dC.1] Tryz.underlying23 g2 nR ?_
 obtain⟨e7,nr,h⟩:=aC.cJ h
 refine j2 1 Tryz.underlying23 g2 nR nr fun ly mN=> ?_
 refine aM ?_
 refine bK ?_
 refine aA ?_
 refine aB ?_
 refine aT (ej Tryz.underlying38) ?_
 refine aB ?_
 refine aI ?_
 refine ag.block ?_
 obtain⟨av,an,h⟩:=aC.cJ h
 refine ag.sR (σ:=Int × bk × (List (Vector al 4))) (ε:=(Int × Bool × bk × (List (Vector al 4)))) (γ:=(Option Nat × Nat)) (δ:=(Option Nat × Nat)) an (fun s1 aw=> [(0,I.of (J)),(1,I.of (aj)),(2,I.of (aS)),(3,I.eq (aV aw.1 s1.2.2.length aw.2)),(8,I.of (false)),(9,I.eq (.pointer (some ⟨aR,0,none⟩))),(10,I.eq (.pointer (some ⟨e6,0,none⟩))),(11,I.of (br.1)),(12,I.of (br.2.1)),(44,I.of (br.2.1)),(45,I.of (br.2.1.length:Int)),(46,I.of (s1.1))]) (fun s1 aw=>(⟨some e6,.var (s1.2.1:bk)⟩ :: ⟨aw.1,.row 45 (s1.2.2:List (Vector al 4)) aw.2⟩ :: ⟨some aR,.var (aO.1:aY)⟩ :: ⟨some az,.var (aO.2:bk)⟩ :: a3 br.2.2.2)) (fun gX=>Exit.exit 0) (fun gX aw=> [(0,I.of (J)),(1,I.of (aj)),(2,I.of (aS)),(3,I.eq (aV aw.1 gX.2.2.2.length aw.2)),(8,I.of (false)),(9,I.eq (.pointer (some ⟨aR,0,none⟩))),(10,I.eq (.pointer (some ⟨e6,0,none⟩))),(11,I.of (br.1)),(12,I.of (br.2.1)),(44,I.of (br.2.1)),(45,I.of (br.2.1.length:Int)),(46,I.of (gX.1)),(47,I.of (gX.2.1))]) (fun gX aw=>(⟨some e6,.var (gX.2.2.1:bk)⟩ :: ⟨aw.1,.row 45 (gX.2.2.2:List (Vector al 4)) aw.2⟩ :: ⟨some aR,.var (aO.1:aY)⟩ :: ⟨some az,.var (aO.2:bk)⟩ :: a3 br.2.2.2)) (ly,mN) rfl (.same rfl (.same rfl (.same rfl (.same rfl (.same rfl (.same rfl (.same rfl (.same rfl (.same rfl (.same rfl (.same rfl (.same rfl .nil)))))))))))) (fun s1 r h aw=> ?_) (fun aw=> ?_)
 ·clear an
  refine aA ?_
  refine bd dJ ?_
  refine bK ?_
  refine b4 h (fun h=>?_) fun h=>?_
  ·refine cP ?_
   refine ag.seq ?_
   refine ag.block ?_
   refine aA ?_
   obtain⟨aW,cc,h⟩:=ay h
   refine gk cc Tryz.underlying38 cO ?_
   refine aT (c7 cO) ?_
   refine cM hn fun a0=> ?_
   refine ck 0 cO ?_
   refine aI ?_
   obtain⟨fT,oB,h⟩:=ay h
   obtain⟨gL,ou,h⟩:=ay h
   obtain⟨gF,p9,h⟩:=ay h
   refine iC [0,1,2,3,8,9,10,11,12,14,44,45,46,47,48,49] ?_
   refine ag.pY 5 mixed (bb 50 [] [] _ :: bb 51 [] [] _ :: bb 52 (1 :: []) (0 :: []) _ :: bb 53 [] [] _ :: ⟨some 54,(3 :: []),(1 :: []),(1 :: []),fun _=>I.of (fT.1),fun hd _=>⟨some e6,.var (fT.2:bk)⟩⟩ :: bb 55 (2 :: 4 :: []) [] _ :: bb 56 (5 :: []) [] _ :: ⟨some 57,(0 :: 6 :: []),(2 :: []),(2 :: []),fun hd=>I.eq (aV (hd 7 0) gF.length ((hd 7 1).getD 0)),fun hd _=>⟨(hd 7 0),.row 45 (gF:List (Vector al 4)) ((hd 7 1).getD 0)⟩⟩ :: ⟨some 3,(0 :: 1 :: 2 :: 3 :: 4 :: 5 :: 6 :: 7 :: []),[],[],fun hd=>I.eq (aV (hd 7 0) gF.length ((hd 7 1).getD 0)),fun _ _=>⟨none,.dead⟩⟩ :: []) _ (0 :: 1 :: 2 :: 3 :: 8 :: 9 :: 10 :: 11 :: 12 :: 14 :: 44 :: 45 :: 46 :: 47 :: 48 :: 49 :: []) rfl rfl (by kernel_rfl) (by kernel_rfl) ⟨cR.q (fJ),cR.q (e1 (aQ jx)),cR.q (mT 0 jd g9),cR.q (fJ),?_,cR.q (cw fun hd E' L' aE ao=>iQ UK (OA ou) ⟨ad (aE _ _ rfl),ad (aE _ _ rfl),trivial⟩),cR.q (cw fun hd E' L' aE ao=>iR (r:= [gL]) Tryz.underlying23 g2 nR rfl rfl (.cons (by simp) (ad (aE _ _ rfl)) (.nil))),?_,?_,trivial⟩ fun fl=> ?_
   ·intro hd E' L' aE ao dB
    refine ai.bI 1 (ao 1 _ rfl rfl) ?_
    refine ai.kZ (Lin:= [⟨some e6,.var (s1.2.1:bk)⟩]) (Lr:=L'.eraseIdx 1) LU (Hx oB) ⟨ad (aE _ _ rfl),trivial⟩ rfl fun wh=> ?_
    refine ai.nil ?_
    refine ab.back 1 (ao 1 _ rfl rfl) ?_
    exact ab.fin (eh []) rfl rfl
   ·intro hd E' L' aE ao dB
    refine ai.app (i:=2) Tryz.underlying23 g2 nR (bytes:=64) (by kernel_rfl) (ad (aE _ _ rfl)) (ao 2 _ rfl rfl) (ad (aE _ _ rfl)) p9 rfl fun ot nS=> ?_
    refine ai.nil ?_
    exact ab.fin (eh [ot,some nS]) rfl rfl
   ·intro hd E' L' aE ao dB
    refine bj (eW (ad (aE _ _ rfl))) ?_
    refine ai.nil ?_
    exact ab.fin (eh []) rfl rfl
   refine ab.en (L2:=(⟨some a0,.var (aF br.2.1 aW:aJ)⟩ :: ⟨some e6,.var (fT.2:bk)⟩ :: ⟨(fl 7 0),.row 45 (gF:List (Vector al 4)) ((fl 7 1).getD 0)⟩ :: ⟨some aR,.var (aO.1:aY)⟩ :: ⟨some az,.var (aO.2:bk)⟩ :: a3 br.2.2.2)) rfl ?_
   refine jF [0,1,2,3,8,9,10,11,12,14,44,45,46,47,48,49,51,52,53,54,55,56,57] ?_
   refine ab.dz ?_
   refine ab.next ?_
   refine ag.cj ?_
   refine bd c8 ?_
   refine aB ?_
   refine ai.nil ?_
   obtain rfl:=aH h
   exact fe ((fl 7 0),((fl 7 1).getD 0)) 1
  ·refine ag.exit ?_
   refine ab.exit ?_
   obtain rfl:=aH h
   exact dE (aw.1,aw.2) 0
 ·clear an
  refine ab.e4 ?_
  refine ab.next ?_
  refine ag.seq ?_
  refine aA ?_
  refine aB ?_
  refine bj (sH (i:=1) Tryz.underlying23 (ad rfl) rfl rfl) ?_
  refine aB ?_
  refine aI ?_
  refine ag.block ?_
  obtain⟨aX,an,h⟩:=aC.cJ h
  refine ag.sR (σ:=Int) (ε:=(Int × Bool) ⊕ (Bool × Bool × Int × Bool × Bool)) (γ:=Unit) (δ:=Unit) an (fun s2 a5=> [(0,I.of (J)),(1,I.of (aj)),(2,I.of (aS)),(3,I.eq (aV aw.1 av.2.2.2.length aw.2)),(8,I.of (false)),(9,I.eq (.pointer (some ⟨aR,0,none⟩))),(10,I.eq (.pointer (some ⟨e6,0,none⟩))),(11,I.of (br.1)),(12,I.of (br.2.1)),(44,I.of (br.2.1)),(45,I.of (br.2.1.length:Int)),(46,I.of (av.1)),(47,I.of (av.2.1)),(59,I.eq (aV aw.1 av.2.2.2.length aw.2)),(60,I.of (av.2.2.2.length:Int)),(61,I.of (s2))]) (fun s2 a5=>(⟨some e6,.var (av.2.2.1:bk)⟩ :: ⟨aw.1,.row 45 (av.2.2.2:List (Vector al 4)) aw.2⟩ :: ⟨some aR,.var (aO.1:aY)⟩ :: ⟨some az,.var (aO.2:bk)⟩ :: a3 br.2.2.2)) (fun jo=>Sum.elim (fun jo=>Exit.exit 2) (fun jo=>Exit.ret) jo) (fun jo a5=>Sum.elim (fun jo=> [(0,I.of (J)),(1,I.of (aj)),(2,I.of (aS)),(3,I.eq (aV aw.1 av.2.2.2.length aw.2)),(8,I.of (false)),(9,I.eq (.pointer (some ⟨aR,0,none⟩))),(10,I.eq (.pointer (some ⟨e6,0,none⟩))),(11,I.of (br.1)),(12,I.of (br.2.1)),(44,I.of (br.2.1)),(45,I.of (br.2.1.length:Int)),(46,I.of (av.1)),(47,I.of (av.2.1)),(59,I.eq (aV aw.1 av.2.2.2.length aw.2)),(60,I.of (av.2.2.2.length:Int)),(61,I.of (jo.1)),(62,I.of (jo.2))]) (fun jo=> [(0,I.of (J)),(1,I.of (aj)),(2,I.of (aS)),(3,I.eq (aV aw.1 av.2.2.2.length aw.2)),(8,I.of (false)),(9,I.eq (.pointer (some ⟨aR,0,none⟩))),(10,I.eq (.pointer (some ⟨e6,0,none⟩))),(11,I.of (br.1)),(12,I.of (br.2.1)),(18,I.of (jo.1)),(20,I.of (jo.2.1)),(44,I.of (br.2.1)),(45,I.of (br.2.1.length:Int)),(46,I.of (av.1)),(47,I.of (av.2.1)),(59,I.eq (aV aw.1 av.2.2.2.length aw.2)),(60,I.of (av.2.2.2.length:Int)),(61,I.of (jo.2.2.1)),(62,I.of (jo.2.2.2.1)),(86,I.of (jo.2.2.2.2))]) jo) (fun jo a5=>Sum.elim (fun jo=>(⟨some e6,.var (av.2.2.1:bk)⟩ :: ⟨aw.1,.row 45 (av.2.2.2:List (Vector al 4)) aw.2⟩ :: ⟨some aR,.var (aO.1:aY)⟩ :: ⟨some az,.var (aO.2:bk)⟩ :: a3 br.2.2.2)) (fun jo=>(⟨some e6,.var (av.2.2.1:bk)⟩ :: ⟨aw.1,.row 45 (av.2.2.2:List (Vector al 4)) aw.2⟩ :: ⟨some aR,.var (aO.1:aY)⟩ :: ⟨some az,.var (aO.2:bk)⟩ :: a3 br.2.2.2)) jo) () rfl (.same rfl (.same rfl (.same rfl (.same rfl (.same rfl (.same rfl (.same rfl (.same rfl (.same rfl (.same rfl (.same rfl (.same rfl (.same rfl (.same rfl (.same rfl (.same rfl .nil)))))))))))))))) (fun s2 r h a5=> ?_) (fun a5=> ?_)
  ·clear an
   refine aA ?_
   refine bd dJ ?_
   refine bK ?_
   refine b4 h (fun h=>?_) fun h=>?_
   ·refine cP ?_
    refine ag.seq ?_
    refine ag.block ?_
    refine aA ?_
    obtain⟨bR,cN,h⟩:=ay h
    refine bj (rq (i:=1) (k:=bR) (xs:=(av.2.2.2:List (Vector al 4))) Tryz.underlying23 g2 (ad rfl) (ad rfl) rfl (cK cN)) ?_
    refine bj (Ed (i:=1) (k:=bR) (aK.id (Vector al 4)) (r:=(aF av.2.2.2 bR)) g2 (ad rfl) rfl (cK cN).1 rfl rfl) ?_
    refine cM nR fun bF=> ?_
    refine ck 0 g2 ?_
    refine b2 ?_
    refine aB ?_
    refine cm 0 g2 ?_
    obtain⟨gT,qa,h⟩:=ay h
    refine ai.lf (gO.lr 5 rfl UL (NT qa) ⟨ad rfl,ad rfl,trivial⟩) rfl rfl rfl ?_
    refine aB ?_
    refine h6 ?_
    refine h6 ?_
    refine cM hn fun cA=> ?_
    refine ck 0 cO ?_
    refine aM ?_
    refine b2 ?_
    refine cm 4 fs ?_
    refine aB ?_
    refine cm 1 g2 ?_
    obtain⟨gU,qb,h⟩:=ay h
    refine ev UM (O0 qb) ?_
    refine aB ?_
    refine h6 ?_
    refine h6 ?_
    refine cM hn fun hW=> ?_
    refine ck 0 cO ?_
    refine aM ?_
    refine b2 ?_
    refine aB ?_
    refine aB ?_
    refine bd (yx Tryz.underlying4) ?_
    refine aB ?_
    refine ea (fun hb=>dP (i:=1) (aK.id aJ) (r:=gT.1) cO (ad rfl) rfl rfl rfl) ?_
    refine ea (fun hb=>dP (i:=0) (aK.id aJ) (r:=gU.1) cO (ad rfl) rfl rfl rfl) ?_
    obtain⟨hU,s6,h⟩:=ay h
    refine ea (fun hb=>iQ UN (O2 (fC s6 hb)) ⟨b3 rfl hb,b3 rfl hb,trivial⟩) ?_
    refine dK iy ?_
    refine tj ?_
    refine aI ?_
    refine b4 h (fun h=>?_) fun h=>?_
    ·refine aA ?_
     refine aM ?_
     refine aI ?_
     refine ag.ret ?_
     refine ab.c5 ?_
     refine ab.ret ?_
     obtain rfl:=aH h
     exact dE () 3
    ·refine ag.skip ?_
     refine ab.dz ?_
     refine ab.next ?_
     refine ag.cj ?_
     refine bd c8 ?_
     refine aB ?_
     refine ai.nil ?_
     obtain rfl:=aH h
     exact fe () 3
   ·refine ag.exit ?_
    refine ab.exit ?_
    obtain rfl:=aH h
    exact dE () 0
  ·clear an
   rcases aX with aX | aX
   ·simp only [Sum.elim_inl] at h
    refine ab.e4 ?_
    refine ab.next ?_
    refine aA ?_
    refine ai.kj 4 0 rfl UO (OQ h) rfl rfl trivial rfl fun⟨⟨kL,h⟩,oO⟩=> ?_
    refine ai.en (L2:=(⟨some e6,.var (av.2.2.1:bk)⟩ :: ⟨aw.1,.row 45 (av.2.2.2:List (Vector al 4)) aw.2⟩ :: ⟨some aR,.var (aO.1:aY)⟩ :: ⟨some az,.var (aO.2:bk)⟩ :: a3 kL.2)) rfl ?_
    refine aM ?_
    refine aI ?_
    refine ag.ret ?_
    exact ab.gv (⟨⟨(kL.1,kL.2),h⟩,()⟩: {r // _} × _) (.cons _ (.cons _ (.cons _ (.cons _ (.refl _))))) rfl rfl (dV rfl)
   ·simp only [Sum.elim_inr] at h
    refine ab.c5 ?_
    refine ab.ret ?_
    exact ab.gv (⟨⟨(false,br.2.2.2),h⟩,()⟩: {r // _} × _) (.cons _ (.cons _ (.cons _ (.cons _ (.refl _))))) rfl rfl (dV rfl)
end Go.Proofs.YtmnggbjcnoffeaaGreat
