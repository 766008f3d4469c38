/-
  Each function meets its functional program. Conditions: none.
-/
import Derived.Test.YtmnggbjcnoffeaaGreatMd
namespace Go.Proofs.YtmnggbjcnoffeaaGreat
open Go Gv
set_option linter.unusedVariables false
set_option linter.unusedSimpArgs false
set_option maxRecDepth 100000
set_option maxHeartbeats 2000000
theorem Fk {J:List (BitVec 8)} {ag:Int} {r:bt} (h:tD J ag=some r):cy Tryz.prog 15 [I.of (J),I.of (ag)] [] (δ:=Nat) (fun d=>I.eq (.pointer (some ⟨d,0,none⟩))) (fun d=> [⟨some d,.var (r:bt)⟩]):=by
 unfold tD at h
 refine cy.of Tryz.func15 rfl Tryz.ntmps15 rfl fun W A=> ?_
 refine aC ?_
 refine bj (eG (C7 (.pointer none))) ?_
 refine bZ ?_
 refine aB ?_
 refine aB ?_
 refine aY (eS Tryz.underlying22) ?_
 refine aB ?_
 refine bf wx ?_
 obtain⟨al,bs,h⟩:=aw h
 refine bj (F5 Tryz.underlying22 H3 (ab rfl) .none (.some (ab rfl)) bs) ?_
 refine gV U9 Va ({ (default:bt) with cu:=al } :bt) (iY Cf .nil) ?_
 refine cf fun aS=> ?_
 refine aK ?_
 refine aJ ?_
 refine ah.ret ?_
 refine ad.bU 0 rfl ?_
 obtain rfl:=aG h
 exact la aS
theorem QI {J:bt} {cl:Nat} {r:Bool} (h:Cg J=some r):cy Tryz.prog 26 [I.eq (.pointer (some ⟨cl,0,none⟩))] [⟨some cl,.var (J:bt)⟩] (δ:=Unit) (fun d=>I.of (r)) (fun d=> [⟨some cl,.var (J:bt)⟩]):=by
 unfold Cg at h
 refine cy.of Tryz.func26 rfl Tryz.ntmps26 rfl fun W A=> ?_
 refine aC ?_
 refine aK ?_
 refine bG ?_
 refine ah.draw mixed 10 [some 3,some 4,some 5,some 6,some 7,some 8,some 9,some 10,some 11,some 12] [[],[0],[1],[2],[],[4],[5],[6],[7],[3,8]] [.val _,.val _,.val _,.val _,.val _,.val _,.val _,.val _,.val _,.val _] [false,false,false,false,false,false,false,false,false,false] (by kernel_rfl) rfl rfl rfl (fun cV=>⟨cR,H1 ff,H1 (aW y2),dy 0 xW bE,cR,H1 ff,H1 (aW F6),dy 0 Cf DL,H1 (eS Tryz.underlying22),kx eb,trivial⟩) fun cV=> ?_
 refine aK ?_
 refine aJ ?_
 refine ah.ret ?_
 refine ad.bU 0 rfl ?_
 obtain rfl:=aG h
 exact la ()
theorem Fl {J:Int} {ag:Int} {r:Int} (h:qK J ag=some r):bw Tryz.prog 25 [I.of (J),I.of (ag)] (I.of (r)):=by
 unfold qK at h
 refine bw.of Tryz.func25 rfl Tryz.ntmps25 rfl fun W A=> ?_
 refine aC ?_
 refine aK ?_
 refine bG ?_
 refine aC ?_
 refine aB ?_
 refine bf eb ?_
 refine aJ ?_
 refine ch h (fun h=>?_) fun h=>?_
 ·refine aC ?_
  refine aK ?_
  refine aJ ?_
  refine ah.ret ?_
  refine ad.ret ?_
  obtain rfl:=aG h
  exact c8
 ·refine cJ ?_
  refine aC ?_
  refine aB ?_
  refine aB ?_
  obtain⟨al,bs,h⟩:=aw h
  refine bj (zE (ab rfl) (ab rfl) (yN bs)) ?_
  refine aB ?_
  refine bf c9 ?_
  refine aB ?_
  obtain⟨aN,ck,h⟩:=aw h
  refine bj (zE (ab rfl) (ab rfl) (yN ck)) ?_
  refine aK ?_
  refine aJ ?_
  refine ah.ret ?_
  obtain rfl:=aG h
  exact c8
theorem Qs {J:bV} {ag:Int} {r:Bool} (h:B5 J ag=some r):bw Tryz.prog 119 [I.of (J),I.ptr ag] (I.of (r)):=by
 unfold B5 at h
 refine bw.of Tryz.func119 rfl Tryz.ntmps119 rfl fun W A=> ?_
 refine aC ?_
 refine cf fun aS=> ?_
 refine aK ?_
 refine bZ ?_
 refine aY (aW tV) ?_
 refine cb 0 oS bE ?_
 refine aY (c2 bE) ?_
 refine bf gf ?_
 refine aK ?_
 refine aJ ?_
 refine ah.ret ?_
 obtain rfl:=aG h
 exact c8
theorem PS {J:List bV} {ag:bV→Option Bool} {r:Int} (h:xB J ag=some r):bw Tryz.prog 118 [I.of (J),I.pe Tryz.prog ag] (I.of (r)):=by
 unfold xB at h
 refine bw.of Tryz.func118 rfl Tryz.ntmps118 rfl fun W A=> ?_
 refine aC ?_
 refine aK ?_
 refine bG ?_
 refine aC ?_
 refine aB ?_
 refine aY (eS Tryz.underlying28) ?_
 refine aB ?_
 refine aJ ?_
 refine ah.block ?_
 obtain⟨aA,ao,h⟩:=aw h
 refine gN (γ:=Unit) (δ:=Unit) ao [0,1,7] (fun s1 az=> [(4,I.of (0:Int)),(8,I.of (s1))]) (fun s1 az=> []) (fun aF=>Sum.elim (fun aF=>Exit.exit 0) (fun aF=>Exit.ret) aF) (fun aF az=>Sum.elim (fun aF=> [(4,I.of (0:Int)),(8,I.of (aF.1)),(9,I.of (aF.2))]) (fun aF=> [(4,I.of (aF.1)),(5,I.of (aF.2.1)),(8,I.of (aF.2.2.1)),(9,I.of (aF.2.2.2.1)),(16,I.of (aF.2.2.2.2))]) aF) (fun aF az=>Sum.elim (fun aF=> []) (fun aF=> []) aF) () (fun s1 r h az=> ?_) fun az=> ?_
 ·clear ao
  refine aC ?_
  refine bf eb ?_
  refine bG ?_
  refine ch h (fun h=>?_) fun h=>?_
  ·refine cJ ?_
   refine ah.seq ?_
   refine ah.block ?_
   refine aC ?_
   refine aB ?_
   refine aK ?_
   refine bZ ?_
   refine aB ?_
   refine aB ?_
   refine aB ?_
   obtain⟨aZ,cv,h⟩:=aw h
   refine gJ cv Tryz.underlying28 fS ?_
   refine aY (c2 fS) ?_
   obtain⟨al,bs,h⟩:=aw h
   refine bj (vV (ab rfl) (ab rfl) bs) ?_
   refine aJ ?_
   refine ch h (fun h=>?_) fun h=>?_
   ·refine aC ?_
    refine aB ?_
    refine aK ?_
    refine aJ ?_
    refine ah.ret ?_
    refine ad.dQ ?_
    refine ad.ret ?_
    obtain rfl:=aG h
    exact dU () 0
   ·refine ah.skip ?_
    refine ad.dG ?_
    refine ad.next ?_
    refine ah.cn ?_
    refine bf c9 ?_
    refine aB ?_
    refine aj.nil ?_
    obtain rfl:=aG h
    exact e0 () 0
  ·refine ah.exit ?_
   refine ad.exit ?_
   obtain rfl:=aG h
   exact dU () 0
 ·clear ao
  rcases aA with aA | aA
  ·simp only [Sum.elim_inl] at h
   refine ad.eT ?_
   refine ad.next ?_
   refine aC ?_
   refine aK ?_
   refine aJ ?_
   refine ah.ret ?_
   obtain rfl:=aG h
   exact c8
  ·simp only [Sum.elim_inr] at h
   refine ad.dQ ?_
   refine ad.ret ?_
   obtain rfl:=aG h
   exact c8
theorem Rb {J:bV} {r:Int × Int} (h:vF J=some r):bw Tryz.prog 83 [I.of (J)] (I.cN [I.of (r.1),I.of (r.2)]):=by
 unfold vF at h
 refine bw.of Tryz.func83 rfl Tryz.ntmps83 rfl fun W A=> ?_
 refine aC ?_
 refine cf fun aS=> ?_
 refine aK ?_
 refine aK ?_
 refine bZ ?_
 refine aK ?_
 refine aK ?_
 refine bG ?_
 refine aC ?_
 refine aY (aW kh) ?_
 refine cb 0 iV jY ?_
 refine aY (eS Tryz.underlying62) ?_
 refine aB ?_
 refine aJ ?_
 refine ah.block ?_
 obtain⟨aA,ao,h⟩:=aw h
 refine gN (γ:=Unit) (δ:=Unit) ao [0,1,2,3,9,10] (fun s1 az=> [(4,I.of (s1.1)),(5,I.of (s1.2.1)),(11,I.of (s1.2.2))]) (fun s1 az=> []) (fun aF=>Exit.exit 0) (fun aF az=> [(4,I.of (aF.1)),(5,I.of (aF.2.1)),(11,I.of (aF.2.2.1)),(12,I.of (aF.2.2.2))]) (fun aF az=> []) () (fun s1 r h az=> ?_) fun az=> ?_
 ·clear ao
  refine aC ?_
  refine bf eb ?_
  refine bG ?_
  refine ch h (fun h=>?_) fun h=>?_
  ·refine cJ ?_
   refine ah.seq ?_
   refine ah.block ?_
   refine aC ?_
   refine aB ?_
   obtain⟨aZ,cv,h⟩:=aw h
   refine gJ cv Tryz.underlying62 h8 ?_
   refine aY (c2 h8) ?_
   refine cx jl fun a3=> ?_
   refine aK ?_
   refine b3 0 h8 ?_
   refine bZ ?_
   refine aY (aW qT) ?_
   refine cb 0 k2 bE ?_
   refine aJ ?_
   refine ah.block ?_
   refine aC ?_
   refine bf gf ?_
   refine aK ?_
   refine aJ ?_
   obtain⟨bM,cG,h⟩:=aw h
   refine iq (γ:=Unit) [0,1,2,3,6,7,9,10,11,12,17,18] (fun a5=> [(4,I.of (bM.1)),(5,I.of (bM.2))]) (fun a5=> []) (fun a5=> ?_) (fun hm ar=> ?_) fun hm ar=> ?_
   ·clear cG
    refine ad.dG ?_
    refine ad.dG ?_
    refine ad.next ?_
    refine ah.cn ?_
    refine bf c9 ?_
    refine aB ?_
    refine aj.nil ?_
    obtain rfl:=aG h
    exact e0 () 1
   ·have h:=gQ ar cG
    refine ah.skip ?_
    obtain rfl:=aG h
    exact dt 0 (hm ())
   ·have h:=gR ar cG
    refine aC ?_
    refine bf gf ?_
    refine aK ?_
    refine aJ ?_
    obtain⟨cI,dJ,h⟩:=aw h
    refine iq (γ:=Unit) [0,1,2,3,6,7,9,10,11,12,17,18,20] (fun bu=> [(4,I.of (cI.1)),(5,I.of (cI.2))]) (fun bu=> []) (fun bu=> ?_) (fun hm ar=> ?_) fun hm ar=> ?_
    ·clear dJ
     obtain rfl:=aG h
     exact dt 0 (hm ())
    ·have h:=gQ ar dJ
     refine ah.cn ?_
     refine aB ?_
     refine bf Dg ?_
     refine aB ?_
     refine aK ?_
     refine aK ?_
     refine aj.nil ?_
     obtain rfl:=aG h
     exact dt 0 (hm ())
    ·have h:=gR ar dJ
     refine ah.cn ?_
     refine aK ?_
     refine aj.nil ?_
     obtain rfl:=aG h
     exact dt 0 (hm ())
  ·refine ah.exit ?_
   refine ad.exit ?_
   obtain rfl:=aG h
   exact dU () 0
 ·clear ao
  refine ad.eT ?_
  refine ad.next ?_
  refine aC ?_
  refine aB ?_
  refine aB ?_
  refine aK ?_
  refine aK ?_
  refine aJ ?_
  refine ah.ret ?_
  obtain rfl:=aG h
  exact uH
theorem RG {hp:a9 Cell} {Q:Ref × (a9 Cell)→Prop} (h:Cs hp Q):cy Tryz.prog 84 [] ([] ++ ba hp) (δ:= {r:Ref × (a9 Cell) // Q r} × Unit) (fun d=>I.of (d.1.1.1)) (fun d=> [] ++ ba d.1.1.2):=by
 unfold Cs at h
 refine cy.of Tryz.func84 rfl Tryz.ntmps84 rfl fun W A=> ?_
 refine aC ?_
 refine bj (eG (r8)) ?_
 refine bZ ?_
 refine aj.Gy (α:=Vector ak 4) (β:=Int) 0 rfl (Cell.o7 ([]:List ((Vector ak 4) × Int))) (fun _=>rfl) rfl fun dY uI=> ?_
 replace h:=aM.sj h dY uI
 refine gV Vb Vc { o1:=(⟨some dY.1⟩:gF):m0 } (iY B1 .nil) ?_
 refine aj.Ad 0 rfl (Cell.wO ({ o1:=(⟨some dY.1⟩:gF):m0 })) (fun _=>rfl) (ab rfl) rfl fun eg AJ=> ?_
 replace h:=aM.sj h eg AJ
 refine aK ?_
 refine aJ ?_
 refine ah.ret ?_
 exact ad.hj (⟨⟨((some eg.1:Ref),eg.2),h⟩,()⟩: {r // _} × _) (.refl _) rfl rfl (eD rfl)
theorem Qt {J:fy} {ag:Int} {r:Bool} (h:B6 J ag=some r):bw Tryz.prog 121 [I.of (J),I.ptr ag] (I.of (r)):=by
 unfold B6 at h
 refine bw.of Tryz.func121 rfl Tryz.ntmps121 rfl fun W A=> ?_
 refine aC ?_
 refine cf fun aS=> ?_
 refine aK ?_
 refine bZ ?_
 refine aY (aW F7) ?_
 refine cb 0 od bE ?_
 refine aY (c2 bE) ?_
 refine bf gf ?_
 refine aK ?_
 refine aJ ?_
 refine ah.ret ?_
 obtain rfl:=aG h
 exact c8
end Go.Proofs.YtmnggbjcnoffeaaGreat
namespace Go.Proofs.YtmnggbjcnoffeaaGreat
open Go Gv
set_option linter.unusedVariables false
set_option linter.unusedSimpArgs false
set_option maxRecDepth 100000
set_option maxHeartbeats 2000000
theorem PT {J:List fy} {ag:fy→Option Bool} {r:Int} (h:xC J ag=some r):bw Tryz.prog 120 [I.of (J),I.pe Tryz.prog ag] (I.of (r)):=by
 unfold xC at h
 refine bw.of Tryz.func120 rfl Tryz.ntmps120 rfl fun W A=> ?_
 refine aC ?_
 refine aK ?_
 refine bG ?_
 refine aC ?_
 refine aB ?_
 refine aY (eS Tryz.underlying24) ?_
 refine aB ?_
 refine aJ ?_
 refine ah.block ?_
 obtain⟨aA,ao,h⟩:=aw h
 refine gN (γ:=Unit) (δ:=Unit) ao [0,1,7] (fun s1 az=> [(4,I.of (0:Int)),(8,I.of (s1))]) (fun s1 az=> []) (fun aF=>Sum.elim (fun aF=>Exit.exit 0) (fun aF=>Exit.ret) aF) (fun aF az=>Sum.elim (fun aF=> [(4,I.of (0:Int)),(8,I.of (aF.1)),(9,I.of (aF.2))]) (fun aF=> [(4,I.of (aF.1)),(5,I.of (aF.2.1)),(8,I.of (aF.2.2.1)),(9,I.of (aF.2.2.2.1)),(16,I.of (aF.2.2.2.2))]) aF) (fun aF az=>Sum.elim (fun aF=> []) (fun aF=> []) aF) () (fun s1 r h az=> ?_) fun az=> ?_
 ·clear ao
  refine aC ?_
  refine bf eb ?_
  refine bG ?_
  refine ch h (fun h=>?_) fun h=>?_
  ·refine cJ ?_
   refine ah.seq ?_
   refine ah.block ?_
   refine aC ?_
   refine aB ?_
   refine aK ?_
   refine bZ ?_
   refine aB ?_
   refine aB ?_
   refine aB ?_
   obtain⟨aZ,cv,h⟩:=aw h
   refine gJ cv Tryz.underlying24 nP ?_
   refine aY (c2 nP) ?_
   obtain⟨al,bs,h⟩:=aw h
   refine bj (vV (ab rfl) (ab rfl) bs) ?_
   refine aJ ?_
   refine ch h (fun h=>?_) fun h=>?_
   ·refine aC ?_
    refine aB ?_
    refine aK ?_
    refine aJ ?_
    refine ah.ret ?_
    refine ad.dQ ?_
    refine ad.ret ?_
    obtain rfl:=aG h
    exact dU () 0
   ·refine ah.skip ?_
    refine ad.dG ?_
    refine ad.next ?_
    refine ah.cn ?_
    refine bf c9 ?_
    refine aB ?_
    refine aj.nil ?_
    obtain rfl:=aG h
    exact e0 () 0
  ·refine ah.exit ?_
   refine ad.exit ?_
   obtain rfl:=aG h
   exact dU () 0
 ·clear ao
  rcases aA with aA | aA
  ·simp only [Sum.elim_inl] at h
   refine ad.eT ?_
   refine ad.next ?_
   refine aC ?_
   refine aK ?_
   refine aJ ?_
   refine ah.ret ?_
   obtain rfl:=aG h
   exact c8
  ·simp only [Sum.elim_inr] at h
   refine ad.dQ ?_
   refine ad.ret ?_
   obtain rfl:=aG h
   exact c8
theorem QN {J:a2} {r:cS} (h:E6 J=some r):cy Tryz.prog 86 [I.of (J)] [] (δ:=Nat × (Option Nat × Nat)) (fun d=>I.eq (.pointer (some ⟨d.1,0,none⟩))) (fun d=> [⟨some d.1,.cz (({ r with cu:= [] } :cS):cS) [(10,a0 d.2.1 (r.cu).length d.2.2)]⟩,⟨d.2.1,.row 52 (r.cu:List aI) d.2.2⟩]):=by
 unfold E6 at h
 refine cy.of Tryz.func86 rfl Tryz.ntmps86 rfl fun W A=> ?_
 refine aC ?_
 refine cf fun aS=> ?_
 refine bj (eG (r8)) ?_
 refine bZ ?_
 refine b6 0 fH ?_
 refine bj (pP (b:=({ (default:cS) with nH:=J } :cS)) [10] S6 rfl Vd Ve (.cons BQ rfl (ab rfl) rfl (by rfl) (.nil))) ?_
 refine aj.own (α:=aI) 52 ?_
 refine aj.Xv (ab rfl) rfl fun a3=> ?_
 refine aK ?_
 refine aJ ?_
 refine ah.ret ?_
 refine ad.H4 (γ:=aI) (b':=(({ ({ (default:cS) with nH:=J } :cS) with cu:= [] } :cS):cS)) ((aL.id cS).comp xX) 0 0 rfl rfl rfl ?_
 refine ad.bU 1 rfl ?_
 refine ad.bU 1 rfl ?_
 obtain rfl:=aG h
 exact la (a3,(none,0))
theorem Qk {J:bt} {r:Bool} (h:xP J=some r):bw Tryz.prog 26 [I.ptr J] (I.of (r)):=by
 unfold xP at h
 refine bw.of Tryz.func26 rfl Tryz.ntmps26 rfl fun W A=> ?_
 refine aC ?_
 refine aK ?_
 refine bG ?_
 refine ah.draw mixed 10 [some 3,some 4,some 5,some 6,some 7,some 8,some 9,some 10,some 11,some 12] [[],[0],[1],[2],[],[4],[5],[6],[7],[3,8]] [.val _,.val _,.val _,.val _,.val _,.val _,.val _,.val _,.val _,.val _] [false,false,false,false,false,false,false,false,false,false] (by kernel_rfl) rfl rfl rfl (fun cV=>⟨cR,H1 zf,nq xW y2,H1 (c2 bE),cR,H1 zf,nq Cf F6,H1 (c2 DL),H1 (eS Tryz.underlying22),kx eb,trivial⟩) fun cV=> ?_
 refine aK ?_
 refine aJ ?_
 refine ah.ret ?_
 obtain rfl:=aG h
 exact c8
theorem Rc {J:a2} {ag:Int} {r:Int} (h:yq J ag=some r):bw Tryz.prog 108 [I.of (J),I.of (ag)] (I.of (r)):=by
 unfold yq at h
 refine bw.of Tryz.func108 rfl Tryz.ntmps108 rfl fun W A=> ?_
 refine aC ?_
 refine cf fun aS=> ?_
 refine aK ?_
 refine bG ?_
 refine aC ?_
 refine aY (aW sv) ?_
 refine cb 0 rY rf ?_
 refine aY (eS Tryz.underlying24) ?_
 refine aB ?_
 refine aJ ?_
 refine ah.block ?_
 obtain⟨aA,ao,h⟩:=aw h
 refine gN (γ:=Unit) (δ:=Unit) ao [0,1,2,8,9] (fun s1 az=> [(4,I.of (0:Int)),(10,I.of (s1))]) (fun s1 az=> []) (fun aF=>Sum.elim (fun aF=>Exit.exit 0) (fun aF=>Exit.ret) aF) (fun aF az=>Sum.elim (fun aF=> [(4,I.of (0:Int)),(10,I.of (aF.1)),(11,I.of (aF.2))]) (fun aF=> [(4,I.of (aF.1)),(10,I.of (aF.2.1)),(11,I.of (aF.2.2.1)),(17,I.of (aF.2.2.2))]) aF) (fun aF az=>Sum.elim (fun aF=> []) (fun aF=> []) aF) () (fun s1 r h az=> ?_) fun az=> ?_
 ·clear ao
  refine aC ?_
  refine bf eb ?_
  refine bG ?_
  refine ch h (fun h=>?_) fun h=>?_
  ·refine cJ ?_
   refine ah.seq ?_
   refine ah.block ?_
   refine aC ?_
   obtain⟨aZ,cv,h⟩:=aw h
   refine gJ cv Tryz.underlying24 nP ?_
   refine aY (c2 nP) ?_
   refine cx ou fun a3=> ?_
   refine b3 0 nP ?_
   refine bZ ?_
   refine aY (aW F7) ?_
   refine cb 0 od bE ?_
   refine aB ?_
   refine bf gf ?_
   refine aJ ?_
   refine ch h (fun h=>?_) fun h=>?_
   ·refine aC ?_
    refine aY (aW y3) ?_
    refine cb 0 mX bE ?_
    refine aK ?_
    refine aJ ?_
    refine ah.ret ?_
    refine ad.dQ ?_
    refine ad.ret ?_
    obtain rfl:=aG h
    exact dU () 1
   ·refine ah.skip ?_
    refine ad.dG ?_
    refine ad.next ?_
    refine ah.cn ?_
    refine bf c9 ?_
    refine aB ?_
    refine aj.nil ?_
    obtain rfl:=aG h
    exact e0 () 1
  ·refine ah.exit ?_
   refine ad.exit ?_
   obtain rfl:=aG h
   exact dU () 0
 ·clear ao
  rcases aA with aA | aA
  ·simp only [Sum.elim_inl] at h
   refine ad.eT ?_
   refine ad.next ?_
   refine aC ?_
   refine aK ?_
   refine aJ ?_
   refine ah.ret ?_
   obtain rfl:=aG h
   exact c8
  ·simp only [Sum.elim_inr] at h
   refine ad.dQ ?_
   refine ad.ret ?_
   obtain rfl:=aG h
   exact c8
theorem Ct {J:ak} {ag:Int} {r:ak} (h:r9 J ag=some r):bw Tryz.prog 46 [I.of (J),I.of (ag)] (I.of (r)):=by
 unfold r9 at h
 refine bw.of Tryz.func46 rfl Tryz.ntmps46 rfl fun W A=> ?_
 refine aC ?_
 refine cf fun aS=> ?_
 refine cx dP fun a3=> ?_
 refine bG ?_
 refine ah.block ?_
 refine aC ?_
 refine aB ?_
 refine bf jU ?_
 refine aK ?_
 refine aJ ?_
 refine ch h (fun h=>?_) fun h=>?_
 ·refine aC ?_
  refine b6 1 bN ?_
  refine b3 0 bN ?_
  refine aJ ?_
  refine ah.ret ?_
  refine ad.dQ ?_
  refine ad.ret ?_
  obtain rfl:=aG h
  exact ad.hg rfl (eH 0 bN)
 ·refine aC ?_
  refine aB ?_
  refine bf jU ?_
  refine aK ?_
  refine aJ ?_
  refine ch h (fun h=>?_) fun h=>?_
  ·refine aC ?_
   refine aY (aW jC) ?_
   refine cb 1 g8 en ?_
   refine aB ?_
   refine bf ly ?_
   refine aY (iB Tryz.underlying3 Tryz.underlying130) ?_
   refine bj (m6 (gb 1 rfl) (ab rfl)) ?_
   refine bj (sk (ab rfl) (gb 1 rfl)) ?_
   obtain⟨bl,di,h⟩:=aw h
   refine dj di (sl (ab rfl) (ab rfl)) ?_
   refine aY (aW hO) ?_
   refine cb 1 dT en ?_
   refine gV gT dP { c6:=bl,bO:=J.bO:ak } (iY g8 (iY dT .nil)) ?_
   refine b3 0 bN ?_
   refine aJ ?_
   refine ah.ret ?_
   refine ad.dQ ?_
   refine ad.ret ?_
   obtain rfl:=aG h
   exact ad.hg rfl (eH 0 bN)
  ·refine aC ?_
   refine aB ?_
   refine bf q1 ?_
   refine aK ?_
   refine aJ ?_
   refine ch h (fun h=>?_) fun h=>?_
   ·refine aC ?_
    refine gV gT dP (default:ak) .nil ?_
    refine b3 0 bN ?_
    refine aJ ?_
    refine ah.ret ?_
    refine ad.dQ ?_
    refine ad.ret ?_
    obtain rfl:=aG h
    exact ad.hg rfl (eH 0 bN)
   ·refine ah.skip ?_
    refine ad.dG ?_
    refine ad.next ?_
    refine aC ?_
    refine aY (aW hO) ?_
    refine cb 1 dT en ?_
    refine aB ?_
    refine aY (iB Tryz.underlying3 Tryz.underlying130) ?_
    refine bj (m6 (gb 1 rfl) (ab rfl)) ?_
    refine bj (sk (ab rfl) (gb 1 rfl)) ?_
    refine bf sl ?_
    obtain⟨dm,hn,h⟩:=aw h
    refine dj hn (cU (b:=({ (default:ak) with bO:=J.bO &&& (((1#64) <<< (BitVec.ofInt 64 ag).toNat) - (1#64)) } :ak)) rfl gT dP (.cons dT rfl (ab rfl) rfl (.nil))) ?_
    refine b3 0 bN ?_
    refine aJ ?_
    refine ah.ret ?_
    obtain rfl:=aG h
    exact ad.hg rfl (eH 0 bN)
theorem Rx {J:Int} {ag:Int} {r:ak} (h:Cq J ag=some r):bw Tryz.prog 109 [I.of (J),I.of (ag)] (I.of (r)):=by
 unfold Cq at h
 refine bw.of Tryz.func109 rfl Tryz.ntmps109 rfl fun W A=> ?_
 refine aC ?_
 refine cx dP fun aS=> ?_
 refine bZ ?_
 refine aB ?_
 refine aY (iB Tryz.underlying3 Tryz.underlying130) ?_
 refine bj (m6 (gb 1 rfl) (ab rfl)) ?_
 refine bj (sk (ab rfl) (gb 1 rfl)) ?_
 refine aB ?_
 refine aB ?_
 refine bf ly ?_
 refine aY (iB Tryz.underlying3 Tryz.underlying130) ?_
 refine bj (m6 (gb 1 rfl) (ab rfl)) ?_
 refine bj (sk (ab rfl) (gb 1 rfl)) ?_
 obtain⟨bl,di,h⟩:=aw h
 refine dj di (sk (ab rfl) (ab rfl)) ?_
 refine gV gT dP ({ (default:ak) with bO:=bl } :ak) (iY dT .nil) ?_
 refine b3 0 bN ?_
 refine aJ ?_
 refine ah.ret ?_
 obtain rfl:=aG h
 exact ad.hg rfl (eH 0 bN)
end Go.Proofs.YtmnggbjcnoffeaaGreat
namespace Go.Proofs.YtmnggbjcnoffeaaGreat
open Go Gv
set_option linter.unusedVariables false
set_option linter.unusedSimpArgs false
set_option maxRecDepth 100000
set_option maxHeartbeats 2000000
theorem Rd {J:bJ} {ag:Vector ak 4} {r:(Vector ak 4)} (h:yr J ag=some r):bw Tryz.prog 19 [I.of (J),I.of (ag)] (I.of (r)):=by
 unfold yr at h
 refine bw.of Tryz.func19 rfl Tryz.ntmps19 rfl fun W A=> ?_
 refine aC ?_
 refine cf fun aS=> ?_
 refine cf fun a3=> ?_
 refine cx jm fun bH=> ?_
 refine bG ?_
 refine aC ?_
 refine aY (aW k4) ?_
 refine cb 2 ke kI ?_
 refine aY (eS Tryz.underlying47) ?_
 refine aB ?_
 refine aJ ?_
 refine ah.block ?_
 obtain⟨aA,ao,h⟩:=aw h
 refine gN (γ:=Unit) (δ:=Unit) ao [0,1,2,3,4,8,9] (fun s1 az=> [(10,I.of (s1.1))]) (fun s1 az=> [(1,⟨some a3,.var (s1.2:Vector ak 4)⟩)]) (fun aF=>Exit.exit 0) (fun aF az=> [(10,I.of (aF.1)),(11,I.of (aF.2.1))]) (fun aF az=> [(1,⟨some a3,.var (aF.2.2:Vector ak 4)⟩)]) () (fun s1 r h az=> ?_) fun az=> ?_
 ·clear ao
  refine aC ?_
  refine bf eb ?_
  refine bG ?_
  refine ch h (fun h=>?_) fun h=>?_
  ·refine cJ ?_
   refine ah.seq ?_
   refine ah.block ?_
   refine aC ?_
   refine aB ?_
   obtain⟨aZ,cv,h⟩:=aw h
   refine gJ cv Tryz.underlying47 gG ?_
   refine aY (c2 gG) ?_
   refine cx l9 fun cA=> ?_
   refine aK ?_
   refine b3 0 gG ?_
   refine bG ?_
   refine aC ?_
   refine aB ?_
   refine bf jU ?_
   refine aB ?_
   refine dE (aW Gz) ?_
   refine eW (fun hb=>fj (i:=0) ((aL.id cr).comp qB) (r:=(ax J.bY aZ).gM) ir (ct rfl hb) rfl rfl rfl) ?_
   refine dE hz ?_
   refine qg ?_
   refine aJ ?_
   refine ch h (fun h=>?_) fun h=>?_
   ·refine ah.exit ?_
    refine ad.exit ?_
    refine ad.eT ?_
    refine ad.next ?_
    refine ah.cn ?_
    refine bf c9 ?_
    refine aB ?_
    refine aj.nil ?_
    obtain rfl:=aG h
    exact e0 () 1
   ·refine cJ ?_
    refine ah.block ?_
    refine aC ?_
    refine aY (aW zg) ?_
    refine cb 0 r1 bN ?_
    refine gV gT dP (default:ak) .nil ?_
    refine bf (Dh ov rfl wy rfl) ?_
    refine aK ?_
    refine aJ ?_
    obtain⟨bM,cG,h⟩:=aw h
    refine iq (γ:=Unit) [0,1,2,3,4,5,6,8,9,10,11,21,26] (fun a5=> []) (fun a5=> [(2,⟨some a3,.var (bM:Vector ak 4)⟩)]) (fun a5=> ?_) (fun hm ar=> ?_) fun hm ar=> ?_
    ·clear cG
     refine ad.dG ?_
     refine ad.dG ?_
     refine ad.next ?_
     refine ah.cn ?_
     refine bf c9 ?_
     refine aB ?_
     refine aj.nil ?_
     obtain rfl:=aG h
     exact e0 () 1
    ·have h:=gQ ar cG
     obtain⟨b0,de,h⟩:=aw h
     obtain⟨bl,di,h⟩:=aw h
     obtain⟨c1,fl,h⟩:=aw h
     obtain⟨dm,hn,h⟩:=aw h
     obtain⟨fm,iZ,h⟩:=aw h
     refine ah.draw mixed 29 ((some 31) :: (some 32) :: (some 33) :: (some 34) :: (some 35) :: (some 36) :: (some 37) :: (some 38) :: (some 39) :: (some 40) :: (some 41) :: (some 42) :: (some 43) :: (some 44) :: (some 45) :: (some 46) :: (some 47) :: (some 48) :: (some 49) :: (some 50) :: (some 51) :: (some 52) :: (some 53) :: (some 54) :: (some 55) :: (some 56) :: (some 57) :: (some 58) :: none :: []) ([] :: [] :: [] :: [2] :: [3] :: [4] :: [] :: [6] :: [7] :: [5,8] :: [] :: [10] :: [11] :: [9,12] :: [] :: [14] :: [15] :: [16] :: [] :: [18] :: [19] :: [17,20] :: [] :: [22] :: [23] :: [21,24] :: [0] :: [26] :: [13,27] :: []) (.val _ :: .val _ :: .val _ :: .val _ :: .val _ :: .val _ :: .val _ :: .val _ :: .val _ :: .val _ :: .val _ :: .val _ :: .val _ :: .val _ :: .val _ :: .val _ :: .val _ :: .val _ :: .val _ :: .val _ :: .val _ :: .val _ :: .val _ :: .val _ :: .val _ :: .val _ :: .val _ :: .val _ :: .j3 2 (.var (cW s1.2 fm ({ (bD s1.2 fm) with bO:=bl } :ak):Vector ak 4)) :: []) (false :: false :: false :: false :: false :: false :: false :: false :: false :: false :: false :: false :: false :: false :: false :: false :: false :: false :: false :: false :: false :: false :: false :: false :: false :: false :: false :: false :: true :: []) (by kernel_rfl) rfl rfl rfl (fun cV=>⟨cR,cR,cR,du fun ay au=>ee (k:=b0) fD (ab rfl) (ab rfl) (cc de),H1 (aW hO),dy 2 (((aL.id (Vector ak 4)).comp (aL.idx (α:=ak) 4 b0 (cc de).1)).comp dT) en,H1 (aW zg),H1 (aW hO),dy 0 (r1.comp dT) en,kx KK,H1 (aW pS),H1 (aW hO),dy 0 (lY.comp dT) en,tc di fun ay au=>pT (ab rfl) (ab rfl),cR,du fun ay au=>ee (k:=c1) fD (ab rfl) (ab rfl) (cc fl),H1 (aW jC),dy 2 (((aL.id (Vector ak 4)).comp (aL.idx (α:=ak) 4 c1 (cc fl).1)).comp g8) en,H1 (aW zg),H1 (aW jC),dy 0 (r1.comp g8) en,kx KK,H1 (aW pS),H1 (aW jC),dy 0 (lY.comp g8) en,tc hn fun ay au=>pT (ab rfl) (ab rfl),du fun ay au=>ee (k:=fm) fD (ab rfl) (ab rfl) (cc iZ),H1 (aW hO),⟨_,_,rfl,fun ay au=>qU (i:=2) (((aL.id (Vector ak 4)).comp (aL.idx (α:=ak) 4 fm (cc iZ).1)).comp dT) (v:=(bl:BitVec 64)) (b':=(cW s1.2 fm ({ (bD s1.2 fm) with bO:=bl } :ak):Vector ak 4)) en (ab rfl) (ab rfl) (au _ _ rfl) rfl rfl⟩,trivial⟩) fun cV=> ?_
     obtain⟨hW,mc,h⟩:=aw h
     refine bj (ee (k:=hW) fD (ab rfl) (ab rfl) (cc mc)) ?_
     refine aY (aW jC) ?_
     obtain⟨eX,iL,h⟩:=aw h
     refine w6 2 (((aL.id (Vector ak 4)).comp (aL.idx (α:=ak) 4 hW (cc mc).1)).comp g8) en (hb:=by exact iL) ?_
     refine aj.nil ?_
     obtain rfl:=aG h
     exact dt 0 (hm ())
    ·have h:=gR ar cG
     refine aC ?_
     refine aY (aW tW) ?_
     refine cb 0 pL bE ?_
     refine bf ow ?_
     refine aB ?_
     refine dE (aW tW) ?_
     refine eW (fun hb=>fj (i:=0) ((aL.id cr).comp pL) (r:=(ax J.bY aZ).eQ) bE (ct rfl hb) rfl rfl rfl) ?_
     refine kn q1 ?_
     obtain⟨gX,lH,h⟩:=aw h
     refine dj lH (pX (ab rfl) (ab rfl) (fun h=>h)) ?_
     refine aK ?_
     refine aJ ?_
     obtain⟨cI,dJ,h⟩:=aw h
     refine iq (γ:=Unit) [0,1,2,3,4,5,6,8,9,10,11,21,26,61] (fun bu=> []) (fun bu=> [(2,⟨some a3,.var (cI:Vector ak 4)⟩)]) (fun bu=> ?_) (fun hm ar=> ?_) fun hm ar=> ?_
     ·clear dJ
      obtain rfl:=aG h
      exact dt 0 (hm ())
     ·have h:=gQ ar dJ
      obtain⟨ka,oE,h⟩:=aw h
      obtain⟨gY,mK,h⟩:=aw h
      obtain⟨iO,pf,h⟩:=aw h
      obtain⟨kV,pg,h⟩:=aw h
      refine ah.draw mixed 18 ((some 70) :: (some 71) :: (some 72) :: (some 73) :: (some 74) :: (some 75) :: (some 76) :: (some 77) :: (some 78) :: (some 79) :: (some 80) :: (some 81) :: (some 82) :: (some 83) :: (some 84) :: (some 85) :: (some 86) :: (some 87) :: []) ([] :: [] :: [1] :: [2] :: [] :: [4] :: [5] :: [6] :: [] :: [8] :: [9] :: [10] :: [11] :: [12] :: [7,13] :: [3,14] :: [15] :: [0] :: []) (.val _ :: .val _ :: .val _ :: .val _ :: .val _ :: .val _ :: .val _ :: .val _ :: .val _ :: .val _ :: .val _ :: .val _ :: .val _ :: .val _ :: .val _ :: .val _ :: .val _ :: .val _ :: []) (false :: false :: false :: false :: false :: false :: false :: false :: false :: false :: false :: false :: false :: false :: false :: false :: false :: false :: []) (by kernel_rfl) rfl rfl rfl (fun hB=>⟨cR,H1 (aW pS),H1 (aW hO),dy 0 (lY.comp dT) en,cR,du fun ay au=>ee (k:=ka) fD (ab rfl) (ab rfl) (cc oE),H1 (aW hO),dy 2 (((aL.id (Vector ak 4)).comp (aL.idx (α:=ak) 4 ka (cc oE).1)).comp dT) en,H1 (aW tW),dy 0 pL bE,kx ly,H1 (iB Tryz.underlying3 Tryz.underlying130),tc mK fun ay au=>m6 (gb 1 rfl) (ab rfl),du fun ay au=>sk (ab rfl) (gb 1 rfl),kx sl,tc pf fun ay au=>pT (ab rfl) (ab rfl),du fun ay au=>cU (b:=({ (default:ak) with bO:=iO } :ak)) rfl gT dP (.cons dT rfl (ab rfl) rfl (.nil)),du fun ay au=>ee (k:=kV) fD (ab rfl) (ab rfl) (cc pg),trivial⟩) fun hB=> ?_
      obtain⟨iP,ph,h⟩:=aw h
      refine w6 2 ((aL.id (Vector ak 4)).comp (aL.idx (α:=ak) 4 kV (cc pg).1)) bN (hb:=by exact ph) ?_
      refine aj.nil ?_
      obtain rfl:=aG h
      exact dt 0 (hm ())
     ·have h:=gR ar dJ
      refine ah.cn ?_
      refine aB ?_
      refine aY (aW pS) ?_
      refine cb 0 lY bN ?_
      obtain⟨kW,pj,h⟩:=aw h
      refine bj (ee (k:=kW) fD (ab rfl) (ab rfl) (cc pj)) ?_
      refine me 2 ((aL.id (Vector ak 4)).comp (aL.idx (α:=ak) 4 kW (cc pj).1)) bN ?_
      refine aj.nil ?_
      obtain rfl:=aG h
      exact dt 0 (hm ())
  ·refine ah.exit ?_
   refine ad.exit ?_
   obtain rfl:=aG h
   exact dU () 0
 ·clear ao
  refine ad.eT ?_
  refine ad.next ?_
  refine aC ?_
  refine b6 1 dv ?_
  refine b3 0 dv ?_
  refine aJ ?_
  refine ah.ret ?_
  obtain rfl:=aG h
  exact ad.hg rfl (eH 0 dv)
end Go.Proofs.YtmnggbjcnoffeaaGreat
namespace Go.Proofs.YtmnggbjcnoffeaaGreat
open Go Gv
set_option linter.unusedVariables false
set_option linter.unusedSimpArgs false
set_option maxRecDepth 100000
set_option maxHeartbeats 2000000
theorem yg {J:Vector ak 4} {ag:Vector ak 4} {aT:ak→ak→Option ak} {r:(Vector ak 4)} (h:qH J ag aT=some r):bw Tryz.prog 192 [I.of (J),I.of (ag),I.w7 Tryz.prog aT] (I.of (r)):=by
 unfold qH at h
 refine bw.of Tryz.func192 rfl Tryz.ntmps192 rfl fun W A=> ?_
 refine aC ?_
 refine cf fun aS=> ?_
 refine cf fun a3=> ?_
 refine cx jm fun bH=> ?_
 refine bG ?_
 refine aC ?_
 refine aB ?_
 refine aJ ?_
 refine ah.block ?_
 obtain⟨aA,ao,h⟩:=aw h
 refine gN (γ:=Unit) (δ:=Unit) ao [0,1,2,3,4,6] (fun s1 az=> [(8,I.of (s1.1))]) (fun s1 az=> [(2,⟨some aS,.var (s1.2:Vector ak 4)⟩)]) (fun aF=>Exit.exit 0) (fun aF az=> [(8,I.of (aF.1)),(9,I.of (aF.2.1))]) (fun aF az=> [(2,⟨some aS,.var (aF.2.2:Vector ak 4)⟩)]) () (fun s1 r h az=> ?_) fun az=> ?_
 ·clear ao
  refine aC ?_
  refine bf eb ?_
  refine bG ?_
  refine ch h (fun h=>?_) fun h=>?_
  ·refine cJ ?_
   refine ah.seq ?_
   refine ah.block ?_
   refine aC ?_
   refine aB ?_
   refine aK ?_
   refine aJ ?_
   obtain⟨aZ,cv,h⟩:=aw h
   obtain⟨b0,de,h⟩:=aw h
   obtain⟨al,bs,h⟩:=aw h
   obtain⟨c1,fl,h⟩:=aw h
   refine ah.draw mixed 10 [some 11,some 12,some 13,some 14,some 15,some 16,some 17,some 18,some 19,some 20] [[],[],[],[2],[3],[],[5],[6],[1,4,7],[0]] [.val _,.val _,.val _,.val _,.val _,.val _,.val _,.val _,.val _,.val _] [false,false,false,false,false,false,false,false,false,false] (by kernel_rfl) rfl rfl rfl (fun cV=>⟨cR,cR,cR,du fun ay au=>ee (k:=aZ) fD (ab rfl) (ab rfl) (cc cv),dy 2 ((aL.id (Vector ak 4)).comp (aL.idx (α:=ak) 4 aZ (cc cv).1)) bN,cR,du fun ay au=>ee (k:=b0) fD (ab rfl) (ab rfl) (cc de),dy 1 ((aL.id (Vector ak 4)).comp (aL.idx (α:=ak) 4 b0 (cc de).1)) bN,du fun ay au=>FQ (ab rfl) (ab rfl) (ab rfl) bs,du fun ay au=>ee (k:=c1) fD (ab rfl) (ab rfl) (cc fl),trivial⟩) fun cV=> ?_
   refine me 2 ((aL.id (Vector ak 4)).comp (aL.idx (α:=ak) 4 c1 (cc fl).1)) bN ?_
   refine aj.nil ?_
   refine ad.dG ?_
   refine ad.next ?_
   refine ah.cn ?_
   refine bf c9 ?_
   refine aB ?_
   refine aj.nil ?_
   obtain rfl:=aG h
   exact e0 () 0
  ·refine ah.exit ?_
   refine ad.exit ?_
   obtain rfl:=aG h
   exact dU () 0
 ·clear ao
  refine ad.eT ?_
  refine ad.next ?_
  refine aC ?_
  refine b6 2 dv ?_
  refine b3 0 dv ?_
  refine aJ ?_
  refine ah.ret ?_
  obtain rfl:=aG h
  exact ad.hg rfl (eH 0 dv)
theorem JL {J:List a4} {ag:a4→Option Bool} {r:Int} (h:vh J ag=some r):bw Tryz.prog 191 [I.of (J),I.pe Tryz.prog ag] (I.of (r)):=by
 unfold vh at h
 refine bw.of Tryz.func191 rfl Tryz.ntmps191 rfl fun W A=> ?_
 refine aC ?_
 refine aK ?_
 refine bG ?_
 refine aC ?_
 refine aB ?_
 refine aY (eS Tryz.underlying156) ?_
 refine aB ?_
 refine aJ ?_
 refine ah.block ?_
 obtain⟨aA,ao,h⟩:=aw h
 refine gN (γ:=Unit) (δ:=Unit) ao [0,1,7] (fun s1 az=> [(4,I.of (0:Int)),(8,I.of (s1))]) (fun s1 az=> []) (fun aF=>Sum.elim (fun aF=>Exit.exit 0) (fun aF=>Exit.ret) aF) (fun aF az=>Sum.elim (fun aF=> [(4,I.of (0:Int)),(8,I.of (aF.1)),(9,I.of (aF.2))]) (fun aF=> [(4,I.of (aF.1)),(5,I.of (aF.2.1)),(8,I.of (aF.2.2.1)),(9,I.of (aF.2.2.2.1)),(16,I.of (aF.2.2.2.2))]) aF) (fun aF az=>Sum.elim (fun aF=> []) (fun aF=> []) aF) () (fun s1 r h az=> ?_) fun az=> ?_
 ·clear ao
  refine aC ?_
  refine bf eb ?_
  refine bG ?_
  refine ch h (fun h=>?_) fun h=>?_
  ·refine cJ ?_
   refine ah.seq ?_
   refine ah.block ?_
   refine aC ?_
   refine aB ?_
   refine aK ?_
   refine bZ ?_
   refine aB ?_
   refine aB ?_
   refine aB ?_
   obtain⟨aZ,cv,h⟩:=aw h
   refine gJ cv Tryz.underlying156 c0 ?_
   refine aY (c2 c0) ?_
   obtain⟨al,bs,h⟩:=aw h
   refine bj (vV (ab rfl) (ab rfl) bs) ?_
   refine aJ ?_
   refine ch h (fun h=>?_) fun h=>?_
   ·refine aC ?_
    refine aB ?_
    refine aK ?_
    refine aJ ?_
    refine ah.ret ?_
    refine ad.dQ ?_
    refine ad.ret ?_
    obtain rfl:=aG h
    exact dU () 0
   ·refine ah.skip ?_
    refine ad.dG ?_
    refine ad.next ?_
    refine ah.cn ?_
    refine bf c9 ?_
    refine aB ?_
    refine aj.nil ?_
    obtain rfl:=aG h
    exact e0 () 0
  ·refine ah.exit ?_
   refine ad.exit ?_
   obtain rfl:=aG h
   exact dU () 0
 ·clear ao
  rcases aA with aA | aA
  ·simp only [Sum.elim_inl] at h
   refine ad.eT ?_
   refine ad.next ?_
   refine aC ?_
   refine aK ?_
   refine aJ ?_
   refine ah.ret ?_
   obtain rfl:=aG h
   exact c8
  ·simp only [Sum.elim_inr] at h
   refine ad.dQ ?_
   refine ad.ret ?_
   obtain rfl:=aG h
   exact c8
theorem PW {J:List a4} {r:(List a4)} (h:xD J=some r):cy Tryz.prog 152 [I.of (J)] [] (δ:=(Option Nat × Nat)) (fun d=>I.eq (a0 d.1 (r).length d.2)) (fun d=> [⟨d.1,.row 155 (r:List a4) d.2⟩]):=by
 unfold xD at h
 refine cy.of Tryz.func152 rfl Tryz.ntmps152 rfl fun W A=> ?_
 refine aC ?_
 refine aj.own (α:=a4) 155 ?_
 refine bj (eG tJ) ?_
 refine bG ?_
 refine aC ?_
 refine aB ?_
 refine bj (GX Tryz.underlying156 (ab rfl)) ?_
 refine aJ ?_
 refine ah.GY (ab rfl) (fun aq=> ?_) ?_
 ·subst aq; replace h:=FA h; subst h
  have h:some ([]:List a4)=some []:=rfl
  refine aC ?_
  refine aj.own (α:=a4) 155 ?_
  refine bj (eG tJ) ?_
  refine aJ ?_
  refine ah.ret ?_
  refine ad.ret ?_
  refine ad.bU 0 rfl ?_
  replace h:=aG h
  clear h
  exact la (none,0)
 ·refine cJ ?_
  refine aC ?_
  refine aj.o8 (α:=a4) (r:=([]:List a4)) Tryz.underlying156 c0 h1 rfl rfl (.nil) rfl fun gZ=> ?_
  refine aB ?_
  obtain⟨al,bs,h⟩:=aw h
  refine jI 0 Tryz.underlying156 c0 h1 bs fun jZ fA=> ?_
  refine aK ?_
  refine aJ ?_
  refine ah.ret ?_
  refine ad.bU 0 rfl ?_
  obtain rfl:=aG h
  exact la (jZ,fA)
theorem Kr {J:Int} {r:Int × Int} (h:vJ J=some r):bw Tryz.prog 164 [I.of (J)] (I.cN [I.of (r.1),I.of (r.2)]):=by
 unfold vJ at h
 refine bw.of Tryz.func164 rfl Tryz.ntmps164 rfl fun W A=> ?_
 refine aC ?_
 refine aK ?_
 refine aK ?_
 refine bZ ?_
 refine aB ?_
 obtain⟨al,bs,h⟩:=aw h
 refine bj (Ng (ab rfl) (bK 128) (KZ bs)) ?_
 refine aB ?_
 obtain⟨aN,ck,h⟩:=aw h
 refine bj (zE (ab rfl) (bK 128) (yN ck)) ?_
 refine bf ly ?_
 refine aK ?_
 refine aK ?_
 refine aJ ?_
 refine ah.ret ?_
 obtain rfl:=aG h
 exact uH
theorem fZ {J:bt} {ag:Int} {cl:Nat} {r:Int × bt} (h:fE J ag=some r):cy Tryz.prog 32 [I.eq (.pointer (some ⟨cl,0,none⟩)),I.of (ag)] [⟨some cl,.var (J:bt)⟩] (δ:=Unit) (fun d=>I.of (r.1)) (fun d=> [⟨some cl,.var (r.2:bt)⟩]):=by
 unfold fE at h
 refine cy.of Tryz.func32 rfl Tryz.ntmps32 rfl fun W A=> ?_
 refine aC ?_
 refine aK ?_
 refine bG ?_
 refine aC ?_
 refine aB ?_
 obtain⟨al,bs,h⟩:=aw h
 refine aj.lS (hX.call [0] Oc (QI bs) ⟨ab rfl,trivial⟩ rfl ⟨rfl,trivial⟩ rfl) rfl rfl rfl ?_
 refine aY hz ?_
 refine aB ?_
 refine dE c3 ?_
 refine kn eb ?_
 refine qg ?_
 refine aJ ?_
 refine ch h (fun h=>?_) fun h=>?_
 ·refine aC ?_
  refine aK ?_
  refine aJ ?_
  refine ah.ret ?_
  refine ad.ret ?_
  refine ad.bU 0 rfl ?_
  obtain rfl:=aG h
  exact la ()
 ·refine cJ ?_
  refine aC ?_
  refine aB ?_
  refine aY ff ?_
  refine aY (aW y2) ?_
  refine cb 0 xW bE ?_
  refine bf c9 ?_
  refine aY ff ?_
  refine aY (aW y2) ?_
  refine me 0 xW bE ?_
  refine bG ?_
  obtain⟨aZ,cv,h⟩:=aw h
  obtain⟨aN,ck,h⟩:=aw h
  refine ah.draw mixed 14 [some 19,some 20,some 21,some 22,some 23,some 24,some 25,some 26,some 27,some 28,some 29,some 30,some 31,some 32] [[],[0],[1],[2],[],[4],[5],[6],[7],[3,8],[9],[10],[],[11,12]] [.val _,.val _,.val _,.val _,.val _,.val _,.val _,.val _,.val _,.val _,.val _,.val _,.val _,.val _] [false,false,false,false,false,false,false,false,false,false,false,false,false,false] (by kernel_rfl) rfl rfl rfl (fun cV=>⟨cR,H1 ff,H1 (aW F6),dy 0 Cf DL,cR,H1 ff,H1 (aW y2),dy 0 xW bE,kx ly,lI cv Tryz.underlying22 H3,H1 (c2 H3),H1 (Nh Tryz.underlying5 Tryz.underlying3),cR,du fun ay au=>zE (ab rfl) (ab rfl) (yN ck),trivial⟩) fun cV=> ?_
  refine aK ?_
  refine aJ ?_
  refine ah.ret ?_
  refine ad.bU 0 rfl ?_
  obtain rfl:=aG h
  exact la ()
theorem Co {J:a2} {ag:Int} {r:Int} (h:r3 J ag=some r):bw Tryz.prog 82 [I.of (J),I.of (ag)] (I.of (r)):=by
 unfold r3 at h
 refine bw.of Tryz.func82 rfl Tryz.ntmps82 rfl fun W A=> ?_
 refine aC ?_
 refine cf fun aS=> ?_
 refine cf fun a3=> ?_
 refine aK ?_
 refine bZ ?_
 refine aY (aW l2) ?_
 refine cb 1 lX lC ?_
 refine aj.share (α:=Int) 0 3 rfl rfl ?_
 refine bj (wa (F:=(fun fM=>B5 fM ag)) (τs:= [I.ptr ag]) Vf ⟨ab rfl,trivial⟩ (fun _ _ h=>Qs h)) ?_
 obtain⟨al,bs,h⟩:=aw h
 refine dc Vg (PS bs) ?_
 refine aK ?_
 refine aJ ?_
 refine ah.ret ?_
 obtain rfl:=aG h
 exact c8
theorem Fb {J:a2} {ag:Int} {r:Int} (h:ts J ag=some r):bw Tryz.prog 85 [I.of (J),I.of (ag)] (I.of (r)):=by
 unfold ts at h
 refine bw.of Tryz.func85 rfl Tryz.ntmps85 rfl fun W A=> ?_
 refine aC ?_
 refine cf fun aS=> ?_
 refine cf fun a3=> ?_
 refine aK ?_
 refine bZ ?_
 refine aY (aW sv) ?_
 refine cb 1 rY rf ?_
 refine aj.share (α:=Int) 0 3 rfl rfl ?_
 refine bj (wa (F:=(fun fM=>B6 fM ag)) (τs:= [I.ptr ag]) Vh ⟨ab rfl,trivial⟩ (fun _ _ h=>Qt h)) ?_
 obtain⟨al,bs,h⟩:=aw h
 refine dc Vi (PT bs) ?_
 refine aK ?_
 refine aJ ?_
 refine ah.ret ?_
 obtain rfl:=aG h
 exact c8
end Go.Proofs.YtmnggbjcnoffeaaGreat
namespace Go.Proofs.YtmnggbjcnoffeaaGreat
open Go Gv
set_option linter.unusedVariables false
set_option linter.unusedSimpArgs false
set_option maxRecDepth 100000
set_option maxHeartbeats 2000000
theorem QS {J:a2} {ag:Int} {r:dN} (h:yd J ag=some r):bw Tryz.prog 76 [I.of (J),I.of (ag)] (I.of (r)):=by
 unfold yd at h
 refine bw.of Tryz.func76 rfl Tryz.ntmps76 rfl fun W A=> ?_
 refine aC ?_
 refine cf fun aS=> ?_
 refine cx o2 fun a3=> ?_
 refine bG ?_
 refine aC ?_
 refine aY (aW GA) ?_
 refine cb 1 EM DM ?_
 refine aY (eS Tryz.underlying27) ?_
 refine aB ?_
 refine aJ ?_
 refine ah.block ?_
 obtain⟨aA,ao,h⟩:=aw h
 refine gN (γ:=Unit) (δ:=Unit) ao [0,1,2,4,8,9] (fun s1 az=> [(10,I.of (s1))]) (fun s1 az=> []) (fun aF=>Sum.elim (fun aF=>Exit.exit 0) (fun aF=>Exit.ret) aF) (fun aF az=>Sum.elim (fun aF=> [(10,I.of (aF.1)),(11,I.of (aF.2))]) (fun aF=> [(10,I.of (aF.1)),(11,I.of (aF.2.1)),(17,I.of (aF.2.2.1))]) aF) (fun aF az=>Sum.elim (fun aF=> []) (fun aF=> [(0,⟨some a3,.var (aF.2.2.2:dN)⟩)]) aF) () (fun s1 r h az=> ?_) fun az=> ?_
 ·clear ao
  refine aC ?_
  refine bf eb ?_
  refine bG ?_
  refine ch h (fun h=>?_) fun h=>?_
  ·refine cJ ?_
   refine ah.seq ?_
   refine ah.block ?_
   refine aC ?_
   obtain⟨aZ,cv,h⟩:=aw h
   refine gJ cv Tryz.underlying27 nb ?_
   refine aY (c2 nb) ?_
   refine cx o2 fun bH=> ?_
   refine b3 0 nb ?_
   refine bZ ?_
   refine aY (aW LX) ?_
   refine cb 0 r2 bE ?_
   refine aB ?_
   refine bf gf ?_
   refine aJ ?_
   refine ch h (fun h=>?_) fun h=>?_
   ·refine aC ?_
    refine b6 0 nb ?_
    refine b3 1 nb ?_
    refine aJ ?_
    refine ah.ret ?_
    refine ad.dQ ?_
    refine ad.ret ?_
    obtain rfl:=aG h
    exact dU () 1
   ·refine ah.skip ?_
    refine ad.dG ?_
    refine ad.next ?_
    refine ah.cn ?_
    refine bf c9 ?_
    refine aB ?_
    refine aj.nil ?_
    obtain rfl:=aG h
    exact e0 () 1
  ·refine ah.exit ?_
   refine ad.exit ?_
   obtain rfl:=aG h
   exact dU () 0
 ·clear ao
  rcases aA with aA | aA
  ·simp only [Sum.elim_inl] at h
   refine ad.eT ?_
   refine ad.next ?_
   refine aC ?_
   refine gV uf o2 (default:dN) .nil ?_
   refine b3 0 nb ?_
   refine aJ ?_
   refine ah.ret ?_
   obtain rfl:=aG h
   exact ad.hg rfl (eH 0 nb)
  ·simp only [Sum.elim_inr] at h
   refine ad.dQ ?_
   refine ad.ret ?_
   obtain rfl:=aG h
   exact ad.hg rfl (eH 0 nb)
theorem Fh {J:bJ} {r:(Vector ak 4)} (h:tz J=some r):bw Tryz.prog 232 [I.of (J)] (I.of (r)):=by
 unfold tz at h
 refine bw.of Tryz.func232 rfl Tryz.ntmps232 rfl fun W A=> ?_
 refine aC ?_
 refine cf fun aS=> ?_
 refine cx jm fun a3=> ?_
 refine bZ ?_
 refine cx jm fun bH=> ?_
 refine bG ?_
 refine aC ?_
 refine aY (aW k4) ?_
 refine cb 2 ke kI ?_
 refine aY (aW k4) ?_
 refine cb 2 ke kI ?_
 refine aY (eS Tryz.underlying47) ?_
 refine bf wx ?_
 obtain⟨al,bs,h⟩:=aw h
 refine bj (F5 Tryz.underlying47 gG (ab rfl) .none (.some (ab rfl)) bs) ?_
 refine aY (eS Tryz.underlying47) ?_
 refine aB ?_
 refine aJ ?_
 refine ah.block ?_
 obtain⟨aA,ao,h⟩:=aw h
 refine gN (γ:=Unit) (δ:=Unit) ao [0,1,2,3,12,13] (fun s1 az=> [(14,I.of (s1.1))]) (fun s1 az=> [(0,⟨some bH,.var (s1.2:Vector ak 4)⟩)]) (fun aF=>Exit.exit 0) (fun aF az=> [(14,I.of (aF.1)),(15,I.of (aF.2.1))]) (fun aF az=> [(0,⟨some bH,.var (aF.2.2:Vector ak 4)⟩)]) () (fun s1 r h az=> ?_) fun az=> ?_
 ·clear ao
  refine aC ?_
  refine bf eb ?_
  refine bG ?_
  refine ch h (fun h=>?_) fun h=>?_
  ·refine cJ ?_
   refine ah.seq ?_
   refine ah.block ?_
   refine aC ?_
   refine aB ?_
   obtain⟨aZ,cv,h⟩:=aw h
   refine gJ cv Tryz.underlying47 gG ?_
   refine aY (c2 gG) ?_
   refine cx l9 fun cA=> ?_
   refine aK ?_
   refine b3 0 gG ?_
   refine aJ ?_
   refine ah.cn ?_
   refine aB ?_
   refine aY (aW pS) ?_
   refine cb 0 lY bN ?_
   obtain⟨b0,de,h⟩:=aw h
   refine bj (ee (k:=b0) fD (ab rfl) (ab rfl) (cc de)) ?_
   refine me 1 ((aL.id (Vector ak 4)).comp (aL.idx (α:=ak) 4 b0 (cc de).1)) bN ?_
   refine aj.nil ?_
   refine ad.dG ?_
   refine ad.next ?_
   refine ah.cn ?_
   refine bf c9 ?_
   refine aB ?_
   refine aj.nil ?_
   obtain rfl:=aG h
   exact e0 () 1
  ·refine ah.exit ?_
   refine ad.exit ?_
   obtain rfl:=aG h
   exact dU () 0
 ·clear ao
  refine ad.eT ?_
  refine ad.next ?_
  refine aC ?_
  refine b6 0 dv ?_
  refine b3 1 dv ?_
  refine aJ ?_
  refine ah.ret ?_
  obtain rfl:=aG h
  exact ad.hg rfl (eH 1 dv)
theorem J4 {hp:a9 Cell} {J:Ref} {ag:Vector ak 4} {r:Int × Bool} (h:vv hp J ag=some r):cy Tryz.prog 231 [I.of (J),I.of (ag)] ([] ++ ba hp) (δ:=Unit) (fun _=>I.cN [I.of (r.1),I.of (r.2)]) (fun _=> [] ++ ba hp):=by
 unfold vv at h
 refine cy.of Tryz.func231 rfl Tryz.ntmps231 rfl fun W A=> ?_
 refine aC ?_
 refine cf fun aS=> ?_
 refine aK ?_
 refine aK ?_
 refine bG ?_
 refine aC ?_
 refine aB ?_
 refine bj (oV Tryz.underlying163 (ab rfl)) ?_
 refine aJ ?_
 refine ch h (fun h=>?_) fun h=>?_
 ·refine aC ?_
  refine aK ?_
  refine aK ?_
  refine aJ ?_
  refine ah.ret ?_
  refine ad.ret ?_
  obtain rfl:=aG h
  exact ad.k5 () (.cons _ (.refl _)) rfl rfl (eD rfl) (eD rfl)
 ·refine cJ ?_
  refine ah.seq ?_
  obtain⟨dg,e7,h⟩:=aw h
  obtain⟨cF,fT,h⟩:=aw h
  obtain⟨cK,gi,h⟩:=aw h
  obtain⟨da,ho,h⟩:=aw h
  obtain⟨bl,di,h⟩:=aw h
  refine ah.draw mixed 10 [some 11,some 12,some 13,some 14,some 15,some 16,some 10,some 17,some 18,some 6] [[],[0],[1],[2],[],[3,4],[5],[6],[6],[7]] [.val _,.val _,.val _,.val _,.val _,.val _,.val _,.val _,.val _,.val _] [false,false,false,false,false,false,false,false,false,false] (by kernel_rfl) rfl rfl rfl (fun cV=>⟨cR,du fun ay au=>ff (fQ (ab rfl) e7),H1 (aW F8),du fun ay au=>h0 ((aL.id m0).comp B1) (r:=cF.o1) Di (ab rfl) (nj (fun i e q=>au i e q rfl) (gU (n:=1) rfl (wb fT) rfl)) rfl rfl,e1 0 dv,du fun ay au=>FR (r:=bl) Tryz.underlying222 GZ hI (oT (ab rfl) gi) (ab rfl) (nj (fun i e q=>au i e q rfl) (gU (n:=1) rfl (tX ho) rfl)) (aG di),cR,sU,sU,u6,trivial⟩) fun cV=> ?_
  refine aK ?_
  refine bZ ?_
  refine aB ?_
  refine aB ?_
  refine aK ?_
  refine aK ?_
  refine aJ ?_
  refine ah.ret ?_
  obtain rfl:=aG h
  exact ad.k5 () (.cons _ (.refl _)) rfl rfl (eD rfl) (eD rfl)
theorem JS {J:et} {ag:Vector ak 4} {r:(Vector ak 4) × ak} (h:vm J ag=some r):bw Tryz.prog 241 [I.of (J),I.of (ag)] (I.cN [I.of (r.1),I.of (r.2)]):=by
 unfold vm at h
 refine bw.of Tryz.func241 rfl Tryz.ntmps241 rfl fun W A=> ?_
 refine aC ?_
 refine cf fun aS=> ?_
 refine cf fun a3=> ?_
 refine cx wz fun bH=> ?_
 refine cx dP fun cA=> ?_
 refine bZ ?_
 refine aY (aW CT) ?_
 refine cb 3 xF bE ?_
 obtain⟨aZ,cv,h⟩:=aw h
 refine bj (ee (k:=aZ) fD (ab rfl) (ab rfl) (cc cv)) ?_
 refine cb 2 ((aL.id (Vector ak 4)).comp (aL.idx (α:=ak) 4 aZ (cc cv).1)) bN ?_
 refine cx dP fun hD=> ?_
 refine b3 0 bN ?_
 refine bZ ?_
 refine aY (aW CT) ?_
 refine cb 4 xF bE ?_
 refine gV gT dP (default:ak) .nil ?_
 obtain⟨b0,de,h⟩:=aw h
 refine bj (ee (k:=b0) fD (ab rfl) (ab rfl) (cc de)) ?_
 refine me 3 ((aL.id (Vector ak 4)).comp (aL.idx (α:=ak) 4 b0 (cc de).1)) bN ?_
 refine bG ?_
 refine ah.draw mixed 3 [some 15,some 16,none] [[],[],[0]] [.val _,.val _,.j3 2 (.var ((cW ag b0 (default:ak)):Vector ak 4))] [false,false,true] (by kernel_rfl) rfl rfl rfl (fun cV=>⟨e1 3 dv,e1 0 bN,⟨_,_,rfl,fun ay au=>qU (i:=2) (aL.id (Vector ak 4)) (v:=((cW ag b0 (default:ak)):Vector ak 4)) (b':=((cW ag b0 (default:ak)):Vector ak 4)) h7 (ab rfl) (ab rfl) (au _ _ rfl) rfl rfl⟩,trivial⟩) fun cV=> ?_
 refine b3 1 bN ?_
 refine aJ ?_
 refine ah.ret ?_
 obtain rfl:=aG h
 exact ad.p7 rfl (eH 2 h7) (eH 1 bN)
theorem Ke {J:Int} {r:Int} (h:vG J=some r):bw Tryz.prog 205 [I.of (J)] (I.of (r)):=by
 unfold vG at h
 refine bw.of Tryz.func205 rfl Tryz.ntmps205 rfl fun W A=> ?_
 refine aC ?_
 refine aK ?_
 refine bZ ?_
 refine aB ?_
 refine bf Dg ?_
 refine bf wx ?_
 refine aK ?_
 refine aJ ?_
 refine ah.ret ?_
 obtain rfl:=aG h
 exact c8
theorem Kk {J:ak} {ag:Int} {r:ak} (h:vI J ag=some r):bw Tryz.prog 204 [I.of (J),I.of (ag)] (I.of (r)):=by
 unfold vI at h
 refine bw.of Tryz.func204 rfl Tryz.ntmps204 rfl fun W A=> ?_
 refine aC ?_
 refine cf fun aS=> ?_
 refine cx dP fun a3=> ?_
 refine bG ?_
 refine ah.block ?_
 refine aC ?_
 refine aB ?_
 refine bf q1 ?_
 refine aK ?_
 refine aJ ?_
 refine ch h (fun h=>?_) fun h=>?_
 ·refine aC ?_
  refine b6 1 bN ?_
  refine b3 0 bN ?_
  refine aJ ?_
  refine ah.ret ?_
  refine ad.dQ ?_
  refine ad.ret ?_
  obtain rfl:=aG h
  exact ad.hg rfl (eH 0 bN)
 ·refine aC ?_
  refine aB ?_
  refine bf jU ?_
  refine aK ?_
  refine aJ ?_
  refine ch h (fun h=>?_) fun h=>?_
  ·refine aC ?_
   refine aY (aW jC) ?_
   refine cb 1 g8 en ?_
   refine aB ?_
   refine bf ly ?_
   refine aY (iB Tryz.underlying3 Tryz.underlying130) ?_
   refine bf sm ?_
   obtain⟨bl,di,h⟩:=aw h
   refine dj di (cU (b:=({ (default:ak) with bO:=J.c6 >>> (BitVec.ofInt 64 (bz (ag - 64))).toNat } :ak)) rfl gT dP (.cons dT rfl (ab rfl) rfl (.nil))) ?_
   refine b3 0 bN ?_
   refine aJ ?_
   refine ah.ret ?_
   refine ad.dQ ?_
   refine ad.ret ?_
   obtain rfl:=aG h
   exact ad.hg rfl (eH 0 bN)
  ·refine ah.skip ?_
   refine ad.dG ?_
   refine ad.next ?_
   refine aC ?_
   refine aY (aW jC) ?_
   refine cb 1 g8 en ?_
   refine aB ?_
   refine aY (iB Tryz.underlying3 Tryz.underlying130) ?_
   refine bf sm ?_
   refine aY (aW hO) ?_
   refine cb 1 dT en ?_
   refine aB ?_
   refine aY (iB Tryz.underlying3 Tryz.underlying130) ?_
   refine bf sm ?_
   refine aY (aW jC) ?_
   refine cb 1 g8 en ?_
   refine aB ?_
   refine bf ly ?_
   refine aY (iB Tryz.underlying3 Tryz.underlying130) ?_
   refine bf m6 ?_
   obtain⟨dm,hn,h⟩:=aw h
   refine dj hn (pT (ab rfl) (ab rfl)) ?_
   obtain⟨eX,iL,h⟩:=aw h
   refine dj iL (cU (b:= { c6:=J.c6 >>> (BitVec.ofInt 64 ag).toNat,bO:=dm:ak }) rfl gT dP (.cons g8 rfl (ab rfl) rfl (.cons dT rfl (ab rfl) rfl (.nil)))) ?_
   refine b3 0 bN ?_
   refine aJ ?_
   refine ah.ret ?_
   obtain rfl:=aG h
   exact ad.hg rfl (eH 0 bN)
end Go.Proofs.YtmnggbjcnoffeaaGreat
namespace Go.Proofs.YtmnggbjcnoffeaaGreat
open Go Gv
set_option linter.unusedVariables false
set_option linter.unusedSimpArgs false
set_option maxRecDepth 100000
set_option maxHeartbeats 2000000
theorem vQ {hp:a9 Cell} {J:Int} {Q:Ref × (a9 Cell)→Prop} (h:Cz hp J Q):cy Tryz.prog 243 [I.of (J)] ([] ++ ba hp) (δ:= {r:Ref × (a9 Cell) // Q r} × Unit) (fun d=>I.of (d.1.1.1)) (fun d=> [] ++ ba d.1.1.2):=by
 unfold Cz at h
 refine cy.of Tryz.func243 rfl Tryz.ntmps243 rfl fun W A=> ?_
 refine aC ?_
 refine bj (eG (r8)) ?_
 refine bZ ?_
 refine aB ?_
 refine bf Dg ?_
 refine bf wx ?_
 obtain⟨bl,di,h⟩:=aM.dd h
 refine dj di (cU (b:=({ (default:ga) with eR:=min (max 1 J) 128 } :ga)) rfl Vj Vk (.cons tn rfl (ab rfl) rfl (.nil))) ?_
 refine aj.Ad 0 rfl (Cell.j0 bl) (fun _=>rfl) (ab rfl) rfl fun dY uI=> ?_
 replace h:=aM.sj h dY uI
 refine aK ?_
 refine aJ ?_
 refine ah.ret ?_
 exact ad.hj (⟨⟨((some dY.1:Ref),dY.2),h⟩,()⟩: {r // _} × _) (.refl _) rfl rfl (eD rfl)
theorem P2 {J:aI} {ag:Int} {r:Bool} (h:BU J ag=some r):bw Tryz.prog 279 [I.of (J),I.ptr ag] (I.of (r)):=by
 unfold BU at h
 refine bw.of Tryz.func279 rfl Tryz.ntmps279 rfl fun W A=> ?_
 refine aC ?_
 refine cf fun aS=> ?_
 refine aK ?_
 refine bZ ?_
 refine aY (aW lu) ?_
 refine cb 0 kd bE ?_
 refine aY (c2 bE) ?_
 refine bf gf ?_
 refine aK ?_
 refine aJ ?_
 refine ah.ret ?_
 obtain rfl:=aG h
 exact c8
theorem JK {J:List aI} {ag:aI→Option Bool} {r:Int} (h:vf J ag=some r):bw Tryz.prog 110 [I.of (J),I.pe Tryz.prog ag] (I.of (r)):=by
 unfold vf at h
 refine bw.of Tryz.func110 rfl Tryz.ntmps110 rfl fun W A=> ?_
 refine aC ?_
 refine aK ?_
 refine bG ?_
 refine aC ?_
 refine aB ?_
 refine aY (eS Tryz.underlying38) ?_
 refine aB ?_
 refine aJ ?_
 refine ah.block ?_
 obtain⟨aA,ao,h⟩:=aw h
 refine gN (γ:=Unit) (δ:=Unit) ao [0,1,7] (fun s1 az=> [(4,I.of (0:Int)),(8,I.of (s1))]) (fun s1 az=> []) (fun aF=>Sum.elim (fun aF=>Exit.exit 0) (fun aF=>Exit.ret) aF) (fun aF az=>Sum.elim (fun aF=> [(4,I.of (0:Int)),(8,I.of (aF.1)),(9,I.of (aF.2))]) (fun aF=> [(4,I.of (aF.1)),(5,I.of (aF.2.1)),(8,I.of (aF.2.2.1)),(9,I.of (aF.2.2.2.1)),(16,I.of (aF.2.2.2.2))]) aF) (fun aF az=>Sum.elim (fun aF=> []) (fun aF=> []) aF) () (fun s1 r h az=> ?_) fun az=> ?_
 ·clear ao
  refine aC ?_
  refine bf eb ?_
  refine bG ?_
  refine ch h (fun h=>?_) fun h=>?_
  ·refine cJ ?_
   refine ah.seq ?_
   refine ah.block ?_
   refine aC ?_
   refine aB ?_
   refine aK ?_
   refine bZ ?_
   refine aB ?_
   refine aB ?_
   refine aB ?_
   obtain⟨aZ,cv,h⟩:=aw h
   refine gJ cv Tryz.underlying38 cY ?_
   refine aY (c2 cY) ?_
   obtain⟨al,bs,h⟩:=aw h
   refine bj (vV (ab rfl) (ab rfl) bs) ?_
   refine aJ ?_
   refine ch h (fun h=>?_) fun h=>?_
   ·refine aC ?_
    refine aB ?_
    refine aK ?_
    refine aJ ?_
    refine ah.ret ?_
    refine ad.dQ ?_
    refine ad.ret ?_
    obtain rfl:=aG h
    exact dU () 0
   ·refine ah.skip ?_
    refine ad.dG ?_
    refine ad.next ?_
    refine ah.cn ?_
    refine bf c9 ?_
    refine aB ?_
    refine aj.nil ?_
    obtain rfl:=aG h
    exact e0 () 0
  ·refine ah.exit ?_
   refine ad.exit ?_
   obtain rfl:=aG h
   exact dU () 0
 ·clear ao
  rcases aA with aA | aA
  ·simp only [Sum.elim_inl] at h
   refine ad.eT ?_
   refine ad.next ?_
   refine aC ?_
   refine aK ?_
   refine aJ ?_
   refine ah.ret ?_
   obtain rfl:=aG h
   exact c8
  ·simp only [Sum.elim_inr] at h
   refine ad.dQ ?_
   refine ad.ret ?_
   obtain rfl:=aG h
   exact c8
theorem PL {J:List aI} {ag:aI} {aT:aI→aI→Option Int} {r:Int × Bool} (h:xx J ag aT=some r):bw Tryz.prog 274 [I.of (J),I.of (ag),I.w7 Tryz.prog aT] (I.cN [I.of (r.1),I.of (r.2)]):=by
 unfold xx at h
 refine bw.of Tryz.func274 rfl Tryz.ntmps274 rfl fun W A=> ?_
 refine aC ?_
 refine cf fun aS=> ?_
 refine aK ?_
 refine aK ?_
 refine bZ ?_
 refine aB ?_
 refine aY (eS Tryz.underlying38) ?_
 refine aK ?_
 refine bZ ?_
 refine aB ?_
 refine aK ?_
 refine aK ?_
 refine bG ?_
 refine ah.block ?_
 obtain⟨aA,ao,h⟩:=aw h
 refine gN (γ:=Unit) (δ:=Unit) ao [0,1,2,4,6,7,8] (fun s1 az=> [(9,I.of (s1.1)),(10,I.of (s1.2))]) (fun s1 az=> []) (fun aF=>Exit.exit 0) (fun aF az=> [(9,I.of (aF.1)),(10,I.of (aF.2.1)),(17,I.of (aF.2.2))]) (fun aF az=> []) () (fun s1 r h az=> ?_) fun az=> ?_
 ·clear ao
  refine ah.seq ?_
  refine aC ?_
  refine aB ?_
  refine aB ?_
  refine bf eb ?_
  refine aJ ?_
  refine ch h (fun h=>?_) fun h=>?_
  ·refine cJ ?_
   refine ah.block ?_
   refine aC ?_
   refine aB ?_
   refine aB ?_
   refine bf c9 ?_
   refine aY (iB Tryz.underlying3 Tryz.underlying130) ?_
   refine bj (sm (ab rfl) (gb 1 rfl)) ?_
   refine aY (Uw Tryz.underlying130 Tryz.underlying3) ?_
   refine aK ?_
   refine bG ?_
   obtain⟨aZ,cv,h⟩:=aw h
   obtain⟨al,bs,h⟩:=aw h
   refine ah.draw mixed 8 [some 24,some 25,some 26,some 27,some 28,some 29,some 30,some 31] [[],[],[],[1,2],[3],[],[0,4,5],[6]] [.val _,.val _,.val _,.val _,.val _,.val _,.val _,.val _] [false,false,false,false,false,false,false,false] (by kernel_rfl) rfl rfl rfl (fun cV=>⟨cR,cR,cR,lI cv Tryz.underlying38 cY,H1 (c2 cY),e1 0 cY,du fun ay au=>FQ (ab rfl) (ab rfl) (ab rfl) bs,kx eb,trivial⟩) fun cV=> ?_
   refine aJ ?_
   obtain⟨bM,cG,h⟩:=aw h
   refine iq (γ:=Unit) [0,1,2,4,6,7,8,11,17,31] (fun a5=> [(9,I.of (bM.1)),(10,I.of (bM.2))]) (fun a5=> []) (fun a5=> ?_) (fun hm ar=> ?_) fun hm ar=> ?_
   ·clear cG
    refine ad.dG ?_
    obtain rfl:=aG h
    exact e0 () 0
   ·have h:=gQ ar cG
    refine ah.cn ?_
    refine aB ?_
    obtain⟨bl,di,h⟩:=aw h
    refine dj di (c9 (ab rfl) (bK 1)) ?_
    refine aK ?_
    refine aj.nil ?_
    obtain rfl:=aG h
    exact dt 0 (hm ())
   ·have h:=gR ar cG
    refine ah.cn ?_
    refine aB ?_
    refine aK ?_
    refine aj.nil ?_
    obtain rfl:=aG h
    exact dt 0 (hm ())
  ·refine ah.exit ?_
   refine ad.exit ?_
   obtain rfl:=aG h
   exact dU () 0
 ·clear ao
  refine ad.eT ?_
  refine ad.next ?_
  refine ah.seq ?_
  refine jq [0,1,2,4,7,8,9,10,17] ?_
  obtain⟨b0,de,h⟩:=aw h
  obtain⟨aN,ck,h⟩:=aw h
  refine ah.draw mixed 15 [some 35,some 36,some 37,some 38,some 39,some 40,some 41,some 42,some 43,some 44,some 45,some 46,some 47,some 48,some 6] [[],[],[],[1,2],[3],[4],[4],[4],[4,6,7],[4,8],[4],[4,5,9,10],[4,11],[4,12],[0]] [.val _,.val _,.val _,.val _,.val _,.val _,.val _,.val _,.val _,.val _,.val _,.val _,.val _,.val _,.val _] [false,false,false,false,false,false,false,false,false,false,false,false,false,false,false] (by kernel_rfl) rfl rfl rfl (fun hB=>⟨cR,cR,cR,kx eb,cR,fa fun ay au=>fun hb=>c3 (ab rfl),fa fun ay au=>fun hb=>c3 (ab rfl),fa fun ay au=>fun hb=>c3 (ab rfl),fa fun ay au=>fun hb=>o3 (k:=b0) Tryz.underlying38 cY (ct rfl hb) (ct rfl hb) (cc (ha de hb)),fa fun ay au=>fun hb=>c2 cY (ct rfl hb),fa fun ay au=>fun hb=>fj (i:=0) (aL.id aI) (r:=ag) cY (ab rfl) (au _ _ rfl rfl) rfl rfl,fa fun ay au=>fun hb=>FQ (ct rfl hb) (ct rfl hb) (ct rfl hb) (ha ck hb),fa fun ay au=>fun hb=>gf (ct rfl hb) (bK 0),du fun ay au=>pX (ab rfl) (ab rfl) (fun h=>h),u6,trivial⟩) fun hB=> ?_
  refine aK ?_
  refine aJ ?_
  refine ah.ret ?_
  obtain rfl:=aG h
  exact uH
theorem Kb {J:Int} {r:Bool} (h:yh J=some r):bw Tryz.prog 126 [I.of (J)] (I.of (r)):=by
 unfold yh at h
 refine bw.of Tryz.func126 rfl Tryz.ntmps126 rfl fun W A=> ?_
 refine aC ?_
 refine aK ?_
 refine bZ ?_
 refine aB ?_
 refine aB ?_
 refine bf sD ?_
 refine aK ?_
 refine aJ ?_
 refine ah.ret ?_
 obtain rfl:=aG h
 exact c8
theorem JN {J:List cE} {ag:cE→Option Bool} {r:Int} (h:vi J ag=some r):bw Tryz.prog 146 [I.of (J),I.pe Tryz.prog ag] (I.of (r)):=by
 unfold vi at h
 refine bw.of Tryz.func146 rfl Tryz.ntmps146 rfl fun W A=> ?_
 refine aC ?_
 refine aK ?_
 refine bG ?_
 refine aC ?_
 refine aB ?_
 refine aY (eS Tryz.underlying62) ?_
 refine aB ?_
 refine aJ ?_
 refine ah.block ?_
 obtain⟨aA,ao,h⟩:=aw h
 refine gN (γ:=Unit) (δ:=Unit) ao [0,1,7] (fun s1 az=> [(4,I.of (0:Int)),(8,I.of (s1))]) (fun s1 az=> []) (fun aF=>Sum.elim (fun aF=>Exit.exit 0) (fun aF=>Exit.ret) aF) (fun aF az=>Sum.elim (fun aF=> [(4,I.of (0:Int)),(8,I.of (aF.1)),(9,I.of (aF.2))]) (fun aF=> [(4,I.of (aF.1)),(5,I.of (aF.2.1)),(8,I.of (aF.2.2.1)),(9,I.of (aF.2.2.2.1)),(16,I.of (aF.2.2.2.2))]) aF) (fun aF az=>Sum.elim (fun aF=> []) (fun aF=> []) aF) () (fun s1 r h az=> ?_) fun az=> ?_
 ·clear ao
  refine aC ?_
  refine bf eb ?_
  refine bG ?_
  refine ch h (fun h=>?_) fun h=>?_
  ·refine cJ ?_
   refine ah.seq ?_
   refine ah.block ?_
   refine aC ?_
   refine aB ?_
   refine aK ?_
   refine bZ ?_
   refine aB ?_
   refine aB ?_
   refine aB ?_
   obtain⟨aZ,cv,h⟩:=aw h
   refine gJ cv Tryz.underlying62 h8 ?_
   refine aY (c2 h8) ?_
   obtain⟨al,bs,h⟩:=aw h
   refine bj (vV (ab rfl) (ab rfl) bs) ?_
   refine aJ ?_
   refine ch h (fun h=>?_) fun h=>?_
   ·refine aC ?_
    refine aB ?_
    refine aK ?_
    refine aJ ?_
    refine ah.ret ?_
    refine ad.dQ ?_
    refine ad.ret ?_
    obtain rfl:=aG h
    exact dU () 0
   ·refine ah.skip ?_
    refine ad.dG ?_
    refine ad.next ?_
    refine ah.cn ?_
    refine bf c9 ?_
    refine aB ?_
    refine aj.nil ?_
    obtain rfl:=aG h
    exact e0 () 0
  ·refine ah.exit ?_
   refine ad.exit ?_
   obtain rfl:=aG h
   exact dU () 0
 ·clear ao
  rcases aA with aA | aA
  ·simp only [Sum.elim_inl] at h
   refine ad.eT ?_
   refine ad.next ?_
   refine aC ?_
   refine aK ?_
   refine aJ ?_
   refine ah.ret ?_
   obtain rfl:=aG h
   exact c8
  ·simp only [Sum.elim_inr] at h
   refine ad.dQ ?_
   refine ad.ret ?_
   obtain rfl:=aG h
   exact c8
theorem QJ {J:cE} {r:Bool} (h:E4 J=some r):bw Tryz.prog 207 [I.of (J)] (I.of (r)):=by
 unfold E4 at h
 refine bw.of Tryz.func207 rfl Tryz.ntmps207 rfl fun W A=> ?_
 refine aC ?_
 refine cf fun aS=> ?_
 refine aK ?_
 refine bZ ?_
 refine aY (aW qT) ?_
 refine cb 0 k2 bE ?_
 refine bf gf ?_
 refine aK ?_
 refine aJ ?_
 refine ah.ret ?_
 obtain rfl:=aG h
 exact c8
end Go.Proofs.YtmnggbjcnoffeaaGreat
namespace Go.Proofs.YtmnggbjcnoffeaaGreat
open Go Gv
set_option linter.unusedVariables false
set_option linter.unusedSimpArgs false
set_option maxRecDepth 100000
set_option maxHeartbeats 2000000
theorem J5 {J:BitVec 64} {r:Int} (h:vw J=some r):bw Tryz.prog 185 [I.of (J)] (I.of (r)):=by
 unfold vw at h
 refine bw.of Tryz.func185 rfl Tryz.ntmps185 rfl fun W A=> ?_
 refine aC ?_
 refine aK ?_
 refine bG ?_
 refine aC ?_
 refine aB ?_
 refine bj (F9 (ab rfl) (gb 4294967296 rfl)) ?_
 refine aJ ?_
 obtain⟨bM,cG,h⟩:=aw h
 refine iq (γ:=Unit) [4] (fun az=> [(0,I.of (bM.1)),(2,I.of (bM.2))]) (fun az=> []) (fun az=> ?_) (fun hm ar=> ?_) fun hm ar=> ?_
 ·clear cG
  refine ad.next ?_
  refine ah.seq ?_
  refine aC ?_
  refine aB ?_
  refine bj (F9 (ab rfl) (gb 65536 rfl)) ?_
  refine aJ ?_
  obtain⟨cI,dJ,h⟩:=aw h
  refine iq (γ:=Unit) [4,8] (fun a5=> [(0,I.of (cI.1)),(2,I.of (cI.2))]) (fun a5=> []) (fun a5=> ?_) (fun hm ar=> ?_) fun hm ar=> ?_
  ·clear dJ
   refine ad.next ?_
   refine ah.seq ?_
   refine aC ?_
   refine aB ?_
   refine bj (F9 (ab rfl) (gb 256 rfl)) ?_
   refine aJ ?_
   obtain⟨fb,gx,h⟩:=aw h
   refine iq (γ:=Unit) [4,8,14] (fun bu=> [(0,I.of (fb.1)),(2,I.of (fb.2))]) (fun bu=> []) (fun bu=> ?_) (fun hm ar=> ?_) fun hm ar=> ?_
   ·clear gx
    refine ad.next ?_
    refine aC ?_
    refine aB ?_
    refine aB ?_
    refine aY (TI Tryz.underlying41 Tryz.underlying5) ?_
    obtain⟨al,bs,h⟩:=aw h
    refine bj (TJ Tryz.underlying9 (dC (ByteArray.mk (List.toArray (List.append (List.append [0,1,2,2,3,3,3,3,4,4,4,4,4,4,4,4,5,5,5,5,5,5,5,5,5,5,5,5,5,5,5,5,6,6,6,6,6,6,6,6,6,6,6,6,6,6,6,6,6,6,6,6,6,6,6,6,6,6,6,6,6,6,6,6] [7,7,7,7,7,7,7,7,7,7,7,7,7,7,7,7,7,7,7,7,7,7,7,7,7,7,7,7,7,7,7,7,7,7,7,7,7,7,7,7,7,7,7,7,7,7,7,7,7,7,7,7,7,7,7,7,7,7,7,7,7,7,7,7]) (List.append [8,8,8,8,8,8,8,8,8,8,8,8,8,8,8,8,8,8,8,8,8,8,8,8,8,8,8,8,8,8,8,8,8,8,8,8,8,8,8,8,8,8,8,8,8,8,8,8,8,8,8,8,8,8,8,8,8,8,8,8,8,8,8,8] [8,8,8,8,8,8,8,8,8,8,8,8,8,8,8,8,8,8,8,8,8,8,8,8,8,8,8,8,8,8,8,8,8,8,8,8,8,8,8,8,8,8,8,8,8,8,8,8,8,8,8,8,8,8,8,8,8,8,8,8,8,8,8,8]))))) (ab rfl) bs) ?_
    refine aY (Nh Tryz.underlying5 Tryz.underlying3) ?_
    refine bf c9 ?_
    refine aK ?_
    refine aJ ?_
    refine ah.ret ?_
    obtain rfl:=aG h
    exact c8
   ·have h:=gQ ar gx
    refine aC ?_
    refine aB ?_
    refine bj (sm (ab rfl) (gb 8 rfl)) ?_
    refine aK ?_
    refine aJ ?_
    refine ah.cn ?_
    refine aB ?_
    refine bf c9 ?_
    refine aK ?_
    refine aj.nil ?_
    obtain rfl:=aG h
    exact dt 0 (hm ())
   ·have h:=gR ar gx
    refine ah.skip ?_
    obtain rfl:=aG h
    exact dt 0 (hm ())
  ·have h:=gQ ar dJ
   refine aC ?_
   refine aB ?_
   refine bj (sm (ab rfl) (gb 16 rfl)) ?_
   refine aK ?_
   refine aJ ?_
   refine ah.cn ?_
   refine aB ?_
   refine bf c9 ?_
   refine aK ?_
   refine aj.nil ?_
   obtain rfl:=aG h
   exact dt 0 (hm ())
  ·have h:=gR ar dJ
   refine ah.skip ?_
   obtain rfl:=aG h
   exact dt 0 (hm ())
 ·have h:=gQ ar cG
  refine aC ?_
  refine aB ?_
  refine bj (sm (ab rfl) (gb 32 rfl)) ?_
  refine aK ?_
  refine aJ ?_
  refine ah.cn ?_
  refine aK ?_
  refine aj.nil ?_
  obtain rfl:=aG h
  exact dt 0 (hm ())
 ·have h:=gR ar cG
  refine ah.skip ?_
  obtain rfl:=aG h
  exact dt 0 (hm ())
theorem JO {hp:a9 Cell} {J:Ref} {ag:Int} {aT:Int} {cB:Int} {EF:Bool} {cl:Nat} {hT:Nat} {uJ:Nat} {uK:Nat} {uL:Nat} {r:Int × Int × Bool} (h:tk hp J ag aT cB EF=some r):cy Tryz.prog 249 [I.eq (.pointer (some ⟨cl,0,none⟩)),I.eq (.pointer (some ⟨hT,0,none⟩)),I.eq (.pointer (some ⟨uJ,0,none⟩)),I.eq (.pointer (some ⟨uK,0,none⟩)),I.eq (.pointer (some ⟨uL,0,none⟩))] ([⟨some cl,.var (J:Ref)⟩,⟨some hT,.var (ag:Int)⟩,⟨some uJ,.var (aT:Int)⟩,⟨some uK,.var (cB:Int)⟩,⟨some uL,.var (EF:Bool)⟩] ++ ba hp) (δ:=Unit) (fun _=>I.cN []) (fun _=> [⟨some cl,.var (J:Ref)⟩,⟨some hT,.var (ag:Int)⟩,⟨some uJ,.var (r.1:Int)⟩,⟨some uK,.var (r.2.1:Int)⟩,⟨some uL,.var (r.2.2:Bool)⟩] ++ ba hp):=by
 unfold tk at h
 refine cy.of Tryz.func249 rfl Tryz.ntmps249 rfl fun W A=> ?_
 refine aC ?_
 refine b6 0 fq ?_
 refine bj (FB Tryz.underlying331 (ab rfl)) ?_
 refine aB ?_
 refine eW (fun hb=>fj (i:=0) (aL.id Ref) (r:=J) fq (ab rfl) rfl rfl rfl) ?_
 obtain⟨dg,e7,h⟩:=aw h
 refine eW (fun hb=>ff (fQ (ct rfl hb) (ha e7 hb))) ?_
 refine dE (aW tO) ?_
 obtain⟨cF,fT,h⟩:=aw h
 refine eW (fun hb=>h0 ((aL.id eJ).comp tp) (r:=cF.fp) ir (ct rfl hb) (gU (n:=5) rfl (l3 (ha fT hb)) rfl) rfl rfl) ?_
 refine ja ?_
 refine aJ ?_
 obtain⟨bM,cG,h⟩:=aw h
 refine ah.c4 (γ:=Unit) (fun az=> [(0,I.eq (.pointer (some ⟨cl,0,none⟩))),(1,I.eq (.pointer (some ⟨hT,0,none⟩))),(2,I.eq (.pointer (some ⟨uJ,0,none⟩))),(3,I.eq (.pointer (some ⟨uK,0,none⟩))),(4,I.eq (.pointer (some ⟨uL,0,none⟩))),(12,I.of (J.isSome && cF.fp))]) (fun az=>(⟨some cl,.var (J:Ref)⟩ :: ⟨some hT,.var (ag:Int)⟩ :: ⟨some uJ,.var (bM.1:Int)⟩ :: ⟨some uK,.var (bM.2.1:Int)⟩ :: ⟨some uL,.var (bM.2.2:Bool)⟩ :: ba hp)) (ab rfl) (fun az=> ?_) (fun hm ar=> ?_) (fun hm ar=> ?_)
 ·clear cG
  refine ad.sM ?_
  refine ad.bU 4 rfl ?_
  refine ad.bU 4 rfl ?_
  refine ad.bU 4 rfl ?_
  refine ad.bU 4 rfl ?_
  refine ad.bU 4 rfl ?_
  obtain rfl:=aG h
  exact ad.ox () (.cons_cons _ (.cons_cons _ (.cons_cons _ (.cons_cons _ (.cons_cons _ (.refl _)))))) rfl rfl
 ·have h:=gQ ar cG
  obtain⟨cK,gi,h⟩:=aw h
  obtain⟨da,ho,h⟩:=aw h
  refine jq [0,1,2,3,4,5,6,7,8,9,10,11,12] ?_
  refine ah.sE 5 mixed (bh 13 [] (1 :: []) _ :: bh 14 [] (0 :: []) _ :: bh 15 (1 :: []) [] _ :: bh 16 (2 :: []) [] _ :: ⟨some 17,(3 :: []),[],[],fun _=>I.of (da.j1),fun _ _=>⟨none,.dead⟩⟩ :: ⟨none,(0 :: []),(2 :: []),(2 :: []),fun _=>I.any,fun hd _=>⟨some uJ,.var (ag:Int)⟩⟩ :: ⟨none,(4 :: []),(3 :: []),(3 :: []),fun _=>I.any,fun hd _=>⟨some uK,.var (da.j1:Int)⟩⟩ :: ⟨none,[],(4 :: []),(4 :: []),fun _=>I.any,fun hd _=>⟨some uL,.var (true:Bool)⟩⟩ :: []) _ (0 :: 1 :: 2 :: 3 :: 4 :: 5 :: 6 :: 7 :: 8 :: 9 :: 10 :: 11 :: 12 :: []) rfl rfl (by kernel_rfl) (by kernel_rfl) ⟨df.q (lJ 1 bE),df.q (lJ 0 fq),df.q (cP fun hd E' ay aH au=>ff (fQ (ab (aH _ _ rfl)) gi)),df.q (fv (aW Ga)),?_,?_,?_,?_,trivial⟩ fun gj=> ?_
  ·intro hd E' ay aH au dZ
   refine bj (h0 ((aL.id eJ).comp E7) (r:=da.j1) bE (ab (aH _ _ rfl)) (gU (n:=5) (dZ.trans rfl) (l3 ho) rfl) rfl rfl) ?_
   refine aj.nil ?_
   exact ad.fin (eY []) rfl rfl
  ·intro hd E' ay aH au dZ
   refine aj.store (i:=2) (aL.id Int) (v:=(ag:Int)) (b':=(ag:Int)) bE (ab (aH _ _ rfl)) (ab (aH _ _ rfl)) (au 2 _ rfl rfl) rfl rfl ?_
   refine aj.nil ?_
   exact ad.fin (eY []) rfl rfl
  ·intro hd E' ay aH au dZ
   refine aj.store (i:=3) (aL.id Int) (v:=(da.j1:Int)) (b':=(da.j1:Int)) bE (ab (aH _ _ rfl)) (ab (aH _ _ rfl)) (au 3 _ rfl rfl) rfl rfl ?_
   refine aj.nil ?_
   exact ad.fin (eY []) rfl rfl
  ·intro hd E' ay aH au dZ
   refine aj.store (i:=4) (aL.id Bool) (v:=(true:Bool)) (b':=(true:Bool)) ir (ab (aH _ _ rfl)) (fP true) (au 4 _ rfl rfl) rfl rfl ?_
   refine aj.nil ?_
   exact ad.fin (eY []) rfl rfl
  refine ad.eI (L2:=(⟨some cl,.var (J:Ref)⟩ :: ⟨some hT,.var (ag:Int)⟩ :: ⟨some uJ,.var (ag:Int)⟩ :: ⟨some uK,.var (da.j1:Int)⟩ :: ⟨some uL,.var (true:Bool)⟩ :: ba hp)) rfl ?_
  refine ko [0,1,2,3,4,5,6,7,8,9,10,11,12,13,14,15,16,17] ?_
  obtain rfl:=aG h
  exact dt 0 (hm ())
 ·have h:=gR ar cG
  refine ah.skip ?_
  obtain rfl:=aG h
  exact dt 0 (hm ())
theorem P3 {ag:Vector ak 4} {Jk:Option Addr} {r:(Vector ak 4)} (h:EN ag=some r):bw Tryz.prog 271 [I.eq (.pointer Jk),I.of (ag)] (I.gW 277 [I.td (I.eq (.pointer Jk)),I.ptr r]):=by
 unfold EN at h
 refine bw.of Tryz.func271 rfl Tryz.ntmps271 rfl fun W A=> ?_
 refine aC ?_
 refine aj.Xw (ab rfl) TK rfl ?_
 refine cf fun a3=> ?_
 refine bj (eG (C7 .nilFunc)) ?_
 refine bZ ?_
 refine aj.share (α:=Vector ak 4) 0 3 rfl rfl ?_
 refine bj (G0 (f:=277) (τs:= [I.td (I.eq (.pointer Jk)),I.ptr ag]) ⟨ab rfl,ab rfl,trivial⟩) ?_
 refine aK ?_
 refine aJ ?_
 refine ah.ret ?_
 obtain rfl:=aG h
 exact c8
theorem Kc {J:ak} {ag:ak} {r:Int} (h:r4 J ag=some r):bw Tryz.prog 137 [I.of (J),I.of (ag)] (I.of (r)):=by
 unfold r4 at h
 refine bw.of Tryz.func137 rfl Tryz.ntmps137 rfl fun W A=> ?_
 refine aC ?_
 refine cf fun aS=> ?_
 refine cf fun a3=> ?_
 refine aK ?_
 refine bG ?_
 refine ah.block ?_
 refine aC ?_
 refine b6 1 bN ?_
 refine b6 0 bN ?_
 refine bf (ug ov rfl wy rfl) ?_
 refine aK ?_
 refine aJ ?_
 refine ch h (fun h=>?_) fun h=>?_
 ·refine aC ?_
  refine aK ?_
  refine aJ ?_
  refine ah.ret ?_
  refine ad.dQ ?_
  refine ad.ret ?_
  obtain rfl:=aG h
  exact c8
 ·refine aC ?_
  refine aY (aW jC) ?_
  refine cb 1 g8 en ?_
  refine aY (aW jC) ?_
  refine cb 0 g8 en ?_
  refine bf LY ?_
  refine aB ?_
  refine dE (aW jC) ?_
  refine eW (fun hb=>fj (i:=1) ((aL.id ak).comp g8) (r:=J.c6) en (ct rfl hb) rfl rfl rfl) ?_
  refine dE (aW jC) ?_
  refine eW (fun hb=>fj (i:=0) ((aL.id ak).comp g8) (r:=ag.c6) en (ct rfl hb) rfl rfl rfl) ?_
  refine kn CU ?_
  refine dE c3 ?_
  refine aj.gg (fun hb=>aW hO (ab rfl)) rfl rfl rfl rfl rfl ?_
  refine aj.gg (fun hb=>fj (i:=1) ((aL.id ak).comp dT) (r:=J.bO) en (ct rfl hb) rfl rfl rfl) rfl rfl rfl rfl rfl ?_
  refine aj.gg (fun hb=>aW hO (ab rfl)) rfl rfl rfl rfl rfl ?_
  refine aj.gg (fun hb=>fj (i:=0) ((aL.id ak).comp dT) (r:=ag.bO) en (ct rfl hb) rfl rfl rfl) rfl rfl rfl rfl rfl ?_
  refine aj.gg (fun hb=>LY (ct rfl hb) (ct rfl hb)) rfl rfl rfl rfl rfl ?_
  refine eW (fun hb=>pX (ct rfl hb) (ab rfl) (fun h=>⟨hb,h⟩)) ?_
  obtain⟨bl,di,h⟩:=aw h
  refine dj di (o9 (ab rfl) (ab rfl) (fun h=>h)) ?_
  refine aK ?_
  refine aJ ?_
  refine ch h (fun h=>?_) fun h=>?_
  ·refine aC ?_
   refine aK ?_
   refine aJ ?_
   refine ah.ret ?_
   refine ad.dQ ?_
   refine ad.ret ?_
   obtain rfl:=aG h
   exact c8
  ·refine ah.skip ?_
   refine ad.dG ?_
   refine ad.next ?_
   refine aC ?_
   refine aK ?_
   refine aJ ?_
   refine ah.ret ?_
   obtain rfl:=aG h
   exact c8
end Go.Proofs.YtmnggbjcnoffeaaGreat
namespace Go.Proofs.YtmnggbjcnoffeaaGreat
open Go Gv
set_option linter.unusedVariables false
set_option linter.unusedSimpArgs false
set_option maxRecDepth 100000
set_option maxHeartbeats 2000000
theorem RH {J:a2} {r:(Vector (List Int) 6)} (h:yF J=some r):bw Tryz.prog 142 [I.of (J)] (I.of (r)):=by
 unfold yF at h
 refine bw.of Tryz.func142 rfl Tryz.ntmps142 rfl fun W A=> ?_
 refine aC ?_
 refine cf fun aS=> ?_
 refine cx Ni fun a3=> ?_
 refine bZ ?_
 refine aj.oX (z:=(default:Vector (List Int) 6)) [0,1,2,3,4,5] QO Ni rfl fun bH=> ?_
 refine aj.own (α:=Int) 3 ?_
 refine aj.own (α:=Int) 3 ?_
 refine aj.own (α:=Int) 3 ?_
 refine aj.own (α:=Int) 3 ?_
 refine aj.own (α:=Int) 3 ?_
 refine aj.own (α:=Int) 3 ?_
 refine bG ?_
 refine aC ?_
 refine aY (aW sv) ?_
 refine cb 8 rY rf ?_
 refine aY (eS Tryz.underlying24) ?_
 refine aB ?_
 refine aJ ?_
 refine ah.block ?_
 obtain⟨aA,ao,h⟩:=aw h
 refine gN (γ:=(Option Nat × Nat)) (δ:=(Option Nat × Nat)) ao [0,1,2,3,17,18] (fun s1 az=> [(19,I.of (s1.1))]) (fun s1 az=> [(5,⟨az.1,.row 3 (s1.2.1:List Int) az.2⟩),(6,⟨some bH,.cz (s1.2.2:Vector (List Int) 6) [(0,a0 az.1 s1.2.1.length az.2),(1,a0 none ([]:List Int).length 0),(2,a0 none ([]:List Int).length 0),(3,a0 none ([]:List Int).length 0),(4,a0 none ([]:List Int).length 0),(5,a0 none ([]:List Int).length 0)]⟩)]) (fun aF=>Exit.exit 0) (fun aF az=> [(19,I.of (aF.1)),(20,I.of (aF.2.1))]) (fun aF az=> [(5,⟨az.1,.row 3 (aF.2.2.1:List Int) az.2⟩),(6,⟨some bH,.cz (aF.2.2.2:Vector (List Int) 6) [(0,a0 az.1 aF.2.2.1.length az.2),(1,a0 none ([]:List Int).length 0),(2,a0 none ([]:List Int).length 0),(3,a0 none ([]:List Int).length 0),(4,a0 none ([]:List Int).length 0),(5,a0 none ([]:List Int).length 0)]⟩)]) (none,0) (fun s1 r h az=> ?_) fun az=> ?_
 ·clear ao
  refine aC ?_
  refine bf eb ?_
  refine bG ?_
  refine ch h (fun h=>?_) fun h=>?_
  ·refine cJ ?_
   refine ah.seq ?_
   refine ah.block ?_
   refine aC ?_
   obtain⟨aZ,cv,h⟩:=aw h
   refine gJ cv Tryz.underlying24 nP ?_
   refine aY (c2 nP) ?_
   refine cx ou fun cA=> ?_
   refine b3 0 nP ?_
   refine aJ ?_
   refine ah.cn ?_
   refine bj (ee (k:=0) oy (ab rfl) (bK 0) ⟨by decide,rfl⟩) ?_
   refine bj (iH (i:=7) (q:=0) (β:=Vector (List Int) 6) (γ:=Int) lD (ab rfl) rfl rfl) ?_
   refine aY (aW F7) ?_
   refine cb 0 od bE ?_
   refine gy [(ax J.fi aZ).bX] Tryz.underlying63 bE hI ?_
   obtain⟨al,bs,h⟩:=aw h
   refine jI 6 Tryz.underlying63 bE hI bs fun gZ fA=> ?_
   refine bj (ee (k:=0) oy (ab rfl) (bK 0) ⟨by decide,rfl⟩) ?_
   refine aj.jj (i:=7) (γ:=Int) (b':=(cW s1.2.2 0 []:Vector (List Int) 6)) (os':= [(0,a0 gZ al.length fA),(1,a0 none ([]:List Int).length 0),(2,a0 none ([]:List Int).length 0),(3,a0 none ([]:List Int).length 0),(4,a0 none ([]:List Int).length 0),(5,a0 none ([]:List Int).length 0)]) ((aL.id (Vector (List Int) 6)).comp (aL.idx (α:=List Int) 6 0 (by decide))) lD (ab rfl) (ab rfl) iA rfl rfl rfl rfl ?_
   refine aj.nil ?_
   refine ad.dG ?_
   refine ad.next ?_
   refine ah.cn ?_
   refine bf c9 ?_
   refine aB ?_
   refine aj.nil ?_
   obtain rfl:=aG h
   exact e0 (gZ,fA) 1
  ·refine ah.exit ?_
   refine ad.exit ?_
   obtain rfl:=aG h
   exact dU (az.1,az.2) 0
 ·clear ao
  refine ad.eT ?_
  refine ad.next ?_
  refine ah.seq ?_
  refine aC ?_
  refine aY (aW MD) ?_
  refine cb 8 JP Hv ?_
  refine aY (eS Tryz.underlying25) ?_
  refine aB ?_
  refine aJ ?_
  refine ah.block ?_
  obtain⟨aU,ao,h⟩:=aw h
  refine gN (γ:=(Option Nat × Nat)) (δ:=(Option Nat × Nat)) ao [0,1,2,3,17,18,19,20,32,33] (fun s2 a5=> [(34,I.of (s2.1))]) (fun s2 a5=> [(4,⟨a5.1,.row 3 (s2.2.1:List Int) a5.2⟩),(6,⟨some bH,.cz (s2.2.2:Vector (List Int) 6) [(0,a0 az.1 aA.2.2.1.length az.2),(1,a0 a5.1 s2.2.1.length a5.2),(2,a0 none ([]:List Int).length 0),(3,a0 none ([]:List Int).length 0),(4,a0 none ([]:List Int).length 0),(5,a0 none ([]:List Int).length 0)]⟩)]) (fun cT=>Exit.exit 2) (fun cT a5=> [(34,I.of (cT.1)),(35,I.of (cT.2.1))]) (fun cT a5=> [(4,⟨a5.1,.row 3 (cT.2.2.1:List Int) a5.2⟩),(6,⟨some bH,.cz (cT.2.2.2:Vector (List Int) 6) [(0,a0 az.1 aA.2.2.1.length az.2),(1,a0 a5.1 cT.2.2.1.length a5.2),(2,a0 none ([]:List Int).length 0),(3,a0 none ([]:List Int).length 0),(4,a0 none ([]:List Int).length 0),(5,a0 none ([]:List Int).length 0)]⟩)]) (none,0) (fun s2 r h a5=> ?_) fun a5=> ?_
  ·clear ao
   refine aC ?_
   refine bf eb ?_
   refine bG ?_
   refine ch h (fun h=>?_) fun h=>?_
   ·refine cJ ?_
    refine ah.seq ?_
    refine ah.block ?_
    refine aC ?_
    obtain⟨b0,de,h⟩:=aw h
    refine gJ de Tryz.underlying25 Dj ?_
    refine aY (c2 Dj) ?_
    refine cx zF fun hD=> ?_
    refine b3 0 Dj ?_
    refine aJ ?_
    refine ah.cn ?_
    refine bj (ee (k:=1) oy (ab rfl) (bK 1) ⟨by decide,rfl⟩) ?_
    refine bj (iH (i:=7) (q:=1) (β:=Vector (List Int) 6) (γ:=Int) lD (ab rfl) rfl rfl) ?_
    refine aY (aW TL) ?_
    refine cb 0 Ch bE ?_
    refine gy [(ax J.ll b0).bX] Tryz.underlying63 bE hI ?_
    obtain⟨aN,ck,h⟩:=aw h
    refine jI 5 Tryz.underlying63 bE hI ck fun jZ jn=> ?_
    refine bj (ee (k:=1) oy (ab rfl) (bK 1) ⟨by decide,rfl⟩) ?_
    refine aj.jj (i:=7) (γ:=Int) (b':=(cW s2.2.2 1 []:Vector (List Int) 6)) (os':= [(0,a0 az.1 aA.2.2.1.length az.2),(1,a0 jZ aN.length jn),(2,a0 none ([]:List Int).length 0),(3,a0 none ([]:List Int).length 0),(4,a0 none ([]:List Int).length 0),(5,a0 none ([]:List Int).length 0)]) ((aL.id (Vector (List Int) 6)).comp (aL.idx (α:=List Int) 6 1 (by decide))) lD (ab rfl) (ab rfl) iA rfl rfl rfl rfl ?_
    refine aj.nil ?_
    refine ad.dG ?_
    refine ad.next ?_
    refine ah.cn ?_
    refine bf c9 ?_
    refine aB ?_
    refine aj.nil ?_
    obtain rfl:=aG h
    exact e0 (jZ,jn) 1
   ·refine ah.exit ?_
    refine ad.exit ?_
    obtain rfl:=aG h
    exact dU (a5.1,a5.2) 0
  ·clear ao
   refine ad.eT ?_
   refine ad.next ?_
   refine ah.seq ?_
   refine aC ?_
   refine aY (aW ME) ?_
   refine cb 8 JT Hw ?_
   refine aY (eS Tryz.underlying26) ?_
   refine aB ?_
   refine aJ ?_
   refine ah.block ?_
   obtain⟨cL,ao,h⟩:=aw h
   refine gN (γ:=(Option Nat × Nat)) (δ:=(Option Nat × Nat)) ao [0,1,2,3,17,18,19,20,32,33,34,35,47,48] (fun g7 bu=> [(49,I.of (g7.1))]) (fun g7 bu=> [(3,⟨bu.1,.row 3 (g7.2.1:List Int) bu.2⟩),(6,⟨some bH,.cz (g7.2.2:Vector (List Int) 6) [(0,a0 az.1 aA.2.2.1.length az.2),(1,a0 a5.1 aU.2.2.1.length a5.2),(2,a0 bu.1 g7.2.1.length bu.2),(3,a0 none ([]:List Int).length 0),(4,a0 none ([]:List Int).length 0),(5,a0 none ([]:List Int).length 0)]⟩)]) (fun fs=>Exit.exit 4) (fun fs bu=> [(49,I.of (fs.1)),(50,I.of (fs.2.1))]) (fun fs bu=> [(3,⟨bu.1,.row 3 (fs.2.2.1:List Int) bu.2⟩),(6,⟨some bH,.cz (fs.2.2.2:Vector (List Int) 6) [(0,a0 az.1 aA.2.2.1.length az.2),(1,a0 a5.1 aU.2.2.1.length a5.2),(2,a0 bu.1 fs.2.2.1.length bu.2),(3,a0 none ([]:List Int).length 0),(4,a0 none ([]:List Int).length 0),(5,a0 none ([]:List Int).length 0)]⟩)]) (none,0) (fun g7 r h bu=> ?_) fun bu=> ?_
   ·clear ao
    refine aC ?_
    refine bf eb ?_
    refine bG ?_
    refine ch h (fun h=>?_) fun h=>?_
    ·refine cJ ?_
     refine ah.seq ?_
     refine ah.block ?_
     refine aC ?_
     obtain⟨c1,fl,h⟩:=aw h
     refine gJ fl Tryz.underlying26 pY ?_
     refine aY (c2 pY) ?_
     refine cx sF fun ky=> ?_
     refine b3 0 pY ?_
     refine aJ ?_
     refine ah.cn ?_
     refine bj (ee (k:=2) oy (ab rfl) (bK 2) ⟨by decide,rfl⟩) ?_
     refine bj (iH (i:=7) (q:=2) (β:=Vector (List Int) 6) (γ:=Int) lD (ab rfl) rfl rfl) ?_
     refine aY (aW TM) ?_
     refine cb 0 Cl bE ?_
     refine gy [(ax J.l0 c1).bX] Tryz.underlying63 bE hI ?_
     obtain⟨a7,dR,h⟩:=aw h
     refine jI 4 Tryz.underlying63 bE hI dR fun iK p8=> ?_
     refine bj (ee (k:=2) oy (ab rfl) (bK 2) ⟨by decide,rfl⟩) ?_
     refine aj.jj (i:=7) (γ:=Int) (b':=(cW g7.2.2 2 []:Vector (List Int) 6)) (os':= [(0,a0 az.1 aA.2.2.1.length az.2),(1,a0 a5.1 aU.2.2.1.length a5.2),(2,a0 iK a7.length p8),(3,a0 none ([]:List Int).length 0),(4,a0 none ([]:List Int).length 0),(5,a0 none ([]:List Int).length 0)]) ((aL.id (Vector (List Int) 6)).comp (aL.idx (α:=List Int) 6 2 (by decide))) lD (ab rfl) (ab rfl) iA rfl rfl rfl rfl ?_
     refine aj.nil ?_
     refine ad.dG ?_
     refine ad.next ?_
     refine ah.cn ?_
     refine bf c9 ?_
     refine aB ?_
     refine aj.nil ?_
     obtain rfl:=aG h
     exact e0 (iK,p8) 1
    ·refine ah.exit ?_
     refine ad.exit ?_
     obtain rfl:=aG h
     exact dU (bu.1,bu.2) 0
   ·clear ao
    refine ad.eT ?_
    refine ad.next ?_
    refine ah.seq ?_
    refine aC ?_
    refine aY (aW GA) ?_
    refine cb 8 EM DM ?_
    refine aY (eS Tryz.underlying27) ?_
    refine aB ?_
    refine aJ ?_
    refine ah.block ?_
    obtain⟨eO,ao,h⟩:=aw h
    refine gN (γ:=(Option Nat × Nat)) (δ:=(Option Nat × Nat)) ao [0,1,2,3,17,18,19,20,32,33,34,35,47,48,49,50,62,63] (fun lT cM=> [(64,I.of (lT.1))]) (fun lT cM=> [(2,⟨cM.1,.row 3 (lT.2.1:List Int) cM.2⟩),(6,⟨some bH,.cz (lT.2.2:Vector (List Int) 6) [(0,a0 az.1 aA.2.2.1.length az.2),(1,a0 a5.1 aU.2.2.1.length a5.2),(2,a0 bu.1 cL.2.2.1.length bu.2),(3,a0 cM.1 lT.2.1.length cM.2),(4,a0 none ([]:List Int).length 0),(5,a0 none ([]:List Int).length 0)]⟩)]) (fun iQ=>Exit.exit 6) (fun iQ cM=> [(64,I.of (iQ.1)),(65,I.of (iQ.2.1))]) (fun iQ cM=> [(2,⟨cM.1,.row 3 (iQ.2.2.1:List Int) cM.2⟩),(6,⟨some bH,.cz (iQ.2.2.2:Vector (List Int) 6) [(0,a0 az.1 aA.2.2.1.length az.2),(1,a0 a5.1 aU.2.2.1.length a5.2),(2,a0 bu.1 cL.2.2.1.length bu.2),(3,a0 cM.1 iQ.2.2.1.length cM.2),(4,a0 none ([]:List Int).length 0),(5,a0 none ([]:List Int).length 0)]⟩)]) (none,0) (fun lT r h cM=> ?_) fun cM=> ?_
    ·clear ao
     refine aC ?_
     refine bf eb ?_
     refine bG ?_
     refine ch h (fun h=>?_) fun h=>?_
     ·refine cJ ?_
      refine ah.seq ?_
      refine ah.block ?_
      refine aC ?_
      obtain⟨fm,iZ,h⟩:=aw h
      refine gJ iZ Tryz.underlying27 nb ?_
      refine aY (c2 nb) ?_
      refine cx o2 fun rL=> ?_
      refine b3 0 nb ?_
      refine aJ ?_
      refine ah.cn ?_
      refine bj (ee (k:=3) oy (ab rfl) (bK 3) ⟨by decide,rfl⟩) ?_
      refine bj (iH (i:=7) (q:=3) (β:=Vector (List Int) 6) (γ:=Int) lD (ab rfl) rfl rfl) ?_
      refine aY (aW LX) ?_
      refine cb 0 r2 bE ?_
      refine gy [(ax J.dk fm).bX] Tryz.underlying63 bE hI ?_
      obtain⟨bR,e2,h⟩:=aw h
      refine jI 3 Tryz.underlying63 bE hI e2 fun rh Ae=> ?_
      refine bj (ee (k:=3) oy (ab rfl) (bK 3) ⟨by decide,rfl⟩) ?_
      refine aj.jj (i:=7) (γ:=Int) (b':=(cW lT.2.2 3 []:Vector (List Int) 6)) (os':= [(0,a0 az.1 aA.2.2.1.length az.2),(1,a0 a5.1 aU.2.2.1.length a5.2),(2,a0 bu.1 cL.2.2.1.length bu.2),(3,a0 rh bR.length Ae),(4,a0 none ([]:List Int).length 0),(5,a0 none ([]:List Int).length 0)]) ((aL.id (Vector (List Int) 6)).comp (aL.idx (α:=List Int) 6 3 (by decide))) lD (ab rfl) (ab rfl) iA rfl rfl rfl rfl ?_
      refine aj.nil ?_
      refine ad.dG ?_
      refine ad.next ?_
      refine ah.cn ?_
      refine bf c9 ?_
      refine aB ?_
      refine aj.nil ?_
      obtain rfl:=aG h
      exact e0 (rh,Ae) 1
     ·refine ah.exit ?_
      refine ad.exit ?_
      obtain rfl:=aG h
      exact dU (cM.1,cM.2) 0
    ·clear ao
     refine ad.eT ?_
     refine ad.next ?_
     refine ah.seq ?_
     refine aC ?_
     refine aY (aW l2) ?_
     refine cb 8 lX lC ?_
     refine aY (eS Tryz.underlying28) ?_
     refine aB ?_
     refine aJ ?_
     refine ah.block ?_
     obtain⟨gz,ao,h⟩:=aw h
     refine gN (γ:=(Option Nat × Nat)) (δ:=(Option Nat × Nat)) ao [0,1,2,3,17,18,19,20,32,33,34,35,47,48,49,50,62,63,64,65,77,78] (fun hM gO=> [(79,I.of (hM.1))]) (fun hM gO=> [(1,⟨gO.1,.row 3 (hM.2.1:List Int) gO.2⟩),(6,⟨some bH,.cz (hM.2.2:Vector (List Int) 6) [(0,a0 az.1 aA.2.2.1.length az.2),(1,a0 a5.1 aU.2.2.1.length a5.2),(2,a0 bu.1 cL.2.2.1.length bu.2),(3,a0 cM.1 eO.2.2.1.length cM.2),(4,a0 gO.1 hM.2.1.length gO.2),(5,a0 none ([]:List Int).length 0)]⟩)]) (fun ek=>Exit.exit 8) (fun ek gO=> [(79,I.of (ek.1)),(80,I.of (ek.2.1))]) (fun ek gO=> [(1,⟨gO.1,.row 3 (ek.2.2.1:List Int) gO.2⟩),(6,⟨some bH,.cz (ek.2.2.2:Vector (List Int) 6) [(0,a0 az.1 aA.2.2.1.length az.2),(1,a0 a5.1 aU.2.2.1.length a5.2),(2,a0 bu.1 cL.2.2.1.length bu.2),(3,a0 cM.1 eO.2.2.1.length cM.2),(4,a0 gO.1 ek.2.2.1.length gO.2),(5,a0 none ([]:List Int).length 0)]⟩)]) (none,0) (fun hM r h gO=> ?_) fun gO=> ?_
     ·clear ao
      refine aC ?_
      refine bf eb ?_
      refine bG ?_
      refine ch h (fun h=>?_) fun h=>?_
      ·refine cJ ?_
       refine ah.seq ?_
       refine ah.block ?_
       refine aC ?_
       obtain⟨hW,mc,h⟩:=aw h
       refine gJ mc Tryz.underlying28 fS ?_
       refine aY (c2 fS) ?_
       refine cx k8 fun aaT=> ?_
       refine b3 0 fS ?_
       refine aJ ?_
       refine ah.cn ?_
       refine bj (ee (k:=4) oy (ab rfl) (bK 4) ⟨by decide,rfl⟩) ?_
       refine bj (iH (i:=7) (q:=4) (β:=Vector (List Int) 6) (γ:=Int) lD (ab rfl) rfl rfl) ?_
       refine aY (aW tV) ?_
       refine cb 0 oS bE ?_
       refine gy [(ax J.bm hW).bX] Tryz.underlying63 bE hI ?_
       obtain⟨br,g2,h⟩:=aw h
       refine jI 2 Tryz.underlying63 bE hI g2 fun p9 Od=> ?_
       refine bj (ee (k:=4) oy (ab rfl) (bK 4) ⟨by decide,rfl⟩) ?_
       refine aj.jj (i:=7) (γ:=Int) (b':=(cW hM.2.2 4 []:Vector (List Int) 6)) (os':= [(0,a0 az.1 aA.2.2.1.length az.2),(1,a0 a5.1 aU.2.2.1.length a5.2),(2,a0 bu.1 cL.2.2.1.length bu.2),(3,a0 cM.1 eO.2.2.1.length cM.2),(4,a0 p9 br.length Od),(5,a0 none ([]:List Int).length 0)]) ((aL.id (Vector (List Int) 6)).comp (aL.idx (α:=List Int) 6 4 (by decide))) lD (ab rfl) (ab rfl) iA rfl rfl rfl rfl ?_
       refine aj.nil ?_
       refine ad.dG ?_
       refine ad.next ?_
       refine ah.cn ?_
       refine bf c9 ?_
       refine aB ?_
       refine aj.nil ?_
       obtain rfl:=aG h
       exact e0 (p9,Od) 1
      ·refine ah.exit ?_
       refine ad.exit ?_
       obtain rfl:=aG h
       exact dU (gO.1,gO.2) 0
     ·clear ao
      refine ad.eT ?_
      refine ad.next ?_
      refine ah.seq ?_
      refine aC ?_
      refine aY (aW MF) ?_
      refine cb 8 JU Hx ?_
      refine aY (eS Tryz.underlying30) ?_
      refine aB ?_
      refine aJ ?_
      refine ah.block ?_
      obtain⟨hE,ao,h⟩:=aw h
      refine gN (γ:=(Option Nat × Nat)) (δ:=(Option Nat × Nat)) ao [0,1,2,3,17,18,19,20,32,33,34,35,47,48,49,50,62,63,64,65,77,78,79,80,92,93] (fun iv kX=> [(94,I.of (iv.1))]) (fun iv kX=> [(0,⟨kX.1,.row 3 (iv.2.1:List Int) kX.2⟩),(6,⟨some bH,.cz (iv.2.2:Vector (List Int) 6) [(0,a0 az.1 aA.2.2.1.length az.2),(1,a0 a5.1 aU.2.2.1.length a5.2),(2,a0 bu.1 cL.2.2.1.length bu.2),(3,a0 cM.1 eO.2.2.1.length cM.2),(4,a0 gO.1 gz.2.2.1.length gO.2),(5,a0 kX.1 iv.2.1.length kX.2)]⟩)]) (fun iR=>Exit.exit 10) (fun iR kX=> [(94,I.of (iR.1)),(95,I.of (iR.2.1))]) (fun iR kX=> [(0,⟨kX.1,.row 3 (iR.2.2.1:List Int) kX.2⟩),(6,⟨some bH,.cz (iR.2.2.2:Vector (List Int) 6) [(0,a0 az.1 aA.2.2.1.length az.2),(1,a0 a5.1 aU.2.2.1.length a5.2),(2,a0 bu.1 cL.2.2.1.length bu.2),(3,a0 cM.1 eO.2.2.1.length cM.2),(4,a0 gO.1 gz.2.2.1.length gO.2),(5,a0 kX.1 iR.2.2.1.length kX.2)]⟩)]) (none,0) (fun iv r h kX=> ?_) fun kX=> ?_
      ·clear ao
       refine aC ?_
       refine bf eb ?_
       refine bG ?_
       refine ch h (fun h=>?_) fun h=>?_
       ·refine cJ ?_
        refine ah.seq ?_
        refine ah.block ?_
        refine aC ?_
        obtain⟨ka,oE,h⟩:=aw h
        refine gJ oE Tryz.underlying30 pZ ?_
        refine aY (c2 pZ) ?_
        refine cx sG fun aaU=> ?_
        refine b3 0 pZ ?_
        refine aJ ?_
        refine ah.cn ?_
        refine bj (ee (k:=5) oy (ab rfl) (bK 5) ⟨by decide,rfl⟩) ?_
        refine bj (iH (i:=7) (q:=5) (β:=Vector (List Int) 6) (γ:=Int) lD (ab rfl) rfl rfl) ?_
        refine aY (aW TN) ?_
        refine cb 0 Cn bE ?_
        refine gy [(ax J.ji ka).bX] Tryz.underlying63 bE hI ?_
        obtain⟨b8,g3,h⟩:=aw h
        refine jI 1 Tryz.underlying63 bE hI g3 fun Af Oe=> ?_
        refine bj (ee (k:=5) oy (ab rfl) (bK 5) ⟨by decide,rfl⟩) ?_
        refine aj.jj (i:=7) (γ:=Int) (b':=(cW iv.2.2 5 []:Vector (List Int) 6)) (os':= [(0,a0 az.1 aA.2.2.1.length az.2),(1,a0 a5.1 aU.2.2.1.length a5.2),(2,a0 bu.1 cL.2.2.1.length bu.2),(3,a0 cM.1 eO.2.2.1.length cM.2),(4,a0 gO.1 gz.2.2.1.length gO.2),(5,a0 Af b8.length Oe)]) ((aL.id (Vector (List Int) 6)).comp (aL.idx (α:=List Int) 6 5 (by decide))) lD (ab rfl) (ab rfl) iA rfl rfl rfl rfl ?_
        refine aj.nil ?_
        refine ad.dG ?_
        refine ad.next ?_
        refine ah.cn ?_
        refine bf c9 ?_
        refine aB ?_
        refine aj.nil ?_
        obtain rfl:=aG h
        exact e0 (Af,Oe) 1
       ·refine ah.exit ?_
        refine ad.exit ?_
        obtain rfl:=aG h
        exact dU (kX.1,kX.2) 0
      ·clear ao
       refine ad.eT ?_
       refine ad.next ?_
       refine aC ?_
       refine aj.iX (β:=Vector (List Int) 6) (γ:=Int) (b':=(cW hE.2.2.2 0 aA.2.2.1:Vector (List Int) 6)) ((aL.id (Vector (List Int) 6)).comp (aL.idx (α:=List Int) 6 0 (by decide))) 6 5 0 rfl rfl rfl rfl rfl rfl ?_
       refine aj.iX (β:=Vector (List Int) 6) (γ:=Int) (b':=(cW (cW hE.2.2.2 0 aA.2.2.1) 1 aU.2.2.1:Vector (List Int) 6)) ((aL.id (Vector (List Int) 6)).comp (aL.idx (α:=List Int) 6 1 (by decide))) 6 4 0 rfl rfl rfl rfl rfl rfl ?_
       refine aj.iX (β:=Vector (List Int) 6) (γ:=Int) (b':=(cW (cW (cW hE.2.2.2 0 aA.2.2.1) 1 aU.2.2.1) 2 cL.2.2.1:Vector (List Int) 6)) ((aL.id (Vector (List Int) 6)).comp (aL.idx (α:=List Int) 6 2 (by decide))) 6 3 0 rfl rfl rfl rfl rfl rfl ?_
       refine aj.iX (β:=Vector (List Int) 6) (γ:=Int) (b':=(cW (cW (cW (cW hE.2.2.2 0 aA.2.2.1) 1 aU.2.2.1) 2 cL.2.2.1) 3 eO.2.2.1:Vector (List Int) 6)) ((aL.id (Vector (List Int) 6)).comp (aL.idx (α:=List Int) 6 3 (by decide))) 6 2 0 rfl rfl rfl rfl rfl rfl ?_
       refine aj.iX (β:=Vector (List Int) 6) (γ:=Int) (b':=(cW (cW (cW (cW (cW hE.2.2.2 0 aA.2.2.1) 1 aU.2.2.1) 2 cL.2.2.1) 3 eO.2.2.1) 4 gz.2.2.1:Vector (List Int) 6)) ((aL.id (Vector (List Int) 6)).comp (aL.idx (α:=List Int) 6 4 (by decide))) 6 1 0 rfl rfl rfl rfl rfl rfl ?_
       refine aj.iX (β:=Vector (List Int) 6) (γ:=Int) (b':=(cW (cW (cW (cW (cW (cW hE.2.2.2 0 aA.2.2.1) 1 aU.2.2.1) 2 cL.2.2.1) 3 eO.2.2.1) 4 gz.2.2.1) 5 hE.2.2.1:Vector (List Int) 6)) ((aL.id (Vector (List Int) 6)).comp (aL.idx (α:=List Int) 6 5 (by decide))) 6 0 0 rfl rfl rfl rfl rfl rfl ?_
       refine aj.nQ 6 rfl ?_
       obtain⟨bl,di,h⟩:=aw h
       refine dj di (fj (i:=6) (aL.id (Vector (List Int) 6)) (r:=(cW (cW (cW (cW (cW (cW hE.2.2.2 0 aA.2.2.1) 1 aU.2.2.1) 2 cL.2.2.1) 3 eO.2.2.1) 4 gz.2.2.1) 5 hE.2.2.1)) G1 (ab rfl) rfl rfl rfl) ?_
       refine b3 7 G1 ?_
       refine aJ ?_
       refine ah.ret ?_
       obtain rfl:=aG h
       exact ad.hg rfl (eH 7 G1)
end Go.Proofs.YtmnggbjcnoffeaaGreat
namespace Go.Proofs.YtmnggbjcnoffeaaGreat
open Go Gv
set_option linter.unusedVariables false
set_option linter.unusedSimpArgs false
set_option maxRecDepth 100000
set_option maxHeartbeats 2000000
theorem Rp {J:List Int} {ag:Int} {r:Int} (h:yw J ag=some r):bw Tryz.prog 141 [I.of (J),I.of (ag)] (I.of (r)):=by
 unfold yw at h
 refine bw.of Tryz.func141 rfl Tryz.ntmps141 rfl fun W A=> ?_
 refine aC ?_
 refine aK ?_
 refine bG ?_
 refine aC ?_
 refine aB ?_
 refine aY (eS Tryz.underlying63) ?_
 refine aB ?_
 refine aJ ?_
 refine ah.block ?_
 obtain⟨aA,ao,h⟩:=aw h
 refine gN (γ:=Unit) (δ:=Unit) ao [0,1,7,8] (fun s1 az=> [(4,I.of (0:Int)),(9,I.of (s1))]) (fun s1 az=> []) (fun aF=>Sum.elim (fun aF=>Exit.exit 0) (fun aF=>Exit.ret) aF) (fun aF az=>Sum.elim (fun aF=> [(4,I.of (0:Int)),(9,I.of (aF.1)),(10,I.of (aF.2))]) (fun aF=> [(4,I.of (aF.1)),(5,I.of (aF.2.1)),(6,I.of (aF.2.2.1)),(9,I.of (aF.2.2.2.1)),(10,I.of (aF.2.2.2.2.1)),(16,I.of (aF.2.2.2.2.2))]) aF) (fun aF az=>Sum.elim (fun aF=> []) (fun aF=> []) aF) () (fun s1 r h az=> ?_) fun az=> ?_
 ·clear ao
  refine aC ?_
  refine bf eb ?_
  refine bG ?_
  refine ch h (fun h=>?_) fun h=>?_
  ·refine cJ ?_
   refine ah.seq ?_
   refine ah.block ?_
   refine aC ?_
   refine aB ?_
   obtain⟨aZ,cv,h⟩:=aw h
   refine gJ cv Tryz.underlying63 bE ?_
   refine aY (c2 bE) ?_
   refine aK ?_
   refine aK ?_
   refine bZ ?_
   refine aB ?_
   refine aB ?_
   refine bf gf ?_
   refine aJ ?_
   refine ch h (fun h=>?_) fun h=>?_
   ·refine aC ?_
    refine aB ?_
    refine aK ?_
    refine aJ ?_
    refine ah.ret ?_
    refine ad.dQ ?_
    refine ad.ret ?_
    obtain rfl:=aG h
    exact dU () 0
   ·refine ah.skip ?_
    refine ad.dG ?_
    refine ad.next ?_
    refine ah.cn ?_
    refine bf c9 ?_
    refine aB ?_
    refine aj.nil ?_
    obtain rfl:=aG h
    exact e0 () 0
  ·refine ah.exit ?_
   refine ad.exit ?_
   obtain rfl:=aG h
   exact dU () 0
 ·clear ao
  rcases aA with aA | aA
  ·simp only [Sum.elim_inl] at h
   refine ad.eT ?_
   refine ad.next ?_
   refine aC ?_
   refine aK ?_
   refine aJ ?_
   refine ah.ret ?_
   obtain rfl:=aG h
   exact c8
  ·simp only [Sum.elim_inr] at h
   refine ad.dQ ?_
   refine ad.ret ?_
   obtain rfl:=aG h
   exact c8
end Go.Proofs.YtmnggbjcnoffeaaGreat
namespace Go.Proofs.YtmnggbjcnoffeaaGreat
open Go Gv
set_option linter.unusedVariables false
set_option linter.unusedSimpArgs false
set_option maxRecDepth 100000
set_option maxHeartbeats 2000000
theorem Qc {J:cS} {ag:Int} {r:Int} (h:xK J ag=some r):bw Tryz.prog 272 [I.ptr J,I.of (ag)] (I.of (r)):=by
 unfold xK at h
 refine bw.of Tryz.func272 rfl Tryz.ntmps272 rfl fun W A=> ?_
 refine aC ?_
 refine cf fun aS=> ?_
 refine aK ?_
 refine bG ?_
 refine aC ?_
 refine aB ?_
 refine bj (TO Tryz.underlying170 (ab rfl)) ?_
 refine aJ ?_
 refine ah.q2 (ab rfl) rfl ?_
 refine cJ ?_
 refine aC ?_
 refine aB ?_
 refine aY zf ?_
 refine AK xX vY ?_
 refine aY (c2 sN) ?_
 refine aj.share (α:=Int) 0 3 rfl rfl ?_
 refine bj (wa (F:=(fun fM=>BU fM ag)) (τs:= [I.ptr ag]) Vl ⟨ab rfl,trivial⟩ (fun _ _ h=>P2 h)) ?_
 obtain⟨al,bs,h⟩:=aw h
 refine dc Nj (JK bs) ?_
 refine aK ?_
 refine aJ ?_
 refine ah.ret ?_
 obtain rfl:=aG h
 exact c8
theorem E8 {J:Int} {ag:Int} {r:Int} (h:tq J ag=some r):bw Tryz.prog 92 [I.of (J),I.of (ag)] (I.of (r)):=by
 unfold tq at h
 refine bw.of Tryz.func92 rfl Tryz.ntmps92 rfl fun W A=> ?_
 refine aC ?_
 refine aK ?_
 refine bZ ?_
 refine aB ?_
 obtain⟨al,bs,h⟩:=aw h
 refine dc Nk (Kb bs) ?_
 refine aK ?_
 refine bZ ?_
 refine aB ?_
 obtain⟨aN,ck,h⟩:=aw h
 refine dc Nk (Kb ck) ?_
 refine aK ?_
 refine bG ?_
 refine aC ?_
 refine aB ?_
 refine aJ ?_
 refine ch h (fun h=>?_) fun h=>?_
 ·refine ah.seq ?_
  refine aC ?_
  refine aB ?_
  refine aJ ?_
  refine ch h (fun h=>?_) fun h=>?_
  ·refine aC ?_
   refine aK ?_
   refine aJ ?_
   refine ah.ret ?_
   refine ad.ret ?_
   refine ad.ret ?_
   obtain rfl:=aG h
   exact c8
  ·refine cJ ?_
   refine aC ?_
   refine aK ?_
   refine aJ ?_
   refine ah.ret ?_
   refine ad.ret ?_
   obtain rfl:=aG h
   exact c8
 ·refine cJ ?_
  refine ah.seq ?_
  refine aC ?_
  refine aB ?_
  refine aJ ?_
  refine ch h (fun h=>?_) fun h=>?_
  ·refine aC ?_
   refine aK ?_
   refine aJ ?_
   refine ah.ret ?_
   refine ad.ret ?_
   obtain rfl:=aG h
   exact c8
  ·refine cJ ?_
   refine ah.seq ?_
   refine aC ?_
   refine aB ?_
   refine aB ?_
   refine bf eb ?_
   refine aJ ?_
   refine ch h (fun h=>?_) fun h=>?_
   ·refine aC ?_
    refine aK ?_
    refine aJ ?_
    refine ah.ret ?_
    refine ad.ret ?_
    obtain rfl:=aG h
    exact c8
   ·refine cJ ?_
    refine ah.seq ?_
    refine aC ?_
    refine aB ?_
    refine aB ?_
    refine bf ow ?_
    refine aJ ?_
    refine ch h (fun h=>?_) fun h=>?_
    ·refine aC ?_
     refine aK ?_
     refine aJ ?_
     refine ah.ret ?_
     refine ad.ret ?_
     obtain rfl:=aG h
     exact c8
    ·refine cJ ?_
     refine aC ?_
     refine aK ?_
     refine aJ ?_
     refine ah.ret ?_
     obtain rfl:=aG h
     exact c8
theorem Qd {hp:a9 Cell} {J:kf} {ag:Vector ak 4} {r:Int × Bool} (h:xL hp J ag=some r):cy Tryz.prog 228 [I.of (J),I.of (ag)] ([] ++ ba hp) (δ:=Unit) (fun _=>I.cN [I.of (r.1),I.of (r.2)]) (fun _=> [] ++ ba hp):=by
 unfold xL at h
 refine cy.of Tryz.func228 rfl Tryz.ntmps228 rfl fun W A=> ?_
 refine aC ?_
 refine cf fun aS=> ?_
 refine cf fun a3=> ?_
 refine aK ?_
 refine aK ?_
 refine bZ ?_
 refine aY (aW Gb) ?_
 refine cb 1 B7 Dk ?_
 refine b6 0 dv ?_
 obtain⟨al,bs,h⟩:=aw h
 refine aj.lS (hX.nR 2 rfl Nl (J4 bs) ⟨ab rfl,ab rfl,trivial⟩) rfl rfl rfl ?_
 refine ez ?_
 refine ez ?_
 refine aK ?_
 refine aK ?_
 refine aJ ?_
 refine ah.ret ?_
 obtain rfl:=aG h
 exact ad.k5 () (.cons _ (.cons _ (.refl _))) rfl rfl (eD rfl) (eD rfl)
theorem RI {J:ak} {r:Int} (h:Cu J=some r):bw Tryz.prog 254 [I.of (J)] (I.of (r)):=by
 unfold Cu at h
 refine bw.of Tryz.func254 rfl Tryz.ntmps254 rfl fun W A=> ?_
 refine aC ?_
 refine cf fun aS=> ?_
 refine aK ?_
 refine bG ?_
 refine aC ?_
 refine aY (aW jC) ?_
 refine cb 0 g8 en ?_
 refine bj (LZ (ab rfl) (gb 0 rfl)) ?_
 refine aJ ?_
 refine ch h (fun h=>?_) fun h=>?_
 ·refine aC ?_
  refine aY (aW jC) ?_
  refine cb 0 g8 en ?_
  obtain⟨al,bs,h⟩:=aw h
  refine dc Nm (J5 bs) ?_
  refine bf c9 ?_
  refine aK ?_
  refine aJ ?_
  refine ah.ret ?_
  refine ad.ret ?_
  obtain rfl:=aG h
  exact c8
 ·refine cJ ?_
  refine aC ?_
  refine aY (aW hO) ?_
  refine cb 0 dT en ?_
  obtain⟨aN,ck,h⟩:=aw h
  refine dc Nm (J5 ck) ?_
  refine aK ?_
  refine aJ ?_
  refine ah.ret ?_
  obtain rfl:=aG h
  exact c8
theorem QZ {J:a2} {ag:Int} {r:Int} (h:yi J ag=some r):bw Tryz.prog 124 [I.of (J),I.of (ag)] (I.of (r)):=by
 unfold yi at h
 refine bw.of Tryz.func124 rfl Tryz.ntmps124 rfl fun W A=> ?_
 refine aC ?_
 refine cf fun aS=> ?_
 refine aK ?_
 refine bZ ?_
 refine b6 0 fH ?_
 obtain⟨al,bs,h⟩:=aw h
 refine dc Vm (RH bs) ?_
 refine bj (L0 (k:=0) Tryz.underlying248 lD (ab rfl) (bK 0) ⟨by decide,rfl⟩) ?_
 refine aB ?_
 obtain⟨aN,ck,h⟩:=aw h
 refine dc Vn (Rp ck) ?_
 refine aK ?_
 refine aJ ?_
 refine ah.ret ?_
 obtain rfl:=aG h
 exact c8
end Go.Proofs.YtmnggbjcnoffeaaGreat
namespace Go.Proofs.YtmnggbjcnoffeaaGreat
open Go Gv
set_option linter.unusedVariables false
set_option linter.unusedSimpArgs false
set_option maxRecDepth 100000
set_option maxHeartbeats 2000000
theorem Kl {J:a2} {ag:bJ} {r:bV × Bool} (h:r7 J ag=some r):bw Tryz.prog 206 [I.of (J),I.of (ag)] (I.cN [I.of (r.1),I.of (r.2)]):=by
 unfold r7 at h
 refine bw.of Tryz.func206 rfl Tryz.ntmps206 rfl fun W A=> ?_
 refine aC ?_
 refine cf fun aS=> ?_
 refine cf fun a3=> ?_
 refine cx k8 fun bH=> ?_
 refine aK ?_
 refine bZ ?_
 refine b6 2 fH ?_
 refine aY (aW zh) ?_
 refine cb 1 rZ bE ?_
 obtain⟨al,bs,h⟩:=aw h
 refine dc DN (Co bs) ?_
 refine aK ?_
 refine bG ?_
 refine aC ?_
 refine aB ?_
 refine bf eb ?_
 refine aJ ?_
 refine ch h (fun h=>?_) fun h=>?_
 ·refine aC ?_
  refine gV Ag k8 (default:bV) .nil ?_
  refine b3 0 fS ?_
  refine aK ?_
  refine aJ ?_
  refine ah.ret ?_
  refine ad.ret ?_
  obtain rfl:=aG h
  exact ad.p7 rfl (eH 0 fS) (h9 rfl)
 ·refine cJ ?_
  refine aC ?_
  refine aY (aW l2) ?_
  refine cb 2 lX lC ?_
  refine aB ?_
  obtain⟨aZ,cv,h⟩:=aw h
  refine gJ cv Tryz.underlying28 fS ?_
  refine aY (c2 fS) ?_
  refine b3 0 fS ?_
  refine aK ?_
  refine aJ ?_
  refine ah.ret ?_
  obtain rfl:=aG h
  exact ad.p7 rfl (eH 0 fS) (h9 rfl)
theorem Qu {J:bt} {cl:Nat} {r:(Vector ak 4) × bt} (h:xY J=some r):cy Tryz.prog 18 [I.eq (.pointer (some ⟨cl,0,none⟩))] [⟨some cl,.var (J:bt)⟩] (δ:=Unit) (fun d=>I.of (r.1)) (fun d=> [⟨some cl,.var (r.2:bt)⟩]):=by
 unfold xY at h
 refine cy.of Tryz.func18 rfl Tryz.ntmps18 rfl fun W A=> ?_
 refine aC ?_
 refine cx jm fun aS=> ?_
 refine bZ ?_
 refine cx jm fun a3=> ?_
 refine bG ?_
 refine aC ?_
 refine aB ?_
 refine aJ ?_
 refine ah.block ?_
 obtain⟨aA,ao,h⟩:=aw h
 refine gN (γ:=Unit) (δ:=Unit) ao [0,2,3] (fun s1 az=> [(5,I.of (s1.1))]) (fun s1 az=> [(0,⟨some a3,.var (s1.2.1:Vector ak 4)⟩),(2,⟨some cl,.var (s1.2.2:bt)⟩)]) (fun aF=>Exit.exit 0) (fun aF az=> [(5,I.of (aF.1)),(6,I.of (aF.2.1))]) (fun aF az=> [(0,⟨some a3,.var (aF.2.2.1:Vector ak 4)⟩),(2,⟨some cl,.var (aF.2.2.2:bt)⟩)]) () (fun s1 r h az=> ?_) fun az=> ?_
 ·clear ao
  refine aC ?_
  refine bf eb ?_
  refine bG ?_
  refine ch h (fun h=>?_) fun h=>?_
  ·refine cJ ?_
   refine ah.seq ?_
   refine ah.block ?_
   refine aC ?_
   refine aB ?_
   refine aK ?_
   refine bZ ?_
   refine aB ?_
   refine aB ?_
   refine aj.bU 2 rfl ?_
   obtain⟨al,bs,h⟩:=aw h
   refine eM 1 gh (fZ bs) fun cT=> ?_
   refine aY (iB Tryz.underlying3 Tryz.underlying41) ?_
   obtain⟨bl,di,h⟩:=aw h
   refine dj di (cU (b:=({ (default:ak) with bO:=BitVec.ofInt 64 al.1 } :ak)) rfl gT dP (.cons dT rfl (ab rfl) rfl (.nil))) ?_
   obtain⟨aZ,cv,h⟩:=aw h
   refine bj (ee (k:=aZ) fD (ab rfl) (ab rfl) (cc cv)) ?_
   refine me 1 ((aL.id (Vector ak 4)).comp (aL.idx (α:=ak) 4 aZ (cc cv).1)) bN ?_
   refine bZ ?_
   refine aB ?_
   refine aj.bU 0 rfl ?_
   obtain⟨aN,ck,h⟩:=aw h
   refine eM 1 gh (fZ ck) fun fs=> ?_
   refine bf gf ?_
   refine aJ ?_
   obtain⟨bM,cG,h⟩:=aw h
   refine iq (γ:=Unit) [0,2,3,4,5,6,16] (fun a5=> []) (fun a5=> [(0,⟨some cl,.var (bM.1:bt)⟩),(1,⟨some a3,.var (bM.2:Vector ak 4)⟩)]) (fun a5=> ?_) (fun hm ar=> ?_) fun hm ar=> ?_
   ·clear cG
    refine ad.dG ?_
    refine ad.next ?_
    refine ah.cn ?_
    refine bf c9 ?_
    refine aB ?_
    refine aj.nil ?_
    refine ad.bU 2 rfl ?_
    refine ad.bU 2 rfl ?_
    obtain rfl:=aG h
    exact e0 () 0
   ·have h:=gQ ar cG
    obtain⟨b0,de,h⟩:=aw h
    obtain⟨a7,dR,h⟩:=aw h
    obtain⟨dm,hn,h⟩:=aw h
    obtain⟨c1,fl,h⟩:=aw h
    obtain⟨eX,iL,h⟩:=aw h
    refine jq [0,2,3,4,5,6,7,8,9,10,11,12,13,14,15,16] ?_
    refine ah.ki mixed (bh 17 [] [] _ :: bh 18 [] [] _ :: bh 19 (1 :: []) [] _ :: bh 20 (2 :: []) [] _ :: bh 21 (3 :: []) (1 :: []) _ :: bh 22 (4 :: []) [] _ :: bh 23 [] [] _ :: ⟨some 24,(6 :: []),(0 :: []),(0 :: []),fun _=>I.of (a7.1),fun hd _=>⟨some cl,.var (a7.2:bt)⟩⟩ :: bh 25 (7 :: []) [] _ :: bh 26 (5 :: 8 :: []) [] _ :: bh 27 (0 :: []) [] _ :: bh 28 (10 :: []) [] _ :: ⟨none,(4 :: 9 :: 11 :: []),(1 :: []),(1 :: []),fun _=>I.any,fun hd _=>⟨some a3,.var (eX:Vector ak 4)⟩⟩ :: []) _ (0 :: 2 :: 3 :: 4 :: 5 :: 6 :: 7 :: 8 :: 9 :: 10 :: 11 :: 12 :: 13 :: 14 :: 15 :: 16 :: []) rfl rfl (by kernel_rfl) ⟨gA,gA,cP fun hd E' ay aH au=>ee (k:=b0) fD (ab (aH _ _ rfl)) (ab (aH _ _ rfl)) (cc de),fv (aW hO),n0 1 (((aL.id (Vector ak 4)).comp (aL.idx (α:=ak) 4 b0 (cc de).1)).comp dT) en,cP fun hd E' ay aH au=>m6 (ab (aH _ _ rfl)) (gb 24 rfl),gA,?_,fv (iB Tryz.underlying3 Tryz.underlying41),cP fun hd E' ay aH au=>(pT (ab (aH _ _ rfl)) (ab (aH _ _ rfl))).as (aG hn),cP fun hd E' ay aH au=>ee (k:=c1) fD (ab (aH _ _ rfl)) (ab (aH _ _ rfl)) (cc fl),fv (aW hO),?_,trivial⟩ fun gj=> ?_
    ·intro hd E' ay aH au
     refine aj.bU 0 (au 0 _ rfl rfl) ?_
     refine aj.l6 (Lin:= [⟨some cl,.var (aN.2:bt)⟩]) (Lr:=ay.eraseIdx 0) gh (fZ dR) ⟨ab (aH _ _ rfl),bK 256,trivial⟩ rfl fun iQ=> ?_
     refine aj.nil ?_
     refine ad.back 0 (au 0 _ rfl rfl) ?_
     exact ad.fin (eY []) rfl rfl
    ·intro hd E' ay aH au
     refine aj.store (i:=1) (((aL.id (Vector ak 4)).comp (aL.idx (α:=ak) 4 c1 (cc fl).1)).comp dT) (v:=(dm:BitVec 64)) (b':=(eX:Vector ak 4)) en (ab (aH _ _ rfl)) (ab (aH _ _ rfl)) (au 1 _ rfl rfl) rfl (aG iL) ?_
     refine aj.nil ?_
     exact ad.fin (eY []) rfl rfl
    refine ad.eI (L2:= [⟨some cl,.var (a7.2:bt)⟩,⟨some a3,.var (eX:Vector ak 4)⟩,⟨some aS,.var ((default:Vector ak 4):Vector ak 4)⟩]) rfl ?_
    refine ko [0,2,3,4,5,6,7,8,9,10,11,12,13,14,15,16,17,18,19,20,21,22,23,24,25,26,27,28] ?_
    obtain rfl:=aG h
    exact dt 0 (hm ())
   ·have h:=gR ar cG
    refine ah.skip ?_
    obtain rfl:=aG h
    exact dt 0 (hm ())
  ·refine ah.exit ?_
   refine ad.exit ?_
   obtain rfl:=aG h
   exact dU () 0
 ·clear ao
  refine ad.eT ?_
  refine ad.next ?_
  refine aC ?_
  refine b6 0 dv ?_
  refine b3 1 dv ?_
  refine aJ ?_
  refine ah.ret ?_
  refine ad.bU 2 rfl ?_
  obtain rfl:=aG h
  exact ad.hj () (.cons_cons _ (List.nil_sublist _)) rfl rfl (jV (i:=2) dv rfl rfl)
theorem Ry {J:ak} {ag:Int} {r:Bool} (h:yz J ag=some r):bw Tryz.prog 248 [I.of (J),I.of (ag)] (I.of (r)):=by
 unfold yz at h
 refine bw.of Tryz.func248 rfl Tryz.ntmps248 rfl fun W A=> ?_
 refine aC ?_
 refine cf fun aS=> ?_
 refine aK ?_
 refine bZ ?_
 refine b6 0 bN ?_
 obtain⟨al,bs,h⟩:=aw h
 refine dc Vo (RI bs) ?_
 refine aB ?_
 refine bf q1 ?_
 refine aK ?_
 refine aJ ?_
 refine ah.ret ?_
 obtain rfl:=aG h
 exact c8
theorem Re {J:a2} {ag:cE} {r:Int} (h:tu J ag=some r):bw Tryz.prog 283 [I.of (J),I.of (ag)] (I.of (r)):=by
 unfold tu at h
 refine bw.of Tryz.func283 rfl Tryz.ntmps283 rfl fun W A=> ?_
 refine aC ?_
 refine cf fun aS=> ?_
 refine cf fun a3=> ?_
 refine aK ?_
 refine bZ ?_
 refine b6 1 fH ?_
 refine aY (aW zi) ?_
 refine cb 0 mY bE ?_
 obtain⟨al,bs,h⟩:=aw h
 refine dc Hy (Fb bs) ?_
 refine aK ?_
 refine bG ?_
 refine aC ?_
 refine aB ?_
 refine bf eb ?_
 refine aJ ?_
 refine ch h (fun h=>?_) fun h=>?_
 ·refine aC ?_
  refine aK ?_
  refine aJ ?_
  refine ah.ret ?_
  refine ad.ret ?_
  obtain rfl:=aG h
  exact c8
 ·refine cJ ?_
  refine aC ?_
  refine aY (aW sv) ?_
  refine cb 1 rY rf ?_
  refine aB ?_
  obtain⟨aZ,cv,h⟩:=aw h
  refine gJ cv Tryz.underlying24 nP ?_
  refine AK mX y3 ?_
  refine aY (c2 bE) ?_
  refine aK ?_
  refine aJ ?_
  refine ah.ret ?_
  obtain rfl:=aG h
  exact c8
theorem Rz {J:a2} {ag:Int} {r:Int} (h:Cr J ag=some r):bw Tryz.prog 89 [I.of (J),I.of (ag)] (I.of (r)):=by
 unfold Cr at h
 refine bw.of Tryz.func89 rfl Tryz.ntmps89 rfl fun W A=> ?_
 refine aC ?_
 refine cf fun aS=> ?_
 refine aK ?_
 refine bG ?_
 obtain⟨al,bs,h⟩:=aw h
 obtain⟨aZ,cv,h⟩:=aw h
 refine ah.draw mixed 8 [some 5,some 6,some 7,some 8,some 9,some 10,some 11,some 12] [[],[0],[],[],[2,3],[1,4],[5],[6]] [.val _,.val _,.val _,.val _,.val _,.val _,.val _,.val _] [false,false,false,false,false,false,false,false] (by kernel_rfl) rfl rfl rfl (fun cV=>⟨H1 (aW sv),dy 0 rY rf,e1 0 fH,cR,e8 Vp (QZ bs),lI cv Tryz.underlying24 nP,nq mX y3,H1 (c2 bE),trivial⟩) fun cV=> ?_
 refine aK ?_
 refine aJ ?_
 refine ah.ret ?_
 obtain rfl:=aG h
 exact c8
end Go.Proofs.YtmnggbjcnoffeaaGreat
namespace Go.Proofs.YtmnggbjcnoffeaaGreat
open Go Gv
set_option linter.unusedVariables false
set_option linter.unusedSimpArgs false
set_option maxRecDepth 100000
set_option maxHeartbeats 2000000
theorem Cv {J:ak} {ag:ak} {r:ak} (h:sa J ag=some r):bw Tryz.prog 193 [I.of (J),I.of (ag)] (I.of (r)):=by
 unfold sa at h
 refine bw.of Tryz.func193 rfl Tryz.ntmps193 rfl fun W A=> ?_
 refine aC ?_
 refine cf fun aS=> ?_
 refine cf fun a3=> ?_
 refine cx dP fun bH=> ?_
 refine bZ ?_
 refine aY (aW jC) ?_
 refine cb 2 g8 en ?_
 refine aY (aW jC) ?_
 refine cb 1 g8 en ?_
 refine bf L1 ?_
 refine aY (aW hO) ?_
 refine cb 2 dT en ?_
 refine aY (aW hO) ?_
 refine cb 1 dT en ?_
 refine bf L1 ?_
 obtain⟨bl,di,h⟩:=aw h
 refine dj di (cU (b:= { c6:=J.c6 ^^^ ag.c6,bO:=J.bO ^^^ ag.bO:ak }) rfl gT dP (.cons g8 rfl (ab rfl) rfl (.cons dT rfl (ab rfl) rfl (.nil)))) ?_
 refine b3 0 bN ?_
 refine aJ ?_
 refine ah.ret ?_
 obtain rfl:=aG h
 exact ad.hg rfl (eH 0 bN)
theorem nD {J:ak} {ag:ak} {r:ak} (h:lk J ag=some r):bw Tryz.prog 148 [I.of (J),I.of (ag)] (I.of (r)):=by
 unfold lk at h
 refine bw.of Tryz.func148 rfl Tryz.ntmps148 rfl fun W A=> ?_
 refine aC ?_
 refine cf fun aS=> ?_
 refine cf fun a3=> ?_
 refine cx dP fun bH=> ?_
 refine bZ ?_
 refine aY (aW jC) ?_
 refine cb 2 g8 en ?_
 refine aY (aW jC) ?_
 refine cb 1 g8 en ?_
 refine bf sl ?_
 refine aY (aW hO) ?_
 refine cb 2 dT en ?_
 refine aY (aW hO) ?_
 refine cb 1 dT en ?_
 refine bf sl ?_
 obtain⟨bl,di,h⟩:=aw h
 refine dj di (cU (b:= { c6:=J.c6 &&& ag.c6,bO:=J.bO &&& ag.bO:ak }) rfl gT dP (.cons g8 rfl (ab rfl) rfl (.cons dT rfl (ab rfl) rfl (.nil)))) ?_
 refine b3 0 bN ?_
 refine aJ ?_
 refine ah.ret ?_
 obtain rfl:=aG h
 exact ad.hg rfl (eH 0 bN)
theorem E9 {J:Ref} {ag:ak} {aT:Int} {r:Int × ak × Ref} (h:ye J ag aT=some r):bw Tryz.prog 250 [I.of (J),I.of (ag),I.of (aT)] (I.gW 255 [I.ptr r.1,I.ptr r.2.1,I.ptr r.2.2]):=by
 unfold ye at h
 refine bw.of Tryz.func250 rfl Tryz.ntmps250 rfl fun W A=> ?_
 refine aC ?_
 refine cf fun aS=> ?_
 refine cf fun a3=> ?_
 refine cf fun bH=> ?_
 refine bj (eG (C7 .nilFunc)) ?_
 refine bZ ?_
 refine aj.share (α:=Int) 0 5 rfl rfl ?_
 refine aj.share (α:=ak) 1 4 rfl rfl ?_
 refine aj.share (α:=Ref) 2 3 rfl rfl ?_
 refine bj (G0 (f:=255) (τs:= [I.ptr aT,I.ptr ag,I.ptr J]) ⟨ab rfl,ab rfl,ab rfl,trivial⟩) ?_
 refine aK ?_
 refine aJ ?_
 refine ah.ret ?_
 obtain rfl:=aG h
 exact c8
theorem PY {J:List cr} {r:(List cr)} (h:BR J=some r):bw Tryz.prog 161 [I.of (J)] (I.of (r)):=by
 unfold BR at h
 refine bw.of Tryz.func161 rfl Tryz.ntmps161 rfl fun W A=> ?_
 refine aC ?_
 refine bj (eG (look_nil (α:=cr))) ?_
 refine bG ?_
 refine aC ?_
 refine aB ?_
 refine bj (GX Tryz.underlying47 (ab rfl)) ?_
 refine aJ ?_
 refine ah.GY (ab rfl) (fun aq=> ?_) ?_
 ·subst aq; replace h:=FA h; subst h
  have h:some ([]:List cr)=some []:=rfl
  refine aC ?_
  refine bj (eG (look_nil (α:=cr))) ?_
  refine aJ ?_
  refine ah.ret ?_
  refine ad.ret ?_
  replace h:=aG h
  clear h
  exact c8
 ·refine cJ ?_
  refine aC ?_
  refine aj.o8 (α:=cr) (r:=([]:List cr)) Tryz.underlying47 gG l9 rfl rfl (.nil) rfl fun gZ=> ?_
  refine aB ?_
  obtain⟨al,bs,h⟩:=aw h
  refine jI 0 Tryz.underlying47 gG l9 bs fun jZ fA=> ?_
  refine aK ?_
  refine aJ ?_
  refine ah.ret ?_
  refine ad.l1 (α:=cr) 0 [2,7] ⟨rfl,rfl,trivial⟩ rfl ?_
  obtain rfl:=aG h
  exact c8
theorem PZ {J:List ak} {r:(List ak)} (h:BS J=some r):bw Tryz.prog 162 [I.of (J)] (I.of (r)):=by
 unfold BS at h
 refine bw.of Tryz.func162 rfl Tryz.ntmps162 rfl fun W A=> ?_
 refine aC ?_
 refine bj (eG (look_nil (α:=ak))) ?_
 refine bG ?_
 refine aC ?_
 refine aB ?_
 refine bj (GX Tryz.underlying48 (ab rfl)) ?_
 refine aJ ?_
 refine ah.GY (ab rfl) (fun aq=> ?_) ?_
 ·subst aq; replace h:=FA h; subst h
  have h:some ([]:List ak)=some []:=rfl
  refine aC ?_
  refine bj (eG (look_nil (α:=ak))) ?_
  refine aJ ?_
  refine ah.ret ?_
  refine ad.ret ?_
  replace h:=aG h
  clear h
  exact c8
 ·refine cJ ?_
  refine aC ?_
  refine aj.o8 (α:=ak) (r:=([]:List ak)) Tryz.underlying48 bN dP rfl rfl (.nil) rfl fun gZ=> ?_
  refine aB ?_
  obtain⟨al,bs,h⟩:=aw h
  refine jI 0 Tryz.underlying48 bN dP bs fun jZ fA=> ?_
  refine aK ?_
  refine aJ ?_
  refine ah.ret ?_
  refine ad.l1 (α:=ak) 0 [2,7] ⟨rfl,rfl,trivial⟩ rfl ?_
  obtain rfl:=aG h
  exact c8
theorem P0 {J:List cr} {ag:List cr} {r:Bool} (h:xE J ag=some r):bw Tryz.prog 270 [I.of (J),I.of (ag)] (I.of (r)):=by
 unfold xE at h
 refine bw.of Tryz.func270 rfl Tryz.ntmps270 rfl fun W A=> ?_
 refine aC ?_
 refine aK ?_
 refine bG ?_
 refine aC ?_
 refine aB ?_
 refine aY (eS Tryz.underlying47) ?_
 refine aB ?_
 refine aY (eS Tryz.underlying47) ?_
 refine bf sD ?_
 refine aJ ?_
 refine ch h (fun h=>?_) fun h=>?_
 ·refine aC ?_
  refine aK ?_
  refine aJ ?_
  refine ah.ret ?_
  refine ad.ret ?_
  obtain rfl:=aG h
  exact c8
 ·refine cJ ?_
  refine ah.seq ?_
  refine aC ?_
  refine aB ?_
  refine aY (eS Tryz.underlying47) ?_
  refine aB ?_
  refine aJ ?_
  refine ah.block ?_
  obtain⟨aA,ao,h⟩:=aw h
  refine gN (γ:=Unit) (δ:=Unit) ao [0,1,4,10,12] (fun s1 az=> [(13,I.of (s1))]) (fun s1 az=> []) (fun aF=>Sum.elim (fun aF=>Exit.exit 0) (fun aF=>Exit.ret) aF) (fun aF az=>Sum.elim (fun aF=> [(13,I.of (aF.1)),(14,I.of (aF.2))]) (fun aF=> [(5,I.of (aF.1)),(13,I.of (aF.2.1)),(14,I.of (aF.2.2.1)),(24,I.of (aF.2.2.2))]) aF) (fun aF az=>Sum.elim (fun aF=> []) (fun aF=> []) aF) () (fun s1 r h az=> ?_) fun az=> ?_
  ·clear ao
   refine aC ?_
   refine bf eb ?_
   refine bG ?_
   refine ch h (fun h=>?_) fun h=>?_
   ·refine cJ ?_
    refine ah.seq ?_
    refine ah.block ?_
    refine aC ?_
    refine aB ?_
    refine aK ?_
    refine bG ?_
    obtain⟨aZ,cv,h⟩:=aw h
    obtain⟨b0,de,h⟩:=aw h
    refine ah.draw mixed 9 [some 16,some 17,some 18,some 19,some 20,some 21,some 22,some 23,some 24] [[],[],[0,1],[2],[],[],[4,5],[6],[3,7]] [.val _,.val _,.val _,.val _,.val _,.val _,.val _,.val _,.val _] [false,false,false,false,false,false,false,false,false] (by kernel_rfl) rfl rfl rfl (fun cV=>⟨cR,cR,lI cv Tryz.underlying47 gG,H1 (c2 gG),cR,cR,lI de Tryz.underlying47 gG,H1 (c2 gG),kx (Dh Vq rfl Vr rfl),trivial⟩) fun cV=> ?_
    refine aJ ?_
    refine ch h (fun h=>?_) fun h=>?_
    ·refine aC ?_
     refine aK ?_
     refine aJ ?_
     refine ah.ret ?_
     refine ad.dQ ?_
     refine ad.ret ?_
     obtain rfl:=aG h
     exact dU () 0
    ·refine ah.skip ?_
     refine ad.dG ?_
     refine ad.next ?_
     refine ah.cn ?_
     refine bf c9 ?_
     refine aB ?_
     refine aj.nil ?_
     obtain rfl:=aG h
     exact e0 () 0
   ·refine ah.exit ?_
    refine ad.exit ?_
    obtain rfl:=aG h
    exact dU () 0
  ·clear ao
   rcases aA with aA | aA
   ·simp only [Sum.elim_inl] at h
    refine ad.eT ?_
    refine ad.next ?_
    refine aC ?_
    refine aK ?_
    refine aJ ?_
    refine ah.ret ?_
    obtain rfl:=aG h
    exact c8
   ·simp only [Sum.elim_inr] at h
    refine ad.dQ ?_
    refine ad.ret ?_
    obtain rfl:=aG h
    exact c8
theorem QP {hp:a9 Cell} {J:Ref} {ag:Vector ak 4} {aT:Int} {r:Bool × (a9 Cell)} (h:Cm hp J ag aT=some r):cy Tryz.prog 233 [I.of (J),I.of (ag),I.of (aT)] ([] ++ ba hp) (δ:=Unit) (fun d=>I.of (r.1)) (fun d=> [] ++ ba r.2):=by
 unfold Cm at h
 refine cy.of Tryz.func233 rfl Tryz.ntmps233 rfl fun W A=> ?_
 refine aC ?_
 refine cf fun aS=> ?_
 refine aK ?_
 refine bG ?_
 refine aC ?_
 refine aB ?_
 refine bj (oV Tryz.underlying163 (ab rfl)) ?_
 refine aJ ?_
 refine ch h (fun h=>?_) fun h=>?_
 ·refine aC ?_
  refine aK ?_
  refine aJ ?_
  refine ah.ret ?_
  refine ad.ret ?_
  obtain rfl:=aG h
  exact ad.hj () (.cons _ (.refl _)) rfl rfl (eD rfl)
 ·refine cJ ?_
  refine ah.seq ?_
  refine ah.seq ?_
  obtain⟨dg,e7,h⟩:=aw h
  obtain⟨cF,fT,h⟩:=aw h
  obtain⟨cK,gi,h⟩:=aw h
  obtain⟨da,ho,h⟩:=aw h
  obtain⟨bl,di,h⟩:=aw h
  refine ah.draw mixed 10 [some 12,some 13,some 14,some 15,some 16,some 17,some 11,some 18,some 19,some 7] [[],[0],[1],[2],[],[3,4],[5],[6],[6],[7]] [.val _,.val _,.val _,.val _,.val _,.val _,.val _,.val _,.val _,.val _] [false,false,false,false,false,false,false,false,false,false] (by kernel_rfl) rfl rfl rfl (fun cV=>⟨cR,du fun ay au=>ff (fQ (ab rfl) e7),H1 (aW F8),du fun ay au=>h0 ((aL.id m0).comp B1) (r:=cF.o1) Di (ab rfl) (nj (fun i e q=>au i e q rfl) (gU (n:=1) rfl (wb fT) rfl)) rfl rfl,e1 0 dv,du fun ay au=>FR (r:=bl) Tryz.underlying222 GZ hI (oT (ab rfl) gi) (ab rfl) (nj (fun i e q=>au i e q rfl) (gU (n:=1) rfl (tX ho) rfl)) (aG di),cR,sU,sU,u6,trivial⟩) fun cV=> ?_
  refine aK ?_
  refine bZ ?_
  refine aB ?_
  refine aJ ?_
  refine ch h (fun h=>?_) fun h=>?_
  ·refine aC ?_
   refine aK ?_
   refine aJ ?_
   refine ah.ret ?_
   refine ad.ret ?_
   obtain rfl:=aG h
   exact ad.hj () (.cons _ (.refl _)) rfl rfl (eD rfl)
  ·refine cJ ?_
   refine ah.seq ?_
   refine ah.draw mixed 6 [some 21,some 22,some 23,some 24,some 25,some 26] [[],[0],[1],[2],[],[]] [.val _,.val _,.val _,.val _,.val _,.val _] [false,false,false,false,false,false] (by kernel_rfl) rfl rfl rfl (fun hB=>⟨cR,du fun ay au=>ff (fQ (ab rfl) e7),H1 (aW F8),du fun ay au=>h0 ((aL.id m0).comp B1) (r:=cF.o1) Di (ab rfl) (nj (fun i e q=>au i e q rfl) (gU (n:=1) rfl (wb fT) rfl)) rfl rfl,e1 0 dv,cR,trivial⟩) fun hB=> ?_
   obtain⟨dV,pa,h⟩:=aw h
   refine aj.G2 (k':=Cell.o7 (gH da ag aT)) 1 rfl (by first | exact .inl rfl | exact .inr rfl) Tryz.underlying222 GZ (oT (ab rfl) gi) (ab rfl) (ab rfl) (tX ho) rfl rfl rfl (aG pa) ?_
   refine bZ ?_
   refine aK ?_
   refine aJ ?_
   refine ah.ret ?_
   obtain rfl:=aG h
   exact ad.hj () (.cons _ (.refl _)) rfl rfl (eD rfl)
end Go.Proofs.YtmnggbjcnoffeaaGreat
namespace Go.Proofs.YtmnggbjcnoffeaaGreat
open Go Gv
set_option linter.unusedVariables false
set_option linter.unusedSimpArgs false
set_option maxRecDepth 100000
set_option maxHeartbeats 2000000
theorem Qv {hp:a9 Cell} {J:kf} {ag:bJ} {r:Int × Bool} (h:xZ hp J ag=some r):cy Tryz.prog 227 [I.of (J),I.of (ag)] ([] ++ ba hp) (δ:=Unit) (fun _=>I.cN [I.of (r.1),I.of (r.2)]) (fun _=> [] ++ ba hp):=by
 unfold xZ at h
 refine cy.of Tryz.func227 rfl Tryz.ntmps227 rfl fun W A=> ?_
 refine aC ?_
 refine cf fun aS=> ?_
 refine cf fun a3=> ?_
 refine aK ?_
 refine aK ?_
 refine bG ?_
 obtain⟨al,bs,h⟩:=aw h
 obtain⟨aN,ck,h⟩:=aw h
 refine jq [0,1,2,3] ?_
 refine ah.sE 2 mixed (bh 6 [] [] _ :: bh 7 (0 :: []) (1 :: []) _ :: bh 8 [] (0 :: []) _ :: bh 9 (2 :: []) [] _ :: ⟨some 10,(1 :: 3 :: []),[],[],fun _=>I.cN [I.of (aN.1),I.of (aN.2)],fun _ _=>⟨none,.dead⟩⟩ :: bh 11 (4 :: []) [] _ :: bh 12 (4 :: []) [] _ :: bh 4 (5 :: []) [] _ :: bh 5 (6 :: []) [] _ :: []) _ (0 :: 1 :: 2 :: 3 :: []) rfl rfl (by kernel_rfl) (by kernel_rfl) ⟨df.q (fv (aW Gb)),df.q (n0 1 B7 Dk),df.q (lJ 0 iC),df.q (cP fun hd E' ay aH au=>hP G3 (Fh bs) ⟨ab (aH _ _ rfl),trivial⟩),?_,df.q (cP fun hd E' ay aH au=>lz (ab (aH _ _ rfl)) rfl),df.q (cP fun hd E' ay aH au=>lz (ab (aH _ _ rfl)) rfl),df.q (cP fun hd E' ay aH au=>eG (ab (aH _ _ rfl))),df.q (cP fun hd E' ay aH au=>eG (ab (aH _ _ rfl))),trivial⟩ fun gj=> ?_
 ·intro hd E' ay aH au dZ
  refine aj.lS (hX.nR 2 (dZ.trans rfl) Nl (J4 ck) ⟨ab (aH _ _ rfl),ab (aH _ _ rfl),trivial⟩) rfl rfl rfl ?_
  refine aj.nil ?_
  exact ad.fin (eY []) rfl rfl
 refine ad.eI (L2:=(⟨some a3,.var (ag:bJ)⟩ :: ⟨some aS,.var (J:kf)⟩ :: ba hp)) rfl ?_
 refine ko [0,1,2,3,4,5,6,7,8,9,10,11,12] ?_
 refine ad.next ?_
 refine ah.ret ?_
 obtain rfl:=aG h
 exact ad.k5 () (.cons _ (.cons _ (.refl _))) rfl rfl (eD rfl) (eD rfl)
theorem JQ {J:et} {ag:bJ} {r:(Vector ak 4) × ak × Int} (h:vk J ag=some r):bw Tryz.prog 239 [I.of (J),I.of (ag)] (I.cN [I.of (r.1),I.of (r.2.1),I.of (r.2.2)]):=by
 unfold vk at h
 refine bw.of Tryz.func239 rfl Tryz.ntmps239 rfl fun W A=> ?_
 refine aC ?_
 refine cf fun aS=> ?_
 refine cf fun a3=> ?_
 refine cx wz fun bH=> ?_
 refine cx dP fun cA=> ?_
 refine aK ?_
 refine bG ?_
 obtain⟨al,bs,h⟩:=aw h
 obtain⟨aN,ck,h⟩:=aw h
 refine ah.draw mixed 10 [some 10,some 11,some 12,some 13,some 9,some 14,some 15,some 7,some 8,none] [[],[],[1],[0,2],[3],[4],[4],[],[],[5,7]] [.val _,.val _,.val _,.val _,.val _,.val _,.val _,.new (.var (default:Vector ak 4)),.new (.var (default:ak)),.lK 7 (.var (aN.1:Vector ak 4))] [false,false,false,false,false,false,false,false,false,true] (by kernel_rfl) rfl rfl rfl (fun cV=>⟨e1 3 Dl,e1 2 iC,e8 G3 (Fh bs),e8 Nn (JS ck),cR,sU,sU,tK wz,tK dP,⟨rfl,_,rfl,fun ay q hq=>qU (i:=q) (aL.id (Vector ak 4)) (v:=(aN.1:Vector ak 4)) (b':=(aN.1:Vector ak 4)) h7 (ab rfl) (ab rfl) hq rfl rfl⟩,trivial⟩) fun cV=> ?_
 refine b3 1 bN ?_
 refine bG ?_
 refine aC ?_
 refine aY (aW CT) ?_
 refine cb 5 xF bE ?_
 refine aY (aW k4) ?_
 refine cb 4 ke kI ?_
 refine aY (eS Tryz.underlying47) ?_
 refine bf jU ?_
 refine aJ ?_
 refine ch h (fun h=>?_) fun h=>?_
 ·refine ah.seq ?_
  refine ah.draw mixed 3 [some 22,some 23,none] [[],[],[0]] [.val _,.val _,.j3 3 (.var (aN.1:Vector ak 4))] [false,false,true] (by kernel_rfl) rfl rfl rfl (fun hB=>⟨e1 0 h7,e1 1 bN,⟨_,_,rfl,fun ay au=>qU (i:=3) (aL.id (Vector ak 4)) (v:=(aN.1:Vector ak 4)) (b':=(aN.1:Vector ak 4)) h7 (ab rfl) (ab rfl) (au _ _ rfl) rfl rfl⟩,trivial⟩) fun hB=> ?_
  refine b3 2 bN ?_
  refine aK ?_
  refine aJ ?_
  refine ah.ret ?_
  refine ad.ret ?_
  obtain rfl:=aG h
  exact ad.qa rfl (eH 3 h7) (eH 2 bN) (h9 rfl)
 ·refine cJ ?_
  refine ah.seq ?_
  obtain⟨aZ,cv,h⟩:=aw h
  refine ah.draw mixed 11 [some 24,some 25,some 26,some 27,some 28,some 29,some 30,some 31,some 32,none,none] [[],[],[],[2],[],[4],[3,5],[6],[7],[0],[1]] [.val _,.val _,.val _,.val _,.val _,.val _,.val _,.val _,.val _,.j3 3 (.var (aN.1:Vector ak 4)),.j3 2 (.var (aN.2:ak))] [false,false,false,false,false,false,false,false,false,true,true] (by kernel_rfl) rfl rfl rfl (fun qh=>⟨e1 0 h7,e1 1 bN,H1 (aW k4),dy 4 ke kI,H1 (aW CT),dy 5 xF bE,lI cv Tryz.underlying47 gG,nq pL tW,H1 (c2 bE),⟨_,_,rfl,fun ay au=>qU (i:=3) (aL.id (Vector ak 4)) (v:=(aN.1:Vector ak 4)) (b':=(aN.1:Vector ak 4)) h7 (ab rfl) (ab rfl) (au _ _ rfl) rfl rfl⟩,⟨_,_,rfl,fun ay au=>qU (i:=2) (aL.id ak) (v:=(aN.2:ak)) (b':=(aN.2:ak)) bN (ab rfl) (ab rfl) (au _ _ rfl) rfl rfl⟩,trivial⟩) fun qh=> ?_
  refine aK ?_
  refine aJ ?_
  refine ah.ret ?_
  obtain rfl:=aG h
  exact ad.qa rfl (eH 3 h7) (eH 2 bN) (h9 rfl)
theorem yA {J:Int} {r:ak} (h:qI J=some r):bw Tryz.prog 188 [I.of (J)] (I.of (r)):=by
 unfold qI at h
 refine bw.of Tryz.func188 rfl Tryz.ntmps188 rfl fun W A=> ?_
 refine aC ?_
 refine cx dP fun aS=> ?_
 refine bZ ?_
 obtain⟨bl,di,h⟩:=aw h
 refine dj di (cU (b:= { c6:=18446744073709551615#64,bO:=18446744073709551615#64:ak }) rfl gT dP (.cons g8 rfl (gb 18446744073709551615 rfl) rfl (.cons dT rfl (gb 18446744073709551615 rfl) rfl (.nil)))) ?_
 refine aB ?_
 obtain⟨al,bs,h⟩:=aw h
 refine dc No (Ke bs) ?_
 refine bf ly ?_
 obtain⟨aN,ck,h⟩:=aw h
 refine dc Np (Kk ck) ?_
 refine b3 0 bN ?_
 refine aJ ?_
 refine ah.ret ?_
 obtain rfl:=aG h
 exact ad.hg rfl (eH 0 bN)
theorem Cw {J:ak} {ag:Int} {r:Bool} (h:qL J ag=some r):bw Tryz.prog 196 [I.of (J),I.of (ag)] (I.of (r)):=by
 unfold qL at h
 refine bw.of Tryz.func196 rfl Tryz.ntmps196 rfl fun W A=> ?_
 refine aC ?_
 refine cf fun aS=> ?_
 refine aK ?_
 refine bZ ?_
 refine aB ?_
 refine bf jU ?_
 refine aB ?_
 refine dE c3 ?_
 refine kn eb ?_
 refine ja ?_
 refine aB ?_
 refine eW (fun hb=>fj (i:=0) (aL.id ak) (r:=J) bN (ab rfl) rfl rfl rfl) ?_
 refine dE c3 ?_
 obtain⟨al,bs,h⟩:=aw h
 refine eW (fun hb=>hP Np (Kk (ha bs hb)) ⟨ct rfl hb,ct rfl hb,trivial⟩) ?_
 refine eW (fun hb=>Gc dT MG en rfl (ct rfl hb) rfl rfl) ?_
 refine eW (fun hb=>sl (ct rfl hb) (gb 1 rfl)) ?_
 refine eW (fun hb=>CU (ct rfl hb) (gb 1 rfl)) ?_
 obtain⟨bl,di,h⟩:=aw h
 refine dj di (pX (ab rfl) (ab rfl) (fun h=>h)) ?_
 refine aK ?_
 refine aJ ?_
 refine ah.ret ?_
 obtain rfl:=aG h
 exact c8
theorem RJ {J:bJ} {r:bJ} (h:Cx J=some r):bw Tryz.prog 122 [I.of (J)] (I.of (r)):=by
 unfold Cx at h
 refine bw.of Tryz.func122 rfl Tryz.ntmps122 rfl fun W A=> ?_
 refine aC ?_
 refine cf fun aS=> ?_
 refine cx wP fun a3=> ?_
 refine bG ?_
 obtain⟨al,bs,h⟩:=aw h
 obtain⟨aN,ck,h⟩:=aw h
 refine ah.draw mixed 7 [some 3,some 4,some 5,some 6,some 7,some 8,some 9] [[],[0],[1],[],[3],[4],[]] [.val _,.val _,.val _,.val _,.val _,.val _,.val _] [false,false,false,false,false,false,false] (by kernel_rfl) rfl rfl rfl (fun cV=>⟨H1 (aW k4),dy 1 ke kI,e8 Vs (PY bs),H1 (aW C8),dy 1 B8 Ah,e8 Vt (PZ ck),H1 (aW k4),trivial⟩) fun cV=> ?_
 refine me 1 ke kI ?_
 refine aY (aW C8) ?_
 obtain⟨bl,di,h⟩:=aw h
 refine w6 1 B8 Ah (hb:=by exact di) ?_
 refine bZ ?_
 refine b6 1 iC ?_
 refine b3 0 iC ?_
 refine aJ ?_
 refine ah.ret ?_
 obtain rfl:=aG h
 exact ad.hg rfl (eH 0 iC)
theorem Q0 {J:bJ} {ag:bJ} {r:Bool} (h:yj J ag=some r):bw Tryz.prog 265 [I.of (J),I.of (ag)] (I.of (r)):=by
 unfold yj at h
 refine bw.of Tryz.func265 rfl Tryz.ntmps265 rfl fun W A=> ?_
 refine aC ?_
 refine cf fun aS=> ?_
 refine cf fun a3=> ?_
 refine aK ?_
 refine bZ ?_
 refine aY (aW zh) ?_
 refine cb 1 rZ bE ?_
 refine aY (aW zh) ?_
 refine cb 0 rZ bE ?_
 refine bf gf ?_
 refine aB ?_
 refine dE (aW k4) ?_
 refine eW (fun hb=>fj (i:=1) ((aL.id bJ).comp ke) (r:=J.bY) kI (ct rfl hb) rfl rfl rfl) ?_
 refine dE (aW k4) ?_
 refine eW (fun hb=>fj (i:=0) ((aL.id bJ).comp ke) (r:=ag.bY) kI (ct rfl hb) rfl rfl rfl) ?_
 obtain⟨al,bs,h⟩:=aw h
 refine eW (fun hb=>hP Vu (P0 (ha bs hb)) ⟨ct rfl hb,ct rfl hb,trivial⟩) ?_
 refine ja ?_
 refine aB ?_
 refine dE (aW zj) ?_
 refine eW (fun hb=>fj (i:=1) ((aL.id bJ).comp tl) (r:=J.hY) bE (ct rfl hb) rfl rfl rfl) ?_
 refine dE (aW zj) ?_
 refine eW (fun hb=>fj (i:=0) ((aL.id bJ).comp tl) (r:=ag.hY) bE (ct rfl hb) rfl rfl rfl) ?_
 refine kn gf ?_
 refine ja ?_
 refine aK ?_
 refine aJ ?_
 refine ah.ret ?_
 obtain rfl:=aG h
 exact c8
theorem QK {hp:a9 Cell} {J:kf} {ag:aI} {r:(a9 Cell)} (h:ya hp J ag=some r):cy Tryz.prog 229 [I.of (J),I.of (ag)] ([] ++ ba hp) (δ:=Unit) (fun d=>I.cN []) (fun d=> [] ++ ba r):=by
 unfold ya at h
 refine cy.of Tryz.func229 rfl Tryz.ntmps229 rfl fun W A=> ?_
 refine aC ?_
 refine cf fun aS=> ?_
 refine cf fun a3=> ?_
 refine aJ ?_
 obtain⟨al,bs,h⟩:=aw h
 refine ah.draw mixed 7 [some 4,some 5,some 6,some 7,some 8,some 9,some 10] [[],[0],[],[2],[3],[],[5]] [.val _,.val _,.val _,.val _,.val _,.val _,.val _] [false,false,false,false,false,false,false] (by kernel_rfl) rfl rfl rfl (fun cV=>⟨H1 (aW Gb),dy 1 B7 Dk,H1 (aW my),dy 0 k0 iC,e8 G3 (Fh bs),H1 (aW lu),dy 0 kd bE,trivial⟩) fun cV=> ?_
 obtain⟨aN,ck,h⟩:=aw h
 refine aj.nS 2 0 rfl Vv (QP ck) rfl rfl ⟨ab rfl,ab rfl,ab rfl,trivial⟩ rfl fun aF=> ?_
 refine aj.eI (L2:=(⟨some a3,.var (ag:aI)⟩ :: ⟨some aS,.var (J:kf)⟩ :: ba aN.2)) rfl ?_
 refine aj.nil ?_
 refine ad.sM ?_
 obtain rfl:=aG h
 exact ad.ox () (.cons _ (.cons _ (.refl _))) rfl rfl
end Go.Proofs.YtmnggbjcnoffeaaGreat
namespace Go.Proofs.YtmnggbjcnoffeaaGreat
open Go Gv
set_option linter.unusedVariables false
set_option linter.unusedSimpArgs false
set_option maxRecDepth 100000
set_option maxHeartbeats 2000000
theorem Fc {J:Int} {ag:Int} {r:ak} (h:tt J ag=some r):bw Tryz.prog 189 [I.of (J),I.of (ag)] (I.of (r)):=by
 unfold tt at h
 refine bw.of Tryz.func189 rfl Tryz.ntmps189 rfl fun W A=> ?_
 refine aC ?_
 refine cx dP fun aS=> ?_
 refine bZ ?_
 refine aB ?_
 obtain⟨al,bs,h⟩:=aw h
 refine dc No (Ke bs) ?_
 refine aK ?_
 refine bZ ?_
 refine aB ?_
 refine bf Dg ?_
 refine aB ?_
 refine bf wx ?_
 refine aK ?_
 refine bZ ?_
 refine aB ?_
 obtain⟨aN,ck,h⟩:=aw h
 refine dc zG (yA ck) ?_
 refine aB ?_
 refine aB ?_
 refine bf ly ?_
 obtain⟨a7,dR,h⟩:=aw h
 refine dc zG (yA dR) ?_
 obtain⟨bR,e2,h⟩:=aw h
 refine dc Dm (Cv e2) ?_
 refine b3 0 bN ?_
 refine aJ ?_
 refine ah.ret ?_
 obtain rfl:=aG h
 exact ad.hg rfl (eH 0 bN)
theorem Ql {ag:Int} {aT:ak} {cB:Ref} :zk Tryz.prog 255 [I.ptr ag,I.ptr aT,I.ptr cB] (fun v:Int=>I.of v) (fun {σ ε} hq step cd=>tm (σ:=σ) (ε:=ε) ag aT cB hq step cd):=by
 refine zk.of Tryz.func255 rfl Tryz.ntmps255 rfl ?_
 intro σ ε γ Ls Lx hq jw mL step cd g0 R h W A u qs
 replace h:tm ag aT cB hq step cd R:=h
 unfold tm at h
 refine aC ?_
 refine aY (c2 bE) ?_
 refine aB ?_
 refine aJ ?_
 refine ah.block ?_
 refine ah.MH (σ:=Int × (σ)) (ε:=(Int × Bool × (σ)) ⊕ (Int × Int × Int × Bool × Bool × Bool × (ε))) (γ:=γ) (δ:=γ) h (fun s1 az=> [(0,I.eq u),(1,I.ptr ag),(2,I.ptr aT),(3,I.ptr cB),(7,I.of (ag)),(8,I.of (s1.1))]) (fun s1 az=>(Ls s1.2 az)) (fun aF=>Sum.elim (fun aF=>Exit.exit 0) (fun aF=>Exit.ret) aF) (fun aF az=>Sum.elim (fun aF=> [(0,I.eq u),(1,I.ptr ag),(2,I.ptr aT),(3,I.ptr cB),(7,I.of (ag)),(8,I.of (aF.1)),(9,I.of (aF.2.1))]) (fun aF=> [(0,I.eq u),(1,I.ptr ag),(2,I.ptr aT),(3,I.ptr cB),(5,I.of (aF.1)),(6,I.of (aF.2.1)),(7,I.of (ag)),(8,I.of (aF.2.2.1)),(9,I.of (aF.2.2.2.1)),(19,I.of (aF.2.2.2.2.1)),(23,I.of (aF.2.2.2.2.2.1))]) aF) (fun aF az=>Sum.elim (fun aF=>(Ls aF.2.2 az)) (fun aF=>(Lx aF.2.2.2.2.2.2 az)) aF) g0 rfl (.same rfl (.same rfl (.same rfl (.same rfl (.same rfl (.same rfl .nil)))))) (fun s1 R h az=> ?_) (fun aA h az=> ?_)
 ·refine aC ?_
  refine bf eb ?_
  refine bG ?_
  refine ah.cond (ab rfl) (fun ar=> ?_) (fun ar=> ?_)
  ·replace h:=sn ar h
   refine cJ ?_
   refine ah.seq ?_
   refine ah.block ?_
   refine aC ?_
   refine aB ?_
   refine aK ?_
   refine bZ ?_
   refine aK ?_
   refine bG ?_
   refine ah.seq ?_
   obtain⟨dg,e7,h⟩:=aM.dd h
   obtain⟨cF,fT,h⟩:=aM.dd h
   obtain⟨al,bs,h⟩:=aM.dd h
   refine ah.draw mixed 9 [some 11,some 12,some 13,some 14,some 15,some 16,some 17,some 18,some 19] [[],[],[1],[2],[3],[4],[],[5,6],[0,7]] [.val _,.val _,.val _,.val _,.val _,.val _,.val _,.val _,.val _] [false,false,false,false,false,false,false,false,false] (by kernel_rfl) rfl rfl rfl (fun cV=>⟨H1 (c2 bN),H1 (c2 Nq),du fun ay au=>ff (fQ (ab rfl) e7),H1 (aW vZ),du fun ay au=>h0 ((aL.id ga).comp tn) (r:=cF.eR) bE (ab rfl) (nj (fun i e q=>au i e q rfl) (Nr (Ls:=Ls) (s:=s1.2) (g:=az) 0 rfl mL (om fT) rfl)) rfl rfl,kx ly,cR,kx ly,e8 Dn (Cw bs),trivial⟩) fun cV=> ?_
   refine aJ ?_
   obtain⟨bM,cG,h⟩:=aM.dd h
   refine ah.c4 (γ:=Unit) (fun a5=> [(0,I.eq u),(1,I.ptr ag),(2,I.ptr aT),(3,I.ptr cB),(5,I.of (s1.1)),(6,I.of (bM)),(7,I.of (ag)),(8,I.of (s1.1)),(9,I.of (decide (s1.1 < ag))),(19,I.of (al))]) (fun a5=>(Ls s1.2 az)) (ab rfl) (fun a5=> ?_) (fun hm ar=> ?_) (fun hm ar=> ?_)
   ·clear cG
    refine ad.next ?_
    refine aC ?_
    refine aB ?_
    refine aB ?_
    refine aj.Ux (Lin:= []) (Ls:=Ls) (Lx:=Lx) (step:=step) (s:=s1.2) (gg:=az) rfl qs rfl (ab rfl) h rfl (fun s2 h bu=> ?_) (fun cT h bu=> ?_)
    ·simp only [Sum.elim_inl] at h
     refine aj.eI (L2:=(Ls s2 bu)) rfl ?_
     refine aY hz ?_
     refine aJ ?_
     refine ah.q2 (ab rfl) (by first | rfl | (rw [hb]; rfl)) ?_
     refine ah.skip ?_
     refine ad.dG ?_
     refine ad.next ?_
     refine ah.cn ?_
     refine bf c9 ?_
     refine aB ?_
     refine aj.nil ?_
     exact ad.MI h bu 0 rfl (.same rfl (.same rfl (.same rfl (.same rfl (.same rfl (.same rfl .nil))))))
    ·simp only [Sum.elim_inr] at h
     refine aj.eI (L2:=(Lx cT bu)) rfl ?_
     refine aY hz ?_
     refine aJ ?_
     refine ah.Dp (ab rfl) (by first | rfl | (rw [hb]; rfl)) ?_
     refine ah.ret ?_
     refine ad.dQ ?_
     refine ad.ret ?_
     exact ad.GB h bu 0 rfl (by simp) rfl (.same rfl (.same rfl (.same rfl (.same rfl (.same rfl (.same rfl (.same rfl (.same rfl (.same rfl (.same rfl (.same rfl .nil)))))))))))
   ·have h:=gQ ar cG
    refine ah.cn ?_
    refine aK ?_
    refine aj.nil ?_
    obtain rfl:=aG h
    exact dt 0 (hm ())
   ·have h:=gR ar cG
    refine ah.skip ?_
    obtain rfl:=aG h
    exact dt 0 (hm ())
  ·replace h:=so ar h
   refine ah.exit ?_
   refine ad.exit ?_
   exact ad.GB h az 0 rfl (by simp) rfl (.same rfl (.same rfl (.same rfl (.same rfl (.same rfl (.same rfl (.same rfl .nil)))))))
 ·rcases aA with aA | aA
  ·simp only [Sum.elim_inl] at h
   refine ad.eT ?_
   refine ad.sM ?_
   exact ad.ox (⟨⟨(.inl aA.2.2:σ ⊕ ε),h⟩,az⟩: {r // _} × _) (.refl _) rfl rfl
  ·simp only [Sum.elim_inr] at h
   refine ad.dQ ?_
   exact ad.ox (⟨⟨(.inr aA.2.2.2.2.2.2:σ ⊕ ε),h⟩,az⟩: {r // _} × _) (.refl _) rfl rfl
theorem JV {hp:a9 Cell} {ag:Int} {aT:ak} {cB:Ref} :zl Tryz.prog 255 [I.ptr ag,I.ptr aT,I.ptr cB] hp (fun v:Int=>I.of v) (fun {σ ε} =>qC (σ:=σ) (ε:=ε) hp ag aT cB):=by
 refine zl.of Tryz.func255 rfl Tryz.ntmps255 rfl ?_
 intro σ ε γ Ls Lx jw mL step cd g0 r h W A u qs
 replace h:qC hp ag aT cB step cd=some r:=h
 unfold qC at h
 refine aC ?_
 refine aY (c2 bE) ?_
 refine aB ?_
 refine aJ ?_
 refine ah.block ?_
 obtain⟨aA,ao,h⟩:=aw h
 refine ah.q3 (σ:=Int × (σ)) (ε:=(Int × Bool × (σ)) ⊕ (Int × Int × Int × Bool × Bool × Bool × (ε))) (γ:=γ) (δ:=γ) ao (fun s1 az=> [(0,I.eq u),(1,I.ptr ag),(2,I.ptr aT),(3,I.ptr cB),(7,I.of (ag)),(8,I.of (s1.1))]) (fun s1 az=>(Ls s1.2 az)) (fun aF=>Sum.elim (fun aF=>Exit.exit 0) (fun aF=>Exit.ret) aF) (fun aF az=>Sum.elim (fun aF=> [(0,I.eq u),(1,I.ptr ag),(2,I.ptr aT),(3,I.ptr cB),(7,I.of (ag)),(8,I.of (aF.1)),(9,I.of (aF.2.1))]) (fun aF=> [(0,I.eq u),(1,I.ptr ag),(2,I.ptr aT),(3,I.ptr cB),(5,I.of (aF.1)),(6,I.of (aF.2.1)),(7,I.of (ag)),(8,I.of (aF.2.2.1)),(9,I.of (aF.2.2.2.1)),(19,I.of (aF.2.2.2.2.1)),(23,I.of (aF.2.2.2.2.2.1))]) aF) (fun aF az=>Sum.elim (fun aF=>(Ls aF.2.2 az)) (fun aF=>(Lx aF.2.2.2.2.2.2 az)) aF) g0 rfl (.same rfl (.same rfl (.same rfl (.same rfl (.same rfl (.same rfl .nil)))))) (fun s1 r h az=> ?_) (fun az=> ?_)
 ·clear ao
  refine aC ?_
  refine bf eb ?_
  refine bG ?_
  refine ch h (fun h=>?_) fun h=>?_
  ·refine cJ ?_
   refine ah.seq ?_
   refine ah.block ?_
   refine aC ?_
   refine aB ?_
   refine aK ?_
   refine bZ ?_
   refine aK ?_
   refine bG ?_
   refine ah.seq ?_
   obtain⟨dg,e7,h⟩:=aw h
   obtain⟨cF,fT,h⟩:=aw h
   obtain⟨al,bs,h⟩:=aw h
   refine ah.draw mixed 9 [some 11,some 12,some 13,some 14,some 15,some 16,some 17,some 18,some 19] [[],[],[1],[2],[3],[4],[],[5,6],[0,7]] [.val _,.val _,.val _,.val _,.val _,.val _,.val _,.val _,.val _] [false,false,false,false,false,false,false,false,false] (by kernel_rfl) rfl rfl rfl (fun cV=>⟨H1 (c2 bN),H1 (c2 Nq),du fun ay au=>ff (fQ (ab rfl) e7),H1 (aW vZ),du fun ay au=>h0 ((aL.id ga).comp tn) (r:=cF.eR) bE (ab rfl) (nj (fun i e q=>au i e q rfl) (Vw (Ls:=Ls) (s:=s1.2) (g:=az) 0 rfl mL (om fT) rfl)) rfl rfl,kx ly,cR,kx ly,e8 Dn (Cw bs),trivial⟩) fun cV=> ?_
   refine aJ ?_
   obtain⟨bM,cG,h⟩:=aw h
   refine ah.c4 (γ:=Unit) (fun a5=> [(0,I.eq u),(1,I.ptr ag),(2,I.ptr aT),(3,I.ptr cB),(5,I.of (s1.1)),(6,I.of (bM)),(7,I.of (ag)),(8,I.of (s1.1)),(9,I.of (decide (s1.1 < ag))),(19,I.of (al))]) (fun a5=>(Ls s1.2 az)) (ab rfl) (fun a5=> ?_) (fun hm ar=> ?_) (fun hm ar=> ?_)
   ·clear cG
    refine ad.next ?_
    refine aC ?_
    refine aB ?_
    refine aB ?_
    obtain⟨aN,ck,h⟩:=aw h
    refine aj.yield (Lin:= []) (Ls:=Ls) (Lx:=Lx) (step:=step) (s:=s1.2) (gg:=az) rfl qs rfl (ab rfl) ck rfl (fun s2 aQ bu=> ?_) (fun cT aQ bu=> ?_)
    ·subst aQ; simp only [Sum.elim_inl] at h
     refine aj.eI (L2:=(Ls s2 bu)) rfl ?_
     refine aY hz ?_
     refine aJ ?_
     refine ah.q2 (ab rfl) (by first | rfl | (rw [hb]; rfl)) ?_
     refine ah.skip ?_
     refine ad.dG ?_
     refine ad.next ?_
     refine ah.cn ?_
     refine bf c9 ?_
     refine aB ?_
     refine aj.nil ?_
     obtain rfl:=aG h
     exact e0 bu 0
    ·subst aQ; simp only [Sum.elim_inr] at h
     refine aj.eI (L2:=(Lx cT bu)) rfl ?_
     refine aY hz ?_
     refine aJ ?_
     refine ah.Dp (ab rfl) (by first | rfl | (rw [hb]; rfl)) ?_
     refine ah.ret ?_
     refine ad.dQ ?_
     refine ad.ret ?_
     obtain rfl:=aG h
     exact dU bu 0
   ·have h:=gQ ar cG
    refine ah.cn ?_
    refine aK ?_
    refine aj.nil ?_
    obtain rfl:=aG h
    exact dt 0 (hm ())
   ·have h:=gR ar cG
    refine ah.skip ?_
    obtain rfl:=aG h
    exact dt 0 (hm ())
  ·refine ah.exit ?_
   refine ad.exit ?_
   obtain rfl:=aG h
   exact dU az 0
 ·clear ao
  rcases aA with aA | aA
  ·simp only [Sum.elim_inl] at h
   refine ad.eT ?_
   refine ad.sM ?_
   obtain rfl:=aG h
   exact ad.ox az (.refl _) rfl rfl
  ·simp only [Sum.elim_inr] at h
   refine ad.dQ ?_
   obtain rfl:=aG h
   exact ad.ox az (.refl _) rfl rfl
theorem yk {J:aI} {r:aI} (h:nC J=some r):bw Tryz.prog 87 [I.of (J)] (I.of (r)):=by
 unfold nC at h
 refine bw.of Tryz.func87 rfl Tryz.ntmps87 rfl fun W A=> ?_
 refine aC ?_
 refine cf fun aS=> ?_
 refine cx hh fun a3=> ?_
 refine bZ ?_
 refine aY (aW my) ?_
 refine cb 1 k0 iC ?_
 obtain⟨al,bs,h⟩:=aw h
 refine dc Vx (RJ bs) ?_
 refine aY (aW my) ?_
 refine me 1 k0 iC ?_
 refine bZ ?_
 refine b6 1 cY ?_
 refine b3 0 cY ?_
 refine aJ ?_
 refine ah.ret ?_
 obtain rfl:=aG h
 exact ad.hg rfl (eH 0 cY)
end Go.Proofs.YtmnggbjcnoffeaaGreat
namespace Go.Proofs.YtmnggbjcnoffeaaGreat
open Go Gv
set_option linter.unusedVariables false
set_option linter.unusedSimpArgs false
set_option maxRecDepth 100000
set_option maxHeartbeats 2000000
end Go.Proofs.YtmnggbjcnoffeaaGreat
namespace Go.Proofs.YtmnggbjcnoffeaaGreat
open Go Gv
set_option linter.unusedVariables false
set_option linter.unusedSimpArgs false
set_option maxRecDepth 100000
set_option maxHeartbeats 2000000
end Go.Proofs.YtmnggbjcnoffeaaGreat
namespace Go.Proofs.YtmnggbjcnoffeaaGreat
open Go Gv
set_option linter.unusedVariables false
set_option linter.unusedSimpArgs false
set_option maxRecDepth 100000
set_option maxHeartbeats 2000000
theorem Rf {J:cr} {ag:Int} {aT:Int} {cB:ak} {r:Bool} (h:tv J ag aT cB=some r):bw Tryz.prog 282 [I.of (J),I.of (ag),I.of (aT),I.of (cB)] (I.of (r)):=by
 unfold tv at h
 refine bw.of Tryz.func282 rfl Tryz.ntmps282 rfl fun W A=> ?_
 refine aC ?_
 refine cf fun aS=> ?_
 refine cf fun a3=> ?_
 refine aK ?_
 refine bG ?_
 refine aC ?_
 refine aY (aW Gz) ?_
 refine cb 1 qB ir ?_
 refine aY hz ?_
 refine aJ ?_
 refine ch h (fun h=>?_) fun h=>?_
 ·refine aC ?_
  refine aB ?_
  refine bf jU ?_
  refine aB ?_
  refine dE c3 ?_
  refine kn q1 ?_
  refine ja ?_
  refine aK ?_
  refine aJ ?_
  refine ah.ret ?_
  refine ad.ret ?_
  obtain rfl:=aG h
  exact c8
 ·refine cJ ?_
  refine ah.seq ?_
  refine aC ?_
  refine aB ?_
  refine aJ ?_
  refine ah.block ?_
  refine aC ?_
  refine bf gf ?_
  refine aK ?_
  refine aJ ?_
  refine ch h (fun h=>?_) fun h=>?_
  ·refine aC ?_
   refine b6 0 bN ?_
   refine aY (aW pS) ?_
   refine cb 1 lY bN ?_
   refine bf (ug ov rfl wy rfl) ?_
   refine aK ?_
   refine aJ ?_
   refine ah.ret ?_
   refine ad.dQ ?_
   refine ad.ret ?_
   obtain rfl:=aG h
   exact c8
  ·refine aC ?_
   refine bf gf ?_
   refine aK ?_
   refine aJ ?_
   refine ch h (fun h=>?_) fun h=>?_
   ·refine aC ?_
    refine aB ?_
    refine aY (aW tW) ?_
    refine cb 1 pL bE ?_
    obtain⟨al,bs,h⟩:=aw h
    refine dc G4 (Fc bs) ?_
    refine cx dP fun bH=> ?_
    refine b3 0 bN ?_
    refine bG ?_
    obtain⟨aN,ck,h⟩:=aw h
    obtain⟨a7,dR,h⟩:=aw h
    refine ah.draw mixed 8 [some 32,some 33,some 34,some 35,some 36,some 37,some 38,some 39] [[],[],[0,1],[],[3],[],[4,5],[2,6]] [.val _,.val _,.val _,.val _,.val _,.val _,.val _,.val _] [false,false,false,false,false,false,false,false] (by kernel_rfl) rfl rfl rfl (fun cV=>⟨e1 1 bN,e1 0 bN,e8 nT (nD ck),H1 (aW pS),dy 2 lY bN,e1 0 bN,e8 nT (nD dR),kx (ug ov rfl wy rfl),trivial⟩) fun cV=> ?_
    refine aK ?_
    refine aJ ?_
    refine ah.ret ?_
    refine ad.dQ ?_
    refine ad.ret ?_
    obtain rfl:=aG h
    exact c8
   ·refine aC ?_
    refine bf gf ?_
    refine aK ?_
    refine aJ ?_
    refine ch h (fun h=>?_) fun h=>?_
    ·refine ah.seq ?_
     obtain⟨bR,e2,h⟩:=aw h
     refine ah.draw mixed 7 [some 42,some 43,some 44,some 45,some 46,some 47,some 48] [[],[],[1],[0,2],[],[4],[3,5]] [.val _,.val _,.val _,.val _,.val _,.val _,.val _] [false,false,false,false,false,false,false] (by kernel_rfl) rfl rfl rfl (fun hB=>⟨e1 0 bN,H1 (aW zg),dy 1 r1 bN,e8 nT (nD e2),H1 (aW pS),dy 1 lY bN,kx (ug ov rfl wy rfl),trivial⟩) fun hB=> ?_
     refine aK ?_
     refine aJ ?_
     refine ah.ret ?_
     refine ad.dQ ?_
     refine ad.ret ?_
     obtain rfl:=aG h
     exact c8
    ·refine aC ?_
     refine bf gf ?_
     refine aK ?_
     refine aJ ?_
     refine ch h (fun h=>?_) fun h=>?_
     ·refine aC ?_
      refine aY (aW pS) ?_
      refine cb 1 lY bN ?_
      refine b6 0 bN ?_
      obtain⟨br,g2,h⟩:=aw h
      refine dc Ns (Kc g2) ?_
      refine bf q1 ?_
      refine aB ?_
      refine eW (fun hb=>fj (i:=0) (aL.id ak) (r:=cB) bN (ab rfl) rfl rfl rfl) ?_
      refine dE (aW Uy) ?_
      refine eW (fun hb=>fj (i:=1) ((aL.id cr).comp B9) (r:=J.l4) bN (ct rfl hb) rfl rfl rfl) ?_
      obtain⟨b8,g3,h⟩:=aw h
      refine eW (fun hb=>hP Ns (Kc (ha g3 hb)) ⟨ct rfl hb,ct rfl hb,trivial⟩) ?_
      refine kn q1 ?_
      refine ja ?_
      refine aK ?_
      refine aJ ?_
      refine ah.ret ?_
      refine ad.dQ ?_
      refine ad.ret ?_
      obtain rfl:=aG h
      exact c8
     ·refine ah.skip ?_
      refine ad.dG ?_
      refine ad.next ?_
      refine aC ?_
      refine aK ?_
      refine aJ ?_
      refine ah.ret ?_
      obtain rfl:=aG h
      exact c8
theorem Qw {hp:a9 Cell} {J:Ref} {ag:Int} {aT:Bool} {r:aI × Bool} (h:x0 hp J ag aT=some r):cy Tryz.prog 72 [I.of (J),I.of (ag),I.of (aT)] ([] ++ ba hp) (δ:=Unit) (fun _=>I.cN [I.of (r.1),I.of (r.2)]) (fun _=> [] ++ ba hp):=by
 unfold x0 at h
 refine cy.of Tryz.func72 rfl Tryz.ntmps72 rfl fun W A=> ?_
 refine aC ?_
 refine cx hh fun aS=> ?_
 refine aK ?_
 refine bG ?_
 refine aC ?_
 refine aB ?_
 refine aY hz ?_
 refine aJ ?_
 refine ch h (fun h=>?_) fun h=>?_
 ·refine aC ?_
  refine gV wQ hh (default:aI) .nil ?_
  refine b3 0 cY ?_
  refine aK ?_
  refine aJ ?_
  refine ah.ret ?_
  refine ad.ret ?_
  obtain rfl:=aG h
  exact ad.k5 () (.cons _ (.refl _)) rfl rfl (jV (i:=0) cY rfl rfl) (eD rfl)
 ·refine cJ ?_
  refine aC ?_
  refine aB ?_
  obtain⟨dg,e7,h⟩:=aw h
  refine bj (ff (fQ (ab rfl) e7)) ?_
  refine aY (aW Gd) ?_
  obtain⟨cF,fT,h⟩:=aw h
  refine bj (h0 ((aL.id g9).comp BT) (r:=cF.lZ) Dq (ab rfl) (gU (n:=1) rfl (oo fT) rfl) rfl rfl) ?_
  refine aB ?_
  obtain⟨cK,gi,h⟩:=aw h
  obtain⟨da,ho,h⟩:=aw h
  obtain⟨bl,di,h⟩:=aw h
  refine bj (y4 (r:=bl) Tryz.underlying133 H5 hh (oT (ab rfl) gi) (ab rfl) (gU (n:=1) rfl (zm ho) rfl) (aG di)) ?_
  obtain⟨al,bs,h⟩:=aw h
  refine dc Ai (yk bs) ?_
  refine b3 0 cY ?_
  refine aK ?_
  refine aJ ?_
  refine ah.ret ?_
  obtain rfl:=aG h
  exact ad.k5 () (.cons _ (.refl _)) rfl rfl (jV (i:=0) cY rfl rfl) (eD rfl)
theorem Q1 {J:a2} {ag:bV} {aT:Int} {r:Int} (h:yl J ag aT=some r):bw Tryz.prog 47 [I.of (J),I.of (ag),I.of (aT)] (I.of (r)):=by
 unfold yl at h
 refine bw.of Tryz.func47 rfl Tryz.ntmps47 rfl fun W A=> ?_
 refine aC ?_
 refine cf fun aS=> ?_
 refine cf fun a3=> ?_
 refine aK ?_
 refine bG ?_
 obtain⟨aZ,cv,h⟩:=aw h
 obtain⟨al,bs,h⟩:=aw h
 refine ah.draw mixed 8 [some 7,some 8,some 9,some 10,some 11,some 12,some 13,some 14] [[],[],[1],[],[2,3],[4],[5],[0,6]] [.val _,.val _,.val _,.val _,.val _,.val _,.val _,.val _] [false,false,false,false,false,false,false,false] (by kernel_rfl) rfl rfl rfl (fun cV=>⟨e1 1 fH,H1 (aW kh),dy 0 iV jY,cR,lI cv Tryz.underlying62 h8,nq mY zi,H1 (c2 bE),e8 Xx (Rz bs),trivial⟩) fun cV=> ?_
 refine aK ?_
 refine aJ ?_
 refine ah.ret ?_
 obtain rfl:=aG h
 exact c8
end Go.Proofs.YtmnggbjcnoffeaaGreat
namespace Go.Proofs.YtmnggbjcnoffeaaGreat
open Go Gv
set_option linter.unusedVariables false
set_option linter.unusedSimpArgs false
set_option maxRecDepth 100000
set_option maxHeartbeats 2000000
theorem R3 {J:BitVec 64} {r:ak} (h:Fv J=some r):bw Tryz.prog 166 [I.of (J)] (I.of (r)):=by
 unfold Fv at h
 refine bw.of Tryz.func166 rfl Tryz.ntmps166 rfl fun W A=> ?_
 refine aC ?_
 refine cx dP fun aS=> ?_
 refine bZ ?_
 refine aB ?_
 refine gV gT dP ({ (default:ak) with bO:=J } :ak) (iY dT .nil) ?_
 refine b3 0 bN ?_
 refine aJ ?_
 refine ah.ret ?_
 obtain rfl:=aG h
 exact ad.hg rfl (eH 0 bN)
theorem RA {J:ak} {ag:Int} {r:ak} (h:yB J ag=some r):bw Tryz.prog 165 [I.of (J),I.of (ag)] (I.of (r)):=by
 unfold yB at h
 refine bw.of Tryz.func165 rfl Tryz.ntmps165 rfl fun W A=> ?_
 refine aC ?_
 refine cf fun aS=> ?_
 refine cx dP fun a3=> ?_
 refine bG ?_
 refine ah.block ?_
 refine aC ?_
 refine aB ?_
 refine bf q1 ?_
 refine aK ?_
 refine aJ ?_
 refine ch h (fun h=>?_) fun h=>?_
 ·refine aC ?_
  refine b6 1 bN ?_
  refine b3 0 bN ?_
  refine aJ ?_
  refine ah.ret ?_
  refine ad.dQ ?_
  refine ad.ret ?_
  obtain rfl:=aG h
  exact ad.hg rfl (eH 0 bN)
 ·refine aC ?_
  refine aB ?_
  refine bf jU ?_
  refine aK ?_
  refine aJ ?_
  refine ch h (fun h=>?_) fun h=>?_
  ·refine aC ?_
   refine aY (aW hO) ?_
   refine cb 1 dT en ?_
   refine aB ?_
   refine bf ly ?_
   refine aY (iB Tryz.underlying3 Tryz.underlying130) ?_
   refine bf m6 ?_
   obtain⟨bl,di,h⟩:=aw h
   refine dj di (cU (b:=({ (default:ak) with c6:=J.bO <<< (BitVec.ofInt 64 (bz (ag - 64))).toNat } :ak)) rfl gT dP (.cons g8 rfl (ab rfl) rfl (.nil))) ?_
   refine b3 0 bN ?_
   refine aJ ?_
   refine ah.ret ?_
   refine ad.dQ ?_
   refine ad.ret ?_
   obtain rfl:=aG h
   exact ad.hg rfl (eH 0 bN)
  ·refine ah.skip ?_
   refine ad.dG ?_
   refine ad.next ?_
   refine aC ?_
   refine aY (aW jC) ?_
   refine cb 1 g8 en ?_
   refine aB ?_
   refine aY (iB Tryz.underlying3 Tryz.underlying130) ?_
   refine bf m6 ?_
   refine aY (aW hO) ?_
   refine cb 1 dT en ?_
   refine aB ?_
   refine bf ly ?_
   refine aY (iB Tryz.underlying3 Tryz.underlying130) ?_
   refine bf sm ?_
   obtain⟨dm,hn,h⟩:=aw h
   refine dj hn (pT (ab rfl) (ab rfl)) ?_
   refine aY (aW hO) ?_
   refine cb 1 dT en ?_
   refine aB ?_
   refine aY (iB Tryz.underlying3 Tryz.underlying130) ?_
   refine bf m6 ?_
   obtain⟨eX,iL,h⟩:=aw h
   refine dj iL (cU (b:= { c6:=dm,bO:=J.bO <<< (BitVec.ofInt 64 ag).toNat:ak }) rfl gT dP (.cons g8 rfl (ab rfl) rfl (.cons dT rfl (ab rfl) rfl (.nil)))) ?_
   refine b3 0 bN ?_
   refine aJ ?_
   refine ah.ret ?_
   obtain rfl:=aG h
   exact ad.hg rfl (eH 0 bN)
theorem qM {J:ak} {ag:ak} {r:ak} (h:nE J ag=some r):bw Tryz.prog 167 [I.of (J),I.of (ag)] (I.of (r)):=by
 unfold nE at h
 refine bw.of Tryz.func167 rfl Tryz.ntmps167 rfl fun W A=> ?_
 refine aC ?_
 refine cf fun aS=> ?_
 refine cf fun a3=> ?_
 refine cx dP fun bH=> ?_
 refine bZ ?_
 refine aY (aW jC) ?_
 refine cb 2 g8 en ?_
 refine aY (aW jC) ?_
 refine cb 1 g8 en ?_
 refine bf pT ?_
 refine aY (aW hO) ?_
 refine cb 2 dT en ?_
 refine aY (aW hO) ?_
 refine cb 1 dT en ?_
 refine bf pT ?_
 obtain⟨bl,di,h⟩:=aw h
 refine dj di (cU (b:= { c6:=J.c6 ||| ag.c6,bO:=J.bO ||| ag.bO:ak }) rfl gT dP (.cons g8 rfl (ab rfl) rfl (.cons dT rfl (ab rfl) rfl (.nil)))) ?_
 refine b3 0 bN ?_
 refine aJ ?_
 refine ah.ret ?_
 obtain rfl:=aG h
 exact ad.hg rfl (eH 0 bN)
end Go.Proofs.YtmnggbjcnoffeaaGreat
namespace Go.Proofs.YtmnggbjcnoffeaaGreat
open Go Gv
set_option linter.unusedVariables false
set_option linter.unusedSimpArgs false
set_option maxRecDepth 100000
set_option maxHeartbeats 2000000
theorem Rg {J:a4} {ag:Vector ak 4} {aT:Vector ak 4} {r:a4} (h:yt J ag aT=some r):bw Tryz.prog 159 [I.of (J),I.of (ag),I.of (aT)] (I.of (r)):=by
 unfold yt at h
 refine bw.of Tryz.func159 rfl Tryz.ntmps159 rfl fun W A=> ?_
 refine aC ?_
 refine cf fun aS=> ?_
 refine cf fun a3=> ?_
 refine cf fun bH=> ?_
 refine cx h1 fun cA=> ?_
 refine bG ?_
 refine aC ?_
 refine aB ?_
 refine aJ ?_
 refine ah.block ?_
 obtain⟨aA,ao,h⟩:=aw h
 refine gN (γ:=Unit) (δ:=Unit) ao [0,1,2,3,4,5,6] (fun s1 az=> [(9,I.of (s1.1))]) (fun s1 az=> [(3,⟨some aS,.var (s1.2:a4)⟩)]) (fun aF=>Exit.exit 0) (fun aF az=> [(9,I.of (aF.1)),(10,I.of (aF.2.1))]) (fun aF az=> [(3,⟨some aS,.var (aF.2.2:a4)⟩)]) () (fun s1 r h az=> ?_) fun az=> ?_
 ·clear ao
  refine aC ?_
  refine bf eb ?_
  refine bG ?_
  refine ch h (fun h=>?_) fun h=>?_
  ·refine cJ ?_
   refine ah.seq ?_
   refine ah.block ?_
   refine aC ?_
   refine aB ?_
   refine aK ?_
   refine bG ?_
   obtain⟨aZ,cv,h⟩:=aw h
   obtain⟨b0,de,h⟩:=aw h
   obtain⟨al,bs,h⟩:=aw h
   refine ah.draw mixed 8 [some 12,some 13,some 14,some 15,some 16,some 17,some 18,some 8] [[],[0],[1],[],[3],[4],[2,5],[]] [.val _,.val _,.val _,.val _,.val _,.val _,.val _,.new (.var (default:ak))] [false,false,false,false,false,false,false,false] (by kernel_rfl) rfl rfl rfl (fun cV=>⟨cR,du fun ay au=>ee (k:=aZ) fD (ab rfl) (ab rfl) (cc cv),dy 2 ((aL.id (Vector ak 4)).comp (aL.idx (α:=ak) 4 aZ (cc cv).1)) bN,cR,du fun ay au=>ee (k:=b0) fD (ab rfl) (ab rfl) (cc de),dy 1 ((aL.id (Vector ak 4)).comp (aL.idx (α:=ak) 4 b0 (cc de).1)) bN,e8 nT (nD bs),tK dP,trivial⟩) fun cV=> ?_
   refine b3 0 bN ?_
   refine bG ?_
   obtain⟨c1,fl,h⟩:=aw h
   obtain⟨fm,iZ,h⟩:=aw h
   obtain⟨hW,mc,h⟩:=aw h
   obtain⟨aN,ck,h⟩:=aw h
   obtain⟨a7,dR,h⟩:=aw h
   obtain⟨bR,e2,h⟩:=aw h
   obtain⟨ka,oE,h⟩:=aw h
   refine ah.draw mixed 17 ((some 19) :: (some 20) :: (some 21) :: (some 22) :: (some 23) :: (some 24) :: (some 25) :: (some 26) :: (some 27) :: (some 28) :: (some 29) :: (some 30) :: (some 31) :: (some 32) :: (some 33) :: (some 34) :: (some 35) :: []) ([] :: [] :: [] :: [1,2] :: [3] :: [] :: [5] :: [6] :: [] :: [8] :: [9] :: [7,10] :: [] :: [11,12] :: [4,13] :: [] :: [0,15] :: []) (.val _ :: .val _ :: .val _ :: .val _ :: .val _ :: .val _ :: .val _ :: .val _ :: .val _ :: .val _ :: .val _ :: .val _ :: .val _ :: .val _ :: .val _ :: .val _ :: .val _ :: []) (false :: false :: false :: false :: false :: false :: false :: false :: false :: false :: false :: false :: false :: false :: false :: false :: false :: []) (by kernel_rfl) rfl rfl rfl (fun hB=>⟨cR,cR,H1 (aW m7),du fun ay au=>ee (k:=c1) fD (ab rfl) (ab rfl) (cc fl),dy 4 (((aL.id a4).comp lj).comp (aL.idx (α:=ak) 4 c1 (cc fl).1)) bN,cR,du fun ay au=>ee (k:=fm) fD (ab rfl) (ab rfl) (cc iZ),dy 3 ((aL.id (Vector ak 4)).comp (aL.idx (α:=ak) 4 fm (cc iZ).1)) bN,cR,du fun ay au=>ee (k:=hW) fD (ab rfl) (ab rfl) (cc mc),dy 2 ((aL.id (Vector ak 4)).comp (aL.idx (α:=ak) 4 hW (cc mc).1)) bN,e8 q4 (qM ck),e1 0 bN,e8 Dm (Cv dR),e8 q4 (qM e2),H1 (aW m7),du fun ay au=>ee (k:=ka) fD (ab rfl) (ab rfl) (cc oE),trivial⟩) fun hB=> ?_
   refine me 4 (((aL.id a4).comp lj).comp (aL.idx (α:=ak) 4 ka (cc oE).1)) bN ?_
   refine aJ ?_
   obtain⟨kV,pg,h⟩:=aw h
   obtain⟨kW,pj,h⟩:=aw h
   obtain⟨br,g2,h⟩:=aw h
   obtain⟨b8,g3,h⟩:=aw h
   obtain⟨rM,AL,h⟩:=aw h
   refine ah.draw mixed 13 [some 36,some 37,some 38,some 39,some 40,some 41,some 42,some 43,some 44,some 45,some 46,some 47,some 48] [[],[],[],[1,2],[3],[],[5],[6],[],[7,8],[4,9],[],[0,11]] [.val _,.val _,.val _,.val _,.val _,.val _,.val _,.val _,.val _,.val _,.val _,.val _,.val _] [false,false,false,false,false,false,false,false,false,false,false,false,false] (by kernel_rfl) rfl rfl rfl (fun qh=>⟨cR,cR,H1 (aW oe),du fun ay au=>ee (k:=kV) fD (ab rfl) (ab rfl) (cc pg),dy 4 (((aL.id a4).comp mu).comp (aL.idx (α:=ak) 4 kV (cc pg).1)) bN,cR,du fun ay au=>ee (k:=kW) fD (ab rfl) (ab rfl) (cc pj),dy 3 ((aL.id (Vector ak 4)).comp (aL.idx (α:=ak) 4 kW (cc pj).1)) bN,e1 0 bN,e8 Dm (Cv g2),e8 q4 (qM g3),H1 (aW oe),du fun ay au=>ee (k:=rM) fD (ab rfl) (ab rfl) (cc AL),trivial⟩) fun qh=> ?_
   obtain⟨bl,di,h⟩:=aw h
   refine w6 4 (((aL.id a4).comp mu).comp (aL.idx (α:=ak) 4 rM (cc AL).1)) bN (hb:=by exact di) ?_
   refine aj.nil ?_
   refine ad.dG ?_
   refine ad.next ?_
   refine ah.cn ?_
   refine bf c9 ?_
   refine aB ?_
   refine aj.nil ?_
   obtain rfl:=aG h
   exact e0 () 1
  ·refine ah.exit ?_
   refine ad.exit ?_
   obtain rfl:=aG h
   exact dU () 0
 ·clear ao
  refine ad.eT ?_
  refine ad.next ?_
  refine aC ?_
  refine b6 3 c0 ?_
  refine b3 0 c0 ?_
  refine aJ ?_
  refine ah.ret ?_
  obtain rfl:=aG h
  exact ad.hg rfl (eH 0 c0)
theorem mZ {J:bt} {cl:Nat} {r:Bool × bt} (h:k1 J=some r):cy Tryz.prog 55 [I.eq (.pointer (some ⟨cl,0,none⟩))] [⟨some cl,.var (J:bt)⟩] (δ:=Unit) (fun d=>I.of (r.1)) (fun d=> [⟨some cl,.var (r.2:bt)⟩]):=by
 unfold k1 at h
 refine cy.of Tryz.func55 rfl Tryz.ntmps55 rfl fun W A=> ?_
 refine aC ?_
 refine aK ?_
 refine bZ ?_
 refine aB ?_
 refine aj.bU 0 rfl ?_
 obtain⟨al,bs,h⟩:=aw h
 refine eM 1 gh (fZ bs) fun aF=> ?_
 refine bf gf ?_
 refine aK ?_
 refine aJ ?_
 refine ah.ret ?_
 refine ad.bU 0 rfl ?_
 obtain rfl:=aG h
 exact la ()
end Go.Proofs.YtmnggbjcnoffeaaGreat
namespace Go.Proofs.YtmnggbjcnoffeaaGreat
open Go Gv
set_option linter.unusedVariables false
set_option linter.unusedSimpArgs false
set_option maxRecDepth 100000
set_option maxHeartbeats 2000000
theorem Qm {J:bt} {cl:Nat} {r:(List dB) × bt} (h:xQ J=some r):cy Tryz.prog 68 [I.eq (.pointer (some ⟨cl,0,none⟩))] [⟨some cl,.var (J:bt)⟩] (δ:=Unit) (fun d=>I.of (r.1)) (fun d=> [⟨some cl,.var (r.2:bt)⟩]):=by
 unfold xQ at h
 refine cy.of Tryz.func68 rfl Tryz.ntmps68 rfl fun W A=> ?_
 refine aC ?_
 refine bj (eG (look_nil (α:=dB))) ?_
 refine bZ ?_
 refine gy ([0,0,65535,3]:List Int) Tryz.underlying63 bE hI ?_
 refine aK ?_
 refine bZ ?_
 refine aB ?_
 refine aB ?_
 refine aj.bU 0 rfl ?_
 obtain⟨al,bs,h⟩:=aw h
 refine eM 1 gh (fZ bs) fun aF=> ?_
 obtain⟨aZ,cv,h⟩:=aw h
 refine gJ cv Tryz.underlying63 bE ?_
 refine aY (c2 bE) ?_
 refine bj (pP (b:=({ (default:dB) with bX:=1,hZ:=1,m1:=4,hc:=ax ([0,0,65535,3]:List Int) aZ } :dB)) [3] L3 rfl G5 sF (.cons Cl rfl (bK 1) rfl (by rfl) (.cons ET rfl (bK 1) rfl (by rfl) (.cons JW rfl (bK 4) rfl (by rfl) (.cons EO rfl (ab rfl) rfl (by rfl) (.nil)))))) ?_
 refine aj.own (α:=gC) 195 ?_
 refine aj.oX (z:=(default:dB)) [3] L3 sF rfl fun aS=> ?_
 refine aj.own (α:=gC) 195 ?_
 refine aj.qV (i:=1) pY (ab rfl) (ab rfl) rfl ?_
 refine bZ ?_
 refine bj (cU (b:=({ (default:ak) with bO:=1#64 } :ak)) rfl gT dP (.cons dT rfl (gb 1 rfl) rfl (.nil))) ?_
 refine bj (cU (b:=({ (default:ak) with bO:=15#64 } :ak)) rfl gT dP (.cons dT rfl (gb 15 rfl) rfl (.nil))) ?_
 obtain⟨bl,di,h⟩:=aw h
 refine dj di (cU (b:= { bI:=({ (default:ak) with bO:=1#64 } :ak),bQ:=({ (default:ak) with bO:=15#64 } :ak),oY:=2:gC }) rfl Dr sH (.cons Ca rfl (ab rfl) rfl (.cons Ci rfl (ab rfl) rfl (.cons Cj rfl (bK 2) rfl (.nil))))) ?_
 refine bj (cU (b:=({ (default:ak) with bO:=2#64 } :ak)) rfl gT dP (.cons dT rfl (gb 2 rfl) rfl (.nil))) ?_
 refine bj (cU (b:=({ (default:ak) with bO:=3#64 } :ak)) rfl gT dP (.cons dT rfl (gb 3 rfl) rfl (.nil))) ?_
 obtain⟨dm,hn,h⟩:=aw h
 refine dj hn (cU (b:= { bI:=({ (default:ak) with bO:=2#64 } :ak),bQ:=({ (default:ak) with bO:=3#64 } :ak),oY:=3:gC }) rfl Dr sH (.cons Ca rfl (ab rfl) rfl (.cons Ci rfl (ab rfl) rfl (.cons Cj rfl (bK 3) rfl (.nil))))) ?_
 refine aj.o8 (α:=gC) (r:= [bl,dm]) Tryz.underlying191 Ds sH rfl rfl (.cons (by simp) (ab rfl) (.cons (by simp) (ab rfl) (.nil))) rfl fun gZ=> ?_
 refine aY (aW CV) ?_
 refine aj.jj (i:=2) (γ:=gC) (b':=(({ ({ (default:dB) with bX:=1,hZ:=1,m1:=4,hc:=ax ([0,0,65535,3]:List Int) aZ } :dB) with og:= [] } :dB):dB)) (os':= [(3,a0 gZ [bl,dm].length 2)]) ((aL.id dB).comp B2) zH (ab rfl) (ab rfl) iA rfl rfl rfl rfl ?_
 refine bG ?_
 refine aC ?_
 refine aB ?_
 refine aj.bU 4 rfl ?_
 obtain⟨aN,ck,h⟩:=aw h
 refine eM 1 nk (mZ ck) fun cT=> ?_
 refine aJ ?_
 obtain⟨bM,cG,h⟩:=aw h
 refine iq (γ:=(Option Nat × Nat)) [0,2,3,4,23] (fun az=> []) (fun az=> [(0,⟨some cl,.var (bM.1:bt)⟩),(1,⟨az.1,.row 195 (bM.2:List gC) az.2⟩),(3,⟨some aS,.cz (({ ({ (default:dB) with bX:=1,hZ:=1,m1:=4,hc:=ax ([0,0,65535,3]:List Int) aZ } :dB) with og:= [] } :dB):dB) [(3,a0 az.1 bM.2.length az.2)]⟩)]) (fun az=> ?_) (fun hm ar=> ?_) fun hm ar=> ?_
 ·clear cG
  refine ad.next ?_
  refine aC ?_
  refine aB ?_
  refine aB ?_
  refine aj.bU 0 rfl ?_
  obtain⟨a7,dR,h⟩:=aw h
  refine eM 1 gh (fZ dR) fun fs=> ?_
  obtain⟨b0,de,h⟩:=aw h
  refine gJ de Tryz.underlying63 bE ?_
  refine aY (c2 bE) ?_
  obtain⟨eX,iL,h⟩:=aw h
  refine dj iL (cU (b:=({ (default:dB) with bX:=2,hZ:=2,hc:=ax ([0,0,65535,3]:List Int) b0 } :dB)) rfl G5 sF (.cons Cl rfl (bK 2) rfl (.cons ET rfl (bK 2) rfl (.cons EO rfl (ab rfl) rfl (.nil))))) ?_
  refine cx sF fun a3=> ?_
  refine b3 0 pY ?_
  refine bZ ?_
  obtain⟨gX,lH,h⟩:=aw h
  refine dj lH (cU (b:=({ (default:dB) with bX:=3,hZ:=3,m1:=9,hc:=0 } :dB)) rfl G5 sF (.cons Cl rfl (bK 3) rfl (.cons ET rfl (bK 3) rfl (.cons JW rfl (bK 9) rfl (.cons EO rfl (bK 0) rfl (.nil)))))) ?_
  refine cx sF fun bH=> ?_
  refine b3 0 pY ?_
  refine bG ?_
  refine aC ?_
  refine aB ?_
  refine aj.bU 2 rfl ?_
  obtain⟨bR,e2,h⟩:=aw h
  refine eM 1 gh (fZ e2) fun iQ=> ?_
  refine bf gf ?_
  refine aJ ?_
  obtain⟨cI,dJ,h⟩:=aw h
  refine iq (γ:=Unit) [0,2,3,4,5,6,23,50] (fun a5=> []) (fun a5=> [(0,⟨some cl,.var (cI.1:bt)⟩),(1,⟨some bH,.var (cI.2:dB)⟩)]) (fun a5=> ?_) (fun hm ar=> ?_) fun hm ar=> ?_
  ·clear dJ
   refine ad.next ?_
   refine aC ?_
   refine aj.iX (β:=dB) (γ:=gC) (b':=(({ ({ (default:dB) with bX:=1,hZ:=1,m1:=4,hc:=ax ([0,0,65535,3]:List Int) aZ } :dB) with og:=bM.2 } :dB):dB)) ((aL.id dB).comp B2) 5 3 0 rfl rfl rfl rfl rfl rfl ?_
   refine aj.nQ 5 rfl ?_
   obtain⟨gY,mK,h⟩:=aw h
   refine dj mK (fj (i:=5) (aL.id dB) (r:=({ ({ (default:dB) with bX:=1,hZ:=1,m1:=4,hc:=ax ([0,0,65535,3]:List Int) aZ } :dB) with og:=bM.2 } :dB)) pY (ab rfl) rfl rfl rfl) ?_
   refine b6 2 pY ?_
   refine b6 1 pY ?_
   refine gy [gY,eX,cI.2] Tryz.underlying26 pY sF ?_
   refine aK ?_
   refine aJ ?_
   refine ah.ret ?_
   refine ad.bU 0 rfl ?_
   obtain rfl:=aG h
   exact la ()
  ·have h:=gQ ar dJ
   refine ah.cn ?_
   refine bj (cU (b:=({ (default:ak) with bO:=5#64 } :ak)) rfl gT dP (.cons dT rfl (gb 5 rfl) rfl (.nil))) ?_
   refine bj (cU (b:=({ (default:ak) with bO:=15#64 } :ak)) rfl gT dP (.cons dT rfl (gb 15 rfl) rfl (.nil))) ?_
   refine aB ?_
   refine aj.bU 0 rfl ?_
   obtain⟨br,g2,h⟩:=aw h
   refine eM 1 gh (fZ g2) fun ek=> ?_
   refine bf c9 ?_
   obtain⟨iO,pf,h⟩:=aw h
   refine dj pf (cU (b:= { bI:=({ (default:ak) with bO:=5#64 } :ak),bQ:=({ (default:ak) with bO:=15#64 } :ak),oY:=bz (1 + br.1):gC }) rfl Dr sH (.cons Ca rfl (ab rfl) rfl (.cons Ci rfl (ab rfl) rfl (.cons Cj rfl (ab rfl) rfl (.nil))))) ?_
   refine gy [iO] Tryz.underlying191 Ds sH ?_
   refine aY (aW CV) ?_
   refine me 1 B2 zH ?_
   refine aj.nil ?_
   obtain rfl:=aG h
   exact dt 0 (hm ())
  ·have h:=gR ar dJ
   refine ah.skip ?_
   obtain rfl:=aG h
   exact dt 0 (hm ())
 ·have h:=gQ ar cG
  obtain⟨b8,g3,h⟩:=aw h
  obtain⟨iP,ph,h⟩:=aw h
  obtain⟨cD,kN,h⟩:=aw h
  obtain⟨c1,fl,h⟩:=aw h
  obtain⟨hF,ru,h⟩:=aw h
  obtain⟨dL,lb,h⟩:=aw h
  refine jq [0,2,3,4,7,8,9,10,11,12,13,14,15,16,17,18,19,20,21,22,23] ?_
  refine ah.ki mixed (bh 24 [] [] _ :: bh 25 (0 :: []) (3 :: []) _ :: bh 26 [] [] _ :: ⟨some 27,(2 :: []),(0 :: []),(0 :: []),fun _=>I.of (b8.1),fun hd _=>⟨some cl,.var (b8.2:bt)⟩⟩ :: bh 28 (3 :: []) [] _ :: bh 29 (4 :: []) [] _ :: bh 30 (5 :: []) [] _ :: bh 31 [] [] _ :: bh 32 [] [] _ :: bh 33 [] [] _ :: ⟨some 34,(3 :: 9 :: []),(0 :: []),(0 :: []),fun _=>I.of (cD.1),fun hd _=>⟨some cl,.var (cD.2:bt)⟩⟩ :: bh 35 (8 :: 10 :: []) [] _ :: bh 36 (11 :: []) [] _ :: bh 37 (6 :: 7 :: 12 :: []) [] _ :: bh 38 (13 :: []) [] _ :: ⟨some 39,(1 :: 14 :: []),(1 :: []),(1 :: []),fun hd=>I.eq (a0 (hd 15 0) dL.length ((hd 15 1).getD 0)),fun hd _=>⟨(hd 15 0),.row 195 (dL:List gC) ((hd 15 1).getD 0)⟩⟩ :: bh 40 [] [] _ :: ⟨none,(1 :: 15 :: 16 :: []),(3 :: []),(3 :: []),fun _=>I.any,fun hd _=>⟨some aS,.cz (({ ({ (default:dB) with bX:=1,hZ:=1,m1:=4,hc:=ax ([0,0,65535,3]:List Int) aZ } :dB) with og:= [] } :dB):dB) [(3,a0 (hd 15 0) dL.length ((hd 15 1).getD 0))]⟩⟩ :: []) _ (0 :: 2 :: 3 :: 4 :: 7 :: 8 :: 9 :: 10 :: 11 :: 12 :: 13 :: 14 :: 15 :: 16 :: 17 :: 18 :: 19 :: 20 :: 21 :: 22 :: 23 :: []) rfl rfl (by kernel_rfl) ⟨fv (aW CV),cP fun hd E' ay aH au=>iH (i:=3) (q:=0) (β:=dB) (γ:=gC) zH (ab (aH _ _ rfl)) (au 3 _ rfl rfl) rfl,gA,?_,Bv Vy,fv (iB Tryz.underlying3 Tryz.underlying41),cP fun hd E' ay aH au=>(cU (b:=({ (default:ak) with bO:=BitVec.ofInt 64 (bz (8 * b8.1)) } :ak)) rfl gT dP (.cons dT rfl (ab (aH _ _ rfl)) rfl (.nil))).as (aG ph),cP fun hd E' ay aH au=>cU (b:=({ (default:ak) with bO:=8#64 } :ak)) rfl gT dP (.cons dT rfl (gb 8 rfl) rfl (.nil)),gA,gA,?_,cP fun hd E' ay aH au=>o3 (k:=c1) Tryz.underlying63 bE (ab (aH _ _ rfl)) (ab (aH _ _ rfl)) (cc fl),fv (c2 bE),cP fun hd E' ay aH au=>(cU (b:= { bI:=iP,bQ:=({ (default:ak) with bO:=8#64 } :ak),oY:=ax ([0,0,65535,3]:List Int) c1:gC }) rfl Dr sH (.cons Ca rfl (ab (aH _ _ rfl)) rfl (.cons Ci rfl (ab (aH _ _ rfl)) rfl (.cons Cj rfl (ab (aH _ _ rfl)) rfl (.nil))))).as (aG ru),cP fun hd E' ay aH au=>jW (r:= [hF]) Tryz.underlying191 Ds sH rfl rfl (.cons (by simp) (ab (aH _ _ rfl)) (.nil)),?_,fv (aW CV),?_,trivial⟩ fun gj=> ?_
  ·intro hd E' ay aH au
   refine aj.bU 0 (au 0 _ rfl rfl) ?_
   refine aj.l6 (Lin:= [⟨some cl,.var (aN.2:bt)⟩]) (Lr:=ay.eraseIdx 0) gh (fZ g3) ⟨ab (aH _ _ rfl),bK 2,trivial⟩ rfl fun iR=> ?_
   refine aj.nil ?_
   refine ad.back 0 (au 0 _ rfl rfl) ?_
   exact ad.fin (eY []) rfl rfl
  ·intro hd E' ay aH au
   refine aj.bU 0 (au 0 _ rfl rfl) ?_
   refine aj.l6 (Lin:= [⟨some cl,.var (b8.2:bt)⟩]) (Lr:=ay.eraseIdx 0) gh (fZ kN) ⟨ab (aH _ _ rfl),bK 4,trivial⟩ rfl fun iS=> ?_
   refine aj.nil ?_
   refine ad.back 0 (au 0 _ rfl rfl) ?_
   exact ad.fin (eY []) rfl rfl
  ·intro hd E' ay aH au
   refine aj.app (i:=1) Tryz.underlying191 Ds sH (bytes:=40) (by kernel_rfl) (ab (aH _ _ rfl)) (au 1 _ rfl rfl) (ab (aH _ _ rfl)) lb rfl fun jZ fA=> ?_
   refine aj.nil ?_
   exact ad.fin (eY [jZ,some fA]) rfl rfl
  ·intro hd E' ay aH au
   refine aj.jj (i:=3) (γ:=gC) (b':=(({ ({ (default:dB) with bX:=1,hZ:=1,m1:=4,hc:=ax ([0,0,65535,3]:List Int) aZ } :dB) with og:= [] } :dB):dB)) (os':= [(3,a0 (hd 15 0) dL.length ((hd 15 1).getD 0))]) ((aL.id dB).comp B2) zH (ab (aH _ _ rfl)) (ab (aH _ _ rfl)) iA (au 3 _ rfl rfl) rfl rfl rfl ?_
   refine aj.nil ?_
   exact ad.fin (eY []) rfl rfl
  refine ad.eI (L2:= [⟨some cl,.var (cD.2:bt)⟩,⟨(gj 15 0),.row 195 (dL:List gC) ((gj 15 1).getD 0)⟩,⟨none,.row 195 (([]:List gC):List gC) 0⟩,⟨some aS,.cz (({ ({ (default:dB) with bX:=1,hZ:=1,m1:=4,hc:=ax ([0,0,65535,3]:List Int) aZ } :dB) with og:= [] } :dB):dB) [(3,a0 (gj 15 0) dL.length ((gj 15 1).getD 0))]⟩,⟨none,.row 195 (([]:List gC):List gC) 0⟩]) rfl ?_
  refine ko [0,2,3,4,7,8,9,10,11,12,13,14,15,16,17,18,19,21,22,23,24,26,27,28,29,30,31,32,33,34,35,36,37,38,39,40] ?_
  obtain rfl:=aG h
  exact dt 0 (hm ((gj 15 0),((gj 15 1).getD 0)))
 ·have h:=gR ar cG
  refine ah.skip ?_
  obtain rfl:=aG h
  exact dt 0 (hm (gZ,2))
end Go.Proofs.YtmnggbjcnoffeaaGreat
namespace Go.Proofs.YtmnggbjcnoffeaaGreat
open Go Gv
set_option linter.unusedVariables false
set_option linter.unusedSimpArgs false
set_option maxRecDepth 100000
set_option maxHeartbeats 2000000
theorem Qe {J:bt} {cl:Nat} {r:(List dN) × bt} (h:xM J=some r):cy Tryz.prog 69 [I.eq (.pointer (some ⟨cl,0,none⟩))] [⟨some cl,.var (J:bt)⟩] (δ:=Unit) (fun d=>I.of (r.1)) (fun d=> [⟨some cl,.var (r.2:bt)⟩]):=by
 unfold xM at h
 refine cy.of Tryz.func69 rfl Tryz.ntmps69 rfl fun W A=> ?_
 refine aC ?_
 refine bj (eG (look_nil (α:=dN))) ?_
 refine bZ ?_
 refine gV Dt zI ({ (default:fF) with cg:=3 } :fF) (iY BX .nil) ?_
 refine cx zI fun aS=> ?_
 refine b3 0 Du ?_
 refine bG ?_
 obtain⟨bl,di,h⟩:=aw h
 obtain⟨dm,hn,h⟩:=aw h
 obtain⟨eX,iL,h⟩:=aw h
 obtain⟨gX,lH,h⟩:=aw h
 obtain⟨gY,mK,h⟩:=aw h
 obtain⟨iO,pf,h⟩:=aw h
 obtain⟨iP,ph,h⟩:=aw h
 obtain⟨hF,ru,h⟩:=aw h
 obtain⟨lh,uM,h⟩:=aw h
 obtain⟨kO,ur,h⟩:=aw h
 obtain⟨kp,uu,h⟩:=aw h
 obtain⟨lL,uv,h⟩:=aw h
 obtain⟨kq,Aj,h⟩:=aw h
 obtain⟨al,bs,h⟩:=aw h
 obtain⟨kP,Ak,h⟩:=aw h
 obtain⟨aN,ck,h⟩:=aw h
 obtain⟨n1,Al,h⟩:=aw h
 obtain⟨oF,Am,h⟩:=aw h
 obtain⟨mM,Hz,h⟩:=aw h
 refine ah.ri 1 ?_
 refine jq [0,2,3,5] ?_
 refine ah.ki mixed (bh 6 [] [] _ :: bh 7 [] [] _ :: bh 8 (1 :: []) [] _ :: bh 9 (2 :: []) [] _ :: bh 10 [] [] _ :: bh 11 (4 :: []) [] _ :: bh 12 [] (0 :: []) _ :: bh 13 (6 :: []) [] _ :: bh 14 (7 :: []) [] _ :: bh 15 (5 :: 8 :: []) [] _ :: bh 16 [] [] _ :: bh 17 (10 :: []) [] _ :: bh 18 [] (0 :: []) _ :: bh 19 (12 :: []) [] _ :: bh 20 [] [] _ :: bh 21 (14 :: []) [] _ :: bh 22 (13 :: 15 :: []) [] _ :: bh 23 (11 :: 16 :: []) [] _ :: bh 24 [] [] _ :: bh 25 [] [] _ :: bh 26 (18 :: 19 :: []) [] _ :: bh 27 [] [] _ :: bh 28 [] (0 :: []) _ :: bh 29 (22 :: []) [] _ :: bh 30 [] [] _ :: bh 31 (24 :: []) [] _ :: bh 32 (21 :: 23 :: 25 :: []) [] _ :: bh 33 (20 :: 26 :: []) [] _ :: bh 34 [] [] _ :: ⟨some 35,(28 :: []),(1 :: []),(1 :: []),fun _=>I.of (al.1),fun hd _=>⟨some cl,.var (al.2:bt)⟩⟩ :: bh 36 (29 :: []) [] _ :: bh 37 (30 :: []) [] _ :: bh 38 [] [] _ :: ⟨some 39,(29 :: 32 :: []),(1 :: []),(1 :: []),fun _=>I.of (aN.1),fun hd _=>⟨some cl,.var (aN.2:bt)⟩⟩ :: bh 40 (33 :: []) [] _ :: bh 41 (34 :: []) [] _ :: bh 42 (35 :: []) [] _ :: bh 43 (36 :: []) [] _ :: bh 44 (31 :: 37 :: []) [] _ :: bh 45 (38 :: []) [] _ :: ⟨some 46,(0 :: 3 :: 9 :: 17 :: 27 :: 39 :: []),(2 :: []),(2 :: []),fun hd=>I.eq (a0 (hd 40 0) [bl,dm,gY,hF,kq,mM].length 6),fun hd _=>⟨(hd 40 0),.row 148 ([bl,dm,gY,hF,kq,mM]:List dN) 6⟩⟩ :: ⟨some 4,(40 :: []),[],[],fun hd=>I.eq (a0 (hd 40 0) [bl,dm,gY,hF,kq,mM].length 6),fun _ _=>⟨none,.dead⟩⟩ :: []) _ (0 :: 2 :: 3 :: 5 :: []) rfl rfl (by kernel_rfl) ⟨cP fun hd E' ay aH au=>(cU (b:=({ (default:dN) with bX:=1,cm:=ByteArray.mk #[110,111,112] } :dN)) rfl uf o2 (.cons r2 rfl (bK 1) rfl (.cons vp rfl (dC (ByteArray.mk #[110,111,112])) rfl (.nil)))).as (aG di),cP fun hd E' ay aH au=>cU (b:=({ (default:e4) with h2:=6 } :e4)) rfl q5 nc (.cons qF rfl (bK 6) rfl (.nil)),cP fun hd E' ay aH au=>jW (r:= [({ (default:e4) with h2:=6 } :e4)]) Tryz.underlying146 zJ nc rfl rfl (.cons (by simp) (ab (aH _ _ rfl)) (.nil)),cP fun hd E' ay aH au=>(cU (b:=({ (default:dN) with bX:=2,cm:=ByteArray.mk #[100,114,111,112],nK:= [({ (default:e4) with h2:=6 } :e4)] } :dN)) rfl uf o2 (.cons r2 rfl (bK 2) rfl (.cons vp rfl (dC (ByteArray.mk #[100,114,111,112])) rfl (.cons xR rfl (ab (aH _ _ rfl)) rfl (.nil))))).as (aG hn),cP fun hd E' ay aH au=>(cU (b:= { cm:=ByteArray.mk #[112,111,114,116],fe:=16:ik }) rfl Dv sI (.cons Cb rfl (dC (ByteArray.mk #[112,111,114,116])) rfl (.cons x1 rfl (bK 16) rfl (.nil)))).as (aG iL),cP fun hd E' ay aH au=>jW (r:= [eX]) Tryz.underlying145 wA sI rfl rfl (.cons (by simp) (ab (aH _ _ rfl)) (.nil)),lJ 0 Du,cP fun hd E' ay aH au=>(cU (b:=({ (default:e4) with h2:=7,kj:=({ (default:fF) with cg:=3 } :fF) } :e4)) rfl q5 nc (.cons qF rfl (bK 7) rfl (.cons vx rfl (ab (aH _ _ rfl)) rfl (.nil)))).as (aG lH),cP fun hd E' ay aH au=>jW (r:= [gX]) Tryz.underlying146 zJ nc rfl rfl (.cons (by simp) (ab (aH _ _ rfl)) (.nil)),cP fun hd E' ay aH au=>(cU (b:=({ (default:dN) with bX:=3,cm:=ByteArray.mk #[102,111,114,119,97,114,100],jR:= [eX],nK:= [gX] } :dN)) rfl uf o2 (.cons r2 rfl (bK 3) rfl (.cons vp rfl (dC (ByteArray.mk #[102,111,114,119,97,114,100])) rfl (.cons BV rfl (ab (aH _ _ rfl)) rfl (.cons xR rfl (ab (aH _ _ rfl)) rfl (.nil)))))).as (aG mK),cP fun hd E' ay aH au=>cU (b:= { cm:=ByteArray.mk #[120],fe:=4:ik }) rfl Dv sI (.cons Cb rfl (dC (ByteArray.mk #[120])) rfl (.cons x1 rfl (bK 4) rfl (.nil))),cP fun hd E' ay aH au=>jW (r:= [{ cm:=ByteArray.mk #[120],fe:=4:ik }]) Tryz.underlying145 wA sI rfl rfl (.cons (by simp) (ab (aH _ _ rfl)) (.nil)),lJ 0 Du,cP fun hd E' ay aH au=>(cU (b:= { h2:=1,jk:=5,kj:=({ (default:fF) with cg:=3 } :fF):e4 }) rfl q5 nc (.cons qF rfl (bK 1) rfl (.cons tr rfl (bK 5) rfl (.cons vx rfl (ab (aH _ _ rfl)) rfl (.nil))))).as (aG pf),cP fun hd E' ay aH au=>(cU (b:=({ (default:fF) with cg:=2,uN:=5 } :fF)) rfl Dt zI (.cons BX rfl (bK 2) rfl (.cons J2 rfl (bK 5) rfl (.nil)))).as (aG ph),cP fun hd E' ay aH au=>cU (b:= { h2:=2,jk:=3,kj:=iP:e4 }) rfl q5 nc (.cons qF rfl (bK 2) rfl (.cons tr rfl (bK 3) rfl (.cons vx rfl (ab (aH _ _ rfl)) rfl (.nil)))),cP fun hd E' ay aH au=>jW (r:= [iO,{ h2:=2,jk:=3,kj:=iP:e4 }]) Tryz.underlying146 zJ nc rfl rfl (.cons (by simp) (ab (aH _ _ rfl)) (.cons (by simp) (ab (aH _ _ rfl)) (.nil))),cP fun hd E' ay aH au=>(cU (b:=({ (default:dN) with bX:=4,cm:=ByteArray.mk #[116,97,103],jR:= [{ cm:=ByteArray.mk #[120],fe:=4:ik }],nK:= [iO,{ h2:=2,jk:=3,kj:=iP:e4 }] } :dN)) rfl uf o2 (.cons r2 rfl (bK 4) rfl (.cons vp rfl (dC (ByteArray.mk #[116,97,103])) rfl (.cons BV rfl (ab (aH _ _ rfl)) rfl (.cons xR rfl (ab (aH _ _ rfl)) rfl (.nil)))))).as (aG ru),cP fun hd E' ay aH au=>cU (b:= { cm:=ByteArray.mk #[120],fe:=4:ik }) rfl Dv sI (.cons Cb rfl (dC (ByteArray.mk #[120])) rfl (.cons x1 rfl (bK 4) rfl (.nil))),cP fun hd E' ay aH au=>cU (b:= { cm:=ByteArray.mk #[121],fe:=12:ik }) rfl Dv sI (.cons Cb rfl (dC (ByteArray.mk #[121])) rfl (.cons x1 rfl (bK 12) rfl (.nil))),cP fun hd E' ay aH au=>(jW (r:= [{ cm:=ByteArray.mk #[120],fe:=4:ik },{ cm:=ByteArray.mk #[121],fe:=12:ik }]) Tryz.underlying145 wA sI rfl rfl (.cons (by simp) (ab (aH _ _ rfl)) (.cons (by simp) (ab (aH _ _ rfl)) (.nil)))).as (aG uM),cP fun hd E' ay aH au=>cU (b:=({ (default:e4) with h2:=4,jk:=3 } :e4)) rfl q5 nc (.cons qF rfl (bK 4) rfl (.cons tr rfl (bK 3) rfl (.nil))),lJ 0 Du,cP fun hd E' ay aH au=>(cU (b:= { h2:=1,jk:=9,kj:=({ (default:fF) with cg:=3 } :fF):e4 }) rfl q5 nc (.cons qF rfl (bK 1) rfl (.cons tr rfl (bK 9) rfl (.cons vx rfl (ab (aH _ _ rfl)) rfl (.nil))))).as (aG ur),cP fun hd E' ay aH au=>(cU (b:=({ (default:fF) with cg:=3,uN:=1 } :fF)) rfl Dt zI (.cons BX rfl (bK 3) rfl (.cons J2 rfl (bK 1) rfl (.nil)))).as (aG uu),cP fun hd E' ay aH au=>cU (b:= { h2:=3,jk:=8,kj:=kp:e4 }) rfl q5 nc (.cons qF rfl (bK 3) rfl (.cons tr rfl (bK 8) rfl (.cons vx rfl (ab (aH _ _ rfl)) rfl (.nil)))),cP fun hd E' ay aH au=>(jW (r:= [({ (default:e4) with h2:=4,jk:=3 } :e4),kO,{ h2:=3,jk:=8,kj:=kp:e4 }]) Tryz.underlying146 zJ nc rfl rfl (.cons (by simp) (ab (aH _ _ rfl)) (.cons (by simp) (ab (aH _ _ rfl)) (.cons (by simp) (ab (aH _ _ rfl)) (.nil))))).as (aG uv),cP fun hd E' ay aH au=>(cU (b:=({ (default:dN) with bX:=5,cm:=ByteArray.mk #[119,114,97,112],jR:=lh,nK:=lL } :dN)) rfl uf o2 (.cons r2 rfl (bK 5) rfl (.cons vp rfl (dC (ByteArray.mk #[119,114,97,112])) rfl (.cons BV rfl (ab (aH _ _ rfl)) rfl (.cons xR rfl (ab (aH _ _ rfl)) rfl (.nil)))))).as (aG Aj),gA,?_,Bv c9,cP fun hd E' ay aH au=>(cU (b:=({ (default:e4) with h2:=5,jk:=bz (2 + al.1) } :e4)) rfl q5 nc (.cons qF rfl (bK 5) rfl (.cons tr rfl (ab (aH _ _ rfl)) rfl (.nil)))).as (aG Ak),gA,?_,fv (iB Tryz.underlying3 Tryz.underlying41),cP fun hd E' ay aH au=>(cU (b:=({ (default:ak) with bO:=BitVec.ofInt 64 aN.1 } :ak)) rfl gT dP (.cons dT rfl (ab (aH _ _ rfl)) rfl (.nil))).as (aG Al),cP fun hd E' ay aH au=>(cU (b:=({ (default:fF) with cg:=1,bI:=n1 } :fF)) rfl Dt zI (.cons BX rfl (bK 1) rfl (.cons P5 rfl (ab (aH _ _ rfl)) rfl (.nil)))).as (aG Am),cP fun hd E' ay aH au=>cU (b:= { h2:=2,jk:=6,kj:=oF:e4 }) rfl q5 nc (.cons qF rfl (bK 2) rfl (.cons tr rfl (bK 6) rfl (.cons vx rfl (ab (aH _ _ rfl)) rfl (.nil)))),cP fun hd E' ay aH au=>jW (r:= [kP,{ h2:=2,jk:=6,kj:=oF:e4 }]) Tryz.underlying146 zJ nc rfl rfl (.cons (by simp) (ab (aH _ _ rfl)) (.cons (by simp) (ab (aH _ _ rfl)) (.nil))),cP fun hd E' ay aH au=>(cU (b:=({ (default:dN) with bX:=6,cm:=ByteArray.mk #[115,116,114,105,112],nK:= [kP,{ h2:=2,jk:=6,kj:=oF:e4 }] } :dN)) rfl uf o2 (.cons r2 rfl (bK 6) rfl (.cons vp rfl (dC (ByteArray.mk #[115,116,114,105,112])) rfl (.cons xR rfl (ab (aH _ _ rfl)) rfl (.nil))))).as (aG Hz),?_,?_,trivial⟩ fun gj=> ?_
 ·intro hd E' ay aH au
  refine aj.bU 1 (au 1 _ rfl rfl) ?_
  refine aj.l6 (Lin:= [⟨some cl,.var (J:bt)⟩]) (Lr:=ay.eraseIdx 1) gh (fZ bs) ⟨ab (aH _ _ rfl),bK 2,trivial⟩ rfl fun aF=> ?_
  refine aj.nil ?_
  refine ad.back 1 (au 1 _ rfl rfl) ?_
  exact ad.fin (eY []) rfl rfl
 ·intro hd E' ay aH au
  refine aj.bU 1 (au 1 _ rfl rfl) ?_
  refine aj.l6 (Lin:= [⟨some cl,.var (al.2:bt)⟩]) (Lr:=ay.eraseIdx 1) gh (fZ ck) ⟨ab (aH _ _ rfl),bK 256,trivial⟩ rfl fun cT=> ?_
  refine aj.nil ?_
  refine ad.back 1 (au 1 _ rfl rfl) ?_
  exact ad.fin (eY []) rfl rfl
 ·intro hd E' ay aH au
  refine aj.o8 (α:=dN) (r:= [bl,dm,gY,hF,kq,mM]) Tryz.underlying27 nb o2 rfl rfl (.cons (by simp) (ab (aH _ _ rfl)) (.cons (by simp) (ab (aH _ _ rfl)) (.cons (by simp) (ab (aH _ _ rfl)) (.cons (by simp) (ab (aH _ _ rfl)) (.cons (by simp) (ab (aH _ _ rfl)) (.cons (by simp) (ab (aH _ _ rfl)) (.nil))))))) rfl fun gZ=> ?_
  refine aj.nil ?_
  refine ad.place 2 (au 2 _ rfl rfl) ?_
  exact ad.fin (eY [gZ]) rfl rfl
 ·intro hd E' ay aH au
  refine bj (eG (ab (aH _ _ rfl))) ?_
  refine aj.nil ?_
  exact ad.fin (eY []) rfl rfl
 refine ad.eI (L2:= [⟨some aS,.var (({ (default:fF) with cg:=3 } :fF):fF)⟩,⟨some cl,.var (aN.2:bt)⟩,⟨(gj 40 0),.row 148 ([bl,dm,gY,hF,kq,mM]:List dN) 6⟩]) rfl ?_
 refine ko [0,2,3,4,5,6,7,8,9,10,11,12,13,14,15,16,17,18,19,20,21,22,23,24,25,26,27,28,29,30,31,32,33,34,35,36,37,38,39,40,41,42,43,44,45,46] ?_
 refine ad.bU 2 rfl ?_
 refine ad.next ?_
 refine ah.seq ?_
 refine aC ?_
 refine aB ?_
 refine aj.bU 2 rfl ?_
 obtain⟨a7,dR,h⟩:=aw h
 refine eM 1 nk (mZ dR) fun fs=> ?_
 refine aJ ?_
 obtain⟨bM,cG,h⟩:=aw h
 refine iq (γ:=(Option Nat × Nat)) [0,2,3,48] (fun az=> [(4,I.eq (a0 az.1 bM.length az.2))]) (fun az=> [(1,⟨az.1,.row 148 (bM:List dN) az.2⟩)]) (fun az=> ?_) (fun hm ar=> ?_) fun hm ar=> ?_
 ·clear cG
  refine ad.next ?_
  refine ah.seq ?_
  refine aC ?_
  refine aB ?_
  refine aj.bU 0 rfl ?_
  obtain⟨bR,e2,h⟩:=aw h
  refine eM 1 nk (mZ e2) fun iQ=> ?_
  refine aJ ?_
  obtain⟨cI,dJ,h⟩:=aw h
  refine iq (γ:=(Option Nat × Nat)) [0,2,3,48,53] (fun a5=> [(4,I.eq (a0 a5.1 cI.length a5.2))]) (fun a5=> [(1,⟨a5.1,.row 148 (cI:List dN) a5.2⟩)]) (fun a5=> ?_) (fun hm ar=> ?_) fun hm ar=> ?_
  ·clear dJ
   refine ad.next ?_
   refine aC ?_
   refine aB ?_
   refine aK ?_
   refine aJ ?_
   refine ah.ret ?_
   refine ad.l1 (α:=dN) 1 [2,4,57] ⟨rfl,rfl,rfl,trivial⟩ rfl ?_
   refine ad.bU 0 rfl ?_
   obtain rfl:=aG h
   exact la ()
  ·have h:=gQ ar dJ
   refine ah.cn ?_
   refine aB ?_
   obtain⟨aZ,cv,h⟩:=aw h
   refine bj (p0 (i:=1) (k:=aZ) (xs:=(bM:List dN)) Tryz.underlying27 nb (ab rfl) (bK 4) rfl (cc cv)) ?_
   refine aY (aW L4) ?_
   obtain⟨rv,An,h⟩:=aw h
   refine aj.wc (i:=1) (k:=aZ) ((aL.id dN).comp JM) (v:=(ByteArray.mk #[120,32,60,32,121,32,124,124,32,120,32,61,61,32,49,53]:ByteArray)) (r:=(rv:List dN)) pk (ab rfl) (dC (ByteArray.mk #[120,32,60,32,121,32,124,124,32,120,32,61,61,32,49,53])) rfl (cc cv).1 rfl (aG An) ?_
   refine aj.k6 (m:=rv.length) 4 rfl (mv (aG An)) ?_
   refine aj.k6 (m:=rv.length) 54 rfl (mv (aG An)) ?_
   refine aj.nil ?_
   obtain rfl:=aG h
   exact dt 0 (hm (az.1,az.2))
  ·have h:=gR ar dJ
   refine ah.skip ?_
   obtain rfl:=aG h
   exact dt 0 (hm (az.1,az.2))
 ·have h:=gQ ar cG
  refine ah.cn ?_
  refine aB ?_
  obtain⟨b0,de,h⟩:=aw h
  refine bj (p0 (i:=1) (k:=b0) (xs:=([bl,dm,gY,hF,kq,mM]:List dN)) Tryz.underlying27 nb (ab rfl) (bK 2) rfl (cc de)) ?_
  refine aY (aW L4) ?_
  obtain⟨qi,wR,h⟩:=aw h
  refine aj.wc (i:=1) (k:=b0) ((aL.id dN).comp JM) (v:=(ByteArray.mk #[112,111,114,116,32,33,61,32,48]:ByteArray)) (r:=(qi:List dN)) pk (ab rfl) (dC (ByteArray.mk #[112,111,114,116,32,33,61,32,48])) rfl (cc de).1 rfl (aG wR) ?_
  refine aj.k6 (m:=qi.length) 4 rfl (mv (aG wR)) ?_
  refine aj.k6 (m:=qi.length) 46 rfl (mv (aG wR)) ?_
  refine aj.k6 (m:=qi.length) 49 rfl (mv (aG wR)) ?_
  refine aj.nil ?_
  obtain rfl:=aG h
  exact dt 0 (hm ((gj 40 0),6))
 ·have h:=gR ar cG
  refine ah.skip ?_
  obtain rfl:=aG h
  exact dt 0 (hm ((gj 40 0),6))
end Go.Proofs.YtmnggbjcnoffeaaGreat
namespace Go.Proofs.YtmnggbjcnoffeaaGreat
open Go Gv
set_option linter.unusedVariables false
set_option linter.unusedSimpArgs false
set_option maxRecDepth 100000
set_option maxHeartbeats 2000000
theorem Qn {J:bt} {cl:Nat} {r:(List bV) × bt} (h:xS J=some r):cy Tryz.prog 70 [I.eq (.pointer (some ⟨cl,0,none⟩))] [⟨some cl,.var (J:bt)⟩] (δ:=Unit) (fun d=>I.of (r.1)) (fun d=> [⟨some cl,.var (r.2:bt)⟩]):=by
 unfold xS at h
 refine cy.of Tryz.func70 rfl Tryz.ntmps70 rfl fun W A=> ?_
 refine aC ?_
 refine bj (eG (look_nil (α:=bV))) ?_
 refine bZ ?_
 obtain⟨bl,di,h⟩:=aw h
 refine dj di (cU (b:= { cm:=ByteArray.mk #[97],gr:=4,cg:=1:cE }) rfl rj jl (.cons qE rfl (dC (ByteArray.mk #[97])) rfl (.cons mY rfl (bK 4) rfl (.cons k2 rfl (bK 1) rfl (.nil))))) ?_
 refine gy [bl] Tryz.underlying62 h8 jl ?_
 refine gy ([1,2,4]:List Int) Tryz.underlying63 bE hI ?_
 refine aB ?_
 refine aj.bU 0 rfl ?_
 obtain⟨al,bs,h⟩:=aw h
 refine eM 1 gh (fZ bs) fun aF=> ?_
 refine bf c9 ?_
 refine aB ?_
 refine aj.bU 0 rfl ?_
 obtain⟨aN,ck,h⟩:=aw h
 refine eM 1 gh (fZ ck) fun cT=> ?_
 refine bf c9 ?_
 obtain⟨dm,hn,h⟩:=aw h
 refine dj hn (cU (b:=({ (default:bV) with bX:=1,cm:=ByteArray.mk #[112,111,114,116,115],bx:= [bl],dk:=([1,2,4]:List Int),hc:=bz (1 + al.1),lv:=bz (2 + aN.1) } :bV)) rfl Ag k8 (.cons oS rfl (bK 1) rfl (.cons Cc rfl (dC (ByteArray.mk #[112,111,114,116,115])) rfl (.cons iV rfl (ab rfl) rfl (.cons vn rfl (ab rfl) rfl (.cons BW rfl (ab rfl) rfl (.cons Cd rfl (ab rfl) rfl (.nil)))))))) ?_
 refine cx k8 fun aS=> ?_
 refine b3 0 fS ?_
 refine bZ ?_
 obtain⟨eX,iL,h⟩:=aw h
 refine dj iL (cU (b:= { cm:=ByteArray.mk #[100],gr:=7,cg:=2:cE }) rfl rj jl (.cons qE rfl (dC (ByteArray.mk #[100])) rfl (.cons mY rfl (bK 7) rfl (.cons k2 rfl (bK 2) rfl (.nil))))) ?_
 refine aj.o8 (α:=cE) (r:= [eX]) Tryz.underlying62 h8 jl rfl rfl (.cons (by simp) (ab rfl) (.nil)) rfl fun gZ=> ?_
 refine gy ([1,2,3,4]:List Int) Tryz.underlying63 bE hI ?_
 refine aB ?_
 refine aj.bU 2 rfl ?_
 obtain⟨a7,dR,h⟩:=aw h
 refine eM 1 gh (fZ dR) fun fs=> ?_
 refine bf c9 ?_
 refine bj (pP (b:=({ (default:bV) with bX:=2,cm:=ByteArray.mk #[114,111,117,116,101,115],dk:=([1,2,3,4]:List Int),hc:=2,lv:=bz (3 + a7.1) } :bV)) [] GC rfl Ag k8 (.cons oS rfl (bK 2) rfl (by rfl) (.cons Cc rfl (dC (ByteArray.mk #[114,111,117,116,101,115])) rfl (by rfl) (.hole iV rfl (ab rfl) iA rfl rfl (.cons vn rfl (ab rfl) rfl (by rfl) (.cons BW rfl (bK 2) rfl (by rfl) (.cons Cd rfl (ab rfl) rfl (by rfl) (.nil)))))))) ?_
 refine aj.oX (z:=(default:bV)) [2] GD k8 rfl fun a3=> ?_
 refine aj.own (α:=cE) 86 ?_
 refine aj.qV (i:=1) fS (ab rfl) (ab rfl) rfl ?_
 refine bG ?_
 refine aC ?_
 refine aB ?_
 refine aj.bU 2 rfl ?_
 obtain⟨bR,e2,h⟩:=aw h
 refine eM 1 nk (mZ e2) fun iQ=> ?_
 refine aJ ?_
 obtain⟨bM,cG,h⟩:=aw h
 refine iq (γ:=(Option Nat × Nat)) [0,2,3,4,28] (fun az=> []) (fun az=> [(2,⟨some a3,.cz (bM.1:bV) [(2,a0 az.1 bM.2.length az.2)]⟩),(3,⟨az.1,.row 86 (bM.2:List cE) az.2⟩)]) (fun az=> ?_) (fun hm ar=> ?_) fun hm ar=> ?_
 ·clear cG
  refine ad.next ?_
  refine aC ?_
  obtain⟨gX,lH,h⟩:=aw h
  refine dj lH (cU (b:= { cm:=ByteArray.mk #[101],gr:=6,cg:=3:cE }) rfl rj jl (.cons qE rfl (dC (ByteArray.mk #[101])) rfl (.cons mY rfl (bK 6) rfl (.cons k2 rfl (bK 3) rfl (.nil))))) ?_
  obtain⟨gY,mK,h⟩:=aw h
  refine dj mK (cU (b:= { cm:=ByteArray.mk #[97],gr:=4,cg:=3:cE }) rfl rj jl (.cons qE rfl (dC (ByteArray.mk #[97])) rfl (.cons mY rfl (bK 4) rfl (.cons k2 rfl (bK 3) rfl (.nil))))) ?_
  refine aj.o8 (α:=cE) (r:= [gX,gY]) Tryz.underlying62 h8 jl rfl rfl (.cons (by simp) (ab rfl) (.cons (by simp) (ab rfl) (.nil))) rfl fun jZ=> ?_
  refine gy ([1,2,3,5,6]:List Int) Tryz.underlying63 bE hI ?_
  refine aB ?_
  refine aj.bU 1 rfl ?_
  obtain⟨br,g2,h⟩:=aw h
  refine eM 1 gh (fZ g2) fun ek=> ?_
  refine bf c9 ?_
  refine bj (pP (b:=({ (default:bV) with bX:=3,cm:=ByteArray.mk #[97,99,108],dk:=([1,2,3,5,6]:List Int),hc:=1,lv:=bz (4 + br.1) } :bV)) [] GC rfl Ag k8 (.cons oS rfl (bK 3) rfl (by rfl) (.cons Cc rfl (dC (ByteArray.mk #[97,99,108])) rfl (by rfl) (.hole iV rfl (ab rfl) iA rfl rfl (.cons vn rfl (ab rfl) rfl (by rfl) (.cons BW rfl (bK 1) rfl (by rfl) (.cons Cd rfl (ab rfl) rfl (by rfl) (.nil)))))))) ?_
  refine aj.oX (z:=(default:bV)) [2] GD k8 rfl fun bH=> ?_
  refine aj.own (α:=cE) 86 ?_
  refine aj.qV (i:=1) fS (ab rfl) (ab rfl) rfl ?_
  refine bG ?_
  refine aC ?_
  refine aB ?_
  refine aj.bU 2 rfl ?_
  obtain⟨b8,g3,h⟩:=aw h
  refine eM 1 nk (mZ g3) fun iR=> ?_
  refine aJ ?_
  obtain⟨cI,dJ,h⟩:=aw h
  refine iq (γ:=(Option Nat × Nat)) [0,2,3,4,5,28,44] (fun a5=> []) (fun a5=> [(2,⟨some bH,.cz (cI.1:bV) [(2,a0 a5.1 cI.2.length a5.2)]⟩),(3,⟨a5.1,.row 86 (cI.2:List cE) a5.2⟩)]) (fun a5=> ?_) (fun hm ar=> ?_) fun hm ar=> ?_
  ·clear dJ
   refine ad.next ?_
   refine aC ?_
   obtain⟨iO,pf,h⟩:=aw h
   refine dj pf (cU (b:= { cm:=ByteArray.mk #[102],gr:=8,cg:=4:cE }) rfl rj jl (.cons qE rfl (dC (ByteArray.mk #[102])) rfl (.cons mY rfl (bK 8) rfl (.cons k2 rfl (bK 4) rfl (.nil))))) ?_
   refine aj.o8 (α:=cE) (r:= [iO]) Tryz.underlying62 h8 jl rfl rfl (.cons (by simp) (ab rfl) (.nil)) rfl fun iK=> ?_
   refine gy ([1,3,5]:List Int) Tryz.underlying63 bE hI ?_
   refine bj (cU (b:=({ (default:ak) with bO:=7#64 } :ak)) rfl gT dP (.cons dT rfl (gb 7 rfl) rfl (.nil))) ?_
   refine gy [({ (default:ak) with bO:=7#64 } :ak)] Tryz.underlying48 bN dP ?_
   refine aB ?_
   refine aj.bU 1 rfl ?_
   obtain⟨cD,kN,h⟩:=aw h
   refine eM 1 gh (fZ kN) fun iS=> ?_
   refine bf c9 ?_
   refine bj (pP (b:=({ (default:bV) with bX:=4,cm:=ByteArray.mk #[115,112,97,110,115],dk:=([1,3,5]:List Int),hc:=3,tA:= [({ (default:ak) with bO:=7#64 } :ak)],lv:=bz (3 + cD.1) } :bV)) [] GC rfl Ag k8 (.cons oS rfl (bK 4) rfl (by rfl) (.cons Cc rfl (dC (ByteArray.mk #[115,112,97,110,115])) rfl (by rfl) (.hole iV rfl (ab rfl) iA rfl rfl (.cons vn rfl (ab rfl) rfl (by rfl) (.cons BW rfl (bK 3) rfl (by rfl) (.cons PU rfl (ab rfl) rfl (by rfl) (.cons Cd rfl (ab rfl) rfl (by rfl) (.nil))))))))) ?_
   refine aj.oX (z:=(default:bV)) [2] GD k8 rfl fun cA=> ?_
   refine aj.own (α:=cE) 86 ?_
   refine aj.qV (i:=1) fS (ab rfl) (ab rfl) rfl ?_
   refine bG ?_
   refine aC ?_
   refine aB ?_
   refine aj.bU 2 rfl ?_
   obtain⟨dL,lb,h⟩:=aw h
   refine eM 1 nk (mZ lb) fun rN=> ?_
   refine aJ ?_
   obtain⟨fb,gx,h⟩:=aw h
   refine iq (γ:=(Option Nat × Nat)) [0,2,3,4,5,6,28,44,61] (fun bu=> []) (fun bu=> [(2,⟨some cA,.cz (fb.1:bV) [(2,a0 bu.1 fb.2.length bu.2)]⟩),(3,⟨bu.1,.row 86 (fb.2:List cE) bu.2⟩)]) (fun bu=> ?_) (fun hm ar=> ?_) fun hm ar=> ?_
   ·clear gx
    refine ad.next ?_
    refine aC ?_
    refine b6 10 fS ?_
    refine aj.iX (β:=bV) (γ:=cE) (b':=(({ bM.1 with bx:=bM.2 } :bV):bV)) ((aL.id bV).comp iV) 8 9 0 rfl rfl rfl rfl rfl rfl ?_
    refine aj.nQ 8 rfl ?_
    refine b6 8 fS ?_
    refine aj.iX (β:=bV) (γ:=cE) (b':=(({ cI.1 with bx:=cI.2 } :bV):bV)) ((aL.id bV).comp iV) 5 6 0 rfl rfl rfl rfl rfl rfl ?_
    refine aj.nQ 5 rfl ?_
    refine b6 5 fS ?_
    refine aj.iX (β:=bV) (γ:=cE) (b':=(({ fb.1 with bx:=fb.2 } :bV):bV)) ((aL.id bV).comp iV) 2 3 0 rfl rfl rfl rfl rfl rfl ?_
    refine aj.nQ 2 rfl ?_
    refine b6 2 fS ?_
    obtain⟨iP,ph,h⟩:=aw h
    refine aj.Of (α:=bV) (r0:= [dm,({ bM.1 with bx:=bM.2 } :bV),({ cI.1 with bx:=cI.2 } :bV),({ fb.1 with bx:=fb.2 } :bV)]) (r:=iP) Tryz.underlying28 fS k8 rfl rfl (.cons (by simp) (ab rfl) (.cons (by simp) (ab rfl) (.cons (by simp) (ab rfl) (.cons (by simp) (ab rfl) (.nil))))) (aG ph) rfl fun rh=> ?_
    refine aK ?_
    refine bZ ?_
    obtain⟨hF,ru,h⟩:=aw h
    refine dj ru (jW (r:= [ByteArray.mk #[],ByteArray.mk #[97,32,33,61,32,48],ByteArray.mk #[97,32,60,32,49,52,32,38,38,32,97,32,33,61,32,51]]) Tryz.underlying200 pk D8 rfl rfl (.cons (by simp) (dC (ByteArray.mk #[])) (.cons (by simp) (dC (ByteArray.mk #[97,32,33,61,32,48])) (.cons (by simp) (dC (ByteArray.mk #[97,32,60,32,49,52,32,38,38,32,97,32,33,61,32,51])) (.nil))))) ?_
    obtain⟨lh,uM,h⟩:=aw h
    refine dj uM (jW (r:= [ByteArray.mk #[],ByteArray.mk #[100,58,58,112,114,101,102,105,120,95,108,101,110,103,116,104,32,62,61,32,56],ByteArray.mk #[100,58,58,112,114,101,102,105,120,95,108,101,110,103,116,104,32,61,61,32,51,50,32,45,62,32,100,58,58,118,97,108,117,101,32,62,32,48,120,102,102]]) Tryz.underlying200 pk D8 rfl rfl (.cons (by simp) (dC (ByteArray.mk #[])) (.cons (by simp) (dC (ByteArray.mk #[100,58,58,112,114,101,102,105,120,95,108,101,110,103,116,104,32,62,61,32,56])) (.cons (by simp) (dC (ByteArray.mk #[100,58,58,112,114,101,102,105,120,95,108,101,110,103,116,104,32,61,61,32,51,50,32,45,62,32,100,58,58,118,97,108,117,101,32,62,32,48,120,102,102])) (.nil))))) ?_
    obtain⟨kO,ur,h⟩:=aw h
    refine dj ur (jW (r:= [ByteArray.mk #[],ByteArray.mk #[112,114,105,111,114,105,116,121,32,60,32,49,48,48,32,38,38,32,40,101,58,58,109,97,115,107,32,33,61,32,48,32,124,124,32,97,58,58,109,97,115,107,32,33,61,32,48,41],ByteArray.mk #[101,58,58,109,97,115,107,32,61,61,32,48,32,45,62,32,112,114,105,111,114,105,116,121,32,62,32,53]]) Tryz.underlying200 pk D8 rfl rfl (.cons (by simp) (dC (ByteArray.mk #[])) (.cons (by simp) (dC (ByteArray.mk #[112,114,105,111,114,105,116,121,32,60,32,49,48,48,32,38,38,32,40,101,58,58,109,97,115,107,32,33,61,32,48,32,124,124,32,97,58,58,109,97,115,107,32,33,61,32,48,41])) (.cons (by simp) (dC (ByteArray.mk #[101,58,58,109,97,115,107,32,61,61,32,48,32,45,62,32,112,114,105,111,114,105,116,121,32,62,32,53])) (.nil))))) ?_
    obtain⟨kp,uu,h⟩:=aw h
    refine dj uu (jW (r:= [ByteArray.mk #[],ByteArray.mk #[102,58,58,104,105,103,104,32,45,32,102,58,58,108,111,119,32,60,61,32,48,120,49,48,48],ByteArray.mk #[33,40,102,58,58,108,111,119,32,61,61,32,48,32,38,38,32,102,58,58,104,105,103,104,32,62,32,49,48,48,48,41]]) Tryz.underlying200 pk D8 rfl rfl (.cons (by simp) (dC (ByteArray.mk #[])) (.cons (by simp) (dC (ByteArray.mk #[102,58,58,104,105,103,104,32,45,32,102,58,58,108,111,119,32,60,61,32,48,120,49,48,48])) (.cons (by simp) (dC (ByteArray.mk #[33,40,102,58,58,108,111,119,32,61,61,32,48,32,38,38,32,102,58,58,104,105,103,104,32,62,32,49,48,48,48,41])) (.nil))))) ?_
    refine gy [hF,lh,kO,kp] Tryz.underlying201 G6 Vz ?_
    refine aK ?_
    refine bG ?_
    refine aC ?_
    refine aB ?_
    refine bj (sw (i:=0) Tryz.underlying28 (ab rfl) rfl rfl) ?_
    refine aB ?_
    refine aJ ?_
    refine ah.block ?_
    obtain⟨aA,ao,h⟩:=aw h
    refine gN (γ:=(Option Nat × Nat)) (δ:=(Option Nat × Nat)) ao [0,2,3,4,5,6,8,28,44,61,80] (fun s1 cM=> [(7,I.eq (a0 cM.1 s1.2.1.length cM.2)),(81,I.of (s1.1))]) (fun s1 cM=> [(0,⟨cM.1,.row 65 (s1.2.1:List bV) cM.2⟩),(1,⟨some cl,.var (s1.2.2:bt)⟩)]) (fun qt=>Exit.exit 0) (fun qt cM=> [(7,I.eq (a0 cM.1 qt.2.2.1.length cM.2)),(81,I.of (qt.1)),(82,I.of (qt.2.1))]) (fun qt cM=> [(0,⟨cM.1,.row 65 (qt.2.2.1:List bV) cM.2⟩),(1,⟨some cl,.var (qt.2.2.2:bt)⟩)]) (rh,4) (fun s1 r h cM=> ?_) fun cM=> ?_
    ·clear ao
     refine aC ?_
     refine bf eb ?_
     refine bG ?_
     refine ch h (fun h=>?_) fun h=>?_
     ·refine cJ ?_
      refine ah.seq ?_
      refine ah.block ?_
      refine aC ?_
      refine aB ?_
      refine aK ?_
      refine aJ ?_
      obtain⟨aZ,cv,h⟩:=aw h
      obtain⟨fU,n2,h⟩:=aw h
      obtain⟨b0,de,h⟩:=aw h
      obtain⟨c1,fl,h⟩:=aw h
      obtain⟨lL,uv,h⟩:=aw h
      refine jq [0,2,3,4,5,6,7,8,9,28,44,61,80,81,82,83] ?_
      refine ah.ki mixed (bh 84 [] [] _ :: bh 85 [] [] _ :: bh 86 [] [] _ :: bh 87 [] [] _ :: bh 88 (2 :: 3 :: []) [] _ :: bh 89 (4 :: []) [] _ :: bh 90 [] [] _ :: ⟨some 91,(6 :: []),(1 :: []),(1 :: []),fun _=>I.of (fU.1),fun hd _=>⟨some cl,.var (fU.2:bt)⟩⟩ :: bh 92 (5 :: 7 :: []) [] _ :: bh 93 (8 :: []) [] _ :: bh 94 (0 :: 1 :: []) (0 :: []) _ :: bh 95 (10 :: []) [] _ :: ⟨none,(9 :: 10 :: 11 :: []),(0 :: []),(0 :: []),fun _=>I.any,fun hd _=>⟨cM.1,.row 65 (lL:List bV) cM.2⟩⟩ :: []) _ (0 :: 2 :: 3 :: 4 :: 5 :: 6 :: 7 :: 8 :: 9 :: 28 :: 44 :: 61 :: 80 :: 81 :: 82 :: 83 :: []) rfl rfl (by kernel_rfl) ⟨gA,gA,gA,gA,cP fun hd E' ay aH au=>o3 (k:=aZ) Tryz.underlying201 G6 (ab (aH _ _ rfl)) (ab (aH _ _ rfl)) (cc cv),fv (c2 G6),gA,?_,cP fun hd E' ay aH au=>o3 (k:=b0) Tryz.underlying200 pk (ab (aH _ _ rfl)) (ab (aH _ _ rfl)) (cc de),fv (c2 pk),cP fun hd E' ay aH au=>p0 (i:=0) (k:=c1) (xs:=(s1.2.1:List bV)) Tryz.underlying28 fS (ab (aH _ _ rfl)) (ab (aH _ _ rfl)) (au 0 _ rfl rfl) (cc fl),fv (aW Uz),?_,trivial⟩ fun gj=> ?_
      ·intro hd E' ay aH au
       refine aj.bU 1 (au 1 _ rfl rfl) ?_
       refine aj.l6 (Lin:= [⟨some cl,.var (s1.2.2:bt)⟩]) (Lr:=ay.eraseIdx 1) gh (fZ n2) ⟨ab (aH _ _ rfl),bK 3,trivial⟩ rfl fun H6=> ?_
       refine aj.nil ?_
       refine ad.back 1 (au 1 _ rfl rfl) ?_
       exact ad.fin (eY []) rfl rfl
      ·intro hd E' ay aH au
       refine aj.wc (i:=0) (k:=c1) ((aL.id bV).comp PV) (v:=(ax (ax [hF,lh,kO,kp] aZ) b0:ByteArray)) (r:=(lL:List bV)) pk (ab (aH _ _ rfl)) (ab (aH _ _ rfl)) (au 0 _ rfl rfl) (cc fl).1 rfl (aG uv) ?_
       refine aj.nil ?_
       exact ad.fin (eY []) rfl rfl
      refine ad.eI (L2:= [⟨cM.1,.row 65 (lL:List bV) cM.2⟩,⟨some cl,.var (fU.2:bt)⟩,⟨none,.row 86 (([]:List cE):List cE) 0⟩,⟨some cA,.var (({ fb.1 with bx:=fb.2 } :bV):bV)⟩,⟨none,.dead⟩,⟨none,.row 86 (([]:List cE):List cE) 0⟩,⟨some bH,.var (({ cI.1 with bx:=cI.2 } :bV):bV)⟩,⟨none,.dead⟩,⟨none,.row 86 (([]:List cE):List cE) 0⟩,⟨some a3,.var (({ bM.1 with bx:=bM.2 } :bV):bV)⟩,⟨none,.dead⟩,⟨some aS,.var (dm:bV)⟩]) rfl ?_
      refine ad.k6 (m:=lL.length) 7 rfl (mv (aG uv)) ?_
      refine ad.k6 (m:=lL.length) 84 rfl (mv (aG uv)) ?_
      refine ko [0,2,3,4,5,6,7,8,9,28,44,61,80,81,82,83,84,85,86,87,88,89,90,91,92,93,94,95] ?_
      refine ad.dG ?_
      refine ad.next ?_
      refine ah.cn ?_
      refine bf c9 ?_
      refine aB ?_
      refine aj.nil ?_
      obtain rfl:=aG h
      exact e0 (cM.1,cM.2) 0
     ·refine ah.exit ?_
      refine ad.exit ?_
      obtain rfl:=aG h
      exact dU (cM.1,cM.2) 0
    ·clear ao
     refine ad.eT ?_
     refine ad.next ?_
     refine aC ?_
     refine aB ?_
     refine aK ?_
     refine aJ ?_
     refine ah.ret ?_
     refine ad.l1 (α:=bV) 0 [2,7,97] ⟨rfl,rfl,rfl,trivial⟩ rfl ?_
     refine ad.bU 1 rfl ?_
     obtain rfl:=aG h
     exact la ()
   ·have h:=gQ ar gx
    refine ah.cn ?_
    refine aY (aW kh) ?_
    refine bj (iH (i:=2) (q:=0) (β:=bV) (γ:=cE) jY (ab rfl) rfl rfl) ?_
    obtain⟨kq,Aj,h⟩:=aw h
    refine dj Aj (cU (b:= { cm:=ByteArray.mk #[103],gr:=9,cg:=1:cE }) rfl rj jl (.cons qE rfl (dC (ByteArray.mk #[103])) rfl (.cons mY rfl (bK 9) rfl (.cons k2 rfl (bK 1) rfl (.nil))))) ?_
    obtain⟨kP,Ak,h⟩:=aw h
    refine dj Ak (cU (b:= { cm:=ByteArray.mk #[100],gr:=7,cg:=2:cE }) rfl rj jl (.cons qE rfl (dC (ByteArray.mk #[100])) rfl (.cons mY rfl (bK 7) rfl (.cons k2 rfl (bK 2) rfl (.nil))))) ?_
    refine gy [kq,kP] Tryz.underlying62 h8 jl ?_
    obtain⟨hJ,pb,h⟩:=aw h
    refine jI 3 Tryz.underlying62 h8 jl pb fun p9 fA=> ?_
    refine aY (aW kh) ?_
    refine aj.jj (i:=2) (γ:=cE) (b':=(({ ({ (default:bV) with bX:=4,cm:=ByteArray.mk #[115,112,97,110,115],dk:=([1,3,5]:List Int),hc:=3,tA:= [({ (default:ak) with bO:=7#64 } :ak)],lv:=bz (3 + cD.1) } :bV) with bx:= [] } :bV):bV)) (os':= [(2,a0 p9 hJ.length fA)]) ((aL.id bV).comp iV) jY (ab rfl) (ab rfl) iA rfl rfl rfl rfl ?_
    refine aj.nil ?_
    obtain rfl:=aG h
    exact dt 0 (hm (p9,fA))
   ·have h:=gR ar gx
    refine ah.skip ?_
    obtain rfl:=aG h
    exact dt 0 (hm (iK,1))
  ·have h:=gQ ar dJ
   refine ah.cn ?_
   refine aY (aW kh) ?_
   refine bj (iH (i:=2) (q:=0) (β:=bV) (γ:=cE) jY (ab rfl) rfl rfl) ?_
   obtain⟨n1,Al,h⟩:=aw h
   refine dj Al (cU (b:= { cm:=ByteArray.mk #[98],gr:=5,cg:=1:cE }) rfl rj jl (.cons qE rfl (dC (ByteArray.mk #[98])) rfl (.cons mY rfl (bK 5) rfl (.cons k2 rfl (bK 1) rfl (.nil))))) ?_
   refine gy [n1] Tryz.underlying62 h8 jl ?_
   obtain⟨g4,rk,h⟩:=aw h
   refine jI 3 Tryz.underlying62 h8 jl rk fun Af jn=> ?_
   refine aY (aW kh) ?_
   refine aj.jj (i:=2) (γ:=cE) (b':=(({ ({ (default:bV) with bX:=3,cm:=ByteArray.mk #[97,99,108],dk:=([1,2,3,5,6]:List Int),hc:=1,lv:=bz (4 + br.1) } :bV) with bx:= [] } :bV):bV)) (os':= [(2,a0 Af g4.length jn)]) ((aL.id bV).comp iV) jY (ab rfl) (ab rfl) iA rfl rfl rfl rfl ?_
   refine aj.nil ?_
   obtain rfl:=aG h
   exact dt 0 (hm (Af,jn))
  ·have h:=gR ar dJ
   refine ah.skip ?_
   obtain rfl:=aG h
   exact dt 0 (hm (jZ,2))
 ·have h:=gQ ar cG
  refine ah.cn ?_
  refine aY (aW kh) ?_
  refine bj (iH (i:=2) (q:=0) (β:=bV) (γ:=cE) jY (ab rfl) rfl rfl) ?_
  obtain⟨oF,Am,h⟩:=aw h
  refine dj Am (cU (b:= { cm:=ByteArray.mk #[109],gr:=3,cg:=1:cE }) rfl rj jl (.cons qE rfl (dC (ByteArray.mk #[109])) rfl (.cons mY rfl (bK 3) rfl (.cons k2 rfl (bK 1) rfl (.nil))))) ?_
  refine gy [oF] Tryz.underlying62 h8 jl ?_
  obtain⟨fg,rl,h⟩:=aw h
  refine jI 3 Tryz.underlying62 h8 jl rl fun Og p8=> ?_
  refine aY (aW kh) ?_
  refine aj.jj (i:=2) (γ:=cE) (b':=(({ ({ (default:bV) with bX:=2,cm:=ByteArray.mk #[114,111,117,116,101,115],dk:=([1,2,3,4]:List Int),hc:=2,lv:=bz (3 + a7.1) } :bV) with bx:= [] } :bV):bV)) (os':= [(2,a0 Og fg.length p8)]) ((aL.id bV).comp iV) jY (ab rfl) (ab rfl) iA rfl rfl rfl rfl ?_
  refine aj.nil ?_
  obtain rfl:=aG h
  exact dt 0 (hm (Og,p8))
 ·have h:=gR ar cG
  refine ah.skip ?_
  obtain rfl:=aG h
  exact dt 0 (hm (gZ,1))
end Go.Proofs.YtmnggbjcnoffeaaGreat
namespace Go.Proofs.YtmnggbjcnoffeaaGreat
open Go Gv
set_option linter.unusedVariables false
set_option linter.unusedSimpArgs false
set_option maxRecDepth 100000
set_option maxHeartbeats 2000000
theorem Qx {J:bt} {ag:List bV} {cl:Nat} {r:(List cO) × bt} (h:x2 J ag=some r):cy Tryz.prog 71 [I.eq (.pointer (some ⟨cl,0,none⟩)),I.of (ag)] [⟨some cl,.var (J:bt)⟩] (δ:=Unit) (fun d=>I.of (r.1)) (fun d=> [⟨some cl,.var (r.2:bt)⟩]):=by
 unfold x2 at h
 refine cy.of Tryz.func71 rfl Tryz.ntmps71 rfl fun W A=> ?_
 refine aC ?_
 refine bj (eG (look_nil (α:=cO))) ?_
 refine bZ ?_
 refine gy ([1,2,3,4,5,6]:List Int) Tryz.underlying63 bE hI ?_
 refine bj (pP (b:=({ (default:cO) with bX:=1,cm:=ByteArray.mk #[97,108,108],dk:=([1,2,3,4,5,6]:List Int),qQ:=40,y5:=true } :cO)) [2] v3 rfl G7 sG (.cons Cn rfl (bK 1) rfl (by rfl) (.cons E5 rfl (dC (ByteArray.mk #[97,108,108])) rfl (by rfl) (.cons EU rfl (ab rfl) rfl (by rfl) (.cons E0 rfl (bK 40) rfl (by rfl) (.cons Qy rfl (fP true) rfl (by rfl) (.nil))))))) ?_
 refine aj.own (α:=dr) 207 ?_
 refine aj.oX (z:=(default:cO)) [2] v3 sG rfl fun aS=> ?_
 refine aj.own (α:=dr) 207 ?_
 refine aj.qV (i:=1) pZ (ab rfl) (ab rfl) rfl ?_
 refine bZ ?_
 refine aB ?_
 refine aj.bU 3 rfl ?_
 obtain⟨al,bs,h⟩:=aw h
 refine eM 1 gh (fZ bs) fun aF=> ?_
 refine bf c9 ?_
 refine gy ([1,2,bz (3 + al.1)]:List Int) Tryz.underlying63 bE hI ?_
 refine aB ?_
 refine aj.bU 0 rfl ?_
 obtain⟨aN,ck,h⟩:=aw h
 refine eM 1 gh (fZ ck) fun cT=> ?_
 refine bf c9 ?_
 refine bj (pP (b:=({ (default:cO) with bX:=2,cm:=ByteArray.mk #[115,111,109,101],dk:=([1,2,bz (3 + al.1)]:List Int),qQ:=bz (1 + aN.1) } :cO)) [2] v3 rfl G7 sG (.cons Cn rfl (bK 2) rfl (by rfl) (.cons E5 rfl (dC (ByteArray.mk #[115,111,109,101])) rfl (by rfl) (.cons EU rfl (ab rfl) rfl (by rfl) (.cons E0 rfl (ab rfl) rfl (by rfl) (.nil)))))) ?_
 refine aj.own (α:=dr) 207 ?_
 refine aj.oX (z:=(default:cO)) [2] v3 sG rfl fun a3=> ?_
 refine aj.own (α:=dr) 207 ?_
 refine aj.qV (i:=1) pZ (ab rfl) (ab rfl) rfl ?_
 refine bZ ?_
 refine aB ?_
 refine aj.bU 3 rfl ?_
 obtain⟨a7,dR,h⟩:=aw h
 refine eM 1 gh (fZ dR) fun fs=> ?_
 refine bf c9 ?_
 refine gy [bz (1 + a7.1)] Tryz.underlying63 bE hI ?_
 refine aB ?_
 refine aj.bU 0 rfl ?_
 obtain⟨bR,e2,h⟩:=aw h
 refine eM 1 gh (fZ e2) fun iQ=> ?_
 refine bj (pP (b:=({ (default:cO) with bX:=7,cm:=ByteArray.mk #[102,101,119],dk:= [bz (1 + a7.1)],qQ:=bR.1 } :cO)) [2] v3 rfl G7 sG (.cons Cn rfl (bK 7) rfl (by rfl) (.cons E5 rfl (dC (ByteArray.mk #[102,101,119])) rfl (by rfl) (.cons EU rfl (ab rfl) rfl (by rfl) (.cons E0 rfl (ab rfl) rfl (by rfl) (.nil)))))) ?_
 refine aj.own (α:=dr) 207 ?_
 refine aj.oX (z:=(default:cO)) [2] v3 sG rfl fun bH=> ?_
 refine aj.own (α:=dr) 207 ?_
 refine aj.qV (i:=1) pZ (ab rfl) (ab rfl) rfl ?_
 refine bG ?_
 refine aC ?_
 refine aB ?_
 refine aY (eS Tryz.underlying28) ?_
 refine aB ?_
 refine aJ ?_
 refine ah.block ?_
 obtain⟨aA,ao,h⟩:=aw h
 refine gN (γ:=(Option Nat × Nat) × (Option Nat × Nat) × (Option Nat × Nat)) (δ:=(Option Nat × Nat) × (Option Nat × Nat) × (Option Nat × Nat)) ao [0,1,4,5,6,7,30,31] (fun s1 az=> [(32,I.of (s1.1))]) (fun s1 az=> [(1,⟨some bH,.cz (s1.2.1:cO) [(2,a0 az.1.1 s1.2.2.1.length az.1.2)]⟩),(2,⟨az.1.1,.row 207 (s1.2.2.1:List dr) az.1.2⟩),(3,⟨some cl,.var (s1.2.2.2.1:bt)⟩),(5,⟨some a3,.cz (s1.2.2.2.2.1:cO) [(2,a0 az.2.1.1 s1.2.2.2.2.2.1.length az.2.1.2)]⟩),(6,⟨az.2.1.1,.row 207 (s1.2.2.2.2.2.1:List dr) az.2.1.2⟩),(8,⟨some aS,.cz (s1.2.2.2.2.2.2.1:cO) [(2,a0 az.2.2.1 s1.2.2.2.2.2.2.2.length az.2.2.2)]⟩),(9,⟨az.2.2.1,.row 207 (s1.2.2.2.2.2.2.2:List dr) az.2.2.2⟩)]) (fun ek=>Exit.exit 0) (fun ek az=> [(32,I.of (ek.1)),(33,I.of (ek.2.1))]) (fun ek az=> [(1,⟨some bH,.cz (ek.2.2.1:cO) [(2,a0 az.1.1 ek.2.2.2.1.length az.1.2)]⟩),(2,⟨az.1.1,.row 207 (ek.2.2.2.1:List dr) az.1.2⟩),(3,⟨some cl,.var (ek.2.2.2.2.1:bt)⟩),(5,⟨some a3,.cz (ek.2.2.2.2.2.1:cO) [(2,a0 az.2.1.1 ek.2.2.2.2.2.2.1.length az.2.1.2)]⟩),(6,⟨az.2.1.1,.row 207 (ek.2.2.2.2.2.2.1:List dr) az.2.1.2⟩),(8,⟨some aS,.cz (ek.2.2.2.2.2.2.2.1:cO) [(2,a0 az.2.2.1 ek.2.2.2.2.2.2.2.2.length az.2.2.2)]⟩),(9,⟨az.2.2.1,.row 207 (ek.2.2.2.2.2.2.2.2:List dr) az.2.2.2⟩)]) ((none,0),(none,0),(none,0)) (fun s1 r h az=> ?_) fun az=> ?_
 ·clear ao
  refine aC ?_
  refine bf eb ?_
  refine bG ?_
  refine ch h (fun h=>?_) fun h=>?_
  ·refine cJ ?_
   refine ah.seq ?_
   refine ah.block ?_
   refine aC ?_
   obtain⟨aZ,cv,h⟩:=aw h
   refine gJ cv Tryz.underlying28 fS ?_
   refine aY (c2 fS) ?_
   refine cx k8 fun cA=> ?_
   refine b3 0 fS ?_
   refine bZ ?_
   refine aY (aW kh) ?_
   refine cb 0 iV jY ?_
   refine aY (eS Tryz.underlying62) ?_
   obtain⟨br,g2,h⟩:=aw h
   refine aj.D9 Tryz.underlying205 ir Ea rfl (by kernel_rfl) (ab rfl) (ab rfl) g2 rfl fun gZ=> ?_
   refine aK ?_
   refine bZ ?_
   refine aY (aW kh) ?_
   refine cb 1 iV jY ?_
   refine aY (eS Tryz.underlying62) ?_
   obtain⟨b8,g3,h⟩:=aw h
   refine aj.D9 Tryz.underlying205 ir Ea rfl (by kernel_rfl) (ab rfl) (ab rfl) g3 rfl fun jZ=> ?_
   refine aK ?_
   refine bG ?_
   refine aC ?_
   refine aB ?_
   refine bj (sw (i:=1) Tryz.underlying205 (ab rfl) rfl rfl) ?_
   refine aB ?_
   refine aJ ?_
   refine ah.block ?_
   obtain⟨aU,ao,h⟩:=aw h
   refine gN (γ:=(Option Nat × Nat) × (Option Nat × Nat)) (δ:=(Option Nat × Nat) × (Option Nat × Nat)) ao [0,1,4,5,6,7,9,30,31,32,33,45] (fun s2 a5=> [(10,I.eq (a0 a5.2.1 s2.2.2.1.length a5.2.2)),(11,I.eq (a0 a5.1.1 s2.2.1.length a5.1.2)),(46,I.of (s2.1))]) (fun s2 a5=> [(0,⟨a5.1.1,.row 4 (s2.2.1:List Bool) a5.1.2⟩),(1,⟨a5.2.1,.row 4 (s2.2.2.1:List Bool) a5.2.2⟩),(6,⟨some cl,.var (s2.2.2.2:bt)⟩)]) (fun iR=>Exit.exit 2) (fun iR a5=> [(10,I.eq (a0 a5.2.1 iR.2.2.2.1.length a5.2.2)),(11,I.eq (a0 a5.1.1 iR.2.2.1.length a5.1.2)),(46,I.of (iR.1)),(47,I.of (iR.2.1))]) (fun iR a5=> [(0,⟨a5.1.1,.row 4 (iR.2.2.1:List Bool) a5.1.2⟩),(1,⟨a5.2.1,.row 4 (iR.2.2.2.1:List Bool) a5.2.2⟩),(6,⟨some cl,.var (iR.2.2.2.2:bt)⟩)]) ((jZ,b8.length),(gZ,br.length)) (fun s2 r h a5=> ?_) fun a5=> ?_
   ·clear ao
    refine aC ?_
    refine bf eb ?_
    refine bG ?_
    refine ch h (fun h=>?_) fun h=>?_
    ·refine cJ ?_
     refine ah.seq ?_
     refine ah.block ?_
     refine aC ?_
     refine aB ?_
     refine aK ?_
     refine aJ ?_
     refine ah.cn ?_
     refine aB ?_
     refine aB ?_
     refine aB ?_
     refine aB ?_
     refine aB ?_
     refine aj.bU 6 rfl ?_
     obtain⟨cD,kN,h⟩:=aw h
     refine eM 1 gh (fZ kN) fun iS=> ?_
     refine bf ow ?_
     obtain⟨b0,de,h⟩:=aw h
     refine bj (p0 (i:=2) (k:=b0) (xs:=(s2.2.2.1:List Bool)) Tryz.underlying205 ir (ab rfl) (ab rfl) rfl (cc de)) ?_
     refine aj.wc (i:=2) (k:=b0) (aL.id Bool) (v:=(true:Bool)) (r:=(hk s2.2.2.1 b0 true:List Bool)) ir (ab rfl) (fP true) rfl (cc de).1 rfl rfl ?_
     refine aj.k6 (m:=(hk s2.2.2.1 b0 true).length) 10 rfl (mv rfl) ?_
     refine aj.k6 (m:=(hk s2.2.2.1 b0 true).length) 49 rfl (mv rfl) ?_
     obtain⟨c1,fl,h⟩:=aw h
     refine bj (p0 (i:=1) (k:=c1) (xs:=(s2.2.1:List Bool)) Tryz.underlying205 ir (ab rfl) (ab rfl) rfl (cc fl)) ?_
     refine aj.wc (i:=1) (k:=c1) (aL.id Bool) (v:=(decide (cD.1 > 0):Bool)) (r:=(hk s2.2.1 c1 (decide (cD.1 > 0)):List Bool)) ir (ab rfl) (ab rfl) rfl (cc fl).1 rfl rfl ?_
     refine aj.k6 (m:=(hk s2.2.1 c1 (decide (cD.1 > 0))).length) 11 rfl (mv rfl) ?_
     refine aj.k6 (m:=(hk s2.2.1 c1 (decide (cD.1 > 0))).length) 51 rfl (mv rfl) ?_
     refine aj.nil ?_
     refine ad.dG ?_
     refine ad.next ?_
     refine ah.cn ?_
     refine bf c9 ?_
     refine aB ?_
     refine aj.nil ?_
     refine ad.bU 6 rfl ?_
     refine ad.bU 6 rfl ?_
     refine ad.bU 6 rfl ?_
     refine ad.bU 6 rfl ?_
     refine ad.bU 6 rfl ?_
     refine ad.bU 6 rfl ?_
     obtain rfl:=aG h
     exact e0 ((a5.1.1,a5.1.2),(a5.2.1,a5.2.2)) 0
    ·refine ah.exit ?_
     refine ad.exit ?_
     obtain rfl:=aG h
     exact dU ((a5.1.1,a5.1.2),(a5.2.1,a5.2.2)) 0
   ·clear ao
    refine ad.eT ?_
    refine ad.next ?_
    refine aC ?_
    refine aY (aW v5) ?_
    refine bj (iH (i:=11) (q:=0) (β:=cO) (γ:=dr) uh (ab rfl) rfl rfl) ?_
    refine aY (aW tV) ?_
    refine cb 2 oS bE ?_
    refine aB ?_
    refine aj.l1 (α:=Bool) 1 [63,10] ⟨rfl,rfl,trivial⟩ rfl ?_
    obtain⟨bl,di,h⟩:=aw h
    refine dj di (cU (b:= { dO:=(ax ag aZ).bX,qW:=true,qR:=true,bx:=aU.2.2.2.1:dr }) rfl G8 q6 (.cons EW rfl (ab rfl) rfl (.cons E1 rfl (fP true) rfl (.cons EX rfl (fP true) rfl (.cons E2 rfl (ab rfl) rfl (.nil)))))) ?_
    refine gy [bl] Tryz.underlying202 wB q6 ?_
    obtain⟨dL,lb,h⟩:=aw h
    refine jI 12 Tryz.underlying202 wB q6 lb fun iK fA=> ?_
    refine aY (aW v5) ?_
    refine aj.jj (i:=11) (γ:=dr) (b':=(({ s1.2.2.2.2.2.2.1 with iW:= [] } :cO):cO)) (os':= [(2,a0 iK dL.length fA)]) ((aL.id cO).comp vq) uh (ab rfl) (ab rfl) iA rfl rfl rfl rfl ?_
    refine bG ?_
    refine aC ?_
    refine aB ?_
    refine aj.bU 6 rfl ?_
    obtain⟨fU,n2,h⟩:=aw h
    refine eM 1 gh (fZ n2) fun rN=> ?_
    refine bf ow ?_
    refine aJ ?_
    refine ah.freeze (α:=Bool) 1 11 rfl rfl ?_
    obtain⟨bM,cG,h⟩:=aw h
    refine iq (γ:=(Option Nat × Nat)) [0,1,4,5,6,7,9,10,11,30,31,32,33,45,46,47,70] (fun bu=> []) (fun bu=> [(0,⟨some cl,.var (bM.1:bt)⟩),(8,⟨some a3,.cz (bM.2.1:cO) [(2,a0 bu.1 bM.2.2.length bu.2)]⟩),(9,⟨bu.1,.row 207 (bM.2.2:List dr) bu.2⟩)]) (fun bu=> ?_) (fun hm ar=> ?_) fun hm ar=> ?_
    ·clear cG
     refine ad.next ?_
     refine aC ?_
     refine aB ?_
     refine aj.bU 0 rfl ?_
     obtain⟨hJ,pb,h⟩:=aw h
     refine eM 1 nk (mZ pb) fun qt=> ?_
     refine aJ ?_
     obtain⟨cI,dJ,h⟩:=aw h
     refine iq (γ:=(Option Nat × Nat)) [0,1,4,5,6,7,9,10,11,30,31,32,33,45,46,47,70,86] (fun cM=> []) (fun cM=> [(0,⟨some cl,.var (cI.1:bt)⟩),(5,⟨some bH,.cz (cI.2.1:cO) [(2,a0 cM.1 cI.2.2.length cM.2)]⟩),(6,⟨cM.1,.row 207 (cI.2.2:List dr) cM.2⟩)]) (fun cM=> ?_) (fun hm ar=> ?_) fun hm ar=> ?_
     ·clear dJ
      refine ad.dG ?_
      refine ad.next ?_
      refine ah.cn ?_
      refine bf c9 ?_
      refine aB ?_
      refine aj.nil ?_
      refine ad.bU 6 rfl ?_
      refine ad.bU 6 rfl ?_
      refine ad.bU 6 rfl ?_
      refine ad.bU 6 rfl ?_
      refine ad.bU 6 rfl ?_
      refine ad.bU 6 rfl ?_
      obtain rfl:=aG h
      exact e0 ((cM.1,cM.2),(bu.1,bu.2),(iK,fA)) 3
     ·have h:=gQ ar dJ
      obtain⟨g4,rk,h⟩:=aw h
      obtain⟨fg,rl,h⟩:=aw h
      obtain⟨dm,hn,h⟩:=aw h
      obtain⟨ib,uw,h⟩:=aw h
      refine jq [0,1,4,5,6,7,9,10,11,30,31,32,33,45,46,47,70,85,86] ?_
      refine ah.ki mixed (bh 87 [] [] _ :: bh 88 (0 :: []) (5 :: []) _ :: bh 89 [] [] _ :: bh 90 (2 :: []) (3 :: []) _ :: bh 91 [] [] _ :: ⟨some 92,(4 :: []),(0 :: []),(0 :: []),fun _=>I.of (g4.1),fun hd _=>⟨some cl,.var (g4.2:bt)⟩⟩ :: bh 93 [] [] _ :: ⟨some 94,(5 :: 6 :: []),(0 :: []),(0 :: []),fun _=>I.of (fg.1),fun hd _=>⟨some cl,.var (fg.2:bt)⟩⟩ :: bh 95 [] [] _ :: bh 96 (3 :: 5 :: 7 :: 8 :: []) [] _ :: bh 97 (9 :: []) [] _ :: ⟨some 98,(1 :: 10 :: []),(6 :: []),(6 :: []),fun hd=>I.eq (a0 (hd 11 0) ib.length ((hd 11 1).getD 0)),fun hd _=>⟨(hd 11 0),.row 207 (ib:List dr) ((hd 11 1).getD 0)⟩⟩ :: bh 99 [] [] _ :: ⟨none,(1 :: 11 :: 12 :: []),(5 :: []),(5 :: []),fun _=>I.any,fun hd _=>⟨some bH,.cz (({ s1.2.1 with iW:= [] } :cO):cO) [(2,a0 (hd 11 0) ib.length ((hd 11 1).getD 0))]⟩⟩ :: []) _ (0 :: 1 :: 4 :: 5 :: 6 :: 7 :: 9 :: 10 :: 11 :: 30 :: 31 :: 32 :: 33 :: 45 :: 46 :: 47 :: 70 :: 85 :: 86 :: []) rfl rfl (by kernel_rfl) ⟨fv (aW v5),cP fun hd E' ay aH au=>iH (i:=5) (q:=0) (β:=cO) (γ:=dr) uh (ab (aH _ _ rfl)) (au 5 _ rfl rfl) rfl,fv (aW tV),n0 3 oS bE,gA,?_,gA,?_,gA,cP fun hd E' ay aH au=>(cU (b:= { dO:=(ax ag aZ).bX,qW:=g4.1,qR:=fg.1,bx:=aU.2.2.2.1:dr }) rfl G8 q6 (.cons EW rfl (ab (aH _ _ rfl)) rfl (.cons E1 rfl (ab (aH _ _ rfl)) rfl (.cons EX rfl (ab (aH _ _ rfl)) rfl (.cons E2 rfl (ab (aH _ _ rfl)) rfl (.nil)))))).as (aG hn),cP fun hd E' ay aH au=>jW (r:= [dm]) Tryz.underlying202 wB q6 rfl rfl (.cons (by simp) (ab (aH _ _ rfl)) (.nil)),?_,fv (aW v5),?_,trivial⟩ fun gj=> ?_
      ·intro hd E' ay aH au
       refine aj.bU 0 (au 0 _ rfl rfl) ?_
       refine aj.l6 (Lin:= [⟨some cl,.var (hJ.2:bt)⟩]) (Lr:=ay.eraseIdx 0) nk (mZ rk) ⟨ab (aH _ _ rfl),trivial⟩ rfl fun H6=> ?_
       refine aj.nil ?_
       refine ad.back 0 (au 0 _ rfl rfl) ?_
       exact ad.fin (eY []) rfl rfl
      ·intro hd E' ay aH au
       refine aj.bU 0 (au 0 _ rfl rfl) ?_
       refine aj.l6 (Lin:= [⟨some cl,.var (g4.2:bt)⟩]) (Lr:=ay.eraseIdx 0) nk (mZ rl) ⟨ab (aH _ _ rfl),trivial⟩ rfl fun aap=> ?_
       refine aj.nil ?_
       refine ad.back 0 (au 0 _ rfl rfl) ?_
       exact ad.fin (eY []) rfl rfl
      ·intro hd E' ay aH au
       refine aj.app (i:=6) Tryz.underlying202 wB q6 (bytes:=40) (by kernel_rfl) (ab (aH _ _ rfl)) (au 6 _ rfl rfl) (ab (aH _ _ rfl)) uw rfl fun rh jn=> ?_
       refine aj.nil ?_
       exact ad.fin (eY [rh,some jn]) rfl rfl
      ·intro hd E' ay aH au
       refine aj.jj (i:=5) (γ:=dr) (b':=(({ s1.2.1 with iW:= [] } :cO):cO)) (os':= [(2,a0 (hd 11 0) ib.length ((hd 11 1).getD 0))]) ((aL.id cO).comp vq) uh (ab (aH _ _ rfl)) (ab (aH _ _ rfl)) iA (au 5 _ rfl rfl) rfl rfl rfl ?_
       refine aj.nil ?_
       exact ad.fin (eY []) rfl rfl
      refine ad.eI (L2:= [⟨some cl,.var (fg.2:bt)⟩,⟨none,.dead⟩,⟨none,.dead⟩,⟨some cA,.var (ax ag aZ:bV)⟩,⟨none,.row 207 (([]:List dr):List dr) 0⟩,⟨some bH,.cz (({ s1.2.1 with iW:= [] } :cO):cO) [(2,a0 (gj 11 0) ib.length ((gj 11 1).getD 0))]⟩,⟨(gj 11 0),.row 207 (ib:List dr) ((gj 11 1).getD 0)⟩,⟨none,.row 207 (([]:List dr):List dr) 0⟩,⟨some a3,.cz (bM.2.1:cO) [(2,a0 bu.1 bM.2.2.length bu.2)]⟩,⟨bu.1,.row 207 (bM.2.2:List dr) bu.2⟩,⟨none,.row 207 (([]:List dr):List dr) 0⟩,⟨some aS,.cz (({ s1.2.2.2.2.2.2.1 with iW:= [] } :cO):cO) [(2,a0 iK dL.length fA)]⟩,⟨iK,.row 207 (dL:List dr) fA⟩]) rfl ?_
      refine ko [0,1,4,5,6,7,9,10,11,30,31,32,33,45,46,47,70,85,86,87,89,90,91,92,93,94,95,96,97,98,99] ?_
      obtain rfl:=aG h
      exact dt 0 (hm ((gj 11 0),((gj 11 1).getD 0)))
     ·have h:=gR ar dJ
      refine ah.skip ?_
      obtain rfl:=aG h
      exact dt 0 (hm (az.1.1,az.1.2))
    ·have h:=gQ ar cG
     obtain⟨jJ,ux,h⟩:=aw h
     obtain⟨oG,HA,h⟩:=aw h
     obtain⟨eX,iL,h⟩:=aw h
     obtain⟨mf,HB,h⟩:=aw h
     refine jq [0,1,4,5,6,7,9,10,11,30,31,32,33,45,46,47,59,61,62,63,64,65,66,67,68,69,70] ?_
     refine ah.ki mixed (bh 71 [] [] _ :: bh 72 (0 :: []) (8 :: []) _ :: bh 73 [] [] _ :: bh 74 (2 :: []) (3 :: []) _ :: bh 75 [] [] _ :: ⟨some 76,(4 :: []),(0 :: []),(0 :: []),fun _=>I.of (jJ.1),fun hd _=>⟨some cl,.var (jJ.2:bt)⟩⟩ :: bh 77 (5 :: []) [] _ :: bh 78 [] [] _ :: ⟨some 79,(5 :: 7 :: []),(0 :: []),(0 :: []),fun _=>I.of (oG.1),fun hd _=>⟨some cl,.var (oG.2:bt)⟩⟩ :: bh 80 [] [] _ :: bh 81 (3 :: 6 :: 8 :: 9 :: []) [] _ :: bh 82 (10 :: []) [] _ :: ⟨some 83,(1 :: 11 :: []),(9 :: []),(9 :: []),fun hd=>I.eq (a0 (hd 12 0) mf.length ((hd 12 1).getD 0)),fun hd _=>⟨(hd 12 0),.row 207 (mf:List dr) ((hd 12 1).getD 0)⟩⟩ :: bh 84 [] [] _ :: ⟨none,(1 :: 12 :: 13 :: []),(8 :: []),(8 :: []),fun _=>I.any,fun hd _=>⟨some a3,.cz (({ s1.2.2.2.2.1 with iW:= [] } :cO):cO) [(2,a0 (hd 12 0) mf.length ((hd 12 1).getD 0))]⟩⟩ :: []) _ (0 :: 1 :: 4 :: 5 :: 6 :: 7 :: 9 :: 10 :: 11 :: 30 :: 31 :: 32 :: 33 :: 45 :: 46 :: 47 :: 59 :: 61 :: 62 :: 63 :: 64 :: 65 :: 66 :: 67 :: 68 :: 69 :: 70 :: []) rfl rfl (by kernel_rfl) ⟨fv (aW v5),cP fun hd E' ay aH au=>iH (i:=8) (q:=0) (β:=cO) (γ:=dr) uh (ab (aH _ _ rfl)) (au 8 _ rfl rfl) rfl,fv (aW tV),n0 3 oS bE,gA,?_,Bv ow,gA,?_,gA,cP fun hd E' ay aH au=>(cU (b:= { dO:=(ax ag aZ).bX,qW:=decide (jJ.1 > 0),qR:=oG.1,bx:=aU.2.2.1:dr }) rfl G8 q6 (.cons EW rfl (ab (aH _ _ rfl)) rfl (.cons E1 rfl (ab (aH _ _ rfl)) rfl (.cons EX rfl (ab (aH _ _ rfl)) rfl (.cons E2 rfl (ab (aH _ _ rfl)) rfl (.nil)))))).as (aG iL),cP fun hd E' ay aH au=>jW (r:= [eX]) Tryz.underlying202 wB q6 rfl rfl (.cons (by simp) (ab (aH _ _ rfl)) (.nil)),?_,fv (aW v5),?_,trivial⟩ fun j4=> ?_
     ·intro hd E' ay aH au
      refine aj.bU 0 (au 0 _ rfl rfl) ?_
      refine aj.l6 (Lin:= [⟨some cl,.var (fU.2:bt)⟩]) (Lr:=ay.eraseIdx 0) gh (fZ ux) ⟨ab (aH _ _ rfl),bK 4,trivial⟩ rfl fun aaq=> ?_
      refine aj.nil ?_
      refine ad.back 0 (au 0 _ rfl rfl) ?_
      exact ad.fin (eY []) rfl rfl
     ·intro hd E' ay aH au
      refine aj.bU 0 (au 0 _ rfl rfl) ?_
      refine aj.l6 (Lin:= [⟨some cl,.var (jJ.2:bt)⟩]) (Lr:=ay.eraseIdx 0) nk (mZ HA) ⟨ab (aH _ _ rfl),trivial⟩ rfl fun aar=> ?_
      refine aj.nil ?_
      refine ad.back 0 (au 0 _ rfl rfl) ?_
      exact ad.fin (eY []) rfl rfl
     ·intro hd E' ay aH au
      refine aj.app (i:=9) Tryz.underlying202 wB q6 (bytes:=40) (by kernel_rfl) (ab (aH _ _ rfl)) (au 9 _ rfl rfl) (ab (aH _ _ rfl)) HB rfl fun p9 p8=> ?_
      refine aj.nil ?_
      exact ad.fin (eY [p9,some p8]) rfl rfl
     ·intro hd E' ay aH au
      refine aj.jj (i:=8) (γ:=dr) (b':=(({ s1.2.2.2.2.1 with iW:= [] } :cO):cO)) (os':= [(2,a0 (hd 12 0) mf.length ((hd 12 1).getD 0))]) ((aL.id cO).comp vq) uh (ab (aH _ _ rfl)) (ab (aH _ _ rfl)) iA (au 8 _ rfl rfl) rfl rfl rfl ?_
      refine aj.nil ?_
      exact ad.fin (eY []) rfl rfl
     refine ad.eI (L2:= [⟨some cl,.var (oG.2:bt)⟩,⟨none,.dead⟩,⟨none,.dead⟩,⟨some cA,.var (ax ag aZ:bV)⟩,⟨none,.row 207 (([]:List dr):List dr) 0⟩,⟨some bH,.cz (s1.2.1:cO) [(2,a0 az.1.1 s1.2.2.1.length az.1.2)]⟩,⟨az.1.1,.row 207 (s1.2.2.1:List dr) az.1.2⟩,⟨none,.row 207 (([]:List dr):List dr) 0⟩,⟨some a3,.cz (({ s1.2.2.2.2.1 with iW:= [] } :cO):cO) [(2,a0 (j4 12 0) mf.length ((j4 12 1).getD 0))]⟩,⟨(j4 12 0),.row 207 (mf:List dr) ((j4 12 1).getD 0)⟩,⟨none,.row 207 (([]:List dr):List dr) 0⟩,⟨some aS,.cz (({ s1.2.2.2.2.2.2.1 with iW:= [] } :cO):cO) [(2,a0 iK dL.length fA)]⟩,⟨iK,.row 207 (dL:List dr) fA⟩]) rfl ?_
     refine ko [0,1,4,5,6,7,9,10,11,30,31,32,33,45,46,47,59,61,62,63,64,65,66,67,68,69,70,71,73,74,75,76,77,78,79,80,81,82,83,84] ?_
     obtain rfl:=aG h
     exact dt 0 (hm ((j4 12 0),((j4 12 1).getD 0)))
    ·have h:=gR ar cG
     refine ah.skip ?_
     obtain rfl:=aG h
     exact dt 0 (hm (az.2.1.1,az.2.1.2))
  ·refine ah.exit ?_
   refine ad.exit ?_
   obtain rfl:=aG h
   exact dU ((az.1.1,az.1.2),(az.2.1.1,az.2.1.2),(az.2.2.1,az.2.2.2)) 0
 ·clear ao
  refine ad.eT ?_
  refine ad.next ?_
  refine aC ?_
  refine aj.iX (β:=cO) (γ:=dr) (b':=(({ aA.2.2.2.2.2.2.2.1 with iW:=aA.2.2.2.2.2.2.2.2 } :cO):cO)) ((aL.id cO).comp vq) 8 9 0 rfl rfl rfl rfl rfl rfl ?_
  refine aj.nQ 8 rfl ?_
  obtain⟨gX,lH,h⟩:=aw h
  refine dj lH (fj (i:=8) (aL.id cO) (r:=({ aA.2.2.2.2.2.2.2.1 with iW:=aA.2.2.2.2.2.2.2.2 } :cO)) pZ (ab rfl) rfl rfl rfl) ?_
  refine aj.iX (β:=cO) (γ:=dr) (b':=(({ aA.2.2.2.2.2.1 with iW:=aA.2.2.2.2.2.2.1 } :cO):cO)) ((aL.id cO).comp vq) 5 6 0 rfl rfl rfl rfl rfl rfl ?_
  refine aj.nQ 5 rfl ?_
  refine b6 5 pZ ?_
  refine aj.iX (β:=cO) (γ:=dr) (b':=(({ aA.2.2.1 with iW:=aA.2.2.2.1 } :cO):cO)) ((aL.id cO).comp vq) 1 2 0 rfl rfl rfl rfl rfl rfl ?_
  refine aj.nQ 1 rfl ?_
  refine b6 1 pZ ?_
  obtain⟨gY,mK,h⟩:=aw h
  refine dj mK (jW (r:= [gX,({ aA.2.2.2.2.2.1 with iW:=aA.2.2.2.2.2.2.1 } :cO),({ aA.2.2.1 with iW:=aA.2.2.2.1 } :cO)]) Tryz.underlying30 pZ sG rfl rfl (.cons (by simp) (ab rfl) (.cons (by simp) (ab rfl) (.cons (by simp) (ab rfl) (.nil))))) ?_
  refine aK ?_
  refine aJ ?_
  refine ah.ret ?_
  refine ad.bU 3 rfl ?_
  obtain rfl:=aG h
  exact la ()
end Go.Proofs.YtmnggbjcnoffeaaGreat
namespace Go.Proofs.YtmnggbjcnoffeaaGreat
open Go Gv
set_option linter.unusedVariables false
set_option linter.unusedSimpArgs false
set_option maxRecDepth 100000
set_option maxHeartbeats 2000000
theorem JY {J:bt} {cl:Nat} {r:a2 × bt} (h:vr J=some r):cy Tryz.prog 16 [I.eq (.pointer (some ⟨cl,0,none⟩))] [⟨some cl,.var (J:bt)⟩] (δ:=Unit) (fun d=>I.of (r.1)) (fun d=> [⟨some cl,.var (r.2:bt)⟩]):=by
 unfold vr at h
 refine cy.of Tryz.func16 rfl Tryz.ntmps16 rfl fun W A=> ?_
 refine aC ?_
 refine cx Ao fun aS=> ?_
 refine bZ ?_
 refine aB ?_
 refine aj.bU 1 rfl ?_
 obtain⟨al,bs,h⟩:=aw h
 refine eM 1 gh (fZ bs) fun aF=> ?_
 refine bf c9 ?_
 refine aB ?_
 refine aj.bU 0 rfl ?_
 obtain⟨aN,ck,h⟩:=aw h
 refine eM 1 gh (fZ ck) fun cT=> ?_
 refine bf c9 ?_
 refine bj (pP (b:=({ (default:a2) with yJ:=bz (2 + al.1),yU:=bz (12 + aN.1) } :a2)) [5,7] Ll rfl Xy Ao (.cons P1 rfl (ab rfl) rfl (by rfl) (.cons P6 rfl (ab rfl) rfl (by rfl) (.nil)))) ?_
 refine aj.own (α:=fG) 127 ?_
 refine aj.own (α:=e5) 129 ?_
 refine aj.oX (z:=(default:a2)) [5,7] Ll Ao rfl fun a3=> ?_
 refine aj.own (α:=fG) 127 ?_
 refine aj.own (α:=e5) 129 ?_
 refine aj.qV (i:=2) fH (ab rfl) (ab rfl) rfl ?_
 refine bZ ?_
 obtain⟨bl,di,h⟩:=aw h
 refine dj di (cU (b:= { bX:=1,cm:=ByteArray.mk #[105,110,103,114,101,115,115],fe:=16:fy }) rfl q7 ou (.cons od rfl (bK 1) rfl (.cons qD rfl (dC (ByteArray.mk #[105,110,103,114,101,115,115])) rfl (.cons mX rfl (bK 16) rfl (.nil))))) ?_
 obtain⟨dm,hn,h⟩:=aw h
 refine dj hn (cU (b:= { bX:=2,cm:=ByteArray.mk #[101,103,114,101,115,115],fe:=16:fy }) rfl q7 ou (.cons od rfl (bK 2) rfl (.cons qD rfl (dC (ByteArray.mk #[101,103,114,101,115,115])) rfl (.cons mX rfl (bK 16) rfl (.nil))))) ?_
 obtain⟨eX,iL,h⟩:=aw h
 refine dj iL (cU (b:= { bX:=3,cm:=ByteArray.mk #[109,101,116,97],fe:=8:fy }) rfl q7 ou (.cons od rfl (bK 3) rfl (.cons qD rfl (dC (ByteArray.mk #[109,101,116,97])) rfl (.cons mX rfl (bK 8) rfl (.nil))))) ?_
 refine gV q7 ou { bX:=4,cm:=ByteArray.mk #[97],fe:=4:fy } (iY od (iY qD (iY mX .nil))) ?_
 refine gV q7 ou { bX:=5,cm:=ByteArray.mk #[98],fe:=4:fy } (iY od (iY qD (iY mX .nil))) ?_
 obtain⟨gX,lH,h⟩:=aw h
 refine dj lH (cU (b:= { bX:=6,cm:=ByteArray.mk #[101],fe:=8:fy }) rfl q7 ou (.cons od rfl (bK 6) rfl (.cons qD rfl (dC (ByteArray.mk #[101])) rfl (.cons mX rfl (bK 8) rfl (.nil))))) ?_
 obtain⟨gY,mK,h⟩:=aw h
 refine dj mK (cU (b:= { bX:=7,cm:=ByteArray.mk #[100],fe:=32:fy }) rfl q7 ou (.cons od rfl (bK 7) rfl (.cons qD rfl (dC (ByteArray.mk #[100])) rfl (.cons mX rfl (bK 32) rfl (.nil))))) ?_
 obtain⟨iO,pf,h⟩:=aw h
 refine dj pf (cU (b:= { bX:=8,cm:=ByteArray.mk #[102],fe:=12:fy }) rfl q7 ou (.cons od rfl (bK 8) rfl (.cons qD rfl (dC (ByteArray.mk #[102])) rfl (.cons mX rfl (bK 12) rfl (.nil))))) ?_
 obtain⟨iP,ph,h⟩:=aw h
 refine dj ph (cU (b:= { bX:=9,cm:=ByteArray.mk #[103],fe:=4:fy }) rfl q7 ou (.cons od rfl (bK 9) rfl (.cons qD rfl (dC (ByteArray.mk #[103])) rfl (.cons mX rfl (bK 4) rfl (.nil))))) ?_
 obtain⟨hF,ru,h⟩:=aw h
 refine dj ru (jW (r:= [bl,dm,eX,{ bX:=4,cm:=ByteArray.mk #[97],fe:=4:fy },{ bX:=5,cm:=ByteArray.mk #[98],fe:=4:fy },gX,gY,iO,iP]) Tryz.underlying24 nP ou rfl rfl (.cons (by simp) (ab rfl) (.cons (by simp) (ab rfl) (.cons (by simp) (ab rfl) (.cons (by simp) (ab rfl) (.cons (by simp) (ab rfl) (.cons (by simp) (ab rfl) (.cons (by simp) (ab rfl) (.cons (by simp) (ab rfl) (.cons (by simp) (ab rfl) (.nil))))))))))) ?_
 refine aY (aW sv) ?_
 obtain⟨lh,uM,h⟩:=aw h
 refine aj.sx (i:=2) ((aL.id a2).comp rY) (v:=(hF:List fy)) (b':=(lh:a2)) rf (ab rfl) (ab rfl) rfl rfl (aG uM) (by rfl) ?_
 refine bZ ?_
 refine gy ([4,5,6]:List Int) Tryz.underlying63 bE hI ?_
 obtain⟨kO,ur,h⟩:=aw h
 refine dj ur (cU (b:= { bX:=1,cm:=ByteArray.mk #[111,110,101],fi:=([4,5,6]:List Int):jf }) rfl G9 zF (.cons Ch rfl (bK 1) rfl (.cons EY rfl (dC (ByteArray.mk #[111,110,101])) rfl (.cons EP rfl (ab rfl) rfl (.nil))))) ?_
 refine gy ([7]:List Int) Tryz.underlying63 bE hI ?_
 obtain⟨kp,uu,h⟩:=aw h
 refine dj uu (cU (b:= { bX:=2,cm:=ByteArray.mk #[116,119,111],fi:=([7]:List Int):jf }) rfl G9 zF (.cons Ch rfl (bK 2) rfl (.cons EY rfl (dC (ByteArray.mk #[116,119,111])) rfl (.cons EP rfl (ab rfl) rfl (.nil))))) ?_
 refine gy ([8,9]:List Int) Tryz.underlying63 bE hI ?_
 obtain⟨lL,uv,h⟩:=aw h
 refine dj uv (cU (b:= { bX:=3,cm:=ByteArray.mk #[116,104,114,101,101],fi:=([8,9]:List Int):jf }) rfl G9 zF (.cons Ch rfl (bK 3) rfl (.cons EY rfl (dC (ByteArray.mk #[116,104,114,101,101])) rfl (.cons EP rfl (ab rfl) rfl (.nil))))) ?_
 refine gy [kO,kp,lL] Tryz.underlying25 Dj zF ?_
 refine aY (aW MD) ?_
 refine aj.sx (i:=2) ((aL.id a2).comp JP) (v:=([kO,kp,lL]:List jf)) (b':=(({ lh with ll:= [kO,kp,lL] } :a2):a2)) Hv (ab rfl) (ab rfl) rfl rfl rfl (by rfl) ?_
 refine bZ ?_
 refine aB ?_
 refine aj.bU 5 rfl ?_
 obtain⟨a7,dR,h⟩:=aw h
 refine eM 1 Xz (Qm dR) fun fs=> ?_
 refine aB ?_
 refine aj.bU 0 rfl ?_
 obtain⟨bR,e2,h⟩:=aw h
 refine eM 1 XA (Qe e2) fun iQ=> ?_
 refine aB ?_
 refine aj.bU 0 rfl ?_
 obtain⟨br,g2,h⟩:=aw h
 refine eM 1 XB (Qn g2) fun ek=> ?_
 refine aY (aW ME) ?_
 obtain⟨kq,Aj,h⟩:=aw h
 refine aj.sx (i:=3) ((aL.id a2).comp JT) (v:=(a7.1:List dB)) (b':=(kq:a2)) Hw (ab rfl) (ab rfl) rfl rfl (aG Aj) (by rfl) ?_
 refine aY (aW GA) ?_
 refine aj.sx (i:=3) ((aL.id a2).comp EM) (v:=(bR.1:List dN)) (b':=(({ kq with dk:=bR.1 } :a2):a2)) DM (ab rfl) (ab rfl) rfl rfl rfl (by rfl) ?_
 refine aY (aW l2) ?_
 obtain⟨kP,Ak,h⟩:=aw h
 refine aj.sx (i:=3) ((aL.id a2).comp lX) (v:=(br.1:List bV)) (b':=(kP:a2)) lC (ab rfl) (ab rfl) rfl rfl (aG Ak) (by rfl) ?_
 refine bZ ?_
 refine aB ?_
 refine aY (aW l2) ?_
 refine OH 3 lX lC ?_
 refine aj.bU 0 rfl ?_
 obtain⟨b8,g3,h⟩:=aw h
 refine eM 1 XC (Qx g3) fun iR=> ?_
 refine aY (aW MF) ?_
 refine aj.sx (i:=3) ((aL.id a2).comp JU) (v:=(b8.1:List cO)) (b':=(({ kP with ji:=b8.1 } :a2):a2)) Hx (ab rfl) (ab rfl) rfl rfl rfl (by rfl) ?_
 refine bZ ?_
 refine gV zK sJ { dO:=1,hZ:=1:fG } (iY xT (iY EV .nil)) ?_
 refine gV zK sJ { dO:=2,hZ:=2:fG } (iY xT (iY EV .nil)) ?_
 refine gV zK sJ ({ (default:fG) with dO:=3 } :fG) (iY xT .nil) ?_
 refine gV zK sJ { dO:=4,hZ:=3:fG } (iY xT (iY EV .nil)) ?_
 obtain⟨n1,Al,h⟩:=aw h
 refine aj.Of (α:=fG) (r0:= [{ dO:=1,hZ:=1:fG },{ dO:=2,hZ:=2:fG },({ (default:fG) with dO:=3 } :fG),{ dO:=4,hZ:=3:fG }]) (r:=n1) Tryz.underlying29 Ha sJ rfl rfl (.cons (by simp) (ab rfl) (.cons (by simp) (ab rfl) (.cons (by simp) (ab rfl) (.cons (by simp) (ab rfl) (.nil))))) (aG Al) rfl fun gZ=> ?_
 refine aY (aW GF) ?_
 refine aj.jj (i:=4) (γ:=fG) (b':=(({ ({ kP with ji:=b8.1 } :a2) with m2:= [] } :a2):a2)) (os':= [(5,a0 gZ n1.length 4),(7,a0 none ([]:List e5).length 0)]) ((aL.id a2).comp ER) DO (ab rfl) (ab rfl) iA rfl rfl rfl rfl ?_
 refine bG ?_
 refine aC ?_
 refine aB ?_
 refine aj.bU 1 rfl ?_
 obtain⟨cD,kN,h⟩:=aw h
 refine eM 1 nk (mZ kN) fun iS=> ?_
 refine aJ ?_
 obtain⟨bM,cG,h⟩:=aw h
 refine iq (γ:=(Option Nat × Nat)) [0,2,3,51] (fun az=> []) (fun az=> [(1,⟨az.1,.row 127 (bM:List fG) az.2⟩),(4,⟨some a3,.cz (({ ({ kP with ji:=b8.1 } :a2) with m2:= [] } :a2):a2) [(5,a0 az.1 bM.length az.2),(7,a0 none ([]:List e5).length 0)]⟩)]) (fun az=> ?_) (fun hm ar=> ?_) fun hm ar=> ?_
 ·clear cG
  refine ad.next ?_
  refine ah.seq ?_
  refine aC ?_
  refine aB ?_
  refine aj.bU 0 rfl ?_
  obtain⟨dL,lb,h⟩:=aw h
  refine eM 1 nk (mZ lb) fun rN=> ?_
  refine aJ ?_
  obtain⟨cI,dJ,h⟩:=aw h
  refine iq (γ:=(Option Nat × Nat)) [0,2,3,51,59] (fun a5=> []) (fun a5=> [(4,⟨some a3,.cz (cI.1:a2) [(5,a0 az.1 bM.length az.2),(7,a0 a5.1 cI.2.length a5.2)]⟩),(5,⟨a5.1,.row 129 (cI.2:List e5) a5.2⟩)]) (fun a5=> ?_) (fun hm ar=> ?_) fun hm ar=> ?_
  ·clear dJ
   refine ad.next ?_
   refine ah.seq ?_
   refine aC ?_
   refine aB ?_
   refine aj.bU 0 rfl ?_
   obtain⟨fU,n2,h⟩:=aw h
   refine eM 1 nk (mZ n2) fun qt=> ?_
   refine aB ?_
   refine dE (aW l2) ?_
   refine eW (fun hb=>CW (i:=4) ((aL.id a2).comp lX) (r:=cI.1.bm) lC (ct rfl hb) rfl rfl rfl (by rfl)) ?_
   obtain⟨aZ,cv,h⟩:=aw h
   refine eW (fun hb=>o3 (k:=aZ) Tryz.underlying28 fS (ct rfl hb) (bK 2) (cc (ha cv hb))) ?_
   refine eW (fun hb=>zL iV kh (ct rfl hb) rfl rfl) ?_
   refine dE (c2 jY) ?_
   refine dE (eS Tryz.underlying62) ?_
   refine kn gf ?_
   refine ja ?_
   refine aJ ?_
   obtain⟨fb,gx,h⟩:=aw h
   refine iq (γ:=(Option Nat × Nat)) [0,2,3,51,59,76] (fun bu=> []) (fun bu=> [(4,⟨some a3,.cz (fb.1:a2) [(5,a0 az.1 bM.length az.2),(7,a0 bu.1 fb.2.length bu.2)]⟩),(5,⟨bu.1,.row 129 (fb.2:List e5) bu.2⟩)]) (fun bu=> ?_) (fun hm ar=> ?_) fun hm ar=> ?_
   ·clear gx
    refine ad.next ?_
    refine ah.seq ?_
    refine aC ?_
    refine aB ?_
    refine aj.bU 0 rfl ?_
    obtain⟨hJ,pb,h⟩:=aw h
    refine eM 1 nk (mZ pb) fun H6=> ?_
    refine aB ?_
    refine dE (aW l2) ?_
    refine eW (fun hb=>CW (i:=4) ((aL.id a2).comp lX) (r:=fb.1.bm) lC (ct rfl hb) rfl rfl rfl (by rfl)) ?_
    obtain⟨b0,de,h⟩:=aw h
    refine eW (fun hb=>o3 (k:=b0) Tryz.underlying28 fS (ct rfl hb) (bK 3) (cc (ha de hb))) ?_
    refine eW (fun hb=>zL iV kh (ct rfl hb) rfl rfl) ?_
    refine dE (c2 jY) ?_
    refine dE (eS Tryz.underlying62) ?_
    refine kn gf ?_
    refine ja ?_
    refine aJ ?_
    obtain⟨oN,AM,h⟩:=aw h
    refine iq (γ:=(Option Nat × Nat)) [0,2,3,51,59,76,93] (fun cM=> []) (fun cM=> [(4,⟨some a3,.cz (oN.1:a2) [(5,a0 az.1 bM.length az.2),(7,a0 cM.1 oN.2.length cM.2)]⟩),(5,⟨cM.1,.row 129 (oN.2:List e5) cM.2⟩)]) (fun cM=> ?_) (fun hm ar=> ?_) fun hm ar=> ?_
    ·clear AM
     refine ad.next ?_
     refine aC ?_
     refine aj.iX (β:=a2) (γ:=fG) (b':=(({ oN.1 with m2:=bM } :a2):a2)) ((aL.id a2).comp ER) 4 1 0 rfl rfl rfl rfl rfl rfl ?_
     refine aj.iX (β:=a2) (γ:=e5) (b':=(({ ({ oN.1 with m2:=bM } :a2) with nL:=oN.2 } :a2):a2)) ((aL.id a2).comp B3) 4 5 0 rfl rfl rfl rfl rfl rfl ?_
     refine aj.nQ 4 rfl ?_
     obtain⟨oF,Am,h⟩:=aw h
     refine dj Am (fj (i:=4) (aL.id a2) (r:=({ ({ oN.1 with m2:=bM } :a2) with nL:=oN.2 } :a2)) fH (ab rfl) rfl rfl rfl) ?_
     refine b3 7 fH ?_
     refine aJ ?_
     refine ah.ret ?_
     refine ad.bU 0 rfl ?_
     obtain rfl:=aG h
     exact ad.hj () (.cons_cons _ (List.nil_sublist _)) rfl rfl (jV (i:=7) fH rfl rfl)
    ·have h:=gQ ar AM
     refine ah.cn ?_
     refine aY (aW we) ?_
     refine bj (iH (i:=4) (q:=1) (β:=a2) (γ:=e5) uy (ab rfl) rfl rfl) ?_
     obtain⟨mM,Hz,h⟩:=aw h
     refine dj Hz (cU (b:=({ (default:e5) with dO:=4,ui:=1,oU:=1 } :e5)) rfl Dw p1 (.cons Ck rfl (bK 4) rfl (.cons J8 rfl (bK 1) rfl (.cons B4 rfl (bK 1) rfl (.nil))))) ?_
     obtain⟨rv,An,h⟩:=aw h
     refine dj An (cU (b:=({ (default:e5) with dO:=4,ln:=5,oU:=1 } :e5)) rfl Dw p1 (.cons Ck rfl (bK 4) rfl (.cons J0 rfl (bK 5) rfl (.cons B4 rfl (bK 1) rfl (.nil))))) ?_
     refine gy [mM,rv] Tryz.underlying31 wC p1 ?_
     obtain⟨g4,rk,h⟩:=aw h
     refine jI 5 Tryz.underlying31 wC p1 rk fun jZ fA=> ?_
     refine aY (aW we) ?_
     refine aj.jj (i:=4) (γ:=e5) (b':=(({ fb.1 with nL:= [] } :a2):a2)) (os':= [(5,a0 az.1 bM.length az.2),(7,a0 jZ g4.length fA)]) ((aL.id a2).comp B3) uy (ab rfl) (ab rfl) iA rfl rfl rfl rfl ?_
     refine aj.nil ?_
     obtain rfl:=aG h
     exact dt 0 (hm (jZ,fA))
    ·have h:=gR ar AM
     refine ah.skip ?_
     obtain rfl:=aG h
     exact dt 0 (hm (bu.1,bu.2))
   ·have h:=gQ ar gx
    refine ah.cn ?_
    refine aY (aW we) ?_
    refine bj (iH (i:=4) (q:=1) (β:=a2) (γ:=e5) uy (ab rfl) rfl rfl) ?_
    obtain⟨qi,wR,h⟩:=aw h
    refine dj wR (cU (b:=({ (default:e5) with dO:=3,ui:=2,oU:=1 } :e5)) rfl Dw p1 (.cons Ck rfl (bK 3) rfl (.cons J8 rfl (bK 2) rfl (.cons B4 rfl (bK 1) rfl (.nil))))) ?_
    refine gy [qi] Tryz.underlying31 wC p1 ?_
    obtain⟨fg,rl,h⟩:=aw h
    refine jI 5 Tryz.underlying31 wC p1 rl fun iK jn=> ?_
    refine aY (aW we) ?_
    refine aj.jj (i:=4) (γ:=e5) (b':=(({ cI.1 with nL:= [] } :a2):a2)) (os':= [(5,a0 az.1 bM.length az.2),(7,a0 iK fg.length jn)]) ((aL.id a2).comp B3) uy (ab rfl) (ab rfl) iA rfl rfl rfl rfl ?_
    refine aj.nil ?_
    obtain rfl:=aG h
    exact dt 0 (hm (iK,jn))
   ·have h:=gR ar gx
    refine ah.skip ?_
    obtain rfl:=aG h
    exact dt 0 (hm (a5.1,a5.2))
  ·have h:=gQ ar dJ
   refine ah.cn ?_
   refine aY (aW we) ?_
   refine bj (iH (i:=4) (q:=1) (β:=a2) (γ:=e5) uy (ab rfl) rfl rfl) ?_
   obtain⟨H7,XD,h⟩:=aw h
   refine dj XD (cU (b:=({ (default:e5) with dO:=2,ln:=4,oU:=1 } :e5)) rfl Dw p1 (.cons Ck rfl (bK 2) rfl (.cons J0 rfl (bK 4) rfl (.cons B4 rfl (bK 1) rfl (.nil))))) ?_
   refine gy [H7] Tryz.underlying31 wC p1 ?_
   obtain⟨ib,uw,h⟩:=aw h
   refine jI 5 Tryz.underlying31 wC p1 uw fun rh p8=> ?_
   refine aY (aW we) ?_
   refine aj.jj (i:=4) (γ:=e5) (b':=(({ ({ ({ kP with ji:=b8.1 } :a2) with m2:= [] } :a2) with nL:= [] } :a2):a2)) (os':= [(5,a0 az.1 bM.length az.2),(7,a0 rh ib.length p8)]) ((aL.id a2).comp B3) uy (ab rfl) (ab rfl) iA rfl rfl rfl rfl ?_
   refine aj.nil ?_
   obtain rfl:=aG h
   exact dt 0 (hm (rh,p8))
  ·have h:=gR ar dJ
   refine ah.skip ?_
   obtain rfl:=aG h
   exact dt 0 (hm (none,0))
 ·have h:=gQ ar cG
  refine ah.cn ?_
  refine aY (aW GF) ?_
  refine bj (iH (i:=4) (q:=0) (β:=a2) (γ:=fG) DO (ab rfl) rfl rfl) ?_
  refine gV zK sJ ({ (default:fG) with dO:=1 } :fG) (iY xT .nil) ?_
  refine gy [({ (default:fG) with dO:=1 } :fG)] Tryz.underlying29 Ha sJ ?_
  obtain⟨jJ,ux,h⟩:=aw h
  refine jI 1 Tryz.underlying29 Ha sJ ux fun p9 Ae=> ?_
  refine aY (aW GF) ?_
  refine aj.jj (i:=4) (γ:=fG) (b':=(({ ({ kP with ji:=b8.1 } :a2) with m2:= [] } :a2):a2)) (os':= [(5,a0 p9 jJ.length Ae),(7,a0 none ([]:List e5).length 0)]) ((aL.id a2).comp ER) DO (ab rfl) (ab rfl) iA rfl rfl rfl rfl ?_
  refine aj.nil ?_
  obtain rfl:=aG h
  exact dt 0 (hm (p9,Ae))
 ·have h:=gR ar cG
  refine ah.skip ?_
  obtain rfl:=aG h
  exact dt 0 (hm (gZ,4))
end Go.Proofs.YtmnggbjcnoffeaaGreat
namespace Go.Proofs.YtmnggbjcnoffeaaGreat
open Go Gv
set_option linter.unusedVariables false
set_option linter.unusedSimpArgs false
set_option maxRecDepth 100000
set_option maxHeartbeats 2000000
theorem Qz {hp:a9 Cell} {J:Ref} {ag:ak} {r:Int × Int × Bool} (h:x3 hp J ag=some r):cy Tryz.prog 242 [I.of (J),I.of (ag)] ([] ++ ba hp) (δ:=Unit) (fun _=>I.cN [I.of (r.1),I.of (r.2.1),I.of (r.2.2)]) (fun _=> [] ++ ba hp):=by
 unfold x3 at h
 refine cy.ofM Tryz.func242 rfl Tryz.ntmps242 rfl fun W A=> ?_
 refine aC ?_
 refine cf fun aS=> ?_
 refine aK ?_
 refine aK ?_
 refine aK ?_
 refine bG ?_
 refine ah.seq ?_
 obtain⟨dg,e7,h⟩:=aw h
 obtain⟨cF,fT,h⟩:=aw h
 obtain⟨al,bs,h⟩:=aw h
 refine ah.draw mixed 11 [some 14,some 15,some 16,some 17,some 18,some 19,some 20,some 21,some 22,some 23,some 24] [[],[0],[1],[2],[2],[2,4],[2,5],[2,6],[2,3,7],[2,8],[2,9]] [.val _,.val _,.val _,.val _,.val _,.val _,.val _,.val _,.val _,.val _,.val _] [false,false,false,false,false,false,false,false,false,false,false] (by kernel_rfl) rfl rfl rfl (fun cV=>⟨cR,du fun ay au=>oV Tryz.underlying321 (ab rfl),cR,fa fun ay au=>fun hb=>fj (i:=0) (aL.id ak) (r:=ag) bN (ab rfl) (au _ _ rfl rfl) rfl rfl,fa fun ay au=>fun hb=>c3 (ab rfl),fa fun ay au=>fun hb=>ff (fQ (ct rfl hb) (ha e7 hb)),fa fun ay au=>fun hb=>aW vZ (ct rfl hb),fa fun ay au=>fun hb=>h0 ((aL.id ga).comp tn) (r:=cF.eR) bE (ct rfl hb) (nj (fun i e q=>au i e q rfl) (gU (n:=1) rfl (om (ha fT hb)) rfl)) rfl rfl,fa fun ay au=>fun hb=>hP VA (Ry (ha bs hb)) ⟨ct rfl hb,ct rfl hb,trivial⟩,fa fun ay au=>fun hb=>hz (ct rfl hb),du fun ay au=>o9 (ab rfl) (ab rfl) (fun h=>h),trivial⟩) fun cV=> ?_
 refine aJ ?_
 refine ch h (fun h=>?_) fun h=>?_
 ·refine aC ?_
  refine aK ?_
  refine aK ?_
  refine aK ?_
  refine aJ ?_
  refine ah.ret ?_
  refine ad.ret ?_
  obtain rfl:=aG h
  refine ad.wS ?_
  exact ad.Hb () (.cons _ (.refl _)) rfl rfl (eD rfl) (eD rfl) (eD rfl)
 ·refine cJ ?_
  refine aC ?_
  refine cx hI fun a3=> ?_
  refine cx hI fun bH=> ?_
  refine cx Ea fun cA=> ?_
  refine b3 2 bE ?_
  refine b3 1 bE ?_
  refine b3 0 ir ?_
  refine bZ ?_
  refine aB ?_
  obtain⟨cK,gi,h⟩:=aw h
  refine bj (ff (fQ (ab rfl) gi)) ?_
  refine aY (aW y6) ?_
  obtain⟨da,ho,h⟩:=aw h
  refine bj (h0 ((aL.id ga).comp x4) (r:=da.db) fq (ab rfl) (gU (n:=4) rfl (om ho) rfl) rfl rfl) ?_
  refine cx Dx fun hD=> ?_
  refine cx hI fun ky=> ?_
  refine b3 1 fq ?_
  refine b3 0 bE ?_
  refine bZ ?_
  refine bj (VB (f:=249) (us:= [.pointer (some ⟨hD,0,none⟩),.pointer (some ⟨ky,0,none⟩),.pointer (some ⟨a3,0,none⟩),.pointer (some ⟨bH,0,none⟩),.pointer (some ⟨cA,0,none⟩)]) ⟨ab rfl,ab rfl,ab rfl,ab rfl,ab rfl,trivial⟩) ?_
  refine cx YD fun rL=> ?_
  refine b3 0 H8 ?_
  refine bZ ?_
  refine b6 0 H8 ?_
  refine aj.bU 3 rfl ?_
  refine aj.bU 4 rfl ?_
  refine aj.bU 5 rfl ?_
  refine aj.bU 4 rfl ?_
  refine aj.bU 5 rfl ?_
  obtain⟨aN,ck,h⟩:=aw h
  refine aj.EG (gk.Oh (τs:= []) 7 5 rfl Nt (Lm (ab rfl)) (JO ck) rfl rfl trivial) rfl rfl rfl fun aF=> ?_
  refine aj.eI (L2:=(⟨some hD,.var (da.db:Ref)⟩ :: ⟨some ky,.var (0:Int)⟩ :: ⟨some a3,.var (aN.1:Int)⟩ :: ⟨some bH,.var (aN.2.1:Int)⟩ :: ⟨some cA,.var (aN.2.2:Bool)⟩ :: ⟨some rL,.var ((⟨249,some [.pointer (some ⟨hD,0,none⟩),.pointer (some ⟨ky,0,none⟩),.pointer (some ⟨a3,0,none⟩),.pointer (some ⟨bH,0,none⟩),.pointer (some ⟨cA,0,none⟩)]⟩:Raw):Raw)⟩ :: ⟨some aS,.var (ag:ak)⟩ :: ba hp)) rfl ?_
  refine bG ?_
  refine ah.seq ?_
  obtain⟨a7,dR,h⟩:=aw h
  refine ah.draw mixed 7 [some 32,some 33,some 34,some 35,some 36,some 37,some 38] [[],[],[],[2],[3],[4],[0,1,5]] [.val _,.val _,.val _,.val _,.val _,.val _,.val _] [false,false,false,false,false,false,false] (by kernel_rfl) rfl rfl rfl (fun hB=>⟨cR,e1 6 bN,cR,du fun ay au=>ff (fQ (ab rfl) gi),H1 (aW vZ),du fun ay au=>h0 ((aL.id ga).comp tn) (r:=da.eR) bE (ab rfl) (nj (fun i e q=>au i e q rfl) (gU (n:=7) rfl (om ho) rfl)) rfl rfl,e8 Hc (E9 dR),trivial⟩) fun hB=> ?_
  refine aJ ?_
  refine ah.block ?_
  obtain⟨aA,ao,h⟩:=aw h
  refine K0 (hp:=hp) (γ:=Unit) (g0:=()) (Ls:=fun s1 az=>(⟨some hD,.var (s1.1:Ref)⟩ :: ⟨some ky,.var (s1.2.1:Int)⟩ :: ⟨some a3,.var (s1.2.2.1:Int)⟩ :: ⟨some bH,.var (s1.2.2.2.1:Int)⟩ :: ⟨some cA,.var (s1.2.2.2.2:Bool)⟩ :: ⟨some rL,.var ((⟨249,some [.pointer (some ⟨hD,0,none⟩),.pointer (some ⟨ky,0,none⟩),.pointer (some ⟨a3,0,none⟩),.pointer (some ⟨bH,0,none⟩),.pointer (some ⟨cA,0,none⟩)]⟩:Raw):Raw)⟩ :: ⟨some aS,.var (ag:ak)⟩ :: ba hp)) (Lx:=fun cT az=>(⟨some hD,.var (cT.1:Ref)⟩ :: ⟨some ky,.var (cT.2.1:Int)⟩ :: ⟨some a3,.var (cT.2.2.1:Int)⟩ :: ⟨some bH,.var (cT.2.2.2.1:Int)⟩ :: ⟨some cA,.var (cT.2.2.2.2:Bool)⟩ :: ⟨some rL,.var ((⟨249,some [.pointer (some ⟨hD,0,none⟩),.pointer (some ⟨ky,0,none⟩),.pointer (some ⟨a3,0,none⟩),.pointer (some ⟨bH,0,none⟩),.pointer (some ⟨cA,0,none⟩)]⟩:Raw):Raw)⟩ :: ⟨some aS,.var (ag:ak)⟩ :: ba hp)) (fun s1 az=> [⟨some hD,.var (s1.1:Ref)⟩,⟨some ky,.var (s1.2.1:Int)⟩,⟨some a3,.var (s1.2.2.1:Int)⟩,⟨some bH,.var (s1.2.2.2.1:Int)⟩,⟨some cA,.var (s1.2.2.2.2:Bool)⟩,⟨some rL,.var ((⟨249,some [.pointer (some ⟨hD,0,none⟩),.pointer (some ⟨ky,0,none⟩),.pointer (some ⟨a3,0,none⟩),.pointer (some ⟨bH,0,none⟩),.pointer (some ⟨cA,0,none⟩)]⟩:Raw):Raw)⟩,⟨some aS,.var (ag:ak)⟩]) (fun cT=> .exit 0) rfl Hd rfl JV ao (fun _ _=>rfl) rfl rfl (fun oH s1 r h az kr kz ks l D rec ry=> ?_) (fun s1 aQ az D=> ?_) (fun cT aQ az D=> ?_)
  ·clear ao
   refine ah.cn ?_
   refine aK ?_
   refine aj.nil ?_
   refine ad.begin 0 rfl ry ?_
   refine ah.block ?_
   refine ah.seq ?_
   refine aC ?_
   refine b6 2 fq ?_
   refine bj (oV Tryz.underlying331 (ab rfl)) ?_
   refine aJ ?_
   refine ch h (fun h=>?_) fun h=>?_
   ·refine ah.exit ?_
    refine ad.exit ?_
    refine ad.UA rfl ?_
    obtain rfl:=aG h
    exact ad.GG () 0 rfl rfl rfl
   ·refine cJ ?_
    refine ah.seq ?_
    obtain⟨pG,uO,h⟩:=aw h
    obtain⟨aZ,cv,h⟩:=aw h
    obtain⟨ft,lM,h⟩:=aw h
    refine jq [0,1,3,4,5,6,7,8,9,10,11,12,13,14,15,16,17,18,19,20,21,22,23,24,25,26,27,28,29,30,31,32,33,34,35,36,37,38,39,40,41] ?_
    refine ah.sE 9 mixed (bh 42 [] (2 :: []) _ :: bh 43 [] [] _ :: bh 44 (0 :: []) [] _ :: bh 45 (2 :: []) [] _ :: bh 46 (1 :: 3 :: []) [] _ :: ⟨some 47,(4 :: []),[],[],fun _=>I.of (bD ft.eK aZ),fun _ _=>⟨none,.dead⟩⟩ :: bh 48 [] (3 :: []) _ :: bh 49 (6 :: []) [] _ :: ⟨none,(0 :: 5 :: []),(2 :: []),(2 :: []),fun _=>I.any,fun hd _=>⟨some hD,.var (bD ft.eK aZ:Ref)⟩⟩ :: ⟨none,(6 :: 7 :: []),(3 :: []),(3 :: []),fun _=>I.any,fun hd _=>⟨some ky,.var (bz (s1.2.1 + 1):Int)⟩⟩ :: []) _ (0 :: 1 :: 3 :: 4 :: 5 :: 6 :: 7 :: 8 :: 9 :: 10 :: 11 :: 12 :: 13 :: 14 :: 15 :: 16 :: 17 :: 18 :: 19 :: 20 :: 21 :: 22 :: 23 :: 24 :: 25 :: 26 :: 27 :: 28 :: 29 :: 30 :: 31 :: 32 :: 33 :: 34 :: 35 :: 36 :: 37 :: 38 :: 39 :: 40 :: 41 :: []) rfl rfl (by kernel_rfl) (by kernel_rfl) ⟨df.q (lJ 2 fq),df.q (gA),df.q (cP fun hd E' ay aH au=>ff (fQ (ab (aH _ _ rfl)) uO)),df.q (fv (aW y7)),df.q (cP fun hd E' ay aH au=>ee (k:=aZ) zM (ab (aH _ _ rfl)) (ab (aH _ _ rfl)) (cc cv)),?_,df.q (lJ 3 bE),df.q (Bv c9),?_,?_,trivial⟩ fun gj=> ?_
    ·intro hd E' ay aH au dZ
     refine bj (h0 (((aL.id eJ).comp xG).comp (aL.idx (α:=Ref) 2 aZ (cc cv).1)) (r:=bD ft.eK aZ) fq (ab (aH _ _ rfl)) (gU (n:=9) (dZ.trans rfl) (l3 lM) rfl) rfl rfl) ?_
     refine aj.nil ?_
     exact ad.fin (eY []) rfl rfl
    ·intro hd E' ay aH au dZ
     refine aj.store (i:=2) (aL.id Ref) (v:=(bD ft.eK aZ:Ref)) (b':=(bD ft.eK aZ:Ref)) fq (ab (aH _ _ rfl)) (ab (aH _ _ rfl)) (au 2 _ rfl rfl) rfl rfl ?_
     refine aj.nil ?_
     exact ad.fin (eY []) rfl rfl
    ·intro hd E' ay aH au dZ
     refine aj.store (i:=3) (aL.id Int) (v:=(bz (s1.2.1 + 1):Int)) (b':=(bz (s1.2.1 + 1):Int)) bE (ab (aH _ _ rfl)) (ab (aH _ _ rfl)) (au 3 _ rfl rfl) rfl rfl ?_
     refine aj.nil ?_
     exact ad.fin (eY []) rfl rfl
    refine ad.eI (L2:=(⟨some l,.is (.loop { rec with state:= .busy })⟩ :: ⟨some D,.dn⟩ :: ⟨some hD,.var (bD ft.eK aZ:Ref)⟩ :: ⟨some ky,.var (bz (s1.2.1 + 1):Int)⟩ :: ⟨some a3,.var (s1.2.2.1:Int)⟩ :: ⟨some bH,.var (s1.2.2.2.1:Int)⟩ :: ⟨some cA,.var (s1.2.2.2.2:Bool)⟩ :: ⟨some rL,.var ((⟨249,some [.pointer (some ⟨hD,0,none⟩),.pointer (some ⟨ky,0,none⟩),.pointer (some ⟨a3,0,none⟩),.pointer (some ⟨bH,0,none⟩),.pointer (some ⟨cA,0,none⟩)]⟩:Raw):Raw)⟩ :: ⟨some aS,.var (ag:ak)⟩ :: ba hp)) rfl ?_
    refine ko [0,1,3,4,5,6,7,8,9,10,11,12,13,14,15,16,17,18,19,20,21,22,23,24,25,26,27,28,29,30,31,32,33,34,35,36,37,38,39,40,41,42,43,44,45,46,47,48,49] ?_
    refine ad.next ?_
    refine ah.cn ?_
    refine b6 7 H8 ?_
    refine aj.bU 6 rfl ?_
    refine aj.bU 6 rfl ?_
    refine aj.bU 6 rfl ?_
    refine aj.bU 6 rfl ?_
    refine aj.bU 6 rfl ?_
    obtain⟨bR,e2,h⟩:=aw h
    refine aj.EG (gk.Oh (τs:= []) 9 5 rfl Nt (Lm (ab rfl)) (JO e2) rfl rfl trivial) rfl rfl rfl fun fs=> ?_
    refine aj.eI (L2:=(⟨some hD,.var (bD ft.eK aZ:Ref)⟩ :: ⟨some ky,.var (bz (s1.2.1 + 1):Int)⟩ :: ⟨some a3,.var (bR.1:Int)⟩ :: ⟨some bH,.var (bR.2.1:Int)⟩ :: ⟨some cA,.var (bR.2.2:Bool)⟩ :: ⟨some l,.is (.loop { rec with state:= .busy })⟩ :: ⟨some D,.dn⟩ :: ⟨some rL,.var ((⟨249,some [.pointer (some ⟨hD,0,none⟩),.pointer (some ⟨ky,0,none⟩),.pointer (some ⟨a3,0,none⟩),.pointer (some ⟨bH,0,none⟩),.pointer (some ⟨cA,0,none⟩)]⟩:Raw):Raw)⟩ :: ⟨some aS,.var (ag:ak)⟩ :: ba hp)) rfl ?_
    refine aj.nil ?_
    refine ad.dG ?_
    refine ad.bU 6 rfl ?_
    refine ad.bU 6 rfl ?_
    obtain rfl:=aG h
    exact ad.H9 () 0 rfl
  ·clear ao; subst aQ; simp only [Sum.elim_inl] at h
   refine ad.eI (L2:=(⟨some D,.dn⟩ :: ⟨some hD,.var (s1.1:Ref)⟩ :: ⟨some ky,.var (s1.2.1:Int)⟩ :: ⟨some a3,.var (s1.2.2.1:Int)⟩ :: ⟨some bH,.var (s1.2.2.2.1:Int)⟩ :: ⟨some cA,.var (s1.2.2.2.2:Bool)⟩ :: ⟨some rL,.var ((⟨249,some [.pointer (some ⟨hD,0,none⟩),.pointer (some ⟨ky,0,none⟩),.pointer (some ⟨a3,0,none⟩),.pointer (some ⟨bH,0,none⟩),.pointer (some ⟨cA,0,none⟩)]⟩:Raw):Raw)⟩ :: ⟨some aS,.var (ag:ak)⟩ :: ba hp)) rfl ?_
   refine ad.dG ?_
   refine ad.next ?_
   refine ah.seq ?_
   refine jq [0,1,3,6,7,8,9,10,11,12,14,15,16,17,18,19,20,21,22,23,24,25,26,27,28,29,30,31,32,33,34,35,36,37,38] ?_
   refine ah.draw mixed 5 [some 52,some 53,some 54,some 4,some 5] [[],[],[],[0],[1]] [.val _,.val _,.val _,.val _,.val _] [false,false,false,false,false] (by kernel_rfl) rfl rfl rfl (fun qh=>⟨e1 3 bE,e1 4 bE,e1 5 ir,u6,u6,trivial⟩) fun qh=> ?_
   refine aK ?_
   refine aJ ?_
   refine ah.ret ?_
   obtain rfl:=aG h
   refine ad.sO 0 rfl rfl ?_
   exact ad.Hb () (.cons _ (.cons _ (.cons _ (.cons _ (.cons _ (.cons _ (.cons _ (.cons _ (.refl _))))))))) rfl rfl (eD rfl) (eD rfl) (eD rfl)
  ·clear ao; subst aQ; simp only [Sum.elim_inr] at h
   refine ah.exit ?_
   refine ad.eI (L2:=(⟨some D,.dn⟩ :: ⟨some hD,.var (cT.1:Ref)⟩ :: ⟨some ky,.var (cT.2.1:Int)⟩ :: ⟨some a3,.var (cT.2.2.1:Int)⟩ :: ⟨some bH,.var (cT.2.2.2.1:Int)⟩ :: ⟨some cA,.var (cT.2.2.2.2:Bool)⟩ :: ⟨some rL,.var ((⟨249,some [.pointer (some ⟨hD,0,none⟩),.pointer (some ⟨ky,0,none⟩),.pointer (some ⟨a3,0,none⟩),.pointer (some ⟨bH,0,none⟩),.pointer (some ⟨cA,0,none⟩)]⟩:Raw):Raw)⟩ :: ⟨some aS,.var (ag:ak)⟩ :: ba hp)) rfl ?_
   refine ad.eT ?_
   refine ad.next ?_
   refine ah.seq ?_
   refine jq [0,1,3,6,7,8,9,10,11,12,14,15,16,17,18,19,20,21,22,23,24,25,26,27,28,29,30,31,32,33,34,35,36,37,38] ?_
   refine ah.draw mixed 5 [some 52,some 53,some 54,some 4,some 5] [[],[],[],[0],[1]] [.val _,.val _,.val _,.val _,.val _] [false,false,false,false,false] (by kernel_rfl) rfl rfl rfl (fun AN=>⟨e1 3 bE,e1 4 bE,e1 5 ir,u6,u6,trivial⟩) fun AN=> ?_
   refine aK ?_
   refine aJ ?_
   refine ah.ret ?_
   obtain rfl:=aG h
   refine ad.sO 0 rfl rfl ?_
   exact ad.Hb () (.cons _ (.cons _ (.cons _ (.cons _ (.cons _ (.cons _ (.cons _ (.cons _ (.refl _))))))))) rfl rfl (eD rfl) (eD rfl) (eD rfl)
end Go.Proofs.YtmnggbjcnoffeaaGreat
