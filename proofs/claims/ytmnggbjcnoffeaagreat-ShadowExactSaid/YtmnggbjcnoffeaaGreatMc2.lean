/-
  Each function meets its functional program. Conditions: none.
-/
import Derived.Test.YtmnggbjcnoffeaaGreatMc0
import Derived.Test.YtmnggbjcnoffeaaGreatMc1
namespace Go.Proofs.YtmnggbjcnoffeaaGreat
open Go Gv
set_option linter.unusedVariables false
set_option linter.unusedSimpArgs false
set_option maxRecDepth 100000
set_option maxHeartbeats 2000000
theorem QD {J:bt} {ag:a2} {aT:cE} {cl:Nat} {r:cr × bt} (h:x7 J ag aT=some r):cy Tryz.prog 75 [I.eq (.pointer (some ⟨cl,0,none⟩)),I.of (ag),I.of (aT)] [⟨some cl,.var (J:bt)⟩] (δ:=Unit) (fun d=>I.of (r.1)) (fun d=> [⟨some cl,.var (r.2:bt)⟩]):=by
 unfold x7 at h
 refine cy.of Tryz.func75 rfl Tryz.ntmps75 rfl fun W A=> ?_
 refine aC ?_
 refine cf fun aS=> ?_
 refine cf fun a3=> ?_
 refine cx l9 fun bH=> ?_
 refine bZ ?_
 refine b6 2 fH ?_
 refine aY (aW zi) ?_
 refine cb 1 mY bE ?_
 obtain⟨al,bs,h⟩:=aw h
 refine dc Wu (Rc bs) ?_
 refine aK ?_
 refine bZ ?_
 refine aB ?_
 refine aj.bU 3 rfl ?_
 obtain⟨aN,ck,h⟩:=aw h
 refine eM 1 gh (fZ ck) fun aF=> ?_
 refine aY (iB Tryz.underlying3 Tryz.underlying41) ?_
 refine bj (m6 (ab rfl) (gb 24 rfl)) ?_
 refine aB ?_
 refine aj.bU 0 rfl ?_
 obtain⟨a7,dR,h⟩:=aw h
 refine eM 1 gh (fZ dR) fun cT=> ?_
 refine aY (iB Tryz.underlying3 Tryz.underlying41) ?_
 refine bj (m6 (ab rfl) (gb 8 rfl)) ?_
 obtain⟨bl,di,h⟩:=aw h
 refine dj di (pT (ab rfl) (ab rfl)) ?_
 refine aB ?_
 refine aj.bU 0 rfl ?_
 obtain⟨bR,e2,h⟩:=aw h
 refine eM 1 gh (fZ e2) fun fs=> ?_
 refine aY (iB Tryz.underlying3 Tryz.underlying41) ?_
 refine bf pT ?_
 obtain⟨dm,hn,h⟩:=aw h
 refine dj hn (cU (b:=({ (default:ak) with bO:=bl ||| (BitVec.ofInt 64 bR.1) } :ak)) rfl gT dP (.cons dT rfl (ab rfl) rfl (.nil))) ?_
 refine aB ?_
 obtain⟨br,g2,h⟩:=aw h
 refine dc DS (Ct g2) ?_
 refine cx dP fun cA=> ?_
 refine b3 0 bN ?_
 refine bG ?_
 refine aC ?_
 refine aY (aW qT) ?_
 refine cb 3 k2 bE ?_
 refine aJ ?_
 refine ah.block ?_
 refine aC ?_
 refine bf gf ?_
 refine aK ?_
 refine aJ ?_
 refine ch h (fun h=>?_) fun h=>?_
 ·refine aC ?_
  refine aB ?_
  refine aj.bU 1 rfl ?_
  obtain⟨b8,g3,h⟩:=aw h
  refine eM 1 gh (fZ g3) fun iQ=> ?_
  refine bf ow ?_
  refine aJ ?_
  refine ch h (fun h=>?_) fun h=>?_
  ·refine aC ?_
   refine aB ?_
   refine aB ?_
   refine aB ?_
   refine aj.bU 0 rfl ?_
   obtain⟨cD,kN,h⟩:=aw h
   refine eM 1 gh (fZ kN) fun ek=> ?_
   refine bf c9 ?_
   refine gy [al,8,16,1,bz (1 + cD.1)] Tryz.underlying63 bE hI ?_
   refine aB ?_
   refine aj.bU 0 rfl ?_
   obtain⟨dL,lb,h⟩:=aw h
   refine eM 1 gh (fZ lb) fun iR=> ?_
   obtain⟨aZ,cv,h⟩:=aw h
   refine gJ cv Tryz.underlying63 bE ?_
   refine aY (c2 bE) ?_
   refine aK ?_
   refine bG ?_
   obtain⟨fU,n2,h⟩:=aw h
   obtain⟨eX,iL,h⟩:=aw h
   obtain⟨gX,lH,h⟩:=aw h
   refine ah.draw mixed 10 [some 51,some 52,some 53,some 54,some 55,some 56,some 57,some 58,some 59,some 60] [[],[],[1],[],[],[3,4],[5],[2,6],[7],[0,8]] [.val _,.val _,.val _,.val _,.val _,.val _,.val _,.val _,.val _,.val _] [false,false,false,false,false,false,false,false,false,false] (by kernel_rfl) rfl rfl rfl (fun cV=>⟨cR,H1 (aW hO),dy 1 dT en,cR,cR,e8 Wv (Rx n2),du fun ay au=>Gc dT MG en rfl (ab rfl) rfl rfl,kx sl,tc iL fun ay au=>cU (b:=({ (default:ak) with bO:=br.bO &&& fU.bO } :ak)) rfl gT dP (.cons dT rfl (ab rfl) rfl (.nil)),tc lH fun ay au=>cU (b:=({ (default:cr) with gM:=true,eQ:=ax [al,8,16,1,bz (1 + cD.1)] aZ,bI:=eX } :cr)) rfl uz l9 (.cons qB rfl (fP true) rfl (.cons pL rfl (ab rfl) rfl (.cons lY rfl (ab rfl) rfl (.nil)))),trivial⟩) fun cV=> ?_
   refine b3 2 gG ?_
   refine aJ ?_
   refine ah.ret ?_
   refine ad.dQ ?_
   refine ad.ret ?_
   refine ad.bU 0 rfl ?_
   obtain rfl:=aG h
   exact ad.hj () (.cons_cons _ (List.nil_sublist _)) rfl rfl (jV (i:=2) gG rfl rfl)
  ·refine ah.skip ?_
   refine ad.dG ?_
   refine ad.next ?_
   refine aC ?_
   refine gV uz l9 (default:cr) .nil ?_
   refine b3 2 gG ?_
   refine aJ ?_
   refine ah.ret ?_
   refine ad.bU 0 rfl ?_
   obtain rfl:=aG h
   exact ad.hj () (.cons_cons _ (List.nil_sublist _)) rfl rfl (jV (i:=2) gG rfl rfl)
 ·refine aC ?_
  refine bf gf ?_
  refine aK ?_
  refine aJ ?_
  refine ch h (fun h=>?_) fun h=>?_
  ·refine aC ?_
   refine aB ?_
   refine aj.bU 1 rfl ?_
   obtain⟨hJ,pb,h⟩:=aw h
   refine eM 1 gh (fZ pb) fun iS=> ?_
   refine gy ([255,15,1,12,hJ.1]:List Int) Tryz.underlying63 bE hI ?_
   refine aB ?_
   refine aj.bU 0 rfl ?_
   obtain⟨g4,rk,h⟩:=aw h
   refine eM 1 gh (fZ rk) fun rN=> ?_
   obtain⟨b0,de,h⟩:=aw h
   refine gJ de Tryz.underlying63 bE ?_
   refine aY (c2 bE) ?_
   refine aY (iB Tryz.underlying3 Tryz.underlying41) ?_
   obtain⟨gY,mK,h⟩:=aw h
   refine dj mK (cU (b:=({ (default:ak) with bO:=BitVec.ofInt 64 (ax ([255,15,1,12,hJ.1]:List Int) b0) } :ak)) rfl gT dP (.cons dT rfl (ab rfl) rfl (.nil))) ?_
   refine aB ?_
   obtain⟨fg,rl,h⟩:=aw h
   refine dc DS (Ct rl) ?_
   refine cx dP fun hD=> ?_
   refine b3 0 bN ?_
   refine bZ ?_
   refine aY (aW hO) ?_
   refine cb 0 dT en ?_
   refine bj (LZ (ab rfl) (gb 0 rfl)) ?_
   refine aJ ?_
   refine ch h (fun h=>?_) fun h=>?_
   ·refine aC ?_
    refine b6 0 bN ?_
    refine aY (aW hO) ?_
    refine cb 2 dT en ?_
    refine aY (aW hO) ?_
    refine cb 0 dT en ?_
    refine bf sl ?_
    obtain⟨iO,pf,h⟩:=aw h
    refine dj pf (cU (b:=({ (default:ak) with bO:=br.bO &&& fg.bO } :ak)) rfl gT dP (.cons dT rfl (ab rfl) rfl (.nil))) ?_
    obtain⟨iP,ph,h⟩:=aw h
    refine dj ph (cU (b:=({ (default:cr) with gM:=true,bQ:=fg,bI:=iO } :cr)) rfl uz l9 (.cons qB rfl (fP true) rfl (.cons r1 rfl (ab rfl) rfl (.cons lY rfl (ab rfl) rfl (.nil))))) ?_
    refine b3 3 gG ?_
    refine aJ ?_
    refine ah.ret ?_
    refine ad.dQ ?_
    refine ad.ret ?_
    refine ad.bU 1 rfl ?_
    obtain rfl:=aG h
    exact ad.hj () (.cons_cons _ (List.nil_sublist _)) rfl rfl (jV (i:=3) gG rfl rfl)
   ·refine ah.skip ?_
    refine ad.dG ?_
    refine ad.next ?_
    refine aC ?_
    refine gV uz l9 (default:cr) .nil ?_
    refine b3 3 gG ?_
    refine aJ ?_
    refine ah.ret ?_
    refine ad.bU 1 rfl ?_
    obtain rfl:=aG h
    exact ad.hj () (.cons_cons _ (List.nil_sublist _)) rfl rfl (jV (i:=3) gG rfl rfl)
  ·refine aC ?_
   refine bf gf ?_
   refine aK ?_
   refine aJ ?_
   refine ch h (fun h=>?_) fun h=>?_
   ·refine ah.seq ?_
    obtain⟨ib,uw,h⟩:=aw h
    obtain⟨hF,ru,h⟩:=aw h
    refine jq [0,1,2,4,5,6,7,8,12,13,14,15,16,17,18,19,20,21,22,23,24,25,26,27,28,29,30,31,32,33,36,37,61,62,85,86] ?_
    refine ah.ki mixed (bh 87 [] [] _ :: bh 88 (0 :: []) (0 :: []) _ :: bh 89 [] [] _ :: ⟨some 90,(2 :: []),(1 :: []),(1 :: []),fun _=>I.of (ib.1),fun hd _=>⟨some cl,.var (ib.2:bt)⟩⟩ :: bh 91 (3 :: []) [] _ :: bh 92 (1 :: 4 :: []) [] _ :: bh 93 [] [] _ :: bh 94 (6 :: []) [] _ :: bh 95 (7 :: []) [] _ :: bh 96 (8 :: []) [] _ :: bh 97 (5 :: 9 :: []) [] _ :: bh 11 (10 :: []) [] _ :: []) _ (0 :: 1 :: 2 :: 4 :: 5 :: 6 :: 7 :: 8 :: 12 :: 13 :: 14 :: 15 :: 16 :: 17 :: 18 :: 19 :: 20 :: 21 :: 22 :: 23 :: 24 :: 25 :: 26 :: 27 :: 28 :: 29 :: 30 :: 31 :: 32 :: 33 :: 36 :: 37 :: 61 :: 62 :: 85 :: 86 :: []) rfl rfl (by kernel_rfl) ⟨fv (aW hO),n0 0 dT en,gA,?_,fv (iB Tryz.underlying3 Tryz.underlying41),Bv TS,gA,fv (iB Tryz.underlying3 Tryz.underlying130),cP fun hd E' ay aH au=>m6 (gb 1 rfl) (ab (aH _ _ rfl)),cP fun hd E' ay aH au=>sk (ab (aH _ _ rfl)) (gb 1 rfl),cP fun hd E' ay aH au=>(S8 (ab (aH _ _ rfl)) (ab (aH _ _ rfl))).as (aG ru),cP fun hd E' ay aH au=>eG (ab (aH _ _ rfl)),trivial⟩ fun gj=> ?_
    ·intro hd E' ay aH au
     refine aj.bU 1 (au 1 _ rfl rfl) ?_
     refine aj.l6 (Lin:= [⟨some cl,.var (bR.2:bt)⟩]) (Lr:=ay.eraseIdx 1) gh (fZ uw) ⟨ab (aH _ _ rfl),bK 256,trivial⟩ rfl fun qt=> ?_
     refine aj.nil ?_
     refine ad.back 1 (au 1 _ rfl rfl) ?_
     exact ad.fin (eY []) rfl rfl
    refine ad.eI (L2:= [⟨some cA,.var (br:ak)⟩,⟨some cl,.var (ib.2:bt)⟩,⟨some bH,.var ((default:cr):cr)⟩,⟨some a3,.var (aT:cE)⟩,⟨some aS,.var (ag:a2)⟩]) rfl ?_
    refine ko [0,1,2,4,5,6,7,8,11,12,13,14,15,16,17,18,19,20,21,22,23,24,25,26,27,28,29,30,31,32,33,36,37,61,62,85,86,87,88,89,90,91,92,93,94,95,96,97] ?_
    refine ad.next ?_
    refine aC ?_
    refine aB ?_
    refine aj.bU 1 rfl ?_
    obtain⟨jJ,ux,h⟩:=aw h
    refine eM 1 gh (fZ ux) fun H6=> ?_
    refine bf ow ?_
    refine aB ?_
    refine dE (aW hO) ?_
    refine eW (fun hb=>fj (i:=1) ((aL.id ak).comp dT) (r:=br.bO) en (ct rfl hb) rfl rfl rfl) ?_
    refine eW (fun hb=>CU (ct rfl hb) (gb 0 rfl)) ?_
    refine dE c3 ?_
    refine aj.gg (fun hb=>c3 (ab rfl)) rfl rfl rfl rfl rfl ?_
    refine aj.gg (fun hb=>c3 (ab rfl)) rfl rfl rfl rfl rfl ?_
    refine aj.gg (fun hb=>iB Tryz.underlying3 Tryz.underlying130 (ct rfl hb)) rfl rfl rfl rfl rfl ?_
    refine aj.gg (fun hb=>m6 (gb 1 rfl) (ct rfl hb)) rfl rfl rfl rfl rfl ?_
    refine aj.gg (fun hb=>sk (ct rfl hb) (gb 1 rfl)) rfl rfl rfl rfl rfl ?_
    refine aj.gg (fun hb=>CU (ct rfl hb) (ct rfl hb)) rfl rfl rfl rfl rfl ?_
    refine eW (fun hb=>pX (ct rfl hb) (ab rfl) (fun h=>⟨hb,h⟩)) ?_
    refine dE hz ?_
    obtain⟨lh,uM,h⟩:=aw h
    refine dj uM (pX (ab rfl) (ab rfl) (fun h=>h)) ?_
    refine aJ ?_
    refine ch h (fun h=>?_) fun h=>?_
    ·refine aC ?_
     refine b6 1 bN ?_
     refine aB ?_
     refine gV gT dP ({ (default:ak) with bO:=hF } :ak) (iY dT .nil) ?_
     obtain⟨kO,ur,h⟩:=aw h
     refine dj ur (cU (b:=({ (default:cr) with gM:=true,bI:=br,l4:=({ (default:ak) with bO:=hF } :ak) } :cr)) rfl uz l9 (.cons qB rfl (fP true) rfl (.cons lY rfl (ab rfl) rfl (.cons B9 rfl (ab rfl) rfl (.nil))))) ?_
     refine b3 2 gG ?_
     refine aJ ?_
     refine ah.ret ?_
     refine ad.dQ ?_
     refine ad.ret ?_
     refine ad.bU 0 rfl ?_
     obtain rfl:=aG h
     exact ad.hj () (.cons_cons _ (List.nil_sublist _)) rfl rfl (jV (i:=2) gG rfl rfl)
    ·refine ah.skip ?_
     refine ad.dG ?_
     refine ad.next ?_
     refine aC ?_
     refine gV uz l9 (default:cr) .nil ?_
     refine b3 2 gG ?_
     refine aJ ?_
     refine ah.ret ?_
     refine ad.bU 0 rfl ?_
     obtain rfl:=aG h
     exact ad.hj () (.cons_cons _ (List.nil_sublist _)) rfl rfl (jV (i:=2) gG rfl rfl)
   ·refine aC ?_
    refine b6 0 bN ?_
    obtain⟨kp,uu,h⟩:=aw h
    refine dj uu (cU (b:=({ (default:cr) with gM:=true,bI:=br } :cr)) rfl uz l9 (.cons qB rfl (fP true) rfl (.cons lY rfl (ab rfl) rfl (.nil)))) ?_
    refine b3 2 gG ?_
    refine aJ ?_
    refine ah.ret ?_
    refine ad.dQ ?_
    refine ad.ret ?_
    refine ad.bU 1 rfl ?_
    obtain rfl:=aG h
    exact ad.hj () (.cons_cons _ (List.nil_sublist _)) rfl rfl (jV (i:=2) gG rfl rfl)
end Go.Proofs.YtmnggbjcnoffeaaGreat
namespace Go.Proofs.YtmnggbjcnoffeaaGreat
open Go Gv
set_option linter.unusedVariables false
set_option linter.unusedSimpArgs false
set_option maxRecDepth 100000
set_option maxHeartbeats 2000000
theorem QE {J:bt} {ag:a2} {aT:Int} {cl:Nat} {r:bJ × bt} (h:x8 J ag aT=some r):cy Tryz.prog 27 [I.eq (.pointer (some ⟨cl,0,none⟩)),I.of (ag),I.of (aT)] [⟨some cl,.var (J:bt)⟩] (δ:=Unit) (fun d=>I.of (r.1)) (fun d=> [⟨some cl,.var (r.2:bt)⟩]):=by
 unfold x8 at h
 refine cy.of Tryz.func27 rfl Tryz.ntmps27 rfl fun W A=> ?_
 refine aC ?_
 refine cf fun aS=> ?_
 refine cx wP fun a3=> ?_
 refine bG ?_
 obtain⟨al,bs,h⟩:=aw h
 obtain⟨aZ,cv,h⟩:=aw h
 refine ah.draw mixed 10 [some 13,some 14,some 15,some 16,some 17,some 18,some 19,some 20,some 21,some 7] [[],[0],[],[],[3],[4],[2,5],[1,6],[7],[]] [.val _,.val _,.val _,.val _,.val _,.val _,.val _,.val _,.val _,.new (.var (default:bV))] [false,false,false,false,false,false,false,false,false,false] (by kernel_rfl) rfl rfl rfl (fun cV=>⟨H1 (aW l2),dy 1 lX lC,cR,H1 (aW l2),dy 1 lX lC,H1 (eS Tryz.underlying28),e8 HK (Fl bs),lI cv Tryz.underlying28 fS,H1 (c2 fS),tK k8,trivial⟩) fun cV=> ?_
 refine b3 0 fS ?_
 refine bZ ?_
 refine aY (aW tV) ?_
 refine cb 0 oS bE ?_
 refine bj (pP (b:=({ (default:bJ) with dO:=(ax ag.bm aZ).bX } :bJ)) [1,4] Lt rfl HI wP (.cons rZ rfl (ab rfl) rfl (by rfl) (.nil))) ?_
 refine aj.own (α:=cr) 88 ?_
 refine aj.own (α:=ak) 43 ?_
 refine aj.oX (z:=(default:bJ)) [1,4] Lt wP rfl fun bH=> ?_
 refine aj.own (α:=cr) 88 ?_
 refine aj.own (α:=ak) 43 ?_
 refine aj.qV (i:=2) iC (ab rfl) (ab rfl) rfl ?_
 refine bG ?_
 refine aC ?_
 refine aY (aW kh) ?_
 refine cb 5 iV jY ?_
 refine aY (eS Tryz.underlying62) ?_
 refine aB ?_
 refine aJ ?_
 refine ah.block ?_
 obtain⟨aA,ao,h⟩:=aw h
 refine gN (γ:=(Option Nat × Nat)) (δ:=(Option Nat × Nat)) ao [0,1,2,4,6,7,8,26,27] (fun s1 az=> [(28,I.of (s1.1))]) (fun s1 az=> [(2,⟨some bH,.cz (s1.2.1:bJ) [(1,a0 az.1 s1.2.2.1.length az.2),(4,a0 none ([]:List ak).length 0)]⟩),(4,⟨az.1,.row 88 (s1.2.2.1:List cr) az.2⟩),(8,⟨some cl,.var (s1.2.2.2:bt)⟩)]) (fun aF=>Exit.exit 0) (fun aF az=> [(28,I.of (aF.1)),(29,I.of (aF.2.1))]) (fun aF az=> [(2,⟨some bH,.cz (aF.2.2.1:bJ) [(1,a0 az.1 aF.2.2.2.1.length az.2),(4,a0 none ([]:List ak).length 0)]⟩),(4,⟨az.1,.row 88 (aF.2.2.2.1:List cr) az.2⟩),(8,⟨some cl,.var (aF.2.2.2.2:bt)⟩)]) (none,0) (fun s1 r h az=> ?_) fun az=> ?_
 ·clear ao
  refine aC ?_
  refine bf eb ?_
  refine bG ?_
  refine ch h (fun h=>?_) fun h=>?_
  ·refine cJ ?_
   refine ah.seq ?_
   refine ah.block ?_
   refine aC ?_
   obtain⟨b0,de,h⟩:=aw h
   refine gJ de Tryz.underlying62 h8 ?_
   refine aY (c2 h8) ?_
   refine cx jl fun cA=> ?_
   refine b3 0 h8 ?_
   refine bG ?_
   obtain⟨aN,ck,h⟩:=aw h
   obtain⟨a7,dR,h⟩:=aw h
   refine jq [0,1,2,4,6,7,8,10,26,27,28,29,30,31] ?_
   refine ah.ki mixed (bh 32 [] [] _ :: bh 33 (0 :: []) (3 :: []) _ :: bh 34 [] [] _ :: bh 35 [] (8 :: []) _ :: bh 36 [] (0 :: []) _ :: ⟨some 37,(2 :: 3 :: 4 :: []),(9 :: []),(9 :: []),fun _=>I.of (aN.1),fun hd _=>⟨some cl,.var (aN.2:bt)⟩⟩ :: bh 38 (5 :: []) [] _ :: ⟨some 39,(1 :: 6 :: []),(5 :: []),(5 :: []),fun hd=>I.eq (a0 (hd 7 0) a7.length ((hd 7 1).getD 0)),fun hd _=>⟨(hd 7 0),.row 88 (a7:List cr) ((hd 7 1).getD 0)⟩⟩ :: bh 40 [] [] _ :: ⟨none,(1 :: 7 :: 8 :: []),(3 :: []),(3 :: []),fun _=>I.any,fun hd _=>⟨some bH,.cz (({ s1.2.1 with bY:= [] } :bJ):bJ) [(1,a0 (hd 7 0) a7.length ((hd 7 1).getD 0)),(4,a0 none ([]:List ak).length 0)]⟩⟩ :: []) _ (0 :: 1 :: 2 :: 4 :: 6 :: 7 :: 8 :: 10 :: 26 :: 27 :: 28 :: 29 :: 30 :: 31 :: []) rfl rfl (by kernel_rfl) ⟨fv (aW k4),cP fun hd E' ay aH au=>iH (i:=3) (q:=0) (β:=bJ) (γ:=cr) kI (ab (aH _ _ rfl)) (au 3 _ rfl rfl) rfl,gA,lJ 8 fH,lJ 0 h8,?_,cP fun hd E' ay aH au=>jW (r:= [aN.1]) Tryz.underlying47 gG l9 rfl rfl (.cons (by simp) (ab (aH _ _ rfl)) (.nil)),?_,fv (aW k4),?_,trivial⟩ fun gj=> ?_
   ·intro hd E' ay aH au
    refine aj.bU 9 (au 9 _ rfl rfl) ?_
    refine aj.l6 (Lin:= [⟨some cl,.var (s1.2.2.2:bt)⟩]) (Lr:=ay.eraseIdx 9) XP (QD ck) ⟨ab (aH _ _ rfl),ab (aH _ _ rfl),ab (aH _ _ rfl),trivial⟩ rfl fun cT=> ?_
    refine aj.nil ?_
    refine ad.back 9 (au 9 _ rfl rfl) ?_
    exact ad.fin (eY []) rfl rfl
   ·intro hd E' ay aH au
    refine aj.app (i:=5) Tryz.underlying47 gG l9 (bytes:=64) (by kernel_rfl) (ab (aH _ _ rfl)) (au 5 _ rfl rfl) (ab (aH _ _ rfl)) dR rfl fun gZ fA=> ?_
    refine aj.nil ?_
    exact ad.fin (eY [gZ,some fA]) rfl rfl
   ·intro hd E' ay aH au
    refine aj.jj (i:=3) (γ:=cr) (b':=(({ s1.2.1 with bY:= [] } :bJ):bJ)) (os':= [(1,a0 (hd 7 0) a7.length ((hd 7 1).getD 0)),(4,a0 none ([]:List ak).length 0)]) ((aL.id bJ).comp ke) kI (ab (aH _ _ rfl)) (ab (aH _ _ rfl)) iA (au 3 _ rfl rfl) rfl rfl rfl ?_
    refine aj.nil ?_
    exact ad.fin (eY []) rfl rfl
   refine ad.eI (L2:= [⟨some cA,.var (ax ((ax ag.bm aZ).bx) b0:cE)⟩,⟨none,.row 43 (([]:List ak):List ak) 0⟩,⟨none,.row 88 (([]:List cr):List cr) 0⟩,⟨some bH,.cz (({ s1.2.1 with bY:= [] } :bJ):bJ) [(1,a0 (gj 7 0) a7.length ((gj 7 1).getD 0)),(4,a0 none ([]:List ak).length 0)]⟩,⟨none,.row 43 (([]:List ak):List ak) 0⟩,⟨(gj 7 0),.row 88 (a7:List cr) ((gj 7 1).getD 0)⟩,⟨some (cV 9),.var (ax ag.bm aZ:bV)⟩,⟨some a3,.var ((default:bJ):bJ)⟩,⟨some aS,.var (ag:a2)⟩,⟨some cl,.var (aN.2:bt)⟩]) rfl ?_
   refine ko [0,1,2,4,6,7,8,10,26,27,28,29,30,31,32,34,35,36,37,38,39,40] ?_
   refine ad.next ?_
   refine aC ?_
   refine aY (aW qT) ?_
   refine cb 0 k2 bE ?_
   refine bf gf ?_
   refine aB ?_
   refine dE (aW qT) ?_
   refine eW (fun hb=>fj (i:=0) ((aL.id cE).comp k2) (r:=(ax ((ax ag.bm aZ).bx) b0).cg) bE (ct rfl hb) rfl rfl rfl) ?_
   refine kn gf ?_
   obtain⟨bl,di,h⟩:=aw h
   refine dj di (o9 (ab rfl) (ab rfl) (fun h=>h)) ?_
   refine aJ ?_
   obtain⟨bM,cG,h⟩:=aw h
   refine iq (γ:=Unit) [0,1,2,4,6,7,8,10,26,27,28,29,48] (fun a5=> []) (fun a5=> [(3,⟨some bH,.cz (bM.1:bJ) [(1,a0 (gj 7 0) a7.length ((gj 7 1).getD 0)),(4,a0 none ([]:List ak).length 0)]⟩),(9,⟨some cl,.var (bM.2:bt)⟩)]) (fun a5=> ?_) (fun hm ar=> ?_) fun hm ar=> ?_
   ·clear cG
    refine ad.dG ?_
    refine ad.next ?_
    refine ah.cn ?_
    refine bf c9 ?_
    refine aB ?_
    refine aj.nil ?_
    obtain rfl:=aG h
    exact e0 ((gj 7 0),((gj 7 1).getD 0)) 1
   ·have h:=gQ ar cG
    refine ah.cn ?_
    refine aB ?_
    refine aj.bU 9 rfl ?_
    obtain⟨bR,e2,h⟩:=aw h
    refine eM 1 gh (fZ e2) fun fs=> ?_
    refine bf c9 ?_
    refine aY (aW zj) ?_
    obtain⟨dm,hn,h⟩:=aw h
    refine aj.sx (i:=4) ((aL.id bJ).comp tl) (v:=(bz (1 + bR.1):Int)) (b':=(dm:bJ)) bE (ab rfl) (ab rfl) rfl rfl (aG hn) (by rfl) ?_
    refine aj.nil ?_
    refine ad.bU 9 rfl ?_
    refine ad.bU 9 rfl ?_
    refine ad.bU 9 rfl ?_
    refine ad.bU 9 rfl ?_
    refine ad.bU 9 rfl ?_
    refine ad.bU 9 rfl ?_
    refine ad.bU 9 rfl ?_
    refine ad.bU 9 rfl ?_
    refine ad.bU 9 rfl ?_
    obtain rfl:=aG h
    exact dt 0 (hm ())
   ·have h:=gR ar cG
    refine ah.skip ?_
    obtain rfl:=aG h
    exact dt 0 (hm ())
  ·refine ah.exit ?_
   refine ad.exit ?_
   obtain rfl:=aG h
   exact dU (az.1,az.2) 0
 ·clear ao
  refine ad.eT ?_
  refine ad.next ?_
  refine ah.seq ?_
  obtain⟨br,g2,h⟩:=aw h
  obtain⟨c1,fl,h⟩:=aw h
  obtain⟨eX,iL,h⟩:=aw h
  refine jq [0,1,2,4,6,7,8,26,27,28,29] ?_
  refine ah.ki mixed (bh 54 [] [] _ :: bh 55 (0 :: []) (5 :: []) _ :: bh 56 [] [] _ :: bh 57 [] [] _ :: bh 58 (3 :: []) (5 :: []) _ :: bh 59 (4 :: []) [] _ :: ⟨some 60,(2 :: 5 :: []),(8 :: []),(8 :: []),fun _=>I.of (br.1),fun hd _=>⟨some cl,.var (br.2:bt)⟩⟩ :: bh 61 (1 :: 6 :: []) [] _ :: bh 62 (7 :: []) [] _ :: bh 63 [] [] _ :: ⟨none,(8 :: 9 :: []),(2 :: []),(2 :: []),fun _=>I.any,fun hd _=>⟨some bH,.cz (eX:bJ) [(1,a0 az.1 aA.2.2.2.1.length az.2),(4,a0 none ([]:List ak).length 0)]⟩⟩ :: []) _ (0 :: 1 :: 2 :: 4 :: 6 :: 7 :: 8 :: 26 :: 27 :: 28 :: 29 :: []) rfl rfl (by kernel_rfl) ⟨fv (aW ML),n0 5 vn lD,gA,fv (aW ML),n0 5 vn lD,fv (eS Tryz.underlying63),?_,cP fun hd E' ay aH au=>o3 (k:=c1) Tryz.underlying63 bE (ab (aH _ _ rfl)) (ab (aH _ _ rfl)) (cc fl),fv (c2 bE),fv (aW MM),?_,trivial⟩ fun j4=> ?_
  ·intro hd E' ay aH au
   refine aj.bU 8 (au 8 _ rfl rfl) ?_
   refine aj.l6 (Lin:= [⟨some cl,.var (aA.2.2.2.2:bt)⟩]) (Lr:=ay.eraseIdx 8) gh (fZ g2) ⟨ab (aH _ _ rfl),ab (aH _ _ rfl),trivial⟩ rfl fun iQ=> ?_
   refine aj.nil ?_
   refine ad.back 8 (au 8 _ rfl rfl) ?_
   exact ad.fin (eY []) rfl rfl
  ·intro hd E' ay aH au
   refine aj.sx (i:=2) ((aL.id bJ).comp B0) (v:=(ax ((ax ag.bm aZ).dk) c1:Int)) (b':=(eX:bJ)) bE (ab (aH _ _ rfl)) (ab (aH _ _ rfl)) (au 2 _ rfl rfl) rfl (aG iL) (by rfl) ?_
   refine aj.nil ?_
   exact ad.fin (eY []) rfl rfl
  refine ad.eI (L2:= [⟨none,.row 43 (([]:List ak):List ak) 0⟩,⟨none,.row 88 (([]:List cr):List cr) 0⟩,⟨some bH,.cz (eX:bJ) [(1,a0 az.1 aA.2.2.2.1.length az.2),(4,a0 none ([]:List ak).length 0)]⟩,⟨none,.row 43 (([]:List ak):List ak) 0⟩,⟨az.1,.row 88 (aA.2.2.2.1:List cr) az.2⟩,⟨some (cV 9),.var (ax ag.bm aZ:bV)⟩,⟨some a3,.var ((default:bJ):bJ)⟩,⟨some aS,.var (ag:a2)⟩,⟨some cl,.var (br.2:bt)⟩]) rfl ?_
  refine ko [0,1,2,4,6,7,8,26,27,28,29,54,55,56,57,58,59,60,61,62,63] ?_
  refine ad.next ?_
  refine ah.seq ?_
  refine aC ?_
  refine b6 7 fH ?_
  refine aY (aW MM) ?_
  refine OH 2 B0 bE ?_
  obtain⟨b8,g3,h⟩:=aw h
  refine dc XQ (QS g3) ?_
  refine bj (Gc BV TT Ww rfl (ab rfl) rfl rfl) ?_
  refine aY (eS Tryz.underlying145) ?_
  refine aB ?_
  refine aJ ?_
  refine ah.block ?_
  obtain⟨aU,ao,h⟩:=aw h
  refine gN (γ:=(Option Nat × Nat)) (δ:=(Option Nat × Nat)) ao [0,1,2,4,6,7,8,26,27,28,29,68,69] (fun s2 bu=> [(70,I.of (s2.1))]) (fun s2 bu=> [(2,⟨some bH,.cz (s2.2.1:bJ) [(1,a0 az.1 aA.2.2.2.1.length az.2),(4,a0 bu.1 s2.2.2.1.length bu.2)]⟩),(3,⟨bu.1,.row 43 (s2.2.2.1:List ak) bu.2⟩),(8,⟨some cl,.var (s2.2.2.2:bt)⟩)]) (fun ek=>Exit.exit 2) (fun ek bu=> [(70,I.of (ek.1)),(71,I.of (ek.2.1))]) (fun ek bu=> [(2,⟨some bH,.cz (ek.2.2.1:bJ) [(1,a0 az.1 aA.2.2.2.1.length az.2),(4,a0 bu.1 ek.2.2.2.1.length bu.2)]⟩),(3,⟨bu.1,.row 43 (ek.2.2.2.1:List ak) bu.2⟩),(8,⟨some cl,.var (ek.2.2.2.2:bt)⟩)]) (none,0) (fun s2 r h bu=> ?_) fun bu=> ?_
  ·clear ao
   refine aC ?_
   refine bf eb ?_
   refine bG ?_
   refine ch h (fun h=>?_) fun h=>?_
   ·refine cJ ?_
    refine ah.seq ?_
    refine ah.block ?_
    refine aC ?_
    obtain⟨fm,iZ,h⟩:=aw h
    refine gJ iZ Tryz.underlying145 wA ?_
    refine aY (c2 wA) ?_
    refine cx sI fun hD=> ?_
    refine b3 0 wA ?_
    refine aJ ?_
    obtain⟨cD,kN,h⟩:=aw h
    obtain⟨gX,lH,h⟩:=aw h
    obtain⟨dL,lb,h⟩:=aw h
    obtain⟨fU,n2,h⟩:=aw h
    refine jq [0,1,2,4,6,7,8,12,26,27,28,29,68,69,70,71,72,73] ?_
    refine ah.ki mixed (bh 74 [] [] _ :: bh 75 (0 :: []) (3 :: []) _ :: bh 76 [] [] _ :: ⟨some 77,(2 :: []),(9 :: []),(9 :: []),fun _=>I.of (cD.1),fun hd _=>⟨some cl,.var (cD.2:bt)⟩⟩ :: bh 78 (3 :: []) [] _ :: bh 79 (4 :: []) [] _ :: bh 80 [] [] _ :: bh 81 (6 :: []) (0 :: []) _ :: bh 82 (5 :: 7 :: []) [] _ :: bh 83 (8 :: []) [] _ :: ⟨some 84,(1 :: 9 :: []),(4 :: []),(4 :: []),fun hd=>I.eq (a0 (hd 10 0) fU.length ((hd 10 1).getD 0)),fun hd _=>⟨(hd 10 0),.row 43 (fU:List ak) ((hd 10 1).getD 0)⟩⟩ :: bh 85 [] [] _ :: ⟨none,(1 :: 10 :: 11 :: []),(3 :: []),(3 :: []),fun _=>I.any,fun hd _=>⟨some bH,.cz (({ s2.2.1 with mz:= [] } :bJ):bJ) [(1,a0 az.1 aA.2.2.2.1.length az.2),(4,a0 (hd 10 0) fU.length ((hd 10 1).getD 0))]⟩⟩ :: []) _ (0 :: 1 :: 2 :: 4 :: 6 :: 7 :: 8 :: 12 :: 26 :: 27 :: 28 :: 29 :: 68 :: 69 :: 70 :: 71 :: 72 :: 73 :: []) rfl rfl (by kernel_rfl) ⟨fv (aW C8),cP fun hd E' ay aH au=>iH (i:=3) (q:=1) (β:=bJ) (γ:=ak) Ah (ab (aH _ _ rfl)) (au 3 _ rfl rfl) rfl,gA,?_,fv (iB Tryz.underlying3 Tryz.underlying41),cP fun hd E' ay aH au=>(cU (b:=({ (default:ak) with bO:=BitVec.ofInt 64 cD.1 } :ak)) rfl gT dP (.cons dT rfl (ab (aH _ _ rfl)) rfl (.nil))).as (aG lH),fv (aW TU),n0 0 x1 bE,cP fun hd E' ay aH au=>hP DS (Ct lb) ⟨ab (aH _ _ rfl),ab (aH _ _ rfl),trivial⟩,cP fun hd E' ay aH au=>jW (r:= [dL]) Tryz.underlying48 bN dP rfl rfl (.cons (by simp) (ab (aH _ _ rfl)) (.nil)),?_,fv (aW C8),?_,trivial⟩ fun n3=> ?_
    ·intro hd E' ay aH au
     refine aj.bU 9 (au 9 _ rfl rfl) ?_
     refine aj.l6 (Lin:= [⟨some cl,.var (s2.2.2.2:bt)⟩]) (Lr:=ay.eraseIdx 9) gh (fZ kN) ⟨ab (aH _ _ rfl),bK 256,trivial⟩ rfl fun iR=> ?_
     refine aj.nil ?_
     refine ad.back 9 (au 9 _ rfl rfl) ?_
     exact ad.fin (eY []) rfl rfl
    ·intro hd E' ay aH au
     refine aj.app (i:=4) Tryz.underlying48 bN dP (bytes:=16) (by kernel_rfl) (ab (aH _ _ rfl)) (au 4 _ rfl rfl) (ab (aH _ _ rfl)) n2 rfl fun jZ jn=> ?_
     refine aj.nil ?_
     exact ad.fin (eY [jZ,some jn]) rfl rfl
    ·intro hd E' ay aH au
     refine aj.jj (i:=3) (γ:=ak) (b':=(({ s2.2.1 with mz:= [] } :bJ):bJ)) (os':= [(1,a0 az.1 aA.2.2.2.1.length az.2),(4,a0 (hd 10 0) fU.length ((hd 10 1).getD 0))]) ((aL.id bJ).comp B8) Ah (ab (aH _ _ rfl)) (ab (aH _ _ rfl)) iA (au 3 _ rfl rfl) rfl rfl rfl ?_
     refine aj.nil ?_
     exact ad.fin (eY []) rfl rfl
    refine ad.eI (L2:= [⟨some hD,.var (ax b8.jR fm:ik)⟩,⟨none,.row 43 (([]:List ak):List ak) 0⟩,⟨none,.row 88 (([]:List cr):List cr) 0⟩,⟨some bH,.cz (({ s2.2.1 with mz:= [] } :bJ):bJ) [(1,a0 az.1 aA.2.2.2.1.length az.2),(4,a0 (n3 10 0) fU.length ((n3 10 1).getD 0))]⟩,⟨(n3 10 0),.row 43 (fU:List ak) ((n3 10 1).getD 0)⟩,⟨az.1,.row 88 (aA.2.2.2.1:List cr) az.2⟩,⟨some (cV 9),.var (ax ag.bm aZ:bV)⟩,⟨some a3,.var ((default:bJ):bJ)⟩,⟨some aS,.var (ag:a2)⟩,⟨some cl,.var (cD.2:bt)⟩]) rfl ?_
    refine ko [0,1,2,4,6,7,8,12,26,27,28,29,68,69,70,71,72,73,74,76,77,78,79,80,81,82,83,84,85] ?_
    refine ad.dG ?_
    refine ad.next ?_
    refine ah.cn ?_
    refine bf c9 ?_
    refine aB ?_
    refine aj.nil ?_
    obtain rfl:=aG h
    exact e0 ((n3 10 0),((n3 10 1).getD 0)) 1
   ·refine ah.exit ?_
    refine ad.exit ?_
    obtain rfl:=aG h
    exact dU (bu.1,bu.2) 0
  ·clear ao
   refine ad.eT ?_
   refine ad.next ?_
   refine aC ?_
   refine aj.iX (β:=bJ) (γ:=cr) (b':=(({ aU.2.2.1 with bY:=aA.2.2.2.1 } :bJ):bJ)) ((aL.id bJ).comp ke) 2 4 0 rfl rfl rfl rfl rfl rfl ?_
   refine aj.iX (β:=bJ) (γ:=ak) (b':=(({ ({ aU.2.2.1 with bY:=aA.2.2.2.1 } :bJ) with mz:=aU.2.2.2.1 } :bJ):bJ)) ((aL.id bJ).comp B8) 2 3 0 rfl rfl rfl rfl rfl rfl ?_
   refine aj.nQ 2 rfl ?_
   obtain⟨gY,mK,h⟩:=aw h
   refine dj mK (fj (i:=2) (aL.id bJ) (r:=({ ({ aU.2.2.1 with bY:=aA.2.2.2.1 } :bJ) with mz:=aU.2.2.2.1 } :bJ)) iC (ab rfl) rfl rfl rfl) ?_
   refine b3 6 iC ?_
   refine aJ ?_
   refine ah.ret ?_
   refine ad.bU 8 rfl ?_
   obtain rfl:=aG h
   exact ad.hj () (.cons_cons _ (List.nil_sublist _)) rfl rfl (jV (i:=7) iC rfl rfl)
end Go.Proofs.YtmnggbjcnoffeaaGreat
namespace Go.Proofs.YtmnggbjcnoffeaaGreat
open Go Gv
set_option linter.unusedVariables false
set_option linter.unusedSimpArgs false
set_option maxRecDepth 100000
set_option maxHeartbeats 2000000
theorem QQ {hp:a9 Cell} {J:Ref} {ag:aI} {Q:Bool × (a9 Cell)→Prop} (h:yc hp J ag Q):cy Tryz.prog 44 [I.of (J),I.of (ag)] ([] ++ ba hp) (δ:= {r:Bool × (a9 Cell) // Q r} × Unit) (fun d=>I.of (d.1.1.1)) (fun d=> [] ++ ba d.1.1.2):=by
 unfold yc at h
 refine cy.of Tryz.func44 rfl Tryz.ntmps44 rfl fun W A=> ?_
 refine aC ?_
 refine cf fun aS=> ?_
 refine aK ?_
 refine bG ?_
 refine aC ?_
 refine aB ?_
 refine bj (oV Tryz.underlying37 (ab rfl)) ?_
 refine aJ ?_
 refine ah.cond (ab rfl) (fun ar=> ?_) (fun ar=> ?_)
 ·replace h:=sn ar h
  refine aC ?_
  refine aK ?_
  refine aJ ?_
  refine ah.ret ?_
  refine ad.ret ?_
  exact ad.hj (⟨⟨(false,hp),h⟩,()⟩: {r // _} × _) (.cons _ (.refl _)) rfl rfl (eD rfl)
 ·replace h:=so ar h
  refine cJ ?_
  refine ah.seq ?_
  obtain⟨dg,e7,h⟩:=aM.dd h
  obtain⟨cF,fT,h⟩:=aM.dd h
  obtain⟨cK,gi,h⟩:=aM.dd h
  obtain⟨da,ho,h⟩:=aM.dd h
  obtain⟨bl,di,h⟩:=aM.dd h
  refine ah.Wx 1 1 ?_
  refine jq [0,1,3,4,9,10] ?_
  refine ah.sE 2 mixed (bh 12 [] [] _ :: bh 13 (0 :: []) [] _ :: bh 14 (1 :: []) [] _ :: ⟨some 15,(2 :: []),[],[],fun _=>I.of (cF.lZ),fun _ _=>⟨none,.dead⟩⟩ :: bh 16 [] [] _ :: bh 17 (4 :: []) (0 :: []) _ :: ⟨some 18,(3 :: 5 :: []),[],[],fun _=>I.cN [I.of (bl.getD default),I.of (bl.isSome)],fun _ _=>⟨none,.dead⟩⟩ :: bh 11 (6 :: []) [] _ :: bh 19 (7 :: []) [] _ :: bh 20 (7 :: []) [] _ :: ⟨some 5,[],(1 :: []),(1 :: []),fun hd=>I.eq (.pointer (some ⟨((hd 10 0).getD 0),0,none⟩)),fun hd _=>⟨some ((hd 10 0).getD 0),.var ((default:aI):aI)⟩⟩ :: ⟨none,(8 :: 10 :: []),(1 :: []),(1 :: []),fun _=>I.any,fun hd _=>⟨some ((hd 10 0).getD 0),.var (bl.getD default:aI)⟩⟩ :: bh 6 (9 :: []) [] _ :: []) _ (0 :: 1 :: 3 :: 4 :: 9 :: 10 :: []) rfl rfl (by kernel_rfl) (by kernel_rfl) ⟨df.q (gA),df.q (cP fun hd E' ay aH au=>ff (fQ (ab (aH _ _ rfl)) e7)),df.q (fv (aW Gd)),?_,df.q (fv (aW lu)),df.q (n0 0 kd bE),?_,df.q (gA),df.q (cP fun hd E' ay aH au=>lz (ab (aH _ _ rfl)) rfl),df.q (cP fun hd E' ay aH au=>lz (ab (aH _ _ rfl)) rfl),?_,?_,df.q (cP fun hd E' ay aH au=>eG (ab (aH _ _ rfl))),trivial⟩ fun gj=> ?_
  ·intro hd E' ay aH au dZ
   refine bj (h0 ((aL.id g9).comp BT) (r:=cF.lZ) Dq (ab (aH _ _ rfl)) (gU (n:=2) (dZ.trans rfl) (oo fT) rfl) rfl rfl) ?_
   refine aj.nil ?_
   exact ad.fin (eY []) rfl rfl
  ·intro hd E' ay aH au dZ
   refine bj (FR (r:=bl) Tryz.underlying133 H5 hh (oT (ab (aH _ _ rfl)) gi) (ab (aH _ _ rfl)) (gU (n:=2) (dZ.trans rfl) (zm ho) rfl) (aG di)) ?_
   refine aj.nil ?_
   exact ad.fin (eY []) rfl rfl
  ·intro hd E' ay aH au dZ
   refine cx hh fun a3=> ?_
   refine aj.nil ?_
   refine ad.place 1 (au 1 _ rfl rfl) ?_
   exact ad.fin (eY [some a3]) rfl rfl
  ·intro hd E' ay aH au dZ
   refine aj.store (i:=1) (aL.id aI) (v:=(bl.getD default:aI)) (b':=(bl.getD default:aI)) cY (ab (aH _ _ rfl)) (ab (aH _ _ rfl)) (au 1 _ rfl rfl) rfl rfl ?_
   refine aj.nil ?_
   exact ad.fin (eY []) rfl rfl
  refine ad.eI (L2:=(⟨some aS,.var (ag:aI)⟩ :: ⟨some ((gj 10 0).getD 0),.var (bl.getD default:aI)⟩ :: ba hp)) rfl ?_
  refine ko [0,1,3,4,5,6,9,10,11,12,13,14,15,16,17,18,19,20] ?_
  refine ad.bU 1 rfl ?_
  refine ad.next ?_
  refine ah.seq ?_
  refine ah.seq ?_
  obtain⟨pG,uO,h⟩:=aM.dd h
  obtain⟨ft,lM,h⟩:=aM.dd h
  obtain⟨al,bs,h⟩:=aM.dd h
  refine jq [0,1,3,4,5,6,9,10,11,12,13,14,15,16,17,18,19,20] ?_
  refine ah.sE 2 mixed (bh 22 [] [] _ :: bh 23 (0 :: []) [] _ :: bh 24 (1 :: []) [] _ :: ⟨some 25,(2 :: []),[],[],fun _=>I.of (ft.jg),fun _ _=>⟨none,.dead⟩⟩ :: bh 26 [] [] _ :: bh 27 (4 :: []) (1 :: []) _ :: ⟨some 28,(3 :: 5 :: []),[],[],fun _=>I.cN [I.of (al.1),I.of (al.2)],fun _ _=>⟨none,.dead⟩⟩ :: bh 21 (6 :: []) [] _ :: bh 29 (7 :: []) [] _ :: bh 30 (7 :: []) [] _ :: bh 7 (8 :: []) [] _ :: bh 8 (9 :: []) [] _ :: []) _ (0 :: 1 :: 3 :: 4 :: 5 :: 6 :: 9 :: 10 :: 11 :: 12 :: 13 :: 14 :: 15 :: 16 :: 17 :: 18 :: 19 :: 20 :: []) rfl rfl (by kernel_rfl) (by kernel_rfl) ⟨df.q (gA),df.q (cP fun hd E' ay aH au=>ff (fQ (ab (aH _ _ rfl)) uO)),df.q (fv (aW v7)),?_,df.q (fv (aW my)),df.q (n0 1 k0 iC),?_,df.q (gA),df.q (cP fun hd E' ay aH au=>lz (ab (aH _ _ rfl)) rfl),df.q (cP fun hd E' ay aH au=>lz (ab (aH _ _ rfl)) rfl),df.q (cP fun hd E' ay aH au=>eG (ab (aH _ _ rfl))),df.q (cP fun hd E' ay aH au=>eG (ab (aH _ _ rfl))),trivial⟩ fun j4=> ?_
  ·intro hd E' ay aH au dZ
   refine bj (h0 ((aL.id g9).comp vl) (r:=ft.jg) uk (ab (aH _ _ rfl)) (gU (n:=2) (dZ.trans rfl) (oo lM) rfl) rfl rfl) ?_
   refine aj.nil ?_
   exact ad.fin (eY []) rfl rfl
  ·intro hd E' ay aH au dZ
   refine aj.lS (hX.DR 2 (dZ.trans rfl) (Qq bs) ⟨ab (aH _ _ rfl),ab (aH _ _ rfl),trivial⟩) rfl rfl rfl ?_
   refine aj.nil ?_
   exact ad.fin (eY []) rfl rfl
  refine ad.eI (L2:=(⟨some ((gj 10 0).getD 0),.var (bl.getD default:aI)⟩ :: ⟨some aS,.var (ag:aI)⟩ :: ba hp)) rfl ?_
  refine ko [0,1,3,4,5,6,7,8,9,10,11,12,13,14,15,16,17,18,19,20,21,22,23,24,25,26,27,28,29,30] ?_
  refine ad.next ?_
  refine aC ?_
  refine aB ?_
  refine aB ?_
  refine dE c3 ?_
  refine qg ?_
  refine aJ ?_
  refine ah.cond (ab rfl) (fun ar=> ?_) (fun ar=> ?_)
  ·replace h:=sn ar h
   refine aC ?_
   refine aK ?_
   refine aJ ?_
   refine ah.ret ?_
   refine ad.ret ?_
   exact ad.hj (⟨⟨(false,hp),h⟩,()⟩: {r // _} × _) (.cons _ (.cons _ (.refl _))) rfl rfl (eD rfl)
  ·replace h:=so ar h
   refine cJ ?_
   refine ah.seq ?_
   obtain⟨Jn,OK,h⟩:=aM.dd h
   obtain⟨te,Eb,h⟩:=aM.dd h
   obtain⟨aN,ck,h⟩:=aM.dd h
   refine ah.draw mixed 8 [some 35,some 36,some 37,some 38,some 39,some 40,some 41,some 42] [[],[0],[1],[2],[],[4],[],[6]] [.val _,.val _,.val _,.val _,.val _,.val _,.val _,.val _] [false,false,false,false,false,false,false,false] (by kernel_rfl) rfl rfl rfl (fun cV=>⟨cR,du fun ay au=>ff (fQ (ab rfl) OK),H1 (aW Gd),du fun ay au=>h0 ((aL.id g9).comp BT) (r:=te.lZ) Dq (ab rfl) (nj (fun i e q=>au i e q rfl) (gU (n:=2) rfl (oo Eb) rfl)) rfl rfl,H1 (aW lu),dy 1 kd bE,e1 1 cY,e8 Ai (yk ck),trivial⟩) fun cV=> ?_
   obtain⟨Jo,YI,h⟩:=aM.dd h
   obtain⟨u7,Ia,h⟩:=aM.dd h
   obtain⟨dV,pa,h⟩:=aM.dd h
   refine aj.G2 (k':=Cell.ma (gH u7 ag.cH aN)) 2 rfl (by first | exact .inl rfl | exact .inr rfl) Tryz.underlying133 H5 (oT (ab rfl) YI) (ab rfl) (ab rfl) (zm Ia) rfl rfl rfl (aG pa) ?_
   refine bG ?_
   obtain⟨rO,Ib,h⟩:=aM.dd h
   refine ah.draw mixed 5 [some 43,some 44,some 45,some 46,some 47] [[],[0],[1],[2],[]] [.val _,.val _,.val _,.val _,.val _] [false,false,false,false,false] (by kernel_rfl) rfl rfl rfl (fun hB=>⟨cR,du fun ay au=>ff (fQ (ab rfl) OK),H1 (aW v7),du fun ay au=>h0 ((aL.id g9).comp vl) (r:=rO.jg) uk (ab rfl) (nj (fun i e q=>au i e q rfl) (gU (n:=2) rfl (oo Ib) rfl)) rfl rfl,e1 1 cY,trivial⟩) fun hB=> ?_
   refine aj.DR 2 0 rfl (QC h) rfl rfl ⟨ab rfl,ab rfl,trivial⟩ rfl fun⟨⟨a7,h⟩,aF⟩=> ?_
   refine aj.eI (L2:=(⟨some ((gj 10 0).getD 0),.var (bl.getD default:aI)⟩ :: ⟨some aS,.var (ag:aI)⟩ :: ba a7)) rfl ?_
   refine bZ ?_
   refine aK ?_
   refine aJ ?_
   refine ah.ret ?_
   exact ad.hj (⟨⟨(true,a7),h⟩,()⟩: {r // _} × _) (.cons _ (.cons _ (.refl _))) rfl rfl (eD rfl)
end Go.Proofs.YtmnggbjcnoffeaaGreat
namespace Go.Proofs.YtmnggbjcnoffeaaGreat
open Go Gv
set_option linter.unusedVariables false
set_option linter.unusedSimpArgs false
set_option maxRecDepth 100000
set_option maxHeartbeats 2000000
theorem Ri {hp:a9 Cell} {J:a2} {ag:bt} {aT:Int} {cB:Int} {hT:Nat} {Q:Ref × (List aI) × bt × (a9 Cell)→Prop} (h:yv hp J ag aT cB Q):cy Tryz.prog 35 [I.of (J),I.eq (.pointer (some ⟨hT,0,none⟩)),I.of (aT),I.of (cB)] ([⟨some hT,.var (ag:bt)⟩] ++ ba hp) (δ:= {r:Ref × (List aI) × bt × (a9 Cell) // Q r} × Unit) (fun d=>I.cN [I.of (d.1.1.1),I.of (d.1.1.2.1)]) (fun d=> [⟨some hT,.var (d.1.1.2.2.1:bt)⟩] ++ ba d.1.1.2.2.2):=by
 unfold yv at h
 refine cy.of Tryz.func35 rfl Tryz.ntmps35 rfl fun W A=> ?_
 refine aC ?_
 refine cf fun aS=> ?_
 refine bj (eG (r8)) ?_
 refine bj (eG (look_nil (α:=aI))) ?_
 refine bG ?_
 obtain⟨al,bs,h⟩:=aM.dd h
 obtain⟨aZ,cv,h⟩:=aM.dd h
 refine ah.draw mixed 11 [some 14,some 15,some 16,some 17,some 18,some 19,some 20,some 21,some 22,some 23,some 24] [[],[],[1],[],[],[4],[5],[3,6],[2,7],[8],[9]] [.val _,.val _,.val _,.val _,.val _,.val _,.val _,.val _,.val _,.val _,.val _] [false,false,false,false,false,false,false,false,false,false,false] (by kernel_rfl) rfl rfl rfl (fun cV=>⟨e1 0 fH,H1 (aW l2),dy 0 lX lC,cR,H1 (aW l2),dy 0 lX lC,H1 (eS Tryz.underlying28),e8 HK (Fl bs),lI cv Tryz.underlying28 fS,nq oS tV,H1 (c2 bE),trivial⟩) fun cV=> ?_
 refine aj.nS 2 0 rfl XR (RK h) rfl rfl ⟨ab rfl,ab rfl,trivial⟩ rfl fun⟨⟨aN,h⟩,aF⟩=> ?_
 refine aj.eI (L2:=(⟨some aS,.var (J:a2)⟩ :: ⟨some hT,.var (ag:bt)⟩ :: ba aN.2)) rfl ?_
 refine aK ?_
 refine bZ ?_
 refine aj.own (α:=aI) 52 ?_
 refine bj (eG tJ) ?_
 refine bG ?_
 refine aC ?_
 refine aK ?_
 refine aJ ?_
 refine ah.block ?_
 refine ah.MH (σ:=Int × (List aI) × bt × (a9 Cell)) (ε:=(Int × Bool × (List aI) × bt × (a9 Cell))) (γ:=(Option Nat × Nat)) (δ:=(Option Nat × Nat)) h (fun s1 az=> [(0,I.of (J)),(1,I.eq (.pointer (some ⟨hT,0,none⟩))),(2,I.of (aT)),(3,I.of (cB)),(4,I.eq (.pointer (some ⟨aS,0,none⟩))),(8,I.of (none:Ref)),(9,I.of ([]:List aI)),(10,I.of (aN.1)),(11,I.eq (a0 az.1 s1.2.1.length az.2)),(12,I.of (s1.1))]) (fun s1 az=>(⟨az.1,.row 52 (s1.2.1:List aI) az.2⟩ :: ⟨some aS,.var (J:a2)⟩ :: ⟨some hT,.var (s1.2.2.1:bt)⟩ :: ba s1.2.2.2)) (fun cT=>Exit.exit 0) (fun cT az=> [(0,I.of (J)),(1,I.eq (.pointer (some ⟨hT,0,none⟩))),(2,I.of (aT)),(3,I.of (cB)),(4,I.eq (.pointer (some ⟨aS,0,none⟩))),(8,I.of (none:Ref)),(9,I.of ([]:List aI)),(10,I.of (aN.1)),(11,I.eq (a0 az.1 cT.2.2.1.length az.2)),(12,I.of (cT.1)),(32,I.of (cT.2.1))]) (fun cT az=>(⟨az.1,.row 52 (cT.2.2.1:List aI) az.2⟩ :: ⟨some aS,.var (J:a2)⟩ :: ⟨some hT,.var (cT.2.2.2.1:bt)⟩ :: ba cT.2.2.2.2)) (none,0) rfl (.same rfl (.same rfl (.same rfl (.same rfl (.same rfl (.same rfl (.same rfl (.same rfl (.same rfl (.same rfl .nil)))))))))) (fun s1 R h az=> ?_) (fun aA h az=> ?_)
 ·refine ah.seq ?_
  refine aC ?_
  refine aB ?_
  refine aB ?_
  refine bf eb ?_
  refine aB ?_
  refine dE c3 ?_
  obtain⟨a7,dR,h⟩:=aM.dd h
  refine eW (fun hb=>b7.NO (z:=(s1.2.2.1:bt)) 2 30 rfl (fun _ _ _ h=>h.1 hb) rfl CI (hP Oc (Qk (ha dR hb)) ⟨ab rfl,trivial⟩)) ?_
  refine ja ?_
  refine aJ ?_
  refine ah.cond (ab rfl) (fun ar=> ?_) (fun ar=> ?_)
  ·replace h:=sn ar h
   refine cJ ?_
   refine ah.seq ?_
   refine ah.block ?_
   refine aC ?_
   refine aB ?_
   refine b6 1 fH ?_
   refine aB ?_
   refine aj.bU 2 rfl ?_
   obtain⟨bR,e2,h⟩:=aM.dd h
   refine eM 1 XS (QE e2) fun fs=> ?_
   refine aB ?_
   refine bf c9 ?_
   obtain⟨bl,di,h⟩:=aM.dd h
   refine dj di (cU (b:=({ (default:aI) with b2:=bR.1,cH:=bz (s1.1 + 1) } :aI)) rfl wQ hh (.cons k0 rfl (ab rfl) rfl (.cons kd rfl (ab rfl) rfl (.nil)))) ?_
   refine cx hh fun a3=> ?_
   refine b3 0 cY ?_
   refine bZ ?_
   refine aB ?_
   refine b6 0 cY ?_
   refine aj.nS 4 0 rfl XT (QQ h) rfl rfl ⟨ab rfl,ab rfl,trivial⟩ rfl fun⟨⟨br,h⟩,iQ⟩=> ?_
   refine aj.eI (L2:=(⟨some a3,.var (bl:aI)⟩ :: ⟨some hT,.var (bR.2:bt)⟩ :: ⟨az.1,.row 52 (s1.2.1:List aI) az.2⟩ :: ⟨some aS,.var (J:a2)⟩ :: ba br.2)) rfl ?_
   refine aJ ?_
   obtain⟨bM,cG,h⟩:=aM.dd h
   refine ah.c4 (γ:=(Option Nat × Nat)) (fun a5=> [(0,I.of (J)),(1,I.eq (.pointer (some ⟨hT,0,none⟩))),(2,I.of (aT)),(3,I.of (cB)),(4,I.eq (.pointer (some ⟨aS,0,none⟩))),(8,I.of (none:Ref)),(9,I.of ([]:List aI)),(10,I.of (aN.1)),(11,I.eq (a0 a5.1 bM.length a5.2)),(12,I.of (s1.1)),(13,I.eq (.pointer (some ⟨a3,0,none⟩))),(32,I.of ((decide (s1.1 < cB)) && a7)),(44,I.of (br.1))]) (fun a5=>(⟨some a3,.var (bl:aI)⟩ :: ⟨some hT,.var (bR.2:bt)⟩ :: ⟨a5.1,.row 52 (bM:List aI) a5.2⟩ :: ⟨some aS,.var (J:a2)⟩ :: ba br.2)) (ab rfl) (fun a5=> ?_) (fun hm ar=> ?_) (fun hm ar=> ?_)
   ·clear cG
    refine ad.dG ?_
    refine ad.next ?_
    refine ah.cn ?_
    refine aB ?_
    refine bf c9 ?_
    refine aK ?_
    refine aj.nil ?_
    refine ad.bU 3 rfl ?_
    refine ad.bU 3 rfl ?_
    refine ad.bU 2 rfl ?_
    exact ad.MI h (a5.1,a5.2) 1 rfl (.same rfl (.same rfl (.same rfl (.same rfl (.same rfl (.same rfl (.same rfl (.same rfl (.same rfl (.same rfl .nil))))))))))
   ·have h:=gQ ar cG
    refine ah.cn ?_
    refine aB ?_
    refine b6 0 cY ?_
    refine gy [bl] Tryz.underlying38 cY hh ?_
    obtain⟨b8,g3,h⟩:=aw h
    refine jI 2 Tryz.underlying38 cY hh g3 fun gZ fA=> ?_
    refine aK ?_
    refine aj.nil ?_
    obtain rfl:=aG h
    exact dt 0 (hm (gZ,fA))
   ·have h:=gR ar cG
    refine ah.skip ?_
    obtain rfl:=aG h
    exact dt 0 (hm (az.1,az.2))
  ·replace h:=so ar h
   refine ah.exit ?_
   refine ad.exit ?_
   exact ad.GB h (az.1,az.2) 0 rfl (by simp) rfl (.same rfl (.same rfl (.same rfl (.same rfl (.same rfl (.same rfl (.same rfl (.same rfl (.same rfl (.same rfl (.same rfl .nil)))))))))))
 ·refine ad.eT ?_
  refine ad.next ?_
  refine aC ?_
  refine aB ?_
  refine aB ?_
  refine aK ?_
  refine aK ?_
  refine aJ ?_
  refine ah.ret ?_
  refine ad.l1 (α:=aI) 0 [9,11,50] ⟨rfl,rfl,rfl,trivial⟩ rfl ?_
  refine ad.bU 2 rfl ?_
  exact ad.k5 (⟨⟨(aN.1,aA.2.2.1,aA.2.2.2.1,aA.2.2.2.2),h⟩,()⟩: {r // _} × _) (.cons_cons _ (.cons _ (.cons _ (.refl _)))) rfl rfl (eD rfl) (eD rfl)
end Go.Proofs.YtmnggbjcnoffeaaGreat
namespace Go.Proofs.YtmnggbjcnoffeaaGreat
open Go Gv
set_option linter.unusedVariables false
set_option linter.unusedSimpArgs false
set_option maxRecDepth 100000
set_option maxHeartbeats 2000000
theorem QF {hp:a9 Cell} {J:List (BitVec 8)} {ag:List (BitVec 8)} {aT:Int} {cB:List (Vector ak 4)} {Q:Bool × (a9 Cell)→Prop} (h:x9 hp J ag aT cB Q):cy Tryz.prog 9 [I.of (J),I.of (ag),I.of (aT),I.of (cB)] ([] ++ ba hp) (δ:= {r:Bool × (a9 Cell) // Q r} × Unit) (fun d=>I.of (d.1.1.1)) (fun d=> [] ++ ba d.1.1.2):=by
 unfold x9 at h
 refine cy.of Tryz.func9 rfl Tryz.ntmps9 rfl fun W A=> ?_
 refine aC ?_
 refine aK ?_
 refine bZ ?_
 refine aB ?_
 obtain⟨al,bs,h⟩:=aM.dd h
 refine eM 0 HH (Fk bs) fun aF=> ?_
 refine aj.bU 0 rfl ?_
 obtain⟨aN,ck,h⟩:=aM.dd h
 refine eM 1 Oj (JY ck) fun cT=> ?_
 refine aB ?_
 obtain⟨a7,dR,h⟩:=aM.dd h
 refine eM 0 HH (Fk dR) fun fs=> ?_
 refine cx Ao fun aS=> ?_
 refine b3 0 fH ?_
 refine aK ?_
 refine bG ?_
 obtain⟨bR,e2,h⟩:=aM.dd h
 obtain⟨aZ,cv,h⟩:=aM.dd h
 refine ah.draw mixed 10 [some 33,some 34,some 35,some 36,some 37,some 38,some 39,some 40,some 41,some 11] [[],[0],[],[],[3],[4],[2,5],[1,6],[7],[]] [.val _,.val _,.val _,.val _,.val _,.val _,.val _,.val _,.val _,.new (.var (default:bV))] [false,false,false,false,false,false,false,false,false,false] (by kernel_rfl) rfl rfl rfl (fun cV=>⟨H1 (aW l2),dy 0 lX lC,cR,H1 (aW l2),dy 0 lX lC,H1 (eS Tryz.underlying28),e8 HK (Fl e2),lI cv Tryz.underlying28 fS,H1 (c2 fS),tK k8,trivial⟩) fun cV=> ?_
 refine b3 0 fS ?_
 refine bZ ?_
 refine b6 1 fH ?_
 refine aB ?_
 refine aB ?_
 refine aj.bU 2 rfl ?_
 refine aj.EG (gk.nS 4 1 rfl XU (Ri h) rfl rfl ⟨ab rfl,ab rfl,ab rfl,bK 14,trivial⟩) rfl rfl rfl fun⟨⟨br,h⟩,iQ⟩=> ?_
 refine aj.eI (L2:=(⟨some fs,.var (br.2.2.1:bt)⟩ :: ⟨some (cV 9),.var (ax aN.1.bm aZ:bV)⟩ :: ⟨some aS,.var (aN.1:a2)⟩ :: ⟨some aF,.var (aN.2:bt)⟩ :: ba br.2.2.2)) rfl ?_
 refine aB ?_
 refine ez ?_
 refine ez ?_
 refine aK ?_
 refine aK ?_
 refine bG ?_
 refine aC ?_
 refine aB ?_
 refine aY (eS Tryz.underlying38) ?_
 refine aB ?_
 refine aJ ?_
 refine ah.block ?_
 obtain⟨aA,ao,h⟩:=aM.dd h
 refine ah.q3 (σ:=Int × bt) (ε:=(Int × Bool × bt) ⊕ (Bool × Int × Bool × Int × Int × Bool × Bool × Bool × bt)) (γ:=Unit) (δ:=Unit) ao (fun s1 az=> [(0,I.of (J)),(1,I.of (ag)),(2,I.of (aT)),(3,I.of (cB)),(8,I.of (false)),(9,I.eq (.pointer (some ⟨aS,0,none⟩))),(10,I.eq (.pointer (some ⟨fs,0,none⟩))),(11,I.eq (.pointer (some ⟨(cV 9),0,none⟩))),(12,I.of (br.1)),(13,I.of (br.2.1)),(49,I.of (br.2.1)),(50,I.of (br.2.1.length:Int)),(51,I.of (s1.1))]) (fun s1 az=>(⟨some fs,.var (s1.2:bt)⟩ :: ⟨some (cV 9),.var (ax aN.1.bm aZ:bV)⟩ :: ⟨some aS,.var (aN.1:a2)⟩ :: ⟨some aF,.var (aN.2:bt)⟩ :: ba br.2.2.2)) (fun ek=>Sum.elim (fun ek=>Exit.exit 0) (fun ek=>Exit.ret) ek) (fun ek az=>Sum.elim (fun ek=> [(0,I.of (J)),(1,I.of (ag)),(2,I.of (aT)),(3,I.of (cB)),(8,I.of (false)),(9,I.eq (.pointer (some ⟨aS,0,none⟩))),(10,I.eq (.pointer (some ⟨fs,0,none⟩))),(11,I.eq (.pointer (some ⟨(cV 9),0,none⟩))),(12,I.of (br.1)),(13,I.of (br.2.1)),(49,I.of (br.2.1)),(50,I.of (br.2.1.length:Int)),(51,I.of (ek.1)),(52,I.of (ek.2.1))]) (fun ek=> [(0,I.of (J)),(1,I.of (ag)),(2,I.of (aT)),(3,I.of (cB)),(8,I.of (false)),(9,I.eq (.pointer (some ⟨aS,0,none⟩))),(10,I.eq (.pointer (some ⟨fs,0,none⟩))),(11,I.eq (.pointer (some ⟨(cV 9),0,none⟩))),(12,I.of (br.1)),(13,I.of (br.2.1)),(16,I.of (ek.1)),(17,I.of (ek.2.1)),(19,I.of (ek.2.2.1)),(20,I.of (ek.2.2.2.1)),(49,I.of (br.2.1)),(50,I.of (br.2.1.length:Int)),(51,I.of (ek.2.2.2.2.1)),(52,I.of (ek.2.2.2.2.2.1)),(64,I.of (ek.2.2.2.2.2.2.1)),(80,I.of (ek.2.2.2.2.2.2.2.1))]) ek) (fun ek az=>Sum.elim (fun ek=>(⟨some fs,.var (ek.2.2:bt)⟩ :: ⟨some (cV 9),.var (ax aN.1.bm aZ:bV)⟩ :: ⟨some aS,.var (aN.1:a2)⟩ :: ⟨some aF,.var (aN.2:bt)⟩ :: ba br.2.2.2)) (fun ek=>(⟨some fs,.var (ek.2.2.2.2.2.2.2.2:bt)⟩ :: ⟨some (cV 9),.var (ax aN.1.bm aZ:bV)⟩ :: ⟨some aS,.var (aN.1:a2)⟩ :: ⟨some aF,.var (aN.2:bt)⟩ :: ba br.2.2.2)) ek) () rfl (.same rfl (.same rfl (.same rfl (.same rfl (.same rfl (.same rfl (.same rfl (.same rfl (.same rfl (.same rfl (.same rfl (.same rfl (.same rfl .nil))))))))))))) (fun s1 r h az=> ?_) (fun az=> ?_)
 ·clear ao
  refine aC ?_
  refine bf eb ?_
  refine bG ?_
  refine ch h (fun h=>?_) fun h=>?_
  ·refine cJ ?_
   refine ah.seq ?_
   refine ah.block ?_
   refine aC ?_
   obtain⟨b0,de,h⟩:=aw h
   refine gJ de Tryz.underlying38 cY ?_
   refine aY (c2 cY) ?_
   refine cx hh fun a3=> ?_
   refine b3 0 cY ?_
   refine bZ ?_
   refine b6 3 fH ?_
   refine aB ?_
   refine aY (aW lu) ?_
   refine cb 0 kd bE ?_
   obtain⟨b8,g3,h⟩:=aw h
   refine dc HJ (Ff g3) ?_
   refine aB ?_
   refine ez ?_
   refine ez ?_
   refine aK ?_
   refine aK ?_
   refine bG ?_
   refine aC ?_
   refine aB ?_
   refine bf sD ?_
   refine aJ ?_
   refine ch h (fun h=>?_) fun h=>?_
   ·refine ah.exit ?_
    refine ad.exit ?_
    refine ad.eT ?_
    refine ad.next ?_
    refine ah.cn ?_
    refine bf c9 ?_
    refine aB ?_
    refine aj.nil ?_
    obtain rfl:=aG h
    exact e0 () 1
   ·refine cJ ?_
    refine aC ?_
    refine b6 3 fH ?_
    refine aB ?_
    refine aY (aW lu) ?_
    refine cb 0 kd bE ?_
    obtain⟨cD,kN,h⟩:=aw h
    refine dc XV (QW kN) ?_
    refine aB ?_
    refine ez ?_
    refine ez ?_
    refine ez ?_
    refine cx jm fun bH=> ?_
    refine b3 0 dv ?_
    refine aK ?_
    refine aK ?_
    refine bG ?_
    refine aC ?_
    refine aB ?_
    refine bf sD ?_
    refine aB ?_
    refine dE c3 ?_
    refine dE c3 ?_
    refine eW (fun hb=>Wy Tryz.underlying4 (ct rfl hb) (ct rfl hb)) ?_
    refine qg ?_
    refine aJ ?_
    refine ch h (fun h=>?_) fun h=>?_
    ·refine aC ?_
     refine aK ?_
     refine aJ ?_
     refine ah.ret ?_
     refine ad.ret ?_
     refine ad.dQ ?_
     refine ad.ret ?_
     obtain rfl:=aG h
     exact dU () 2
    ·refine cJ ?_
     refine ah.seq ?_
     refine aC ?_
     refine aB ?_
     refine b6 0 dv ?_
     obtain⟨dL,lb,h⟩:=aw h
     refine aj.lS (hX.nR 6 rfl Ok (JZ lb) ⟨ab rfl,ab rfl,trivial⟩) rfl rfl rfl ?_
     refine aB ?_
     refine ez ?_
     refine ez ?_
     refine cx hh fun cA=> ?_
     refine b3 0 cY ?_
     refine aK ?_
     refine bZ ?_
     refine aB ?_
     refine aB ?_
     refine dE c3 ?_
     refine dE hz ?_
     refine dE c3 ?_
     refine aj.gg (fun hb=>aW lu (ab rfl)) rfl rfl rfl rfl rfl ?_
     refine aj.gg (fun hb=>fj (i:=0) ((aL.id aI).comp kd) (r:=dL.1.cH) bE (ct rfl hb) rfl rfl rfl) rfl rfl rfl rfl rfl ?_
     refine aj.gg (fun hb=>aW lu (ab rfl)) rfl rfl rfl rfl rfl ?_
     refine aj.gg (fun hb=>fj (i:=2) ((aL.id aI).comp kd) (r:=(ax br.2.1 b0).cH) bE (ct rfl hb) rfl rfl rfl) rfl rfl rfl rfl rfl ?_
     refine aj.gg (fun hb=>sD (ct rfl hb) (ct rfl hb)) rfl rfl rfl rfl rfl ?_
     refine eW (fun hb=>o9 (ct rfl hb) (ab rfl) (fun h=>⟨hb,h⟩)) ?_
     refine ja ?_
     refine aJ ?_
     refine ch h (fun h=>?_) fun h=>?_
     ·refine aC ?_
      refine aK ?_
      refine aJ ?_
      refine ah.ret ?_
      refine ad.ret ?_
      refine ad.dQ ?_
      refine ad.ret ?_
      obtain rfl:=aG h
      exact dU () 3
     ·refine cJ ?_
      refine aC ?_
      refine aj.o8 (α:=Vector ak 4) (r:=([]:List (Vector ak 4))) Tryz.underlying23 dv jm rfl rfl (.nil) rfl fun gZ=> ?_
      refine aB ?_
      refine aB ?_
      refine aY (eS Tryz.underlying23) ?_
      refine bf wx ?_
      obtain⟨fU,n2,h⟩:=aw h
      refine bj (F5 Tryz.underlying23 dv (ab rfl) .none (.some (ab rfl)) n2) ?_
      obtain⟨hJ,pb,h⟩:=aw h
      refine jI 0 Tryz.underlying23 dv jm pb fun jZ fA=> ?_
      refine aB ?_
      refine aj.bU 4 rfl ?_
      obtain⟨g4,rk,h⟩:=aw h
      refine eM 1 XW (Qu rk) fun iR=> ?_
      refine gy [g4.1] Tryz.underlying23 dv jm ?_
      obtain⟨fg,rl,h⟩:=aw h
      refine jI 1 Tryz.underlying23 dv jm rl fun iK jn=> ?_
      refine bj (sw (i:=1) Tryz.underlying23 (ab rfl) rfl rfl) ?_
      refine aB ?_
      refine aJ ?_
      refine ah.block ?_
      obtain⟨aU,ao,h⟩:=aw h
      refine ah.q3 (σ:=Int) (ε:=(Int × Bool) ⊕ (Bool × Int × Bool × Int × Int × Bool × Bool)) (γ:=Unit) (δ:=Unit) ao (fun s2 a5=> [(0,I.of (J)),(1,I.of (ag)),(2,I.of (aT)),(3,I.of (cB)),(8,I.of (false)),(9,I.eq (.pointer (some ⟨aS,0,none⟩))),(10,I.eq (.pointer (some ⟨fs,0,none⟩))),(11,I.eq (.pointer (some ⟨(cV 9),0,none⟩))),(12,I.of (br.1)),(13,I.of (br.2.1)),(15,I.eq (.pointer (some ⟨a3,0,none⟩))),(16,I.of (b8.1)),(17,I.of (b8.2)),(18,I.eq (.pointer (some ⟨bH,0,none⟩))),(19,I.of (cD.2.1)),(20,I.of (cD.2.2)),(21,I.eq (.pointer (some ⟨cA,0,none⟩))),(22,I.of (dL.2)),(49,I.of (br.2.1)),(50,I.of (br.2.1.length:Int)),(51,I.of (s1.1)),(52,I.of (decide (s1.1 < (br.2.1.length:Int)))),(64,I.of (b8.2 !=0)),(80,I.of ((cD.2.2 !=0) || (cD.2.1 ==b8.1))),(98,I.of (cD.2.1 && ((!dL.2) || (dL.1.cH !=((ax br.2.1 b0).cH))))),(109,I.eq (a0 iK fg.length jn)),(110,I.of (fg.length:Int)),(111,I.of (s2))]) (fun s2 a5=>(⟨some fs,.var (g4.2:bt)⟩ :: ⟨iK,.row 45 (fg:List (Vector ak 4)) jn⟩ :: ⟨some cA,.var (dL.1:aI)⟩ :: ⟨some bH,.var (cD.1:Vector ak 4)⟩ :: ⟨some a3,.var (ax br.2.1 b0:aI)⟩ :: ⟨some (cV 9),.var (ax aN.1.bm aZ:bV)⟩ :: ⟨some aS,.var (aN.1:a2)⟩ :: ⟨some aF,.var (aN.2:bt)⟩ :: ba br.2.2.2)) (fun iS=>Sum.elim (fun iS=>Exit.exit 2) (fun iS=>Exit.ret) iS) (fun iS a5=>Sum.elim (fun iS=> [(0,I.of (J)),(1,I.of (ag)),(2,I.of (aT)),(3,I.of (cB)),(8,I.of (false)),(9,I.eq (.pointer (some ⟨aS,0,none⟩))),(10,I.eq (.pointer (some ⟨fs,0,none⟩))),(11,I.eq (.pointer (some ⟨(cV 9),0,none⟩))),(12,I.of (br.1)),(13,I.of (br.2.1)),(15,I.eq (.pointer (some ⟨a3,0,none⟩))),(16,I.of (b8.1)),(17,I.of (b8.2)),(18,I.eq (.pointer (some ⟨bH,0,none⟩))),(19,I.of (cD.2.1)),(20,I.of (cD.2.2)),(21,I.eq (.pointer (some ⟨cA,0,none⟩))),(22,I.of (dL.2)),(49,I.of (br.2.1)),(50,I.of (br.2.1.length:Int)),(51,I.of (s1.1)),(52,I.of (decide (s1.1 < (br.2.1.length:Int)))),(64,I.of (b8.2 !=0)),(80,I.of ((cD.2.2 !=0) || (cD.2.1 ==b8.1))),(98,I.of (cD.2.1 && ((!dL.2) || (dL.1.cH !=((ax br.2.1 b0).cH))))),(109,I.eq (a0 iK fg.length jn)),(110,I.of (fg.length:Int)),(111,I.of (iS.1)),(112,I.of (iS.2))]) (fun iS=> [(0,I.of (J)),(1,I.of (ag)),(2,I.of (aT)),(3,I.of (cB)),(8,I.of (false)),(9,I.eq (.pointer (some ⟨aS,0,none⟩))),(10,I.eq (.pointer (some ⟨fs,0,none⟩))),(11,I.eq (.pointer (some ⟨(cV 9),0,none⟩))),(12,I.of (br.1)),(13,I.of (br.2.1)),(15,I.eq (.pointer (some ⟨a3,0,none⟩))),(16,I.of (b8.1)),(17,I.of (b8.2)),(18,I.eq (.pointer (some ⟨bH,0,none⟩))),(19,I.of (cD.2.1)),(20,I.of (cD.2.2)),(21,I.eq (.pointer (some ⟨cA,0,none⟩))),(22,I.of (dL.2)),(27,I.of (iS.1)),(49,I.of (br.2.1)),(50,I.of (br.2.1.length:Int)),(51,I.of (s1.1)),(52,I.of (decide (s1.1 < (br.2.1.length:Int)))),(64,I.of (b8.2 !=0)),(80,I.of ((cD.2.2 !=0) || (cD.2.1 ==b8.1))),(98,I.of (cD.2.1 && ((!dL.2) || (dL.1.cH !=((ax br.2.1 b0).cH))))),(109,I.eq (a0 iK fg.length jn)),(110,I.of (fg.length:Int)),(111,I.of (iS.2.1)),(112,I.of (iS.2.2.1)),(121,I.of (iS.2.2.2.1)),(122,I.of (iS.2.2.2.2.1)),(123,I.of (iS.2.2.2.2.2.1)),(153,I.of (iS.2.2.2.2.2.2))]) iS) (fun iS a5=>Sum.elim (fun iS=>(⟨some fs,.var (g4.2:bt)⟩ :: ⟨iK,.row 45 (fg:List (Vector ak 4)) jn⟩ :: ⟨some cA,.var (dL.1:aI)⟩ :: ⟨some bH,.var (cD.1:Vector ak 4)⟩ :: ⟨some a3,.var (ax br.2.1 b0:aI)⟩ :: ⟨some (cV 9),.var (ax aN.1.bm aZ:bV)⟩ :: ⟨some aS,.var (aN.1:a2)⟩ :: ⟨some aF,.var (aN.2:bt)⟩ :: ba br.2.2.2)) (fun iS=>(⟨some fs,.var (g4.2:bt)⟩ :: ⟨iK,.row 45 (fg:List (Vector ak 4)) jn⟩ :: ⟨some cA,.var (dL.1:aI)⟩ :: ⟨some bH,.var (cD.1:Vector ak 4)⟩ :: ⟨some a3,.var (ax br.2.1 b0:aI)⟩ :: ⟨some (cV 9),.var (ax aN.1.bm aZ:bV)⟩ :: ⟨some aS,.var (aN.1:a2)⟩ :: ⟨some aF,.var (aN.2:bt)⟩ :: ba br.2.2.2)) iS) () rfl (.same rfl (.same rfl (.same rfl (.same rfl (.same rfl (.same rfl (.same rfl (.same rfl (.same rfl (.same rfl (.same rfl (.same rfl (.same rfl (.same rfl (.same rfl (.same rfl (.same rfl (.same rfl (.same rfl (.same rfl (.same rfl (.same rfl (.same rfl (.same rfl (.same rfl (.same rfl (.same rfl (.same rfl .nil)))))))))))))))))))))))))))) (fun s2 r h a5=> ?_) (fun a5=> ?_)
      ·clear ao
       refine aC ?_
       refine bf eb ?_
       refine bG ?_
       refine ch h (fun h=>?_) fun h=>?_
       ·refine cJ ?_
        refine ah.seq ?_
        refine ah.block ?_
        refine aC ?_
        obtain⟨c1,fl,h⟩:=aw h
        refine bj (p0 (i:=1) (k:=c1) (xs:=(fg:List (Vector ak 4))) Tryz.underlying23 dv (ab rfl) (ab rfl) rfl (cc fl)) ?_
        refine bj (CX (i:=1) (k:=c1) (aL.id (Vector ak 4)) (r:=(ax fg c1)) dv (ab rfl) rfl (cc fl).1 rfl rfl) ?_
        refine cx jm fun hD=> ?_
        refine b3 0 dv ?_
        refine bZ ?_
        refine aY (aW my) ?_
        refine cb 5 k0 iC ?_
        refine b6 0 dv ?_
        obtain⟨ib,uw,h⟩:=aw h
        refine dc XX (Rd uw) ?_
        refine b3 0 dv ?_
        refine bG ?_
        refine aC ?_
        refine aY (aW kh) ?_
        refine cb 6 iV jY ?_
        refine aY (eS Tryz.underlying62) ?_
        refine aB ?_
        refine aJ ?_
        refine ah.block ?_
        obtain⟨cL,ao,h⟩:=aw h
        refine ah.q3 (σ:=Int × (Vector ak 4)) (ε:=(Int × Bool × (Vector ak 4))) (γ:=Unit) (δ:=Unit) ao (fun g7 bu=> [(0,I.of (J)),(1,I.of (ag)),(2,I.of (aT)),(3,I.of (cB)),(8,I.of (false)),(9,I.eq (.pointer (some ⟨aS,0,none⟩))),(10,I.eq (.pointer (some ⟨fs,0,none⟩))),(11,I.eq (.pointer (some ⟨(cV 9),0,none⟩))),(12,I.of (br.1)),(13,I.of (br.2.1)),(15,I.eq (.pointer (some ⟨a3,0,none⟩))),(16,I.of (b8.1)),(17,I.of (b8.2)),(18,I.eq (.pointer (some ⟨bH,0,none⟩))),(19,I.of (cD.2.1)),(20,I.of (cD.2.2)),(21,I.eq (.pointer (some ⟨cA,0,none⟩))),(22,I.of (dL.2)),(24,I.eq (.pointer (some ⟨hD,0,none⟩))),(49,I.of (br.2.1)),(50,I.of (br.2.1.length:Int)),(51,I.of (s1.1)),(52,I.of (decide (s1.1 < (br.2.1.length:Int)))),(64,I.of (b8.2 !=0)),(80,I.of ((cD.2.2 !=0) || (cD.2.1 ==b8.1))),(98,I.of (cD.2.1 && ((!dL.2) || (dL.1.cH !=((ax br.2.1 b0).cH))))),(109,I.eq (a0 iK fg.length jn)),(110,I.of (fg.length:Int)),(111,I.of (s2)),(112,I.of (decide (s2 < (fg.length:Int)))),(121,I.of (((ax aN.1.bm aZ).bx).length:Int)),(122,I.of (g7.1))]) (fun g7 bu=>(⟨some hD,.var (g7.2:Vector ak 4)⟩ :: ⟨some fs,.var (g4.2:bt)⟩ :: ⟨iK,.row 45 (fg:List (Vector ak 4)) jn⟩ :: ⟨some cA,.var (dL.1:aI)⟩ :: ⟨some bH,.var (cD.1:Vector ak 4)⟩ :: ⟨some a3,.var (ax br.2.1 b0:aI)⟩ :: ⟨some (cV 9),.var (ax aN.1.bm aZ:bV)⟩ :: ⟨some aS,.var (aN.1:a2)⟩ :: ⟨some aF,.var (aN.2:bt)⟩ :: ba br.2.2.2)) (fun rN=>Exit.exit 4) (fun rN bu=> [(0,I.of (J)),(1,I.of (ag)),(2,I.of (aT)),(3,I.of (cB)),(8,I.of (false)),(9,I.eq (.pointer (some ⟨aS,0,none⟩))),(10,I.eq (.pointer (some ⟨fs,0,none⟩))),(11,I.eq (.pointer (some ⟨(cV 9),0,none⟩))),(12,I.of (br.1)),(13,I.of (br.2.1)),(15,I.eq (.pointer (some ⟨a3,0,none⟩))),(16,I.of (b8.1)),(17,I.of (b8.2)),(18,I.eq (.pointer (some ⟨bH,0,none⟩))),(19,I.of (cD.2.1)),(20,I.of (cD.2.2)),(21,I.eq (.pointer (some ⟨cA,0,none⟩))),(22,I.of (dL.2)),(24,I.eq (.pointer (some ⟨hD,0,none⟩))),(49,I.of (br.2.1)),(50,I.of (br.2.1.length:Int)),(51,I.of (s1.1)),(52,I.of (decide (s1.1 < (br.2.1.length:Int)))),(64,I.of (b8.2 !=0)),(80,I.of ((cD.2.2 !=0) || (cD.2.1 ==b8.1))),(98,I.of (cD.2.1 && ((!dL.2) || (dL.1.cH !=((ax br.2.1 b0).cH))))),(109,I.eq (a0 iK fg.length jn)),(110,I.of (fg.length:Int)),(111,I.of (s2)),(112,I.of (decide (s2 < (fg.length:Int)))),(121,I.of (((ax aN.1.bm aZ).bx).length:Int)),(122,I.of (rN.1)),(123,I.of (rN.2.1))]) (fun rN bu=>(⟨some hD,.var (rN.2.2:Vector ak 4)⟩ :: ⟨some fs,.var (g4.2:bt)⟩ :: ⟨iK,.row 45 (fg:List (Vector ak 4)) jn⟩ :: ⟨some cA,.var (dL.1:aI)⟩ :: ⟨some bH,.var (cD.1:Vector ak 4)⟩ :: ⟨some a3,.var (ax br.2.1 b0:aI)⟩ :: ⟨some (cV 9),.var (ax aN.1.bm aZ:bV)⟩ :: ⟨some aS,.var (aN.1:a2)⟩ :: ⟨some aF,.var (aN.2:bt)⟩ :: ba br.2.2.2)) () rfl (.same rfl (.same rfl (.same rfl (.same rfl (.same rfl (.same rfl (.same rfl (.same rfl (.same rfl (.same rfl (.same rfl (.same rfl (.same rfl (.same rfl (.same rfl (.same rfl (.same rfl (.same rfl (.same rfl (.same rfl (.same rfl (.same rfl (.same rfl (.same rfl (.same rfl (.same rfl (.same rfl (.same rfl (.same rfl (.same rfl (.same rfl (.same rfl .nil)))))))))))))))))))))))))))))))) (fun g7 r h bu=> ?_) (fun bu=> ?_)
        ·clear ao
         refine aC ?_
         refine bf eb ?_
         refine bG ?_
         refine ch h (fun h=>?_) fun h=>?_
         ·refine cJ ?_
          refine ah.seq ?_
          refine ah.block ?_
          refine aC ?_
          refine aB ?_
          refine aK ?_
          refine aJ ?_
          obtain⟨fm,iZ,h⟩:=aw h
          obtain⟨jJ,ux,h⟩:=aw h
          obtain⟨oG,HA,h⟩:=aw h
          obtain⟨hW,mc,h⟩:=aw h
          refine ah.draw mixed 10 [some 125,some 126,some 127,some 128,some 129,some 130,some 131,some 132,some 133,some 134] [[],[],[1],[2],[],[],[],[4,5,6],[3,7],[0]] [.val _,.val _,.val _,.val _,.val _,.val _,.val _,.val _,.val _,.val _] [false,false,false,false,false,false,false,false,false,false] (by kernel_rfl) rfl rfl rfl (fun hB=>⟨cR,cR,du fun ay au=>ee (k:=fm) fD (ab rfl) (ab rfl) (cc iZ),dy 0 ((aL.id (Vector ak 4)).comp (aL.idx (α:=ak) 4 fm (cc iZ).1)) bN,e1 7 fH,e1 6 fS,cR,e8 XY (Q1 ux),e8 DS (Ct HA),du fun ay au=>ee (k:=hW) fD (ab rfl) (ab rfl) (cc mc),trivial⟩) fun hB=> ?_
          refine me 0 ((aL.id (Vector ak 4)).comp (aL.idx (α:=ak) 4 hW (cc mc).1)) bN ?_
          refine aj.nil ?_
          refine ad.dG ?_
          refine ad.next ?_
          refine ah.cn ?_
          refine bf c9 ?_
          refine aB ?_
          refine aj.nil ?_
          obtain rfl:=aG h
          exact e0 () 0
         ·refine ah.exit ?_
          refine ad.exit ?_
          obtain rfl:=aG h
          exact dU () 0
        ·clear ao
         refine ad.eT ?_
         refine ad.next ?_
         refine aC ?_
         refine aB ?_
         refine b6 0 dv ?_
         obtain⟨mf,HB,h⟩:=aw h
         refine aj.lS (hX.nR 9 rfl Ok (JZ HB) ⟨ab rfl,ab rfl,trivial⟩) rfl rfl rfl ?_
         refine aB ?_
         refine ez ?_
         refine ez ?_
         refine cx hh fun ky=> ?_
         refine b3 0 cY ?_
         refine aK ?_
         refine bZ ?_
         refine aB ?_
         refine aB ?_
         refine dE c3 ?_
         refine dE hz ?_
         refine dE c3 ?_
         refine aj.gg (fun hb=>aW lu (ab rfl)) rfl rfl rfl rfl rfl ?_
         refine aj.gg (fun hb=>fj (i:=0) ((aL.id aI).comp kd) (r:=mf.1.cH) bE (ct rfl hb) rfl rfl rfl) rfl rfl rfl rfl rfl ?_
         refine aj.gg (fun hb=>aW lu (ab rfl)) rfl rfl rfl rfl rfl ?_
         refine aj.gg (fun hb=>fj (i:=6) ((aL.id aI).comp kd) (r:=(ax br.2.1 b0).cH) bE (ct rfl hb) rfl rfl rfl) rfl rfl rfl rfl rfl ?_
         refine aj.gg (fun hb=>gf (ct rfl hb) (ct rfl hb)) rfl rfl rfl rfl rfl ?_
         refine eW (fun hb=>o9 (ct rfl hb) (ab rfl) (fun h=>⟨hb,h⟩)) ?_
         refine ja ?_
         refine aJ ?_
         refine ch h (fun h=>?_) fun h=>?_
         ·refine aC ?_
          refine aK ?_
          refine aJ ?_
          refine ah.ret ?_
          refine ad.dQ ?_
          refine ad.ret ?_
          obtain rfl:=aG h
          exact dU () 2
         ·refine ah.skip ?_
          refine ad.dG ?_
          refine ad.next ?_
          refine ah.cn ?_
          refine bf c9 ?_
          refine aB ?_
          refine aj.nil ?_
          obtain rfl:=aG h
          exact e0 () 2
       ·refine ah.exit ?_
        refine ad.exit ?_
        obtain rfl:=aG h
        exact dU () 0
      ·clear ao
       rcases aU with aU | aU
       ·simp only [Sum.elim_inl] at h
        refine ad.eT ?_
        refine ad.dG ?_
        refine ad.next ?_
        refine ah.cn ?_
        refine bf c9 ?_
        refine aB ?_
        refine aj.nil ?_
        refine ad.bU 4 rfl ?_
        refine ad.bU 4 rfl ?_
        refine ad.bU 4 rfl ?_
        refine ad.bU 4 rfl ?_
        obtain rfl:=aG h
        exact e0 () 4
       ·simp only [Sum.elim_inr] at h
        refine ad.dQ ?_
        refine ad.dQ ?_
        refine ad.ret ?_
        refine ad.bU 4 rfl ?_
        refine ad.bU 4 rfl ?_
        refine ad.bU 4 rfl ?_
        refine ad.bU 4 rfl ?_
        obtain rfl:=aG h
        exact dU () 4
  ·refine ah.exit ?_
   refine ad.exit ?_
   obtain rfl:=aG h
   exact dU () 0
 ·clear ao
  rcases aA with aA | aA
  ·simp only [Sum.elim_inl] at h
   refine ad.eT ?_
   refine ad.next ?_
   refine aC ?_
   obtain⟨Ie,XZ,h⟩:=aM.dd h
   refine dc X0 (Rs XZ) ?_
   refine aK ?_
   refine aJ ?_
   refine ah.ret ?_
   exact ad.hj (⟨⟨(Ie,br.2.2.2),h⟩,()⟩: {r // _} × _) (.cons _ (.cons _ (.cons _ (.cons _ (.refl _))))) rfl rfl (eD rfl)
  ·simp only [Sum.elim_inr] at h
   refine ad.dQ ?_
   refine ad.ret ?_
   exact ad.hj (⟨⟨(false,br.2.2.2),h⟩,()⟩: {r // _} × _) (.cons _ (.cons _ (.cons _ (.cons _ (.refl _))))) rfl rfl (eD rfl)
end Go.Proofs.YtmnggbjcnoffeaaGreat
