/-
  Each function meets its functional program. Conditions: none.
-/
import Derived.Test.YtlkieppifclacaaGreatMc0
import Derived.Test.YtlkieppifclacaaGreatMc1
import Derived.Test.YtlkieppifclacaaGreatMd
set_option linter.defProp false
set_option linter.unusedVariables false
set_option linter.unusedSimpArgs false
set_option maxRecDepth 100000
set_option maxHeartbeats 2000000
namespace Go.Proofs.YtlkieppifclacaaGreat
open Go Gv Go.Proofs.Tryz
attribute [local irreducible] ad ay aq bj aU ei e9 ff J.of J.ptr J.eq J.cond J.b7
def aeV{hp ab ai r}(h:Le hp ab ai=some r):jA prog 499 [J.of ab,J.of ai] hp (J.of r.1) r.2:=by
 unfold Le at h;refine bV.of func499 I ntmps499 I λW A=>?_;refine aT λa6=>?_;refine aB h λal bx h=>ad.ir (fB.jH 1 I Z9 (Wf bx) ⟨ag I,ag I,trivial⟩) I I I (aT (λh=>?_));refine aB h λbO dH h=>aB h λc1 dF h=>ay.fi 5 ?_;exact aB h λcL fg h=>aB h λc2 eP h=>aB h λbT gw h=>ad.Nc (k':=Cell.qS (iR c2 ai)) 1 I underlying370 MS (k6 (ag I) fg) (ag I) (uO eP) I I I (di gw) go
def ad3(n:Nat):∀(hp:aL Cell) (ab:Ref) (ai:Ref) (aG:aV) (b5:Int) (jk:aa fe) (vm:Nat) (we:aA Nat) (wg:Nat) (r:(aa fe)),zh n hp ab ai aG b5 jk=some r->bV prog 521 [J.of ab,J.of ai,J.of aG,J.of b5,J.of (⟨520,some [.pointer (some ⟨vm,0,none⟩)]⟩:Raw)] ([⟨some vm,.bX ([]:aa fe) [(0,aH we jk.length wg)]⟩,⟨we,.row 619 jk wg⟩]++aX hp) (δ:=(aA Nat×Nat)) (λd=>J.b7 []) (λd=>[⟨some vm,.bX ([]:aa fe) [(0,aH d.1 r.length d.2)]⟩,⟨d.1,.row 619 r d.2⟩]++aX hp):=by
 induction n with
 |zero=>intro hp ab ai aG b5 jk vm we wg r h;simp[zh]at h
 | succ n b6=>
   intro hp ab ai aG b5 jk vm we wg r h
   simp only[zh]at h
   refine bV.of func521 I ntmps521 I λW A=>?_
   refine go2 (λa6 h=>?_) (λa6 h=>?_)
   ·refine aq.bW 2 I (aq.bW 2 I ?_)
    cases h
    exact aq.mX (we,wg) (.cons_cons _ (.cons_cons _ (.cons _ (.refl _)))) I I
   refine ad.bW 2 I (ad.bW 2 I (aB h λal bx h=>ad.rb (fa.ap7 (τs:=[J.of (ai:Ref),J.of (aG:aV),J.of (b5:Int)]) 3 2 I am3 (aiK (ag I)) (aen bx) I I ⟨ag I,ag I,ag I,trivial⟩) I I I λaw=>ad.dC (fW ?_)))
   refine aB h λbO dH h=>aB h λc1 dF h=>ay.mg mixed 10 (rg 17 10) [[],[],[1],[2],[3],[4],[],[],[7],[]] [_,_,_,_,_,_,_,_,_,_] ⟨hc,hc,gn λax=>mr (j4 (ag I) dH),H1 (bC Mm.fd),gn λax=>kD (k:=0) Sc (ag I) (dd 0) ⟨by decide,rfl⟩,gn λax=>pq (((aP.id eT).comp CU).comp (aP.idx (α:=Ref) 2 0 (⟨by decide,rfl⟩:0<2∧(0:Int)=0).1)) (r:=ck c1.dL 0) j5 (ag I) (pD (λi e q=>ax i e q I) (jv (n:=3) I (rF dF) I)) I I,vj 2 h8,hc,ot jU,hc,trivial⟩ ?_
   refine aB h λaF cg h=>ad.rb (fa.dX 3 2 I Sd (b6 _ _ _ _ _ _ _ _ _ _ cg) I I ⟨ag I,ag I,ag I,ag I,ag I,trivial⟩) I I I λb9=>ad.dC (b0 ?_)
   refine aB h λbm eD h=>aB h λcL fg h=>aB h λc2 eP h=>aB h λbG ft h=>aB h λbR gO h=>ay.mg mixed 20 (rg 28 20) [[],[],[1],[2],[3],[4],[],[],[],[8],[9],[10],[11],[],[12,13],[7,14],[6,15],[],[17],[]] [_,_,_,_,_,_,_,_,_,_,_,_,_,_,_,_,_,_,_,_] ⟨hc,hc,gn λax=>mr (j4 (ag I) dH),H1 (bC Mm.fd),gn λax=>kD (k:=1) Sc (ag I) (dd 1) ⟨by decide,rfl⟩,gn λax=>pq (((aP.id eT).comp CU).comp (aP.idx (α:=Ref) 2 1 (⟨by decide,rfl⟩:1<2∧(1:Int)=1).1)) (r:=ck c1.dL 1) j5 (ag I) (pD (λi e q=>ax i e q I) (jv (n:=3) I (rF dF) I)) I I,vj 2 h8,gn λax=>iE am4 (WR eD) ⟨Ab 1 I,trivial⟩,hc,gn λax=>mr (j4 (ag I) fg),H1 (bC Q2.fd),gn λax=>pq ((aP.id hj).comp GF) (r:=c2.hG) cd (ag I) (pD (λi e q=>ax i e q I) (jv (n:=3) I (xV eP) I)) I I,ot sv,hc,ot sv,tD abw.cj (abw.m _ _ _ ft),tD abx.cj (abx.m _ _ _ gO),hc,ot jU,hc,trivial⟩ ?_
   refine aB h λb8 ib h=>ad.rb (fa.dX 3 2 I Sd (b6 _ _ _ _ _ _ _ _ _ _ ib) I I ⟨ag I,ag I,ag I,ag I,ag I,trivial⟩) I I I λdM=>ad.dC (ad.nil ?_)
   refine aq.kG (aq.bW 1 I (aq.bW 1 I ?_))
   cases h
   exact aq.mX (dM.1,dM.2) (.cons_cons _ (.cons_cons _ (.cons _ (.refl _)))) I I
def ad9{hp ab ai aG b5 jk vm we wg r}(h:Pc hp ab ai aG b5 jk=some r):bV prog 521 [J.of ab,J.of ai,J.of aG,J.of b5,J.of (⟨520,some [.pointer (some ⟨vm,0,none⟩)]⟩:Raw)] ([⟨some vm,.bX ([]:aa fe) [(0,aH we jk.length wg)]⟩,⟨we,.row 619 jk wg⟩]++aX hp) (δ:=(aA Nat×Nat)) (λd=>J.b7 []) (λd=>[⟨some vm,.bX ([]:aa fe) [(0,aH d.1 r.length d.2)]⟩,⟨d.1,.row 619 r d.2⟩]++aX hp):=ad3 dt hp ab ai aG b5 jk vm we wg r h
def aeh{ab ai cK iZ ja r}(h:KW ab ai=some r):bV prog 535 [J.dv cK,J.of ai] [⟨some cK,.bX ({ab with dw:=[]}:eF) [(10,aH iZ ab.dw.length ja)]⟩,⟨iZ,.row 70 ab.dw ja⟩] (δ:=Unit) (λd=>J.of r) (λd=>[⟨some cK,.bX ({ab with dw:=[]}:eF) [(10,aH iZ ab.dw.length ja)]⟩,⟨iZ,.row 70 ab.dw ja⟩]):=by
 unfold KW at h;refine bV.of func535 I ntmps535 I λW A=>?_;refine aT λa6=>?_;refine bg (MC underlying311 (ag I)) (b0 ?_);refine ay.wq (ag I) I (aT ?_);refine bg (dn (i:=1) (q:=0) (β:=eF) (γ:=aS) yj (ag I) I I) ?_;refine ad.share (α:=Int) 0 3 I I (bg (Al (F:=(λa0=>zn a0 ai)) (τs:=[J.ptr ai]) Z5 ⟨ag I,trivial⟩ (λ_ _ h=>VI h)) ?_);refine aB h λal bx h=>bg (bj.abA (α:=aS) 2 10 I I Ad (iE Z6 (UR bx) ⟨ag I,ag I,trivial⟩)) ?_;refine cS (b0 (ay.ret ?_));refine aq.bW 2 I (aq.bW 2 I ?_);cases h;exact qk ()
instance:eI prog 320 _ _ _ Hu J.of J.of J.of:=.i func320 I ntmps320 I λab ai r h W A=>by
 unfold Hu at h;refine aT λa6 br=>?_;refine bg (dq (look_nil (α:=cN))) (fr ?_);refine ad.own (α:=cN) 161 (bg (dq lx) ?_);refine aT ?_;refine aB h λar ao h=>eY (γ:=(aA Nat×Nat)) (δ:=(aA Nat×Nat)) ao [0,1,2,3,4,9,10] (λs1 g1=>[(5,J.eq (aH g1.1 s1.2.length g1.2)),(11,J.of s1.1)]) (λs1 g1=>[(0,⟨g1.1,.row 161 s1.2 g1.2⟩)]) (λaw=>Exit.exit 0) (λaw g1=>[(5,J.eq (aH g1.1 aw.2.2.length g1.2)),(11,J.of aw.1),(12,J.of aw.2.1)]) (λaw g1=>[(0,⟨g1.1,.row 161 aw.2.2 g1.2⟩)]) (none,0) (λs1 r h g1=>?_) λg1=>?_
 ·refine go2 (λaR dg cm h=>?_) (λh=>?_)
  ·refine aB h λm1 cc h=>iJ (γ:=(aA Nat×Nat)) [0,1,2,3,4,7,9,10,11,12,15] (λg2=>[(5,J.eq (aH g2.1 m1.length g2.2))]) (λg2=>[(1,⟨g2.1,.row 161 m1 g2.2⟩)]) (λg2=>?_) (λhm ak=>?_) λhm ak=>?_
   ·refine aT ?_;cases h;exact ia (g2.1,g2.2) 1
   ·have h:=fY ak cc;refine ay.skip ?_;cases h;exact ef 0 (hm (g1.1,g1.2))
   have h:=fZ ak cc;refine aT ?_;refine aB h λm2 dG h=>iJ (γ:=(aA Nat×Nat)) [0,1,2,3,4,7,9,10,11,12,15,21] (λg3=>[(5,J.eq (aH g3.1 m2.length g3.2))]) (λg3=>[(1,⟨g3.1,.row 161 m2 g3.2⟩)]) (λg3=>?_) (λhm ak=>?_) λhm ak=>?_
   ·cases h;exact ef 0 (hm (g3.1,g3.2))
   ·have h:=fY ak dG;refine aB h λal bx h=>aB h λbz en h=>ay.fi 11 ?_;refine aB h λaF cg h=>gY 1 underlying124 Ek Nf cg λeV dN=>?_;refine cS (ad.nil ?_);cases h;exact ef 0 (hm (eV,dN))
   have h:=fZ ak dG;refine aT ?_;refine aB h λm3 gB h=>iJ (γ:=(aA Nat×Nat)) [0,1,2,3,4,7,9,10,11,12,15,21,37] (λg4=>[(5,J.eq (aH g4.1 m3.length g4.2))]) (λg4=>[(1,⟨g4.1,.row 161 m3 g4.2⟩)]) (λg4=>?_) (λhm ak=>?_) λhm ak=>?_
   ·cases h;exact ef 0 (hm (g4.1,g4.2))
   ·have h:=fY ak gB;refine aB h λbm eD h=>aB h λz2 jw h=>ay.fi 11 ?_;refine aB h λbG ft h=>gY 1 underlying124 Ek Nf ft λh9 hZ=>?_;refine cS (ad.nil ?_);cases h;exact ef 0 (hm (h9,hZ))
   have h:=fZ ak gB;refine ay.skip ?_;cases h;exact ef 0 (hm (g1.1,g1.2))
  cases h;exact gN (g1.1,g1.2) 0
 refine aT ?_;exact aq.k8 (α:=cN) 0 [4,5,56] ⟨rfl,rfl,rfl,trivial⟩ I go
def adW{ab ai r}(h:FG ab ai=some r):cE prog 372 [J.of ab,J.of ai] (J.of r):=by
 unfold FG at h;refine cE.of func372 I ntmps372 I λW A=>?_;exact go
def aeW{ai:Int}{aG:aV}{b5:Ref}:HW prog 518 [J.ptr ai,J.ptr aG,J.ptr b5] (λv:Int=>J.of v) (λ{σ ε} hq step s0=>zx (σ:=σ) (ε:=ε) ai aG b5 hq step s0):=by
 refine HW.of func518 I ntmps518 I ?_;intro σ ε γ Ls Lx hq lO qn step s0 g0 R h W A u mi;replace h:zx ai aG b5 hq step s0 R:=h;unfold zx at h;refine aT ?_;refine ay.Za (σ:=Int×(σ)) (ε:=(Int×Bool×(σ))⊕(Int×Int×Int×Bool×Bool×Bool×(ε))) (γ:=γ) (δ:=γ) h (λs1 g1=>[(0,J.eq u),(1,J.ptr ai),(2,J.ptr aG),(3,J.ptr b5),(7,J.of ai),(8,J.of s1.1)]) (λs1 g1=>(Ls s1.2 g1)) (λaw=>Sum.elim (λaw=>Exit.exit 0) (λaw=>Exit.ret) aw) (λaw g1=>Sum.elim (λaw=>[(0,J.eq u),(1,J.ptr ai),(2,J.ptr aG),(3,J.ptr b5),(7,J.of ai),(8,J.of aw.1),(9,J.of aw.2.1)]) (λaw=>[(0,J.eq u),(1,J.ptr ai),(2,J.ptr aG),(3,J.ptr b5),(5,J.of aw.1),(6,J.of aw.2.1),(7,J.of ai),(8,J.of aw.2.2.1),(9,J.of aw.2.2.2.1),(19,J.of aw.2.2.2.2.1),(23,J.of aw.2.2.2.2.2.1)]) aw) (λaw g1=>Sum.elim (λaw=>(Ls aw.2.2 g1)) (λaw=>(Lx aw.2.2.2.2.2.2 g1)) aw) g0 I .all (λs1 R h g1=>?_) (λar h g1=>?_)
 ·refine go2 (λh=>?_) (λh=>?_)
  ·refine ah.bI h λbO dH h=>ah.bI h λc1 dF h=>ah.bI h λal bx h=>ay.mg mixed 9 (rg 11 9) [[],[],[1],[2],[3],[4],[],[5,6],[0,7]] [_,_,_,_,_,_,_,_,_] ⟨H1 (iD h8),H1 (iD aaa),gn λax=>mr (j4 (ag I) dH),H1 (bC Q2.fd),gn λax=>pq ((aP.id hj).comp GF) (r:=c1.hG) cd (ag I) (pD (λi e q=>ax i e q I) (aab (Ls:=Ls) (s:=s1.2) (g:=g1) 0 I qn (xV dF) I)) I I,ot sv,hc,ot sv,tD NF.cj (NF.m _ _ _ bx),trivial⟩ (b0 ?_);refine ah.bI h λm1 cc h=>ay.b4 (γ:=Unit) (λg2=>[(0,J.eq u),(1,J.ptr ai),(2,J.ptr aG),(3,J.ptr b5),(5,J.of s1.1),(6,J.of m1),(7,J.of ai),(8,J.of s1.1),(9,J.of (decide (s1.1<ai))),(19,J.of al)]) (λg2=>(Ls s1.2 g1)) (ag I) (λg2=>?_) (λhm ak=>?_) (λhm ak=>?_)
   ·refine aT ?_;refine ad.ak9 (Lin:=[]) (Ls:=Ls) (Lx:=Lx) (step:=step) (s:=s1.2) (gg:=g1) I mi I (ag I) h I (λs2 h g3=>?_) (λb9 h g3=>?_)
    ·simp only[Sum.elim_inl]at h;refine ad.ey (L2:=(Ls s2 g3)) I (bQ pA (b0 ?_));refine ay.wq (ag I) (by first|rfl|(rw[hb];rfl)) ?_;refine aT ?_;exact aq.xU h g3 0 I .all
    simp only[Sum.elim_inr]at h;refine ad.ey (L2:=(Lx b9 g3)) I (bQ pA (b0 ?_));refine ay.Is (ag I) (by first|rfl|(rw[hb];rfl)) ?_;exact ay.ret (aq.rL (aq.ret (aq.uQ h g3 0 I (by simp) I .all)))
   ·have h:=fY ak cc;exact go
   have h:=fZ ak cc;exact go
  exact aq.uQ h g1 0 I (by simp) I .all
 rcases ar with ar|ar
 ·simp only[Sum.elim_inl]at h;exact aq.lz (aq.kG (aq.mX (⟨⟨(.inl ar.2.2:σ⊕ε),h⟩,g1⟩: {r // _}×_) (.refl _) I I))
 simp only[Sum.elim_inr]at h;exact aq.rL (aq.mX (⟨⟨(.inr ar.2.2.2.2.2.2:σ⊕ε),h⟩,g1⟩: {r // _}×_) (.refl _) I I)
def VT{hp:aL Cell}{ai:Int}{aG:aV}{b5:Ref}:HX prog 518 [J.ptr ai,J.ptr aG,J.ptr b5] hp (λv:Int=>J.of v) (λ{σ ε} =>vK (σ:=σ) (ε:=ε) hp ai aG b5):=by
 refine HX.of func518 I ntmps518 I ?_;intro σ ε γ Ls Lx lO qn step s0 g0 r h W A u mi;replace h:vK hp ai aG b5 step s0=some r:=h;unfold vK at h;refine aT ?_;refine aB h λar ao h=>ay.Ng (σ:=Int×(σ)) (ε:=(Int×Bool×(σ))⊕(Int×Int×Int×Bool×Bool×Bool×(ε))) (γ:=γ) (δ:=γ) ao (λs1 g1=>[(0,J.eq u),(1,J.ptr ai),(2,J.ptr aG),(3,J.ptr b5),(7,J.of ai),(8,J.of s1.1)]) (λs1 g1=>(Ls s1.2 g1)) (λaw=>Sum.elim (λaw=>Exit.exit 0) (λaw=>Exit.ret) aw) (λaw g1=>Sum.elim (λaw=>[(0,J.eq u),(1,J.ptr ai),(2,J.ptr aG),(3,J.ptr b5),(7,J.of ai),(8,J.of aw.1),(9,J.of aw.2.1)]) (λaw=>[(0,J.eq u),(1,J.ptr ai),(2,J.ptr aG),(3,J.ptr b5),(5,J.of aw.1),(6,J.of aw.2.1),(7,J.of ai),(8,J.of aw.2.2.1),(9,J.of aw.2.2.2.1),(19,J.of aw.2.2.2.2.1),(23,J.of aw.2.2.2.2.2.1)]) aw) (λaw g1=>Sum.elim (λaw=>(Ls aw.2.2 g1)) (λaw=>(Lx aw.2.2.2.2.2.2 g1)) aw) g0 I .all (λs1 r h g1=>?_) (λg1=>?_)
 ·refine go2 (λh=>?_) (λh=>?_)
  ·refine aB h λbO dH h=>aB h λc1 dF h=>aB h λal bx h=>ay.mg mixed 9 (rg 11 9) [[],[],[1],[2],[3],[4],[],[5,6],[0,7]] [_,_,_,_,_,_,_,_,_] ⟨H1 (iD h8),H1 (iD aaa),gn λax=>mr (j4 (ag I) dH),H1 (bC Q2.fd),gn λax=>pq ((aP.id hj).comp GF) (r:=c1.hG) cd (ag I) (pD (λi e q=>ax i e q I) (am5 (Ls:=Ls) (s:=s1.2) (g:=g1) 0 I qn (xV dF) I)) I I,ot sv,hc,ot sv,tD NF.cj (NF.m _ _ _ bx),trivial⟩ (b0 ?_);refine aB h λm1 cc h=>ay.b4 (γ:=Unit) (λg2=>[(0,J.eq u),(1,J.ptr ai),(2,J.ptr aG),(3,J.ptr b5),(5,J.of s1.1),(6,J.of m1),(7,J.of ai),(8,J.of s1.1),(9,J.of (decide (s1.1<ai))),(19,J.of al)]) (λg2=>(Ls s1.2 g1)) (ag I) (λg2=>?_) (λhm ak=>?_) (λhm ak=>?_)
   ·refine aT ?_;refine aB h λaF cg h=>ad.yield (Lin:=[]) (Ls:=Ls) (Lx:=Lx) (step:=step) (s:=s1.2) (gg:=g1) I mi I (ag I) cg I (λs2 aE g3=>?_) (λb9 aE g3=>?_)
    ·subst aE;simp only[Sum.elim_inl]at h;refine ad.ey (L2:=(Ls s2 g3)) I (bQ pA (b0 ?_));refine ay.wq (ag I) (by first|rfl|(rw[hb];rfl)) ?_;refine aT ?_;cases h;exact ia g3 0
    subst aE;simp only[Sum.elim_inr]at h;refine ad.ey (L2:=(Lx b9 g3)) I (bQ pA (b0 ?_));refine ay.Is (ag I) (by first|rfl|(rw[hb];rfl)) ?_;refine ay.ret (aq.rL (aq.ret ?_));cases h;exact gN g3 0
   ·have h:=fY ak cc;exact go
   have h:=fZ ak cc;exact go
  cases h;exact gN g1 0
 rcases ar with ar|ar
 ·simp only[Sum.elim_inl]at h;refine aq.lz (aq.kG ?_);cases h;exact aq.mX g1 (.refl _) I I
 simp only[Sum.elim_inr]at h;refine aq.rL ?_;cases h;exact aq.mX g1 (.refl _) I I
instance:ji prog 264 _ _ s9 J.of J.of:=.i func264 I ntmps264 I λab r h W A=>by
 unfold s9 at h;exact go
def afC{hp ab ai r}(h:GQ hp ab ai=some r):jA prog 258 [J.of ab,J.of ai] hp (J.of r) hp:=by
 unfold GQ at h;refine bV.of func258 I ntmps258 I λW A=>?_;refine aT ?_;refine aB h λbO dH h=>aB h λc1 dF h=>aB h λal bx h=>aB h λaR dg h=>ay.fi 14 ?_;exact go
def aeH{hp ab ai r}(h:Gg hp ab ai=some r):jA prog 495 [J.of ab,J.of ai] hp (J.b7 []) r:=by
 unfold Gg at h;refine bV.of func495 I ntmps495 I λW A=>?_;refine aT λa6 br=>?_;refine aB h λal bx h=>ay.fi 5 ?_;refine aB h λaF cg h=>ad.dX 2 0 I am6 (aeV cg) I I ⟨ag I,ag I,trivial⟩ I λaw=>ad.dC (ad.nil ?_);exact aq.kG go
def ad4{hp ab aG wU key02_0 cap02_0 r}(h:KL hp ab aG=some r):bV prog 519 [J.of ab,J.of (⟨520,some [.pointer (some ⟨wU,0,none⟩)]⟩:Raw)] ([⟨some wU,.bX ([]:aa fe) [(0,aH key02_0 aG.length cap02_0)]⟩,⟨key02_0,.row 619 aG cap02_0⟩]++aX hp) (δ:=(aA Nat×Nat)) (λd=>J.b7 []) (λd=>[⟨some wU,.bX ([]:aa fe) [(0,aH d.1 r.length d.2)]⟩,⟨d.1,.row 619 r d.2⟩]++aX hp):=by
 unfold KL at h;refine bV.of func519 I ntmps519 I λW A=>?_;refine aT ?_;refine aB h λm1 cc h=>yA (γ:=(aA Nat×Nat)) 2 [0,1,5] (λg1=>[]) (λg1=>[(0,⟨some wU,.bX ([]:aa fe) [(0,aH g1.1 m1.length g1.2)]⟩),(1,⟨g1.1,.row 619 m1 g1.2⟩)]) (λg1=>aX hp) (λg1=>?_) (λhm ak=>?_) (λhm ak=>?_)
 ·refine aq.kG (aq.bW 1 I (aq.bW 1 I ?_));cases h;exact aq.mX (g1.1,g1.2) (.cons_cons _ (.cons_cons _ (.refl _))) I I
 ·have h:=fY ak cc;refine aT λbO dH c1 dF h=>?_;refine aB h λal bx h=>ad.rb (fa.dX 2 2 I Sd (ad9 bx) I I ⟨ag I,ag I,ag I,dd 0,ag I,trivial⟩) I I I λaw=>ad.dC (ad.nil ?_);cases h;exact ef 0 (hm (aw.1,aw.2))
 have h:=fZ ak cc;refine ay.skip ?_;cases h;exact ef 0 (hm (key02_0,cap02_0))
def afD{ab ai aG r}(h:zB ab ai aG=some r):cE prog 163 [J.ptr ab,J.ptr ai,J.ptr aG] (J.of r):=by
 unfold zB at h;refine cE.of func163 I ntmps163 I λW A=>?_;exact go
def afE{ab ai aG r}(h:zC ab ai aG=some r):cE prog 164 [J.ptr ab,J.ptr ai,J.ptr aG] (J.of r):=by
 unfold zC at h;refine cE.of func164 I ntmps164 I λW A=>?_;refine aT λal bx a6 h=>?_;refine aB h λar ao h=>eY (γ:=Unit) (δ:=Unit) ao [0,1,2,3,4,17,18] (λs1 g1=>[(19,J.of s1)]) (λs1 g1=>[]) (λaw=>Sum.elim (λaw=>Exit.exit 0) (λaw=>Exit.ret) aw) (λaw g1=>Sum.elim (λaw=>[(19,J.of aw.1),(20,J.of aw.2)]) (λaw=>[(6,J.of aw.1),(19,J.of aw.2.1),(20,J.of aw.2.2.1),(31,J.of aw.2.2.2)]) aw) (λaw g1=>[]) () (λs1 r h g1=>?_) λg1=>?_
 ·exact go
 rcases ar with ar|ar
 ·simp only[Sum.elim_inl]at h;exact go
 simp only[Sum.elim_inr]at h;exact go
def agj{ab ai aG r}(h:Hi ab ai aG=some r):cE prog 244 [J.of ab,J.of ai,J.of aG] (J.of r):=by
 unfold Hi at h;refine cE.of func244 I ntmps244 I λW A=>?_;refine acj (λa6 al bx aF cg bm eD h=>?_) (λa6 al bx aF cg bm eD h=>?_) (λa6 al bx aF cg bm eD h=>?_)
 ·refine aB h λbG ft h=>aB h λbR gO h=>aB h λbz en h=>ay.fi 21 ?_;exact go
 ·refine aB h λb8 ib h=>aB h λz2 jw h=>ay.fi 14 ?_;exact go
 refine aB h λde lF h=>aB h λz3 kM h=>ay.fi 11 ?_;exact go
def afF{ab ai aG r}(h:Dd ab ai aG=some r):cE prog 173 [J.ptr ab,J.ptr ai,J.ptr aG] (J.of r):=by
 unfold Dd at h;refine cE.of func173 I ntmps173 I λW A=>?_;exact go
instance:eI prog 176 _ _ _ GH J.of J.of J.of:=.i func176 I ntmps176 I λab ai r h W A=>by
 unfold GH at h;refine aT (λa6 br al bx cm aF cg bm eD aR dg bz en h=>?_);refine aB h λar ao h=>eY (γ:=Unit) (δ:=Unit) ao [0,1,2,3,5,6,7,8,34,46,48,49] (λs1 g1=>[(4,J.of (0:Int)),(50,J.of s1)]) (λs1 g1=>[]) (λaw=>Sum.elim (λaw=>Exit.exit 0) (λaw=>Exit.ret) aw) (λaw g1=>Sum.elim (λaw=>[(4,J.of (0:Int)),(50,J.of aw.1),(51,J.of aw.2)]) (λaw=>[(4,J.of aw.1),(9,J.of aw.2.1),(50,J.of aw.2.2.1),(51,J.of aw.2.2.2.1),(62,J.of aw.2.2.2.2)]) aw) (λaw g1=>[]) () (λs1 r h g1=>?_) λg1=>?_
 ·refine aT (λbD dh dV h=>?_);refine aB h λcf hM h=>aB h λbG ft h=>ay.fi 8 ?_;exact go
 rcases ar with ar|ar
 ·simp only[Sum.elim_inl]at h;exact go
 simp only[Sum.elim_inr]at h;exact go
def agT{ab ai aG r}(h:HB ab ai aG=some r):cE prog 253 [J.of ab,J.of ai,J.of aG] (J.of r):=by
 unfold HB at h;refine cE.of func253 I ntmps253 I λW A=>?_;refine aT λa6 br cm=>?_;refine bg (dq (look_nil (α:=iA))) (fr ?_);refine ad.own (α:=iA) 427 (bg (dq lx) ?_);refine aT ?_;refine aB h λar ao h=>eY (γ:=(aA Nat×Nat)) (δ:=(aA Nat×Nat)) ao [0,1,2,3,4,5,6,15,16] (λs1 g1=>[(7,J.eq (aH g1.1 s1.2.length g1.2)),(17,J.of s1.1)]) (λs1 g1=>[(0,⟨g1.1,.row 427 s1.2 g1.2⟩)]) (λaw=>Exit.exit 0) (λaw g1=>[(7,J.eq (aH g1.1 aw.2.2.length g1.2)),(17,J.of aw.1),(18,J.of aw.2.1)]) (λaw g1=>[(0,⟨g1.1,.row 427 aw.2.2 g1.2⟩)]) (none,0) (λs1 r h g1=>?_) λg1=>?_
 ·refine go2 (λaR dg dV mG h=>?_) (λh=>?_)
  ·refine aB h λm1 cc h=>iJ (γ:=Unit) [0,1,2,3,4,5,6,7,8,9,10,15,16,17,18,26] (λg2=>[]) (λg2=>[(0,aZ mG m1)]) (λg2=>?_) (λhm ak=>?_) λhm ak=>?_
   ·refine aT λbz en al bx h=>?_;refine aB h λaF cg h=>bg (Mj underlying349 H7 (ag I) .none (.some (ag I)) cg) ?_;refine aT ?_;refine aB h λaK ao h=>eY (γ:=(aA Nat×Nat)) (δ:=(aA Nat×Nat)) ao [0,1,2,3,4,5,6,8,9,10,11,15,16,17,18,26,40,41] (λs2 g3=>[(7,J.eq (aH g3.1 s2.2.length g3.2)),(42,J.of s2.1)]) (λs2 g3=>[(2,⟨g3.1,.row 427 s2.2 g3.2⟩)]) (λb9=>Exit.exit 2) (λb9 g3=>[(7,J.eq (aH g3.1 b9.2.2.length g3.2)),(42,J.of b9.1),(43,J.of b9.2.1)]) (λb9 g3=>[(2,⟨g3.1,.row 427 b9.2.2 g3.2⟩)]) (g1.1,g1.2) (λs2 r h g3=>?_) λg3=>?_
    ·refine go2 (λbD dh hS h=>?_) (λh=>?_)
     ·refine aB h λbm eD h=>aB h λbG ft h=>aB h λz2 jw h=>ay.fi 15 ?_;refine aB h λbR gO h=>gY 3 underlying352 Nh Se gO λeV dN=>?_;refine aT ?_;cases h;exact ia (eV,dN) 1
     cases h;exact gN (g3.1,g3.2) 0
    refine aT ?_;cases h;exact ia (g3.1,g3.2) 2
   ·have h:=fY ak cc;exact go
   have h:=fZ ak cc;exact go
  cases h;exact gN (g1.1,g1.2) 0
 refine aT λb8 ib z3 kM h=>?_;refine aB h λde lF h=>gY 0 underlying352 Nh Se lF λh9 hZ=>?_;refine cS (b0 (ay.ret ?_));exact aq.k8 (α:=iA) 0 [6,70] ⟨rfl,rfl,trivial⟩ I go
def Wc{hp ab ai aG r}(h:De hp ab ai aG=some r):jA prog 515 [J.of ab,J.of ai,J.of aG] hp (J.of r) hp:=by
 unfold De at h;refine bV.of func515 I ntmps515 I λW A=>?_;refine aT λa6=>?_;refine aB h λbO dH h=>aB h λc1 dF h=>aB h λcL fg h=>aB h λc2 eP h=>aB h λal bx h=>aB h λaF cg h=>aB h λbz en h=>ay.fi 26 ?_;exact go
def agt{ab hY ew r}(h:DF ab=some r):bV prog 532 [J.eq (aH hY ab.length ew)] [⟨hY,.row 70 ab ew⟩] (δ:=Unit) (λd=>J.of r) (λd=>[⟨hY,.row 70 ab ew⟩]):=by
 unfold DF at h;refine bV.of func532 I ntmps532 I λW A=>bU (bg (dq (look_nil (α:=aS))) (fr ?_));refine ad.own (α:=aS) 70 (bg (dq lx) ?_);refine aT ?_;refine bg (pt (i:=1) underlying53 (ag I) I I) ?_;refine bB (b0 (ay.block ?_));refine aB h λar ao h=>eY (γ:=(aA Nat×Nat)) (δ:=(aA Nat×Nat)) ao [0,2,6,7] (λs1 g1=>[(3,J.eq (aH g1.1 s1.2.length g1.2)),(8,J.of s1.1)]) (λs1 g1=>[(0,⟨g1.1,.row 70 s1.2 g1.2⟩)]) (λaw=>Exit.exit 0) (λaw g1=>[(3,J.eq (aH g1.1 aw.2.2.length g1.2)),(8,J.of aw.1),(9,J.of aw.2.1)]) (λaw g1=>[(0,⟨g1.1,.row 70 aw.2.2 g1.2⟩)]) (none,0) (λs1 r h g1=>?_) λg1=>?_
 ·refine go2 (λh=>?_) (λh=>?_)
  ·refine aB h λaR dg h=>bg (jV (i:=1) (k:=aR) (xs:=(ab:aa aS)) underlying53 gM (ag I) (ag I) I (c4 dg)) ?_;refine bg (sm (i:=1) (k:=aR) (aP.id aS) (r:=(av ab aR)) gM (ag I) I (c4 dg).1 I I) ?_;refine aT λa6 al bx h=>?_;refine aB h λaF cg h=>gY 1 underlying53 gM rM cg λeV dN=>?_;refine aT ?_;cases h;exact ia (eV,dN) 1
  cases h;exact gN (g1.1,g1.2) 0
 refine aT ?_;exact aq.k8 (α:=aS) 0 [2,3,18] ⟨rfl,rfl,rfl,trivial⟩ I go
def afe{hp ab ai aG r}(h:GI hp ab ai aG=some r):jA prog 279 [J.of ab,J.of ai,J.of aG] hp (J.b7 [J.of r.1,J.of r.2]) hp:=by
 unfold GI at h;refine bV.of func279 I ntmps279 I λW A=>?_;refine aT (λa6 bO dH c1 dF h=>?_);refine aB h λcL fg h=>aB h λc2 eP h=>aB h λbz en h=>bg (wc (r:=bz) underlying299 BY rM (k6 (ag I) fg) (ag I) (jv (n:=1) I (ti eP) I) (di en)) ?_;exact go
instance:eI prog 548 _ _ _ DB J.of J.of J.of:=.i func548 I ntmps548 I λab ai r h W A=>by
 unfold DB at h;refine aT λa6 br al bx cm h=>?_;refine aB h λaF cg h=>bg (iE ZO (Vg cg) ⟨ag I,XI am7 (λ_ _=>afA),trivial⟩) ?_;exact go
def LK{hp ab Q}(h:ta hp ab Q):lM prog 27 [J.of ab] hp Q:=by
 unfold ta at h;refine bV.of func27 I ntmps27 I λW A=>bU (lD λa6=>?_);refine bg (dq oI) (fW ?_);obtain⟨oi,sE,va⟩:=ah.ex h;obtain⟨ar3,ap8,ap9⟩:=ah.ar4 va;refine fI [1,2] ?_;refine ay.yC mixed [1,3,5] [(0,3,J.of ab),(2,5,J.of ab),(4,7,J.of ab)] ?_;refine fF.md [] [0,2,4] [1] ⟨?_,trivial⟩;refine hU.of (ks:=[]) (λx:Subtype oi=>[(4,J.of x.1.1)]) (λx=>[]) (λx=>(aZ a6 ab::aX x.1.2)) (λ⟨al,jc⟩=>?_) (λo a8 dA iv aJ k=>?_)
 ·refine fF.md [0] [2,4] [3] ⟨?_,trivial⟩
  ·refine hU.of (ks:=[]) (λx: {z // ar3 (al,z)} =>[(6,J.of x.1.1)]) (λx=>[]) (λx=>(aZ a6 ab::aX x.1.2)) (λ⟨aF,SX⟩=>?_) (λo a8 dA iv aJ k=>?_)
   ·have h:=ap9 (al,aF) SX;refine fF.md [2,0] [4] [5] ⟨hU.tail [4,3,2,1,0] ?_,trivial⟩;refine ad.ey (L2:=(aZ a6 ab::aX aF.2)) I (ad.le (E':=[(1,J.dv a6),(2,J.of (none:Ref)),(4,J.of al.1),(6,J.of aF.1),(7,J.of ab)]) .all ?_);refine ad.dX 1 0 I aqa (agQ h) I I ⟨ag I,trivial⟩ I λ⟨⟨bm,h⟩,aw⟩=>ad.dC ?_;refine bg (tb (b:=({(default:fc)with mq:=al.1,qP:=aF.1,tf:=bm.1}:fc)) [3] ajR I am8 am9 (.cons FX I (ag I) I (by rfl) (.cons VJ I (ag I) I (by rfl) (.cons Vv I (ag I) I (by rfl) (.nil))))) ?_;refine ad.own (α:=fw) 220 (ad.aa9 (ag I) I λbr=>ad.Jd (γ:=fw) (b':=({({(default:fc)with mq:=al.1,qP:=aF.1,tf:=bm.1}:fc)with fH:=[]}:fc)) ((aP.id fc).comp FQ) 0 0 I I I (ad.ZX 3 2 (Cell.mZ ({({(default:fc)with mq:=al.1,qP:=aF.1,tf:=bm.1}:fc)with fH:=([]:aa fw)}:fc) none 0) I I I I kt λbZ ql ar5=>?_));replace h:=ah.p1 (h (none,0)) bZ ql;refine ad.ZY 10 I ar5 (cS (b0 (ay.ret ?_)));exact aq.eU (⟨⟨((some bZ.1:Ref),bZ.2),h⟩,()⟩: {r // _}×_) (eK 1) I I (dB I)
   cases a8;refine ad.dX 1 0 I aqb (ahh (ap8 al jc)) I I ⟨ag (aJ I),trivial⟩ I λ⟨⟨aF,SX⟩,_⟩=>ad.dC (ad.nil ?_);exact k ⟨aF,SX⟩
 cases a8;refine ad.dX 1 0 I aqc (agS sE) I I ⟨ag (aJ I),trivial⟩ I λ⟨⟨al,jc⟩,_⟩=>ad.dC (ad.nil ?_);exact k ⟨al,jc⟩
instance:eI prog 170 _ _ _ G2 J.of J.of J.of:=.i func170 I ntmps170 I λab ai r h W A=>by
 unfold G2 at h;refine bU (lD λa6=>?_);refine lD λbr=>?_;refine cS (fr ?_);refine lf 1 ju ?_;refine lf 0 il ?_;refine aB h λal bx h=>nG abi.cj (abi.m _ _ _ bx) ?_;refine bB ?_;refine qZ ?_;refine qZ ?_;refine lE rK λcm=>?_;refine rS 0 jJ ?_;refine cS (fW (bU ?_));refine bB ?_;refine bQ pA (b0 ?_);refine ki h (λh=>?_) λh=>?_
 ·refine bU (cS (b0 (ay.ret (aq.ret ?_))));cases h;exact pF
 refine jx (ay.seq (bU (bQ (bC hF.fd) ?_)));refine gC 1 j2 gA ?_;refine bQ (su underlying45) ?_;refine bQ (bC th.fd) ?_;refine gC 0 pg sB ?_;refine bQ (su underlying62) ?_;refine dA ya (b0 ?_);refine ki h (λh=>?_) λh=>?_
 ·refine bU (cS (b0 (ay.ret (aq.ret ?_))));cases h;exact pF
 refine jx (ay.seq (bU (bQ (bC hF.fd) ?_)));refine gC 1 j2 gA ?_;refine bQ (su underlying45) ?_;refine bB (b0 (ay.block ?_));refine aB h λar ao h=>eY (γ:=Unit) (δ:=Unit) ao [0,1,2,3,5,6,18,25,27,28] (λs1 g1=>[(4,J.of (0:Int)),(29,J.of s1)]) (λs1 g1=>[]) (λaw=>Sum.elim (λaw=>Exit.exit 0) (λaw=>Exit.ret) aw) (λaw g1=>Sum.elim (λaw=>[(4,J.of (0:Int)),(29,J.of aw.1),(30,J.of aw.2)]) (λaw=>[(4,J.of aw.1),(7,J.of aw.2.1),(29,J.of aw.2.2.1),(30,J.of aw.2.2.2.1),(42,J.of aw.2.2.2.2)]) aw) (λaw g1=>[]) () (λs1 r h g1=>?_) λg1=>?_
 ·refine bU (dA l2 (fW ?_));refine ki h (λh=>?_) λh=>?_
  ·refine jx (ay.seq (ay.block (bU (bB ?_))));refine aB h λaR dg h=>qY dg underlying45 jt ?_;refine bQ (iD jt) ?_;refine lE u1 λdV=>?_;refine cS ?_;refine rS 0 jt (fW (ay.seq ?_));refine aB h λbD dh h=>aB h λaF cg h=>ay.mg mixed 9 (rg 34 9) [[],[],[1],[],[2,3],[4],[5],[0,6],[7]] [_,_,_,_,_,_,_,_,_] ⟨vj 0 jt,H1 (bC th.fd),lG 1 pg sB,hc,aco dh underlying62 p9,ar6 vR Mk.fd,H1 (iD cd),tD abe.cj (abe.m _ _ _ cg),H1 pA,trivial⟩ (b0 ?_);refine ki h (λh=>?_) λh=>?_
   ·refine bU (cS (b0 (ay.ret (aq.ret ?_))));refine aq.rL (aq.ret ?_);cases h;exact gN () 1
   refine jx (ay.seq (aB h λcf hM h=>aB h λc0 iq h=>aB h λbm eD h=>aB h λbG ft h=>ay.mg mixed 20 (rg 43 20) [[],[0],[1],[2],[2],[2,4],[2],[2,5,6],[2,7],[2,8],[2],[2],[2,11],[2],[2,12,13],[2,14],[2,10,15],[2,3,9,16],[2,17],[2,18]] [_,_,_,_,_,_,_,_,_,_,_,_,_,_,_,_,_,_,_,_] ⟨H1 (bC ajS.fd),lG 0 F7 lH,hc,eE λL' ax=>λhb=>gz (i:=0) (aP.id bN) (r:=(av ai.bs aR)) jt (ag I) (ax _ _ I I) I I,eE λL' ax=>λhb=>bC th.fd (ag I),eE λL' ax=>λhb=>gz (i:=1) ((aP.id bw).comp pg) (r:=al.1.bY) sB (cW I hb) (ax _ _ I I) I I,eE λL' ax=>λhb=>dj (ag I),eE λL' ax=>λhb=>pz (k:=cf) underlying62 p9 (cW I hb) (cW I hb) (c4 (hl hM hb)),eE λL' ax=>λhb=>Ej vR Mk.fd (cW I hb) I I,eE λL' ax=>λhb=>iD cd (cW I hb),eE λL' ax=>λhb=>gz (i:=3) (aP.id aD) (r:=ab) ju (ag I) (ax _ _ I I) I I,eE λL' ax=>λhb=>bC th.fd (ag I),eE λL' ax=>λhb=>gz (i:=1) ((aP.id bw).comp pg) (r:=al.1.bY) sB (cW I hb) (ax _ _ I I) I I,eE λL' ax=>λhb=>dj (ag I),eE λL' ax=>λhb=>pz (k:=c0) underlying62 p9 (cW I hb) (cW I hb) (c4 (hl iq hb)),eE λL' ax=>λhb=>iD p9 (cW I hb),eE λL' ax=>λhb=>iE ana (agh (hl eD hb)) ⟨cW I hb,cW I hb,trivial⟩,eE λL' ax=>λhb=>iE anb (agj (hl ft hb)) ⟨cW I hb,cW I hb,cW I hb,trivial⟩,eE λL' ax=>λhb=>pA (cW I hb),gn λax=>x7 (ag I) (ag I) (λh=>h),trivial⟩ (b0 ?_)));refine ki h (λh=>?_) λh=>?_
   ·refine bU (cS (b0 (ay.ret ?_)));refine aq.rL (aq.ret ?_);cases h;exact gN () 1
   refine ay.skip (aq.mW (aq.next (ay.eQ (dA jU ?_))));refine bB (ad.nil ?_);cases h;exact ia () 1
  refine ay.exit (aq.exit ?_);cases h;exact gN () 0
 rcases ar with ar|ar
 ·simp only[Sum.elim_inl]at h;refine aq.lz (aq.next (bU (cS ?_)));refine cS (fW (bU ?_));refine lf 0 jJ ?_;refine aB h λbR gO h=>nG abj.cj (abj.m _ _ gO) (b0 ?_);refine aB h λm1 cc h=>iJ (γ:=Unit) [0,1,2,3,4,5,6,18,25,27,28,29,30,65] (λg2=>[(9,J.of m1.1),(10,J.of m1.2)]) (λg2=>[]) (λg2=>?_) (λhm ak=>?_) λhm ak=>?_
  ·refine aq.next (ay.seq (bU (bQ (bC Am.fd) ?_)))
   refine gC 1 xo cd ?_;refine bB ?_;refine dA l2 ?_;refine bB ?_;refine l8 (bC Am.fd) ?_;refine iV (λhb=>gz (i:=1) ((aP.id aO).comp xo) (r:=ai.ep) cd (cW I hb) I I I) ?_;refine l8 dj ?_;refine BZ Eg ?_;refine NY (b0 ?_);refine ki h (λh=>?_) λh=>?_
   ·refine bU (cS (b0 (ay.ret (aq.ret ?_))));cases h;exact pF
   refine jx (bU (cS (b0 (ay.ret ?_))));cases h;exact pF
  ·have h:=fY ak cc;refine ay.eQ (cS ?_);refine cS (ad.nil ?_);cases h;exact ef 0 (hm ())
  have h:=fZ ak cc;refine ay.skip ?_;cases h;exact ef 0 (hm ())
 simp only[Sum.elim_inr]at h;refine aq.rL (aq.ret ?_);cases h;exact pF
def afG{ab ai r}(h:Df ab ai=some r):cE prog 175 [J.ptr ab,J.ptr ai] (J.of r):=by
 unfold Df at h;refine cE.of func175 I ntmps175 I λW A=>?_;exact go
theorem ar7:dx prog 413 (⟨.slice none 0 0⟩:eJ):=⟨_,.slice none 0 0,rfl,by kernel_rfl,λ_ _=>yb.2 ⟨rfl,rfl⟩⟩
theorem N1:bS prog 413 eJ:=bS.of (by rfl) underlying413 (by kernel_rfl)
theorem N2:bS prog 415 eJ:=bS.of (by rfl) underlying415 (by kernel_rfl)
theorem acq:dx prog 415 (⟨.nilIface⟩:eJ):=⟨_,.nilIface,rfl,by kernel_rfl,λ_ _=>yb.2 ⟨rfl,rfl⟩⟩
def anc{p:Nat}{key:aA Nat}{cap:Nat}{x:eJ}:bV prog 313 [J.of (0:Int),J.dv p] [aZ p (⟨aH key 1 cap⟩:eJ),⟨key,.row 415 [x] cap⟩] (δ:=Unit) (λ_=>J.of x) (λ_=>[aZ p (⟨aH key 1 cap⟩:eJ),⟨key,.row 415 [x] cap⟩]):=by
 refine bV.of func313 I ntmps313 I λW A=>bU (bg (dq (MB .nilIface)) (fW (bU ?_)));refine bB ?_;refine dA l2 ?_;refine bB ?_;refine iV (λhb=>dj (ag I)) ?_;refine iV (λhb=>gz (aP.id eJ) N1 (ag I) (i:=0) I I I) ?_;refine iV (λhb=>pt (i:=1) (xs:=[x]) underlying413 (Q3 (cW I hb)) I I) ?_;refine iV (λhb=>M4 (cW I hb) (cW I hb)) ?_;refine NY (b0 ?_);refine ay.wq (ag I) (by decide) (ay.skip (aq.next ?_));refine bU (lf 0 N1 ?_);refine bB ?_;refine bg (jV (i:=1) (k:=0) (xs:=[x]) underlying413 N2 (Q3 (ag I)) (ag I) I ⟨by simp,rfl⟩) ?_;refine bg (sm (i:=1) (k:=0) (xs:=[x]) (aP.id eJ) (r:=x) N2 (ag I) I (by simp) I I) ?_;refine cS (b0 (ay.ret ?_));exact qk ()
def ane:bL prog 149:=⟨_,func149,rfl,by kernel_rfl⟩
def ala:bL prog 313:=⟨_,func313,rfl,by kernel_rfl⟩
def anf{b:Bool}{name:String}(hm:((prog.info? 416).bind λi=>(i.methods.find? (λx=>x.name==name)).map λm=>(m.path.size,m.func))=some (0,some (421,false))):mU prog name (J.of (⟨.iface 416 (.bool b)⟩:eJ)) [] [] (λ_:Unit=>J.of b) (λ_=>[]):=by
 refine mU.of (t:=416) (f:=421) (σ:=J.of b) (kZ.vn hm underlying416 I ⟨_,func421,rfl,by kernel_rfl⟩) (λA W u h=>⟨_,(yb.1 h).1,of_bool.2 I⟩) ?_;refine bV.of func421 I ntmps421 I λW A=>bU (bg (dq (h7 _)) (fr ?_));refine bB ?_;refine cS (b0 (ay.ret ?_));exact qk ()
def Wv{ab ai r}(h:Hv ab ai=some r):cE prog 252 [J.of ab,J.of ai] (J.of r):=by
 unfold Hv at h;split at h
 ·rename_i n;cases sI:(n.mv==2)with
  |false=>rw[sI]at h;cases h
  |true=>
  rw[sI]at h;replace h:(uF 1#64).bind (λv=>some (decide (n.cw=v)))=some r:=h;have aqd:n.mv=2:=by simpa using sI
  refine aB h λv ba h=>?_;have aE:decide (n.cw=v)=r:=by simpa using h
  subst aE;refine cE.of func252 I ntmps252 I λW A=>bU (bg (dq (h7 _)) (fr ?_));refine lE ar7 λmG=>fr ?_;refine bg (Iq (f:=313) (τs:=[J.dv mG]) ⟨ag I,trivial⟩) ?_;refine cS (fW (bU ?_));refine bB ?_;refine bQ (su underlying346) ?_;refine bB (b0 (ay.block ?_));refine ay.Ng (σ:=Bool) (ε:=Unit) (γ:=aA Nat×Nat) (δ:=aA Nat×Nat) (N:=2) (b:=λs=>some (bif s then .inr ()else .inl true)) (s0:=false) (e:=()) I
   (λs g=>[(12,J.of (bif s then 1 else 0:Int)),(10,J.of [n]),(11,J.of (([n]:aa pZ).length:Int)),(6,J.kP 313 [J.dv mG]),(5,J.dv mG),(0,J.of [n])])
   (λs g=>bif s then [aZ mG (⟨aH g.1 1 g.2⟩:eJ),⟨g.1,.row 415 [(⟨.iface 416 (.bool (decide (n.cw=v)))⟩:eJ)] g.2⟩]else [aZ mG (⟨.slice none 0 0⟩:eJ)])
   (λ_=>.exit 0) (λ_ g=>[(6,J.kP 313 [J.dv mG]),(0,J.of [n])]) (λ_ g=>[aZ mG (⟨aH g.1 1 g.2⟩:eJ),⟨g.1,.row 415 [(⟨.iface 416 (.bool (decide (n.cw=v)))⟩:eJ)] g.2⟩]) (none,0) I (by repeat (first|exact eZ.nil|refine eZ.same I ?_)) (λs r hs g=>?_) λg=>?_
  ·cases s with
   | false=>
     cases hs
     refine bU (dA l2 (fW ?_))
     refine ay.Is (ag I) (by rfl) ?_
     refine jx (ay.seq (ay.block (bU (qY (j:=0) (xs:=[n]) I underlying346 Ni ?_))))
     refine bQ (iD Ni) ?_
     refine lE ang λatI=>?_
     refine rS 0 Ni (fr ?_)
     refine bQ (bC ajT.fd) ?_
     refine gC 0 V9 cd (b0 (ay.block ?_))
     refine bU (dA nA ?_)
     refine cS (b0 ?_)
     refine ay.wq (ag I) (by show(n.mv==1)=false;rw[aqd];rfl) ?_
     refine bU (dA nA ?_)
     refine cS (b0 ?_)
     refine ay.Is (ag I) sI (ay.mg mixed 7 (rg 44 7) [[],[],[1],[],[2,3],[4],[5]] [_,_,_,_,_,J.of (⟨.iface 416 (.bool (decide (n.cw=v)))⟩:eJ),J.of [(⟨.iface 416 (.bool (decide (n.cw=v)))⟩:eJ)]] ⟨lG 1 (aP.id eJ) N1,H1 (bC ajU.fd),lG 0 VQ h8,tD ane (apT.m _ _ ba) (λ_=>⟨Ab 1#64 I,trivial⟩),ot (aac xW I Zb I),H1 (λan=>MD underlying416 I an λA W u h=>yb.2 ⟨by rw[of_bool.1 h],rfl⟩),(λL' _=>.v (Bc underlying413 N2 acq I I (pv.cons (by simp) (ag I) .nil)) I),trivial⟩ ?_)
     refine ad.own (α:=eJ) 415 (gY 0 underlying413 N2 acq (xs:=[]) (ys:=[_]) (r:=[(⟨.iface 416 (.bool (decide (n.cw=v)))⟩:eJ)]) (bytes:=16) (by rfl) (hs:=Q3 (ag I)) λkey cap=>?_)
     refine rS 2 N1 (hy:=ajV (ag I) ho) (ad.nil ?_)
     refine aq.mW (aq.mW (aq.next (ay.eQ (dA jU ?_))))
     refine bB (ad.nil ?_)
     exact aq.bW 2 I (aq.bW 2 I (aq.Zc (key,cap) 1 I (by repeat (first|exact eZ.nil|refine eZ.same I ?_))))
   | true=>
     cases hs
     refine bU (dA l2 (fW ?_))
     refine ay.wq (ag I) (by rfl) ?_
     exact ay.exit (aq.exit (aq.Zd g 0 I (by simp) I (by repeat (first|exact eZ.nil|refine eZ.same I ?_))))
  refine aq.lz (aq.next (bU (bB ?_)));refine bB ?_;refine bQ (su underlying346) ?_;refine dA sv ?_;refine ad.rb (fa.kP (τs:=[J.of (0:Int)]) 2 ala (ag I) anc I I ⟨ag I,trivial⟩) I I I λ_=>?_;refine ad.SY (anf (by kernel_rfl)) (ag I) I ?_;refine cS (b0 (ay.ret ?_));exact pF
 cases h
def af6{ab ai r}(h:G8 ab ai=some r):cE prog 255 [J.of ab,J.of ai] (J.of r):=by
 unfold G8 at h;refine cE.of func255 I ntmps255 I λW A=>bU (lD λa6=>?_);refine bg (dq (look_nil (α:=iA))) (fr ?_);refine ad.own (α:=iA) 427 (bg (dq lx) ?_);refine aT λal bx h=>?_;refine aB h λar ao h=>eY (γ:=(aA Nat×Nat)) (δ:=(aA Nat×Nat)) ao [0,1,2,4,10,11] (λs1 g1=>[(5,J.eq (aH g1.1 s1.2.length g1.2)),(12,J.of s1.1)]) (λs1 g1=>[(0,⟨g1.1,.row 427 s1.2 g1.2⟩)]) (λaw=>Exit.exit 0) (λaw g1=>[(5,J.eq (aH g1.1 aw.2.2.length g1.2)),(12,J.of aw.1),(13,J.of aw.2.1)]) (λaw g1=>[(0,⟨g1.1,.row 427 aw.2.2 g1.2⟩)]) (none,0) (λs1 r h g1=>?_) λg1=>?_
 ·refine go2 (λaR dg br bz en cm h=>?_) (λh=>?_)
  ·refine aB h λm1 cc h=>iJ (γ:=Unit) [0,1,2,4,5,6,7,8,10,11,12,13,23] (λg2=>[]) (λg2=>[(0,aZ cm m1)]) (λg2=>?_) (λhm ak=>?_) λhm ak=>?_
   ·refine aT ?_;refine aB h λaF cg h=>gY 2 underlying352 Nh Se cg λeV dN=>?_;refine aT ?_;cases h;exact ia (eV,dN) 2
   ·have h:=fY ak cc;exact go
   have h:=fZ ak cc;exact go
  cases h;exact gN (g1.1,g1.2) 0
 refine aT ?_;exact aq.k8 (α:=iA) 0 [4,5,34] ⟨rfl,rfl,rfl,trivial⟩ I go
def aff{hp ab ai r}(h:GJ hp ab ai=some r):jA prog 492 [J.of ab,J.of ai] hp (J.b7 [J.of r.1,J.of r.2]) hp:=by
 unfold GJ at h;refine bV.of func492 I ntmps492 I λW A=>?_;refine aT λa6 br=>?_;refine aB h λal bx h=>aB h λaF cg h=>fI [0,1,2,3] ?_;refine ay.cj 2 (aN 6 [] [] _::aN 7 [0] [1] _::aN 8 [] [0] _::aN 9 [2] [] _::aN 10 [1,3] [] (J.b7 [J.of aF.1,J.of aF.2])::aN 11 [4] [] _::aN 12 [4] [] _::aN 4 [5] [] _::aN 5 [6] [] _::[]) (eR ?_ kn) (λdT=>?_)
 ·intro hd E' L' aJ ax cJ;exact ad.ir (fB.jH 2 (cJ.trans I) Z9 (Wf cg) ⟨ag (aJ _ _ I),ag (aJ _ _ I),trivial⟩) I I I (ad.nil (aq.fin (ez []) I I))
 refine aq.ey (L2:=(aZ br ai::aZ a6 ab::aX hp)) I (hN ?_);exact go
def Xb:Go.Shelf.Ren:=⟨λ|6=>265|15=>277|14=>323|28=>338|29=>339|20=>373|21=>374|22=>375|23=>376|24=>377|25=>378|26=>379|27=>380|46=>423|47=>392|48=>393|49=>424|50=>425|57=>446|n=>n,λ|22=>53|24=>70|25=>359|3=>3|39=>246|0=>0|53=>448|55=>126|4=>4|46=>442|45=>441|50=>378|5=>5|9=>9|66=>508|70=>512|76=>553|77=>297|n=>n,λ|n=>n⟩
def anh:Go.Proofs.SlLaysF0.n6 prog Xb:= {
 mixed:=by kernel_rfl
 f6:=⟨f265.name,by decide,func265.trans (ev some (by kernel_rfl))⟩
 f14:=⟨f323.name,by decide,func323.trans (ev some (by kernel_rfl))⟩
 f15:=func277.trans (ev some (by kernel_rfl))
 f20:=⟨f373.name,by decide,func373.trans (ev some (by kernel_rfl))⟩
 f21:=⟨f374.name,by decide,func374.trans (ev some (by kernel_rfl))⟩
 f22:=⟨f375.name,by decide,func375.trans (ev some (by kernel_rfl))⟩
 f23:=⟨f376.name,by decide,func376.trans (ev some (by kernel_rfl))⟩
 f24:=⟨f377.name,by decide,func377.trans (ev some (by kernel_rfl))⟩
 f25:=⟨f378.name,by decide,func378.trans (ev some (by kernel_rfl))⟩
 f26:=⟨f379.name,by decide,func379.trans (ev some (by kernel_rfl))⟩
 f27:=⟨f380.name,by decide,func380.trans (ev some (by kernel_rfl))⟩
 f28:=func338.trans (ev some (by kernel_rfl))
 f29:=func339.trans (ev some (by kernel_rfl))
 f46:=⟨f423.name,by decide,func423.trans (ev some (by kernel_rfl))⟩
 f47:=func392.trans (ev some (by kernel_rfl))
 f48:=func393.trans (ev some (by kernel_rfl))
 f49:=⟨f424.name,by decide,func424.trans (ev some (by kernel_rfl))⟩
 f50:=⟨f425.name,by decide,func425.trans (ev some (by kernel_rfl))⟩
 f57:=⟨f446.name,by decide,func446.trans (ev some (by kernel_rfl))⟩
 t0:=underlying0
 a0:=isAgg0
 z0:=sizeOf0
 v0:=zeroValue0
 t3:=underlying3
 a3:=isAgg3
 z3:=sizeOf3
 v3:=zeroValue3
 t4:=underlying4
 a4:=isAgg4
 z4:=sizeOf4
 v4:=zeroValue4
 t5:=underlying5
 a5:=isAgg5
 z5:=sizeOf5
 v5:=zeroValue5
 t9:=underlying9
 a9:=isAgg9
 z9:=sizeOf9
 v9:=zeroValue9
 t22:=underlying53
 a22:=isAgg53
 z22:=sizeOf53
 v22:=zeroValue53
 t25:=underlying359
 a25:=isAgg359
 z25:=sizeOf359
 v25:=zeroValue359
 t39:=underlying246
 a39:=isAgg246
 z39:=sizeOf246
 v39:=zeroValue246
 t45:=underlying441
 a45:=isAgg441
 z45:=sizeOf441
 v45:=zeroValue441
 t46:=underlying442
 a46:=isAgg442
 z46:=sizeOf442
 v46:=zeroValue442
 t50:=underlying378
 a50:=isAgg378
 z50:=sizeOf378
 v50:=zeroValue378
 t53:=underlying448
 a53:=isAgg448
 z53:=sizeOf448
 v53:=zeroValue448
 t55:=underlying126
 a55:=isAgg126
 z55:=sizeOf126
 v55:=zeroValue126
 t66:=underlying508
 a66:=isAgg508
 z66:=sizeOf508
 v66:=zeroValue508
 t70:=underlying512
 a70:=isAgg512
 z70:=sizeOf512
 v70:=zeroValue512
 t76:=underlying553
 a76:=isAgg553
 z76:=sizeOf553
 v76:=zeroValue553
 t77:=underlying297
 a77:=isAgg297
 z77:=sizeOf297
 v77:=zeroValue297}
def adQ{xs F K}(h:ah.wA xs F K){key:aA Nat}{cap:Nat}:bV prog 265 [.eq (aH key xs.length cap),.Jh prog F] [⟨key,.row 70 xs cap⟩] (δ:= {r:aa aS // xs.length=r.length∧K r}) (λ_=>.b7 []) (λd=>[⟨key,.row 70 d.1 cap⟩]):=Z8 (ρ:=Xb) anh (λ_=>by kernel_rfl) (λ_=>by kernel_rfl) I h
def adR{ab ai aG r}(h:FD ab ai aG=some r):cE prog 286 [J.of ab,J.of ai,J.tE prog aG] (J.of r):=by
 unfold FD at h;refine cE.of func286 I ntmps286 I λW A=>?_;refine aT ?_;refine aB h λar ao h=>eY (γ:=Unit) (δ:=Unit) ao [0,1,2,11,12] (λs1 g1=>[(6,J.of (0:Int)),(13,J.of s1)]) (λs1 g1=>[]) (λaw=>Sum.elim (λaw=>Exit.exit 0) (λaw=>Exit.ret) aw) (λaw g1=>Sum.elim (λaw=>[(6,J.of (0:Int)),(13,J.of aw.1),(14,J.of aw.2)]) (λaw=>[(6,J.of aw.1),(7,J.of aw.2.1),(13,J.of aw.2.2.1),(14,J.of aw.2.2.2.1),(21,J.of aw.2.2.2.2)]) aw) (λaw g1=>[]) () (λs1 r h g1=>?_) λg1=>?_
 ·refine aT (λaR dg a6 bD dh br h=>?_);refine aB h λal bx h=>bg (HH (ag I) (ag I) (ag I) bx) ?_;exact go
 rcases ar with ar|ar
 ·simp only[Sum.elim_inl]at h;exact go
 simp only[Sum.elim_inr]at h;exact go
def adS{ab ai aG r}(h:FE ab ai aG=some r):cE prog 288 [J.of ab,J.of ai,J.tE prog aG] (J.of r):=by
 unfold FE at h;refine cE.of func288 I ntmps288 I λW A=>?_;refine aT ?_;refine aB h λar ao h=>eY (γ:=Unit) (δ:=Unit) ao [0,1,2,11,12] (λs1 g1=>[(6,J.of (0:Int)),(13,J.of s1)]) (λs1 g1=>[]) (λaw=>Sum.elim (λaw=>Exit.exit 0) (λaw=>Exit.ret) aw) (λaw g1=>Sum.elim (λaw=>[(6,J.of (0:Int)),(13,J.of aw.1),(14,J.of aw.2)]) (λaw=>[(6,J.of aw.1),(7,J.of aw.2.1),(13,J.of aw.2.2.1),(14,J.of aw.2.2.2.1),(21,J.of aw.2.2.2.2)]) aw) (λaw g1=>[]) () (λs1 r h g1=>?_) λg1=>?_
 ·refine aT (λaR dg a6 bD dh br h=>?_);refine aB h λal bx h=>bg (HH (ag I) (ag I) (ag I) bx) ?_;exact go
 rcases ar with ar|ar
 ·simp only[Sum.elim_inl]at h;exact go
 simp only[Sum.elim_inr]at h;exact go
instance:ji prog 342 _ _ Dt J.of J.of:=.i func342 I ntmps342 I λab r h W A=>by
 unfold Dt at h;exact go
def aea{ab r}(h:xn ab=some r):bV prog 282 [J.of ab] [] (δ:=(aA Nat×Nat)) (λd=>J.eq (aH d.1 r.length d.2)) (λd=>[⟨d.1,.row 130 r d.2⟩]):=by
 unfold xn at h;refine bV.of func282 I ntmps282 I λW A=>bU (ad.own (α:=bN) 130 (bg (dq lx) ?_));refine aT ?_;refine bg (M1 underlying45 (ag I)) (b0 ?_);refine ay.M3 (ag I) (λan=>?_) ?_
 ·subst an;replace h:=L5 h;subst h;have h:some ([]:aa bN)=some []:=rfl;refine bU (ad.own (α:=bN) 130 (bg (dq lx) (b0 (ay.ret (aq.ret ?_)))));refine aq.bW 0 I ?_;replace h:=di h;exact qk (none,0)
 refine jx (bU (ad.qd (α:=bN) (r:=([]:aa bN)) underlying45 jt u1 I I (.nil) I λeV=>bB ?_));refine aB h λal bx h=>gY 0 underlying45 jt u1 bx λh9 dN=>?_;refine cS (b0 (ay.ret ?_));refine aq.bW 0 I ?_;cases h;exact qk (h9,dN)
def VX{hp ab ai r}(h:C2 hp ab ai=some r):jA prog 188 [J.of ab,J.of ai] hp (J.of r.1) r.2:=by
 unfold C2 at h;refine bV.of func188 I ntmps188 I λW A=>bU (cS (fr ?_));refine bB ?_;refine bB ?_;refine aB h λal bx h=>ad.ir (fB.jH 0 I Z7 (VW bx) ⟨ag I,ag I,trivial⟩) I I I (cS (fW (bU ?_)));refine bB ?_;refine dA l2 ?_;refine bB ?_;refine l8 dj ?_;refine l8 dj ?_;refine aB h λbO dH h=>iV (λhb=>mr (j4 (cW I hb) (hl dH hb))) ?_;refine l8 (bC DU.fd) ?_;refine aB h λaR dg h=>iV (λhb=>kD (k:=aR) Ei (cW I hb) (cW I hb) (c4 (hl dg hb))) ?_;refine aB h λc1 dF h=>iV (λhb=>pq (((aP.id jo).comp zj).comp (aP.idx (α:=Int) 6 aR (c4 (hl dg hb)).1)) (r:=ck c1.ig aR) cd (cW I hb) (jv (n:=0) I (uR (hl dF hb)) I) I I) ?_;refine BZ nA ?_;refine NY (b0 ?_);refine ki h (λh=>?_) λh=>?_
 ·refine bU (cS (b0 (ay.ret (aq.ret ?_))));cases h;exact aq.eU () (.refl _) I I (dB I)
 refine jx (ay.seq (aB h λcL fg h=>aB h λbD dh h=>aB h λc2 eP h=>aB h λcf hM h=>ay.mg mixed 10 (rg 20 10) [[],[],[0],[2],[1,3],[4],[5],[0],[7],[1,8]] [_,_,_,_,_,_,_,_,_,_] ⟨hc,hc,gn λax=>mr (j4 (ag I) fg),H1 (bC DU.fd),gn λax=>kD (k:=bD) Ei (ag I) (ag I) (c4 dh),gn λax=>pq (((aP.id jo).comp zj).comp (aP.idx (α:=Int) 6 bD (c4 dh).1)) (r:=ck c2.ig bD) cd (ag I) (pD (λi e q=>ax i e q I) (jv (n:=0) I (uR eP) I)) I I,ot sv,gn λax=>mr (j4 (ag I) fg),H1 (bC DU.fd),gn λax=>kD (k:=cf) Ei (ag I) (ag I) (c4 hM),trivial⟩ ?_));refine aB h λbT gw h=>ad.p7 (k':=Cell.sA ({c2 with ig:=eh c2.ig cf (bu ((ck c2.ig bD)-1))}:jo)) 0 I (((aP.id jo).comp zj).comp (aP.idx (α:=Int) 6 cf (c4 hM).1)) (v:=(bu ((ck c2.ig bD)-1):Int)) cd (ag I) (ag I) (uR eP) I I I I (di gw) (fr (cS (b0 (ay.ret ?_))));cases h;exact aq.eU () (.refl _) I I (dB I)
def af7{ab r}(h:G9 ab=some r):bV prog 226 [J.of ab] [] (δ:=(aA Nat×Nat)) (λd=>J.B5 (({r with bs:=[]}:aO):aO) [(1,aH d.1 r.bs.length d.2)]) (λd=>[⟨d.1,.row 130 r.bs d.2⟩]):=by
 unfold G9 at h;refine bV.of func226 I ntmps226 I λW A=>bU (lD λa6=>?_);refine ad.oL (z:=(default:aO)) [1] Rr ts I λbr=>ad.own (α:=bN) 130 (fW (aB h λal bx h=>aB h λaF cg h=>aB h λbz en h=>fI [1,2] ?_));refine ay.yC mixed [2,7,9] [(0,3,J.kY a6 j2),(1,4,J.of ab.bs),(3,6,J.kY a6 nt),(4,7,J.of ab.c3)] ?_;refine fF.md [] [0,1,3,4] [2] ⟨?_,trivial⟩;refine hU.of (ks:=[5,6]) (λx:(aA Nat×Nat)=>[(5,J.eq (aH x.1 al.length x.2))]) (λx=>[(5,8,J.of aF),(6,9,J.kY a6 j2)]) (λx=>[⟨x.1,.row 130 al x.2⟩,⟨none,.row 130 ([]:aa bN) 0⟩,⟨some br,.bX (default:aO) [(1,aH none ([]:aa bN).length 0)]⟩,aZ a6 ab]) (λaw=>?_) (λo a8 dA iv aJ k=>?_)
 ·refine fF.md [1,0] [3,4,5,6] [7] ⟨?_,trivial⟩
  ·refine hU.of (ks:=[8]) (λx:Unit=>[]) (λx=>[(8,10,J.kY a6 nt)]) (λx=>[⟨aw.1,.row 130 al aw.2⟩,⟨none,.row 130 ([]:aa bN) 0⟩,⟨some br,.bX (default:aO) [(1,aH none ([]:aa bN).length 0)]⟩,⟨some a6,.bX ({ab with bs:=[]}:aO) [(1,aH aw.1 al.length aw.2)]⟩]) (λ_=>?_) (λo a8 dA iv aJ k=>?_)
   ·refine fF.md [6,5,4,3,1,0] [8] [9] ⟨?_,trivial⟩
    ·refine hU.of (ks:=[]) (λx:Unit=>[]) (λx=>[]) (λx=>[⟨aw.1,.row 130 al aw.2⟩,⟨none,.row 130 ([]:aa bN) 0⟩,⟨some br,.bX (default:aO) [(1,aH none ([]:aa bN).length 0)]⟩,⟨some a6,.bX bz [(1,aH aw.1 al.length aw.2)]⟩]) (λ_=>?_) (λo a8 dA iv aJ k=>?_)
     ·refine fF.ar8 [8,6,5,4,3,1,0] [] ?_;refine aq.ey (L2:=[⟨aw.1,.row 130 al aw.2⟩,⟨none,.row 130 ([]:aa bN) 0⟩,⟨some br,.bX (default:aO) [(1,aH none ([]:aa bN).length 0)]⟩,⟨some a6,.bX bz [(1,aH aw.1 al.length aw.2)]⟩]) I (ar9 [1,2] (aq.next (bU ?_)));refine ad.Jd (γ:=bN) (b':=({bz with bs:=[]}:aO)) ((aP.id aO).comp j2) 3 0 I I I (bg (ajW (i:=3) il I (ag I) I) ?_);refine ad.rE (i:=2) il (ag I) (ag I) I (b0 (ay.ret (aq.bW 0 I ?_)));cases h;exact aq.eU (aw.1,aw.2) (.cons_cons _ (rq _)) I I (alb (i:=2) il I I I)
     cases a8;refine ad.p5 (i:=3) ((aP.id aO).comp nt) (v:=aF) (b':=bz) oT (ag (aJ I)) (ag (aJ I)) I I (di en) (by rfl) ?_;exact ad.nil (k ())
   cases a8;refine ad.Tl 3 I (ad.ik (i:=3) (γ:=bN) (b':=({ab with bs:=[]}:aO)) (os':=[(1,aH aw.1 al.length aw.2)]) ((aP.id aO).comp j2) gA (ag (aJ I)) (ag (aJ I)) ho I I I I (ad.nil ?_))
   exact k ()
 cases a8;refine ad.nz (Lin:=[]) (Lr:=[⟨none,.row 130 ([]:aa bN) 0⟩,⟨some br,.bX (default:aO) [(1,aH none ([]:aa bN).length 0)]⟩,aZ a6 ab]) ani (aea bx) ⟨ag (aJ I),trivial⟩ I λaw=>ad.nil ?_;exact k aw
def adN{ab ai aG hY ew r}(h:KD ab ai aG=some r):bV prog 284 [J.eq (aH hY ab.length ew),J.of ai,J.tE prog aG] [⟨hY,.row 253 ab ew⟩] (δ:=Unit) (λd=>J.b7 []) (λd=>[⟨hY,.row 253 r ew⟩]):=by
 unfold KD at h;refine bV.of func284 I ntmps284 I λW A=>?_;refine aT ?_;refine aB h λar ao h=>eY (γ:=Unit) (δ:=Unit) ao [0,1,2,6,7,8] (λs1 g1=>[]) (λs1 g1=>[]) (λaw=>Exit.exit 0) (λaw g1=>[(13,J.of aw)]) (λaw g1=>[]) () (λs1 r h g1=>?_) λg1=>?_
 ·refine aT (λh=>?_);cases h
 refine aT ?_;refine ad.bW 0 I (aB h λal bx h=>e2 1 anj (adK (Q4 bx)) λb9=>?_);refine ad.hv (m:=al.length) 0 I ((xL bx).symm) (ad.hv (m:=al.length) 23 I ((xL bx).symm) (b0 (ay.block (aB h λaK ao h=>eY (γ:=Unit) (δ:=Unit) ao [0,1,2,6,7,8,13] (λs2 g2=>[]) (λs2 g2=>[]) (λdM=>Exit.exit 2) (λdM g2=>[(30,J.of dM)]) (λdM g2=>[]) () (λs2 r h g2=>?_) λg2=>?_))))
 ·refine aT (λh=>?_);cases h
 exact aq.lz (aq.kG go)
def aeb{ab ai cK iZ ja r}(h:FT ab ai=some r):bV prog 531 [J.dv cK,J.of ai] [⟨some cK,.bX ({ab with dw:=[]}:eF) [(10,aH iZ ab.dw.length ja)]⟩,⟨iZ,.row 70 ab.dw ja⟩] (δ:=(aA Nat×Nat)) (λd=>J.of r.1) (λd=>[⟨some cK,.bX ({r.2 with dw:=[]}:eF) [(10,aH d.1 r.2.dw.length d.2)]⟩,⟨d.1,.row 70 r.2.dw d.2⟩]):=by
 unfold FT at h;refine bV.of func531 I ntmps531 I λW A=>?_;refine aT ?_;refine aB h λal bx h=>ad.ir (fB.call [0,1] aad (aeh bx) ⟨ag I,ag I,trivial⟩ I ⟨rfl,rfl,trivial⟩ I) I I I ?_;refine go2 (λh=>?_) (λh=>?_)
 ·refine aq.bW 1 I (aq.bW 1 I ?_);cases h;exact qk (iZ,ja)
 refine bg (dn (i:=0) (q:=0) (β:=eF) (γ:=aS) yj (ag I) I I) ?_;refine aT ?_;refine ad.bW 1 I (aB h λaF cg h=>e2 1 ank (adP cg) λaw=>?_);refine aT ?_;refine ad.ik (i:=1) (γ:=aS) (b':=({ab with dw:=[]}:eF)) (os':=[(10,aH aw.1 aF.length aw.2)]) ((aP.id eF).comp C3) yj (ag I) (ag I) ho I I I I ?_;refine aT ?_;refine aq.bW 0 I (aq.bW 1 I ?_);cases h;exact qk (aw.1,aw.2)
instance:eI prog 322 _ _ _ Ha J.of J.of J.of:=.i func322 I ntmps322 I λab ai r h W A=>by
 unfold Ha at h;refine aT λa6 br=>?_;refine bg (dq (look_nil (α:=cN))) (fr ?_);refine ad.own (α:=cN) 161 (bg (dq lx) ?_);refine aT ?_;refine aB h λar ao h=>eY (γ:=(aA Nat×Nat)) (δ:=(aA Nat×Nat)) ao [0,1,2,3,4,10,11] (λs1 g1=>[(5,J.eq (aH g1.1 s1.2.length g1.2)),(12,J.of s1.1)]) (λs1 g1=>[(0,⟨g1.1,.row 161 s1.2 g1.2⟩)]) (λaw=>Exit.exit 0) (λaw g1=>[(5,J.eq (aH g1.1 aw.2.2.length g1.2)),(12,J.of aw.1),(13,J.of aw.2.1)]) (λaw g1=>[(0,⟨g1.1,.row 161 aw.2.2 g1.2⟩)]) (none,0) (λs1 r h g1=>?_) λg1=>?_
 ·refine go2 (λaR dg cm h=>?_) (λh=>?_)
  ·refine aB h λal bx h=>aB h λbz en h=>ay.qT 1 (fI [0,1,2,3,4,5,7,10,11,12,13,14,15] ?_);refine ay.Cy 5 (aN 16 [] [] _::aN 17 [0] [0] _::aN 18 [] [] _::aN 19 [2] [0] _::aN 20 [] [2] _::aN 21 [] [] _::aN 22 [5] [0] _::aN 23 [4,6] [] _::aN 24 [1,3,7] [] _::tF 8 [] 4 9 _::iu [8,9] [4] [4] (λhd=>aZ ((hd 9 0).getD 0) bz)::[]) (λdT=>?_);refine aq.ey (L2:=[aZ cm (av ab.cV aR:cY),⟨g1.1,.row 161 s1.2 g1.2⟩,aZ br ai,aZ a6 ab,aZ ((dT 9 0).getD 0) bz]) I (hN ?_);refine aq.bW 4 I (aT ?_);refine aB h λaF cg h=>iV (λhb=>bj.asa 31 I hb (bj.abA (α:=cN) 2 31 I I HD (iE anl (adW (hl cg hb)) ⟨ag I,cW I hb,trivial⟩))) ?_;refine aT ?_;refine aB h λm1 cc h=>iJ (γ:=(aA Nat×Nat)) [0,1,2,3,4,7,8,10,11,12,13,35] (λg2=>[(5,J.eq (aH g2.1 m1.length g2.2))]) (λg2=>[(2,⟨g2.1,.row 161 m1 g2.2⟩)]) (λg2=>?_) (λhm ak=>?_) λhm ak=>?_
   ·refine aT ?_;cases h;exact ia (g2.1,g2.2) 2
   ·have h:=fY ak cc;refine aT ?_;refine aB h λbm eD h=>gY 2 underlying124 Ek Nf eD λeV dN=>?_;refine cS (ad.nil ?_);cases h;exact ef 0 (hm (eV,dN))
   have h:=fZ ak cc;refine ay.skip ?_;cases h;exact ef 0 (hm (g1.1,g1.2))
  cases h;exact gN (g1.1,g1.2) 0
 refine aT ?_;exact aq.k8 (α:=cN) 0 [4,5,41] ⟨rfl,rfl,rfl,trivial⟩ I go
def aeI{ab ai r}(h:Gh ab ai=some r):cE prog 217 [J.of ab,J.of ai] (J.of r):=by
 unfold Gh at h;refine cE.of func217 I ntmps217 I λW A=>?_;refine aT λa6 br=>?_;refine aB h λal bx h=>aB h λaF cg h=>aB h λbm eD h=>aB h λbG ft h=>ay.fi 23 ?_;exact go
def aeX{ab ai r}(h:Gs ab ai=some r):cE prog 287 [J.of ab,J.of ai] (J.of r):=by
 unfold Gs at h;refine cE.of func287 I ntmps287 I λW A=>?_;refine aT (λa6 br h=>?_);refine aB h λal bx h=>aB h λaF cg h=>aB h λbm eD h=>aB h λbG ft h=>aB h λbR gO h=>aB h λb8 ib h=>aB h λde lF h=>aB h λeu qW h=>ay.fi 27 ?_;exact go
def adM{ab ai hY ew r}(h:KC ab ai=some r):bV prog 228 [J.eq (aH hY ab.length ew),J.tE prog ai] [⟨hY,.row 253 ab ew⟩] (δ:=Unit) (λd=>J.b7 []) (λd=>[⟨hY,.row 253 r ew⟩]):=by
 unfold KC at h;refine bV.of func228 I ntmps228 I λW A=>?_;refine aT ?_;refine bg (pt (i:=0) underlying252 (ag I) I I) ?_;refine bB ?_;refine ad.bW 0 I (aB h λal bx h=>e2 1 anm (adN (Q4 bx)) λaw=>?_);exact ad.hv (m:=al.length) 0 I ((xL bx).symm) (ad.hv (m:=al.length) 4 I ((xL bx).symm) (ad.hv (m:=al.length) 5 I ((xL bx).symm) (ad.nil (aq.kG go))))
instance:eI prog 123 _ _ _ Hn J.of J.of J.of:=.i func123 I ntmps123 I λab ai r h W A=>by
 unfold Hn at h;exact go
instance:eI prog 125 _ _ _ Hj J.of J.of J.of:=.i func125 I ntmps125 I λab ai r h W A=>by
 unfold Hj at h;refine aT ?_;refine aB h λar ao h=>eY (γ:=Unit) (δ:=Unit) ao [0,1] (λs1 g1=>[(4,J.of (0:Int)),(5,J.of s1)]) (λs1 g1=>[]) (λaw=>Sum.elim (λaw=>Exit.exit 0) (λaw=>Exit.ret) aw) (λaw g1=>Sum.elim (λaw=>[(4,J.of (0:Int)),(5,J.of aw.1),(16,J.of aw.2)]) (λaw=>[(4,J.of aw.1),(5,J.of aw.2.1),(6,J.of aw.2.2.1),(16,J.of aw.2.2.2.1),(29,J.of aw.2.2.2.2)]) aw) (λaw g1=>[]) () (λs1 r h g1=>?_) λg1=>?_
 ·refine aT (λh=>?_);refine aB h λaR dg h=>aB h λbD dh h=>aB h λal bx h=>ay.fi 9 ?_;exact go
 rcases ar with ar|ar
 ·simp only[Sum.elim_inl]at h;exact go
 simp only[Sum.elim_inr]at h;exact go
def af8{hp ab r}(h:LF hp ab=some r):jA prog 517 [J.of ab] hp (J.of r) hp:=by
 unfold LF at h;refine bV.of func517 I ntmps517 I λW A=>bU (bg (dq (look_nil (α:=fe))) (fr ?_));refine ad.oL (z:=(default:aa fe)) [0] ajX ann I λa6=>ad.own (α:=fe) 619 (aT ?_);refine bg (aae (f:=520) (us:=[.pointer (some ⟨a6,0,none⟩)]) ⟨ag I,trivial⟩) ?_;refine ad.Jd (γ:=fe) (b':=([]:aa fe)) (aP.id (aa fe)) 1 0 I I I (ad.bW 0 I (ad.bW 1 I (aB h λal bx h=>ad.rb (fa.dX 2 2 I ano (ad4 (key02_0:=none) (cap02_0:=0) bx) I I ⟨ag I,ag I,trivial⟩) I I I λaw=>ad.dC (fr ?_))));refine bg (dn (i:=0) (q:=0) (β:=aa fe) (γ:=fe) R8 (ag I) I I) ?_;refine cS (b0 (ay.ret ?_));exact aq.Nj (β:=aa fe) (γ:=fe) (b':=al) (aP.id (aa fe)) 0 1 0 2 I I I I I I I (aq.n3 0 I go)
def aeJ{hp ab ai Q}(h:Gi hp ab ai Q):B6 prog 526 [J.of ab,J.of ai] hp Q:=by
 unfold Gi at h;refine bV.of func526 I ntmps526 I λW A=>?_;refine aT λa6 br=>?_;refine ah.bI h λbO dH h=>ah.bI h λc1 dF h=>ah.bI h λal bx h=>ad.rb (fa.obj 2 (λq:aA Nat×Nat=>Cell.u9 al.2 q.1 q.2) I (A5 dF) anp (aeb bx) I (λ_=>rfl) ⟨j4 (ag I) dH,ag I,trivial⟩) I I I λaw=>?_;replace h:=ah.any_bind h aw;refine ah.bI h λbT gw h=>ad.ey (L2:=(aZ br ai::aZ a6 ab::aX bT)) (by rw[<-di gw];rfl) ?_;exact ad.nil (aq.kG (aq.mX (⟨⟨bT,h⟩,()⟩: {r // _}×_) (eK 2) I I))
def Wa{hp ab ai aG r}(h:C7 hp ab ai aG=some r):jA prog 262 [J.of ab,J.of ai,J.of aG] hp (J.b7 []) r:=by
 unfold C7 at h;refine bV.of func262 I ntmps262 I λW A=>?_;refine aT (λa6 h=>?_);refine aB h λbO dH h=>aB h λc1 dF h=>aB h λal bx h=>ay.fi 8 (b0 (ay.block ?_));refine aB h λar ao h=>vk (σ:=Int×(aL Cell)) (ε:=(Int×Bool×(aL Cell))) (γ:=Unit) (δ:=Unit) ao 1 [0,1,2,4,11,17,18] (λs1 g1=>[(19,J.of s1.1)]) (λs1 g1=>[]) (λs1 g1=>aX s1.2) (λaw=>Exit.exit 0) (λaw g1=>[(19,J.of aw.1),(20,J.of aw.2.1)]) (λaw g1=>[]) (λaw g1=>aX aw.2.2) () (λs1 r h g1=>?_) (λg1=>?_)
 ·refine aT (λaR dg br h=>?_);refine aB h λaF cg h=>ad.dX 2 0 I aaf (V8 cg) I I ⟨ag I,ag I,ag I,dd 0,trivial⟩ I λb9=>ad.dC ?_;exact go
 refine aq.lz (aq.next (ay.seq (aB h λc2 eP h=>aB h λbm eD h=>ay.fi 8 (b0 (ay.block ?_)))));refine aB h λaK ao h=>vk (σ:=Int×(aL Cell)) (ε:=(Int×Bool×(aL Cell))) (γ:=Unit) (δ:=Unit) ao 1 [0,1,2,4,11,17,18,19,20,33,34] (λs2 g2=>[(35,J.of s2.1)]) (λs2 g2=>[]) (λs2 g2=>aX s2.2) (λdM=>Exit.exit 2) (λdM g2=>[(35,J.of dM.1),(36,J.of dM.2.1)]) (λdM g2=>[]) (λdM g2=>aX dM.2.2) () (λs2 r h g2=>?_) (λg2=>?_)
 ·refine aT (λbD dh cm h=>?_);refine aB h λbG ft h=>ad.dX 2 0 I aaf (V8 ft) I I ⟨ag I,ag I,dd 0,ag I,trivial⟩ I λh4=>ad.dC ?_;exact go
 exact aq.lz (aq.kG go)
def afW{hp ab Q}(h:GW hp ab Q):lM prog 131 [J.of ab] hp Q:=by
 unfold GW at h;refine bV.of func131 I ntmps131 I λW A=>bU (bg (dq (look_nil (α:=iM))) (fW (bU ?_)));refine bB ?_;refine bg (HK underlying144 (ag I)) (b0 ?_);refine yF h (λh=>?_) λh=>?_
 ·refine bU (bg (dq (look_nil (α:=iM))) (b0 (ay.ret (aq.ret ?_))));exact aq.eU (⟨⟨(([]:aa iM),hp),h⟩,()⟩: {r // _}×_) (.refl _) I I (dB I)
 refine jx (bU (ad.own (α:=iM) 163 (bg (dq lx) ?_)));refine aT λbO dH c1 dF h=>?_;refine ah.bI h λcL fg h=>ah.bI h λc2 eP h=>ad.Ze (α:=cN) (β:=kx) (kv:=c2) 1 I underlying236 (k6 (ag I) fg) (uU eP) I I λa6 m1 gG bT=>b0 (ay.block (B2 (σ:=(aa Nat)×(aa iM)) (ε:=(Bool×(aa Nat)×(aa iM))) (γ:=(aA Nat×Nat)) (δ:=(aA Nat×Nat)) h 2 [0,2,7,12] (λs1 g1=>[(3,J.eq (aH g1.1 s1.2.length g1.2))]) (λs1 g1=>[(0,⟨some a6,.is (nH cL m1 gG s1.1)⟩),(1,⟨g1.1,.row 163 s1.2 g1.2⟩)]) (λs1 g1=>pH cL (.map m1 gG) (aX hp)) (λaw=>Exit.exit 0) (λaw g1=>[(3,J.eq (aH g1.1 aw.2.2.length g1.2)),(14,J.of aw.1)]) (λaw g1=>[(0,⟨some a6,.is (nH cL m1 gG aw.2.1)⟩),(1,⟨g1.1,.row 163 aw.2.2 g1.2⟩)]) (λaw g1=>pH cL (.map m1 gG) (aX hp)) (none,0) (λs1 R h g1=>?_) (λar h g1=>?_)))
 ·refine bU (ad.aag (kv:=c2) 0 (ag I) I (MF 2 I (uU eP) I) bT I λpM yG=>?_);replace h:=ah.Xc h pM yG;refine bg (Zf (ag I)) ?_;refine go2 (λh=>?_) (λh=>?_)
  ·refine ah.bI h λaR dg h=>bg (XM (kv:=c2) (vis:=s1.1) 0 (ag I) I (MF 2 I (uU eP) I) bT yG dg) ?_;refine aT λbr cm bz en h=>?_;refine ah.bI h λal bx h=>gY 3 underlying156 aah anq bx λeV dN=>?_;refine cS (ad.nil ?_);exact aq.mW (aq.xU h (eV,dN) 2 I .all)
  exact aq.uQ h (g1.1,g1.2) 0 I (by simp) I .all
 refine aT ?_;refine ad.bW 1 I (ad.rb (fa.nz 1 anr (adV h) I I ⟨ag I,XN ans (λ_ _ _ h=>aeI h),trivial⟩) I I I λ⟨aF,abB,h⟩=>?_);refine ad.dC ?_;refine ad.hv (m:=aF.length) 3 I abB (ad.hv (m:=aF.length) 27 I abB (aT ?_));exact aq.Nk 2 I (aq.k8 (α:=iM) 0 [2,3,27,29] ⟨rfl,rfl,rfl,rfl,trivial⟩ I (aq.eU (⟨⟨(aF,hp),h⟩,()⟩: {r // _}×_) (eK 2) I I (dB I)))
def Wj{ab ai aG r}(h:uA ab ai aG=some r):cE prog 88 [J.of ab,J.of ai,J.of aG] (J.of r):=by
 unfold uA at h;refine cE.of func88 I ntmps88 I λW A=>?_;exact go
instance:o4 prog 88 _ _ _ _ uA J.of J.of J.of J.of:=
 ⟨⟨_,func88,rfl,by kernel_rfl⟩,λ_ _ _ _ h=>Wj h⟩
instance:eI prog 229 _ _ _ Du J.of J.of J.of:=.i func229 I ntmps229 I λab ai r h W A=>by
 unfold Du at h;refine aT λa6 br=>?_;refine aB h λal bx h=>aB h λaF cg h=>aB h λbm eD h=>aB h λbG ft h=>aB h λbR gO h=>aB h λb8 ib h=>ay.mg mixed 27 (rg 5 27) [[],[0],[],[2],[1,3],[],[5],[],[7],[6,8],[],[10],[],[12],[11,13],[],[15],[],[17],[16,18],[],[20],[],[22],[21,23],[4,9,14,19,24],[25]] [_,_,_,_,_,_,_,_,_,_,_,_,_,_,_,_,_,_,_,_,_,_,_,_,_,_,_] ⟨H1 (bC DZ.fd),lG 1 xt cd,H1 (bC DZ.fd),lG 0 xt cd,tD Es.cj (Es.m _ _ _ bx),H1 (bC Am.fd),lG 0 xo cd,H1 (bC Am.fd),lG 1 xo cd,tD Es.cj (Es.m _ _ _ cg),H1 (bC hF.fd),lG 1 j2 gA,H1 (bC hF.fd),lG 0 j2 gA,gn λax=>iE ant (adR eD) ⟨ag I,ag I,QI anu (λ_ _ _=>aeX),trivial⟩,H1 (bC oM.fd),lG 1 nV cd,H1 (bC oM.fd),lG 0 nV cd,tD Es.cj (Es.m _ _ _ ft),H1 (bC p6.fd),lG 1 nt oT,H1 (bC p6.fd),lG 0 nt oT,gn λax=>iE anv (adS gO) ⟨ag I,ag I,QI anw (λ_ _ _=>Wm),trivial⟩,gn λax=>Bc (r:=[al,aF,bm,bG,bR]) underlying59 cd rQ I I (.cons (by simp) (ag I) (.cons (by simp) (ag I) (.cons (by simp) (ag I) (.cons (by simp) (ag I) (.cons (by simp) (ag I) (.nil)))))),tD abu.cj (abu.m _ _ ib),trivial⟩ ?_;exact go
instance:o4 prog 141 _ _ _ _ vV J.of J.of J.of J.of:=.i func141 I ntmps141 I λab ai aG r h W A=>by
 unfold vV at h;refine aT λa6 br cm al bx dV h=>?_;refine aB h λaF cg h=>e2 0 anx (af7 cg) λaw=>?_;refine ad.oL (z:=(default:aO)) [1] Rr ts I λmG=>ad.own (α:=bN) 130 (ad.rE (i:=1) il (ag I) (ag I) I ?_);refine aT ?_;refine bg (dn (i:=1) (q:=0) (β:=aO) (γ:=bN) gA (ag I) I I) ?_;refine bg (pt (i:=2) underlying45 (ag I) I I) ?_;refine bB (b0 (ay.block ?_));refine aB h λar ao h=>eY (γ:=(aA Nat×Nat)) (δ:=(aA Nat×Nat)) ao [0,1,2,3,5,6,7,9,23] (λs1 g1=>[(24,J.of s1.1)]) (λs1 g1=>[(1,⟨some mG,.bX ({aF with bs:=[]}:aO) [(1,aH g1.1 s1.2.length g1.2)]⟩),(2,⟨g1.1,.row 130 s1.2 g1.2⟩)]) (λb9=>Exit.exit 0) (λb9 g1=>[(24,J.of b9.1),(25,J.of b9.2.1)]) (λb9 g1=>[(1,⟨some mG,.bX ({aF with bs:=[]}:aO) [(1,aH g1.1 b9.2.2.length g1.2)]⟩),(2,⟨g1.1,.row 130 b9.2.2 g1.2⟩)]) (aw.1,aw.2) (λs1 r h g1=>?_) λg1=>?_
 ·refine go2 (λbm eD h=>?_) (λh=>?_)
  ·refine aB h λm1 cc h=>iJ (γ:=(aA Nat×Nat)) [0,1,2,3,5,6,7,9,10,23,24,25,30] (λg2=>[]) (λg2=>[(1,⟨some mG,.bX ({aF with bs:=[]}:aO) [(1,aH g2.1 m1.length g2.2)]⟩),(2,⟨g2.1,.row 130 m1 g2.2⟩)]) (λg2=>?_) (λhm ak=>?_) λhm ak=>?_
   ·refine aT ?_;cases h;exact ia (g2.1,g2.2) 0
   ·have h:=fY ak cc;refine ay.eQ (bQ (bC hF.fd) ?_);refine bg (dn (i:=1) (q:=0) (β:=aO) (γ:=bN) gA (ag I) I I) ?_;refine aT ?_;refine aB h λaR dg h=>bg (jV (i:=2) (k:=aR) (xs:=(s1.2:aa bN)) underlying45 jt (ag I) (ag I) I (c4 dg)) ?_;refine ad.oN (i:=2) (k:=aR) (aP.id bN) (v:=(default:bN)) (r:=(dr s1.2 aR (default:bN):aa bN)) jt (ag I) (ag I) I (c4 dg).1 I I (ad.hv (m:=(dr s1.2 aR (default:bN)).length) 32 I (hW I) (ad.uP (m:=(dr s1.2 aR (default:bN)).length) 1 0 I I (hW I) (ad.nil ?_)));cases h;exact ef 0 (hm (g1.1,g1.2))
   have h:=fZ ak cc;refine ay.skip ?_;cases h;exact ef 0 (hm (g1.1,g1.2))
  cases h;exact gN (g1.1,g1.2) 0
 refine aT λbG ft h=>?_;refine aB h λm2 dG h=>iJ (γ:=Unit) [0,1,2,3,5,6,7,9,23,24,25,42] (λg3=>[]) (λg3=>[(1,⟨some mG,.bX m2 [(1,aH g1.1 ar.2.2.length g1.2)]⟩)]) (λg3=>?_) (λhm ak=>?_) λhm ak=>?_
 ·exact aq.next (bU (ad.kF (β:=aO) (γ:=bN) (b':=({m2 with bs:=ar.2.2}:aO)) ((aP.id aO).comp j2) 1 2 0 I I I I I I (ad.n3 1 I go)))
 ·have h:=fY ak dG;refine ay.eQ (bQ (bC oM.fd) ?_);refine aB h λbz en h=>ad.p5 (i:=1) ((aP.id aO).comp nV) (v:=(0:Int)) (b':=bz) cd (ag I) (dd 0) I I (di en) (by rfl) ?_;refine bQ (bC p6.fd) ?_;refine ad.p5 (i:=1) ((aP.id aO).comp nt) (v:=([]:aa aV)) (b':=({bz with c3:=([]:aa aV)}:aO)) oT (ag I) look_nil I I I (by rfl) ?_;exact go
 have h:=fZ ak dG;exact go
def aei{ab ai r}(h:F2 ab ai=some r):cE prog 142 [J.of ab,J.tE prog ai] (J.of r):=by
 unfold F2 at h;refine cE.of func142 I ntmps142 I λW A=>bU (bg (dq (look_nil (α:=aO))) (fr ?_));refine bB ?_;refine aB h λal bx h=>e2 0 anz (ad8 bx) λaw=>?_;refine cS (fr ?_);refine bB ?_;refine bB ?_;refine ad.bW 0 I (aB h λaF cg h=>e2 1 anA (adM (Q4 cg)) λb9=>?_);refine ad.hv (m:=aF.length) 5 I ((xL cg).symm) (ad.hv (m:=aF.length) 7 I ((xL cg).symm) (ad.hv (m:=aF.length) 8 I ((xL cg).symm) (fr (bB ?_))));refine cS (b0 (ay.ret ?_));refine aq.k8 (α:=aO) 0 [4,5,7,8,11] ⟨rfl,rfl,rfl,rfl,rfl,trivial⟩ I ?_;cases h;exact pF
instance:eI prog 70 _ _ _ Hb J.of J.of J.of:=.i func70 I ntmps70 I λab ai r h W A=>by
 unfold Hb at h;refine aT ?_;refine aB h λar ao h=>eY (γ:=Unit) (δ:=Unit) ao [0,1] (λs1 g1=>[(4,J.of (0:Int)),(5,J.of s1)]) (λs1 g1=>[]) (λaw=>Sum.elim (λaw=>Exit.exit 0) (λaw=>Exit.ret) aw) (λaw g1=>Sum.elim (λaw=>[(4,J.of (0:Int)),(5,J.of aw.1),(16,J.of aw.2)]) (λaw=>[(4,J.of aw.1),(5,J.of aw.2.1),(6,J.of aw.2.2.1),(16,J.of aw.2.2.2.1),(29,J.of aw.2.2.2.2)]) aw) (λaw g1=>[]) () (λs1 r h g1=>?_) λg1=>?_
 ·refine aT (λh=>?_);refine aB h λaR dg h=>aB h λbD dh h=>aB h λal bx h=>ay.fi 9 ?_;exact go
 rcases ar with ar|ar
 ·simp only[Sum.elim_inl]at h;exact go
 simp only[Sum.elim_inr]at h;exact go
instance:eI prog 178 _ _ _ Ho J.of J.of J.of:=.i func178 I ntmps178 I λab ai r h W A=>by
 unfold Ho at h;refine bU (lD λa6=>?_);refine lD λbr=>?_;refine cS (fr ?_);refine lf 1 ju ?_;refine bQ (bC DZ.fd) ?_;refine gC 0 xt cd ?_;refine aB h λal bx h=>nG abC (P4 bx) ?_;refine cS (fW (bU ?_));refine bB ?_;refine dA l2 (b0 ?_);refine ki h (λh=>?_) λh=>?_
 ·refine bU (cS (b0 (ay.ret (aq.ret ?_))));cases h;exact pF
 refine jx (ay.seq (aB h λaR dg h=>aB h λbD dh h=>aB h λaF cg h=>aB h λbm eD h=>fI [0,1,2,3,4,5,8,9,10,11,12,13] ?_));refine ay.y2 mixed (aN 15 [] [] _::aN 16 [0] [1] _::aN 17 [] [] _::aN 18 [1,2] [] _::aN 19 [3] [] _::aN 20 [4] [] _::aN 21 [] [] _::aN 22 [6] [1] _::aN 23 [] [] _::aN 24 [7,8] [] _::aN 25 [9] [] _::aN 26 [10] [] _::aN 27 [5,11] [] _::aN 14 [12] [] _::aN 28 [13] [] _::aN 29 [13] [] _::aN 6 [14] [] _::aN 7 [15] [] _::[]) ⟨j0 (bC hr.fd),vf 1 qF gv,mH,gF λaJ ax=>pz (k:=aR) underlying27 jJ (ag (aJ _ _ I)) (ag (aJ _ _ I)) (c4 dg),gF λaJ ax=>Ej vF xS.fd (ag (aJ _ _ I)) I I,j0 (iD kO),j0 (bC hr.fd),vf 1 qF gv,mH,gF λaJ ax=>pz (k:=bD) underlying27 jJ (ag (aJ _ _ I)) (ag (aJ _ _ I)) (c4 dh),j0 (iD jJ),gF λaJ ax=>iE abg.cj (abg.m _ _ cg) ⟨ag (aJ _ _ I),trivial⟩,gF λaJ ax=>iE Nu.cj (Nu.m _ _ _ eD) ⟨ag (aJ _ _ I),ag (aJ _ _ I),trivial⟩,mH,gF λaJ ax=>El (ag (aJ _ _ I)) I,gF λaJ ax=>El (ag (aJ _ _ I)) I,gF λaJ ax=>dq (ag (aJ _ _ I)),gF λaJ ax=>dq (ag (aJ _ _ I)),trivial⟩ λdT=>?_;refine aq.ey (L2:=[aZ br ai,aZ a6 ab]) I (hN (aq.next (ay.seq (ay.seq ?_))));refine aB h λcf hM h=>aB h λbG ft h=>aB h λbR gO h=>ay.mg mixed 15 (rg 30 15) [[],[0],[1],[2],[2],[2],[2,5],[2],[2,6,7],[2,8],[2],[2,4,9,10],[2,3,11],[2,12],[2,13]] [_,_,_,_,_,_,_,_,_,_,_,_,_,_,_] ⟨hc,ot ya,hc,eE λL' ax=>λhb=>dj (ag I),eE λL' ax=>λhb=>gz (i:=1) (aP.id aD) (r:=ab) ju (ag I) (ax _ _ I I) I I,eE λL' ax=>λhb=>bC hr.fd (ag I),eE λL' ax=>λhb=>gz (i:=1) ((aP.id aD).comp qF) (r:=ab.bh) gv (cW I hb) (ax _ _ I I) I I,eE λL' ax=>λhb=>dj (ag I),eE λL' ax=>λhb=>pz (k:=cf) underlying27 jJ (cW I hb) (cW I hb) (c4 (hl hM hb)),eE λL' ax=>λhb=>iD jJ (cW I hb),eE λL' ax=>λhb=>gz (i:=0) (aP.id aO) (r:=ai) il (ag I) (ax _ _ I I) I I,eE λL' ax=>λhb=>iE anB (agT (hl ft hb)) ⟨cW I hb,cW I hb,cW I hb,trivial⟩,eE λL' ax=>λhb=>iE aai (Wv (hl gO hb)) ⟨cW I hb,cW I hb,trivial⟩,eE λL' ax=>λhb=>pA (cW I hb),gn λax=>BK (ag I) (ag I) (λh=>h),trivial⟩ (b0 ?_);refine ki h (λh=>?_) λh=>?_
 ·refine bU (cS (b0 (ay.ret (aq.ret ?_))));cases h;exact pF
 refine jx (ay.seq (bU (bQ (bC oM.fd) ?_)));refine gC 0 nV cd ?_;refine dA nA (b0 ?_);refine ki h (λh=>?_) λh=>?_
 ·refine bU (cS (b0 (ay.ret (aq.ret ?_))));cases h;exact pF
 refine jx (bU (lf 1 ju ?_));refine bQ (bC oM.fd) ?_;refine gC 0 nV cd ?_;refine aB h λb8 ib h=>nG abf.cj (abf.m _ _ _ ib) ?_;refine cS (fW (bU ?_));refine bB ?_;refine dA l2 (b0 ?_);refine ki h (λh=>?_) λh=>?_
 ·refine bU (cS (b0 (ay.ret (aq.ret ?_))));cases h;exact pF
 refine jx (ay.seq (aB h λc0 iq h=>aB h λfR ve h=>aB h λde lF h=>aB h λeu qW h=>fI [0,1,2,3,4,5,8,9,10,11,12,13,14,15,16,17,18,19,20,21,22,23,24,25,26,27,28,29,30,31,32,33,34,35,36,37,38,39,40,41,42,43,44,45,46,47,48,49,50,51,52,53] ?_));refine ay.y2 mixed (aN 55 [] [] _::aN 56 [0] [1] _::aN 57 [] [] _::aN 58 [1,2] [] _::aN 59 [3] [] _::aN 60 [4] [] _::aN 61 [] [] _::aN 62 [6] [1] _::aN 63 [] [] _::aN 64 [7,8] [] _::aN 65 [9] [] _::aN 66 [10] [] _::aN 67 [5,11] [] _::aN 54 [12] [] _::aN 68 [13] [] _::aN 69 [13] [] _::aN 6 [14] [] _::aN 7 [15] [] _::[]) ⟨j0 (bC xT.fd),vf 1 vH wE,mH,gF λaJ ax=>pz (k:=c0) underlying26 sC (ag (aJ _ _ I)) (ag (aJ _ _ I)) (c4 iq),gF λaJ ax=>Ej FM ME.fd (ag (aJ _ _ I)) I I,j0 (iD kO),j0 (bC xT.fd),vf 1 vH wE,mH,gF λaJ ax=>pz (k:=fR) underlying26 sC (ag (aJ _ _ I)) (ag (aJ _ _ I)) (c4 ve),j0 (iD sC),gF λaJ ax=>iE abc.cj (abc.m _ _ lF) ⟨ag (aJ _ _ I),trivial⟩,gF λaJ ax=>iE Nu.cj (Nu.m _ _ _ qW) ⟨ag (aJ _ _ I),ag (aJ _ _ I),trivial⟩,mH,gF λaJ ax=>El (ag (aJ _ _ I)) I,gF λaJ ax=>El (ag (aJ _ _ I)) I,gF λaJ ax=>dq (ag (aJ _ _ I)),gF λaJ ax=>dq (ag (aJ _ _ I)),trivial⟩ λic=>?_;refine aq.ey (L2:=[aZ br ai,aZ a6 ab]) I (hN (aq.next (ay.seq ?_)));refine aB h λka yy h=>aB h λfy rR h=>aB h λgZ tr h=>ay.mg mixed 14 (rg 70 14) [[],[0],[1],[2],[2],[2,4],[2],[2,5,6],[2,7],[2],[2,9],[2,8,10],[2,3,11],[2,12]] [_,_,_,_,_,_,_,_,_,_,_,_,_,_] ⟨hc,ot nA,hc,eE λL' ax=>λhb=>dj (ag I),eE λL' ax=>λhb=>bC xT.fd (ag I),eE λL' ax=>λhb=>gz (i:=1) ((aP.id aD).comp vH) (r:=ab.bK) wE (cW I hb) (ax _ _ I I) I I,eE λL' ax=>λhb=>dj (ag I),eE λL' ax=>λhb=>pz (k:=ka) underlying26 sC (cW I hb) (cW I hb) (c4 (hl yy hb)),eE λL' ax=>λhb=>iD sC (cW I hb),eE λL' ax=>λhb=>bC p6.fd (ag I),eE λL' ax=>λhb=>gz (i:=0) ((aP.id aO).comp nt) (r:=ai.c3) oT (cW I hb) (ax _ _ I I) I I,eE λL' ax=>λhb=>iE anC (af6 (hl rR hb)) ⟨cW I hb,cW I hb,trivial⟩,eE λL' ax=>λhb=>iE aai (Wv (hl tr hb)) ⟨cW I hb,cW I hb,trivial⟩,gn λax=>x7 (ag I) (ag I) (λh=>h),trivial⟩ ?_;refine cS (b0 (ay.ret ?_));cases h;exact pF
def Wk{hp ab ai aG r}(h:Dq hp ab ai aG=some r):jA prog 512 [J.of ab,J.of ai,J.of aG] hp (J.of r) hp:=by
 unfold Dq at h;refine bV.ofM func512 I ntmps512 I λW A=>aT λa6 br=>?_;refine aB h λal bx h=>ad.ir (fB.jH 2 I aaj (Wc bx) ⟨ag I,ag I,ag I,trivial⟩) I I I (bQ pA (b0 ?_));refine ki h (λh=>?_) λh=>?_
 ·refine bU (ad.store (i:=0) (aP.id Ref) (v:=(none:Ref)) (b':=(none:Ref)) j5 (ag I) oI I I I (b0 (ay.ret (aq.ret ?_))));cases h;exact aq.IS (aq.eU () (eK 2) I I (nB (i:=0) j5 I I))
 refine aT λbO dH c1 dF cm h=>?_;refine aB h λaF cg h=>nG Sf (P2 cg) (b0 (ay.block ?_));refine aB h λar ao h=>Xd (hp:=hp) (γ:=Unit) (g0:=()) (Ls:=λs1 g1=>(aZ cm s1::aZ br (default:Ref)::aZ a6 ai::aX hp)) (Lx:=λaw g1=>(aZ cm aw.1::aZ br aw.2::aZ a6 ai::aX hp)) (λs1 g1=>[aZ cm s1,aZ br (default:Ref),aZ a6 ai]) (λaw=>.ret) I Sg I VT ao (λ_ _=>rfl) I I (λEO s1 r h g1 q1 re q2 l D rec Ji=>?_) (λs1 aE g1 D=>?_) (λaw aE g1 D=>?_)
 ·refine ay.eQ (cS (ad.nil ?_));refine aq.begin 0 I Ji (ay.block (ay.seq (bU ?_)));refine lf 2 j5 ?_;refine bg (HK underlying604 (ag I)) (b0 ?_);refine ki h (λh=>?_) λh=>?_
  ·refine bU (ad.store (i:=3) (aP.id Ref) (v:=(none:Ref)) (b':=(none:Ref)) j5 (ag I) oI I I I ?_);refine aT ?_;cases h;exact aq.alc () 0 I I I
  refine aT λcL fg aR dg c2 eP h=>?_;cases h;exact aq.acr () 0 I
 ·clear ao;subst aE;simp only[Sum.elim_inl]at h;refine aq.dC ?_;refine aT ?_;cases h;refine aq.NG 0 I I ?_;exact aq.eU () (eK 4) I I (nB (i:=2) j5 I I)
 clear ao;subst aE;simp only[Sum.elim_inr]at h;refine ay.ret (aq.dC ?_);refine aq.rL (aq.ret ?_);cases h;refine aq.NG 0 I I ?_;exact aq.eU () (eK 4) I I (nB (i:=2) j5 I I)
def aep{ab cK iZ ja r}(h:F9 ab=some r):bV prog 527 [J.dv cK] [⟨some cK,.bX ({ab with dw:=[]}:eF) [(10,aH iZ ab.dw.length ja)]⟩,⟨iZ,.row 70 ab.dw ja⟩] (δ:=Unit) (λd=>J.of r) (λd=>[⟨some cK,.bX ({ab with dw:=[]}:eF) [(10,aH iZ ab.dw.length ja)]⟩,⟨iZ,.row 70 ab.dw ja⟩]):=by
 unfold F9 at h;refine bV.of func527 I ntmps527 I λW A=>bU (bg (dq (look_nil (α:=aS))) ?_);refine aT ?_;refine bg (MC underlying311 (ag I)) (b0 ?_);refine ay.wq (ag I) I (aT ?_);refine bg (dn (i:=0) (q:=0) (β:=eF) (γ:=aS) yj (ag I) I I) ?_;refine aB h λal bx h=>ad.ir (fB.call [1] anD (agt bx) ⟨ag I,trivial⟩ I ⟨rfl,trivial⟩ I) I I I (cS (b0 (ay.ret ?_)));refine aq.bW 1 I (aq.bW 1 I ?_);cases h;exact qk ()
instance:o4 prog 544 _ _ _ _ DD J.of J.of J.of J.of:=.i func544 I ntmps544 I λab ai aG r h W A=>by
 unfold DD at h;refine aT λa6 br cm=>?_;refine aB h λal bx h=>aB h λaF cg h=>aB h λbm eD h=>aB h λbG ft h=>aB h λbR gO h=>aB h λb8 ib h=>ay.fi 24 ?_;exact go
def af9{hp ab r}(h:Dv hp ab=some r):jA prog 511 [J.of ab] hp (J.of r) hp:=by
 unfold Dv at h;refine bV.of func511 I ntmps511 I λW A=>?_;refine aT ?_;exact aB h λal bx h=>ad.ir (fB.jH 0 I anE (af8 bx) ⟨ag I,trivial⟩) I I I go
def PY{hp ab ai r}(h:GX hp ab ai=some r):jA prog 184 [J.of ab,J.of ai] hp (J.b7 []) r:=by
 unfold GX at h;refine bV.of func184 I ntmps184 I λW A=>?_;refine aT λa6=>?_;refine aB h λal bx h=>ad.dX 1 0 I aak (Wa bx) I I ⟨ag I,ag I,dd 1,trivial⟩ I λaw=>ad.dC (ad.nil ?_);exact aq.kG go
def PB{hp ab ai r}(h:Gt hp ab ai=some r):jA prog 187 [J.of ab,J.of ai] hp (J.b7 []) r:=by
 unfold Gt at h;refine bV.of func187 I ntmps187 I λW A=>?_;refine aT λa6=>?_;refine aB h λal bx h=>ad.dX 1 0 I aak (Wa bx) I I ⟨ag I,ag I,dd (-1),trivial⟩ I λaw=>ad.dC (ad.nil ?_);exact aq.kG go
def aeq{hp ab Q}(h:K2 hp ab Q):lM prog 114 [J.of ab] hp Q:=by
 unfold K2 at h;refine bV.of func114 I ntmps114 I λW A=>bU (bg (dq (look_nil (α:=cN))) (fr ?_));refine ad.own (α:=cN) 161 (bg (dq lx) ?_);refine aT ?_;refine ad.dX 1 0 I anF (afW h) I I ⟨ag I,trivial⟩ I λ⟨⟨al,h⟩,aw⟩=>ad.dC ?_;refine aT ?_;refine ah.bI h λar ao h=>vk (σ:=Int×(aa cN)) (ε:=(Int×Bool×(aa cN))) (γ:=(aA Nat×Nat)) (δ:=(aA Nat×Nat)) ao 1 [0,2,7,8] (λs1 g1=>[(3,J.eq (aH g1.1 s1.2.length g1.2)),(9,J.of s1.1)]) (λs1 g1=>[(0,⟨g1.1,.row 161 s1.2 g1.2⟩)]) (λs1 g1=>aX al.2) (λb9=>Exit.exit 0) (λb9 g1=>[(3,J.eq (aH g1.1 b9.2.2.length g1.2)),(9,J.of b9.1),(10,J.of b9.2.1)]) (λb9 g1=>[(0,⟨g1.1,.row 161 b9.2.2 g1.2⟩)]) (λb9 g1=>aX al.2) (none,0) (λs1 r h g1=>?_) (λg1=>?_)
 ·refine go2 (λaR dg a6 bz en h=>?_) (λh=>?_)
  ·refine aB h λm1 cc h=>yA (γ:=(aA Nat×Nat)) 2 [0,2,5,7,8,9,10,20] (λg2=>[(3,J.eq (aH g2.1 m1.length g2.2))]) (λg2=>[(1,⟨g2.1,.row 161 m1 g2.2⟩)]) (λg2=>aX al.2) (λg2=>?_) (λhm ak=>?_) (λhm ak=>?_)
   ·refine aT ?_;cases h;exact ia (g2.1,g2.2) 1
   ·have h:=fY ak cc;refine aT ?_;refine aB h λaF cg h=>gY 1 underlying124 Ek Nf cg λeV dN=>?_;refine cS (ad.nil ?_);cases h;exact ef 0 (hm (eV,dN))
   have h:=fZ ak cc;refine ay.skip ?_;cases h;exact ef 0 (hm (g1.1,g1.2))
  cases h;exact gN (g1.1,g1.2) 0
 refine aT ?_;exact aq.k8 (α:=cN) 0 [2,3,27] ⟨rfl,rfl,rfl,trivial⟩ I (aq.eU (⟨⟨(ar.2.2,al.2),h⟩,()⟩: {r // _}×_) (eK 1) I I (dB I))
def aeK{ab ai r}(h:K9 ab ai=some r):cE prog 266 [J.of ab,J.of ai] (J.of r):=by
 unfold K9 at h;refine cE.of func266 I ntmps266 I λW A=>?_;exact go
def afg{ab ai r}(h:C8 ab ai=some r):cE prog 143 [J.of ab,J.of ai] (J.of r):=by
 unfold C8 at h;refine cE.of func143 I ntmps143 I λW A=>?_;exact go
instance:eI prog 71 _ _ _ Hc J.of J.of J.of:=.i func71 I ntmps71 I λab ai r h W A=>by
 unfold Hc at h;refine aT λa6 br=>?_;refine aB h λal bx h=>aB h λaF cg h=>aB h λbm eD h=>aB h λbG ft h=>ay.fi 23 (b0 (ay.block ?_));refine aB h λar ao h=>eY (γ:=Unit) (δ:=Unit) ao [0,1,2,3,27,28] (λs1 g1=>[(4,J.of (0:Int)),(29,J.of s1)]) (λs1 g1=>[]) (λaw=>Sum.elim (λaw=>Exit.exit 0) (λaw=>Exit.ret) aw) (λaw g1=>Sum.elim (λaw=>[(4,J.of (0:Int)),(29,J.of aw.1),(30,J.of aw.2)]) (λaw=>[(4,J.of aw.1),(6,J.of aw.2.1),(29,J.of aw.2.2.1),(30,J.of aw.2.2.2.1),(34,J.of aw.2.2.2.2)]) aw) (λaw g1=>[]) () (λs1 r h g1=>?_) λg1=>?_
 ·exact go
 rcases ar with ar|ar
 ·simp only[Sum.elim_inl]at h;exact go
 simp only[Sum.elim_inr]at h;exact go
def afH{ab ai r}(h:zD ab ai=some r):cE prog 169 [J.ptr ab,J.ptr ai] (J.of r):=by
 unfold zD at h;refine cE.of func169 I ntmps169 I λW A=>?_;exact go
def afI{ab ai r}(h:Dg ab ai=some r):cE prog 177 [J.ptr ab,J.ptr ai] (J.of r):=by
 unfold Dg at h;refine cE.of func177 I ntmps177 I λW A=>?_;exact go
def Wn{hp ab ai aG r}(h:zK hp ab ai aG=some r):jA prog 505 [J.of ab,J.of ai,J.of aG] hp (J.b7 [J.of r.1,J.of r.2]) hp:=by
 unfold zK at h;refine bV.of func505 I ntmps505 I λW A=>?_;refine aT λa6=>?_;exact aB h λal bx h=>ad.ir (fB.jH 1 I aal (Wk bx) ⟨ag I,ag I,ag I,trivial⟩) I I I go
def afh{hp ab ai r}(h:GK hp ab ai=some r):jA prog 523 [J.of ab,J.of ai] hp (J.b7 [J.of r.1,J.of r.2]) hp:=by
 unfold GK at h;refine bV.of func523 I ntmps523 I λW A=>?_;refine aT λa6 br=>?_;refine aB h λbO dH h=>aB h λc1 dF h=>aB h λal bx h=>ad.ir (fB.obj 2 I (A5 dF) anG (aep bx) I ⟨j4 (ag I) dH,trivial⟩) I I I ?_;refine aT ?_;refine aB h λar ao h=>vk (σ:=Int) (ε:=(Int×Bool)⊕(Int×Bool×Int×Bool×Bool)) (γ:=Unit) (δ:=Unit) ao 2 [0,1,2,3,10,11] (λs1 g1=>[(4,J.of (0:Int)),(5,J.of false),(12,J.of s1)]) (λs1 g1=>[]) (λs1 g1=>aX hp) (λaw=>Sum.elim (λaw=>Exit.exit 0) (λaw=>Exit.ret) aw) (λaw g1=>Sum.elim (λaw=>[(4,J.of (0:Int)),(5,J.of false),(12,J.of aw.1),(13,J.of aw.2)]) (λaw=>[(4,J.of aw.1),(5,J.of aw.2.1),(12,J.of aw.2.2.1),(13,J.of aw.2.2.2.1),(19,J.of aw.2.2.2.2)]) aw) (λaw g1=>[]) (λaw g1=>Sum.elim (λaw=>aX hp) (λaw=>aX hp) aw) () (λs1 r h g1=>?_) (λg1=>?_)
 ·exact go
 rcases ar with ar|ar
 ·simp only[Sum.elim_inl]at h;exact go
 simp only[Sum.elim_inr]at h;exact go
def aga{hp ab ai aG b5 Q}(h:Dw hp ab ai aG b5 Q):lM prog 509 [J.of ab,J.of ai,J.of aG,J.of b5] hp Q:=by
 unfold Dw at h;refine bV.ofM func509 I ntmps509 I λW A=>aT λa6=>?_;refine ah.bI h λal bx h=>ad.ir (fB.jH 1 I aaj (Wc bx) ⟨ag I,ag I,ag I,trivial⟩) I I I (go2 (λh=>?_) (λh=>?_))
 ·exact aq.IS (aq.eU (⟨⟨(false,hp),h⟩,()⟩: {r // _}×_) (eK 1) I I (dB I))
 refine ah.bI h λaF cg h=>ad.ir (fB.jH 1 I aal (Wk cg) ⟨ag I,ag I,ag I,trivial⟩) I I I (go2 (λbO dH c1 dF h=>?_) (λbO dH c1 dF cL fg c2 eP h=>?_))
 ·exact aq.IS (aq.eU (⟨⟨(false,hp),h⟩,()⟩: {r // _}×_) (eK 1) I I (dB I))
 refine wR (γ:=Unit) h 1 [0,1,2,3,5,8,9,16,28,33] (λm1 g1=>[]) (λm1 g1=>[]) (λm1 g1=>aX m1) (λm1 g1 h=>?_) (λhm ak h=>?_) (λhm ak h=>?_)
 ·refine aT λej kW br h=>?_;refine ah.bI h λbm eD h=>nG Sf (P2 eD) (b0 (ay.block ?_));refine ahS (σ:=Ref×(aL Cell)) (ε:=Empty) (γ:=Unit) (g0:=()) (Ls:=λs2 g3=>(aZ br s2.1::aZ a6 ai::aX s2.2)) (Lx:=λb9 g3=>Empty.elim b9) (hq:=λs2=>s2.2) (λs2 g3=>[aZ br s2.1,aZ a6 ai]) (λb9=>Empty.elim b9) I Sg I aeW h (λ_ _=>rfl) I I (λN3 s2 R h g3 q1 re q2 l D rec Ji=>?_) (λs2 h g3 D=>?_) (λb9 h g3 D=>?_)
  ·refine ay.eQ (cS (ad.nil ?_));refine aq.begin 0 I Ji ?_;refine aT λhf rT aR dg h5 sH h=>?_;refine wR (γ:=Unit) h 4 [0,1,2,3,5,8,9,10,11,16,28,33,46,47,54] (λm2 g4=>[]) (λm2 g4=>[]) (λm2 g4=>aX m2) (λm2 g4 h=>?_) (λhm ak h=>?_) (λhm ak h=>?_)
   ·refine aT λbD dh jN vi h=>?_;exact aq.aqe h () 0 I
   ·refine ay.eQ (lf 2 j5 ?_);refine bB ?_;refine qm aam aan (default:eT) .nil ?_;refine ad.yg 4 I (Cell.gW (default:eT)) (λ_=>rfl) (ag I) I λbZ ql=>?_;replace h:=ah.p1 h bZ ql;refine aT λcf hM h=>?_;exact ah.bI h λjO vl h=>ah.bI h λbT gw h=>ad.p7 (k':=Cell.gW ({jO with dL:=eh jO.dL cf (some bZ.1:Ref)}:eT)) 4 I (((aP.id eT).comp CU).comp (aP.idx (α:=Ref) 2 cf (c4 hM).1)) (v:=(some bZ.1:Ref)) j5 (ag I) (ag I) (rF vl) I I I I (di gw) (ad.nil (ef 0 (hm bT () h)))
   exact ay.skip (ef 0 (hm s2.2 () h))
  ·simp only[Sum.elim_inl]at h;refine aq.dC ?_;refine aq.mW (aq.next (ay.seq (ah.bI h λw8 acp h=>ah.bI h λFf acs h=>ah.bI h λcQ BM h=>fI [3,8,10] ?_)));refine ay.yC mixed [5,6] [(0,68,J.of s2.1),(1,69,J.of s2.1),(2,70,J.of b5),(3,71,J.dv w8),(4,72,J.kY w8 GG)] ?_;refine fF.md [] [0,1,2,3,4] [5] ⟨?_,trivial⟩;refine hU.of (ks:=[]) (λx:Unit=>[]) (λx=>[]) (λx=>(⟨some D,.fJ⟩::aZ br s2.1::aZ a6 ai::aX cQ)) (λ_=>?_) (λo a8 dA iv aJ k=>?_)
   ·refine fF.md [4,3,0] [1,2] [6] ⟨hU.tail [5,4,3,2,1,0] ?_,trivial⟩;refine ad.ey (L2:=(⟨some D,.fJ⟩::aZ br s2.1::aZ a6 ai::aX cQ)) I (ad.le (E':=[(3,J.of b5),(8,J.of false),(10,J.dv br),(69,J.of s2.1),(70,J.of b5)]) .all ?_);refine aT λUo auE h=>?_;refine ah.bI h λFg acu h=>ah.bI h λhz IL h=>ad.p7 (k':=Cell.gW ({Fg with kH:=b5}:eT)) 3 I ((aP.id eT).comp Ly) (v:=b5) cd (ag I) (ag I) (rF acu) I I I I (di IL) (aT ?_);refine aq.NG 0 I I ?_;exact aq.eU (⟨⟨(true,hz),h⟩,()⟩: {r // _}×_) (eK 3) I I (dB I)
   cases a8;exact ad.p7 (k':=Cell.gW ({Ff with gr:=true}:eT)) 3 I ((aP.id eT).comp GG) (v:=true) lH (ag (aJ I)) (h7 true) (rF acs) I I I I (di BM) (ad.nil (k ()))
  exact Empty.elim b9
 ·refine ay.eQ (bB ?_);refine qm aam aan (default:eT) .nil ?_;refine ad.yg 1 I (Cell.gW (default:eT)) (λ_=>rfl) (ag I) I λa2 tC=>?_;replace h:=ah.p1 h a2 tC;refine aT ?_;exact ah.bI h λy3 EP h=>ah.bI h λsJ SZ h=>ad.p7 (k':=Cell.lb ({y3 with e7:=(some a2.1:Ref)}:hj)) 1 I ((aP.id hj).comp Ln) (v:=(some a2.1:Ref)) j5 (ag I) (ag I) (xV EP) I I I I (di SZ) (ad.nil (ef 0 (hm sJ () h)))
 exact ay.skip (ef 0 (hm hp () h))
def aer{ab ai aG r}(h:CX ab ai aG=some r):cE prog 536 [J.ptr ab,J.of ai,J.of aG] (J.of r):=by
 unfold CX at h;refine cE.of func536 I ntmps536 I λW A=>?_;refine aT λa6 br=>?_;refine aB h λal bx h=>ay.fi 7 ?_;refine aT (λh=>?_);refine aB h λaF cg h=>ay.fi 7 ?_;exact go
def aec{hp ab Q}(h:zl hp ab Q):lM prog 59 [J.of ab] hp Q:=by
 unfold zl at h;refine bV.of func59 I ntmps59 I λW A=>bU (bg (dq (look_nil (α:=cN))) ?_);refine go2 (λh=>?_) (λbO dH c1 dF h=>?_)
 ·refine bg (dq (look_nil (α:=cN))) (b0 (ay.ret (aq.ret ?_)));exact aq.eU (⟨⟨(([]:aa cN),hp),h⟩,()⟩: {r // _}×_) (.refl _) I I (dB I)
 refine ad.dX 0 0 I anH (aeq h) I I ⟨ag I,trivial⟩ I λ⟨⟨al,h⟩,aw⟩=>ad.dC ?_;refine cS (b0 (ay.ret ?_));exact aq.eU (⟨⟨(al.1,al.2),h⟩,()⟩: {r // _}×_) (.refl _) I I (dB I)
def afX{hp ab Q}(h:GY hp ab Q):lM prog 194 [J.of ab] hp Q:=by
 unfold GY at h;refine bV.of func194 I ntmps194 I λW A=>bU (bg (dq (look_nil (α:=aS))) (fW (bU ?_)));refine bB ?_;refine bg (HK underlying234 (ag I)) (b0 ?_);refine yF h (λh=>?_) λh=>?_
 ·refine bU (bg (dq (look_nil (α:=aS))) (b0 (ay.ret (aq.ret ?_))));exact aq.eU (⟨⟨(([]:aa aS),hp),h⟩,()⟩: {r // _}×_) (.refl _) I I (dB I)
 refine jx (bU (ad.own (α:=aS) 70 (bg (dq lx) ?_)));refine aT λbO dH c1 dF h=>?_;refine ah.bI h λcL fg h=>ah.bI h λc2 eP h=>ad.Ze (α:=Int) (β:=aS) (kv:=c2) 1 I underlying299 (k6 (ag I) fg) (ti eP) I I λa6 m1 gG bT=>b0 (ay.block (B2 (σ:=(aa Nat)×(aa aS)) (ε:=(Bool×(aa Nat)×(aa aS))) (γ:=(aA Nat×Nat)) (δ:=(aA Nat×Nat)) h 2 [0,2,7,12] (λs1 g1=>[(3,J.eq (aH g1.1 s1.2.length g1.2))]) (λs1 g1=>[(0,⟨some a6,.is (nH cL m1 gG s1.1)⟩),(1,⟨g1.1,.row 70 s1.2 g1.2⟩)]) (λs1 g1=>pH cL (.map m1 gG) (aX hp)) (λaw=>Exit.exit 0) (λaw g1=>[(3,J.eq (aH g1.1 aw.2.2.length g1.2)),(14,J.of aw.1)]) (λaw g1=>[(0,⟨some a6,.is (nH cL m1 gG aw.2.1)⟩),(1,⟨g1.1,.row 70 aw.2.2 g1.2⟩)]) (λaw g1=>pH cL (.map m1 gG) (aX hp)) (none,0) (λs1 R h g1=>?_) (λar h g1=>?_)))
 ·refine bU (ad.aag (kv:=c2) 0 (ag I) I (MF 2 I (ti eP) I) bT I λpM yG=>?_);replace h:=ah.Xc h pM yG;refine bg (Zf (ag I)) ?_;refine go2 (λh=>?_) (λh=>?_)
  ·refine ah.bI h λaR dg h=>bg (XM (kv:=c2) (vis:=s1.1) 0 (ag I) I (MF 2 I (ti eP) I) bT yG dg) ?_;refine aT λbr al bx h=>?_;refine ah.bI h λaF cg h=>gY 2 underlying53 gM rM cg λeV dN=>?_;refine cS (ad.nil ?_);exact aq.mW (aq.xU h (eV,dN) 1 I .all)
  exact aq.uQ h (g1.1,g1.2) 0 I (by simp) I .all
 refine aT ?_;refine ad.bW 1 I (ad.rb (fa.nz 1 anI (adQ h) I I ⟨ag I,XN anJ (λ_ _ _ h=>aeK h),trivial⟩) I I I λ⟨bm,abD,h⟩=>?_);refine ad.dC ?_;refine ad.hv (m:=bm.length) 3 I abD (ad.hv (m:=bm.length) 22 I abD (aT ?_));exact aq.Nk 2 I (aq.k8 (α:=aS) 0 [2,3,22,24] ⟨rfl,rfl,rfl,rfl,trivial⟩ I (aq.eU (⟨⟨(bm,hp),h⟩,()⟩: {r // _}×_) (eK 2) I I (dB I)))
instance:eI prog 26 _ _ _ zR J.of J.of J.of:=.i func26 I ntmps26 I λab ai r h W A=>by
 unfold zR at h;exact go
instance:o4 prog 110 _ _ _ _ ph J.of J.of J.of J.of:=.i func110 I ntmps110 I λab ai aG r h W A=>by
 unfold ph at h;refine aT λa6 br cm dV=>?_;refine ad.share (α:=aD) 3 3 I I (ad.share (α:=aO) 0 7 I I (bg (uZ (F:=zz ab aG.bl) (τs:=[J.ptr ab,J.ptr aG.bl]) anK ⟨ag I,ag I,trivial⟩ (λ_ h=>afx h)) ?_));refine aT ?_;refine ad.share (α:=Int) 2 4 I I (bg (uZ (F:=zB ab ai aG.bl) (τs:=[J.ptr ab,J.ptr ai,J.ptr aG.bl]) anL ⟨ag I,ag I,ag I,trivial⟩ (λ_ h=>afD h)) ?_);refine aT ?_;refine bg (uZ (F:=zC ab ai aG.bl) (τs:=[J.ptr ab,J.ptr ai,J.ptr aG.bl]) anM ⟨ag I,ag I,ag I,trivial⟩ (λ_ h=>afE h)) ?_;refine aT ?_;refine bg (uZ (F:=zA ab ai) (τs:=[J.ptr ab,J.ptr ai]) anN ⟨ag I,ag I,trivial⟩ (λ_ h=>afy h)) ?_;refine aT λal bx aF cg bm eD h=>?_;refine bg (uZ (F:=zD ab aG.bl) (τs:=[J.ptr ab,J.ptr aG.bl]) anO ⟨ag I,ag I,trivial⟩ (λ_ h=>afH h)) ?_;refine aT (λbG ft bz en bR gO h=>?_);refine iV (λhb=>BK (cW I hb) (ag I) (λh=>⟨hb,h⟩)) ?_;refine aT (λz2 jw h=>?_);refine bg (uZ (F:=Dc ab aG.bl) (τs:=[J.ptr ab,J.ptr aG.bl]) anP ⟨ag I,ag I,trivial⟩ (λ_ h=>afz h)) ?_;refine aB h λb8 ib h=>nG Nt.cj (Nt.m _ _ _ ib) ?_;refine bg (uZ (F:=Dd ab ai aG.bl) (τs:=[J.ptr ab,J.ptr ai,J.ptr aG.bl]) anQ ⟨ag I,ag I,ag I,trivial⟩ (λ_ h=>afF h)) ?_;refine aB h λde lF h=>nG Nt.cj (Nt.m _ _ _ lF) ?_;refine bg (uZ (F:=Df ab aG.bl) (τs:=[J.ptr ab,J.ptr aG.bl]) anR ⟨ag I,ag I,trivial⟩ (λ_ h=>afG h)) ?_;refine bg (uZ (F:=Dg ab aG.bl) (τs:=[J.ptr ab,J.ptr aG.bl]) anS ⟨ag I,ag I,trivial⟩ (λ_ h=>afI h)) ?_;exact go
def aeL{hp ab ai r}(h:Gj hp ab ai=some r):jA prog 500 [J.of ab,J.of ai] hp (J.b7 [J.of r.1,J.of r.2]) hp:=by
 unfold Gj at h;refine bV.of func500 I ntmps500 I λW A=>?_;refine aT λa6 br al bx cm dV h=>?_;refine aB h λbO dH h=>aB h λc1 dF h=>aB h λbz en h=>aB h λaF cg h=>fI [0,1,2,3,6,7,8,9,10,11,12,13,14,15] ?_;refine ay.cj 4 (aN 16 [] [] _::aN 17 [0] [3] _::aN 18 [] [1] _::aN 19 [1,2] [] (J.of bz)::aN 20 [] [0] _::aN 21 [] [] _::aN 22 [3,4,5] [] (J.b7 [J.of aF.1,J.of aF.2])::aN 23 [6] [] _::aN 24 [6] [] _::aN 4 [7] [] _::aN 5 [8] [] _::[]) (eR ?_ (eR ?_ kn)) (λdT=>?_)
 ·intro hd E' L' aJ ax cJ;refine bg (wc (r:=bz) underlying308 BB It (k6 (ag (aJ _ _ I)) dH) (ag (aJ _ _ I)) (jv (n:=4) (cJ.trans I) (pw dF) I) (di en)) (ad.nil ?_);exact aq.fin (ez []) I I
 ·intro hd E' L' aJ ax cJ;exact ad.ir (fB.jH 4 (cJ.trans I) aao (Wn cg) ⟨ag (aJ _ _ I),ag (aJ _ _ I),ag (aJ _ _ I),trivial⟩) I I I (ad.nil (aq.fin (ez []) I I))
 refine aq.ey (L2:=(aZ dV al.2.1::aZ cm al.1::aZ br ai::aZ a6 ab::aX hp)) I (hN ?_);exact go
def aeY{hp ab ai Q}(h:Gu hp ab ai Q):B6 prog 502 [J.of ab,J.of ai] hp Q:=by
 unfold Gu at h;refine bV.of func502 I ntmps502 I λW A=>?_;refine aT λa6 br al bx cm dV h=>?_;refine ah.bI h λbO dH h=>ah.bI h λc1 dF h=>ah.bI h λbz en h=>bg (wc (r:=bz) underlying308 BB It (k6 (ag I) dH) (ag I) (jv (n:=4) I (pw dF) I) (di en)) ?_;refine bg (HK underlying594 (ag I)) (b0 ?_);refine wR (γ:=Unit) h 4 [2,3,4,5,6] (λm1 g1=>[]) (λm1 g1=>[]) (λm1 g1=>aX m1) (λm1 g1 h=>?_) (λhm ak h=>?_) (λhm ak h=>?_)
 ·refine aq.next (ah.bI h λc2 eP h=>ah.bI h λz2 jw h=>ay.mg mixed 8 (rg 26 8) [[],[0],[],[1,2],[],[],[],[6]] [_,_,_,_,_,_,_,_] ⟨H1 (bC Yx.fd),lG 3 FR Sh,vj 1 Nb,gn λax=>wc (r:=z2) underlying308 BB It (k6 (ag I) dH) (ag I) (pD (λi e q=>ax i e q I) (jv (n:=4) I (pw eP) I)) (di jw),vj 0 h8,hc,H1 (bC Zg.fd),lG 2 KO cd,trivial⟩ ?_)
  refine ad.dX 4 0 I anT (aga h) I I ⟨ag I,ag I,ag I,ag I,trivial⟩ I λ⟨⟨aF,h⟩,aw⟩=>ad.dC (ad.nil ?_);exact aq.kG (aq.mX (⟨⟨aF.2,h⟩,()⟩: {r // _}×_) (eK 4) I I)
 ·obtain⟨asb,aqf,aqg⟩:=ah.ex h;refine fI [2,3,4,5,6] ?_;refine ay.yC mixed [5,6] [(0,20,J.kY a6 FR),(1,21,J.of ab.uJ),(2,22,J.of al.1),(3,23,J.kY a6 Pe),(4,24,J.of ab.hG)] ?_;refine fF.md [] [0,1,2,3,4] [5] ⟨?_,trivial⟩;refine hU.of (ks:=[]) (λx:Subtype asb=>[(25,J.of x.1.1)]) (λx=>[]) (λx=>(aZ dV al.2.1::aZ cm al.1::aZ br ai::aZ a6 ab::aX x.1.2)) (λ⟨bm,S0⟩=>?_) (λo a8 dA iv aJ k=>?_)
  ·have h:=aqg bm S0;refine fF.md [4,3] [0,1,2] [6] ⟨hU.tail [5,4,3,2,1,0] ?_,trivial⟩;refine ad.ey (L2:=(aZ dV al.2.1::aZ cm al.1::aZ br ai::aZ a6 ab::aX bm.2)) I (ad.le (E':=[(2,J.dv a6),(3,J.dv br),(4,J.dv cm),(5,J.dv dV),(6,J.of al.2.2),(21,J.of ab.uJ),(22,J.of al.1),(25,J.of bm.1)]) .all (ah.bI h λej kW h=>ah.bI h λbT gw h=>?_));refine ad.Ip (k':=Cell.ob (gb ej al.1 bm.1)) 4 I (by first|exact .inl I|exact .inr I) underlying308 BB (k6 (ag I) dH) (ag I) (ag I) (pw kW) I I I (di gw) ?_;exact ad.nil (ef 0 (hm bT () h))
  cases a8;refine ad.dX 4 0 I anU (ahi aqf) I I ⟨ag (aJ I),trivial⟩ I λ⟨⟨bm,S0⟩,_⟩=>ad.dC (ad.nil ?_);exact k ⟨bm,S0⟩
 exact ay.skip (ef 0 (hm hp () h))
end Go.Proofs.YtlkieppifclacaaGreat
