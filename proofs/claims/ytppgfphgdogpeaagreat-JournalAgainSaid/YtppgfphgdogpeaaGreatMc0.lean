/-
  Each function meets its functional program. Conditions: none.
-/
import Derived.Test.YtppgfphgdogpeaaGreatMd
set_option linter.unusedVariables false
set_option linter.unusedSimpArgs false
set_option maxRecDepth 100000
set_option maxHeartbeats 2000000
namespace Go.Proofs.YtppgfphgdogpeaaGreat
open Go Gv Go.Proofs.Tryz
attribute [local irreducible] J aw aj bc aN dE ep eB I.of I.ptr I.eq I.cond I.bP
theorem Lf {aa ai r}(h:yt aa ai=some r):bJ prog 7 [I.of aa,I.of ai] [] (δ:=Nat) (fun d=>I.bE d) (fun d=>[aS d r]):=by
 unfold yt at h;refine bJ.of func7 rfl ntmps7 rfl fun W A=>cm (bj (c5 (ES (.pointer none))) ?_);refine aM ?_;refine az h fun an bx h=>bj (yI underlying22 Xz (ae rfl) .none (.some (ae rfl)) bx) ?_;refine aM fun bo=>?_;refine aj.bm 0 rfl ?_;cases h;exact qj bo
theorem aaE {aa bV r}(h:HE aa=some r):mi prog 11 [I.bE bV] bV aa (I.of r) aa:=by
 unfold HE at h;refine bJ.of func11 rfl ntmps11 rfl fun W A=>?_;refine aM ?_;refine aw.fy 10 ?_;exact go
theorem aai {aa ai r}(h:HA aa ai=some r):dZ prog 124 [I.of aa,I.ptr ai] (I.of r):=by
 unfold HA at h;refine dZ.of func124 rfl ntmps124 rfl fun W A=>?_;exact go
theorem Zf {aa ai r}(h:CY aa ai=some r):dZ prog 123 [I.of aa,I.zq prog ai] (I.of r):=by
 unfold CY at h;refine dZ.of func123 rfl ntmps123 rfl fun W A=>?_;refine aM ?_;refine az h fun ar ak h=>fD (γ:=Unit) (δ:=Unit) ak [0,1,7] (fun s1 g1=>[(4,I.of (0:Int)),(8,I.of s1)]) (fun s1 g1=>[]) (fun av=>Sum.elim (fun av=>Exit.exit 0) (fun av=>Exit.ret) av) (fun av g1=>Sum.elim (fun av=>[(4,I.of (0:Int)),(8,I.of av.1),(9,I.of av.2)]) (fun av=>[(4,I.of av.1),(5,I.of av.2.1),(8,I.of av.2.2.1),(9,I.of av.2.2.2.1),(16,I.of av.2.2.2.2)]) av) (fun av g1=>[]) () (fun s1 r h g1=>?_) fun g1=>?_
 ·refine aM (fun aL dg h=>?_);refine az h fun an bx h=>bj (Ie (ae rfl) (ae rfl) bx) ?_;exact go
 rcases ar with ar | ar
 ·simp only [Sum.elim_inl] at h;exact go
 simp only [Sum.elim_inr] at h;exact go
instance arS:mj prog 91 _ _ A4 I.of (fun r=>I.bP [I.of r.1,I.of r.2]):= .i func91 rfl ntmps91 rfl fun aa r h W A=>by
 unfold A4 at h;refine aM fun bo=>?_;refine az h fun ar ak h=>fD (γ:=Unit) (δ:=Unit) ak [0,1,2,3,9,10] (fun s1 g1=>[(4,I.of s1.1),(5,I.of s1.2.1),(11,I.of s1.2.2)]) (fun s1 g1=>[]) (fun av=>Exit.exit 0) (fun av g1=>[(4,I.of av.1),(5,I.of av.2.1),(11,I.of av.2.2.1),(12,I.of av.2.2.2)]) (fun av g1=>[]) () (fun s1 r h g1=>?_) fun g1=>?_
 ·refine aM (fun aL dg bN h=>?_);refine az h fun m1 b4 h=>jS (γ:=Unit) [0,1,2,3,6,7,9,10,11,12,17,18] (fun g2=>[(4,I.of m1.1),(5,I.of m1.2)]) (fun g2=>[]) (fun g2=>?_) (fun hm ad=>?_) fun hm ad=>?_
  ·exact go
  ·have h:=gk ad b4;exact go
  have h:=gl ad b4;refine aM ?_;refine az h fun m2 dj h=>jS (γ:=Unit) [0,1,2,3,6,7,9,10,11,12,17,18,20] (fun g3=>[(4,I.of m2.1),(5,I.of m2.2)]) (fun g3=>[]) (fun g3=>?_) (fun hm ad=>?_) fun hm ad=>?_
  ·exact go
  ·have h:=gk ad dj;exact go
  have h:=gl ad dj;exact go
 exact go
theorem abz {hp Q}(h:HR hp Q):k6 prog 92 [] hp Q:=by
 unfold HR at h;refine bJ.of func92 rfl ntmps92 rfl fun W A=>cm (bj (c5 nU) (jF ?_));refine J.ET (α:=Vector aX 4) (β:=Int) 0 rfl (Cell.qe ([]:List ((Vector aX 4)×Int))) (fun _=>rfl) rfl fun bT pD=>?_;replace h:=ag.pe h bT pD;refine sX agG agH { tM:=(⟨some bT.1⟩:eQ):ry } (q2 QV .nil) ?_;refine J.xa 0 rfl (Cell.B4 ({ tM:=(⟨some bT.1⟩:eQ):ry })) (fun _=>rfl) (ae rfl) rfl fun a2 oh=>?_;replace h:=ag.pe h a2 oh;refine dW (cv (aw.ret ?_));exact aj.eh (⟨⟨((some a2.1:Ref),a2.2),h⟩,()⟩: {r // _}×_) (.refl _) rfl rfl (dw rfl)
theorem aaj {aa ai r}(h:HB aa ai=some r):dZ prog 126 [I.of aa,I.ptr ai] (I.of r):=by
 unfold HB at h;refine dZ.of func126 rfl ntmps126 rfl fun W A=>?_;exact go
theorem Zg {aa ai r}(h:CZ aa ai=some r):dZ prog 125 [I.of aa,I.zq prog ai] (I.of r):=by
 unfold CZ at h;refine dZ.of func125 rfl ntmps125 rfl fun W A=>?_;refine aM ?_;refine az h fun ar ak h=>fD (γ:=Unit) (δ:=Unit) ak [0,1,7] (fun s1 g1=>[(4,I.of (0:Int)),(8,I.of s1)]) (fun s1 g1=>[]) (fun av=>Sum.elim (fun av=>Exit.exit 0) (fun av=>Exit.ret) av) (fun av g1=>Sum.elim (fun av=>[(4,I.of (0:Int)),(8,I.of av.1),(9,I.of av.2)]) (fun av=>[(4,I.of av.1),(5,I.of av.2.1),(8,I.of av.2.2.1),(9,I.of av.2.2.2.1),(16,I.of av.2.2.2.2)]) av) (fun av g1=>[]) () (fun s1 r h g1=>?_) fun g1=>?_
 ·refine aM (fun aL dg h=>?_);refine az h fun an bx h=>bj (Ie (ae rfl) (ae rfl) bx) ?_;exact go
 rcases ar with ar | ar
 ·simp only [Sum.elim_inl] at h;exact go
 simp only [Sum.elim_inr] at h;exact go
theorem aaT {aa r}(h:K6 aa=some r):bJ prog 94 [I.of aa] [] (δ:=Nat×(Option Nat×Nat)) (fun d=>I.bE d.1) (fun d=>[⟨some d.1,.ch ({ r with dd:= [] } :eD) [(10,aJ d.2.1 r.dd.length d.2.2)]⟩,⟨d.2.1,.row 54 r.dd d.2.2⟩]):=by
 unfold K6 at h;refine bJ.of func94 rfl ntmps94 rfl fun W A=>cm (pE fun bo=>?_);refine bj (c5 nU) (jF ?_);refine cB 0 iX ?_;refine bj (ss (b:=({ (default:eD) with mr:=aa } :eD)) [10] ado rfl agI agJ (.cons Qw rfl (ae rfl) rfl (by rfl) (.nil))) ?_;refine J.own (α:=aC) 54 (J.Wk (ae rfl) rfl fun bN=>dW (cv (aw.ret ?_)));refine aj.JR (γ:=aC) (b':=({ ({ (default:eD) with mr:=aa } :eD) with dd:= [] } :eD)) ((aK.id eD).comp AF) 0 0 rfl rfl rfl (aj.bm 1 rfl (aj.bm 1 rfl ?_));cases h;exact qj (bN,(none,0))
theorem RL {hp aa Q}(h:HZ hp aa Q):k6 prog 29 [I.of aa] hp Q:=by
 unfold HZ at h;refine bJ.of func29 rfl ntmps29 rfl fun W A=>cm (pE fun bo=>?_);refine bj (c5 nU) ?_;refine aM ?_;refine J.ET (α:=b8) (β:=ks) 1 rfl (Cell.rV ([]:List (b8×ks))) (fun _=>rfl) rfl fun bT pD=>?_;replace h:=ag.pe h bT pD;refine sX agK agL { mr:=aa,hW:=(⟨some bT.1⟩:eQ):p0 } (q2 QC (q2 QD .nil)) ?_;refine J.xa 1 rfl (Cell.zc ({ mr:=aa,hW:=(⟨some bT.1⟩:eQ):p0 })) (fun _=>rfl) (ae rfl) rfl fun a2 oh=>?_;replace h:=ag.pe h a2 oh;refine dW (cv (aw.ret ?_));exact aj.eh (⟨⟨((some a2.1:Ref),a2.2),h⟩,()⟩: {r // _}×_) (fE 1) rfl rfl (dw rfl)
theorem abA {hp aa Q}(h:HS hp aa Q):k6 prog 30 [I.of aa] hp Q:=by
 unfold HS at h;refine bJ.of func30 rfl ntmps30 rfl fun W A=>cm (pE fun bo=>?_);refine bj (c5 nU) ?_;refine aM ?_;refine ag.br h fun an bx h=>bj (yI underlying29 vh (ae rfl) .none (.some (ae rfl)) bx) ?_;refine sX agM agN ({ (default:jf) with mN:=an } :jf) (q2 KL .nil) ?_;refine J.xa 1 rfl (Cell.rW ({ (default:jf) with mN:=an } :jf)) (fun _=>rfl) (ae rfl) rfl fun bT pD=>?_;replace h:=ag.pe h bT pD;refine dW (cv (aw.ret ?_));exact aj.eh (⟨⟨((some bT.1:Ref),bT.2),h⟩,()⟩: {r // _}×_) (fE 1) rfl rfl (dw rfl)
theorem abB {aa r}(h:Lg aa=some r):bJ prog 10 [I.of aa] [] (δ:=Nat) (fun d=>I.bE d) (fun d=>[aS d r]):=by
 unfold Lg at h;refine bJ.of func10 rfl ntmps10 rfl fun W A=>cm (pE fun bo=>?_);refine bj (c5 (ES (.pointer none))) ?_;refine aM fun bn eK bN h=>?_;refine aj.bm 0 rfl ?_;cases h;exact qj bN
theorem ZY {aa r}(h:Dv aa=some r):dZ prog 11 [I.ptr aa] (I.of r):=by
 unfold Dv at h;refine dZ.of func11 rfl ntmps11 rfl fun W A=>?_;refine aM ?_;refine aw.fy 10 ?_;exact go
instance XA:e9 prog 58 _ _ _ Bg I.of I.of I.of:= .i func58 rfl ntmps58 rfl fun aa ai r h W A=>by
 unfold Bg at h;exact go
instance aqt:e9 prog 171 _ _ _ Hb I.of I.of I.of:= .i func171 rfl ntmps171 rfl fun aa ai r h W A=>by
 unfold Hb at h;refine aM fun bo=>?_;refine az h fun ar ak h=>fD (γ:=Unit) (δ:=Unit) ak [0,1,3,7] (fun s1 g1=>[(4,I.of (0:Int)),(8,I.of s1)]) (fun s1 g1=>[]) (fun av=>Sum.elim (fun av=>Exit.exit 0) (fun av=>Exit.ret) av) (fun av g1=>Sum.elim (fun av=>[(4,I.of (0:Int)),(8,I.of av.1),(9,I.of av.2)]) (fun av=>[(4,I.of av.1),(5,I.of av.2.1),(8,I.of av.2.2.1),(9,I.of av.2.2.2.1),(16,I.of av.2.2.2.2)]) av) (fun av g1=>[]) () (fun s1 r h g1=>?_) fun g1=>?_
 ·refine aM (fun h=>?_);refine az h fun aL dg h=>aw.fy 6 ?_;exact go
 rcases ar with ar | ar
 ·simp only [Sum.elim_inl] at h;exact go
 simp only [Sum.elim_inr] at h;exact go
theorem KM {aa ai bV iS iT r}(h:x1 aa ai=some r):bJ prog 68 [I.bE bV,I.of ai] [⟨some bV,.ch ({ aa with fQ:= [] } :dV) [(3,aJ iS aa.fQ.length iT)]⟩,⟨iS,.row 110 aa.fQ iT⟩] (δ:=(Option Nat×Nat)) (fun d=>I.bP []) (fun d=>[⟨some bV,.ch ({ r with fQ:= [] } :dV) [(3,aJ d.1 r.fQ.length d.2)]⟩,⟨d.1,.row 110 r.fQ d.2⟩]):=by
 unfold x1 at h;refine bJ.of func68 rfl ntmps68 rfl fun W A=>?_;refine aM ?_;refine bj (ht (i:=0) (q:=0) (β:=dV) (γ:=fe) vi (ae rfl) rfl rfl) ?_;refine aM ?_;refine az h fun an bx h=>ia 1 underlying91 I4 agO bx fun ea dv=>?_;refine aM ?_;refine J.jh (i:=0) (γ:=fe) (b':=({ aa with fQ:= [] } :dV)) (os':= [(3,aJ ea an.length dv)]) ((aK.id dV).comp C0) vi (ae rfl) (ae rfl) ir rfl rfl rfl rfl (J.nil (aj.k0 (aj.bm 1 rfl (aj.bm 1 rfl ?_))));cases h;exact aj.nv (ea,dv) (.cons_cons _ (.cons_cons _ (List.nil_sublist _))) rfl rfl
theorem HF {aa bV r}(h:tt aa=some r):bJ prog 16 [I.bE bV] [aS bV aa] (δ:=Nat) (fun d=>I.bE d) (fun d=>[aS bV aa,aS d r]):=by
 unfold tt at h;refine bJ.of func16 rfl ntmps16 rfl fun W A=>cm (bj (c5 (ES (.pointer none))) (hX ?_));refine az h fun an bx h=>aw.mT 2 (fk [0] ?_);refine aw.cn 3 (ay 3 [] [] _::ay 4 [0] [] _::ay 5 [1] [] _::ay 6 [2] [0] _::⟨some 7,[],[1],[1],fun hd=>I.eq (aJ (hd 4 0) ([]:List aC).length 0),fun hd _=>⟨(hd 4 0),.row 54 ([]:List aC) 0⟩⟩::ay 8 [] [] _::ay 9 [5] [] _::ay 10 [6] [] _::ay 11 [7] [0] _::⟨some 12,[4,8],[1],[1],fun hd=>I.eq (aJ (hd 9 0) an.length ((hd 9 1).getD 0)),fun hd _=>⟨(hd 9 0),.row 54 an ((hd 9 1).getD 0)⟩⟩::ay 13 [] [] _::ay 14 [10] [] _::ay 15 [11] [] _::ay 16 [12] [0] _::⟨some 17,[3,4,9,13],[1],[1],fun _=>I.of ({ e0:=aa.e0,bK:=an,fh:=aa.fh:bX }),fun hd _=>⟨none,.dead⟩⟩::⟨some 18,[14],[2],[2],fun hd=>I.bE ((hd 15 0).getD 0),fun hd _=>aS ((hd 15 0).getD 0) ({ e0:=aa.e0,bK:=an,fh:=aa.fh:bX } :bX)⟩::⟨some 2,[15],[],[],fun hd=>I.bE ((hd 15 0).getD 0),fun _ _=>⟨none,.dead⟩⟩::[]) (dG ?_ (dG ?_ (dG ?_ (dG ?_ (dG ?_ h3))))) (fun cZ=>?_)
 ·intro hd E' L' aE aq b3;exact J.oN (α:=aC) (r:=([]:List aC)) underlying43 eZ fC rfl rfl (.nil) rfl fun ea=>J.nil (aj.place 1 (aq 1 _ rfl rfl) (aj.fin (cP [ea]) rfl rfl))
 ·intro hd E' L' aE aq b3;refine J.app (i:=1) underlying43 eZ fC (bytes:=88) (by kernel_rfl) (ae (aE _ _ rfl)) (aq 1 _ rfl rfl) (ae (aE _ _ rfl)) bx rfl fun iy dv=>?_;exact J.nil (aj.fin (cP [iy,some dv]) rfl rfl)
 ·intro hd E' L' aE aq b3;refine J.nb (ee.hU (i:=1) (s:=12) (aE _ _ rfl) (aq 1 _ rfl rfl) (ee.aA (kg (b:= { e0:=aa.e0,bK:=an,fh:=aa.fh:bX }) rfl Wl Wm (.cons AL rfl (ae (aE _ _ rfl)) rfl (.cons uC rfl (ae rfl) rfl (.cons AM rfl (ae (aE _ _ rfl)) rfl (.nil))))))) rfl rfl rfl fun _=>J.nil ?_;exact aj.fin (cP []) rfl rfl
 ·intro hd E' L' aE aq b3;exact J.box (z:=({ e0:=aa.e0,bK:=an,fh:=aa.fh:bX } :bX)) (ae (aE _ _ rfl)) rfl fun bo=>J.nil (aj.place 2 (aq 2 _ rfl rfl) (aj.fin (cP [some bo]) rfl rfl))
 ·intro hd E' L' aE aq b3;refine bj (c5 (ae (aE _ _ rfl))) (J.nil ?_);exact aj.fin (cP []) rfl rfl
 refine aj.dN (L2:= [aS bV aa,⟨none,.dead⟩,aS ((cZ 15 0).getD 0) ({ e0:=aa.e0,bK:=an,fh:=aa.fh:bX } :bX)]) rfl (fF ?_);refine aj.bm 1 rfl (aj.bm 2 rfl (aj.next (aw.ret (aj.bm 0 rfl (aj.bm 2 rfl ?_)))));cases h;exact qj ((cZ 15 0).getD 0)
theorem Rl {aa bV r}(h:AW aa=some r):mi prog 49 [I.bE bV] bV aa (I.of r) aa:=by
 unfold AW at h;refine bJ.of func49 rfl ntmps49 rfl fun W A=>cm (bj (c5 (look_nil (α:=bh))) (jF ?_));refine J.own (α:=bh) 52 (bj (c5 lK) ?_);refine aM ?_;refine az h fun ar ak h=>fD (γ:=(Option Nat×Nat)) (δ:=(Option Nat×Nat)) ak [0,2,9,10] (fun s1 g1=>[(3,I.eq (aJ g1.1 s1.2.length g1.2)),(11,I.of s1.1)]) (fun s1 g1=>[(0,⟨g1.1,.row 52 s1.2 g1.2⟩)]) (fun av=>Exit.exit 0) (fun av g1=>[(3,I.eq (aJ g1.1 av.2.2.length g1.2)),(11,I.of av.1),(12,I.of av.2.1)]) (fun av g1=>[(0,⟨g1.1,.row 52 av.2.2 g1.2⟩)]) (none,0) (fun s1 r h g1=>?_) fun g1=>?_
 ·refine go2 (fun aL dg bo h=>?_) (fun h=>?_)
  ·refine az h fun an bx h=>ia 1 underlying121 eU Jr bx fun ea dv=>?_;refine aM ?_;cases h;exact ib (ea,dv) 1
  cases h;exact ha (g1.1,g1.2) 0
 refine aM ?_;exact aj.j2 (α:=bh) 0 [2,3,21] ⟨rfl,rfl,rfl,trivial⟩ rfl go
instance aqu:e9 prog 117 _ _ _ Eh I.of I.of I.of:= .i func117 rfl ntmps117 rfl fun aa ai r h W A=>by
 unfold Eh at h;refine aM fun bo bN=>?_;refine bj (c5 (look_nil (α:=eI))) (jF ?_);refine J.own (α:=eI) 127 (bj (c5 lK) ?_);refine aM ?_;refine az h fun ar ak h=>fD (γ:=(Option Nat×Nat)) (δ:=(Option Nat×Nat)) ak [0,1,2,3,4,9,10] (fun s1 g1=>[(5,I.eq (aJ g1.1 s1.2.length g1.2)),(11,I.of s1.1)]) (fun s1 g1=>[(0,⟨g1.1,.row 127 s1.2 g1.2⟩)]) (fun av=>Exit.exit 0) (fun av g1=>[(5,I.eq (aJ g1.1 av.2.2.length g1.2)),(11,I.of av.1),(12,I.of av.2.1)]) (fun av g1=>[(0,⟨g1.1,.row 127 av.2.2 g1.2⟩)]) (none,0) (fun s1 r h g1=>?_) fun g1=>?_
 ·refine go2 (fun aL dg b6 h=>?_) (fun h=>?_)
  ·refine az h fun m1 b4 h=>jS (γ:=(Option Nat×Nat)) [0,1,2,3,4,7,9,10,11,12,15] (fun g2=>[(5,I.eq (aJ g2.1 m1.length g2.2))]) (fun g2=>[(1,⟨g2.1,.row 127 m1 g2.2⟩)]) (fun g2=>?_) (fun hm ad=>?_) fun hm ad=>?_
   ·refine aM ?_;cases h;exact ib (g2.1,g2.2) 1
   ·have h:=gk ad b4;refine aw.skip ?_;cases h;exact dQ 0 (hm (g1.1,g1.2))
   have h:=gl ad b4;refine aM ?_;refine az h fun m2 dj h=>jS (γ:=(Option Nat×Nat)) [0,1,2,3,4,7,9,10,11,12,15,21] (fun g3=>[(5,I.eq (aJ g3.1 m2.length g3.2))]) (fun g3=>[(1,⟨g3.1,.row 127 m2 g3.2⟩)]) (fun g3=>?_) (fun hm ad=>?_) fun hm ad=>?_
   ·cases h;exact dQ 0 (hm (g3.1,g3.2))
   ·have h:=gk ad dj;refine az h fun bz dh h=>az h fun bn eK h=>aw.fy 14 ?_;refine az h fun an bx h=>ia 1 underlying119 oJ BN bx fun ea dv=>?_;refine dW (J.nil ?_);cases h;exact dQ 0 (hm (ea,dv))
   have h:=gl ad dj;refine aM ?_;refine az h fun m3 gM h=>jS (γ:=(Option Nat×Nat)) [0,1,2,3,4,7,9,10,11,12,15,21,40] (fun g4=>[(5,I.eq (aJ g4.1 m3.length g4.2))]) (fun g4=>[(1,⟨g4.1,.row 127 m3 g4.2⟩)]) (fun g4=>?_) (fun hm ad=>?_) fun hm ad=>?_
   ·cases h;exact dQ 0 (hm (g4.1,g4.2))
   ·have h:=gk ad gM;refine az h fun cR ic h=>az h fun z2 hz h=>aw.fy 13 ?_;refine az h fun aD cc h=>ia 1 underlying119 oJ BN cc fun iy lN=>?_;refine dW (J.nil ?_);cases h;exact dQ 0 (hm (iy,lN))
   have h:=gl ad gM;refine aw.skip ?_;cases h;exact dQ 0 (hm (g1.1,g1.2))
  cases h;exact ha (g1.1,g1.2) 0
 refine aM ?_;exact aj.j2 (α:=eI) 0 [4,5,61] ⟨rfl,rfl,rfl,trivial⟩ rfl go
instance aqv:e9 prog 119 _ _ _ D2 I.of I.of I.of:= .i func119 rfl ntmps119 rfl fun aa ai r h W A=>by
 unfold D2 at h;refine aM fun bo bN=>?_;refine bj (c5 (look_nil (α:=eI))) (jF ?_);refine J.own (α:=eI) 127 (bj (c5 lK) ?_);refine aM ?_;refine az h fun ar ak h=>fD (γ:=(Option Nat×Nat)) (δ:=(Option Nat×Nat)) ak [0,1,2,3,4,13,14] (fun s1 g1=>[(5,I.eq (aJ g1.1 s1.2.length g1.2)),(15,I.of s1.1)]) (fun s1 g1=>[(0,⟨g1.1,.row 127 s1.2 g1.2⟩)]) (fun av=>Exit.exit 0) (fun av g1=>[(5,I.eq (aJ g1.1 av.2.2.length g1.2)),(15,I.of av.1),(16,I.of av.2.1)]) (fun av g1=>[(0,⟨g1.1,.row 127 av.2.2 g1.2⟩)]) (none,0) (fun s1 r h g1=>?_) fun g1=>?_
 ·refine OL (fun aL dg b6 h=>?_) (fun aL dg b6 h=>?_) (fun h=>?_)
  ·cases h;exact ib (g1.1,g1.2) 1
  ·refine az h fun bz dh h=>az h fun bn eK h=>aw.mT 1 (fk [0,1,2,3,4,5,7,13,14,15,16,17,18,19,20,21,22,23] ?_);refine aw.vZ 5 (ay 24 [] [] _::ay 25 [0] [0] _::ay 26 [] [] _::ay 27 [2] [0] _::ay 28 [] [] _::ay 29 [4] [2] _::ay 30 [] [] _::ay 31 [6] [0] _::ay 32 [5,7] [] _::ay 33 [8] [] _::ay 34 [9] [] _::ay 35 [1,3,10] [] _::qk 8 [] 4 12 _::hA [11,12] [4] [4] (fun hd=>aS ((hd 12 0).getD 0) bn)::[]) (fun cZ=>?_);refine aj.dN (L2:= [aS b6 (au aa.c3 aL:e3),⟨g1.1,.row 127 s1.2 g1.2⟩,aS bN ai,aS bo aa,aS ((cZ 12 0).getD 0) bn]) rfl (fF ?_);refine aj.bm 4 rfl (aM ?_);refine bj (mO (i:=2) underlying119 (ae rfl) rfl rfl) ?_;refine cH (cv (aw.block ?_));refine az h fun aU ak h=>fD (γ:=Unit) (δ:=Unit) ak [0,1,2,3,4,5,7,8,13,14,15,16,23,36,37] (fun s2 g2=>[(9,I.of s2.1),(38,I.of s2.2)]) (fun s2 g2=>[]) (fun cQ=>Exit.exit 2) (fun cQ g2=>[(9,I.of cQ.1),(38,I.of cQ.2.1),(39,I.of cQ.2.2)]) (fun cQ g2=>[]) () (fun s2 r h g2=>?_) fun g2=>?_
   ·refine aM (fun h=>?_);refine az h fun cR ic h=>bj (mw (i:=2) (k:=cR) (xs:=(s1.2:List eI)) underlying119 oJ (ae rfl) (ae rfl) rfl (dq ic)) ?_;refine bj (qO (i:=2) (k:=cR) (aK.id eI) (r:=(au s1.2 cR)) oJ (ae rfl) rfl (dq ic).1 rfl rfl) ?_;exact go
   refine aM ?_;refine az h fun m1 b4 h=>jS (γ:=(Option Nat×Nat)) [0,1,2,3,4,7,8,9,13,14,15,16,23,37,38,39,50] (fun g3=>[(5,I.eq (aJ g3.1 m1.length g3.2))]) (fun g3=>[(2,⟨g3.1,.row 127 m1 g3.2⟩)]) (fun g3=>?_) (fun hm ad=>?_) fun hm ad=>?_
   ·refine aM ?_;cases h;exact ib (g3.1,g3.2) 2
   ·have h:=gk ad b4;refine aM ?_;refine az h fun an bx h=>ia 2 underlying119 oJ BN bx fun ea dv=>?_;refine dW (J.nil ?_);cases h;exact dQ 0 (hm (ea,dv))
   have h:=gl ad b4;refine aw.skip ?_;cases h;exact dQ 0 (hm (g1.1,g1.2))
  cases h;exact ha (g1.1,g1.2) 0
 refine aM ?_;exact aj.j2 (α:=eI) 0 [4,5,56] ⟨rfl,rfl,rfl,trivial⟩ rfl go
theorem C6 {aa bV iS iT r}(h:x2 aa=some r):bJ prog 21 [I.bE bV] [⟨some bV,.ch ({ aa with fQ:= [] } :dV) [(3,aJ iS aa.fQ.length iT)]⟩,⟨iS,.row 110 aa.fQ iT⟩] (δ:=Unit) (fun d=>I.of r) (fun d=>[⟨some bV,.ch ({ aa with fQ:= [] } :dV) [(3,aJ iS aa.fQ.length iT)]⟩,⟨iS,.row 110 aa.fQ iT⟩]):=by
 unfold x2 at h;refine bJ.of func21 rfl ntmps21 rfl fun W A=>?_;refine aM ?_;refine bj (IF underlying36 (ae rfl)) (cv ?_);refine aw.BO (ae rfl) rfl (aM ?_);refine bj (ht (i:=0) (q:=0) (β:=dV) (γ:=fe) vi (ae rfl) rfl rfl) ?_;refine bj (mO (i:=1) underlying91 (ae rfl) rfl rfl) ?_;refine dW (cv (aw.ret ?_));refine aj.bm 1 rfl (aj.bm 1 rfl ?_);cases h;exact qj ()
instance arT:e9 prog 95 _ _ _ Ed I.of I.of I.of:= .i func95 rfl ntmps95 rfl fun aa ai r h W A=>by
 unfold Ed at h;refine aM fun bo=>?_;refine az h fun ar ak h=>fD (γ:=Unit) (δ:=Unit) ak [0,1,2,8,9] (fun s1 g1=>[(4,I.of (0:Int)),(10,I.of s1)]) (fun s1 g1=>[]) (fun av=>Sum.elim (fun av=>Exit.exit 0) (fun av=>Exit.ret) av) (fun av g1=>Sum.elim (fun av=>[(4,I.of (0:Int)),(10,I.of av.1),(11,I.of av.2)]) (fun av=>[(4,I.of av.1),(10,I.of av.2.1),(11,I.of av.2.2.1),(17,I.of av.2.2.2)]) av) (fun av g1=>[]) () (fun s1 r h g1=>?_) fun g1=>?_
 ·exact go
 rcases ar with ar | ar
 ·simp only [Sum.elim_inl] at h;exact go
 simp only [Sum.elim_inr] at h;exact go
instance XB:e9 prog 61 _ _ _ yu I.of I.of I.of:= .i func61 rfl ntmps61 rfl fun aa ai r h W A=>by
 unfold yu at h;exact go
instance XC:e9 prog 96 _ _ _ HM I.of I.of I.of:= .i func96 rfl ntmps96 rfl fun aa ai r h W A=>by
 unfold HM at h;exact go
instance XD:e9 prog 60 _ _ _ AU I.of I.of I.of:= .i func60 rfl ntmps60 rfl fun aa ai r h W A=>by
 unfold AU at h;refine aM fun bo bN=>?_;refine az h fun ar ak h=>fD (γ:=Unit) (δ:=Unit) ak [0,1,2,4,8,9] (fun s1 g1=>[(10,I.of s1)]) (fun s1 g1=>[]) (fun av=>Sum.elim (fun av=>Exit.exit 0) (fun av=>Exit.ret) av) (fun av g1=>Sum.elim (fun av=>[(10,I.of av.1),(11,I.of av.2)]) (fun av=>[(10,I.of av.1),(11,I.of av.2.1),(17,I.of av.2.2.1)]) av) (fun av g1=>Sum.elim (fun av=>[]) (fun av=>[(0,aS bN av.2.2.2)]) av) () (fun s1 r h g1=>?_) fun g1=>?_
 ·exact go
 rcases ar with ar | ar
 ·simp only [Sum.elim_inl] at h;exact go
 simp only [Sum.elim_inr] at h;exact go
theorem DH {hp aa ai r}(h:qI hp aa ai=some r):ik prog 97 [I.of aa,I.of ai] hp (I.of r) hp:=by
 unfold qI at h;refine bJ.of func97 rfl ntmps97 rfl fun W A=>cm (bj (c5 nU) ?_);refine go2 (fun h=>?_) (fun bt dn c1 dy h=>?_)
 ·refine bj (c5 nU) ?_;exact go
 refine az h fun cu e5 h=>az h fun c2 eR h=>az h fun bn eK h=>bj (uN (r:=bn) underlying161 zr US (kW (ae rfl) e5) (ae rfl) (iK (n:=0) rfl (wO eR) rfl) (dc eK)) ?_;exact go
instance aqw:mj prog 215 _ _ wD I.of I.of:= .i func215 rfl ntmps215 rfl fun aa r h W A=>by
 unfold wD at h;refine aM fun bo bN b6=>?_;refine az h fun an bx h=>bj (yI underlying49 BP (ae rfl) .none (.some (ae rfl)) bx) ?_;refine aM ?_;refine az h fun ar ak h=>fD (γ:=Unit) (δ:=Unit) ak [0,1,2,3,12,13] (fun s1 g1=>[(14,I.of s1.1)]) (fun s1 g1=>[(0,aS b6 s1.2)]) (fun av=>Exit.exit 0) (fun av g1=>[(14,I.of av.1),(15,I.of av.2.1)]) (fun av g1=>[(0,aS b6 av.2.2)]) () (fun s1 r h g1=>?_) fun g1=>?_
 ·exact go
 exact go
theorem Re {hp aa ai r}(h:AQ hp aa ai=some r):ik prog 214 [I.of aa,I.of ai] hp (I.bP [I.of r.1,I.of r.2]) hp:=by
 unfold AQ at h;refine bJ.of func214 rfl ntmps214 rfl fun W A=>?_;refine aM (fun bo h=>?_);refine az h fun bt dn h=>az h fun c1 dy h=>az h fun cu e5 h=>az h fun c2 eR h=>az h fun bn eK h=>fk [0,1,3,4,5,8,9] ?_;refine aw.cn 1 (ay 11 [] [] _::ay 12 [0] [] _::ay 13 [1] [] _::ay 14 [2] [] _::ay 15 [] [0] _::ay 16 [3,4] [] (I.bP [I.of (bn.getD default),I.of bn.isSome])::ay 10 [5] [] _::ay 17 [6] [] _::ay 18 [6] [] _::ay 6 [7] [] _::ay 7 [8] [] _::[]) (dG ?_ h3) (fun cZ=>?_)
 ·intro hd E' L' aE aq b3;refine bj (LK (r:=bn) underlying229 I5 hY (kW (ae (aE _ _ rfl)) e5) (ae (aE _ _ rfl)) (iK (n:=1) (b3.trans rfl) (tC eR) rfl) (dc eK)) (J.nil ?_);exact aj.fin (cP []) rfl rfl
 refine aj.dN (L2:=(aS bo ai::aI hp)) rfl (fF ?_);exact go
instance aqx:e9 prog 224 _ _ _ Hk I.of I.of (fun r=>I.bP [I.of r.1,I.of r.2]):= .i func224 rfl ntmps224 rfl fun aa ai r h W A=>by
 unfold Hk at h;refine aM fun bo bN b6 b7 aL dg Ku bz dh h=>?_;refine fk [0,1,2,3,4,5,6,7,8,9,10,11,12,13,14] ?_;refine aw.vZ 5 (ay 15 [] [3] _::ay 16 [] [0] _::hA [0] [2] [2] (fun hd=>aS b6 ((eb ai bz (default:aX)):Vector aX 4))::hA [1] [1] [1] (fun hd=>aS b7 ((b5 ai aL):aX))::[]) (fun cZ=>?_);refine aj.dN (L2:= [aS Ku (b5 ai aL:aX),aS b7 ((b5 ai aL):aX),aS b6 ((eb ai bz (default:aX)):Vector aX 4),aS bN (eb ai bz (default:aX):Vector aX 4),aS bo aa]) rfl (fF ?_);exact go
instance aqy:mj prog 237 _ _ A5 I.of I.of:= .i func237 rfl ntmps237 rfl fun aa r h W A=>by
 unfold A5 at h;exact go
instance aqz:e9 prog 236 _ _ _ A8 I.of I.of I.of:= .i func236 rfl ntmps236 rfl fun aa ai r h W A=>by
 unfold A8 at h;exact go
instance aqA:e9 prog 247 _ _ _ Ep I.of I.of I.of:= .i func247 rfl ntmps247 rfl fun aa ai r h W A=>by
 unfold Ep at h;exact go
instance aqB:e9 prog 226 _ _ _ HT I.of I.of I.of:= .i func226 rfl ntmps226 rfl fun aa ai r h W A=>by
 unfold HT at h;exact go
theorem K9 {aa ai aV r}(h:D3 aa ai aV=some r):dZ prog 235 [I.of aa,I.of ai,I.of aV] (I.lv 242 [I.ptr r.1,I.ptr r.2.1,I.ptr r.2.2]):=by
 unfold D3 at h;refine dZ.of func235 rfl ntmps235 rfl fun W A=>?_;refine aM fun bo bN b6=>?_;refine bj (c5 (ES .nilFunc)) (jF ?_);refine J.share (α:=Int) 0 5 rfl rfl (J.share (α:=aX) 1 4 rfl rfl (J.share (α:=Ref) 2 3 rfl rfl (bj (I6 (f:=242) (τs:= [I.ptr aV,I.ptr ai,I.ptr aa]) ⟨ae rfl,ae rfl,ae rfl,trivial⟩) ?_)));exact go
instance aqC:mj prog 169 _ _ He I.of I.of:= .i func169 rfl ntmps169 rfl fun aa r h W A=>by
 unfold He at h;refine cm (bj (c5 (look_nil (α:=cx))) ?_);refine aM ?_;refine bj (UT underlying49 (ae rfl)) (cv ?_);refine aw.UU (ae rfl) (fun al=>?_) ?_
 ·subst al;replace h:=R6 h;subst h;have h:some ([]:List cx)=some []:=rfl;refine cm (bj (c5 (look_nil (α:=cx))) (cv (aw.ret (aj.ret ?_))));replace h:=dc h;exact JS
 refine l8 (cm (J.oN (α:=cx) (r:=([]:List cx)) underlying49 BP E4 rfl rfl (.nil) rfl fun ea=>cH ?_));refine az h fun an bx h=>ia 0 underlying49 BP E4 bx fun iy dv=>?_;refine dW (cv (aw.ret ?_));exact aj.j2 (α:=cx) 0 [2,7] ⟨rfl,rfl,trivial⟩ rfl go
theorem ZZ {aa r}(h:Hv aa=some r):bJ prog 16 [I.ptr aa] [] (δ:=Nat) (fun d=>I.bE d) (fun d=>[aS d r]):=by
 unfold Hv at h;refine bJ.of func16 rfl ntmps16 rfl fun W A=>cm (bj (c5 (ES (.pointer none))) (hX ?_));refine az h fun an bx h=>aw.mT 2 (fk [0] ?_);refine aw.cn 2 (ay 3 [] [] _::ay 4 [0] [] _::ay 5 [1] [] _::ay 6 [2] [] _::⟨some 7,[],[0],[0],fun hd=>I.eq (aJ (hd 4 0) ([]:List aC).length 0),fun hd _=>⟨(hd 4 0),.row 54 ([]:List aC) 0⟩⟩::ay 8 [] [] _::ay 9 [5] [] _::ay 10 [6] [] _::ay 11 [7] [] _::⟨some 12,[4,8],[0],[0],fun hd=>I.eq (aJ (hd 9 0) an.length ((hd 9 1).getD 0)),fun hd _=>⟨(hd 9 0),.row 54 an ((hd 9 1).getD 0)⟩⟩::ay 13 [] [] _::ay 14 [10] [] _::ay 15 [11] [] _::ay 16 [12] [] _::⟨some 17,[3,4,9,13],[0],[0],fun _=>I.of ({ e0:=aa.e0,bK:=an,fh:=aa.fh:bX }),fun hd _=>⟨none,.dead⟩⟩::⟨some 18,[14],[1],[1],fun hd=>I.bE ((hd 15 0).getD 0),fun hd _=>aS ((hd 15 0).getD 0) ({ e0:=aa.e0,bK:=an,fh:=aa.fh:bX } :bX)⟩::⟨some 2,[15],[],[],fun hd=>I.bE ((hd 15 0).getD 0),fun _ _=>⟨none,.dead⟩⟩::[]) (dG ?_ (dG ?_ (dG ?_ (dG ?_ (dG ?_ h3))))) (fun cZ=>?_)
 ·intro hd E' L' aE aq b3;exact J.oN (α:=aC) (r:=([]:List aC)) underlying43 eZ fC rfl rfl (.nil) rfl fun ea=>J.nil (aj.place 0 (aq 0 _ rfl rfl) (aj.fin (cP [ea]) rfl rfl))
 ·intro hd E' L' aE aq b3;refine J.app (i:=0) underlying43 eZ fC (bytes:=88) (by kernel_rfl) (ae (aE _ _ rfl)) (aq 0 _ rfl rfl) (ae (aE _ _ rfl)) bx rfl fun iy dv=>?_;exact J.nil (aj.fin (cP [iy,some dv]) rfl rfl)
 ·intro hd E' L' aE aq b3;refine J.nb (ee.hU (i:=0) (s:=12) (aE _ _ rfl) (aq 0 _ rfl rfl) (ee.aA (kg (b:= { e0:=aa.e0,bK:=an,fh:=aa.fh:bX }) rfl Wl Wm (.cons AL rfl (ae (aE _ _ rfl)) rfl (.cons uC rfl (ae rfl) rfl (.cons AM rfl (ae (aE _ _ rfl)) rfl (.nil))))))) rfl rfl rfl fun _=>J.nil ?_;exact aj.fin (cP []) rfl rfl
 ·intro hd E' L' aE aq b3;exact J.box (z:=({ e0:=aa.e0,bK:=an,fh:=aa.fh:bX } :bX)) (ae (aE _ _ rfl)) rfl fun bo=>J.nil (aj.place 1 (aq 1 _ rfl rfl) (aj.fin (cP [some bo]) rfl rfl))
 ·intro hd E' L' aE aq b3;refine bj (c5 (ae (aE _ _ rfl))) (J.nil ?_);exact aj.fin (cP []) rfl rfl
 refine aj.dN (L2:= [⟨none,.dead⟩,aS ((cZ 15 0).getD 0) ({ e0:=aa.e0,bK:=an,fh:=aa.fh:bX } :bX)]) rfl (fF ?_);refine aj.bm 0 rfl (aj.bm 1 rfl (aj.next (aw.ret (aj.bm 0 rfl ?_))));cases h;exact qj ((cZ 15 0).getD 0)
theorem Zh {aa bV iS iT r}(h:KJ aa=some r):bJ prog 19 [I.bE bV] [⟨some bV,.ch ({ aa with fQ:= [] } :dV) [(3,aJ iS aa.fQ.length iT)]⟩,⟨iS,.row 110 aa.fQ iT⟩] (δ:=(Option Nat×Nat)) (fun d=>I.bP []) (fun d=>[⟨some bV,.ch ({ r with fQ:= [] } :dV) [(3,aJ d.1 r.fQ.length d.2)]⟩,⟨d.1,.row 110 r.fQ d.2⟩]):=by
 unfold KJ at h;refine bJ.of func19 rfl ntmps19 rfl fun W A=>cm (cH ?_);refine bj (aen underlying36 (ae rfl)) (cv ?_);refine aw.Nl (ae rfl) rfl (aw.fv (cH ?_));refine di e4 ?_;refine di (bY afv.fd) ?_;refine J.own (α:=fe) 110 (J.jh (i:=1) (γ:=fe) (b':=({ aa with fQ:= [] } :dV)) (os':= [(3,aJ none ([]:List fe).length 0)]) ((aK.id dV).comp C0) vi (ae rfl) lK ir rfl rfl rfl rfl (J.nil (aj.k0 (aj.bm 0 rfl (aj.bm 1 rfl ?_)))));cases h;exact aj.nv (none,0) (.cons_cons _ (.cons_cons _ (List.nil_sublist _))) rfl rfl
theorem gx {aa ai bV r}(h:fz aa ai=some r):mi prog 17 [I.bE bV,I.of ai] bV aa (I.of r.1) r.2:=by
 unfold fz at h;refine bJ.of func17 rfl ntmps17 rfl fun W A=>?_;refine aM ?_;refine az h fun an bx h=>J.fm (dL.call [0] Wn (aaE bx) ⟨ae rfl,trivial⟩ rfl ⟨rfl,trivial⟩ rfl) rfl rfl rfl (aM (fun h=>?_));refine az h fun aL dg h=>az h fun aD cc h=>aw.fy 14 ?_;exact go
instance arU:e9 prog 90 _ _ _ yj I.of I.of I.of:= .i func90 rfl ntmps90 rfl fun aa ai r h W A=>by
 unfold yj at h;refine aM fun bo bN=>?_;refine J.share (α:=Int) 0 3 rfl rfl (bj (IG (F:=(fun a0=>HA a0 ai)) (τs:= [I.ptr ai]) agP ⟨ae rfl,trivial⟩ (fun _ _ h=>aai h)) ?_);refine az h fun an bx h=>vx agQ (Zf bx) ?_;exact go
instance arV:e9 prog 93 _ _ _ D6 I.of I.of I.of:= .i func93 rfl ntmps93 rfl fun aa ai r h W A=>by
 unfold D6 at h;refine aM fun bo bN=>?_;refine J.share (α:=Int) 0 3 rfl rfl (bj (IG (F:=(fun a0=>HB a0 ai)) (τs:= [I.ptr ai]) agR ⟨ae rfl,trivial⟩ (fun _ _ h=>aaj h)) ?_);refine az h fun an bx h=>vx agS (Zg bx) ?_;exact go
theorem aak {hp aa ai r}(h:DI hp aa ai=some r):ik prog 210 [I.of aa,I.of ai] hp (I.bP [I.of r.1,I.of r.2]) hp:=by
 unfold DI at h;refine bJ.of func210 rfl ntmps210 rfl fun W A=>?_;refine aM fun bo bN=>?_;refine az h fun an bx h=>az h fun aD cc h=>fk [0,1,2,3] ?_;refine aw.cn 2 (ay 6 [] [] _::ay 7 [0] [1] _::ay 8 [] [0] _::ay 9 [2] [] _::ay 10 [1,3] [] (I.bP [I.of aD.1,I.of aD.2])::ay 11 [4] [] _::ay 12 [4] [] _::ay 4 [5] [] _::ay 5 [6] [] _::[]) (dG ?_ h3) (fun cZ=>?_)
 ·intro hd E' L' aE aq b3;exact J.fm (dL.gS 2 (b3.trans rfl) UW (Re cc) ⟨ae (aE _ _ rfl),ae (aE _ _ rfl),trivial⟩) rfl rfl rfl (J.nil (aj.fin (cP []) rfl rfl))
 refine aj.dN (L2:=(aS bN ai::aS bo aa::aI hp)) rfl (fF ?_);exact go
instance aqD:mj prog 106 _ _ Bh I.of I.of:= .i func106 rfl ntmps106 rfl fun aa r h W A=>by
 unfold Bh at h;refine cm (pE fun bo=>?_);refine er UX fun bN=>jF ?_;refine J.qR (z:=(default:Vector (List Int) 6)) [0,1,2,3,4,5] aaU UX rfl fun b6=>J.own (α:=Int) 3 (J.own (α:=Int) 3 (J.own (α:=Int) 3 (J.own (α:=Int) 3 (J.own (α:=Int) 3 (J.own (α:=Int) 3 (aM ?_))))));refine az h fun ar ak h=>fD (γ:=(Option Nat×Nat)) (δ:=(Option Nat×Nat)) ak [0,1,2,3,17,18] (fun s1 g1=>[(19,I.of s1.1)]) (fun s1 g1=>[(5,⟨g1.1,.row 3 s1.2.1 g1.2⟩),(6,⟨some b6,.ch s1.2.2 [(0,aJ g1.1 s1.2.1.length g1.2),(1,aJ none ([]:List Int).length 0),(2,aJ none ([]:List Int).length 0),(3,aJ none ([]:List Int).length 0),(4,aJ none ([]:List Int).length 0),(5,aJ none ([]:List Int).length 0)]⟩)]) (fun av=>Exit.exit 0) (fun av g1=>[(19,I.of av.1),(20,I.of av.2.1)]) (fun av g1=>[(5,⟨g1.1,.row 3 av.2.2.1 g1.2⟩),(6,⟨some b6,.ch av.2.2.2 [(0,aJ g1.1 av.2.2.1.length g1.2),(1,aJ none ([]:List Int).length 0),(2,aJ none ([]:List Int).length 0),(3,aJ none ([]:List Int).length 0),(4,aJ none ([]:List Int).length 0),(5,aJ none ([]:List Int).length 0)]⟩)]) (none,0) (fun s1 r h g1=>?_) fun g1=>?_
 ·refine go2 (fun aL dg b7 h=>?_) (fun h=>?_)
  ·refine bj (kz (k:=0) rL (ae rfl) (c9 0) ⟨by decide,rfl⟩) ?_;refine bj (ht (i:=7) (q:=0) (β:=Vector (List Int) 6) (γ:=Int) lq (ae rfl) rfl rfl) ?_;refine aM ?_;refine az h fun an bx h=>ia 6 underlying56 bR hY bx fun ea dv=>?_;refine bj (kz (k:=0) rL (ae rfl) (c9 0) ⟨by decide,rfl⟩) ?_;refine J.jh (i:=7) (γ:=Int) (b':=(eb s1.2.2 0 []:Vector (List Int) 6)) (os':= [(0,aJ ea an.length dv),(1,aJ none ([]:List Int).length 0),(2,aJ none ([]:List Int).length 0),(3,aJ none ([]:List Int).length 0),(4,aJ none ([]:List Int).length 0),(5,aJ none ([]:List Int).length 0)]) ((aK.id (Vector (List Int) 6)).comp (aK.idx (α:=List Int) 6 0 (by decide))) lq (ae rfl) (ae rfl) ir rfl rfl rfl rfl ?_;refine aM ?_;cases h;exact ib (ea,dv) 1
  cases h;exact ha (g1.1,g1.2) 0
 refine aM ?_;refine az h fun aU ak h=>fD (γ:=(Option Nat×Nat)) (δ:=(Option Nat×Nat)) ak [0,1,2,3,17,18,19,20,32,33] (fun s2 g2=>[(34,I.of s2.1)]) (fun s2 g2=>[(4,⟨g2.1,.row 3 s2.2.1 g2.2⟩),(6,⟨some b6,.ch s2.2.2 [(0,aJ g1.1 ar.2.2.1.length g1.2),(1,aJ g2.1 s2.2.1.length g2.2),(2,aJ none ([]:List Int).length 0),(3,aJ none ([]:List Int).length 0),(4,aJ none ([]:List Int).length 0),(5,aJ none ([]:List Int).length 0)]⟩)]) (fun cQ=>Exit.exit 2) (fun cQ g2=>[(34,I.of cQ.1),(35,I.of cQ.2.1)]) (fun cQ g2=>[(4,⟨g2.1,.row 3 cQ.2.2.1 g2.2⟩),(6,⟨some b6,.ch cQ.2.2.2 [(0,aJ g1.1 ar.2.2.1.length g1.2),(1,aJ g2.1 cQ.2.2.1.length g2.2),(2,aJ none ([]:List Int).length 0),(3,aJ none ([]:List Int).length 0),(4,aJ none ([]:List Int).length 0),(5,aJ none ([]:List Int).length 0)]⟩)]) (none,0) (fun s2 r h g2=>?_) fun g2=>?_
 ·refine go2 (fun bz dh Ku h=>?_) (fun h=>?_)
  ·refine bj (kz (k:=1) rL (ae rfl) (c9 1) ⟨by decide,rfl⟩) ?_;refine bj (ht (i:=7) (q:=1) (β:=Vector (List Int) 6) (γ:=Int) lq (ae rfl) rfl rfl) ?_;refine aM ?_;refine az h fun aD cc h=>ia 5 underlying56 bR hY cc fun iy lN=>?_;refine bj (kz (k:=1) rL (ae rfl) (c9 1) ⟨by decide,rfl⟩) ?_;refine J.jh (i:=7) (γ:=Int) (b':=(eb s2.2.2 1 []:Vector (List Int) 6)) (os':= [(0,aJ g1.1 ar.2.2.1.length g1.2),(1,aJ iy aD.length lN),(2,aJ none ([]:List Int).length 0),(3,aJ none ([]:List Int).length 0),(4,aJ none ([]:List Int).length 0),(5,aJ none ([]:List Int).length 0)]) ((aK.id (Vector (List Int) 6)).comp (aK.idx (α:=List Int) 6 1 (by decide))) lq (ae rfl) (ae rfl) ir rfl rfl rfl rfl ?_;refine aM ?_;cases h;exact ib (iy,lN) 1
  cases h;exact ha (g2.1,g2.2) 0
 refine aM ?_;refine az h fun cz ak h=>fD (γ:=(Option Nat×Nat)) (δ:=(Option Nat×Nat)) ak [0,1,2,3,17,18,19,20,32,33,34,35,47,48] (fun fV g3=>[(49,I.of fV.1)]) (fun fV g3=>[(3,⟨g3.1,.row 3 fV.2.1 g3.2⟩),(6,⟨some b6,.ch fV.2.2 [(0,aJ g1.1 ar.2.2.1.length g1.2),(1,aJ g2.1 aU.2.2.1.length g2.2),(2,aJ g3.1 fV.2.1.length g3.2),(3,aJ none ([]:List Int).length 0),(4,aJ none ([]:List Int).length 0),(5,aJ none ([]:List Int).length 0)]⟩)]) (fun ev=>Exit.exit 4) (fun ev g3=>[(49,I.of ev.1),(50,I.of ev.2.1)]) (fun ev g3=>[(3,⟨g3.1,.row 3 ev.2.2.1 g3.2⟩),(6,⟨some b6,.ch ev.2.2.2 [(0,aJ g1.1 ar.2.2.1.length g1.2),(1,aJ g2.1 aU.2.2.1.length g2.2),(2,aJ g3.1 ev.2.2.1.length g3.2),(3,aJ none ([]:List Int).length 0),(4,aJ none ([]:List Int).length 0),(5,aJ none ([]:List Int).length 0)]⟩)]) (none,0) (fun fV r h g3=>?_) fun g3=>?_
 ·refine go2 (fun cR ic YI h=>?_) (fun h=>?_)
  ·refine bj (kz (k:=2) rL (ae rfl) (c9 2) ⟨by decide,rfl⟩) ?_;refine bj (ht (i:=7) (q:=2) (β:=Vector (List Int) 6) (γ:=Int) lq (ae rfl) rfl rfl) ?_;refine aM ?_;refine az h fun bf et h=>ia 4 underlying56 bR hY et fun lO qf=>?_;refine bj (kz (k:=2) rL (ae rfl) (c9 2) ⟨by decide,rfl⟩) ?_;refine J.jh (i:=7) (γ:=Int) (b':=(eb fV.2.2 2 []:Vector (List Int) 6)) (os':= [(0,aJ g1.1 ar.2.2.1.length g1.2),(1,aJ g2.1 aU.2.2.1.length g2.2),(2,aJ lO bf.length qf),(3,aJ none ([]:List Int).length 0),(4,aJ none ([]:List Int).length 0),(5,aJ none ([]:List Int).length 0)]) ((aK.id (Vector (List Int) 6)).comp (aK.idx (α:=List Int) 6 2 (by decide))) lq (ae rfl) (ae rfl) ir rfl rfl rfl rfl ?_;refine aM ?_;cases h;exact ib (lO,qf) 1
  cases h;exact ha (g3.1,g3.2) 0
 refine aM ?_;refine az h fun eL ak h=>fD (γ:=(Option Nat×Nat)) (δ:=(Option Nat×Nat)) ak [0,1,2,3,17,18,19,20,32,33,34,35,47,48,49,50,62,63] (fun ja g4=>[(64,I.of ja.1)]) (fun ja g4=>[(2,⟨g4.1,.row 3 ja.2.1 g4.2⟩),(6,⟨some b6,.ch ja.2.2 [(0,aJ g1.1 ar.2.2.1.length g1.2),(1,aJ g2.1 aU.2.2.1.length g2.2),(2,aJ g3.1 cz.2.2.1.length g3.2),(3,aJ g4.1 ja.2.1.length g4.2),(4,aJ none ([]:List Int).length 0),(5,aJ none ([]:List Int).length 0)]⟩)]) (fun hJ=>Exit.exit 6) (fun hJ g4=>[(64,I.of hJ.1),(65,I.of hJ.2.1)]) (fun hJ g4=>[(2,⟨g4.1,.row 3 hJ.2.2.1 g4.2⟩),(6,⟨some b6,.ch hJ.2.2.2 [(0,aJ g1.1 ar.2.2.1.length g1.2),(1,aJ g2.1 aU.2.2.1.length g2.2),(2,aJ g3.1 cz.2.2.1.length g3.2),(3,aJ g4.1 hJ.2.2.1.length g4.2),(4,aJ none ([]:List Int).length 0),(5,aJ none ([]:List Int).length 0)]⟩)]) (none,0) (fun ja r h g4=>?_) fun g4=>?_
 ·refine go2 (fun hh pF asM h=>?_) (fun h=>?_)
  ·refine bj (kz (k:=3) rL (ae rfl) (c9 3) ⟨by decide,rfl⟩) ?_;refine bj (ht (i:=7) (q:=3) (β:=Vector (List Int) 6) (γ:=Int) lq (ae rfl) rfl rfl) ?_;refine aM ?_;refine az h fun bu fl h=>ia 3 underlying56 bR hY fl fun qW Fi=>?_;refine bj (kz (k:=3) rL (ae rfl) (c9 3) ⟨by decide,rfl⟩) ?_;refine J.jh (i:=7) (γ:=Int) (b':=(eb ja.2.2 3 []:Vector (List Int) 6)) (os':= [(0,aJ g1.1 ar.2.2.1.length g1.2),(1,aJ g2.1 aU.2.2.1.length g2.2),(2,aJ g3.1 cz.2.2.1.length g3.2),(3,aJ qW bu.length Fi),(4,aJ none ([]:List Int).length 0),(5,aJ none ([]:List Int).length 0)]) ((aK.id (Vector (List Int) 6)).comp (aK.idx (α:=List Int) 6 3 (by decide))) lq (ae rfl) (ae rfl) ir rfl rfl rfl rfl ?_;refine aM ?_;cases h;exact ib (qW,Fi) 1
  cases h;exact ha (g4.1,g4.2) 0
 refine aM ?_;refine az h fun jX ak h=>fD (γ:=(Option Nat×Nat)) (δ:=(Option Nat×Nat)) ak [0,1,2,3,17,18,19,20,32,33,34,35,47,48,49,50,62,63,64,65,77,78] (fun jv g5=>[(79,I.of jv.1)]) (fun jv g5=>[(1,⟨g5.1,.row 3 jv.2.1 g5.2⟩),(6,⟨some b6,.ch jv.2.2 [(0,aJ g1.1 ar.2.2.1.length g1.2),(1,aJ g2.1 aU.2.2.1.length g2.2),(2,aJ g3.1 cz.2.2.1.length g3.2),(3,aJ g4.1 eL.2.2.1.length g4.2),(4,aJ g5.1 jv.2.1.length g5.2),(5,aJ none ([]:List Int).length 0)]⟩)]) (fun ec=>Exit.exit 8) (fun ec g5=>[(79,I.of ec.1),(80,I.of ec.2.1)]) (fun ec g5=>[(1,⟨g5.1,.row 3 ec.2.2.1 g5.2⟩),(6,⟨some b6,.ch ec.2.2.2 [(0,aJ g1.1 ar.2.2.1.length g1.2),(1,aJ g2.1 aU.2.2.1.length g2.2),(2,aJ g3.1 cz.2.2.1.length g3.2),(3,aJ g4.1 eL.2.2.1.length g4.2),(4,aJ g5.1 ec.2.2.1.length g5.2),(5,aJ none ([]:List Int).length 0)]⟩)]) (none,0) (fun jv r h g5=>?_) fun g5=>?_
 ·refine go2 (fun ox FO asN h=>?_) (fun h=>?_)
  ·refine bj (kz (k:=4) rL (ae rfl) (c9 4) ⟨by decide,rfl⟩) ?_;refine bj (ht (i:=7) (q:=4) (β:=Vector (List Int) 6) (γ:=Int) lq (ae rfl) rfl rfl) ?_;refine aM ?_;refine az h fun cd hE h=>ia 2 underlying56 bR hY hE fun tU Wo=>?_;refine bj (kz (k:=4) rL (ae rfl) (c9 4) ⟨by decide,rfl⟩) ?_;refine J.jh (i:=7) (γ:=Int) (b':=(eb jv.2.2 4 []:Vector (List Int) 6)) (os':= [(0,aJ g1.1 ar.2.2.1.length g1.2),(1,aJ g2.1 aU.2.2.1.length g2.2),(2,aJ g3.1 cz.2.2.1.length g3.2),(3,aJ g4.1 eL.2.2.1.length g4.2),(4,aJ tU cd.length Wo),(5,aJ none ([]:List Int).length 0)]) ((aK.id (Vector (List Int) 6)).comp (aK.idx (α:=List Int) 6 4 (by decide))) lq (ae rfl) (ae rfl) ir rfl rfl rfl rfl ?_;refine aM ?_;cases h;exact ib (tU,Wo) 1
  cases h;exact ha (g5.1,g5.2) 0
 refine aM ?_;refine az h fun lG ak h=>fD (γ:=(Option Nat×Nat)) (δ:=(Option Nat×Nat)) ak [0,1,2,3,17,18,19,20,32,33,34,35,47,48,49,50,62,63,64,65,77,78,79,80,92,93] (fun kl g6=>[(94,I.of kl.1)]) (fun kl g6=>[(0,⟨g6.1,.row 3 kl.2.1 g6.2⟩),(6,⟨some b6,.ch kl.2.2 [(0,aJ g1.1 ar.2.2.1.length g1.2),(1,aJ g2.1 aU.2.2.1.length g2.2),(2,aJ g3.1 cz.2.2.1.length g3.2),(3,aJ g4.1 eL.2.2.1.length g4.2),(4,aJ g5.1 jX.2.2.1.length g5.2),(5,aJ g6.1 kl.2.1.length g6.2)]⟩)]) (fun dM=>Exit.exit 10) (fun dM g6=>[(94,I.of dM.1),(95,I.of dM.2.1)]) (fun dM g6=>[(0,⟨g6.1,.row 3 dM.2.2.1 g6.2⟩),(6,⟨some b6,.ch dM.2.2.2 [(0,aJ g1.1 ar.2.2.1.length g1.2),(1,aJ g2.1 aU.2.2.1.length g2.2),(2,aJ g3.1 cz.2.2.1.length g3.2),(3,aJ g4.1 eL.2.2.1.length g4.2),(4,aJ g5.1 jX.2.2.1.length g5.2),(5,aJ g6.1 dM.2.2.1.length g6.2)]⟩)]) (none,0) (fun kl r h g6=>?_) fun g6=>?_
 ·refine go2 (fun rj FP asO h=>?_) (fun h=>?_)
  ·refine bj (kz (k:=5) rL (ae rfl) (c9 5) ⟨by decide,rfl⟩) ?_;refine bj (ht (i:=7) (q:=5) (β:=Vector (List Int) 6) (γ:=Int) lq (ae rfl) rfl rfl) ?_;refine aM ?_;refine az h fun b9 hS h=>ia 1 underlying56 bR hY hS fun Fj Wp=>?_;refine bj (kz (k:=5) rL (ae rfl) (c9 5) ⟨by decide,rfl⟩) ?_;refine J.jh (i:=7) (γ:=Int) (b':=(eb kl.2.2 5 []:Vector (List Int) 6)) (os':= [(0,aJ g1.1 ar.2.2.1.length g1.2),(1,aJ g2.1 aU.2.2.1.length g2.2),(2,aJ g3.1 cz.2.2.1.length g3.2),(3,aJ g4.1 eL.2.2.1.length g4.2),(4,aJ g5.1 jX.2.2.1.length g5.2),(5,aJ Fj b9.length Wp)]) ((aK.id (Vector (List Int) 6)).comp (aK.idx (α:=List Int) 6 5 (by decide))) lq (ae rfl) (ae rfl) ir rfl rfl rfl rfl ?_;refine aM ?_;cases h;exact ib (Fj,Wp) 1
  cases h;exact ha (g6.1,g6.2) 0
 refine aj.mP (aj.next (cm (J.mx (β:=Vector (List Int) 6) (γ:=Int) (b':=(eb lG.2.2.2 0 ar.2.2.1:Vector (List Int) 6)) ((aK.id (Vector (List Int) 6)).comp (aK.idx (α:=List Int) 6 0 (by decide))) 6 5 0 rfl rfl rfl rfl rfl rfl ?_)));refine J.mx (β:=Vector (List Int) 6) (γ:=Int) (b':=(eb (eb lG.2.2.2 0 ar.2.2.1) 1 aU.2.2.1:Vector (List Int) 6)) ((aK.id (Vector (List Int) 6)).comp (aK.idx (α:=List Int) 6 1 (by decide))) 6 4 0 rfl rfl rfl rfl rfl rfl ?_;refine J.mx (β:=Vector (List Int) 6) (γ:=Int) (b':=(eb (eb (eb lG.2.2.2 0 ar.2.2.1) 1 aU.2.2.1) 2 cz.2.2.1:Vector (List Int) 6)) ((aK.id (Vector (List Int) 6)).comp (aK.idx (α:=List Int) 6 2 (by decide))) 6 3 0 rfl rfl rfl rfl rfl rfl ?_;refine J.mx (β:=Vector (List Int) 6) (γ:=Int) (b':=(eb (eb (eb (eb lG.2.2.2 0 ar.2.2.1) 1 aU.2.2.1) 2 cz.2.2.1) 3 eL.2.2.1:Vector (List Int) 6)) ((aK.id (Vector (List Int) 6)).comp (aK.idx (α:=List Int) 6 3 (by decide))) 6 2 0 rfl rfl rfl rfl rfl rfl ?_;refine J.mx (β:=Vector (List Int) 6) (γ:=Int) (b':=(eb (eb (eb (eb (eb lG.2.2.2 0 ar.2.2.1) 1 aU.2.2.1) 2 cz.2.2.1) 3 eL.2.2.1) 4 jX.2.2.1:Vector (List Int) 6)) ((aK.id (Vector (List Int) 6)).comp (aK.idx (α:=List Int) 6 4 (by decide))) 6 1 0 rfl rfl rfl rfl rfl rfl ?_;refine J.mx (β:=Vector (List Int) 6) (γ:=Int) (b':=(eb (eb (eb (eb (eb (eb lG.2.2.2 0 ar.2.2.1) 1 aU.2.2.1) 2 cz.2.2.1) 3 eL.2.2.1) 4 jX.2.2.1) 5 lG.2.2.1:Vector (List Int) 6)) ((aK.id (Vector (List Int) 6)).comp (aK.idx (α:=List Int) 6 5 (by decide))) 6 0 0 rfl rfl rfl rfl rfl rfl ?_;exact J.rM 6 rfl go
instance aqE:e9 prog 105 _ _ _ wE I.of I.of I.of:= .i func105 rfl ntmps105 rfl fun aa ai r h W A=>by
 unfold wE at h;refine aM ?_;refine az h fun ar ak h=>fD (γ:=Unit) (δ:=Unit) ak [0,1,7,8] (fun s1 g1=>[(4,I.of (0:Int)),(9,I.of s1)]) (fun s1 g1=>[]) (fun av=>Sum.elim (fun av=>Exit.exit 0) (fun av=>Exit.ret) av) (fun av g1=>Sum.elim (fun av=>[(4,I.of (0:Int)),(9,I.of av.1),(10,I.of av.2)]) (fun av=>[(4,I.of av.1),(5,I.of av.2.1),(6,I.of av.2.2.1),(9,I.of av.2.2.2.1),(10,I.of av.2.2.2.2.1),(16,I.of av.2.2.2.2.2)]) av) (fun av g1=>[]) () (fun s1 r h g1=>?_) fun g1=>?_
 ·exact go
 rcases ar with ar | ar
 ·simp only [Sum.elim_inl] at h;exact go
 simp only [Sum.elim_inr] at h;exact go
instance Js:mj prog 166 _ _ Bc I.of I.of:= .i func166 rfl ntmps166 rfl fun aa r h W A=>by
 unfold Bc at h;refine aM fun bo bN b6=>?_;refine az h fun ar ak h=>fD (γ:=Unit) (δ:=Unit) ak [0,1,2,3] (fun s1 g1=>[(4,I.of s1.1)]) (fun s1 g1=>[(0,aS b6 s1.2)]) (fun av=>Exit.exit 0) (fun av g1=>[(4,I.of av.1),(6,I.of av.2.1)]) (fun av g1=>[(0,aS b6 av.2.2)]) () (fun s1 r h g1=>?_) fun g1=>?_
 ·refine aM (fun h=>?_);refine az h fun aL dg h=>az h fun bn eK h=>az h fun bz dh h=>az h fun z2 hz h=>fk [0,1,2,3,4,5,6] ?_;refine aw.vZ 3 (ay 9 [] [] _::ay 10 [] [] _::ay 11 [1] [] _::ay 12 [] [] _::ay 13 [3] [2] _::ay 14 [] [] _::ay 15 [5] [] _::ay 16 [4,6] [] _::ay 17 [7] [] _::ay 18 [8] [] _::ay 19 [] [] _::ay 20 [10] [2] _::ay 21 [] [] _::ay 22 [12] [] _::ay 23 [11,13] [] _::ay 24 [14] [] _::ay 25 [15] [] _::ay 26 [0] [] _::hA [9,17] [0] [0] (fun hd=>aS b6 bn)::ay 27 [2] [] _::hA [16,18,19] [0] [0] (fun hd=>aS b6 z2)::[]) (fun cZ=>?_);refine aj.dN (L2:= [aS b6 z2,aS bN (default:Vector Bool 128),aS bo aa]) rfl (fF ?_);exact go
 exact go
instance aqF:e9 prog 133 _ _ _ qK I.of I.of I.of:= .i func133 rfl ntmps133 rfl fun aa ai r h W A=>by
 unfold qK at h;exact go
theorem Q2 {aa ai bV r}(h:AG aa ai=some r):mi prog 44 [I.bE bV,I.of ai] bV aa (I.of r) aa:=by
 unfold AG at h;refine bJ.of func44 rfl ntmps44 rfl fun W A=>cm (bj (c5 (look_nil (α:=aC))) (jF ?_));refine J.own (α:=aC) 54 (bj (c5 lK) ?_);refine aM ?_;refine az h fun ar ak h=>fD (γ:=(Option Nat×Nat)) (δ:=(Option Nat×Nat)) ak [0,1,4,11,12] (fun s1 g1=>[(5,I.eq (aJ g1.1 s1.2.length g1.2)),(13,I.of s1.1)]) (fun s1 g1=>[(0,⟨g1.1,.row 54 s1.2 g1.2⟩)]) (fun av=>Exit.exit 0) (fun av g1=>[(5,I.eq (aJ g1.1 av.2.2.length g1.2)),(13,I.of av.1),(14,I.of av.2.1)]) (fun av g1=>[(0,⟨g1.1,.row 54 av.2.2 g1.2⟩)]) (none,0) (fun s1 r h g1=>?_) fun g1=>?_
 ·refine go2 (fun aL dg bo h=>?_) (fun h=>?_)
  ·refine az h fun m1 b4 h=>jS (γ:=(Option Nat×Nat)) [0,1,4,7,11,12,13,14,21] (fun g2=>[(5,I.eq (aJ g2.1 m1.length g2.2))]) (fun g2=>[(1,⟨g2.1,.row 54 m1 g2.2⟩)]) (fun g2=>?_) (fun hm ad=>?_) fun hm ad=>?_
   ·refine aM ?_;cases h;exact ib (g2.1,g2.2) 1
   ·have h:=gk ad b4;refine aM ?_;refine az h fun an bx h=>ia 1 underlying43 eZ fC bx fun ea dv=>?_;refine dW (J.nil ?_);cases h;exact dQ 0 (hm (ea,dv))
   have h:=gl ad b4;refine aw.skip ?_;cases h;exact dQ 0 (hm (g1.1,g1.2))
  cases h;exact ha (g1.1,g1.2) 0
 refine aM ?_;exact aj.j2 (α:=aC) 0 [4,5,27] ⟨rfl,rfl,rfl,trivial⟩ rfl go
theorem Rm {aa ai r}(h:AX aa ai=some r):dZ prog 50 [I.ptr aa,I.of ai] (I.of r):=by
 unfold AX at h;refine dZ.of func50 rfl ntmps50 rfl fun W A=>?_;refine aM ?_;refine az h fun ar ak h=>fD (γ:=Unit) (δ:=Unit) ak [0,1,4,11,12] (fun s1 g1=>[(5,I.of s1.1),(13,I.of s1.2)]) (fun s1 g1=>[]) (fun av=>Exit.exit 0) (fun av g1=>[(5,I.of av.1),(13,I.of av.2.1),(14,I.of av.2.2)]) (fun av g1=>[]) () (fun s1 r h g1=>?_) fun g1=>?_
 ·refine aM (fun aL dg bo h=>?_);refine az h fun m1 b4 h=>jS (γ:=Unit) [0,1,4,7,11,12,13,14,20] (fun g2=>[(5,I.of m1)]) (fun g2=>[]) (fun g2=>?_) (fun hm ad=>?_) fun hm ad=>?_
  ·exact go
  ·have h:=gk ad b4;exact go
  have h:=gl ad b4;exact go
 exact go
theorem KO {hp aa r}(h:x3 hp aa=some r):ik prog 38 [I.of aa] hp (I.of r) hp:=by
 unfold x3 at h;refine bJ.of func38 rfl ntmps38 rfl fun W A=>cm (bj (c5 nU) ?_);refine aM (fun h=>?_);refine bj (c5 nU) ?_;exact go
def R7:Go.Shelf.Ren:=⟨fun | 6=>135 | 15=>139 | 14=>151 | 28=>164 | 29=>165 | 20=>172 | 21=>173 | 22=>174 | 23=>175 | 24=>176 | 25=>177 | 26=>178 | 27=>179 | 46=>188 | 47=>182 | 48=>183 | 49=>189 | 50=>190 | 57=>192 | n=>n,fun | 22=>43 | 24=>54 | 25=>245 | 3=>3 | 39=>188 | 0=>0 | 53=>268 | 55=>104 | 4=>4 | 46=>262 | 45=>261 | 50=>236 | 5=>5 | 9=>9 | 66=>283 | 70=>287 | 76=>292 | 77=>191 | n=>n,fun | n=>n⟩
theorem agT:Go.Proofs.SlLaysF0.n6 prog R7:= {
 mixed:=by kernel_rfl
 f6:=⟨f135.name,by decide,func135.trans (congrArg some (by kernel_rfl))⟩
 f14:=⟨f151.name,by decide,func151.trans (congrArg some (by kernel_rfl))⟩
 f15:=func139.trans (congrArg some (by kernel_rfl))
 f20:=⟨f172.name,by decide,func172.trans (congrArg some (by kernel_rfl))⟩
 f21:=⟨f173.name,by decide,func173.trans (congrArg some (by kernel_rfl))⟩
 f22:=⟨f174.name,by decide,func174.trans (congrArg some (by kernel_rfl))⟩
 f23:=⟨f175.name,by decide,func175.trans (congrArg some (by kernel_rfl))⟩
 f24:=⟨f176.name,by decide,func176.trans (congrArg some (by kernel_rfl))⟩
 f25:=⟨f177.name,by decide,func177.trans (congrArg some (by kernel_rfl))⟩
 f26:=⟨f178.name,by decide,func178.trans (congrArg some (by kernel_rfl))⟩
 f27:=⟨f179.name,by decide,func179.trans (congrArg some (by kernel_rfl))⟩
 f28:=func164.trans (congrArg some (by kernel_rfl))
 f29:=func165.trans (congrArg some (by kernel_rfl))
 f46:=⟨f188.name,by decide,func188.trans (congrArg some (by kernel_rfl))⟩
 f47:=func182.trans (congrArg some (by kernel_rfl))
 f48:=func183.trans (congrArg some (by kernel_rfl))
 f49:=⟨f189.name,by decide,func189.trans (congrArg some (by kernel_rfl))⟩
 f50:=⟨f190.name,by decide,func190.trans (congrArg some (by kernel_rfl))⟩
 f57:=⟨f192.name,by decide,func192.trans (congrArg some (by kernel_rfl))⟩
 t0:=underlying0
 a0:=isAgg0
 z0:=sizeOf0
 v0:=zeroValue0
 t3:=underlying3
 a3:=isAgg3
 z3:=sizeOf3
 v3:=zeroValue3
 t4:=underlying4
 a4:=isAgg4
 z4:=sizeOf4
 v4:=zeroValue4
 t5:=underlying5
 a5:=isAgg5
 z5:=sizeOf5
 v5:=zeroValue5
 t9:=underlying9
 a9:=isAgg9
 z9:=sizeOf9
 v9:=zeroValue9
 t22:=underlying43
 a22:=isAgg43
 z22:=sizeOf43
 v22:=zeroValue43
 t25:=underlying245
 a25:=isAgg245
 z25:=sizeOf245
 v25:=zeroValue245
 t39:=underlying188
 a39:=isAgg188
 z39:=sizeOf188
 v39:=zeroValue188
 t45:=underlying261
 a45:=isAgg261
 z45:=sizeOf261
 v45:=zeroValue261
 t46:=underlying262
 a46:=isAgg262
 z46:=sizeOf262
 v46:=zeroValue262
 t50:=underlying236
 a50:=isAgg236
 z50:=sizeOf236
 v50:=zeroValue236
 t53:=underlying268
 a53:=isAgg268
 z53:=sizeOf268
 v53:=zeroValue268
 t55:=underlying104
 a55:=isAgg104
 z55:=sizeOf104
 v55:=zeroValue104
 t66:=underlying283
 a66:=isAgg283
 z66:=sizeOf283
 v66:=zeroValue283
 t70:=underlying287
 a70:=isAgg287
 z70:=sizeOf287
 v70:=zeroValue287
 t76:=underlying292
 a76:=isAgg292
 z76:=sizeOf292
 v76:=zeroValue292
 t77:=underlying191
 a77:=isAgg191
 z77:=sizeOf191
 v77:=zeroValue191 }
theorem Y9 {xs F K}(h:ag.u4 xs F K){key:Option Nat}{cap:Nat} :bJ prog 135 [.eq (aJ key xs.length cap),.FQ prog F] [⟨key,.row 54 xs cap⟩] (δ:= {r:List aC // xs.length=r.length∧K r}) (fun _=>.bP []) (fun d=>[⟨key,.row 54 d.1 cap⟩]):=UY (ρ:=R7) agT (fun _=>by kernel_rfl) (fun _=>by kernel_rfl) rfl h
theorem o8 {aa bV r}(h:mJ aa=some r):mi prog 27 [I.bE bV] bV aa (I.of r.1) r.2:=by
 unfold mJ at h;refine bJ.of func27 rfl ntmps27 rfl fun W A=>?_;refine aM ?_;refine J.bm 0 rfl (az h fun an bx h=>ef 1 gB (gx bx) fun av=>?_);exact go
theorem abC {hp aa ai Q}(h:Bi hp aa ai Q):k6 prog 57 [I.of aa,I.of ai] hp Q:=by
 unfold Bi at h;refine bJ.of func57 rfl ntmps57 rfl fun W A=>cm (pE fun bo=>?_);refine bj (c5 nU) ?_;refine go2 (fun an bx h=>?_) (fun an bx aL dg bN aD cc h=>?_)
 ·refine bj (c5 nU) (cv (aw.ret (aj.ret ?_)));exact aj.eh (⟨⟨((none:Ref),hp),h⟩,()⟩: {r // _}×_) (fE 1) rfl rfl (dw rfl)
 refine J.ET (α:=Int) (β:=aC) 2 rfl (Cell.lP ([]:List (Int×aC))) (fun _=>rfl) rfl fun bT pD=>?_;replace h:=ag.pe h bT pD;refine ag.br h fun bn eK h=>pU eK (kg (b:=({ (default:j1) with uU:=aD.1,uV:=(((au aa.bS aL).c4).length:Int),oB:=(⟨some bT.1⟩:eQ) } :j1)) rfl agU agV (.cons ZK rfl (ae rfl) rfl (.cons ZL rfl (ae rfl) rfl (.cons Qx rfl (ae rfl) rfl (.nil))))) ?_;refine J.xa 2 rfl (Cell.ps bn) (fun _=>rfl) (ae rfl) rfl fun a2 oh=>?_;replace h:=ag.pe h a2 oh;refine aM ?_;refine xm (γ:=Unit) h 2 [0,1,2,4,5,6,7,8,9,16,34,42] (fun m1 g1=>[]) (fun m1 g1=>[]) (fun m1 g1=>aI m1) (fun m1 g1 h=>?_) (fun hm ad h=>?_) (fun hm ad h=>?_)
 ·refine aM ?_;exact aj.eh (⟨⟨((some a2.1:Ref),m1),h⟩,()⟩: {r // _}×_) (fE 2) rfl rfl (dw rfl)
 ·refine aw.fv (cH ?_);refine J.dB 2 0 rfl ajs (abz h) rfl rfl trivial rfl fun⟨⟨bf,h⟩,av⟩=>J.db ?_;refine sX agW agX { ua:=bf.1:o9 } (q2 Q3 .nil) ?_;refine bj (MC underlying201 rfl (ae rfl) (fun _ _ _ h=>aco h)) ?_;refine aM ?_;exact ag.br h fun c1 dy h=>ag.br h fun bH gD h=>J.ns (k':=Cell.ps ({ c1 with mL:=(iq.pt ({ ua:=bf.1:o9 })) } :j1)) 2 rfl ((aK.id j1).comp Hh) (v:=((iq.pt ({ ua:=bf.1:o9 })):iq)) I7 (ae rfl) (ae rfl) (yM dy) rfl rfl rfl rfl (dc gD) (J.nil (dQ 0 (hm bH () h)))
 refine aM ?_;refine xm (γ:=Unit) h 2 [0,1,2,4,5,6,7,8,9,16,34,42,50] (fun m2 g2=>[]) (fun m2 g2=>[]) (fun m2 g2=>aI m2) (fun m2 g2 h=>?_) (fun hm ad h=>?_) (fun hm ad h=>?_)
 ·exact dQ 0 (hm m2 () h)
 ·refine aM ?_;refine ag.br h fun bz dh h=>ag.br h fun bu fl h=>aw.fy 8 ?_;refine aM ?_;refine ag.br h fun m3 gM h=>q3 (γ:=Unit) 2 [0,1,2,4,5,6,7,8,9,11,16,34,42,50,61] (fun g3=>[(10,I.of m3)]) (fun g3=>[]) (fun g3=>aI a2.2) (fun g3=>?_) (fun hm ad=>?_) (fun hm ad=>?_)
  ·refine aM ?_;refine J.ET (α:=Vector aX 4) (β:=Ref) 2 rfl (Cell.nB ([]:List ((Vector aX 4)×Ref))) (fun _=>rfl) rfl fun a3 alT=>?_;replace h:=ag.pe h a3 alT;refine ag.br h fun z2 hz h=>pU hz (kg (b:= { u5:=aD.2,gR:=m3,qP:=(⟨some a3.1⟩:eQ):kV }) rfl agY agZ (.cons QE rfl (ae rfl) rfl (.cons Hf rfl (ae rfl) rfl (.cons Am rfl (ae rfl) rfl (.nil))))) ?_;refine bj (MC underlying204 rfl (ae rfl) (fun _ _ _ h=>acp h)) ?_;refine aM ?_;exact ag.br h fun c2 eR h=>ag.br h fun cE tV h=>J.ns (k':=Cell.ps ({ c2 with mL:=(iq.pv z2) } :j1)) 2 rfl ((aK.id j1).comp Hh) (v:=((iq.pv z2):iq)) I7 (ae rfl) (ae rfl) (yM eR) rfl rfl rfl rfl (dc tV) (J.nil (dQ 0 (hm cE () h)))
  ·have h:=gk ad gM;exact go
  have h:=gl ad gM;exact go
 refine aM ?_;refine ag.br h fun cd hE h=>ef 0 ajt (aaT hE) fun cQ=>?_;refine J.UZ 4 2 (Cell.tW cd cQ.2.1 cQ.2.2) rfl rfl rfl rfl List.mem_cons_self fun a4 alU alV=>?_;replace h:=ag.pe (h (cQ.2.1,cQ.2.2)) a4 alU;refine J.U0 37 rfl alV (sX ag0 ag1 { dd:=(some a4.1:Ref):pa } (q2 Q4 .nil) ?_);refine bj (MC underlying208 rfl (ae rfl) (fun _ _ _ h=>acq h)) ?_;refine aM ?_;exact ag.br h fun cY gF h=>ag.br h fun hZ Fk h=>J.ns (k':=Cell.ps ({ cY with mL:=(iq.pw ({ dd:=(some a4.1:Ref):pa })) } :j1)) 2 rfl ((aK.id j1).comp Hh) (v:=((iq.pw ({ dd:=(some a4.1:Ref):pa })):iq)) I7 (ae rfl) (ae rfl) (yM gF) rfl rfl rfl rfl (dc Fk) (J.nil (dQ 0 (hm hZ () h)))
theorem Z0 {aa bV r}(h:Dw aa=some r):mi prog 23 [I.bE bV] bV aa (I.of r.1) r.2:=by
 unfold Dw at h;refine bJ.of func23 rfl ntmps23 rfl fun W A=>cm (bj (c5 (look_nil (α:=eW))) ?_);refine aM ?_;refine J.bm 0 rfl (az h fun an bx h=>ef 1 gB (gx bx) fun av=>?_);refine az h fun aL dg h=>Cm dg underlying56 bR ?_;refine di (k9 bR) ?_;refine bj (ss (b:=({ (default:eW) with bU:=1,kt:=1,rC:=4,jg:=au ([0,0,65535,3]:List Int) aL } :eW)) [3] Tq rfl ag2 U1 (.cons Rf rfl (c9 1) rfl (by rfl) (.cons QR rfl (c9 1) rfl (by rfl) (.cons QS rfl (c9 4) rfl (by rfl) (.cons QL rfl (ae rfl) rfl (by rfl) (.nil)))))) ?_;refine J.own (α:=iO) 143 (J.qR (z:=(default:eW)) [3] Tq U1 rfl fun bo=>J.own (α:=iO) 143 (J.uW (i:=1) U2 (ae rfl) (ae rfl) rfl (jF (bj (kg (b:=({ (default:aX) with cO:=1#64 } :aX)) rfl BQ tN (.cons qJ rfl (Bo 1 rfl) rfl (.nil))) ?_))));refine bj (kg (b:=({ (default:aX) with cO:=15#64 } :aX)) rfl BQ tN (.cons qJ rfl (Bo 15 rfl) rfl (.nil))) ?_;refine az h fun bn eK h=>pU eK (kg (b:= { ck:=({ (default:aX) with cO:=1#64 } :aX),hN:=({ (default:aX) with cO:=15#64 } :aX),uX:=2:iO }) rfl U3 I8 (.cons KW rfl (ae rfl) rfl (.cons K0 rfl (ae rfl) rfl (.cons K1 rfl (c9 2) rfl (.nil))))) ?_;refine bj (kg (b:=({ (default:aX) with cO:=2#64 } :aX)) rfl BQ tN (.cons qJ rfl (Bo 2 rfl) rfl (.nil))) ?_;refine bj (kg (b:=({ (default:aX) with cO:=3#64 } :aX)) rfl BQ tN (.cons qJ rfl (Bo 3 rfl) rfl (.nil))) ?_;refine az h fun z2 hz h=>pU hz (kg (b:= { ck:=({ (default:aX) with cO:=2#64 } :aX),hN:=({ (default:aX) with cO:=3#64 } :aX),uX:=3:iO }) rfl U3 I8 (.cons KW rfl (ae rfl) rfl (.cons K0 rfl (ae rfl) rfl (.cons K1 rfl (c9 3) rfl (.nil))))) ?_;refine J.oN (α:=iO) (r:= [bn,z2]) underlying139 Nn I8 rfl rfl (.cons (by simp) (ae rfl) (.cons (by simp) (ae rfl) (.nil))) rfl fun ea=>?_;refine di (bY aeo.fd) ?_;refine J.jh (i:=2) (γ:=iO) (b':=({ ({ (default:eW) with bU:=1,kt:=1,rC:=4,jg:=au ([0,0,65535,3]:List Int) aL } :eW) with sv:= [] } :eW)) (os':= [(3,aJ ea [bn,z2].length 2)]) ((aK.id eW).comp Hw) I9 (ae rfl) (ae rfl) ir rfl rfl rfl rfl ?_;refine aM ?_;refine J.bm 4 rfl (az h fun aD cc h=>ef 1 px (o8 cc) fun cQ=>cv ?_);refine az h fun m1 b4 h=>jS (γ:=(Option Nat×Nat)) [0,2,3,4,23] (fun g1=>[]) (fun g1=>[(0,aS bV m1.1),(1,⟨g1.1,.row 143 m1.2 g1.2⟩),(3,⟨some bo,.ch ({ ({ (default:eW) with bU:=1,kt:=1,rC:=4,jg:=au ([0,0,65535,3]:List Int) aL } :eW) with sv:= [] } :eW) [(3,aJ g1.1 m1.2.length g1.2)]⟩)]) (fun g1=>?_) (fun hm ad=>?_) fun hm ad=>?_
 ·refine aM ?_;refine J.bm 0 rfl (az h fun bf et h=>ef 1 gB (gx et) fun ev=>?_);refine aM fun bz dh z3 mW bN z4 r5 b6 h=>?_;refine J.bm 2 rfl (az h fun bu fl h=>ef 1 gB (gx fl) fun hJ=>?_);refine hB sC (cv ?_);refine az h fun m2 dj h=>jS (γ:=Unit) [0,2,3,4,5,6,23,50] (fun g2=>[]) (fun g2=>[(0,aS bV m2.1),(1,aS b6 m2.2)]) (fun g2=>?_) (fun hm ad=>?_) fun hm ad=>?_
  ·exact aj.next (cm (J.mx (β:=eW) (γ:=iO) (b':=({ ({ (default:eW) with bU:=1,kt:=1,rC:=4,jg:=au ([0,0,65535,3]:List Int) aL } :eW) with sv:=m1.2 } :eW)) ((aK.id eW).comp Hw) 5 3 0 rfl rfl rfl rfl rfl rfl (J.rM 5 rfl go)))
  ·have h:=gk ad dj;refine aM ?_;refine J.bm 0 rfl (az h fun cd hE h=>ef 1 gB (gx hE) fun ec=>?_);exact go
  have h:=gl ad dj;exact go
 ·have h:=gk ad b4;refine az h fun b9 hS h=>az h fun o1 JT h=>az h fun cC lT h=>az h fun cR ic h=>az h fun kd JU h=>az h fun b1 nF h=>fk [0,2,3,4,7,8,9,10,11,12,13,14,15,16,17,18,19,20,21,22,23] ?_;refine aw.cn 5 (ay 24 [] [] _::ay 25 [0] [3] (I.eq (aJ ea [bn,z2].length 2))::ay 26 [] [] _::⟨some 27,[2],[0],[0],fun _=>I.of b9.1,fun hd _=>aS bV b9.2⟩::ay 28 [3] [] _::ay 29 [4] [] _::ay 30 [5] [] _::ay 31 [] [] _::ay 32 [] [] _::ay 33 [] [] _::⟨some 34,[3,9],[0],[0],fun _=>I.of cC.1,fun hd _=>aS bV cC.2⟩::ay 35 [8,10] [] _::ay 36 [11] [] _::ay 37 [6,7,12] [] _::ay 38 [13] [] _::⟨some 39,[1,14],[1],[1],fun hd=>I.eq (aJ (hd 15 0) b1.length ((hd 15 1).getD 0)),fun hd _=>⟨(hd 15 0),.row 143 b1 ((hd 15 1).getD 0)⟩⟩::ay 40 [] [] _::hA [1,15,16] [3] [3] (fun hd=>⟨some bo,.ch ({ ({ (default:eW) with bU:=1,kt:=1,rC:=4,jg:=au ([0,0,65535,3]:List Int) aL } :eW) with sv:= [] } :eW) [(3,aJ (hd 15 0) b1.length ((hd 15 1).getD 0))]⟩)::[]) (dG ?_ (dG ?_ (dG ?_ (dG ?_ (dG ?_ h3))))) (fun cZ=>?_)
  ·exact ei.q (o2 fun hd E' L' aE aq=>ht (i:=3) (q:=0) (β:=eW) (γ:=iO) I9 (ae (aE _ _ rfl)) (aq 3 _ rfl rfl) rfl)
  ·intro hd E' L' aE aq b3;exact J.bm 0 (aq 0 _ rfl rfl) (J.lj (Lin:= [aS bV aD.2]) (Lr:=L'.eraseIdx 0) gB (gx hS) ⟨ae (aE _ _ rfl),c9 2,trivial⟩ rfl fun dM=>J.nil (aj.back 0 (aq 0 _ rfl rfl) (aj.fin (cP []) rfl rfl)))
  ·intro hd E' L' aE aq b3;exact J.bm 0 (aq 0 _ rfl rfl) (J.lj (Lin:= [aS bV b9.2]) (Lr:=L'.eraseIdx 0) gB (gx lT) ⟨ae (aE _ _ rfl),c9 4,trivial⟩ rfl fun kT=>J.nil (aj.back 0 (aq 0 _ rfl rfl) (aj.fin (cP []) rfl rfl)))
  ·intro hd E' L' aE aq b3;refine J.app (i:=1) underlying139 Nn I8 (bytes:=40) (by kernel_rfl) (ae (aE _ _ rfl)) (aq 1 _ rfl rfl) (ae (aE _ _ rfl)) nF rfl fun iy dv=>?_;exact J.nil (aj.fin (cP [iy,some dv]) rfl rfl)
  ·intro hd E' L' aE aq b3;refine J.jh (i:=3) (γ:=iO) (b':=({ ({ (default:eW) with bU:=1,kt:=1,rC:=4,jg:=au ([0,0,65535,3]:List Int) aL } :eW) with sv:= [] } :eW)) (os':= [(3,aJ (hd 15 0) b1.length ((hd 15 1).getD 0))]) ((aK.id eW).comp Hw) I9 (ae (aE _ _ rfl)) (ae (aE _ _ rfl)) ir (aq 3 _ rfl rfl) rfl rfl rfl (J.nil ?_);exact aj.fin (cP []) rfl rfl
  refine aj.dN (L2:= [aS bV cC.2,⟨(cZ 15 0),.row 143 b1 ((cZ 15 1).getD 0)⟩,⟨none,.row 143 ([]:List iO) 0⟩,⟨some bo,.ch ({ ({ (default:eW) with bU:=1,kt:=1,rC:=4,jg:=au ([0,0,65535,3]:List Int) aL } :eW) with sv:= [] } :eW) [(3,aJ (cZ 15 0) b1.length ((cZ 15 1).getD 0))]⟩,⟨none,.row 143 ([]:List iO) 0⟩]) rfl (fF ?_);cases h;exact dQ 0 (hm ((cZ 15 0),((cZ 15 1).getD 0)))
 have h:=gl ad b4;refine aw.skip ?_;cases h;exact dQ 0 (hm (ea,2))
theorem ZM {aa bV r}(h:Dl aa=some r):mi prog 24 [I.bE bV] bV aa (I.of r.1) r.2:=by
 unfold Dl at h;refine bJ.of func24 rfl ntmps24 rfl fun W A=>cm (bj (c5 (look_nil (α:=fp))) ?_);refine aM fun bo=>?_;refine az h fun bn eK h=>az h fun z2 hz h=>az h fun z3 mW h=>az h fun z4 r5 h=>az h fun z5 zs h=>az h fun qv OM h=>az h fun o1 JT h=>az h fun kd JU h=>az h fun z9 ON h=>az h fun pG Wq h=>az h fun pH Wr h=>az h fun z12 Fl h=>az h fun mX N8 h=>az h fun an bx h=>az h fun oT N9 h=>az h fun aD cc h=>az h fun sY Oa h=>az h fun zt aju h=>az h fun z17 ajv h=>aw.mT 1 (fk [0,2,3,5] ?_);refine aw.cn 3 (ay 6 [] [] _::ay 7 [] [] _::ay 8 [1] [] _::ay 9 [2] [] _::ay 10 [] [] _::ay 11 [4] [] _::ay 12 [] [0] _::ay 13 [6] [] _::ay 14 [7] [] _::ay 15 [5,8] [] _::ay 16 [] [] _::ay 17 [10] [] _::ay 18 [] [0] _::ay 19 [12] [] _::ay 20 [] [] _::ay 21 [14] [] _::ay 22 [13,15] [] _::ay 23 [11,16] [] _::ay 24 [] [] _::ay 25 [] [] _::ay 26 [18,19] [] _::ay 27 [] [] _::ay 28 [] [0] _::ay 29 [22] [] _::ay 30 [] [] _::ay 31 [24] [] _::ay 32 [21,23,25] [] _::ay 33 [20,26] [] _::ay 34 [] [] _::⟨some 35,[28],[1],[1],fun _=>I.of an.1,fun hd _=>aS bV an.2⟩::ay 36 [29] [] _::ay 37 [30] [] _::ay 38 [] [] _::⟨some 39,[29,32],[1],[1],fun _=>I.of aD.1,fun hd _=>aS bV aD.2⟩::ay 40 [33] [] _::ay 41 [34] [] _::ay 42 [35] [] _::ay 43 [36] [] _::ay 44 [31,37] [] _::ay 45 [38] [] _::⟨some 46,[0,3,9,17,27,39],[2],[2],fun hd=>I.eq (aJ (hd 40 0) [bn,z2,z5,kd,mX,z17].length 6),fun hd _=>⟨(hd 40 0),.row 149 ([bn,z2,z5,kd,mX,z17]:List fp) 6⟩⟩::⟨some 4,[40],[],[],fun hd=>I.eq (aJ (hd 40 0) [bn,z2,z5,kd,mX,z17].length 6),fun _ _=>⟨none,.dead⟩⟩::[]) (dG ?_ (dG ?_ (dG ?_ (dG ?_ h3)))) (fun cZ=>?_)
 ·intro hd E' L' aE aq b3;exact J.bm 1 (aq 1 _ rfl rfl) (J.lj (Lin:= [aS bV aa]) (Lr:=L'.eraseIdx 1) gB (gx bx) ⟨ae (aE _ _ rfl),c9 2,trivial⟩ rfl fun av=>J.nil (aj.back 1 (aq 1 _ rfl rfl) (aj.fin (cP []) rfl rfl)))
 ·intro hd E' L' aE aq b3;exact J.bm 1 (aq 1 _ rfl rfl) (J.lj (Lin:= [aS bV an.2]) (Lr:=L'.eraseIdx 1) gB (gx cc) ⟨ae (aE _ _ rfl),c9 256,trivial⟩ rfl fun cQ=>J.nil (aj.back 1 (aq 1 _ rfl rfl) (aj.fin (cP []) rfl rfl)))
 ·intro hd E' L' aE aq b3;refine J.oN (α:=fp) (r:= [bn,z2,z5,kd,mX,z17]) underlying26 Ja ag3 rfl rfl (.cons (by simp) (ae (aE _ _ rfl)) (.cons (by simp) (ae (aE _ _ rfl)) (.cons (by simp) (ae (aE _ _ rfl)) (.cons (by simp) (ae (aE _ _ rfl)) (.cons (by simp) (ae (aE _ _ rfl)) (.cons (by simp) (ae (aE _ _ rfl)) (.nil))))))) rfl fun ea=>?_;exact J.nil (aj.place 2 (aq 2 _ rfl rfl) (aj.fin (cP [ea]) rfl rfl))
 ·intro hd E' L' aE aq b3;refine bj (c5 (ae (aE _ _ rfl))) (J.nil ?_);exact aj.fin (cP []) rfl rfl
 refine aj.dN (L2:= [aS bo ({ (default:jJ) with ez:=3 } :jJ),aS bV aD.2,⟨(cZ 40 0),.row 149 ([bn,z2,z5,kd,mX,z17]:List fp) 6⟩]) rfl (fF ?_);refine aj.bm 2 rfl (aM ?_);refine J.bm 2 rfl (az h fun bf et h=>ef 1 px (o8 et) fun ev=>cv ?_);refine az h fun m1 b4 h=>jS (γ:=(Option Nat×Nat)) [0,2,3,48] (fun g1=>[(4,I.eq (aJ g1.1 m1.length g1.2))]) (fun g1=>[(1,⟨g1.1,.row 149 m1 g1.2⟩)]) (fun g1=>?_) (fun hm ad=>?_) fun hm ad=>?_
 ·refine aM ?_;refine J.bm 0 rfl (az h fun bu fl h=>ef 1 px (o8 fl) fun hJ=>cv ?_);refine az h fun m2 dj h=>jS (γ:=(Option Nat×Nat)) [0,2,3,48,53] (fun g2=>[(4,I.eq (aJ g2.1 m2.length g2.2))]) (fun g2=>[(1,⟨g2.1,.row 149 m2 g2.2⟩)]) (fun g2=>?_) (fun hm ad=>?_) fun hm ad=>?_
  ·refine aM ?_;exact aj.j2 (α:=fp) 1 [2,4,57] ⟨rfl,rfl,rfl,trivial⟩ rfl go
  ·have h:=gk ad dj;refine aw.fv (cH ?_);refine az h fun aL dg h=>bj (mw (i:=1) (k:=aL) (xs:=(m1:List fp)) underlying26 Ja (ae rfl) (c9 4) rfl (dq dg)) ?_;refine di (bY Tr.fd) ?_;refine az h fun xn Jt h=>J.yN (i:=1) (k:=aL) ((aK.id fp).comp KI) (v:=(ByteArray.mk #[120,32,60,32,121,32,124,124,32,120,32,61,61,32,49,53]:ByteArray)) (r:=(xn:List fp)) q4 (ae rfl) (h6 (ByteArray.mk #[120,32,60,32,121,32,124,124,32,120,32,61,61,32,49,53])) rfl (dq dg).1 rfl (dc Jt) (J.j5 (m:=xn.length) 4 rfl (kX (dc Jt)) (J.j5 (m:=xn.length) 54 rfl (kX (dc Jt)) (J.nil ?_)));cases h;exact dQ 0 (hm (g1.1,g1.2))
  have h:=gl ad dj;refine aw.skip ?_;cases h;exact dQ 0 (hm (g1.1,g1.2))
 ·have h:=gk ad b4;refine aw.fv (cH ?_);refine az h fun bz dh h=>bj (mw (i:=1) (k:=bz) (xs:=([bn,z2,z5,kd,mX,z17]:List fp)) underlying26 Ja (ae rfl) (c9 2) rfl (dq dh)) ?_;refine di (bY Tr.fd) ?_;refine az h fun vy Fm h=>J.yN (i:=1) (k:=bz) ((aK.id fp).comp KI) (v:=(ByteArray.mk #[112,111,114,116,32,33,61,32,48]:ByteArray)) (r:=(vy:List fp)) q4 (ae rfl) (h6 (ByteArray.mk #[112,111,114,116,32,33,61,32,48])) rfl (dq dh).1 rfl (dc Fm) (J.j5 (m:=vy.length) 4 rfl (kX (dc Fm)) (J.j5 (m:=vy.length) 46 rfl (kX (dc Fm)) (J.j5 (m:=vy.length) 49 rfl (kX (dc Fm)) (J.nil ?_))));cases h;exact dQ 0 (hm ((cZ 40 0),6))
 have h:=gl ad b4;refine aw.skip ?_;cases h;exact dQ 0 (hm ((cZ 40 0),6))
theorem Z1 {aa bV r}(h:Dx aa=some r):mi prog 25 [I.bE bV] bV aa (I.of r.1) r.2:=by
 unfold Dx at h;refine bJ.of func25 rfl ntmps25 rfl fun W A=>cm (bj (c5 (look_nil (α:=ca))) ?_);refine aM fun bn eK h=>?_;refine J.bm 0 rfl (az h fun an bx h=>ef 1 gB (gx bx) fun av=>?_);refine aM ?_;refine J.bm 0 rfl (az h fun aD cc h=>ef 1 gB (gx cc) fun cQ=>?_);refine hB j6 ?_;refine az h fun z2 hz h=>pU hz (kg (b:=({ (default:ca) with bU:=1,da:=ByteArray.mk #[112,111,114,116,115],c4:= [bn],dC:=([1,2,4]:List Int),jg:=bk (1+an.1),hv:=bk (2+aD.1) } :ca)) rfl Ju tX (.cons tu rfl (c9 1) rfl (.cons HC rfl (h6 (ByteArray.mk #[112,111,114,116,115])) rfl (.cons ru rfl (ae rfl) rfl (.cons x7 rfl (ae rfl) rfl (.cons Hl rfl (ae rfl) rfl (.cons DJ rfl (ae rfl) rfl (.nil)))))))) ?_;refine er tX fun bo=>?_;refine q5 0 qg (jF ?_);refine az h fun z3 mW h=>pU mW (kg (b:= { da:=ByteArray.mk #[100],jB:=7,ez:=2:dH }) rfl Jb sD (.cons DY rfl (h6 (ByteArray.mk #[100])) rfl (.cons DT rfl (c9 7) rfl (.cons yg rfl (c9 2) rfl (.nil))))) ?_;refine J.oN (α:=dH) (r:= [z3]) underlying82 sE sD rfl rfl (.cons (by simp) (ae rfl) (.nil)) rfl fun ea=>?_;refine aM ?_;refine J.bm 2 rfl (az h fun bf et h=>ef 1 gB (gx et) fun ev=>?_);refine hB j6 ?_;refine bj (ss (b:=({ (default:ca) with bU:=2,da:=ByteArray.mk #[114,111,117,116,101,115],dC:=([1,2,3,4]:List Int),jg:=2,hv:=bk (3+bf.1) } :ca)) [] MD rfl Ju tX (.cons tu rfl (c9 2) rfl (by rfl) (.cons HC rfl (h6 (ByteArray.mk #[114,111,117,116,101,115])) rfl (by rfl) (.hole ru rfl (ae rfl) ir rfl rfl (.cons x7 rfl (ae rfl) rfl (by rfl) (.cons Hl rfl (c9 2) rfl (by rfl) (.cons DJ rfl (ae rfl) rfl (by rfl) (.nil)))))))) ?_;refine J.qR (z:=(default:ca)) [2] ME tX rfl fun bN=>J.own (α:=dH) 155 (J.uW (i:=1) qg (ae rfl) (ae rfl) rfl ?_);refine aM ?_;refine J.bm 2 rfl (az h fun bu fl h=>ef 1 px (o8 fl) fun hJ=>cv ?_);refine az h fun m1 b4 h=>jS (γ:=(Option Nat×Nat)) [0,2,3,4,28] (fun g1=>[]) (fun g1=>[(2,⟨some bN,.ch m1.1 [(2,aJ g1.1 m1.2.length g1.2)]⟩),(3,⟨g1.1,.row 155 m1.2 g1.2⟩)]) (fun g1=>?_) (fun hm ad=>?_) fun hm ad=>?_
 ·refine aj.next (cm (az h fun z4 r5 h=>pU r5 (kg (b:= { da:=ByteArray.mk #[101],jB:=6,ez:=3:dH }) rfl Jb sD (.cons DY rfl (h6 (ByteArray.mk #[101])) rfl (.cons DT rfl (c9 6) rfl (.cons yg rfl (c9 3) rfl (.nil))))) ?_))
  refine az h fun z5 zs h=>pU zs (kg (b:= { da:=ByteArray.mk #[97],jB:=4,ez:=3:dH }) rfl Jb sD (.cons DY rfl (h6 (ByteArray.mk #[97])) rfl (.cons DT rfl (c9 4) rfl (.cons yg rfl (c9 3) rfl (.nil))))) ?_;refine J.oN (α:=dH) (r:= [z4,z5]) underlying82 sE sD rfl rfl (.cons (by simp) (ae rfl) (.cons (by simp) (ae rfl) (.nil))) rfl fun iy=>?_;refine aM ?_;refine J.bm 1 rfl (az h fun cd hE h=>ef 1 gB (gx hE) fun ec=>?_);refine hB j6 ?_;refine bj (ss (b:=({ (default:ca) with bU:=3,da:=ByteArray.mk #[97,99,108],dC:=([1,2,3,5,6]:List Int),jg:=1,hv:=bk (4+cd.1) } :ca)) [] MD rfl Ju tX (.cons tu rfl (c9 3) rfl (by rfl) (.cons HC rfl (h6 (ByteArray.mk #[97,99,108])) rfl (by rfl) (.hole ru rfl (ae rfl) ir rfl rfl (.cons x7 rfl (ae rfl) rfl (by rfl) (.cons Hl rfl (c9 1) rfl (by rfl) (.cons DJ rfl (ae rfl) rfl (by rfl) (.nil)))))))) ?_;refine J.qR (z:=(default:ca)) [2] ME tX rfl fun b6=>J.own (α:=dH) 155 (J.uW (i:=1) qg (ae rfl) (ae rfl) rfl ?_);refine aM ?_;refine J.bm 2 rfl (az h fun b9 hS h=>ef 1 px (o8 hS) fun dM=>cv ?_);refine az h fun m2 dj h=>jS (γ:=(Option Nat×Nat)) [0,2,3,4,5,28,44] (fun g2=>[]) (fun g2=>[(2,⟨some b6,.ch m2.1 [(2,aJ g2.1 m2.2.length g2.2)]⟩),(3,⟨g2.1,.row 155 m2.2 g2.2⟩)]) (fun g2=>?_) (fun hm ad=>?_) fun hm ad=>?_
  ·refine aj.next (cm (az h fun qv OM h=>pU OM (kg (b:= { da:=ByteArray.mk #[102],jB:=8,ez:=4:dH }) rfl Jb sD (.cons DY rfl (h6 (ByteArray.mk #[102])) rfl (.cons DT rfl (c9 8) rfl (.cons yg rfl (c9 4) rfl (.nil))))) ?_))
   refine J.oN (α:=dH) (r:= [qv]) underlying82 sE sD rfl rfl (.cons (by simp) (ae rfl) (.nil)) rfl fun lO=>?_;refine aM ?_;refine J.bm 1 rfl (az h fun cC lT h=>ef 1 gB (gx lT) fun kT=>?_);refine hB j6 ?_;refine bj (ss (b:=({ (default:ca) with bU:=4,da:=ByteArray.mk #[115,112,97,110,115],dC:=([1,3,5]:List Int),jg:=3,yo:= [({ (default:aX) with cO:=7#64 } :aX)],hv:=bk (3+cC.1) } :ca)) [] MD rfl Ju tX (.cons tu rfl (c9 4) rfl (by rfl) (.cons HC rfl (h6 (ByteArray.mk #[115,112,97,110,115])) rfl (by rfl) (.hole ru rfl (ae rfl) ir rfl rfl (.cons x7 rfl (ae rfl) rfl (by rfl) (.cons Hl rfl (c9 3) rfl (by rfl) (.cons Zi rfl (ae rfl) rfl (by rfl) (.cons DJ rfl (ae rfl) rfl (by rfl) (.nil))))))))) ?_;refine J.qR (z:=(default:ca)) [2] ME tX rfl fun b7=>J.own (α:=dH) 155 (J.uW (i:=1) qg (ae rfl) (ae rfl) rfl ?_);refine aM ?_;refine J.bm 2 rfl (az h fun b1 nF h=>ef 1 px (o8 nF) fun GI=>cv ?_);refine az h fun m3 gM h=>jS (γ:=(Option Nat×Nat)) [0,2,3,4,5,6,28,44,61] (fun g3=>[]) (fun g3=>[(2,⟨some b7,.ch m3.1 [(2,aJ g3.1 m3.2.length g3.2)]⟩),(3,⟨g3.1,.row 155 m3.2 g3.2⟩)]) (fun g3=>?_) (fun hm ad=>?_) fun hm ad=>?_
   ·refine aj.next (cm (cB 10 qg ?_))
    refine J.mx (β:=ca) (γ:=dH) (b':=({ m1.1 with c4:=m1.2 } :ca)) ((aK.id ca).comp ru) 8 9 0 rfl rfl rfl rfl rfl rfl (J.rM 8 rfl (cB 8 qg ?_));refine J.mx (β:=ca) (γ:=dH) (b':=({ m2.1 with c4:=m2.2 } :ca)) ((aK.id ca).comp ru) 5 6 0 rfl rfl rfl rfl rfl rfl (J.rM 5 rfl (cB 5 qg ?_));refine J.mx (β:=ca) (γ:=dH) (b':=({ m3.1 with c4:=m3.2 } :ca)) ((aK.id ca).comp ru) 2 3 0 rfl rfl rfl rfl rfl rfl (J.rM 2 rfl (cB 2 qg ?_));refine az h fun o1 JT h=>J.Ws (α:=ca) (r0:= [z2,({ m1.1 with c4:=m1.2 } :ca),({ m2.1 with c4:=m2.2 } :ca),({ m3.1 with c4:=m3.2 } :ca)]) (r:=o1) underlying27 qg tX rfl rfl (.cons (by simp) (ae rfl) (.cons (by simp) (ae rfl) (.cons (by simp) (ae rfl) (.cons (by simp) (ae rfl) (.nil))))) (dc JT) rfl fun qW=>?_;refine aM fun kd JU z9 ON pG Wq pH Wr h=>?_;refine bj (mO (i:=0) underlying27 (ae rfl) rfl rfl) ?_;refine cH (cv (aw.block ?_));refine az h fun ar ak h=>fD (γ:=(Option Nat×Nat)) (δ:=(Option Nat×Nat)) ak [0,2,3,4,5,6,8,28,44,61,80] (fun s1 g4=>[(7,I.eq (aJ g4.1 s1.2.1.length g4.2)),(81,I.of s1.1)]) (fun s1 g4=>[(0,⟨g4.1,.row 84 s1.2.1 g4.2⟩),(1,aS bV s1.2.2)]) (fun sh=>Exit.exit 0) (fun sh g4=>[(7,I.eq (aJ g4.1 sh.2.2.1.length g4.2)),(81,I.of sh.1),(82,I.of sh.2.1)]) (fun sh g4=>[(0,⟨g4.1,.row 84 sh.2.2.1 g4.2⟩),(1,aS bV sh.2.2.2)]) (qW,4) (fun s1 r h g4=>?_) fun g4=>?_
    ·refine go2 (fun h=>?_) (fun h=>?_)
     ·refine az h fun aL dg h=>az h fun cT pI h=>az h fun bz dh h=>az h fun cR ic h=>az h fun z12 Fl h=>fk [0,2,3,4,5,6,7,8,9,28,44,61,80,81,82,83] ?_;refine aw.xI mixed (ay 84 [] [] _::ay 85 [] [] _::ay 86 [] [] _::ay 87 [] [] _::ay 88 [2,3] [] _::ay 89 [4] [] _::ay 90 [] [] _::⟨some 91,[6],[1],[1],fun _=>I.of cT.1,fun hd _=>aS bV cT.2⟩::ay 92 [5,7] [] _::ay 93 [8] [] _::ay 94 [0,1] [0] _::ay 95 [10] [] _::hA [9,10,11] [0] [0] (fun hd=>⟨g4.1,.row 84 z12 g4.2⟩)::[]) ⟨iD,iD,iD,iD,hV fun aE aq=>rN (k:=aL) underlying157 No (ae (aE _ _ rfl)) (ae (aE _ _ rfl)) (dq dg),jb (k9 No),iD,?_,hV fun aE aq=>rN (k:=bz) underlying156 q4 (ae (aE _ _ rfl)) (ae (aE _ _ rfl)) (dq dh),jb (k9 q4),hV fun aE aq=>mw (i:=0) (k:=cR) (xs:=(s1.2.1:List ca)) underlying27 qg (ae (aE _ _ rfl)) (ae (aE _ _ rfl)) (aq 0 _ rfl rfl) (dq ic),jb (bY afw.fd),?_,trivial⟩ fun cZ=>?_
      ·intro hd E' L' aE aq;refine J.bm 1 (aq 1 _ rfl rfl) (J.lj (Lin:= [aS bV s1.2.2]) (Lr:=L'.eraseIdx 1) gB (gx pI) ⟨ae (aE _ _ rfl),c9 3,trivial⟩ rfl fun zu=>J.nil (aj.back 1 (aq 1 _ rfl rfl) ?_));exact aj.fin (cP []) rfl rfl
      ·intro hd E' L' aE aq;refine J.yN (i:=0) (k:=cR) ((aK.id ca).comp Qv) (v:=(au (au [kd,z9,pG,pH] aL) bz:ByteArray)) (r:=(z12:List ca)) q4 (ae (aE _ _ rfl)) (ae (aE _ _ rfl)) (aq 0 _ rfl rfl) (dq ic).1 rfl (dc Fl) (J.nil ?_);exact aj.fin (cP []) rfl rfl
      refine aj.dN (L2:= [⟨g4.1,.row 84 z12 g4.2⟩,aS bV cT.2,⟨none,.row 155 ([]:List dH) 0⟩,aS b7 ({ m3.1 with c4:=m3.2 } :ca),⟨none,.dead⟩,⟨none,.row 155 ([]:List dH) 0⟩,aS b6 ({ m2.1 with c4:=m2.2 } :ca),⟨none,.dead⟩,⟨none,.row 155 ([]:List dH) 0⟩,aS bN ({ m1.1 with c4:=m1.2 } :ca),⟨none,.dead⟩,aS bo z2]) rfl (aj.j5 (m:=z12.length) 7 rfl (kX (dc Fl)) (aj.j5 (m:=z12.length) 84 rfl (kX (dc Fl)) (fF ?_)));refine aM ?_;cases h;exact ib (g4.1,g4.2) 0
     cases h;exact ha (g4.1,g4.2) 0
    refine aM ?_;exact aj.j2 (α:=ca) 0 [2,7,97] ⟨rfl,rfl,rfl,trivial⟩ rfl go
   ·have h:=gk ad gM;refine aw.fv (di (bY yO.fd) ?_);refine bj (ht (i:=2) (q:=0) (β:=ca) (γ:=dH) xb (ae rfl) rfl rfl) ?_;refine aM fun mX N8 oT N9 h=>?_;refine az h fun fR vj h=>ia 3 underlying82 sE sD vj fun tU dv=>?_;refine di (bY yO.fd) ?_;refine J.jh (i:=2) (γ:=dH) (b':=({ ({ (default:ca) with bU:=4,da:=ByteArray.mk #[115,112,97,110,115],dC:=([1,3,5]:List Int),jg:=3,yo:= [({ (default:aX) with cO:=7#64 } :aX)],hv:=bk (3+cC.1) } :ca) with c4:= [] } :ca)) (os':= [(2,aJ tU fR.length dv)]) ((aK.id ca).comp ru) xb (ae rfl) (ae rfl) ir rfl rfl rfl rfl (J.nil ?_);cases h;exact dQ 0 (hm (tU,dv))
   have h:=gl ad gM;refine aw.skip ?_;cases h;exact dQ 0 (hm (lO,1))
  ·have h:=gk ad dj;refine aw.fv (di (bY yO.fd) ?_);refine bj (ht (i:=2) (q:=0) (β:=ca) (γ:=dH) xb (ae rfl) rfl rfl) ?_;refine aM fun sY Oa h=>?_;refine az h fun h0 qX h=>ia 3 underlying82 sE sD qX fun Fj lN=>?_;refine di (bY yO.fd) ?_;refine J.jh (i:=2) (γ:=dH) (b':=({ ({ (default:ca) with bU:=3,da:=ByteArray.mk #[97,99,108],dC:=([1,2,3,5,6]:List Int),jg:=1,hv:=bk (4+cd.1) } :ca) with c4:= [] } :ca)) (os':= [(2,aJ Fj h0.length lN)]) ((aK.id ca).comp ru) xb (ae rfl) (ae rfl) ir rfl rfl rfl rfl (J.nil ?_);cases h;exact dQ 0 (hm (Fj,lN))
  have h:=gl ad dj;refine aw.skip ?_;cases h;exact dQ 0 (hm (iy,2))
 ·have h:=gk ad b4;refine aw.fv (di (bY yO.fd) ?_);refine bj (ht (i:=2) (q:=0) (β:=ca) (γ:=dH) xb (ae rfl) rfl rfl) ?_;refine aM fun zt aju h=>?_;refine az h fun gG zd h=>ia 3 underlying82 sE sD zd fun Wt qf=>?_;refine di (bY yO.fd) ?_;refine J.jh (i:=2) (γ:=dH) (b':=({ ({ (default:ca) with bU:=2,da:=ByteArray.mk #[114,111,117,116,101,115],dC:=([1,2,3,4]:List Int),jg:=2,hv:=bk (3+bf.1) } :ca) with c4:= [] } :ca)) (os':= [(2,aJ Wt gG.length qf)]) ((aK.id ca).comp ru) xb (ae rfl) (ae rfl) ir rfl rfl rfl rfl (J.nil ?_);cases h;exact dQ 0 (hm (Wt,qf))
 have h:=gl ad b4;refine aw.skip ?_;cases h;exact dQ 0 (hm (ea,1))
theorem aal {aa ai bV r}(h:yb aa ai=some r):mi prog 26 [I.bE bV,I.of ai] bV aa (I.of r.1) r.2:=by
 unfold yb at h;refine bJ.of func26 rfl ntmps26 rfl fun W A=>cm (bj (c5 (look_nil (α:=du))) (jF ?_));refine alW ([1,2,3,4,5,6]:List Int) underlying56 bR hY ?_;refine bj (ss (b:=({ (default:du) with bU:=1,da:=ByteArray.mk #[97,108,108],dC:=([1,2,3,4,5,6]:List Int),jK:=40,EJ:=true } :du)) [2] BA rfl Ob B5 (.cons D4 rfl (c9 1) rfl (by rfl) (.cons K2 rfl (h6 (ByteArray.mk #[97,108,108])) rfl (by rfl) (.cons KR rfl (ae rfl) rfl (by rfl) (.cons DK rfl (c9 40) rfl (by rfl) (.cons aam rfl (hn true) rfl (by rfl) (.nil))))))) ?_;refine J.own (α:=fj) 160 (J.qR (z:=(default:du)) [2] BA B5 rfl fun bo=>J.own (α:=fj) 160 (J.uW (i:=1) vh (ae rfl) (ae rfl) rfl ?_));refine aM ?_;refine J.bm 3 rfl (az h fun an bx h=>ef 1 gB (gx bx) fun av=>?_);refine aM ?_;refine J.bm 0 rfl (az h fun aD cc h=>ef 1 gB (gx cc) fun cQ=>?_);refine hB j6 ?_;refine bj (ss (b:=({ (default:du) with bU:=2,da:=ByteArray.mk #[115,111,109,101],dC:=([1,2,bk (3+an.1)]:List Int),jK:=bk (1+aD.1) } :du)) [2] BA rfl Ob B5 (.cons D4 rfl (c9 2) rfl (by rfl) (.cons K2 rfl (h6 (ByteArray.mk #[115,111,109,101])) rfl (by rfl) (.cons KR rfl (ae rfl) rfl (by rfl) (.cons DK rfl (ae rfl) rfl (by rfl) (.nil)))))) ?_;refine J.own (α:=fj) 160 (J.qR (z:=(default:du)) [2] BA B5 rfl fun bN=>J.own (α:=fj) 160 (J.uW (i:=1) vh (ae rfl) (ae rfl) rfl ?_));refine aM ?_;refine J.bm 3 rfl (az h fun bf et h=>ef 1 gB (gx et) fun ev=>?_);refine aM ?_;refine J.bm 0 rfl (az h fun bu fl h=>ef 1 gB (gx fl) fun hJ=>?_);refine bj (ss (b:=({ (default:du) with bU:=7,da:=ByteArray.mk #[102,101,119],dC:= [bk (1+bf.1)],jK:=bu.1 } :du)) [2] BA rfl Ob B5 (.cons D4 rfl (c9 7) rfl (by rfl) (.cons K2 rfl (h6 (ByteArray.mk #[102,101,119])) rfl (by rfl) (.cons KR rfl (ae rfl) rfl (by rfl) (.cons DK rfl (ae rfl) rfl (by rfl) (.nil)))))) ?_;refine J.own (α:=fj) 160 (J.qR (z:=(default:du)) [2] BA B5 rfl fun b6=>J.own (α:=fj) 160 (J.uW (i:=1) vh (ae rfl) (ae rfl) rfl ?_));refine aM ?_;refine az h fun ar ak h=>fD (γ:=(Option Nat×Nat)×(Option Nat×Nat)×(Option Nat×Nat)) (δ:=(Option Nat×Nat)×(Option Nat×Nat)×(Option Nat×Nat)) ak [0,1,4,5,6,7,30,31] (fun s1 g1=>[(32,I.of s1.1)]) (fun s1 g1=>[(1,⟨some b6,.ch s1.2.1 [(2,aJ g1.1.1 s1.2.2.1.length g1.1.2)]⟩),(2,⟨g1.1.1,.row 160 s1.2.2.1 g1.1.2⟩),(3,aS bV s1.2.2.2.1),(5,⟨some bN,.ch s1.2.2.2.2.1 [(2,aJ g1.2.1.1 s1.2.2.2.2.2.1.length g1.2.1.2)]⟩),(6,⟨g1.2.1.1,.row 160 s1.2.2.2.2.2.1 g1.2.1.2⟩),(8,⟨some bo,.ch s1.2.2.2.2.2.2.1 [(2,aJ g1.2.2.1 s1.2.2.2.2.2.2.2.length g1.2.2.2)]⟩),(9,⟨g1.2.2.1,.row 160 s1.2.2.2.2.2.2.2 g1.2.2.2⟩)]) (fun ec=>Exit.exit 0) (fun ec g1=>[(32,I.of ec.1),(33,I.of ec.2.1)]) (fun ec g1=>[(1,⟨some b6,.ch ec.2.2.1 [(2,aJ g1.1.1 ec.2.2.2.1.length g1.1.2)]⟩),(2,⟨g1.1.1,.row 160 ec.2.2.2.1 g1.1.2⟩),(3,aS bV ec.2.2.2.2.1),(5,⟨some bN,.ch ec.2.2.2.2.2.1 [(2,aJ g1.2.1.1 ec.2.2.2.2.2.2.1.length g1.2.1.2)]⟩),(6,⟨g1.2.1.1,.row 160 ec.2.2.2.2.2.2.1 g1.2.1.2⟩),(8,⟨some bo,.ch ec.2.2.2.2.2.2.2.1 [(2,aJ g1.2.2.1 ec.2.2.2.2.2.2.2.2.length g1.2.2.2)]⟩),(9,⟨g1.2.2.1,.row 160 ec.2.2.2.2.2.2.2.2 g1.2.2.2⟩)]) ((none,0),(none,0),(none,0)) (fun s1 r h g1=>?_) fun g1=>?_
 ·refine go2 (fun aL dg b7 h=>?_) (fun h=>?_)
  ·refine az h fun cd hE h=>J.XE underlying158 l9 XF rfl (by kernel_rfl) (ae rfl) (ae rfl) hE rfl fun ea=>?_;refine aM ?_;refine az h fun b9 hS h=>J.XE underlying158 l9 XF rfl (by kernel_rfl) (ae rfl) (ae rfl) hS rfl fun iy=>?_;refine aM ?_;refine bj (mO (i:=1) underlying158 (ae rfl) rfl rfl) ?_;refine cH (cv (aw.block ?_));refine az h fun aU ak h=>fD (γ:=(Option Nat×Nat)×(Option Nat×Nat)) (δ:=(Option Nat×Nat)×(Option Nat×Nat)) ak [0,1,4,5,6,7,9,30,31,32,33,45] (fun s2 g2=>[(10,I.eq (aJ g2.2.1 s2.2.2.1.length g2.2.2)),(11,I.eq (aJ g2.1.1 s2.2.1.length g2.1.2)),(46,I.of s2.1)]) (fun s2 g2=>[(0,⟨g2.1.1,.row 4 s2.2.1 g2.1.2⟩),(1,⟨g2.2.1,.row 4 s2.2.2.1 g2.2.2⟩),(6,aS bV s2.2.2.2)]) (fun dM=>Exit.exit 2) (fun dM g2=>[(10,I.eq (aJ g2.2.1 dM.2.2.2.1.length g2.2.2)),(11,I.eq (aJ g2.1.1 dM.2.2.1.length g2.1.2)),(46,I.of dM.1),(47,I.of dM.2.1)]) (fun dM g2=>[(0,⟨g2.1.1,.row 4 dM.2.2.1 g2.1.2⟩),(1,⟨g2.2.1,.row 4 dM.2.2.2.1 g2.2.2⟩),(6,aS bV dM.2.2.2.2)]) ((iy,b9.length),(ea,cd.length)) (fun s2 r h g2=>?_) fun g2=>?_
   ·refine go2 (fun h=>?_) (fun h=>?_)
    ·refine J.bm 6 rfl (az h fun cC lT h=>ef 1 gB (gx lT) fun kT=>?_);refine hB BR ?_;refine az h fun bz dh h=>bj (mw (i:=2) (k:=bz) (xs:=(s2.2.2.1:List Bool)) underlying158 l9 (ae rfl) (ae rfl) rfl (dq dh)) ?_;refine J.yN (i:=2) (k:=bz) (aK.id Bool) (v:=true) (r:=(hD s2.2.2.1 bz true:List Bool)) l9 (ae rfl) (hn true) rfl (dq dh).1 rfl rfl (J.j5 (m:=(hD s2.2.2.1 bz true).length) 10 rfl (kX rfl) (J.j5 (m:=(hD s2.2.2.1 bz true).length) 49 rfl (kX rfl) (az h fun cR ic h=>bj (mw (i:=1) (k:=cR) (xs:=(s2.2.1:List Bool)) underlying158 l9 (ae rfl) (ae rfl) rfl (dq ic)) ?_)));refine J.yN (i:=1) (k:=cR) (aK.id Bool) (v:=(decide (cC.1>0):Bool)) (r:=(hD s2.2.1 cR (decide (cC.1>0)):List Bool)) l9 (ae rfl) (ae rfl) rfl (dq ic).1 rfl rfl (J.j5 (m:=(hD s2.2.1 cR (decide (cC.1>0))).length) 11 rfl (kX rfl) (J.j5 (m:=(hD s2.2.1 cR (decide (cC.1>0))).length) 51 rfl (kX rfl) ?_));refine aM ?_;refine aj.bm 6 rfl (aj.bm 6 rfl (aj.bm 6 rfl (aj.bm 6 rfl (aj.bm 6 rfl (aj.bm 6 rfl ?_)))));cases h;exact ib ((g2.1.1,g2.1.2),(g2.2.1,g2.2.2)) 0
    cases h;exact ha ((g2.1.1,g2.1.2),(g2.2.1,g2.2.2)) 0
   refine aM ?_;refine bj (ht (i:=11) (q:=0) (β:=du) (γ:=fj) ze (ae rfl) rfl rfl) ?_;refine aM ?_;refine J.j2 (α:=Bool) 1 [63,10] ⟨rfl,rfl,trivial⟩ rfl (aM fun bn eK h=>?_);refine az h fun b1 nF h=>ia 12 underlying55 Jc Np nF fun lO dv=>?_;refine di (bY afx.fd) ?_;refine J.jh (i:=11) (γ:=fj) (b':=({ s1.2.2.2.2.2.2.1 with lL:= [] } :du)) (os':= [(2,aJ lO b1.length dv)]) ((aK.id du).comp x9) ze (ae rfl) (ae rfl) ir rfl rfl rfl rfl ?_;refine aM ?_;refine J.bm 6 rfl (az h fun cT pI h=>ef 1 gB (gx pI) fun GI=>?_);refine hB BR (cv ?_);refine aw.freeze (α:=Bool) 1 11 rfl rfl (az h fun m1 b4 h=>jS (γ:=(Option Nat×Nat)) [0,1,4,5,6,7,9,10,11,30,31,32,33,45,46,47,70] (fun g3=>[]) (fun g3=>[(0,aS bV m1.1),(8,⟨some bN,.ch m1.2.1 [(2,aJ g3.1 m1.2.2.length g3.2)]⟩),(9,⟨g3.1,.row 160 m1.2.2 g3.2⟩)]) (fun g3=>?_) (fun hm ad=>?_) fun hm ad=>?_)
   ·refine aj.next (cm (cH ?_))
    refine J.bm 0 rfl (az h fun fR vj h=>ef 1 px (o8 vj) fun sh=>cv ?_);refine az h fun m2 dj h=>jS (γ:=(Option Nat×Nat)) [0,1,4,5,6,7,9,10,11,30,31,32,33,45,46,47,70,86] (fun g4=>[]) (fun g4=>[(0,aS bV m2.1),(5,⟨some b6,.ch m2.2.1 [(2,aJ g4.1 m2.2.2.length g4.2)]⟩),(6,⟨g4.1,.row 160 m2.2.2 g4.2⟩)]) (fun g4=>?_) (fun hm ad=>?_) fun hm ad=>?_
    ·refine aM ?_;refine aj.bm 6 rfl (aj.bm 6 rfl (aj.bm 6 rfl (aj.bm 6 rfl (aj.bm 6 rfl (aj.bm 6 rfl ?_)))));cases h;exact ib ((g4.1,g4.2),(g3.1,g3.2),(lO,dv)) 3
    ·have h:=gk ad dj;refine az h fun h0 qX h=>az h fun gG zd h=>az h fun z2 hz h=>az h fun ie sP h=>fk [0,1,4,5,6,7,9,10,11,30,31,32,33,45,46,47,70,85,86] ?_;refine aw.cn 13 (ay 87 [] [] _::ay 88 [0] [5] (I.eq (aJ g1.1.1 s1.2.2.1.length g1.1.2))::ay 89 [] [] _::ay 90 [2] [3] _::ay 91 [] [] _::⟨some 92,[4],[0],[0],fun _=>I.of h0.1,fun hd _=>aS bV h0.2⟩::ay 93 [] [] _::⟨some 94,[5,6],[0],[0],fun _=>I.of gG.1,fun hd _=>aS bV gG.2⟩::ay 95 [] [] _::ay 96 [3,5,7,8] [] _::ay 97 [9] [] _::⟨some 98,[1,10],[6],[6],fun hd=>I.eq (aJ (hd 11 0) ie.length ((hd 11 1).getD 0)),fun hd _=>⟨(hd 11 0),.row 160 ie ((hd 11 1).getD 0)⟩⟩::ay 99 [] [] _::hA [1,11,12] [5] [5] (fun hd=>⟨some b6,.ch ({ s1.2.1 with lL:= [] } :du) [(2,aJ (hd 11 0) ie.length ((hd 11 1).getD 0))]⟩)::[]) (dG ?_ (dG ?_ (dG ?_ (dG ?_ (dG ?_ h3))))) (fun cZ=>?_)
     ·exact ei.q (o2 fun hd E' L' aE aq=>ht (i:=5) (q:=0) (β:=du) (γ:=fj) ze (ae (aE _ _ rfl)) (aq 5 _ rfl rfl) rfl)
     ·intro hd E' L' aE aq b3;exact J.bm 0 (aq 0 _ rfl rfl) (J.lj (Lin:= [aS bV fR.2]) (Lr:=L'.eraseIdx 0) px (o8 qX) ⟨ae (aE _ _ rfl),trivial⟩ rfl fun zu=>J.nil (aj.back 0 (aq 0 _ rfl rfl) (aj.fin (cP []) rfl rfl)))
     ·intro hd E' L' aE aq b3;exact J.bm 0 (aq 0 _ rfl rfl) (J.lj (Lin:= [aS bV h0.2]) (Lr:=L'.eraseIdx 0) px (o8 zd) ⟨ae (aE _ _ rfl),trivial⟩ rfl fun XG=>J.nil (aj.back 0 (aq 0 _ rfl rfl) (aj.fin (cP []) rfl rfl)))
     ·intro hd E' L' aE aq b3;refine J.app (i:=6) underlying55 Jc Np (bytes:=40) (by kernel_rfl) (ae (aE _ _ rfl)) (aq 6 _ rfl rfl) (ae (aE _ _ rfl)) sP rfl fun qW lN=>?_;exact J.nil (aj.fin (cP [qW,some lN]) rfl rfl)
     ·intro hd E' L' aE aq b3;refine J.jh (i:=5) (γ:=fj) (b':=({ s1.2.1 with lL:= [] } :du)) (os':= [(2,aJ (hd 11 0) ie.length ((hd 11 1).getD 0))]) ((aK.id du).comp x9) ze (ae (aE _ _ rfl)) (ae (aE _ _ rfl)) ir (aq 5 _ rfl rfl) rfl rfl rfl (J.nil ?_);exact aj.fin (cP []) rfl rfl
     refine aj.dN (L2:= [aS bV gG.2,⟨none,.dead⟩,⟨none,.dead⟩,aS b7 (au ai aL:ca),⟨none,.row 160 ([]:List fj) 0⟩,⟨some b6,.ch ({ s1.2.1 with lL:= [] } :du) [(2,aJ (cZ 11 0) ie.length ((cZ 11 1).getD 0))]⟩,⟨(cZ 11 0),.row 160 ie ((cZ 11 1).getD 0)⟩,⟨none,.row 160 ([]:List fj) 0⟩,⟨some bN,.ch m1.2.1 [(2,aJ g3.1 m1.2.2.length g3.2)]⟩,⟨g3.1,.row 160 m1.2.2 g3.2⟩,⟨none,.row 160 ([]:List fj) 0⟩,⟨some bo,.ch ({ s1.2.2.2.2.2.2.1 with lL:= [] } :du) [(2,aJ lO b1.length dv)]⟩,⟨lO,.row 160 b1 dv⟩]) rfl (fF ?_);cases h;exact dQ 0 (hm ((cZ 11 0),((cZ 11 1).getD 0)))
    have h:=gl ad dj;refine aw.skip ?_;cases h;exact dQ 0 (hm (g1.1.1,g1.1.2))
   ·have h:=gk ad b4;refine az h fun jn vk h=>az h fun q6 Oc h=>az h fun z3 mW h=>az h fun nG ajw h=>fk [0,1,4,5,6,7,9,10,11,30,31,32,33,45,46,47,59,61,62,63,64,65,66,67,68,69,70] ?_;refine aw.cn 13 (ay 71 [] [] _::ay 72 [0] [8] (I.eq (aJ g1.2.1.1 s1.2.2.2.2.2.1.length g1.2.1.2))::ay 73 [] [] _::ay 74 [2] [3] _::ay 75 [] [] _::⟨some 76,[4],[0],[0],fun _=>I.of jn.1,fun hd _=>aS bV jn.2⟩::ay 77 [5] [] _::ay 78 [] [] _::⟨some 79,[5,7],[0],[0],fun _=>I.of q6.1,fun hd _=>aS bV q6.2⟩::ay 80 [] [] _::ay 81 [3,6,8,9] [] _::ay 82 [10] [] _::⟨some 83,[1,11],[9],[9],fun hd=>I.eq (aJ (hd 12 0) nG.length ((hd 12 1).getD 0)),fun hd _=>⟨(hd 12 0),.row 160 nG ((hd 12 1).getD 0)⟩⟩::ay 84 [] [] _::hA [1,12,13] [8] [8] (fun hd=>⟨some bN,.ch ({ s1.2.2.2.2.1 with lL:= [] } :du) [(2,aJ (hd 12 0) nG.length ((hd 12 1).getD 0))]⟩)::[]) (dG ?_ (dG ?_ (dG ?_ (dG ?_ (dG ?_ h3))))) (fun fN=>?_)
    ·exact ei.q (o2 fun hd E' L' aE aq=>ht (i:=8) (q:=0) (β:=du) (γ:=fj) ze (ae (aE _ _ rfl)) (aq 8 _ rfl rfl) rfl)
    ·intro hd E' L' aE aq b3;exact J.bm 0 (aq 0 _ rfl rfl) (J.lj (Lin:= [aS bV cT.2]) (Lr:=L'.eraseIdx 0) gB (gx vk) ⟨ae (aE _ _ rfl),c9 4,trivial⟩ rfl fun vz=>J.nil (aj.back 0 (aq 0 _ rfl rfl) (aj.fin (cP []) rfl rfl)))
    ·intro hd E' L' aE aq b3;exact J.bm 0 (aq 0 _ rfl rfl) (J.lj (Lin:= [aS bV jn.2]) (Lr:=L'.eraseIdx 0) px (o8 Oc) ⟨ae (aE _ _ rfl),trivial⟩ rfl fun alX=>J.nil (aj.back 0 (aq 0 _ rfl rfl) (aj.fin (cP []) rfl rfl)))
    ·intro hd E' L' aE aq b3;refine J.app (i:=9) underlying55 Jc Np (bytes:=40) (by kernel_rfl) (ae (aE _ _ rfl)) (aq 9 _ rfl rfl) (ae (aE _ _ rfl)) ajw rfl fun tU qf=>?_;exact J.nil (aj.fin (cP [tU,some qf]) rfl rfl)
    ·intro hd E' L' aE aq b3;refine J.jh (i:=8) (γ:=fj) (b':=({ s1.2.2.2.2.1 with lL:= [] } :du)) (os':= [(2,aJ (hd 12 0) nG.length ((hd 12 1).getD 0))]) ((aK.id du).comp x9) ze (ae (aE _ _ rfl)) (ae (aE _ _ rfl)) ir (aq 8 _ rfl rfl) rfl rfl rfl (J.nil ?_);exact aj.fin (cP []) rfl rfl
    refine aj.dN (L2:= [aS bV q6.2,⟨none,.dead⟩,⟨none,.dead⟩,aS b7 (au ai aL:ca),⟨none,.row 160 ([]:List fj) 0⟩,⟨some b6,.ch s1.2.1 [(2,aJ g1.1.1 s1.2.2.1.length g1.1.2)]⟩,⟨g1.1.1,.row 160 s1.2.2.1 g1.1.2⟩,⟨none,.row 160 ([]:List fj) 0⟩,⟨some bN,.ch ({ s1.2.2.2.2.1 with lL:= [] } :du) [(2,aJ (fN 12 0) nG.length ((fN 12 1).getD 0))]⟩,⟨(fN 12 0),.row 160 nG ((fN 12 1).getD 0)⟩,⟨none,.row 160 ([]:List fj) 0⟩,⟨some bo,.ch ({ s1.2.2.2.2.2.2.1 with lL:= [] } :du) [(2,aJ lO b1.length dv)]⟩,⟨lO,.row 160 b1 dv⟩]) rfl (fF ?_);cases h;exact dQ 0 (hm ((fN 12 0),((fN 12 1).getD 0)))
   have h:=gl ad b4;refine aw.skip ?_;cases h;exact dQ 0 (hm (g1.2.1.1,g1.2.1.2))
  cases h;exact ha ((g1.1.1,g1.1.2),(g1.2.1.1,g1.2.1.2),(g1.2.2.1,g1.2.2.2)) 0
 refine aj.mP (aj.next (cm (J.mx (β:=du) (γ:=fj) (b':=({ ar.2.2.2.2.2.2.2.1 with lL:=ar.2.2.2.2.2.2.2.2 } :du)) ((aK.id du).comp x9) 8 9 0 rfl rfl rfl rfl rfl rfl (J.rM 8 rfl (az h fun z4 r5 h=>pU r5 (gz (i:=8) (aK.id du) (r:=({ ar.2.2.2.2.2.2.2.1 with lL:=ar.2.2.2.2.2.2.2.2 } :du)) vh (ae rfl) rfl rfl rfl) ?_)))));refine J.mx (β:=du) (γ:=fj) (b':=({ ar.2.2.2.2.2.1 with lL:=ar.2.2.2.2.2.2.1 } :du)) ((aK.id du).comp x9) 5 6 0 rfl rfl rfl rfl rfl rfl (J.rM 5 rfl (cB 5 vh ?_));exact J.mx (β:=du) (γ:=fj) (b':=({ ar.2.2.1 with lL:=ar.2.2.2.1 } :du)) ((aK.id du).comp x9) 1 2 0 rfl rfl rfl rfl rfl rfl (J.rM 1 rfl go)
theorem QW {aa bV r}(h:wx aa=some r):mi prog 8 [I.bE bV] bV aa (I.of r.1) r.2:=by
 unfold wx at h;refine bJ.of func8 rfl ntmps8 rfl fun W A=>?_;refine aM fun bo=>?_;refine J.bm 1 rfl (az h fun an bx h=>ef 1 gB (gx bx) fun av=>?_);refine aM ?_;refine J.bm 0 rfl (az h fun aD cc h=>ef 1 gB (gx cc) fun cQ=>?_);refine hB j6 ?_;refine bj (ss (b:=({ (default:aZ) with Eu:=bk (2+an.1),EC:=bk (12+aD.1) } :aZ)) [5,7] SB rfl ajx Wu (.cons Zr rfl (ae rfl) rfl (by rfl) (.cons Zx rfl (ae rfl) rfl (by rfl) (.nil)))) ?_;refine J.own (α:=gW) 79 (J.own (α:=e3) 81 (J.qR (z:=(default:aZ)) [5,7] SB Wu rfl fun bN=>J.own (α:=gW) 79 (J.own (α:=e3) 81 (J.uW (i:=2) iX (ae rfl) (ae rfl) rfl ?_))));refine aM fun bn eK z2 hz z3 mW z4 r5 z5 zs qv OM o1 JT kd JU h=>?_;refine az h fun z9 ON h=>J.wP (i:=2) ((aK.id aZ).comp QM) (v:=kd) (b':=z9) Wv (ae rfl) (ae rfl) rfl rfl (dc ON) (by rfl) ?_;refine aM fun pG Wq pH Wr z12 Fl h=>?_;refine J.wP (i:=2) ((aK.id aZ).comp QF) (v:=([pG,pH,z12]:List l1)) (b':=({ z9 with oC:= [pG,pH,z12] } :aZ)) Ww (ae rfl) (ae rfl) rfl rfl rfl (by rfl) ?_;refine aM ?_;refine J.bm 5 rfl (az h fun bf et h=>ef 1 ajy (Z0 et) fun ev=>?_);refine cH ?_;refine J.bm 0 rfl (az h fun bu fl h=>ef 1 ajz (ZM fl) fun hJ=>?_);refine cH ?_;refine J.bm 0 rfl (az h fun cd hE h=>ef 1 ajA (Z1 hE) fun ec=>?_);refine di (bY afy.fd) ?_;refine az h fun mX N8 h=>J.wP (i:=3) ((aK.id aZ).comp QN) (v:=bf.1) (b':=mX) Wx (ae rfl) (ae rfl) rfl rfl (dc N8) (by rfl) ?_;refine di (bY afz.fd) ?_;refine J.wP (i:=3) ((aK.id aZ).comp QG) (v:=bu.1) (b':=({ mX with dC:=bu.1 } :aZ)) Wy (ae rfl) (ae rfl) rfl rfl rfl (by rfl) ?_;refine di (bY MF.fd) ?_;refine az h fun oT N9 h=>J.wP (i:=3) ((aK.id aZ).comp x8) (v:=cd.1) (b':=oT) zf (ae rfl) (ae rfl) rfl rfl (dc N9) (by rfl) ?_;refine aM ?_;refine XH 3 x8 zf ?_;refine J.bm 0 rfl (az h fun b9 hS h=>ef 1 ajB (aal hS) fun dM=>?_);refine di (bY MG.fd) ?_;refine J.wP (i:=3) ((aK.id aZ).comp Hr) (v:=b9.1) (b':=({ oT with eo:=b9.1 } :aZ)) B6 (ae rfl) (ae rfl) rfl rfl rfl (by rfl) ?_;refine jF (sX Jv B7 { bB:=1,kt:=1:gW } (q2 Dy (q2 KS .nil)) ?_);refine sX Jv B7 { bB:=2,kt:=2:gW } (q2 Dy (q2 KS .nil)) ?_;refine sX Jv B7 ({ (default:gW) with bB:=3 } :gW) (q2 Dy .nil) ?_;refine sX Jv B7 { bB:=4,kt:=3:gW } (q2 Dy (q2 KS .nil)) ?_;refine az h fun sY Oa h=>J.Ws (α:=gW) (r0:= [{ bB:=1,kt:=1:gW },{ bB:=2,kt:=2:gW },({ (default:gW) with bB:=3 } :gW),{ bB:=4,kt:=3:gW }]) (r:=sY) underlying28 Od B7 rfl rfl (.cons (by simp) (ae rfl) (.cons (by simp) (ae rfl) (.cons (by simp) (ae rfl) (.cons (by simp) (ae rfl) (.nil))))) (dc Oa) rfl fun ea=>?_;refine di (bY MH.fd) ?_;refine J.jh (i:=4) (γ:=gW) (b':=({ ({ oT with eo:=b9.1 } :aZ) with qL:= [] } :aZ)) (os':= [(5,aJ ea sY.length 4),(7,aJ none ([]:List e3).length 0)]) ((aK.id aZ).comp Hm) Jw (ae rfl) (ae rfl) ir rfl rfl rfl rfl ?_;refine aM ?_;refine J.bm 1 rfl (az h fun cC lT h=>ef 1 px (o8 lT) fun kT=>cv ?_);refine az h fun m1 b4 h=>jS (γ:=(Option Nat×Nat)) [0,2,3,51] (fun g1=>[]) (fun g1=>[(1,⟨g1.1,.row 79 m1 g1.2⟩),(4,⟨some bN,.ch ({ ({ oT with eo:=b9.1 } :aZ) with qL:= [] } :aZ) [(5,aJ g1.1 m1.length g1.2),(7,aJ none ([]:List e3).length 0)]⟩)]) (fun g1=>?_) (fun hm ad=>?_) fun hm ad=>?_
 ·refine aM ?_;refine J.bm 0 rfl (az h fun b1 nF h=>ef 1 px (o8 nF) fun GI=>cv ?_);refine az h fun m2 dj h=>jS (γ:=(Option Nat×Nat)) [0,2,3,51,59] (fun g2=>[]) (fun g2=>[(4,⟨some bN,.ch m2.1 [(5,aJ g1.1 m1.length g1.2),(7,aJ g2.1 m2.2.length g2.2)]⟩),(5,⟨g2.1,.row 81 m2.2 g2.2⟩)]) (fun g2=>?_) (fun hm ad=>?_) fun hm ad=>?_
  ·refine aM ?_;refine J.bm 0 rfl (az h fun cT pI h=>ef 1 px (o8 pI) fun sh=>?_);refine aM ?_;refine kF (fun hb=>Iu (i:=4) ((aK.id aZ).comp x8) (r:=m2.1.bS) zf (cD rfl hb) rfl rfl rfl (by rfl)) ?_;refine aM fun aL dg h=>?_;refine az h fun m3 gM h=>jS (γ:=(Option Nat×Nat)) [0,2,3,51,59,76] (fun g3=>[]) (fun g3=>[(4,⟨some bN,.ch m3.1 [(5,aJ g1.1 m1.length g1.2),(7,aJ g3.1 m3.2.length g3.2)]⟩),(5,⟨g3.1,.row 81 m3.2 g3.2⟩)]) (fun g3=>?_) (fun hm ad=>?_) fun hm ad=>?_
   ·refine aM ?_;refine J.bm 0 rfl (az h fun fR vj h=>ef 1 px (o8 vj) fun zu=>?_);refine aM ?_;refine kF (fun hb=>Iu (i:=4) ((aK.id aZ).comp x8) (r:=m3.1.bS) zf (cD rfl hb) rfl rfl rfl (by rfl)) ?_;refine aM fun bz dh h=>?_;refine az h fun m4 FR h=>jS (γ:=(Option Nat×Nat)) [0,2,3,51,59,76,93] (fun g4=>[]) (fun g4=>[(4,⟨some bN,.ch m4.1 [(5,aJ g1.1 m1.length g1.2),(7,aJ g4.1 m4.2.length g4.2)]⟩),(5,⟨g4.1,.row 81 m4.2 g4.2⟩)]) (fun g4=>?_) (fun hm ad=>?_) fun hm ad=>?_
    ·exact aj.next (cm (J.mx (β:=aZ) (γ:=gW) (b':=({ m4.1 with qL:=m1 } :aZ)) ((aK.id aZ).comp Hm) 4 1 0 rfl rfl rfl rfl rfl rfl (J.mx (β:=aZ) (γ:=e3) (b':=({ ({ m4.1 with qL:=m1 } :aZ) with c3:=m4.2 } :aZ)) ((aK.id aZ).comp Dz) 4 5 0 rfl rfl rfl rfl rfl rfl (J.rM 4 rfl go))))
    ·have h:=gk ad FR;refine aw.fv (di (bY BB.fd) ?_);refine bj (ht (i:=4) (q:=1) (β:=aZ) (γ:=e3) zg (ae rfl) rfl rfl) ?_;refine aM fun z17 ajv xn Jt h=>?_;refine az h fun h0 qX h=>ia 5 underlying30 Jx Oe qX fun iy dv=>?_;refine di (bY BB.fd) ?_;refine J.jh (i:=4) (γ:=e3) (b':=({ m3.1 with c3:= [] } :aZ)) (os':= [(5,aJ g1.1 m1.length g1.2),(7,aJ iy h0.length dv)]) ((aK.id aZ).comp Dz) zg (ae rfl) (ae rfl) ir rfl rfl rfl rfl (J.nil ?_);cases h;exact dQ 0 (hm (iy,dv))
    have h:=gl ad FR;refine aw.skip ?_;cases h;exact dQ 0 (hm (g3.1,g3.2))
   ·have h:=gk ad gM;refine aw.fv (di (bY BB.fd) ?_);refine bj (ht (i:=4) (q:=1) (β:=aZ) (γ:=e3) zg (ae rfl) rfl rfl) ?_;refine aM fun vy Fm h=>?_;refine az h fun gG zd h=>ia 5 underlying30 Jx Oe zd fun lO lN=>?_;refine di (bY BB.fd) ?_;refine J.jh (i:=4) (γ:=e3) (b':=({ m2.1 with c3:= [] } :aZ)) (os':= [(5,aJ g1.1 m1.length g1.2),(7,aJ lO gG.length lN)]) ((aK.id aZ).comp Dz) zg (ae rfl) (ae rfl) ir rfl rfl rfl rfl (J.nil ?_);cases h;exact dQ 0 (hm (lO,lN))
   have h:=gl ad gM;refine aw.skip ?_;cases h;exact dQ 0 (hm (g2.1,g2.2))
  ·have h:=gk ad dj;refine aw.fv (di (bY BB.fd) ?_);refine bj (ht (i:=4) (q:=1) (β:=aZ) (γ:=e3) zg (ae rfl) rfl rfl) ?_;refine aM fun z20 aqG h=>?_;refine az h fun ie sP h=>ia 5 underlying30 Jx Oe sP fun qW qf=>?_;refine di (bY BB.fd) ?_;refine J.jh (i:=4) (γ:=e3) (b':=({ ({ ({ oT with eo:=b9.1 } :aZ) with qL:= [] } :aZ) with c3:= [] } :aZ)) (os':= [(5,aJ g1.1 m1.length g1.2),(7,aJ qW ie.length qf)]) ((aK.id aZ).comp Dz) zg (ae rfl) (ae rfl) ir rfl rfl rfl rfl (J.nil ?_);cases h;exact dQ 0 (hm (qW,qf))
  have h:=gl ad dj;refine aw.skip ?_;cases h;exact dQ 0 (hm (none,0))
 ·have h:=gk ad b4;refine aw.fv (di (bY MH.fd) ?_);refine bj (ht (i:=4) (q:=0) (β:=aZ) (γ:=gW) Jw (ae rfl) rfl rfl) ?_;refine aM ?_;refine az h fun jn vk h=>ia 1 underlying28 Od B7 vk fun tU Fi=>?_;refine di (bY MH.fd) ?_;refine J.jh (i:=4) (γ:=gW) (b':=({ ({ oT with eo:=b9.1 } :aZ) with qL:= [] } :aZ)) (os':= [(5,aJ tU jn.length Fi),(7,aJ none ([]:List e3).length 0)]) ((aK.id aZ).comp Hm) Jw (ae rfl) (ae rfl) ir rfl rfl rfl rfl (J.nil ?_);cases h;exact dQ 0 (hm (tU,Fi))
 have h:=gl ad b4;refine aw.skip ?_;cases h;exact dQ 0 (hm (ea,4))
instance aqH:mj prog 170 _ _ Hg I.of I.of:= .i func170 rfl ntmps170 rfl fun aa r h W A=>by
 unfold Hg at h;refine cm (bj (c5 (look_nil (α:=aX))) ?_);refine aM ?_;refine bj (UT underlying50 (ae rfl)) (cv ?_);refine aw.UU (ae rfl) (fun al=>?_) ?_
 ·subst al;replace h:=R6 h;subst h;have h:some ([]:List aX)=some []:=rfl;refine cm (bj (c5 (look_nil (α:=aX))) (cv (aw.ret (aj.ret ?_))));replace h:=dc h;exact JS
 refine l8 (cm (J.oN (α:=aX) (r:=([]:List aX)) underlying50 hQ tN rfl rfl (.nil) rfl fun ea=>cH ?_));refine az h fun an bx h=>ia 0 underlying50 hQ tN bx fun iy dv=>?_;refine dW (cv (aw.ret ?_));exact aj.j2 (α:=aX) 0 [2,7] ⟨rfl,rfl,trivial⟩ rfl go
instance aqI:e9 prog 263 _ _ _ C7 I.of I.of I.of:= .i func263 rfl ntmps263 rfl fun aa ai r h W A=>by
 unfold C7 at h;refine aM (fun h=>?_);refine az h fun ar ak h=>fD (γ:=Unit) (δ:=Unit) ak [0,1,4,10,12] (fun s1 g1=>[(13,I.of s1)]) (fun s1 g1=>[]) (fun av=>Sum.elim (fun av=>Exit.exit 0) (fun av=>Exit.ret) av) (fun av g1=>Sum.elim (fun av=>[(13,I.of av.1),(14,I.of av.2)]) (fun av=>[(5,I.of av.1),(13,I.of av.2.1),(14,I.of av.2.2.1),(24,I.of av.2.2.2)]) av) (fun av g1=>[]) () (fun s1 r h g1=>?_) fun g1=>?_
 ·refine aM (fun h=>?_);refine az h fun aL dg h=>az h fun bz dh h=>aw.fy 9 ?_;exact go
 rcases ar with ar | ar
 ·simp only [Sum.elim_inl] at h;exact go
 simp only [Sum.elim_inr] at h;exact go
theorem aaV {hp aa r}(h:DZ hp aa=some r):ik prog 99 [I.of aa] hp (I.of r) hp:=by
 unfold DZ at h;refine bJ.of func99 rfl ntmps99 rfl fun W A=>?_;refine aM (fun bt dn c1 dy h=>?_);refine az h fun cu e5 h=>az h fun c2 eR h=>bj (aep underlying193 (kW (ae rfl) e5) (iK (n:=0) rfl (sx eR) rfl)) ?_;exact go
theorem aaW {hp aa ai aV r}(h:HG hp aa ai aV=some r):ik prog 216 [I.of aa,I.of ai,I.of aV] hp (I.of r.1) r.2:=by
 unfold HG at h;refine bJ.of func216 rfl ntmps216 rfl fun W A=>?_;refine aM (fun bo h=>?_);refine az h fun bt dn h=>az h fun c1 dy h=>az h fun cu e5 h=>az h fun c2 eR h=>az h fun bn eK h=>fk [0,1,2,4,6,9,10] ?_;refine aw.cn 1 (ay 12 [] [] _::ay 13 [0] [] _::ay 14 [1] [] _::ay 15 [2] [] _::ay 16 [] [0] _::ay 17 [3,4] [] (I.bP [I.of (bn.getD default),I.of bn.isSome])::ay 11 [5] [] _::ay 18 [6] [] _::ay 19 [6] [] _::ay 7 [7] [] _::ay 8 [8] [] _::[]) (dG ?_ h3) (fun cZ=>?_)
 ·intro hd E' L' aE aq b3;refine bj (LK (r:=bn) underlying229 I5 hY (kW (ae (aE _ _ rfl)) e5) (ae (aE _ _ rfl)) (iK (n:=1) (b3.trans rfl) (tC eR) rfl) (dc eK)) (J.nil ?_);exact aj.fin (cP []) rfl rfl
 refine aj.dN (L2:=(aS bo ai::aI hp)) rfl (fF ?_);refine aM (fun h=>?_);refine az h fun dX j8 h=>az h fun cY gF h=>aw.fy 6 ?_;refine az h fun km ub h=>az h fun gO pJ h=>az h fun bH gD h=>J.E5 (k':=Cell.qe (gn gO ai aV)) 1 rfl (by first | exact .inl rfl | exact .inr rfl) underlying229 I5 (kW (ae rfl) ub) (ae rfl) (ae rfl) (tC pJ) rfl rfl rfl (dc gD) ?_;exact go
theorem ab1 {hp aa Q}(h:H0 hp aa Q):k6 prog 228 [I.of aa] hp Q:=by
 unfold H0 at h;refine bJ.of func228 rfl ntmps228 rfl fun W A=>cm (bj (c5 nU) (jF ?_));refine cH ?_;refine hB U4 ?_;refine hB U5 ?_;refine ag.br h fun bn eK h=>pU eK (kg (b:=({ (default:hl) with gR:=min (max 1 aa) 128 } :hl)) rfl ag4 ag5 (.cons DL rfl (ae rfl) rfl (.nil))) ?_;refine J.xa 0 rfl (Cell.k1 bn) (fun _=>rfl) (ae rfl) rfl fun bT pD=>?_;replace h:=ag.pe h bT pD;refine dW (cv (aw.ret ?_));exact aj.eh (⟨⟨((some bT.1:Ref),bT.2),h⟩,()⟩: {r // _}×_) (.refl _) rfl rfl (dw rfl)
theorem QH {aa ai r}(h:x4 aa ai=some r):dZ prog 273 [I.of aa,I.ptr ai] (I.of r):=by
 unfold x4 at h;refine dZ.of func273 rfl ntmps273 rfl fun W A=>?_;exact go
theorem Qu {aa ai r}(h:xY aa ai=some r):dZ prog 272 [I.of aa,I.zq prog ai] (I.of r):=by
 unfold xY at h;refine dZ.of func272 rfl ntmps272 rfl fun W A=>?_;refine aM ?_;refine az h fun ar ak h=>fD (γ:=Unit) (δ:=Unit) ak [0,1,7] (fun s1 g1=>[(4,I.of (0:Int)),(8,I.of s1)]) (fun s1 g1=>[]) (fun av=>Sum.elim (fun av=>Exit.exit 0) (fun av=>Exit.ret) av) (fun av g1=>Sum.elim (fun av=>[(4,I.of (0:Int)),(8,I.of av.1),(9,I.of av.2)]) (fun av=>[(4,I.of av.1),(5,I.of av.2.1),(8,I.of av.2.2.1),(9,I.of av.2.2.2.1),(16,I.of av.2.2.2.2)]) av) (fun av g1=>[]) () (fun s1 r h g1=>?_) fun g1=>?_
 ·refine aM (fun aL dg h=>?_);refine az h fun an bx h=>bj (Ie (ae rfl) (ae rfl) bx) ?_;exact go
 rcases ar with ar | ar
 ·simp only [Sum.elim_inl] at h;exact go
 simp only [Sum.elim_inr] at h;exact go
theorem Y7 {aa ai aV r}(h:CU aa ai aV=some r):dZ prog 267 [I.of aa,I.of ai,I.zv prog aV] (I.bP [I.of r.1,I.of r.2]):=by
 unfold CU at h;refine dZ.of func267 rfl ntmps267 rfl fun W A=>?_;refine aM fun bo=>?_;refine az h fun ar ak h=>fD (γ:=Unit) (δ:=Unit) ak [0,1,2,4,6,7,8] (fun s1 g1=>[(9,I.of s1.1),(10,I.of s1.2)]) (fun s1 g1=>[]) (fun av=>Exit.exit 0) (fun av g1=>[(9,I.of av.1),(10,I.of av.2.1),(17,I.of av.2.2)]) (fun av g1=>[]) () (fun s1 r h g1=>?_) fun g1=>?_
 ·refine aM (fun h=>?_);refine az h fun aL dg h=>az h fun an bx h=>aw.ml mixed 8 (rg 24 8) [[],[],[],[1,2],[3],[],[0,4,5],[6]] [_,_,_,_,_,_,_,_] ⟨gj,gj,gj,OO dg underlying43 eZ,H1 (k9 eZ),vA 0 eZ,gu fun aq=>Ig (ae rfl) (ae rfl) (ae rfl) bx,nc sF,trivial⟩ (cv ?_);refine az h fun m1 b4 h=>jS (γ:=Unit) [0,1,2,4,6,7,8,11,17,31] (fun g2=>[(9,I.of m1.1),(10,I.of m1.2)]) (fun g2=>[]) (fun g2=>?_) (fun hm ad=>?_) fun hm ad=>?_
  ·exact go
  ·have h:=gk ad b4;exact go
  have h:=gl ad b4;exact go
 refine aj.mP (aj.next (aw.seq (az h fun bz dh h=>az h fun aD cc h=>fk [0,1,2,4,8,9,10,17] ?_)));refine aw.cn 1 (ay 35 [] [] _::ay 36 [] [] _::ay 37 [] [] _::ay 38 [1,2] [] _::ay 39 [3] [] _::ay 40 [4] [] _::ay 41 [4] [] _::ay 42 [4] [] _::ay 43 [4,6,7] [] _::ay 44 [4,8] [] _::ay 45 [4] [0] _::ay 46 [4,5,9,10] [] (I.cond ((decide (ar.1<(aa.length:Int)))=true) (I.of aD))::ay 47 [4,11] [] _::ay 48 [4,12] [] _::ay 6 [0] [] _::ay 7 [13] [] _::[]) (dG ?_ h3) (fun cZ=>?_)
 ·exact ei.q (Wz rfl rfl rfl rfl (fun hd=>rfl) fun hd E' L' aE aq hb=>Ig (cD (aE _ _ rfl) hb) (cD (aE _ _ rfl) hb) (cD (aE _ _ rfl) hb) (fA cc hb))
 refine aj.dN (L2:= [aS bo ai]) rfl (fF ?_);exact go
instance aqJ:mj prog 140 _ _ D7 I.of I.of:= .i func140 rfl ntmps140 rfl fun aa r h W A=>by
 unfold D7 at h;exact go
theorem Zj {aa ai r}(h:C1 aa ai=some r):dZ prog 282 [I.of aa,I.zq prog ai] (I.of r):=by
 unfold C1 at h;refine dZ.of func282 rfl ntmps282 rfl fun W A=>?_;refine aM ?_;refine az h fun ar ak h=>fD (γ:=Unit) (δ:=Unit) ak [0,1,7] (fun s1 g1=>[(4,I.of (0:Int)),(8,I.of s1)]) (fun s1 g1=>[]) (fun av=>Sum.elim (fun av=>Exit.exit 0) (fun av=>Exit.ret) av) (fun av g1=>Sum.elim (fun av=>[(4,I.of (0:Int)),(8,I.of av.1),(9,I.of av.2)]) (fun av=>[(4,I.of av.1),(5,I.of av.2.1),(8,I.of av.2.2.1),(9,I.of av.2.2.2.1),(16,I.of av.2.2.2.2)]) av) (fun av g1=>[]) () (fun s1 r h g1=>?_) fun g1=>?_
 ·refine aM (fun aL dg h=>?_);refine az h fun an bx h=>bj (Ie (ae rfl) (ae rfl) bx) ?_;exact go
 rcases ar with ar | ar
 ·simp only [Sum.elim_inl] at h;exact go
 simp only [Sum.elim_inr] at h;exact go
theorem aaF {aa r}(h:K3 aa=some r):dZ prog 283 [I.of aa] (I.of r):=by
 unfold K3 at h;refine dZ.of func283 rfl ntmps283 rfl fun W A=>?_;exact go
theorem QX {hp aa ai r}(h:Av hp aa ai=some r):ik prog 102 [I.of aa,I.of ai] hp (I.of r) hp:=by
 unfold Av at h;refine bJ.of func102 rfl ntmps102 rfl fun W A=>?_;refine aM ?_;refine aw.scope (go2 (fun h=>?_) (fun h=>?_))
 ·exact aj.WA go
 refine aw.label (aM fun bt dn c1 dy h=>?_);refine az h fun ar ak h=>uc (σ:=Int) (ε:=(Int×Int×Bool)) (γ:=Unit) (δ:=Unit) ak 0 [0,1,4,9,14,15] (fun s1 g1=>[(5,I.of (-1)),(16,I.of s1)]) (fun s1 g1=>[]) (fun s1 g1=>aI hp) (fun av=>Exit.exit 0) (fun av g1=>[(5,I.of av.1),(16,I.of av.2.1),(17,I.of av.2.2)]) (fun av g1=>[]) (fun av g1=>aI hp) () (fun s1 r h g1=>?_) (fun g1=>?_)
 ·exact go
 refine aM ?_;exact aj.WA go
theorem Rg {hp aa r}(h:AR hp aa=some r):ik prog 239 [I.of aa] hp (I.of r) hp:=by
 unfold AR at h;refine bJ.of func239 rfl ntmps239 rfl fun W A=>cm (dW (jF ?_));refine cH ?_;refine az h fun bt dn h=>bj (e4 (fg (ae rfl) dn)) ?_;refine di (bY EK.fd) ?_;refine az h fun c1 dy h=>bj (nq ((aK.id ek).comp yc) (r:=c1.ga) l9 (ae rfl) (iK (n:=0) rfl (oF dy) rfl) rfl rfl) ?_;refine di sG ?_;refine cH ?_;refine iB cG ?_;refine az h fun cu e5 h=>kF (fun hb=>e4 (fg (cD rfl hb) (fA e5 hb))) ?_;refine iB (bY Iv.fd) ?_;refine az h fun c2 eR h=>kF (fun hb=>nq ((aK.id ek).comp Ao) (r:=c2.dA) U6 (cD rfl hb) (iK (n:=0) rfl (oF (fA eR hb)) rfl) rfl rfl) ?_;refine kF (fun hb=>adp (b:=(default:Vector Ref 2)) (sz:=1) rfl underlying328 (by kernel_rfl) ag6 (.nil)) ?_;refine kF (fun hb=>adq underlying328 gK underlying326 afA (cD rfl hb) (cD rfl hb) ag7) ?_;refine XI ?_;refine dW (cv (aw.ret ?_));cases h;exact aj.eh () (.refl _) rfl rfl (dw rfl)
theorem Zy {hp aa ai aV c8 JV L3 L4 r}(h:Hn hp aa ai aV c8=some r):bJ prog 246 [I.of aa,I.of ai,I.of aV,I.bE JV] ([⟨some JV,.ch ([]:List e2) [(0,aJ L3 c8.length L4)]⟩,⟨L3,.row 342 c8 L4⟩]++aI hp) (δ:=(Option Nat×Nat)) (fun d=>I.bP []) (fun d=>[⟨some JV,.ch ([]:List e2) [(0,aJ d.1 r.length d.2)]⟩,⟨d.1,.row 342 r d.2⟩]++aI hp):=by
 unfold Hn at h;refine bJ.of func246 rfl ntmps246 rfl fun W A=>?_;refine aM fun bo bt dn c1 dy h=>?_;refine az h fun m1 b4 h=>q3 (γ:=(Option Nat×Nat)) 3 [0,1,2,3,5,10] (fun g1=>[]) (fun g1=>[(1,⟨some JV,.ch ([]:List e2) [(0,aJ g1.1 m1.length g1.2)]⟩),(2,⟨g1.1,.row 342 m1 g1.2⟩)]) (fun g1=>aI hp) (fun g1=>?_) (fun hm ad=>?_) (fun hm ad=>?_)
 ·refine aj.k0 (aj.bm 2 rfl (aj.bm 2 rfl ?_));cases h;exact aj.nv (g1.1,g1.2) (.cons_cons _ (.cons_cons _ (.cons _ (.refl _)))) rfl rfl
 ·have h:=gk ad b4;refine aw.ml mixed 9 (rg 11 9) [[],[],[],[],[3],[4],[5],[1,2,6],[7]] [_,_,_,_,_,_,_,_,_] ⟨gu fun aq=>ht (i:=1) (q:=0) (β:=List e2) (γ:=e2) Nq (ae rfl) (aq _ _ rfl rfl) rfl,vA 0 hQ,gj,gj,gu fun aq=>e4 (fg (ae rfl) dn),H1 (bY aeq.fd),gu fun aq=>nq ((aK.id ek).comp HH) (r:=c1.kA) bR (ae rfl) (oO (fun i e q=>aq i e q rfl) (iK (n:=3) rfl (oF dy) rfl)) rfl rfl,gu fun aq=>kg (b:= { ck:=ai,yE:=aV,bU:=c1.kA:e2 }) rfl ag8 Nr (.cons Zz rfl (ae rfl) rfl (.cons Zt rfl (ae rfl) rfl (.cons aan rfl (ae rfl) rfl (.nil)))),gu fun aq=>w2 (r:= [{ ck:=ai,yE:=aV,bU:=c1.kA:e2 }]) underlying337 Ns Nr rfl rfl (.cons (by simp) (ae rfl) (.nil)),trivial⟩ ?_;refine az h fun an bx h=>ia 2 underlying337 Ns Nr bx fun ea dv=>?_;refine J.jh (i:=1) (γ:=e2) (b':=([]:List e2)) (os':= [(0,aJ ea an.length dv)]) (aK.id (List e2)) Nq (ae rfl) (ae rfl) ir rfl rfl rfl rfl (J.nil ?_);cases h;exact dQ 0 (hm (ea,dv))
 have h:=gl ad b4;refine aw.skip ?_;cases h;exact dQ 0 (hm (L3,L4))
instance WB:mj prog 251 _ _ Ll I.of I.of:= .i func251 rfl ntmps251 rfl fun aa r h W A=>by
 unfold Ll at h;exact go
instance WC:e9 prog 250 _ _ _ Ek I.of I.of I.of:= .i func250 rfl ntmps250 rfl fun aa ai r h W A=>by
 unfold Ek at h;exact go
instance WD:e9 prog 249 _ _ _ Lm I.of I.of I.of:= .i func249 rfl ntmps249 rfl fun aa ai r h W A=>by
 unfold Lm at h;exact go
instance aqK:e9 prog 222 _ _ _ x5 I.of I.of (fun r=>I.bP [I.of r.1,I.of r.2.1,I.of r.2.2]):= .i func222 rfl ntmps222 rfl fun aa ai r h W A=>by
 unfold x5 at h;refine aM fun bo bN b6 b7=>?_;refine az h fun an bx h=>az h fun aD cc h=>aw.mT 2 (fk [0,1,2,3,4,5,6] ?_);refine aw.vZ 6 (ay 10 [] [3] _::ay 11 [] [2] _::ay 12 [1] [] _::ay 13 [0,2] [] _::ay 9 [3] [] _::ay 14 [4] [] _::ay 15 [4] [] _::qk 7 [] 4 7 _::qk 8 [] 5 8 _::hA [5,7] [4] [4] (fun hd=>aS ((hd 7 0).getD 0) aD.1)::hA [6,8] [5] [5] (fun hd=>aS ((hd 8 0).getD 0) aD.2)::[]) (fun cZ=>?_);refine aj.dN (L2:= [aS b7 (default:aX),aS b6 (default:Vector aX 4),aS bN ai,aS bo aa,aS ((cZ 7 0).getD 0) aD.1,aS ((cZ 8 0).getD 0) aD.2]) rfl (fF ?_);refine aj.bm 4 rfl (aj.bm 5 rfl (go2 (fun h=>?_) (fun h=>?_)))
 ·refine fk [0,1,2,3,4,5,7,8,9,10,11,12,13,14,15,16,17,18,19,20,21] ?_;refine aw.vZ 6 (ay 22 [] [1] _::ay 23 [] [0] _::hA [0] [3] [3] (fun hd=>aS b6 aD.1)::hA [1] [2] [2] (fun hd=>aS b7 aD.2)::ay 6 [] [] _::[]) (fun fN=>?_);refine aj.dN (L2:= [aS ((cZ 8 0).getD 0) aD.2,aS ((cZ 7 0).getD 0) aD.1,aS b7 aD.2,aS b6 aD.1,aS bN ai,aS bo aa]) rfl (fF (aj.next (aw.ret (aj.ret ?_))));cases h;exact aj.WE rfl (JW 3 BS) (JW 2 hQ) (Jy rfl)
 refine az h fun aL dg h=>fk [0,1,2,3,4,5,7,8,9,10,11,12,13,14,15,16,17,18,19,20,21] ?_;refine aw.vZ 6 (ay 24 [] [1] _::ay 25 [] [0] _::ay 26 [] [] _::ay 27 [2] [4] _::ay 28 [] [] _::ay 29 [4] [5] _::ay 30 [3,5] [] _::ay 31 [6] [] _::ay 32 [7] [] _::hA [0] [3] [3] (fun hd=>aS b6 aD.1)::hA [1] [2] [2] (fun hd=>aS b7 aD.2)::ay 6 [8] [] _::[]) (fun xo=>?_);refine aj.dN (L2:= [aS ((cZ 8 0).getD 0) aD.2,aS ((cZ 7 0).getD 0) aD.1,aS b7 aD.2,aS b6 aD.1,aS bN ai,aS bo aa]) rfl (fF (aj.next (aw.ret ?_)));cases h;exact aj.WE rfl (JW 3 BS) (JW 2 hQ) (Jy rfl)
instance aqL:mj prog 227 _ _ Bd I.of I.of:= .i func227 rfl ntmps227 rfl fun aa r h W A=>by
 unfold Bd at h;exact go
instance Jz:e9 prog 243 _ _ _ yv I.of I.of I.of:= .i func243 rfl ntmps243 rfl fun aa ai r h W A=>by
 unfold yv at h;refine aM fun bo an bx h=>?_;refine kF (fun hb=>L5 qJ Ts u6 rfl (cD rfl hb) rfl rfl) ?_;exact go
instance aqM:mj prog 145 _ _ HU I.of I.of:= .i func145 rfl ntmps145 rfl fun aa r h W A=>by
 unfold HU at h;refine aM fun bo bN=>?_;refine az h fun an bx h=>az h fun aD cc h=>aw.fy 7 ?_;refine OP 1 Ap B8 ?_;refine di (bY EU.fd) ?_;refine az h fun bn eK h=>XJ 1 AH B9 (hb:=by exact eK) ?_;exact go
instance aqN:e9 prog 258 _ _ _ D8 I.of I.of I.of:= .i func258 rfl ntmps258 rfl fun aa ai r h W A=>by
 unfold D8 at h;exact go
theorem aaG {hp aa ai r}(h:DU hp aa ai=some r):ik prog 212 [I.of aa,I.of ai] hp (I.bP []) r:=by
 unfold DU at h;refine bJ.of func212 rfl ntmps212 rfl fun W A=>?_;refine aM fun bo bN=>?_;refine az h fun an bx h=>aw.fy 7 ?_;refine az h fun aD cc h=>J.dB 2 0 rfl ag9 (aaW cc) rfl rfl ⟨ae rfl,ae rfl,ae rfl,trivial⟩ rfl fun av=>J.db (J.nil ?_);exact aj.k0 go
theorem ZN {aa ai r}(h:KT aa ai=some r):dZ prog 265 [I.ptr aa,I.of ai] (I.of r):=by
 unfold KT at h;refine dZ.of func265 rfl ntmps265 rfl fun W A=>?_;refine aM fun bo=>?_;refine bj (aer underlying205 (ae rfl)) (cv ?_);refine aw.BO (ae rfl) rfl (aM ?_);refine J.share (α:=Int) 0 3 rfl rfl (bj (IG (F:=(fun a0=>x4 a0 ai)) (τs:= [I.ptr ai]) U7 ⟨ae rfl,trivial⟩ (fun _ _ h=>QH h)) ?_);refine az h fun an bx h=>vx U8 (Qu bx) ?_;exact go
instance Ca:e9 prog 115 _ _ _ pZ I.of I.of I.of:= .i func115 rfl ntmps115 rfl fun aa ai r h W A=>by
 unfold pZ at h;exact go
theorem Q5 {hp aa ai r}(h:AI hp aa ai=some r):ik prog 64 [I.of aa,I.of ai] hp (I.of r.1) r.2:=by
 unfold AI at h;refine bJ.of func64 rfl ntmps64 rfl fun W A=>cm (dW (jF ?_));refine cH ?_;refine cH ?_;refine az h fun an bx h=>J.fm (dL.gS 0 rfl U9 (QX bx) ⟨ae rfl,ae rfl,trivial⟩) rfl rfl rfl (dW (hX (aw.seq ?_)));refine az h fun bt dn h=>az h fun aL dg h=>az h fun c1 dy h=>az h fun cu e5 h=>az h fun c2 eR h=>az h fun bz dh h=>az h fun bn eK h=>aw.ml mixed 19 (rg 9 19) [[],[0],[1],[2],[2],[2,3],[2,5],[2,4,6],[2,7],[2],[2,9],[2,10],[2,11],[2],[2,12,13],[2,14],[2,15],[2,8,16],[2,17]] [_,_,_,_,_,_,_,_,_,_,_,_,_,_,_,_,_,_,_] ⟨gj,nc sF,gj,fG fun L' aq=>fun hb=>cG (ae rfl),fG fun L' aq=>fun hb=>cG (ae rfl),fG fun L' aq=>fun hb=>e4 (fg (cD rfl hb) (fA dn hb)),fG fun L' aq=>fun hb=>bY Bt.fd (cD rfl hb),fG fun L' aq=>fun hb=>kz (k:=aL) BT (cD rfl hb) (cD rfl hb) (dq (fA dg hb)),fG fun L' aq=>fun hb=>nq (((aK.id jf).comp x0).comp (aK.idx (α:=Int) 6 aL (dq (fA dg hb)).1)) (r:=b5 c1.hW aL) bR (cD rfl hb) (oO (fun i e q=>aq i e q rfl) (iK (n:=0) rfl (tD (fA dy hb)) rfl)) rfl rfl,fG fun L' aq=>fun hb=>cG (ae rfl),fG fun L' aq=>fun hb=>e4 (fg (cD rfl hb) (fA e5 hb)),fG fun L' aq=>fun hb=>bY aes.fd (cD rfl hb),fG fun L' aq=>fun hb=>nq ((aK.id jf).comp KL) (r:=c2.mN) B6 (cD rfl hb) (oO (fun i e q=>aq i e q rfl) (iK (n:=0) rfl (tD (fA eR hb)) rfl)) rfl rfl,fG fun L' aq=>fun hb=>cG (ae rfl),fG fun L' aq=>fun hb=>rN (k:=bz) underlying29 vh (cD rfl hb) (cD rfl hb) (dq (fA dh hb)),fG fun L' aq=>fun hb=>y1 DK afB.fd (cD rfl hb) rfl rfl,fG fun L' aq=>fun hb=>k9 bR (cD rfl hb),fG fun L' aq=>fun hb=>Nt (cD rfl hb) (cD rfl hb),xJ eK fun L' aq=>vl (ae rfl) (ae rfl) (fun h=>h),trivial⟩ (cv ?_);refine nH h (fun h=>?_) fun h=>?_
 ·refine cm (dW (cv (aw.ret (aj.ret ?_))));cases h;exact aj.eh () (.refl _) rfl rfl (dw rfl)
 refine l8 (aw.seq (az h fun dX j8 h=>az h fun cR ic h=>az h fun cY gF h=>az h fun hh pF h=>aw.ml mixed 10 (rg 28 10) [[],[],[0],[2],[1,3],[4],[5],[0],[7],[1,8]] [_,_,_,_,_,_,_,_,_,_] ⟨gj,gj,gu fun aq=>e4 (fg (ae rfl) j8),H1 (bY Bt.fd),gu fun aq=>kz (k:=cR) BT (ae rfl) (ae rfl) (dq ic),gu fun aq=>nq (((aK.id jf).comp x0).comp (aK.idx (α:=Int) 6 cR (dq ic).1)) (r:=b5 cY.hW cR) bR (ae rfl) (oO (fun i e q=>aq i e q rfl) (iK (n:=0) rfl (tD gF) rfl)) rfl rfl,nc j6,gu fun aq=>e4 (fg (ae rfl) j8),H1 (bY Bt.fd),gu fun aq=>kz (k:=hh) BT (ae rfl) (ae rfl) (dq pF),trivial⟩ ?_));refine az h fun bH gD h=>J.ns (k':=Cell.rW ({ cY with hW:=eb cY.hW hh (bk ((b5 cY.hW cR)+1)) } :jf)) 0 rfl (((aK.id jf).comp x0).comp (aK.idx (α:=Int) 6 hh (dq pF).1)) (v:=(bk ((b5 cY.hW cR)+1):Int)) bR (ae rfl) (ae rfl) (tD gF) rfl rfl rfl rfl (dc gD) (jF (dW (cv (aw.ret ?_))));cases h;exact aj.eh () (.refl _) rfl rfl (dw rfl)
theorem aao {aa ai aV bV r}(h:DM aa ai aV=some r):mi prog 59 [I.bE bV,I.of ai,I.of aV] bV aa (I.of r.1) r.2:=by
 unfold DM at h;refine bJ.of func59 rfl ntmps59 rfl fun W A=>?_;refine aM fun bo bN b6 an bx h=>?_;refine J.bm 3 rfl (az h fun aD cc h=>ef 1 gB (gx cc) fun av=>?_);refine aM ?_;refine J.bm 0 rfl (az h fun bf et h=>ef 1 gB (gx et) fun cQ=>?_);refine aM fun bn eK h=>?_;refine J.bm 0 rfl (az h fun bu fl h=>ef 1 gB (gx fl) fun ev=>?_);refine OL (fun z2 hz cd hE b7 h=>?_) (fun z2 hz cd hE b7 h=>?_) (fun z2 hz cd hE b7 h=>?_)
 ·refine J.bm 1 rfl (az h fun b9 hS h=>ef 1 gB (gx hS) fun hJ=>?_);refine aM (fun h=>?_);refine J.bm 0 rfl (az h fun cC lT h=>ef 1 gB (gx lT) fun ec=>?_);refine aM ?_;refine J.bm 0 rfl (az h fun b1 nF h=>ef 1 gB (gx nF) fun dM=>?_);refine aM fun aL dg h=>?_;refine az h fun cT pI h=>az h fun z3 mW h=>az h fun z4 r5 h=>aw.ml mixed 10 (rg 51 10) [[],[],[1],[],[],[3,4],[5],[2,6],[7],[0,8]] [_,_,_,_,_,_,_,_,_,_] ⟨gj,H1 (bY aet.fd),kP 1 qJ u6,gj,gj,vB XC.cn (XC.m _ _ _ pI),gu fun aq=>L5 qJ Ts u6 rfl (ae rfl) rfl rfl,nc Tt,xJ mW fun L' aq=>kg (b:=({ (default:aX) with cO:=cd.cO&&&cT.cO } :aX)) rfl BQ tN (.cons qJ rfl (ae rfl) rfl (.nil)),xJ r5 fun L' aq=>kg (b:=({ (default:cx) with gC:=true,fZ:=au [an,8,16,1,bk (1+cC.1)] aL,ck:=z3 } :cx)) rfl aha E4 (.cons Ho rfl (hn true) rfl (.cons Hs rfl (ae rfl) rfl (.cons Hx rfl (ae rfl) rfl (.nil)))),trivial⟩ ?_;exact go
 ·refine J.bm 1 rfl (az h fun fR vj h=>ef 1 gB (gx vj) fun kT=>?_);refine aM ?_;refine J.bm 0 rfl (az h fun h0 qX h=>ef 1 gB (gx qX) fun GI=>?_);exact go
 refine az h fun ie sP h=>az h fun kd JU h=>fk [0,1,2,4,5,6,7,8,12,13,14,15,16,17,18,19,20,21,22,23,24,25,26,27,28,29,30,31,32,33,36,37,61,62,85,86] ?_;refine aw.cn 5 (ay 87 [] [] _::ay 88 [0] [0] _::ay 89 [] [] _::⟨some 90,[2],[1],[1],fun _=>I.of ie.1,fun hd _=>aS bV ie.2⟩::ay 91 [3] [] _::ay 92 [1,4] [] _::ay 93 [] [] _::ay 94 [6] [] _::ay 95 [7] [] _::ay 96 [8] [] _::ay 97 [5,9] [] _::ay 11 [10] [] _::[]) (dG ?_ h3) (fun cZ=>?_)
 ·intro hd E' L' aE aq b3;exact J.bm 1 (aq 1 _ rfl rfl) (J.lj (Lin:= [aS bV bu.2]) (Lr:=L'.eraseIdx 1) gB (gx sP) ⟨ae (aE _ _ rfl),c9 256,trivial⟩ rfl fun sh=>J.nil (aj.back 1 (aq 1 _ rfl rfl) (aj.fin (cP []) rfl rfl)))
 refine aj.dN (L2:= [aS b7 cd,aS bV ie.2,aS b6 (default:cx),aS bN aV,aS bo ai]) rfl (fF (aj.next (cm ?_)));refine cH ?_;refine J.bm 1 rfl (az h fun jn vk h=>ef 1 gB (gx vk) fun zu=>?_);refine aM ?_;refine kF (fun hb=>y2 (cD rfl hb) (ae rfl) (fun h=>⟨hb,h⟩)) ?_;exact go
instance aqO:e9 prog 244 _ _ _ D9 I.of I.of I.of:= .i func244 rfl ntmps244 rfl fun aa ai r h W A=>by
 unfold D9 at h;exact go
theorem Z2 {ai:Int}{aV:aX}{c8:Ref} :EV prog 242 [I.ptr ai,I.ptr aV,I.ptr c8] (fun v:Int=>I.of v) (fun {σ ε} hq step cg=>ya (σ:=σ) (ε:=ε) ai aV c8 hq step cg):=by
 refine EV.of func242 rfl ntmps242 rfl ?_;intro σ ε γ Ls Lx hq lH pK step cg g0 R h W A u qw;replace h:ya ai aV c8 hq step cg R:=h;unfold ya at h;refine aM ?_;refine aw.Ua (σ:=Int×(σ)) (ε:=(Int×Bool×(σ)) ⊕ (Int×Int×Int×Bool×Bool×Bool×(ε))) (γ:=γ) (δ:=γ) h (fun s1 g1=>[(0,I.eq u),(1,I.ptr ai),(2,I.ptr aV),(3,I.ptr c8),(7,I.of ai),(8,I.of s1.1)]) (fun s1 g1=>(Ls s1.2 g1)) (fun av=>Sum.elim (fun av=>Exit.exit 0) (fun av=>Exit.ret) av) (fun av g1=>Sum.elim (fun av=>[(0,I.eq u),(1,I.ptr ai),(2,I.ptr aV),(3,I.ptr c8),(7,I.of ai),(8,I.of av.1),(9,I.of av.2.1)]) (fun av=>[(0,I.eq u),(1,I.ptr ai),(2,I.ptr aV),(3,I.ptr c8),(5,I.of av.1),(6,I.of av.2.1),(7,I.of ai),(8,I.of av.2.2.1),(9,I.of av.2.2.2.1),(19,I.of av.2.2.2.2.1),(23,I.of av.2.2.2.2.2.1)]) av) (fun av g1=>Sum.elim (fun av=>(Ls av.2.2 g1)) (fun av=>(Lx av.2.2.2.2.2.2 g1)) av) g0 rfl .all (fun s1 R h g1=>?_) (fun ar h g1=>?_)
 ·refine go2 (fun h=>?_) (fun h=>?_)
  ·refine ag.br h fun bt dn h=>ag.br h fun c1 dy h=>ag.br h fun an bx h=>aw.ml mixed 9 (rg 11 9) [[],[],[1],[2],[3],[4],[],[5,6],[0,7]] [_,_,_,_,_,_,_,_,_] ⟨H1 (k9 hQ),H1 (k9 Va),gu fun aq=>e4 (fg (ae rfl) dn),H1 (bY L6.fd),gu fun aq=>nq ((aK.id hl).comp DL) (r:=c1.gR) bR (ae rfl) (oO (fun i e q=>aq i e q rfl) (Vb (Ls:=Ls) (s:=s1.2) (g:=g1) 0 rfl pK (wQ dy) rfl)) rfl rfl,nc sH,gj,nc sH,vB Jz.cn (Jz.m _ _ _ bx),trivial⟩ (cv ?_);refine ag.br h fun m1 b4 h=>aw.cb (γ:=Unit) (fun g2=>[(0,I.eq u),(1,I.ptr ai),(2,I.ptr aV),(3,I.ptr c8),(5,I.of s1.1),(6,I.of m1),(7,I.of ai),(8,I.of s1.1),(9,I.of (decide (s1.1<ai))),(19,I.of an)]) (fun g2=>(Ls s1.2 g1)) (ae rfl) (fun g2=>?_) (fun hm ad=>?_) (fun hm ad=>?_)
   ·refine aM ?_;refine J.afC (Lin:= []) (Ls:=Ls) (Lx:=Lx) (step:=step) (s:=s1.2) (gg:=g1) rfl qw rfl (ae rfl) h rfl (fun s2 h g3=>?_) (fun cQ h g3=>?_)
    ·simp only [Sum.elim_inl] at h;refine J.dN (L2:=(Ls s2 g3)) rfl (di sG (cv ?_));refine aw.BO (ae rfl) (by first | rfl | (rw [hb];rfl)) ?_;refine aM ?_;exact aj.tE h g3 0 rfl .all
    simp only [Sum.elim_inr] at h;refine J.dN (L2:=(Lx cQ g3)) rfl (di sG (cv ?_));refine aw.Nl (ae rfl) (by first | rfl | (rw [hb];rfl)) ?_;exact aw.ret (aj.nC (aj.ret (aj.p7 h g3 0 rfl (by simp) rfl .all)))
   ·have h:=gk ad b4;exact go
   have h:=gl ad b4;exact go
  exact aj.p7 h g1 0 rfl (by simp) rfl .all
 rcases ar with ar | ar
 ·simp only [Sum.elim_inl] at h;exact aj.mP (aj.k0 (aj.nv (⟨⟨(.inl ar.2.2:σ ⊕ ε),h⟩,g1⟩: {r // _}×_) (.refl _) rfl rfl))
 simp only [Sum.elim_inr] at h;exact aj.nC (aj.nv (⟨⟨(.inr ar.2.2.2.2.2.2:σ ⊕ ε),h⟩,g1⟩: {r // _}×_) (.refl _) rfl rfl)
theorem QT {hp:aG Cell}{ai:Int}{aV:aX}{c8:Ref} :EW prog 242 [I.ptr ai,I.ptr aV,I.ptr c8] hp (fun v:Int=>I.of v) (fun {σ ε} =>uA (σ:=σ) (ε:=ε) hp ai aV c8):=by
 refine EW.of func242 rfl ntmps242 rfl ?_;intro σ ε γ Ls Lx lH pK step cg g0 r h W A u qw;replace h:uA hp ai aV c8 step cg=some r:=h;unfold uA at h;refine aM ?_;refine az h fun ar ak h=>aw.Nu (σ:=Int×(σ)) (ε:=(Int×Bool×(σ)) ⊕ (Int×Int×Int×Bool×Bool×Bool×(ε))) (γ:=γ) (δ:=γ) ak (fun s1 g1=>[(0,I.eq u),(1,I.ptr ai),(2,I.ptr aV),(3,I.ptr c8),(7,I.of ai),(8,I.of s1.1)]) (fun s1 g1=>(Ls s1.2 g1)) (fun av=>Sum.elim (fun av=>Exit.exit 0) (fun av=>Exit.ret) av) (fun av g1=>Sum.elim (fun av=>[(0,I.eq u),(1,I.ptr ai),(2,I.ptr aV),(3,I.ptr c8),(7,I.of ai),(8,I.of av.1),(9,I.of av.2.1)]) (fun av=>[(0,I.eq u),(1,I.ptr ai),(2,I.ptr aV),(3,I.ptr c8),(5,I.of av.1),(6,I.of av.2.1),(7,I.of ai),(8,I.of av.2.2.1),(9,I.of av.2.2.2.1),(19,I.of av.2.2.2.2.1),(23,I.of av.2.2.2.2.2.1)]) av) (fun av g1=>Sum.elim (fun av=>(Ls av.2.2 g1)) (fun av=>(Lx av.2.2.2.2.2.2 g1)) av) g0 rfl .all (fun s1 r h g1=>?_) (fun g1=>?_)
 ·refine go2 (fun h=>?_) (fun h=>?_)
  ·refine az h fun bt dn h=>az h fun c1 dy h=>az h fun an bx h=>aw.ml mixed 9 (rg 11 9) [[],[],[1],[2],[3],[4],[],[5,6],[0,7]] [_,_,_,_,_,_,_,_,_] ⟨H1 (k9 hQ),H1 (k9 Va),gu fun aq=>e4 (fg (ae rfl) dn),H1 (bY L6.fd),gu fun aq=>nq ((aK.id hl).comp DL) (r:=c1.gR) bR (ae rfl) (oO (fun i e q=>aq i e q rfl) (ahb (Ls:=Ls) (s:=s1.2) (g:=g1) 0 rfl pK (wQ dy) rfl)) rfl rfl,nc sH,gj,nc sH,vB Jz.cn (Jz.m _ _ _ bx),trivial⟩ (cv ?_);refine az h fun m1 b4 h=>aw.cb (γ:=Unit) (fun g2=>[(0,I.eq u),(1,I.ptr ai),(2,I.ptr aV),(3,I.ptr c8),(5,I.of s1.1),(6,I.of m1),(7,I.of ai),(8,I.of s1.1),(9,I.of (decide (s1.1<ai))),(19,I.of an)]) (fun g2=>(Ls s1.2 g1)) (ae rfl) (fun g2=>?_) (fun hm ad=>?_) (fun hm ad=>?_)
   ·refine aM ?_;refine az h fun aD cc h=>J.yield (Lin:= []) (Ls:=Ls) (Lx:=Lx) (step:=step) (s:=s1.2) (gg:=g1) rfl qw rfl (ae rfl) cc rfl (fun s2 aA g3=>?_) (fun cQ aA g3=>?_)
    ·subst aA;simp only [Sum.elim_inl] at h;refine J.dN (L2:=(Ls s2 g3)) rfl (di sG (cv ?_));refine aw.BO (ae rfl) (by first | rfl | (rw [hb];rfl)) ?_;refine aM ?_;cases h;exact ib g3 0
    subst aA;simp only [Sum.elim_inr] at h;refine J.dN (L2:=(Lx cQ g3)) rfl (di sG (cv ?_));refine aw.Nl (ae rfl) (by first | rfl | (rw [hb];rfl)) ?_;refine aw.ret (aj.nC (aj.ret ?_));cases h;exact ha g3 0
   ·have h:=gk ad b4;exact go
   have h:=gl ad b4;exact go
  cases h;exact ha g1 0
 rcases ar with ar | ar
 ·simp only [Sum.elim_inl] at h;refine aj.mP (aj.k0 ?_);cases h;exact aj.nv g1 (.refl _) rfl rfl
 simp only [Sum.elim_inr] at h;refine aj.nC ?_;cases h;exact aj.nv g1 (.refl _) rfl rfl
theorem HV {hp aa Q}(h:Er hp aa Q):k6 prog 28 [I.of aa] hp Q:=by
 unfold Er at h;refine bJ.of func28 rfl ntmps28 rfl fun W A=>cm (pE fun bo=>?_);refine bj (c5 nU) ?_;refine aM ?_;refine J.ET (α:=Int) (β:=Ref) 1 rfl (Cell.rX ([]:List (Int×Ref))) (fun _=>rfl) rfl fun bT pD=>?_;replace h:=ag.pe h bT pD;refine ag.br h fun bn eK h=>pU eK (kg (b:= { iR:=aa,qM:=(⟨some bT.1⟩:eQ),nt:=1:kr }) rfl ahc ahd (.cons QI rfl (ae rfl) rfl (.cons Db rfl (ae rfl) rfl (.cons Ht rfl (c9 1) rfl (.nil))))) ?_;refine J.xa 1 rfl (Cell.qh bn) (fun _=>rfl) (ae rfl) rfl fun a2 oh=>?_;replace h:=ag.pe h a2 oh;refine aM fun c1 dy h=>?_;refine zw (σ:=Int×(aG Cell)) (ε:=(Int×Bool×(aG Cell))) (γ:=Unit) (δ:=Unit) h 1 [0,1,2,3,14,15] (fun s1 g1=>[(16,I.of s1.1)]) (fun s1 g1=>[]) (fun s1 g1=>aI s1.2) (fun av=>Exit.exit 0) (fun av g1=>[(16,I.of av.1),(17,I.of av.2.1)]) (fun av g1=>[]) (fun av g1=>aI av.2.2) () (fun s1 R h g1=>?_) (fun ar h g1=>?_)
 ·refine go2 (fun aL dg bN h=>?_) (fun h=>?_)
  ·refine ag.br h fun gO pJ h=>?_;obtain⟨fw,l6,rY⟩:=ag.ex h;refine IH mixed 10 9 29 _ (K:=fw) [some (20,I.of (some a2.1:Ref)),some (21,I.bE a2.1),some (22,I.eq (.pointer (some ⟨a2.1,0+10,none⟩))),some (23,I.of gO.qM),some (24,I.eq (.pointer (some ⟨bN,0+0,none⟩))),some (25,I.of ((au c1.iR.bS aL).bU)),some (26,I.of aa),some (27,I.eq (.pointer (some ⟨bN,0+0,none⟩))),some (28,I.of ((au c1.iR.bS aL).bU)),none] _ [[],[0],[1],[2],[],[4],[],[],[7],[6,8]] _ (fun an=>I.of an.1) (fun an=>(aS bN (au c1.iR.bS aL:ca)::aS bo aa::aI an.2)) rfl rfl rfl rfl rfl rfl (by kernel_rfl) ⟨⟨cG (ae rfl),fun an fu=>cG (ae rfl)⟩,⟨e4 (fg (ae rfl) rfl),fun an fu=>e4 (fg (ae rfl) rfl)⟩,⟨bY L7.fd (ae rfl),fun an fu=>bY L7.fd (ae rfl)⟩,⟨nq ((aK.id kr).comp Db) (r:=gO.qM) Jd (ae rfl) (iK (n:=2) rfl (sy pJ) rfl) rfl rfl,fun an fu=>nq ((aK.id kr).comp Db) (r:=gO.qM) Jd (ae rfl) (iK (n:=2) rfl (sy (ag.alY (rY an fu))) rfl) rfl rfl⟩,⟨bY EX.fd (ae rfl),fun an fu=>bY EX.fd (ae rfl)⟩,⟨gz (i:=0) ((aK.id ca).comp tu) (r:=(au c1.iR.bS aL).bU) bR (ae rfl) rfl rfl rfl,fun an fu=>gz (i:=0) ((aK.id ca).comp tu) (r:=(au c1.iR.bS aL).bU) bR (ae rfl) rfl rfl rfl⟩,⟨gz (i:=1) (aK.id aZ) (r:=aa) iX (ae rfl) rfl rfl rfl,fun an fu=>gz (i:=1) (aK.id aZ) (r:=aa) iX (ae rfl) rfl rfl rfl⟩,⟨bY EX.fd (ae rfl),fun an fu=>bY EX.fd (ae rfl)⟩,⟨gz (i:=0) ((aK.id ca).comp tu) (r:=(au c1.iR.bS aL).bU) bR (ae rfl) rfl rfl rfl,fun an fu=>gz (i:=0) ((aK.id ca).comp tu) (r:=(au c1.iR.bS aL).bU) bR (ae rfl) rfl rfl rfl⟩,trivial⟩ (fun hB v7 aE bz=>?_) (fun an fu=>?_)
   ·refine J.dB 2 0 rfl ajC (abC l6) rfl rfl ⟨ae (aE rfl),ae (aE rfl),trivial⟩ rfl fun⟨⟨an,fu⟩,_⟩=>J.db (J.nil ?_);exact bz an fu
   have h:=rY an fu;replace h:=ag.ajD h;refine J.le (E':= [(0,I.of aa),(1,I.bE bo),(2,I.of (none:Ref)),(3,I.of (some a2.1:Ref)),(5,I.bE bN),(14,I.of c1.iR.bS),(15,I.of (c1.iR.bS.length:Int)),(16,I.of s1.1),(17,I.of (decide (s1.1<(c1.iR.bS.length:Int)))),(18,I.ptr (au c1.iR.bS aL)),(19,I.of (au c1.iR.bS aL)),(20,I.of (some a2.1:Ref)),(21,I.bE a2.1),(22,I.eq (.pointer (some ⟨a2.1,0+10,none⟩))),(23,I.of gO.qM),(24,I.eq (.pointer (some ⟨bN,0+0,none⟩))),(25,I.of ((au c1.iR.bS aL).bU)),(26,I.of aa),(27,I.eq (.pointer (some ⟨bN,0+0,none⟩))),(28,I.of ((au c1.iR.bS aL).bU)),(29,I.of an.1)]) .all (ag.br h fun bt dn h=>ag.br h fun ke ud h=>ag.br h fun bH gD h=>?_);refine J.E5 (k':=Cell.rX (gn ke ((au c1.iR.bS aL).bU) an.1)) 2 rfl (by first | exact .inl rfl | exact .inr rfl) underlying161 zr (kW (ae rfl) dn) (ae rfl) (ae rfl) (wO ud) rfl rfl rfl (dc gD) ?_;refine aM ?_;exact aj.tE h () 1 rfl .all
  exact aj.p7 h () 0 rfl (by simp) rfl .all
 refine aM ?_;exact aj.eh (⟨⟨((some a2.1:Ref),ar.2.2),h⟩,()⟩: {r // _}×_) (fE 1) rfl rfl (dw rfl)
instance WG:mj prog 152 _ _ uE I.of I.of:= .i func152 rfl ntmps152 rfl fun aa r h W A=>by
 unfold uE at h;refine aM ?_;refine az h fun ar ak h=>fD (γ:=Unit) (δ:=Unit) ak [0,5,6] (fun s1 g1=>[(2,I.of (0:Int)),(7,I.of s1)]) (fun s1 g1=>[]) (fun av=>Sum.elim (fun av=>Exit.exit 0) (fun av=>Exit.ret) av) (fun av g1=>Sum.elim (fun av=>[(2,I.of (0:Int)),(7,I.of av.1),(8,I.of av.2)]) (fun av=>[(2,I.of av.1),(4,I.of av.2.1),(7,I.of av.2.2.1),(8,I.of av.2.2.2.1),(12,I.of av.2.2.2.2)]) av) (fun av g1=>[]) () (fun s1 r h g1=>?_) fun g1=>?_
 ·exact go
 rcases ar with ar | ar
 ·simp only [Sum.elim_inl] at h;exact go
 simp only [Sum.elim_inr] at h;exact go
theorem Za {aa:List aC}{ai aV:Int}{n3:Option Nat}{fr:Nat}{r:List aC}(h:KH aa ai aV=some r):bJ prog 269 [I.eq (aJ n3 aa.length fr),I.of ai,I.of aV] [⟨n3,.row 54 aa fr⟩] (δ:=(Option Nat×Nat)) (fun d=>I.eq (aJ d.1 r.length d.2)) (fun d=>[⟨d.1,.row 54 r d.2⟩]):=by
 unfold KH at h;obtain⟨m,n,rfl,rfl,vC,aH,rfl⟩:=acr h;refine bJ.of func269 rfl ntmps269 rfl fun W A=>?_;refine aw.seq (aw.fv (J.v (c5 lK) rfl rfl rfl (J.nil (aj.next (aw.seq (aw.fv (J.v (cG (ae rfl)) rfl rfl rfl (J.v (cG (ae rfl)) rfl rfl rfl (J.v (cG (ae rfl)) rfl rfl rfl (J.v (cG (ae rfl)) rfl rfl rfl (J.v (mO (i:=0) (xs:=aa) underlying43 (ae rfl) rfl rfl) rfl rfl rfl ?_)))))))))));refine J.v (adr (i:=0) (xs:=aa) underlying43 eZ (ae rfl) rfl (ae rfl) (ae rfl) (ae rfl) ⟨vC,aH,Nat.le_refl _⟩) rfl rfl rfl ?_;refine J.nil (aj.next (aw.seq (aw.seq (aw.fv (J.v (cG (ae rfl)) rfl rfl rfl (J.v (cG (ae rfl)) rfl rfl rfl (J.v (sC (ae rfl) (ae rfl)) rfl rfl rfl (J.nil (aj.next (aw.cond (ae rfl) (fun ad=>?_) (fun ad=>?_)))))))))))
 ·have ajE:m=n:=by simp only [beq_iff_eq] at ad;omega
  subst ajE;rw [List.take_append_drop];refine aw.seq (aw.fv (J.v (cG (ae rfl)) rfl rfl rfl (J.v (c5 (ae rfl)) rfl rfl rfl (J.nil (aj.next (aw.ret ?_))))));repeat (apply aj.ret)
  exact aj.eh (n3,fr) (.cons_cons _ (List.nil_sublist _)) rfl rfl (dw rfl)
 have cj:m<n:=by simp only [beq_eq_false_iff_ne] at ad;omega
 refine aw.skip (aj.next (aw.some (i:=0) (xs:=aa) rfl (by omega) fun p hp xc zx=>?_));subst hp;refine aw.seq (aw.fv (J.v (cG (ae rfl)) rfl rfl rfl (J.v (mO (i:=0) (xs:=aa) underlying43 (ae rfl) rfl rfl) rfl rfl rfl ?_)));refine J.v (c5 (ae rfl)) rfl rfl rfl (J.nil (aj.next ?_));have hlen:(aa.take m++aa.drop n++aa.drop (m+(aa.length - n))).length=aa.length:=by simp only [List.length_append,List.length_take,List.length_drop];omega
 have Cn:(aa.take m++aa.drop n).length=m+(aa.length - n):=by simp only [List.length_append,List.length_take,List.length_drop];omega
 refine aw.seq (aw.le (E':= [(0,I.eq (aJ (some p) aa.length fr)),(1,I.of (m:Int)),(2,I.of (n:Int)),(7,I.of (aa.length:Int))]) .all ?_);refine aw.Kv mixed (⟨some 20,[],[],[],fun _=>I.eq (aJ (some p) aa.length fr),fun _ _=>⟨none,.dead⟩⟩::⟨some 21,[],[],[],fun _=>I.of (m:Int),fun _ _=>⟨none,.dead⟩⟩::⟨some 22,(0::1::[]),(0::[]),[],fun _=>I.eq (iY (some p) 0 (m - 0) fr (ah.size aC)),fun _ _=>⟨none,.dead⟩⟩::⟨some 23,[],[],[],fun _=>I.eq (aJ (some p) aa.length fr),fun _ _=>⟨none,.dead⟩⟩::⟨some 24,[],[],[],fun _=>I.of (n:Int),fun _ _=>⟨none,.dead⟩⟩::⟨some 25,(3::4::[]),(0::[]),[],fun _=>I.eq (iY (some p) n (aa.length - n) fr (ah.size aC)),fun _ _=>⟨none,.dead⟩⟩::⟨some 26,(0::1::2::3::4::5::[]),(0::[]),(0::[]),fun _=>I.eq (aJ (some p) (m+(aa.length - n)) fr),fun _ _=>⟨some p,.row 54 (aa.take m++aa.drop n++aa.drop (m+(aa.length - n))) fr⟩⟩::⟨some 0,(0::1::2::3::4::5::6::[]),[],[],fun _=>I.eq (aJ (some p) (m+(aa.length - n)) fr),fun _ _=>⟨none,.dead⟩⟩::[]) (0::1::2::7::[]) ⟨?_,?_,?_,?_,?_,?_,?_,?_,trivial⟩ fun hd=>?_
 ·exact jR rfl rfl rfl fun hd E' L' aE aq=>cG (ae (aE _ _ rfl))
 ·exact jR rfl rfl rfl fun hd E' L' aE aq=>cG (ae (aE _ _ rfl))
 ·exact jR rfl rfl rfl fun hd E' L' aE aq=>Bp (i:=0) (xs:=aa) underlying43 eZ (ae (aE _ _ rfl)) (aq 0 _ rfl rfl) .none (.some (ae (aE _ _ rfl))) rfl rfl ⟨Nat.zero_le _,by omega⟩
 ·exact jR rfl rfl rfl fun hd E' L' aE aq=>cG (ae (aE _ _ rfl))
 ·exact jR rfl rfl rfl fun hd E' L' aE aq=>cG (ae (aE _ _ rfl))
 ·exact jR rfl rfl rfl fun hd E' L' aE aq=>Bp (i:=0) (xs:=aa) underlying43 eZ (ae (aE _ _ rfl)) (aq 0 _ rfl rfl) (.some (ae (aE _ _ rfl))) .none rfl rfl ⟨aH,Nat.le_refl _⟩
 ·intro hd E' L' aE aq;have bq:=aq 0 _ rfl rfl;refine J.afD (i:=0) (m:=m) (n:=n) (xs:=aa) underlying43 eZ (ae (aE _ _ rfl)) (ae (aE _ _ rfl)) bq cj aH rfl ?_;exact J.nil (aj.fin (cP []) rfl rfl)
 ·exact jR rfl rfl rfl fun hd E' L' aE aq=>c5 (ae (aE _ _ rfl))
 refine aj.next (aw.seq (aw.fv (J.v (cG (ae rfl)) rfl rfl rfl (J.v (cG (ae rfl)) rfl rfl rfl (J.v (afE underlying43 (ae rfl)) rfl rfl rfl (J.v (cG (ae rfl)) rfl rfl rfl (J.v (uK (α:=aC) (m:=m+(aa.length - n)) (h:=aa.length) underlying43 eZ (ae rfl) (.some (ae rfl)) (.some (ae rfl)) rfl rfl ⟨by omega,xc⟩) rfl rfl rfl ?_)))))))
 refine J.clear (i:=0) (lo:=m+(aa.length - n)) (n:=aa.length - (m+(aa.length - n))) (xs:=aa.take m++aa.drop n++aa.drop (m+(aa.length - n))) underlying43 eZ fC rfl (ae rfl) rfl (by rw [hlen];omega) rfl ?_;refine J.nil (aj.next (aw.seq (aw.fv (J.v (cG (ae rfl)) rfl rfl rfl (J.v (c5 (ae rfl)) rfl rfl rfl (J.nil (aj.next (aw.ret ?_))))))));have WH:(tF (aa.take m++aa.drop n++aa.drop (m+(aa.length - n))) (m+(aa.length - n)) (aa.length - (m+(aa.length - n)))).take (m+(aa.length - n))=aa.take m++aa.drop n:=by
  unfold tF;rw [List.append_assoc,List.take_append_of_le_length (by rw [List.length_take,hlen];omega),List.take_take,Nat.min_self,List.take_append_of_le_length (by rw [Cn];exact Nat.le_refl _),← Cn,List.take_length]
 refine aj.again (.row 54 (aa.take m++aa.drop n) fr) 0 rfl (fun A W o h=>?_) (fun h=>?_) ?_
 ·have c0:=Ih (n:=m+(aa.length - n)) (by unfold tF;simp only [List.length_append,List.length_take,List.length_replicate,List.length_drop,hlen];omega) h;rwa [WH] at c0
 ·exact⟨by rw [← WH,h.1];simp,h.2⟩
 refine aj.eh ((some p,fr):Option Nat×Nat) (.cons_cons _ (List.nil_sublist _)) rfl ?_ (dw rfl);rw [Cn]
theorem QO {hp aa ai r}(h:Aq hp aa ai=some r):ik prog 66 [I.of aa,I.of ai] hp (I.bP []) r:=by
 unfold Aq at h;refine bJ.of func66 rfl ntmps66 rfl fun W A=>?_;refine aM ?_;refine az h fun m1 b4 h=>q3 (γ:=Unit) 0 [0,1,5] (fun g1=>[]) (fun g1=>[]) (fun g1=>aI m1) (fun g1=>?_) (fun hm ad=>?_) (fun hm ad=>?_)
 ·exact aj.k0 go
 ·have h:=gk ad b4;refine aM fun bt dn h=>?_;exact az h fun c1 dy h=>az h fun bH gD h=>J.ns (k':=Cell.qh ({ c1 with nt:=max 1 ai } :kr)) 0 rfl ((aK.id kr).comp Ht) (v:=(max 1 ai:Int)) bR (ae rfl) (ae rfl) (sy dy) rfl rfl rfl rfl (dc gD) go
 have h:=gl ad b4;exact go
instance aqP:e9 prog 146 _ _ _ A6 I.of I.of I.of:= .i func146 rfl ntmps146 rfl fun aa ai r h W A=>by
 unfold A6 at h;exact go
instance aqQ:e9 prog 147 _ _ _ Ea I.of I.of I.of:= .i func147 rfl ntmps147 rfl fun aa ai r h W A=>by
 unfold Ea at h;exact go
theorem Q6 {hp aa ai aV c8 r}(h:AJ hp aa ai aV c8=some r):ik prog 130 [I.of aa,I.of ai,I.of aV,I.of c8] hp (I.bP []) r:=by
 unfold AJ at h;refine bJ.of func130 rfl ntmps130 rfl fun W A=>?_;refine aM fun bo=>?_;refine az h fun bt dn h=>az h fun c1 dy h=>az h fun cu e5 h=>az h fun c2 eR h=>az h fun bn eK h=>aw.BU 1 1 (fk [0,1,2,3,5] ?_);refine aw.cn 2 (ay 9 [] [] _::ay 10 [0] [] _::ay 11 [1] [] _::ay 12 [2] [] _::ay 13 [] [0] _::ay 14 [3,4] [] (I.of bn)::qk 8 [] 1 6 _::hA [5,6] [1] [1] (fun hd=>aS ((hd 6 0).getD 0) bn)::[]) (dG ?_ h3) (fun cZ=>?_)
 ·intro hd E' L' aE aq b3;refine bj (uN (r:=bn) underlying166 Nv ahe (kW (ae (aE _ _ rfl)) e5) (ae (aE _ _ rfl)) (iK (n:=2) (b3.trans rfl) (tG eR) rfl) (dc eK)) (J.nil ?_);exact aj.fin (cP []) rfl rfl
 refine aj.dN (L2:=(aS bo ai::aS ((cZ 6 0).getD 0) bn::aI hp)) rfl (fF ?_);refine aj.bm 1 rfl (aj.next (cm (di (bY Tu.fd) ?_)));refine vD 0 Dh bR ?_;refine cH ?_;refine hB j6 ?_;refine di (bY Tu.fd) ?_;refine OP 0 Dh bR (jF ?_);refine di (bY Tv.fd) ?_;refine vD 0 C8 bR ?_;refine cH ?_;refine hB j6 ?_;refine di (bY Tv.fd) ?_;refine az h fun z2 hz h=>XJ 0 C8 bR (hb:=by exact hz) ?_;refine go2 (fun h=>?_) (fun h=>?_)
 ·refine az h fun dX j8 h=>az h fun cY gF h=>aw.fy 5 ?_;exact az h fun km ub h=>az h fun gO pJ h=>az h fun bH gD h=>J.Je (k':=Cell.rV (iL gO ai)) 2 rfl underlying166 Nv (kW (ae rfl) ub) (ae rfl) (tG pJ) rfl rfl rfl (dc gD) go
 refine az h fun kn vE h=>az h fun ke ud h=>aw.fy 6 ?_;refine az h fun pV Co h=>az h fun jG ue h=>az h fun cE tV h=>J.E5 (k':=Cell.rV (gn jG ai z2)) 2 rfl (by first | exact .inl rfl | exact .inr rfl) underlying166 Nv (kW (ae rfl) Co) (ae rfl) (ae rfl) (tG ue) rfl rfl rfl (dc tV) ?_;exact J.nil (aj.k0 go)
theorem Zb {aa ai aV r}(h:CV aa ai aV=some r):dZ prog 153 [I.of aa,I.of ai,I.zv prog aV] (I.of r):=by
 unfold CV at h;refine dZ.of func153 rfl ntmps153 rfl fun W A=>?_;refine aM ?_;refine az h fun ar ak h=>fD (γ:=Unit) (δ:=Unit) ak [0,1,2,11,12] (fun s1 g1=>[(6,I.of (0:Int)),(13,I.of s1)]) (fun s1 g1=>[]) (fun av=>Sum.elim (fun av=>Exit.exit 0) (fun av=>Exit.ret) av) (fun av g1=>Sum.elim (fun av=>[(6,I.of (0:Int)),(13,I.of av.1),(14,I.of av.2)]) (fun av=>[(6,I.of av.1),(7,I.of av.2.1),(13,I.of av.2.2.1),(14,I.of av.2.2.2.1),(21,I.of av.2.2.2.2)]) av) (fun av g1=>[]) () (fun s1 r h g1=>?_) fun g1=>?_
 ·refine aM (fun aL dg bo bz dh bN h=>?_);refine az h fun an bx h=>bj (Ig (ae rfl) (ae rfl) (ae rfl) bx) ?_;exact go
 rcases ar with ar | ar
 ·simp only [Sum.elim_inl] at h;exact go
 simp only [Sum.elim_inr] at h;exact go
theorem Zc {aa ai aV r}(h:CW aa ai aV=some r):dZ prog 155 [I.of aa,I.of ai,I.zv prog aV] (I.of r):=by
 unfold CW at h;refine dZ.of func155 rfl ntmps155 rfl fun W A=>?_;refine aM ?_;refine az h fun ar ak h=>fD (γ:=Unit) (δ:=Unit) ak [0,1,2,11,12] (fun s1 g1=>[(6,I.of (0:Int)),(13,I.of s1)]) (fun s1 g1=>[]) (fun av=>Sum.elim (fun av=>Exit.exit 0) (fun av=>Exit.ret) av) (fun av g1=>Sum.elim (fun av=>[(6,I.of (0:Int)),(13,I.of av.1),(14,I.of av.2)]) (fun av=>[(6,I.of av.1),(7,I.of av.2.1),(13,I.of av.2.2.1),(14,I.of av.2.2.2.1),(21,I.of av.2.2.2.2)]) av) (fun av g1=>[]) () (fun s1 r h g1=>?_) fun g1=>?_
 ·refine aM (fun aL dg bo bz dh bN h=>?_);refine az h fun an bx h=>bj (Ig (ae rfl) (ae rfl) (ae rfl) bx) ?_;exact go
 rcases ar with ar | ar
 ·simp only [Sum.elim_inl] at h;exact go
 simp only [Sum.elim_inr] at h;exact go
instance aqR:mj prog 180 _ _ AY I.of I.of:= .i func180 rfl ntmps180 rfl fun aa r h W A=>by
 unfold AY at h;exact go
theorem Rn {aa ai r}(h:tv aa ai=some r):dZ prog 116 [I.of aa,I.of ai] (I.of r):=by
 unfold tv at h;refine dZ.of func116 rfl ntmps116 rfl fun W A=>?_;refine aM (fun bo bN h=>?_);refine kF (fun hb=>y2 (cD rfl hb) (ae rfl) (fun h=>⟨hb,h⟩)) ?_;exact go
instance aqS:e9 prog 116 _ _ _ tv I.of I.of I.of:=
 ⟨⟨_,func116,rfl,by kernel_rfl⟩,fun _ _ _ h=>Rn h⟩
theorem aaH {hp aa r}(h:DV hp aa=some r):ik prog 83 [I.of aa] hp (I.of r) hp:=by
 unfold DV at h;refine bJ.of func83 rfl ntmps83 rfl fun W A=>?_;exact go
def R8:Go.Shelf.Ren:=⟨fun | 6=>112 | 15=>139 | 14=>138 | 28=>164 | 29=>165 | 20=>156 | 21=>157 | 22=>158 | 23=>159 | 24=>160 | 25=>161 | 26=>162 | 27=>163 | 46=>181 | 47=>182 | 48=>183 | 49=>184 | 50=>185 | 57=>191 | n=>n,fun | 22=>113 | 24=>126 | 25=>221 | 3=>3 | 39=>188 | 0=>0 | 53=>268 | 55=>104 | 4=>4 | 46=>262 | 45=>261 | 50=>236 | 5=>5 | 9=>9 | 66=>283 | 70=>287 | 76=>292 | 77=>191 | n=>n,fun | n=>n⟩
theorem ahf:Go.Proofs.SlLaysF0.n6 prog R8:= {
 mixed:=by kernel_rfl
 f6:=⟨f112.name,by decide,func112.trans (congrArg some (by kernel_rfl))⟩
 f14:=⟨f138.name,by decide,func138.trans (congrArg some (by kernel_rfl))⟩
 f15:=func139.trans (congrArg some (by kernel_rfl))
 f20:=⟨f156.name,by decide,func156.trans (congrArg some (by kernel_rfl))⟩
 f21:=⟨f157.name,by decide,func157.trans (congrArg some (by kernel_rfl))⟩
 f22:=⟨f158.name,by decide,func158.trans (congrArg some (by kernel_rfl))⟩
 f23:=⟨f159.name,by decide,func159.trans (congrArg some (by kernel_rfl))⟩
 f24:=⟨f160.name,by decide,func160.trans (congrArg some (by kernel_rfl))⟩
 f25:=⟨f161.name,by decide,func161.trans (congrArg some (by kernel_rfl))⟩
 f26:=⟨f162.name,by decide,func162.trans (congrArg some (by kernel_rfl))⟩
 f27:=⟨f163.name,by decide,func163.trans (congrArg some (by kernel_rfl))⟩
 f28:=func164.trans (congrArg some (by kernel_rfl))
 f29:=func165.trans (congrArg some (by kernel_rfl))
 f46:=⟨f181.name,by decide,func181.trans (congrArg some (by kernel_rfl))⟩
 f47:=func182.trans (congrArg some (by kernel_rfl))
 f48:=func183.trans (congrArg some (by kernel_rfl))
 f49:=⟨f184.name,by decide,func184.trans (congrArg some (by kernel_rfl))⟩
 f50:=⟨f185.name,by decide,func185.trans (congrArg some (by kernel_rfl))⟩
 f57:=⟨f191.name,by decide,func191.trans (congrArg some (by kernel_rfl))⟩
 t0:=underlying0
 a0:=isAgg0
 z0:=sizeOf0
 v0:=zeroValue0
 t3:=underlying3
 a3:=isAgg3
 z3:=sizeOf3
 v3:=zeroValue3
 t4:=underlying4
 a4:=isAgg4
 z4:=sizeOf4
 v4:=zeroValue4
 t5:=underlying5
 a5:=isAgg5
 z5:=sizeOf5
 v5:=zeroValue5
 t9:=underlying9
 a9:=isAgg9
 z9:=sizeOf9
 v9:=zeroValue9
 t22:=underlying113
 a22:=isAgg113
 z22:=sizeOf113
 v22:=zeroValue113
 t25:=underlying221
 a25:=isAgg221
 z25:=sizeOf221
 v25:=zeroValue221
 t39:=underlying188
 a39:=isAgg188
 z39:=sizeOf188
 v39:=zeroValue188
 t45:=underlying261
 a45:=isAgg261
 z45:=sizeOf261
 v45:=zeroValue261
 t46:=underlying262
 a46:=isAgg262
 z46:=sizeOf262
 v46:=zeroValue262
 t50:=underlying236
 a50:=isAgg236
 z50:=sizeOf236
 v50:=zeroValue236
 t53:=underlying268
 a53:=isAgg268
 z53:=sizeOf268
 v53:=zeroValue268
 t55:=underlying104
 a55:=isAgg104
 z55:=sizeOf104
 v55:=zeroValue104
 t66:=underlying283
 a66:=isAgg283
 z66:=sizeOf283
 v66:=zeroValue283
 t70:=underlying287
 a70:=isAgg287
 z70:=sizeOf287
 v70:=zeroValue287
 t76:=underlying292
 a76:=isAgg292
 z76:=sizeOf292
 v76:=zeroValue292
 t77:=underlying191
 a77:=isAgg191
 z77:=sizeOf191
 v77:=zeroValue191 }
theorem Zd {xs F K}(h:ag.u4 xs F K){key:Option Nat}{cap:Nat} :bJ prog 112 [.eq (aJ key xs.length cap),.FQ prog F] [⟨key,.row 126 xs cap⟩] (δ:= {r:List gV // xs.length=r.length∧K r}) (fun _=>.bP []) (fun d=>[⟨key,.row 126 d.1 cap⟩]):=UY (ρ:=R8) ahf (fun _=>by kernel_rfl) (fun _=>by kernel_rfl) rfl h
instance aqT:mj prog 114 _ _ El I.of I.of:= .i func114 rfl ntmps114 rfl fun aa r h W A=>by
 unfold El at h;refine aM ?_;refine az h fun ar ak h=>fD (γ:=Unit) (δ:=Unit) ak [0,3,6,7] (fun s1 g1=>[(2,I.of (0:Int)),(8,I.of s1)]) (fun s1 g1=>[]) (fun av=>Sum.elim (fun av=>Exit.exit 0) (fun av=>Exit.ret) av) (fun av g1=>Sum.elim (fun av=>[(2,I.of (0:Int)),(8,I.of av.1),(9,I.of av.2)]) (fun av=>[(2,I.of av.1),(5,I.of av.2.1),(8,I.of av.2.2.1),(9,I.of av.2.2.2.1),(14,I.of av.2.2.2.2)]) av) (fun av g1=>[]) () (fun s1 r h g1=>?_) fun g1=>?_
 ·exact go
 rcases ar with ar | ar
 ·simp only [Sum.elim_inl] at h;exact go
 simp only [Sum.elim_inr] at h;exact go
theorem aap {hp aa r}(h:DN hp aa=some r):ik prog 40 [I.of aa] hp (I.of r) hp:=by
 unfold DN at h;refine bJ.of func40 rfl ntmps40 rfl fun W A=>cm (bj (c5 (look_nil (α:=iN))) (hX (cm ?_)));refine cH ?_;refine bj (yF underlying89 (ae rfl)) (cv ?_);refine nH h (fun h=>?_) fun h=>?_
 ·refine cm (bj (c5 (look_nil (α:=iN))) ?_);exact go
 refine l8 (cm (J.own (α:=iN) 48 (bj (c5 lK) ?_)));refine aM fun bt dn c1 dy h=>?_;refine az h fun ar ak h=>uc (σ:=Int×(List iN)) (ε:=(Int×Bool×(List iN))) (γ:=(Option Nat×Nat)) (δ:=(Option Nat×Nat)) ak 1 [0,2,7,11,12] (fun s1 g1=>[(3,I.eq (aJ g1.1 s1.2.length g1.2)),(13,I.of s1.1)]) (fun s1 g1=>[(0,⟨g1.1,.row 48 s1.2 g1.2⟩)]) (fun s1 g1=>aI hp) (fun av=>Exit.exit 0) (fun av g1=>[(3,I.eq (aJ g1.1 av.2.2.length g1.2)),(13,I.of av.1),(14,I.of av.2.1)]) (fun av g1=>[(0,⟨g1.1,.row 48 av.2.2 g1.2⟩)]) (fun av g1=>aI hp) (none,0) (fun s1 r h g1=>?_) (fun g1=>?_)
 ·refine go2 (fun aL dg bo h=>?_) (fun h=>?_)
  ·refine az h fun bz dh h=>az h fun bn eK h=>aw.fy 11 ?_;refine az h fun an bx h=>ia 1 underlying45 Fo WI bx fun ea dv=>?_;refine aM ?_;cases h;exact ib (ea,dv) 1
  cases h;exact ha (g1.1,g1.2) 0
 refine aM ?_;exact aj.j2 (α:=iN) 0 [2,3,31] ⟨rfl,rfl,rfl,trivial⟩ rfl go
theorem Z3 {hp aa ai r}(h:Hy hp aa ai=some r):ik prog 217 [I.of aa,I.of ai] hp (I.of r.1) r.2:=by
 unfold Hy at h;refine bJ.of func217 rfl ntmps217 rfl fun W A=>?_;refine aM fun bo=>?_;refine az h fun an bx h=>J.fm (dL.gS 1 rfl UW (Re bx) ⟨ae rfl,ae rfl,trivial⟩) rfl rfl rfl (aM (fun h=>?_));refine az h fun bt dn h=>az h fun c1 dy h=>aw.fy 5 ?_;exact az h fun cu e5 h=>az h fun c2 eR h=>az h fun bH gD h=>J.Je (k':=Cell.qe (iL c2 ai)) 1 rfl underlying229 I5 (kW (ae rfl) e5) (ae rfl) (tC eR) rfl rfl rfl (dc gD) go
theorem Zk (n:Nat):∀ (hp:aG Cell) (aa:Ref) (ai:Ref) (aV:aX) (c8:Int) (jH:List e2) (uf:Nat) (uO:Option Nat) (uP:Nat) (r:(List e2)),xZ n hp aa ai aV c8 jH=some r→bJ prog 248 [I.of aa,I.of ai,I.of aV,I.of c8,I.of (⟨246,some [.pointer (some ⟨uf,0,none⟩)]⟩:Raw)] ([⟨some uf,.ch ([]:List e2) [(0,aJ uO jH.length uP)]⟩,⟨uO,.row 342 jH uP⟩]++aI hp) (δ:=(Option Nat×Nat)) (fun d=>I.bP []) (fun d=>[⟨some uf,.ch ([]:List e2) [(0,aJ d.1 r.length d.2)]⟩,⟨d.1,.row 342 r d.2⟩]++aI hp):=by
 induction n with
 | zero=>intro hp aa ai aV c8 jH uf uO uP r h;simp [xZ] at h
 | succ n b2=>
   intro hp aa ai aV c8 jH uf uO uP r h
   simp only [xZ] at h
   refine bJ.of func248 rfl ntmps248 rfl fun W A=>?_
   refine go2 (fun bo h=>?_) (fun bo h=>?_)
   ·refine aj.bm 2 rfl (aj.bm 2 rfl ?_)
    cases h
    exact aj.nv (uO,uP) (.cons_cons _ (.cons_cons _ (.cons _ (.refl _)))) rfl rfl
   refine J.bm 2 rfl (J.bm 2 rfl (az h fun an bx h=>J.nb (ee.ajF (τs:= [I.of (ai:Ref),I.of (aV:aX),I.of (c8:Int)]) 3 2 rfl ahg (ads (ae rfl)) (Zy bx) rfl rfl ⟨ae rfl,ae rfl,ae rfl,trivial⟩) rfl rfl rfl fun av=>J.db (hX ?_)))
   refine az h fun bt dn h=>az h fun c1 dy h=>aw.ml mixed 10 (rg 17 10) [[],[],[1],[2],[3],[4],[],[],[7],[]] [_,_,_,_,_,_,_,_,_,_] ⟨gj,gj,gu fun aq=>e4 (fg (ae rfl) dn),H1 (bY Iv.fd),gu fun aq=>kz (k:=0) Nw (ae rfl) (c9 0) ⟨by decide,rfl⟩,gu fun aq=>nq (((aK.id ek).comp Ao).comp (aK.idx (α:=Ref) 2 0 (⟨by decide,rfl⟩:0<2∧ (0:Int)=0).1)) (r:=b5 c1.dA 0) gK (ae rfl) (oO (fun i e q=>aq i e q rfl) (iK (n:=3) rfl (oF dy) rfl)) rfl rfl,vA 2 hQ,gj,nc j6,gj,trivial⟩ ?_
   refine az h fun aD cc h=>J.nb (ee.dB 3 2 rfl Nx (b2 _ _ _ _ _ _ _ _ _ _ cc) rfl rfl ⟨ae rfl,ae rfl,ae rfl,ae rfl,ae rfl,trivial⟩) rfl rfl rfl fun cQ=>J.db (cv ?_)
   refine az h fun bf et h=>az h fun cu e5 h=>az h fun c2 eR h=>az h fun bu fl h=>az h fun cd hE h=>aw.ml mixed 20 (rg 28 20) [[],[],[1],[2],[3],[4],[],[],[],[8],[9],[10],[11],[],[12,13],[7,14],[6,15],[],[17],[]] [_,_,_,_,_,_,_,_,_,_,_,_,_,_,_,_,_,_,_,_] ⟨gj,gj,gu fun aq=>e4 (fg (ae rfl) dn),H1 (bY Iv.fd),gu fun aq=>kz (k:=1) Nw (ae rfl) (c9 1) ⟨by decide,rfl⟩,gu fun aq=>nq (((aK.id ek).comp Ao).comp (aK.idx (α:=Ref) 2 1 (⟨by decide,rfl⟩:1<2∧ (1:Int)=1).1)) (r:=b5 c1.dA 1) gK (ae rfl) (oO (fun i e q=>aq i e q rfl) (iK (n:=3) rfl (oF dy) rfl)) rfl rfl,vA 2 hQ,gu fun aq=>la WB.cn (WB.m _ _ et) ⟨Bo 1 rfl,trivial⟩,gj,gu fun aq=>e4 (fg (ae rfl) e5),H1 (bY L6.fd),gu fun aq=>nq ((aK.id hl).comp DL) (r:=c2.gR) bR (ae rfl) (oO (fun i e q=>aq i e q rfl) (iK (n:=3) rfl (wQ eR) rfl)) rfl rfl,nc sH,gj,nc sH,vB WC.cn (WC.m _ _ _ fl),vB WD.cn (WD.m _ _ _ hE),gj,nc j6,gj,trivial⟩ ?_
   refine az h fun b9 hS h=>J.nb (ee.dB 3 2 rfl Nx (b2 _ _ _ _ _ _ _ _ _ _ hS) rfl rfl ⟨ae rfl,ae rfl,ae rfl,ae rfl,ae rfl,trivial⟩) rfl rfl rfl fun ev=>J.db (J.nil ?_)
   refine aj.k0 (aj.bm 1 rfl (aj.bm 1 rfl ?_))
   cases h
   exact aj.nv (ev.1,ev.2) (.cons_cons _ (.cons_cons _ (.cons _ (.refl _)))) rfl rfl
theorem Zp {hp aa ai aV c8 jH uf uO uP r}(h:KK hp aa ai aV c8 jH=some r):bJ prog 248 [I.of aa,I.of ai,I.of aV,I.of c8,I.of (⟨246,some [.pointer (some ⟨uf,0,none⟩)]⟩:Raw)] ([⟨some uf,.ch ([]:List e2) [(0,aJ uO jH.length uP)]⟩,⟨uO,.row 342 jH uP⟩]++aI hp) (δ:=(Option Nat×Nat)) (fun d=>I.bP []) (fun d=>[⟨some uf,.ch ([]:List e2) [(0,aJ d.1 r.length d.2)]⟩,⟨d.1,.row 342 r d.2⟩]++aI hp):=Zk dt hp aa ai aV c8 jH uf uO uP r h
theorem Zu {aa ai bV iS iT r}(h:Hi aa ai=some r):bJ prog 265 [I.bE bV,I.of ai] [⟨some bV,.ch ({ aa with dd:= [] } :eD) [(10,aJ iS aa.dd.length iT)]⟩,⟨iS,.row 54 aa.dd iT⟩] (δ:=Unit) (fun d=>I.of r) (fun d=>[⟨some bV,.ch ({ aa with dd:= [] } :eD) [(10,aJ iS aa.dd.length iT)]⟩,⟨iS,.row 54 aa.dd iT⟩]):=by
 unfold Hi at h;refine bJ.of func265 rfl ntmps265 rfl fun W A=>?_;refine aM fun bo=>?_;refine bj (IF underlying205 (ae rfl)) (cv ?_);refine aw.BO (ae rfl) rfl (aM ?_);refine bj (ht (i:=1) (q:=0) (β:=eD) (γ:=aC) py (ae rfl) rfl rfl) ?_;refine J.share (α:=Int) 0 3 rfl rfl (bj (IG (F:=(fun a0=>x4 a0 ai)) (τs:= [I.ptr ai]) U7 ⟨ae rfl,trivial⟩ (fun _ _ h=>QH h)) ?_);refine az h fun an bx h=>bj (bc.WJ (α:=aC) 2 10 rfl rfl uL (la U8 (Qu bx) ⟨ae rfl,ae rfl,trivial⟩)) ?_;refine dW (cv (aw.ret ?_));refine aj.bm 2 rfl (aj.bm 2 rfl ?_);cases h;exact qj ()
instance aqU:e9 prog 129 _ _ _ Em I.of I.of I.of:= .i func129 rfl ntmps129 rfl fun aa ai r h W A=>by
 unfold Em at h;refine aM fun bo bN=>?_;refine bj (c5 (look_nil (α:=b8))) (jF ?_);refine J.own (α:=b8) 124 (bj (c5 lK) ?_);refine aM ?_;refine az h fun ar ak h=>fD (γ:=(Option Nat×Nat)) (δ:=(Option Nat×Nat)) ak [0,1,2,3,4,9,10] (fun s1 g1=>[(5,I.eq (aJ g1.1 s1.2.length g1.2)),(11,I.of s1.1)]) (fun s1 g1=>[(0,⟨g1.1,.row 124 s1.2 g1.2⟩)]) (fun av=>Exit.exit 0) (fun av g1=>[(5,I.eq (aJ g1.1 av.2.2.length g1.2)),(11,I.of av.1),(12,I.of av.2.1)]) (fun av g1=>[(0,⟨g1.1,.row 124 av.2.2 g1.2⟩)]) (none,0) (fun s1 r h g1=>?_) fun g1=>?_
 ·refine go2 (fun aL dg b6 h=>?_) (fun h=>?_)
  ·refine az h fun m1 b4 h=>jS (γ:=(Option Nat×Nat)) [0,1,2,3,4,7,9,10,11,12,15] (fun g2=>[(5,I.eq (aJ g2.1 m1.length g2.2))]) (fun g2=>[(1,⟨g2.1,.row 124 m1 g2.2⟩)]) (fun g2=>?_) (fun hm ad=>?_) fun hm ad=>?_
   ·refine aM ?_;cases h;exact ib (g2.1,g2.2) 1
   ·have h:=gk ad b4;refine aw.skip ?_;cases h;exact dQ 0 (hm (g1.1,g1.2))
   have h:=gl ad b4;refine aM ?_;refine az h fun m2 dj h=>jS (γ:=(Option Nat×Nat)) [0,1,2,3,4,7,9,10,11,12,15,21] (fun g3=>[(5,I.eq (aJ g3.1 m2.length g3.2))]) (fun g3=>[(1,⟨g3.1,.row 124 m2 g3.2⟩)]) (fun g3=>?_) (fun hm ad=>?_) fun hm ad=>?_
   ·cases h;exact dQ 0 (hm (g3.1,g3.2))
   ·have h:=gk ad dj;refine az h fun an bx h=>az h fun bn eK h=>aw.fy 11 ?_;refine az h fun aD cc h=>ia 1 underlying115 u7 E6 cc fun ea dv=>?_;refine dW (J.nil ?_);cases h;exact dQ 0 (hm (ea,dv))
   have h:=gl ad dj;refine aM ?_;refine az h fun m3 gM h=>jS (γ:=(Option Nat×Nat)) [0,1,2,3,4,7,9,10,11,12,15,21,37] (fun g4=>[(5,I.eq (aJ g4.1 m3.length g4.2))]) (fun g4=>[(1,⟨g4.1,.row 124 m3 g4.2⟩)]) (fun g4=>?_) (fun hm ad=>?_) fun hm ad=>?_
   ·cases h;exact dQ 0 (hm (g4.1,g4.2))
   ·have h:=gk ad gM;refine az h fun bf et h=>az h fun z2 hz h=>aw.fy 11 ?_;refine az h fun bu fl h=>ia 1 underlying115 u7 E6 fl fun iy lN=>?_;refine dW (J.nil ?_);cases h;exact dQ 0 (hm (iy,lN))
   have h:=gl ad gM;refine aw.skip ?_;cases h;exact dQ 0 (hm (g1.1,g1.2))
  cases h;exact ha (g1.1,g1.2) 0
 refine aM ?_;exact aj.j2 (α:=b8) 0 [4,5,56] ⟨rfl,rfl,rfl,trivial⟩ rfl go
theorem Ze {aa ai r}(h:CX aa ai=some r):dZ prog 148 [I.of aa,I.of ai] (I.of r):=by
 unfold CX at h;refine dZ.of func148 rfl ntmps148 rfl fun W A=>?_;exact go
instance aqV:e9 prog 108 _ _ _ AZ I.of I.of I.of:= .i func108 rfl ntmps108 rfl fun aa ai r h W A=>by
 unfold AZ at h;refine aM fun bo an bx h=>?_;refine bj (Tw (k:=4) underlying213 lq (ae rfl) (c9 4) ⟨by decide,rfl⟩) ?_;exact go
theorem aa8 {aa ai r}(h:rv aa ai=some r):dZ prog 150 [I.of aa,I.of ai] (I.of r):=by
 unfold rv at h;refine dZ.of func150 rfl ntmps150 rfl fun W A=>cm (pE fun bo=>?_);refine pE fun bN=>?_;refine dW (hX ?_);refine az h fun an bx h=>az h fun aD cc h=>aw.mT 2 (fk [0,1,2,3,4] ?_);refine aw.xI mixed (ay 8 [] [1] _::ay 9 [0] [] _::ay 10 [] [0] _::ay 11 [2] [] _::⟨some 5,[],[2],[2],fun hd=>I.bE ((hd 4 0).getD 0),fun hd _=>aS ((hd 4 0).getD 0) (default:Vector Bool 128)⟩::⟨some 6,[],[3],[3],fun hd=>I.bE ((hd 5 0).getD 0),fun hd _=>aS ((hd 5 0).getD 0) (default:Vector Bool 128)⟩::hA [1,4] [2] [2] (fun hd=>aS ((hd 4 0).getD 0) an)::hA [3,5] [3] [3] (fun hd=>aS ((hd 5 0).getD 0) aD)::[]) ⟨Cp 1 hQ,hV fun aE aq=>la Js.cn (Js.m _ _ bx) ⟨ae (aE _ _ rfl),trivial⟩,Cp 0 hQ,hV fun aE aq=>la Js.cn (Js.m _ _ cc) ⟨ae (aE _ _ rfl),trivial⟩,?_,?_,?_,?_,trivial⟩ fun cZ=>?_
 ·intro hd E' L' aE aq;refine er Vc fun b6=>J.nil ?_;exact aj.place 2 (aq 2 _ rfl rfl) (aj.fin (cP [some b6]) rfl rfl)
 ·intro hd E' L' aE aq;refine er Vc fun b7=>J.nil ?_;exact aj.place 3 (aq 3 _ rfl rfl) (aj.fin (cP [some b7]) rfl rfl)
 ·intro hd E' L' aE aq;refine J.store (i:=2) (aK.id (Vector Bool 128)) (v:=an) (b':=an) Vd (ae (aE _ _ rfl)) (ae (aE _ _ rfl)) (aq 2 _ rfl rfl) rfl rfl (J.nil ?_);exact aj.fin (cP []) rfl rfl
 ·intro hd E' L' aE aq;refine J.store (i:=3) (aK.id (Vector Bool 128)) (v:=aD) (b':=aD) Vd (ae (aE _ _ rfl)) (ae (aE _ _ rfl)) (aq 3 _ rfl rfl) rfl rfl (J.nil ?_);exact aj.fin (cP []) rfl rfl
 refine aj.dN (L2:= [aS bN ai,aS bo aa,aS ((cZ 4 0).getD 0) an,aS ((cZ 5 0).getD 0) aD]) rfl (fF ?_);refine aj.bm 2 rfl (aj.bm 3 rfl (aj.next (aw.seq (cm (dW (cv (aw.block ?_)))))));refine az h fun ar ak h=>fD (γ:=Unit) (δ:=Unit) ak [0,1,2,3,5,6] (fun s1 g1=>[(4,I.of (0:Int)),(7,I.of s1)]) (fun s1 g1=>[]) (fun av=>Sum.elim (fun av=>Exit.exit 0) (fun av=>Exit.ret) av) (fun av g1=>Sum.elim (fun av=>[(4,I.of (0:Int)),(7,I.of av.1),(13,I.of av.2)]) (fun av=>[(4,I.of av.1),(7,I.of av.2.1),(13,I.of av.2.2.1),(22,I.of av.2.2.2.1),(25,I.of av.2.2.2.2)]) av) (fun av g1=>[]) () (fun s1 r h g1=>?_) fun g1=>?_
 ·refine aw.seq (cm (cH ?_));refine hB Nt (cv ?_);refine nH h (fun h=>?_) fun h=>?_
  ·refine l8 (aw.seq (aw.block (aw.seq (az h fun aL dg h=>az h fun bz dh h=>aw.ml mixed 7 (rg 16 7) [[],[0],[1],[],[3],[4],[2,5]] [_,_,_,_,_,_,_] ⟨gj,gu fun aq=>kz (k:=aL) Ny (ae rfl) (ae rfl) (dq dg),kP 1 ((aK.id (Vector Bool 128)).comp (aK.idx (α:=Bool) 128 aL (dq dg).1)) l9,gj,gu fun aq=>kz (k:=bz) Ny (ae rfl) (ae rfl) (dq dh),kP 0 ((aK.id (Vector Bool 128)).comp (aK.idx (α:=Bool) 128 bz (dq dh).1)) l9,nc (Ve underlying4),trivial⟩ (cv ?_)))));refine nH h (fun h=>?_) fun h=>?_
   ·refine aw.seq (cm (cH ?_));refine az h fun cR ic h=>bj (kz (k:=cR) Ny (ae rfl) (ae rfl) (dq ic)) ?_;refine vD 0 ((aK.id (Vector Bool 128)).comp (aK.idx (α:=Bool) 128 cR (dq ic).1)) l9 (cv ?_);refine nH h (fun h=>?_) fun h=>?_
    ·refine cm (dW (cv (aw.ret (aj.ret ?_))));refine aj.nC (aj.ret ?_);cases h;exact ha () 0
    refine l8 (cm (dW (cv (aw.ret ?_))));refine aj.nC (aj.ret ?_);cases h;exact ha () 0
   refine aw.skip (aj.p8 (aj.next (aw.fv (cH ?_))));refine hB sH ?_;refine dW (J.nil ?_);cases h;exact ib () 0
  refine aw.exit (aj.exit ?_);cases h;exact ha () 0
 rcases ar with ar | ar
 ·simp only [Sum.elim_inl] at h;refine aj.mP (aj.next (cm (dW (cv (aw.ret ?_)))));cases h;exact JS
 simp only [Sum.elim_inr] at h;refine aj.nC (aj.ret ?_);cases h;exact JS
instance aqW:e9 prog 150 _ _ _ rv I.of I.of I.of:=
 ⟨⟨_,func150,rfl,by kernel_rfl⟩,fun _ _ _ h=>aa8 h⟩
instance arW:e9 prog 73 _ _ _ Ee I.of I.of I.of:= .i func73 rfl ntmps73 rfl fun aa ai r h W A=>by
 unfold Ee at h;refine aM fun bo an bx h=>?_;refine bj (Tw (k:=5) underlying213 lq (ae rfl) (c9 5) ⟨by decide,rfl⟩) ?_;exact go
theorem QY {hp aa ai r}(h:Aw hp aa ai=some r):ik prog 71 [I.of aa,I.of ai] hp (I.of r.1) r.2:=by
 unfold Aw at h;refine bJ.of func71 rfl ntmps71 rfl fun W A=>cm (dW (jF ?_));refine cH ?_;refine cH ?_;refine az h fun an bx h=>J.fm (dL.gS 0 rfl U9 (QX bx) ⟨ae rfl,ae rfl,trivial⟩) rfl rfl rfl (dW (hX (cm ?_)));refine cH ?_;refine hB sF ?_;refine cH ?_;refine iB cG ?_;refine iB cG ?_;refine az h fun bt dn h=>kF (fun hb=>e4 (fg (cD rfl hb) (fA dn hb))) ?_;refine iB (bY Bt.fd) ?_;refine az h fun aL dg h=>kF (fun hb=>kz (k:=aL) BT (cD rfl hb) (cD rfl hb) (dq (fA dg hb))) ?_;refine az h fun c1 dy h=>kF (fun hb=>nq (((aK.id jf).comp x0).comp (aK.idx (α:=Int) 6 aL (dq (fA dg hb)).1)) (r:=b5 c1.hW aL) bR (cD rfl hb) (iK (n:=0) rfl (tD (fA dy hb)) rfl) rfl rfl) ?_;refine FT sC ?_;refine OQ (cv ?_);refine nH h (fun h=>?_) fun h=>?_
 ·refine cm (dW (cv (aw.ret (aj.ret ?_))));cases h;exact aj.eh () (.refl _) rfl rfl (dw rfl)
 refine l8 (aw.seq (az h fun cu e5 h=>az h fun bz dh h=>az h fun c2 eR h=>az h fun cR ic h=>aw.ml mixed 10 (rg 20 10) [[],[],[0],[2],[1,3],[4],[5],[0],[7],[1,8]] [_,_,_,_,_,_,_,_,_,_] ⟨gj,gj,gu fun aq=>e4 (fg (ae rfl) e5),H1 (bY Bt.fd),gu fun aq=>kz (k:=bz) BT (ae rfl) (ae rfl) (dq dh),gu fun aq=>nq (((aK.id jf).comp x0).comp (aK.idx (α:=Int) 6 bz (dq dh).1)) (r:=b5 c2.hW bz) bR (ae rfl) (oO (fun i e q=>aq i e q rfl) (iK (n:=0) rfl (tD eR) rfl)) rfl rfl,nc sH,gu fun aq=>e4 (fg (ae rfl) e5),H1 (bY Bt.fd),gu fun aq=>kz (k:=cR) BT (ae rfl) (ae rfl) (dq ic),trivial⟩ ?_));refine az h fun bH gD h=>J.ns (k':=Cell.rW ({ c2 with hW:=eb c2.hW cR (bk ((b5 c2.hW bz) - 1)) } :jf)) 0 rfl (((aK.id jf).comp x0).comp (aK.idx (α:=Int) 6 cR (dq ic).1)) (v:=(bk ((b5 c2.hW bz) - 1):Int)) bR (ae rfl) (ae rfl) (tD eR) rfl rfl rfl rfl (dc gD) (jF (dW (cv (aw.ret ?_))));cases h;exact aj.eh () (.refl _) rfl rfl (dw rfl)
theorem Ax {hp aa r}(h:Ay hp aa=some r):ik prog 41 [I.of aa] hp (I.of r) hp:=by
 unfold Ay at h;refine bJ.of func41 rfl ntmps41 rfl fun W A=>?_;refine aM ?_;exact az h fun an bx h=>J.fm (dL.gS 0 rfl Of (KO bx) ⟨ae rfl,trivial⟩) rfl rfl rfl (az h fun aD cc h=>J.fm (dL.gS 0 rfl ajG (aaH cc) ⟨ae rfl,trivial⟩) rfl rfl rfl go)
theorem Z4 {hp aa r}(h:DA hp aa=some r):ik prog 14 [I.of aa] hp (I.of r) hp:=by
 unfold DA at h;refine bJ.of func14 rfl ntmps14 rfl fun W A=>cm (bj (c5 (look_nil (α:=iN))) ?_);refine go2 (fun h=>?_) (fun bt dn c1 dy h=>?_)
 ·refine bj (c5 (look_nil (α:=iN))) ?_;exact go
 exact az h fun an bx h=>J.fm (dL.gS 0 rfl ajH (aap bx) ⟨ae rfl,trivial⟩) rfl rfl rfl go
instance aqX:mj prog 128 _ _ sr I.of I.of:= .i func128 rfl ntmps128 rfl fun aa r h W A=>by
 unfold sr at h;exact go
theorem aaI {hp aa ai r}(h:DW hp aa ai=some r):ik prog 100 [I.of aa,I.of ai] hp (I.of r) hp:=by
 unfold DW at h;refine bJ.of func100 rfl ntmps100 rfl fun W A=>?_;refine aM ?_;refine az h fun bt dn h=>az h fun c1 dy h=>az h fun an bx h=>az h fun aL dg h=>aw.fy 14 ?_;exact go
instance aqY:e9 prog 277 _ _ _ Ei I.of I.of (fun r=>I.bP [I.of r.1,I.of r.2]):= .i func277 rfl ntmps277 rfl fun aa ai r h W A=>by
 unfold Ei at h;exact go
theorem ZO {hp aa ai r}(h:Dm hp aa ai=some r):ik prog 213 [I.of aa,I.of ai] hp (I.bP []) r:=by
 unfold Dm at h;refine bJ.of func213 rfl ntmps213 rfl fun W A=>?_;refine aM fun bo bN=>?_;refine az h fun an bx h=>aw.fy 5 ?_;refine az h fun aD cc h=>J.dB 2 0 rfl ahh (Z3 cc) rfl rfl ⟨ae rfl,ae rfl,trivial⟩ rfl fun av=>J.db (J.nil ?_);exact aj.k0 go
theorem Zl {hp aa aV lx key02_0 cap02_0 r}(h:Hc hp aa aV=some r):bJ prog 245 [I.of aa,I.of (⟨246,some [.pointer (some ⟨lx,0,none⟩)]⟩:Raw)] ([⟨some lx,.ch ([]:List e2) [(0,aJ key02_0 aV.length cap02_0)]⟩,⟨key02_0,.row 342 aV cap02_0⟩]++aI hp) (δ:=(Option Nat×Nat)) (fun d=>I.bP []) (fun d=>[⟨some lx,.ch ([]:List e2) [(0,aJ d.1 r.length d.2)]⟩,⟨d.1,.row 342 r d.2⟩]++aI hp):=by
 unfold Hc at h;refine bJ.of func245 rfl ntmps245 rfl fun W A=>?_;refine aM ?_;refine az h fun m1 b4 h=>q3 (γ:=(Option Nat×Nat)) 2 [0,1,5] (fun g1=>[]) (fun g1=>[(0,⟨some lx,.ch ([]:List e2) [(0,aJ g1.1 m1.length g1.2)]⟩),(1,⟨g1.1,.row 342 m1 g1.2⟩)]) (fun g1=>aI hp) (fun g1=>?_) (fun hm ad=>?_) (fun hm ad=>?_)
 ·refine aj.k0 (aj.bm 1 rfl (aj.bm 1 rfl ?_));cases h;exact aj.nv (g1.1,g1.2) (.cons_cons _ (.cons_cons _ (.refl _))) rfl rfl
 ·have h:=gk ad b4;refine aM fun bt dn c1 dy h=>?_;refine az h fun an bx h=>J.nb (ee.dB 2 2 rfl Nx (Zp bx) rfl rfl ⟨ae rfl,ae rfl,ae rfl,c9 0,ae rfl,trivial⟩) rfl rfl rfl fun av=>J.db (J.nil ?_);cases h;exact dQ 0 (hm (av.1,av.2))
 have h:=gl ad b4;refine aw.skip ?_;cases h;exact dQ 0 (hm (key02_0,cap02_0))
theorem Zq {aa ai bV iS iT r}(h:C4 aa ai=some r):bJ prog 261 [I.bE bV,I.of ai] [⟨some bV,.ch ({ aa with dd:= [] } :eD) [(10,aJ iS aa.dd.length iT)]⟩,⟨iS,.row 54 aa.dd iT⟩] (δ:=(Option Nat×Nat)) (fun d=>I.of r.1) (fun d=>[⟨some bV,.ch ({ r.2 with dd:= [] } :eD) [(10,aJ d.1 r.2.dd.length d.2)]⟩,⟨d.1,.row 54 r.2.dd d.2⟩]):=by
 unfold C4 at h;refine bJ.of func261 rfl ntmps261 rfl fun W A=>?_;refine aM ?_;refine az h fun an bx h=>J.fm (dL.call [0,1] Vf (Zu bx) ⟨ae rfl,ae rfl,trivial⟩ rfl ⟨rfl,rfl,trivial⟩ rfl) rfl rfl rfl ?_;refine go2 (fun h=>?_) (fun h=>?_)
 ·refine aj.bm 1 rfl (aj.bm 1 rfl ?_);cases h;exact qj (iS,iT)
 refine bj (ht (i:=0) (q:=0) (β:=eD) (γ:=aC) py (ae rfl) rfl rfl) ?_;refine aM ?_;refine J.bm 1 rfl (az h fun aD cc h=>ef 1 ahi (Za cc) fun av=>?_);refine aM ?_;refine J.jh (i:=1) (γ:=aC) (b':=({ aa with dd:= [] } :eD)) (os':= [(10,aJ av.1 aD.length av.2)]) ((aK.id eD).comp AF) py (ae rfl) (ae rfl) ir rfl rfl rfl rfl ?_;refine aM ?_;refine aj.bm 0 rfl (aj.bm 1 rfl ?_);cases h;exact qj (av.1,av.2)
instance aqZ:e9 prog 131 _ _ _ Eb I.of I.of I.of:= .i func131 rfl ntmps131 rfl fun aa ai r h W A=>by
 unfold Eb at h;refine aM fun bo bN=>?_;refine bj (c5 (look_nil (α:=b8))) (jF ?_);refine J.own (α:=b8) 124 (bj (c5 lK) ?_);refine aM ?_;refine az h fun ar ak h=>fD (γ:=(Option Nat×Nat)) (δ:=(Option Nat×Nat)) ak [0,1,2,3,4,10,11] (fun s1 g1=>[(5,I.eq (aJ g1.1 s1.2.length g1.2)),(12,I.of s1.1)]) (fun s1 g1=>[(0,⟨g1.1,.row 124 s1.2 g1.2⟩)]) (fun av=>Exit.exit 0) (fun av g1=>[(5,I.eq (aJ g1.1 av.2.2.length g1.2)),(12,I.of av.1),(13,I.of av.2.1)]) (fun av g1=>[(0,⟨g1.1,.row 124 av.2.2 g1.2⟩)]) (none,0) (fun s1 r h g1=>?_) fun g1=>?_
 ·refine go2 (fun aL dg b6 h=>?_) (fun h=>?_)
  ·refine az h fun an bx h=>az h fun bn eK h=>aw.mT 1 (fk [0,1,2,3,4,5,7,10,11,12,13,14,15] ?_);refine aw.vZ 5 (ay 16 [] [] _::ay 17 [0] [0] _::ay 18 [] [] _::ay 19 [2] [0] _::ay 20 [] [2] _::ay 21 [] [] _::ay 22 [5] [0] _::ay 23 [4,6] [] _::ay 24 [1,3,7] [] _::qk 8 [] 4 9 _::hA [8,9] [4] [4] (fun hd=>aS ((hd 9 0).getD 0) bn)::[]) (fun cZ=>?_);refine aj.dN (L2:= [aS b6 (au aa.c3 aL:e3),⟨g1.1,.row 124 s1.2 g1.2⟩,aS bN ai,aS bo aa,aS ((cZ 9 0).getD 0) bn]) rfl (fF ?_);refine aj.bm 4 rfl (aM ?_);refine az h fun aD cc h=>kF (fun hb=>bc.alZ 31 rfl hb (bc.WJ (α:=b8) 2 31 rfl rfl Ex (la ahj (Ze (fA cc hb)) ⟨ae rfl,cD rfl hb,trivial⟩))) ?_;refine aM ?_;refine az h fun m1 b4 h=>jS (γ:=(Option Nat×Nat)) [0,1,2,3,4,7,8,10,11,12,13,35] (fun g2=>[(5,I.eq (aJ g2.1 m1.length g2.2))]) (fun g2=>[(2,⟨g2.1,.row 124 m1 g2.2⟩)]) (fun g2=>?_) (fun hm ad=>?_) fun hm ad=>?_
   ·refine aM ?_;cases h;exact ib (g2.1,g2.2) 2
   ·have h:=gk ad b4;refine aM ?_;refine az h fun bf et h=>ia 2 underlying115 u7 E6 et fun ea dv=>?_;refine dW (J.nil ?_);cases h;exact dQ 0 (hm (ea,dv))
   have h:=gl ad b4;refine aw.skip ?_;cases h;exact dQ 0 (hm (g1.1,g1.2))
  cases h;exact ha (g1.1,g1.2) 0
 refine aM ?_;exact aj.j2 (α:=b8) 0 [4,5,41] ⟨rfl,rfl,rfl,trivial⟩ rfl go
theorem DO {aa ai bV r}(h:sq aa ai=some r):mi prog 76 [I.bE bV,I.of ai] bV aa (I.of r) aa:=by
 unfold sq at h;refine bJ.of func76 rfl ntmps76 rfl fun W A=>?_;refine aM fun bo=>?_;refine az h fun an bx h=>aw.fy 7 ?_;exact go
instance aq0:e9 prog 149 _ _ _ yp I.of I.of I.of:= .i func149 rfl ntmps149 rfl fun aa ai r h W A=>by
 unfold yp at h;exact go
instance aq1:e9 prog 134 _ _ _ ym I.of I.of I.of:= .i func134 rfl ntmps134 rfl fun aa ai r h W A=>by
 unfold ym at h;refine aM ?_;refine az h fun ar ak h=>fD (γ:=Unit) (δ:=Unit) ak [0,1] (fun s1 g1=>[(4,I.of (0:Int)),(5,I.of s1)]) (fun s1 g1=>[]) (fun av=>Sum.elim (fun av=>Exit.exit 0) (fun av=>Exit.ret) av) (fun av g1=>Sum.elim (fun av=>[(4,I.of (0:Int)),(5,I.of av.1),(16,I.of av.2)]) (fun av=>[(4,I.of av.1),(5,I.of av.2.1),(6,I.of av.2.2.1),(16,I.of av.2.2.2.1),(29,I.of av.2.2.2.2)]) av) (fun av g1=>[]) () (fun s1 r h g1=>?_) fun g1=>?_
 ·refine aM (fun h=>?_);refine az h fun aL dg h=>az h fun bz dh h=>az h fun an bx h=>aw.fy 9 ?_;exact go
 rcases ar with ar | ar
 ·simp only [Sum.elim_inl] at h;exact go
 simp only [Sum.elim_inr] at h;exact go
theorem Z5 {aa ai r}(h:DB aa ai=some r):dZ prog 154 [I.of aa,I.of ai] (I.of r):=by
 unfold DB at h;refine dZ.of func154 rfl ntmps154 rfl fun W A=>?_;refine aM (fun bo bN h=>?_);refine az h fun an bx h=>az h fun aD cc h=>az h fun bf et h=>az h fun bu fl h=>az h fun cd hE h=>az h fun b9 hS h=>az h fun cC lT h=>az h fun b1 nF h=>aw.fy 27 ?_;exact go
theorem Ra {hp aa ai aV r}(h:AN hp aa ai aV=some r):ik prog 238 [I.of aa,I.of ai,I.of aV] hp (I.of r) hp:=by
 unfold AN at h;refine bJ.of func238 rfl ntmps238 rfl fun W A=>?_;refine aM fun bo=>?_;refine az h fun bt dn h=>az h fun c1 dy h=>az h fun cu e5 h=>az h fun c2 eR h=>az h fun an bx h=>az h fun aD cc h=>az h fun bn eK h=>aw.fy 26 ?_;exact go
theorem abq {aa n3 fr r}(h:Be aa=some r):bJ prog 262 [I.eq (aJ n3 aa.length fr)] [⟨n3,.row 54 aa fr⟩] (δ:=Unit) (fun d=>I.of r) (fun d=>[⟨n3,.row 54 aa fr⟩]):=by
 unfold Be at h;refine bJ.of func262 rfl ntmps262 rfl fun W A=>cm (bj (c5 (look_nil (α:=aC))) (jF ?_));refine J.own (α:=aC) 54 (bj (c5 lK) ?_);refine aM ?_;refine bj (mO (i:=1) underlying43 (ae rfl) rfl rfl) ?_;refine cH (cv (aw.block ?_));refine az h fun ar ak h=>fD (γ:=(Option Nat×Nat)) (δ:=(Option Nat×Nat)) ak [0,2,6,7] (fun s1 g1=>[(3,I.eq (aJ g1.1 s1.2.length g1.2)),(8,I.of s1.1)]) (fun s1 g1=>[(0,⟨g1.1,.row 54 s1.2 g1.2⟩)]) (fun av=>Exit.exit 0) (fun av g1=>[(3,I.eq (aJ g1.1 av.2.2.length g1.2)),(8,I.of av.1),(9,I.of av.2.1)]) (fun av g1=>[(0,⟨g1.1,.row 54 av.2.2 g1.2⟩)]) (none,0) (fun s1 r h g1=>?_) fun g1=>?_
 ·refine go2 (fun h=>?_) (fun h=>?_)
  ·refine az h fun aL dg h=>bj (mw (i:=1) (k:=aL) (xs:=(aa:List aC)) underlying43 eZ (ae rfl) (ae rfl) rfl (dq dg)) ?_;refine bj (qO (i:=1) (k:=aL) (aK.id aC) (r:=(au aa aL)) eZ (ae rfl) rfl (dq dg).1 rfl rfl) ?_;refine aM fun bo an bx h=>?_;refine az h fun aD cc h=>ia 1 underlying43 eZ fC cc fun ea dv=>?_;refine aM ?_;cases h;exact ib (ea,dv) 1
  cases h;exact ha (g1.1,g1.2) 0
 refine aM ?_;exact aj.j2 (α:=aC) 0 [2,3,18] ⟨rfl,rfl,rfl,trivial⟩ rfl go
theorem aaq {hp aa ai aV r}(h:DP hp aa ai aV=some r):ik prog 127 [I.of aa,I.of ai,I.of aV] hp (I.bP [I.of r.1,I.of r.2]) hp:=by
 unfold DP at h;refine bJ.of func127 rfl ntmps127 rfl fun W A=>?_;refine aM (fun bo bt dn c1 dy h=>?_);refine az h fun cu e5 h=>az h fun c2 eR h=>az h fun bn eK h=>bj (uN (r:=bn) underlying193 zr fC (kW (ae rfl) e5) (ae rfl) (iK (n:=1) rfl (sx eR) rfl) (dc eK)) ?_;exact go
instance aq2:e9 prog 280 _ _ _ A7 I.of I.of I.of:= .i func280 rfl ntmps280 rfl fun aa ai r h W A=>by
 unfold A7 at h;refine aM fun bo bN an bx b6 h=>?_;refine az h fun aD cc h=>bj (la ahk (Zj cc) ⟨ae rfl,adt ahl (fun _ _=>aaF),trivial⟩) ?_;exact go
theorem aa9 {hp aa r}(h:HJ hp aa=some r):ik prog 240 [I.of aa] hp (I.of r) hp:=by
 unfold HJ at h;refine bJ.of func240 rfl ntmps240 rfl fun W A=>cm (bj (c5 (look_nil (α:=e2))) (jF ?_));refine J.qR (z:=(default:List e2)) [0] aeu ahm rfl fun bo=>J.own (α:=e2) 342 (aM ?_);refine bj (ahn (f:=246) (us:= [.pointer (some ⟨bo,0,none⟩)]) ⟨ae rfl,trivial⟩) ?_;refine J.JR (γ:=e2) (b':=([]:List e2)) (aK.id (List e2)) 1 0 rfl rfl rfl (J.bm 0 rfl (J.bm 1 rfl (az h fun an bx h=>J.nb (ee.dB 2 2 rfl aho (Zl (key02_0:=none) (cap02_0:=0) bx) rfl rfl ⟨ae rfl,ae rfl,trivial⟩) rfl rfl rfl fun av=>J.db (jF ?_))));refine bj (ht (i:=0) (q:=0) (β:=List e2) (γ:=e2) Nq (ae rfl) rfl rfl) ?_;refine dW (cv (aw.ret ?_));exact aj.Jf (β:=List e2) (γ:=e2) (b':=an) (aK.id (List e2)) 0 1 0 2 rfl rfl rfl rfl rfl rfl rfl (aj.rM 0 rfl go)
theorem ZP {hp aa ai Q}(h:Dn hp aa ai Q):zy prog 256 [I.of aa,I.of ai] hp Q:=by
 unfold Dn at h;refine bJ.of func256 rfl ntmps256 rfl fun W A=>?_;refine aM fun bo bN=>?_;refine ag.br h fun bt dn h=>ag.br h fun c1 dy h=>ag.br h fun an bx h=>J.nb (ee.obj 2 (fun q:Option Nat×Nat=>Cell.tW an.2 q.1 q.2) rfl (yP dy) ahp (Zq bx) rfl (fun _=>rfl) ⟨fg (ae rfl) dn,ae rfl,trivial⟩) rfl rfl rfl fun av=>?_;replace h:=ag.any_bind h av;refine ag.br h fun bH gD h=>J.dN (L2:=(aS bN ai::aS bo aa::aI bH)) (by rw [← dc gD];rfl) ?_;exact J.nil (aj.k0 (aj.nv (⟨⟨bH,h⟩,()⟩: {r // _}×_) (fE 2) rfl rfl))
theorem Q7 {hp aa ai aV r}(h:AK hp aa ai aV=some r):ik prog 104 [I.of aa,I.of ai,I.of aV] hp (I.bP []) r:=by
 unfold AK at h;refine bJ.of func104 rfl ntmps104 rfl fun W A=>?_;refine aM (fun bo h=>?_);refine az h fun bt dn h=>az h fun c1 dy h=>az h fun an bx h=>aw.fy 8 (cv (aw.block ?_));refine az h fun ar ak h=>uc (σ:=Int×(aG Cell)) (ε:=(Int×Bool×(aG Cell))) (γ:=Unit) (δ:=Unit) ak 1 [0,1,2,4,11,17,18] (fun s1 g1=>[(19,I.of s1.1)]) (fun s1 g1=>[]) (fun s1 g1=>aI s1.2) (fun av=>Exit.exit 0) (fun av g1=>[(19,I.of av.1),(20,I.of av.2.1)]) (fun av g1=>[]) (fun av g1=>aI av.2.2) () (fun s1 r h g1=>?_) (fun g1=>?_)
 ·refine aM (fun aL dg bN h=>?_);refine az h fun aD cc h=>J.dB 2 0 rfl Vg (Q6 cc) rfl rfl ⟨ae rfl,ae rfl,ae rfl,c9 0,trivial⟩ rfl fun cQ=>J.db ?_;exact go
 refine aj.mP (aj.next (aw.seq (az h fun c2 eR h=>az h fun bf et h=>aw.fy 8 (cv (aw.block ?_)))));refine az h fun aU ak h=>uc (σ:=Int×(aG Cell)) (ε:=(Int×Bool×(aG Cell))) (γ:=Unit) (δ:=Unit) ak 1 [0,1,2,4,11,17,18,19,20,33,34] (fun s2 g2=>[(35,I.of s2.1)]) (fun s2 g2=>[]) (fun s2 g2=>aI s2.2) (fun ev=>Exit.exit 2) (fun ev g2=>[(35,I.of ev.1),(36,I.of ev.2.1)]) (fun ev g2=>[]) (fun ev g2=>aI ev.2.2) () (fun s2 r h g2=>?_) (fun g2=>?_)
 ·refine aM (fun bz dh b6 h=>?_);refine az h fun bu fl h=>J.dB 2 0 rfl Vg (Q6 fl) rfl rfl ⟨ae rfl,ae rfl,c9 0,ae rfl,trivial⟩ rfl fun hJ=>J.db ?_;exact go
 exact aj.mP (aj.k0 go)
instance aq3:e9 prog 132 _ _ _ wB I.of I.of I.of:= .i func132 rfl ntmps132 rfl fun aa ai r h W A=>by
 unfold wB at h;refine aM ?_;refine az h fun ar ak h=>fD (γ:=Unit) (δ:=Unit) ak [0,1] (fun s1 g1=>[(4,I.of (0:Int)),(5,I.of s1)]) (fun s1 g1=>[]) (fun av=>Sum.elim (fun av=>Exit.exit 0) (fun av=>Exit.ret) av) (fun av g1=>Sum.elim (fun av=>[(4,I.of (0:Int)),(5,I.of av.1),(16,I.of av.2)]) (fun av=>[(4,I.of av.1),(5,I.of av.2.1),(6,I.of av.2.2.1),(16,I.of av.2.2.2.1),(29,I.of av.2.2.2.2)]) av) (fun av g1=>[]) () (fun s1 r h g1=>?_) fun g1=>?_
 ·refine aM (fun h=>?_);refine az h fun aL dg h=>az h fun bz dh h=>az h fun an bx h=>aw.fy 9 ?_;exact go
 rcases ar with ar | ar
 ·simp only [Sum.elim_inl] at h;exact go
 simp only [Sum.elim_inr] at h;exact go
instance aq4:e9 prog 137 _ _ _ Ec I.of I.of I.of:= .i func137 rfl ntmps137 rfl fun aa ai r h W A=>by
 unfold Ec at h;refine aM fun bo bN=>?_;refine az h fun an bx h=>az h fun aD cc h=>az h fun bf et h=>az h fun bu fl h=>az h fun cd hE h=>az h fun b9 hS h=>aw.ml mixed 27 (rg 5 27) [[],[0],[],[2],[1,3],[],[5],[],[7],[6,8],[],[10],[],[12],[11,13],[],[15],[],[17],[16,18],[],[20],[],[22],[21,23],[4,9,14,19,24],[25]] [_,_,_,_,_,_,_,_,_,_,_,_,_,_,_,_,_,_,_,_,_,_,_,_,_,_,_] ⟨H1 (bY II.fd),kP 1 Az bR,H1 (bY II.fd),kP 0 Az bR,vB Ca.cn (Ca.m _ _ _ bx),H1 (bY MI.fd),kP 0 Hj bR,H1 (bY MI.fd),kP 1 Hj bR,vB Ca.cn (Ca.m _ _ _ cc),H1 (bY IJ.fd),kP 1 Ap B8,H1 (bY IJ.fd),kP 0 Ap B8,gu fun aq=>la ahq (Zb et) ⟨ae rfl,ae rfl,SC ahr (fun _ _ _=>Z5),trivial⟩,H1 (bY IK.fd),kP 1 Dp bR,H1 (bY IK.fd),kP 0 Dp bR,vB Ca.cn (Ca.m _ _ _ fl),H1 (bY EU.fd),kP 1 AH B9,H1 (bY EU.fd),kP 0 AH B9,gu fun aq=>la ahs (Zc hE) ⟨ae rfl,ae rfl,SC aht (fun _ _ _=>Rn),trivial⟩,gu fun aq=>w2 (r:= [an,aD,bf,bu,cd]) underlying56 bR hY rfl rfl (.cons (by simp) (ae rfl) (.cons (by simp) (ae rfl) (.cons (by simp) (ae rfl) (.cons (by simp) (ae rfl) (.cons (by simp) (ae rfl) (.nil)))))),vB WG.cn (WG.m _ _ hS),trivial⟩ ?_;exact go
theorem Rv {hp aa Q}(h:A9 hp aa Q):k6 prog 9 [I.of aa] hp Q:=by
 unfold A9 at h;refine bJ.of func9 rfl ntmps9 rfl fun W A=>cm (pE fun bo=>?_);refine bj (c5 nU) (hX ?_);obtain⟨fw,l6,rY⟩:=ag.ex h;obtain⟨XK,WK,ajI⟩:=ag.al0 rY;refine aw.BV mixed 9 (bG 9 0) rfl rfl (aQ.bL (γ:=Subtype XK) [1,2] 0 1 4 (bG 9 31) (fun kh=>[(4,I.of kh.1.1.1),(6,I.of kh.1.2.1),(7,I.of aa)]) (fun kh=>[]) (fun kh=>aI kh.1.2.2) (fun kh=>?_) (fun n4=>?_))
 ·obtain⟨⟨an,aD⟩,Fp⟩:=kh;have h:=ajI (an,aD) Fp;refine aQ.tail 5 rfl (by kernel_rfl) ?_;refine J.dN (L2:=(aS bo aa::aI aD.2)) rfl (J.le (E':= [(1,I.bE bo),(2,I.of (none:Ref)),(4,I.of an.1),(6,I.of aD.1),(7,I.of aa)]) .all ?_);refine J.dB 1 0 rfl ajJ (abA h) rfl rfl ⟨ae rfl,trivial⟩ rfl fun⟨⟨bf,h⟩,av⟩=>J.db ?_;refine bj (ss (b:=({ (default:dV) with fB:=an.1,ph:=aD.1,rE:=bf.1 } :dV)) [3] afF rfl ajK ajL (.cons nm rfl (ae rfl) rfl (by rfl) (.cons QJ rfl (ae rfl) rfl (by rfl) (.cons Qy rfl (ae rfl) rfl (by rfl) (.nil))))) ?_;refine J.own (α:=fe) 110 (J.Wk (ae rfl) rfl fun bN=>J.JR (γ:=fe) (b':=({ ({ (default:dV) with fB:=an.1,ph:=aD.1,rE:=bf.1 } :dV) with fQ:= [] } :dV)) ((aK.id dV).comp C0) 0 0 rfl rfl rfl (J.UZ 3 2 (Cell.mA ({ ({ (default:dV) with fB:=an.1,ph:=aD.1,rE:=bf.1 } :dV) with fQ:=([]:List fe) } :dV) none 0) rfl rfl rfl rfl List.mem_cons_self fun bT pD al1=>?_));replace h:=ag.pe (h (none,0)) bT pD;refine J.U0 10 rfl al1 (dW (cv (aw.ret ?_)));exact aj.eh (⟨⟨((some bT.1:Ref),bT.2),h⟩,()⟩: {r // _}×_) (fE 1) rfl rfl (dw rfl)
 refine aQ.bL (γ:=Subtype fw) [1,2] 0 1 5 (bG 9 23) (fun ji=>[(4,I.of ji.1.1),(5,I.of aa),(7,I.of aa)]) (fun ji=>[]) (fun ji=>aI ji.1.2) (fun ji=>?_) (fun oK=>?_)
 ·refine aQ.s1 3 ?_
  ·refine J.dB 1 0 rfl WL (RL (WK ji.1 ji.2)) rfl rfl ⟨ae rfl,trivial⟩ rfl fun⟨⟨aD,Fp⟩,_⟩=>J.db ?_;exact J.a1 (n4 ⟨(ji.1,aD),Fp⟩)
 refine aQ.bL (γ:=Subtype XK) [1,2] 0 1 5 (bG 9 15) (fun hP=>[(4,I.of hP.1.1.1),(6,I.of hP.1.2.1)]) (fun hP=>[]) (fun hP=>aI hP.1.2.2) (fun hP=>?_) (fun oL=>?_)
 ·refine aQ.s1 4 ?_
  ·refine cB 0 iX ?_;exact J.a1 (n4 hP)
 refine aQ.bL (γ:=Unit) [1,2] 0 1 6 (bG 9 21) (fun h7=>[(3,I.of aa),(5,I.of aa),(7,I.of aa)]) (fun h7=>[]) (fun h7=>aI hp) (fun h7=>?_) (fun nw=>?_)
 ·refine aQ.s1 1 ?_
  ·refine J.dB 1 0 rfl JA (HV l6) rfl rfl ⟨ae rfl,trivial⟩ rfl fun⟨⟨an,fu⟩,_⟩=>J.db ?_;exact J.a1 (oK ⟨an,fu⟩)
 refine aQ.bL (γ:=Subtype fw) [1,2] 0 1 6 (bG 9 19) (fun jO=>[(4,I.of jO.1.1),(7,I.of aa)]) (fun jO=>[]) (fun jO=>aI jO.1.2) (fun jO=>?_) (fun ob=>?_)
 ·refine aQ.s1 2 ?_
  ·refine cB 0 iX ?_;exact J.a1 (oK jO)
 refine aQ.bL (γ:=Subtype fw) [1,2] 0 1 6 (bG 9 7) (fun iv=>[(4,I.of iv.1.1),(5,I.of aa)]) (fun iv=>[]) (fun iv=>aI iv.1.2) (fun iv=>?_) (fun pz=>?_)
 ·refine aQ.s2 3 4 ?_ ?_
  ·refine J.dB 1 0 rfl WL (RL (WK iv.1 iv.2)) rfl rfl ⟨ae rfl,trivial⟩ rfl fun⟨⟨aD,Fp⟩,_⟩=>J.db ?_;exact J.a1 (oL ⟨(iv.1,aD),Fp⟩)
  refine cB 0 iX ?_;exact J.a1 (oK iv)
 refine aQ.bL (γ:=Unit) [1,2] 0 1 7 (bG 9 20) (fun jP=>[(5,I.of aa),(7,I.of aa)]) (fun jP=>[]) (fun jP=>aI hp) (fun jP=>?_) (fun oc=>?_)
 ·refine aQ.s1 0 ?_
  ·refine cB 0 iX ?_;exact J.a1 (nw ())
 refine aQ.bL (γ:=Unit) [1,2] 0 1 7 (bG 9 17) (fun iw=>[(3,I.of aa),(7,I.of aa)]) (fun iw=>[]) (fun iw=>aI hp) (fun iw=>?_) (fun oP=>?_)
 ·refine aQ.s2 1 2 ?_ ?_
  ·refine J.dB 1 0 rfl JA (HV l6) rfl rfl ⟨ae rfl,trivial⟩ rfl fun⟨⟨an,fu⟩,_⟩=>J.db ?_;exact J.a1 (ob ⟨an,fu⟩)
  refine cB 0 iX ?_;exact J.a1 (nw ())
 refine aQ.bL (γ:=Unit) [1,2] 0 1 7 (bG 9 5) (fun lk=>[(3,I.of aa),(5,I.of aa)]) (fun lk=>[]) (fun lk=>aI hp) (fun lk=>?_) (fun pA=>?_)
 ·refine aQ.s2 1 4 ?_ ?_
  ·refine J.dB 1 0 rfl JA (HV l6) rfl rfl ⟨ae rfl,trivial⟩ rfl fun⟨⟨an,fu⟩,_⟩=>J.db ?_;exact J.a1 (pz ⟨an,fu⟩)
  refine cB 0 iX ?_;exact J.a1 (nw ())
 refine aQ.bL (γ:=Subtype fw) [1,2] 0 1 7 (bG 9 3) (fun iU=>[(4,I.of iU.1.1)]) (fun iU=>[]) (fun iU=>aI iU.1.2) (fun iU=>?_) (fun qY=>?_)
 ·refine aQ.s2 2 4 ?_ ?_
  ·refine cB 0 iX ?_;exact J.a1 (pz iU)
  refine cB 0 iX ?_;exact J.a1 (ob iU)
 refine aQ.bL (γ:=Unit) [1,2] 0 1 8 (bG 9 16) (fun ix=>[(7,I.of aa)]) (fun ix=>[]) (fun ix=>aI hp) (fun ix=>?_) (fun sQ=>?_)
 ·refine aQ.s2 0 2 ?_ ?_
  ·refine cB 0 iX ?_;exact J.a1 (oP ())
  refine cB 0 iX ?_;exact J.a1 (oc ())
 refine aQ.bL (γ:=Unit) [1,2] 0 1 8 (bG 9 4) (fun ll=>[(5,I.of aa)]) (fun ll=>[]) (fun ll=>aI hp) (fun ll=>?_) (fun sR=>?_)
 ·refine aQ.s2 0 4 ?_ ?_
  ·refine cB 0 iX ?_;exact J.a1 (pA ())
  refine cB 0 iX ?_;exact J.a1 (oc ())
 refine aQ.bL (γ:=Unit) [1,2] 0 1 8 (bG 9 1) (fun ln=>[(3,I.of aa)]) (fun ln=>[]) (fun ln=>aI hp) (fun ln=>?_) (fun sS=>?_)
 ·refine aQ.iC [1,2,4] ⟨⟨_,rfl,?_⟩,⟨_,rfl,?_⟩,⟨_,rfl,?_⟩,trivial⟩
  ·refine J.dB 1 0 rfl JA (HV l6) rfl rfl ⟨ae rfl,trivial⟩ rfl fun⟨⟨an,fu⟩,_⟩=>J.db ?_;exact J.a1 (qY ⟨an,fu⟩)
  ·refine cB 0 iX ?_;exact J.a1 (pA ())
  refine cB 0 iX ?_;exact J.a1 (oP ())
 refine aQ.iC [0,2,4] ⟨⟨_,rfl,?_⟩,⟨_,rfl,?_⟩,⟨_,rfl,?_⟩,trivial⟩
 ·refine cB 0 iX ?_;exact J.a1 (sS ())
 ·refine cB 0 iX ?_;exact J.a1 (sR ())
 refine cB 0 iX ?_;exact J.a1 (sQ ())
theorem Rj {hp aa ai aV r}(h:AV hp aa ai aV=some r):ik prog 232 [I.of aa,I.of ai,I.of aV] hp (I.of r) hp:=by
 unfold AV at h;refine bJ.ofM func232 rfl ntmps232 rfl fun W A=>aM fun bo bN=>?_;refine az h fun an bx h=>J.fm (dL.gS 2 rfl Vh (Ra bx) ⟨ae rfl,ae rfl,ae rfl,trivial⟩) rfl rfl rfl (di sG (cv ?_));refine nH h (fun h=>?_) fun h=>?_
 ·refine cm (J.store (i:=0) (aK.id Ref) (v:=(none:Ref)) (b':=(none:Ref)) gK (ae rfl) nU rfl rfl rfl (cv (aw.ret (aj.ret ?_))));cases h;exact aj.JB (aj.eh () (fE 2) rfl rfl (po (i:=0) gK rfl rfl))
 refine aM fun bt dn c1 dy b6 h=>?_;refine az h fun aD cc h=>vx Nz (K9 cc) (cv (aw.block ?_));refine az h fun ar ak h=>R9 (hp:=hp) (γ:=Unit) (g0:=()) (Ls:=fun s1 g1=>(aS b6 s1::aS bN (default:Ref)::aS bo ai::aI hp)) (Lx:=fun av g1=>(aS b6 av.1::aS bN av.2::aS bo ai::aI hp)) (fun s1 g1=>[aS b6 s1,aS bN (default:Ref),aS bo ai]) (fun av=>.ret) rfl NA rfl QT ak (fun _ _=>rfl) rfl rfl (fun Cq s1 r h g1 ql qx qm l D rec FU=>?_) (fun s1 aA g1 D=>?_) (fun av aA g1 D=>?_)
 ·refine aw.fv (dW (J.nil ?_));refine aj.begin 0 rfl FU (aw.block (aw.seq (cm ?_)));refine cB 2 gK ?_;refine bj (yF underlying326 (ae rfl)) (cv ?_);refine nH h (fun h=>?_) fun h=>?_
  ·refine cm (J.store (i:=3) (aK.id Ref) (v:=(none:Ref)) (b':=(none:Ref)) gK (ae rfl) nU rfl rfl rfl ?_);refine aM ?_;cases h;exact aj.afG () 0 rfl rfl rfl
  refine aM fun cu e5 aL dg c2 eR h=>?_;cases h;exact aj.XL () 0 rfl
 ·clear ak;subst aA;simp only [Sum.elim_inl] at h;refine aj.db ?_;refine aM ?_;cases h;refine aj.JC 0 rfl rfl ?_;exact aj.eh () (fE 4) rfl rfl (po (i:=2) gK rfl rfl)
 clear ak;subst aA;simp only [Sum.elim_inr] at h;refine aw.ret (aj.db ?_);refine aj.nC (aj.ret ?_);cases h;refine aj.JC 0 rfl rfl ?_;exact aj.eh () (fE 4) rfl rfl (po (i:=2) gK rfl rfl)
theorem ZA {aa bV iS iT r}(h:Di aa=some r):bJ prog 257 [I.bE bV] [⟨some bV,.ch ({ aa with dd:= [] } :eD) [(10,aJ iS aa.dd.length iT)]⟩,⟨iS,.row 54 aa.dd iT⟩] (δ:=Unit) (fun d=>I.of r) (fun d=>[⟨some bV,.ch ({ aa with dd:= [] } :eD) [(10,aJ iS aa.dd.length iT)]⟩,⟨iS,.row 54 aa.dd iT⟩]):=by
 unfold Di at h;refine bJ.of func257 rfl ntmps257 rfl fun W A=>cm (bj (c5 (look_nil (α:=aC))) (hX (cm ?_)));refine cH ?_;refine bj (IF underlying205 (ae rfl)) (cv ?_);refine aw.BO (ae rfl) rfl (l8 (cm (cH ?_)));refine di e4 ?_;refine di (bY aev.fd) ?_;refine bj (ht (i:=0) (q:=0) (β:=eD) (γ:=aC) py (ae rfl) rfl rfl) ?_;refine az h fun an bx h=>J.fm (dL.call [1] ahu (abq bx) ⟨ae rfl,trivial⟩ rfl ⟨rfl,trivial⟩ rfl) rfl rfl rfl (dW (cv (aw.ret ?_)));refine aj.bm 1 rfl (aj.bm 1 rfl ?_);cases h;exact qj ()
theorem ZQ {aa ai r}(h:Dq aa ai=some r):dZ prog 113 [I.of aa,I.of ai] (I.of r):=by
 unfold Dq at h;refine dZ.of func113 rfl ntmps113 rfl fun W A=>?_;refine aM fun bo bN=>?_;refine az h fun an bx h=>az h fun aD cc h=>az h fun bf et h=>az h fun bu fl h=>aw.fy 23 ?_;exact go
theorem abi {aa ai r}(h:Ef aa ai=some r):dZ prog 141 [I.of aa,I.of ai] (I.of r):=by
 unfold Ef at h;refine dZ.of func141 rfl ntmps141 rfl fun W A=>?_;exact go
theorem Rh {hp aa Q}(h:AS hp aa Q):k6 prog 84 [I.of aa] hp Q:=by
 unfold AS at h;refine bJ.of func84 rfl ntmps84 rfl fun W A=>cm (bj (c5 (look_nil (α:=gV))) (hX (cm ?_)));refine cH ?_;refine bj (yF underlying87 (ae rfl)) (cv ?_);refine xp h (fun h=>?_) fun h=>?_
 ·refine cm (bj (c5 (look_nil (α:=gV))) (cv (aw.ret (aj.ret ?_))));exact aj.eh (⟨⟨(([]:List gV),hp),h⟩,()⟩: {r // _}×_) (.refl _) rfl rfl (dw rfl)
 refine l8 (cm (J.own (α:=gV) 126 (bj (c5 lK) ?_)));refine aM fun bt dn c1 dy h=>?_;refine ag.br h fun cu e5 h=>ag.br h fun c2 eR h=>J.Ub (α:=b8) (β:=ks) (kv:=c2) 1 rfl underlying166 (kW (ae rfl) e5) (tG eR) rfl rfl fun bo m1 lY bH=>cv (aw.block (zw (σ:=(List Nat)×(List gV)) (ε:=(Bool×(List Nat)×(List gV))) (γ:=(Option Nat×Nat)) (δ:=(Option Nat×Nat)) h 2 [0,2,7,12] (fun s1 g1=>[(3,I.eq (aJ g1.1 s1.2.length g1.2))]) (fun s1 g1=>[(0,⟨some bo,.is (mY cu m1 lY s1.1)⟩),(1,⟨g1.1,.row 126 s1.2 g1.2⟩)]) (fun s1 g1=>oU cu (.map m1 lY) (aI hp)) (fun av=>Exit.exit 0) (fun av g1=>[(3,I.eq (aJ g1.1 av.2.2.length g1.2)),(14,I.of av.1)]) (fun av g1=>[(0,⟨some bo,.is (mY cu m1 lY av.2.1)⟩),(1,⟨g1.1,.row 126 av.2.2 g1.2⟩)]) (fun av g1=>oU cu (.map m1 lY) (aI hp)) (none,0) (fun s1 R h g1=>?_) (fun ar h g1=>?_)))
 ·refine cm (J.Vi (kv:=c2) 0 (ae rfl) rfl (IL 2 rfl (tG eR) rfl) bH rfl fun nd xq=>?_);replace h:=ag.Sa h nd xq;refine bj (Uc (ae rfl)) ?_;refine go2 (fun h=>?_) (fun h=>?_)
  ·refine ag.br h fun aL dg h=>bj (SD (kv:=c2) (vis:=s1.1) 0 (ae rfl) rfl (IL 2 rfl (tG eR) rfl) bH xq dg) ?_;refine aM fun bN b6 bn eK h=>?_;refine ag.br h fun an bx h=>ia 3 underlying113 E7 Vj bx fun ea dv=>?_;refine dW (J.nil ?_);exact aj.p8 (aj.tE h (ea,dv) 2 rfl .all)
  exact aj.p7 h (g1.1,g1.2) 0 rfl (by simp) rfl .all
 refine aM ?_;refine J.bm 1 rfl (J.nb (ee.lj 1 ahv (Zd h) rfl rfl ⟨ae rfl,SE ahw (fun _ _ _ h=>ZQ h),trivial⟩) rfl rfl rfl fun⟨aD,WM,h⟩=>?_);refine J.db ?_;refine J.j5 (m:=aD.length) 3 rfl WM (J.j5 (m:=aD.length) 27 rfl WM (aM ?_));exact aj.Jg 2 rfl (aj.j2 (α:=gV) 0 [2,3,27,29] ⟨rfl,rfl,rfl,rfl,trivial⟩ rfl (aj.eh (⟨⟨(aD,hp),h⟩,()⟩: {r // _}×_) (fE 2) rfl rfl (dw rfl)))
theorem Rr {aa ai aV c8 n3 fr r}(h:Ba aa ai aV c8=some r):bJ prog 118 [I.eq (aJ n3 aa.length fr),I.of ai,I.of aV,I.of c8] [⟨n3,.row 129 aa fr⟩] (δ:=(Option Nat×Nat)) (fun d=>I.eq (aJ d.1 r.length d.2)) (fun d=>[⟨d.1,.row 129 r d.2⟩]):=by
 unfold Ba at h;refine bJ.of func118 rfl ntmps118 rfl fun W A=>cm (pE fun bo=>?_);refine J.own (α:=eF) 129 (bj (c5 lK) ?_);refine aM ?_;refine az h fun ar ak h=>fD (γ:=Unit) (δ:=Unit) ak [0,1,2,3,5,8] (fun s1 g1=>[(9,I.of s1)]) (fun s1 g1=>[]) (fun av=>Exit.exit 0) (fun av g1=>[(9,I.of av.1),(22,I.of av.2)]) (fun av g1=>[]) () (fun s1 r h g1=>?_) fun g1=>?_
 ·refine aw.seq (aw.seq (az h fun aL dg h=>az h fun an bx h=>aw.ml mixed 13 (rg 10 13) [[],[],[1],[0,2],[3],[4],[4],[4,5,6],[4,7],[4,8],[4],[4,9,10],[4,11]] [_,_,_,_,_,_,_,_,_,_,_,_,_] ⟨gj,gj,gu fun aq=>mO (i:=2) underlying117 (ae rfl) rfl (aq _ _ rfl rfl),nc sF,gj,fG fun L' aq=>fun hb=>cG (ae rfl),fG fun L' aq=>fun hb=>cG (ae rfl),fG fun L' aq=>fun hb=>mw (i:=2) (k:=aL) (xs:=(aa:List eF)) underlying117 n5 (cD rfl hb) (cD rfl hb) (aq _ _ rfl rfl) (dq (fA dg hb)),fG fun L' aq=>fun hb=>bY L8.fd (cD rfl hb),fG fun L' aq=>fun hb=>qO (i:=2) (k:=aL) ((aK.id eF).comp Dc) (r:=(au aa aL).cI) oJ (cD rfl hb) (aq _ _ rfl rfl) (dq (fA dg hb)).1 rfl rfl,fG fun L' aq=>fun hb=>gz (i:=1) (aK.id eI) (r:=ai) oJ (ae rfl) (aq _ _ rfl rfl) rfl rfl,fG fun L' aq=>fun hb=>la ahx (abi (fA bx hb)) ⟨cD rfl hb,cD rfl hb,trivial⟩,gu fun aq=>y2 (ae rfl) (ae rfl) (fun h=>h),trivial⟩ ?_));exact go
 refine aj.mP (aj.next (aw.seq (aw.seq (az h fun bz dh h=>az h fun bn eK h=>aw.ml mixed 13 (rg 25 13) [[],[],[1],[0,2],[3],[4],[4],[4,5,6],[4,7],[4,8],[4],[4,9,10],[4,11]] [_,_,_,_,_,_,_,_,_,_,_,_,_] ⟨gj,gj,gu fun aq=>mO (i:=2) underlying117 (ae rfl) rfl (aq _ _ rfl rfl),nc sF,gj,fG fun L' aq=>fun hb=>cG (ae rfl),fG fun L' aq=>fun hb=>cG (ae rfl),fG fun L' aq=>fun hb=>mw (i:=2) (k:=bz) (xs:=(aa:List eF)) underlying117 n5 (cD rfl hb) (cD rfl hb) (aq _ _ rfl rfl) (dq (fA dh hb)),fG fun L' aq=>fun hb=>bY L8.fd (cD rfl hb),fG fun L' aq=>fun hb=>qO (i:=2) (k:=bz) ((aK.id eF).comp Dc) (r:=(au aa bz).cI) oJ (cD rfl hb) (aq _ _ rfl rfl) (dq (fA dh hb)).1 rfl rfl,fG fun L' aq=>fun hb=>gz (i:=1) (aK.id eI) (r:=ai) oJ (ae rfl) (aq _ _ rfl rfl) rfl rfl,fG fun L' aq=>fun hb=>Vk IM rfl IN rfl (cD rfl hb) (cD rfl hb),xJ eK fun L' aq=>y2 (ae rfl) (ae rfl) (fun h=>h),trivial⟩ ?_))));refine go2 (fun h=>?_) (fun h=>?_)
 ·refine az h fun cR ic h=>az h fun hh pF h=>az h fun ox FO h=>az h fun z2 hz h=>az h fun rj FP h=>az h fun z3 mW h=>fk [0,1,2,3,5,8,9,22,25,26,27,28,29,30,31,32,33,34,35,36,37] ?_;refine aw.xI mixed (ay 38 [] [] _::ay 39 [] [] _::ay 40 [] [] _::ay 41 [] [] _::ay 42 [] [] _::ay 43 [] [] _::ay 44 [4,5] [2] _::ay 45 [6] [] _::ay 46 [7] [2] _::ay 47 [] [] _::ay 48 [8,9] [] _::ay 49 [] [] _::ay 50 [] [] _::ay 51 [11,12] [2] _::ay 52 [13] [] _::ay 53 [13,14] [2] _::ay 54 [] [] _::ay 55 [15,16] [] _::ay 56 [0,1] [2] _::ay 57 [18] [] _::hA [6,8,10,13,15,18,19] [2] [2] (fun hd=>⟨n3,.row 129 z2 fr⟩)::ay 58 [2,3,20] [2] _::ay 59 [21] [] _::hA [6,8,13,15,17,18,20,21,22] [2] [2] (fun hd=>⟨n3,.row 129 z3 fr⟩)::[]) ⟨iD,iD,iD,iD,iD,iD,hV fun aE aq=>mw (i:=2) (k:=cR) (xs:=(aa:List eF)) underlying117 n5 (ae (aE _ _ rfl)) (ae (aE _ _ rfl)) (aq 2 _ rfl rfl) (dq ic),jb (bY L9.fd),hV fun aE aq=>qO (i:=2) (k:=cR) ((aK.id eF).comp Dd) (r:=(au aa cR).hM) bR (ae (aE _ _ rfl)) (aq 2 _ rfl rfl) (dq ic).1 rfl rfl,iD,P2 j6,iD,iD,hV fun aE aq=>mw (i:=2) (k:=hh) (xs:=(aa:List eF)) underlying117 n5 (ae (aE _ _ rfl)) (ae (aE _ _ rfl)) (aq 2 _ rfl rfl) (dq pF),jb (bY Ma.fd),hV fun aE aq=>qO (i:=2) (k:=hh) ((aK.id eF).comp C5) (r:=(au aa hh).hC) bR (ae (aE _ _ rfl)) (aq 2 _ rfl rfl) (dq pF).1 rfl rfl,iD,P2 j6,hV fun aE aq=>mw (i:=2) (k:=ox) (xs:=(aa:List eF)) underlying117 n5 (ae (aE _ _ rfl)) (ae (aE _ _ rfl)) (aq 2 _ rfl rfl) (dq FO),jb (bY L9.fd),?_,hV fun aE aq=>mw (i:=2) (k:=rj) (xs:=(z2:List eF)) underlying117 n5 (adu (m:=z2.length) (kX (dc hz)) (ae (aE _ _ rfl))) (ae (aE _ _ rfl)) (aq 2 _ rfl rfl) (dq FP),jb (bY Ma.fd),?_,trivial⟩ fun cZ=>?_
  ·intro hd E' L' aE aq;refine J.yN (i:=2) (k:=ox) ((aK.id eF).comp Dd) (v:=(bk (((au aa cR).hM)+aV):Int)) (r:=(z2:List eF)) bR (ae (aE _ _ rfl)) (ae (aE _ _ rfl)) (aq 2 _ rfl rfl) (dq FO).1 rfl (dc hz) (J.nil ?_);exact aj.fin (cP []) rfl rfl
  ·intro hd E' L' aE aq;refine J.yN (i:=2) (k:=rj) ((aK.id eF).comp C5) (v:=(bk (((au aa hh).hC)+c8):Int)) (r:=(z3:List eF)) bR (ae (aE _ _ rfl)) (ae (aE _ _ rfl)) (aq 2 _ rfl rfl) (dq FP).1 rfl (dc mW) (J.nil ?_);exact aj.fin (cP []) rfl rfl
  refine aj.dN (L2:= [⟨none,.row 129 ([]:List eF) 0⟩,aS bo ai,⟨n3,.row 129 z3 fr⟩]) rfl (aj.j5 (m:=z2.length) 0 rfl (kX (dc hz)) (aj.j5 (m:=z2.length) 26 rfl (kX (dc hz)) (aj.j5 (m:=z2.length) 38 rfl (kX (dc hz)) (aj.j5 (m:=z2.length) 40 rfl (kX (dc hz)) (aj.j5 (m:=z2.length) 42 rfl (kX (dc hz)) (aj.j5 (m:=z2.length) 49 rfl (kX (dc hz)) (aj.j5 (m:=z3.length) 0 rfl (kX (dc mW)) (aj.j5 (m:=z3.length) 26 rfl (kX (dc mW)) (aj.j5 (m:=z3.length) 38 rfl (kX (dc mW)) (aj.j5 (m:=z3.length) 40 rfl (kX (dc mW)) (aj.j5 (m:=z3.length) 42 rfl (kX (dc mW)) (aj.j5 (m:=z3.length) 49 rfl (kX (dc mW)) (fF ?_)))))))))))));refine aM ?_;refine aj.bm 2 rfl ?_;cases h;exact qj (n3,fr)
 refine aw.j2 (α:=eF) 2 [0,26] ⟨rfl,rfl,trivial⟩ rfl (az h fun aD cc h=>az h fun bf et h=>az h fun bu fl h=>az h fun cd hE h=>az h fun b9 hS h=>aw.mT 1 (fk [0,1,2,3,5,9,22,25,26,27,28,29,30,31,34,35,36,37] ?_));refine aw.xI mixed (⟨some 61,[],[3],[3],fun hd=>I.eq (aJ (hd 0 0) ([]:List eF).length 0),fun hd _=>⟨(hd 0 0),.row 129 ([]:List eF) 0⟩⟩::ay 62 [] [] _::ay 63 [] [] _::ay 64 [1,2] [] _::⟨some 65,[0,3],[3],[3],fun hd=>I.eq (aJ (hd 4 0) bf.length ((hd 4 1).getD 0)),fun hd _=>⟨(hd 4 0),.row 129 bf ((hd 4 1).getD 0)⟩⟩::ay 66 [] [1] _::ay 67 [] [] _::ay 68 [] [] _::ay 69 [5,6,7] [] _::ay 70 [8] [] _::⟨some 71,[0,4,9],[3],[3],fun hd=>I.eq (aJ (hd 10 0) bu.length ((hd 10 1).getD 0)),fun hd _=>⟨(hd 10 0),.row 129 bu ((hd 10 1).getD 0)⟩⟩::ay 72 [] [] _::ay 73 [] [] _::ay 74 [11,12] [] _::⟨some 75,[0,4,10,13],[3],[3],fun hd=>I.eq (aJ (hd 14 0) b9.length ((hd 14 1).getD 0)),fun hd _=>⟨(hd 14 0),.row 129 b9 ((hd 14 1).getD 0)⟩⟩::⟨some 8,[14],[],[],fun hd=>I.eq (aJ (hd 14 0) b9.length ((hd 14 1).getD 0)),fun _ _=>⟨none,.dead⟩⟩::[]) ⟨?_,iD,iD,hV fun aE aq=>yI underlying117 n5 (ae (aE _ _ rfl)) .none (.some (ae (aE _ _ rfl))) cc,?_,Cp 1 oJ,iD,iD,hV fun aE aq=>kg (b:= { cI:=ai,hM:=aV,hC:=c8:eF }) rfl ahy BW (.cons Dc rfl (ae (aE _ _ rfl)) rfl (.cons Dd rfl (ae (aE _ _ rfl)) rfl (.cons C5 rfl (ae (aE _ _ rfl)) rfl (.nil)))),hV fun aE aq=>w2 (r:= [{ cI:=ai,hM:=aV,hC:=c8:eF }]) underlying117 n5 BW rfl rfl (.cons (by simp) (ae (aE _ _ rfl)) (.nil)),?_,iD,iD,hV fun aE aq=>yI underlying117 n5 (ae (aE _ _ rfl)) (.some (ae (aE _ _ rfl))) .none hE,?_,?_,trivial⟩ fun fN=>?_
 ·intro hd E' L' aE aq;exact J.oN (α:=eF) (r:=([]:List eF)) underlying117 n5 BW rfl rfl (.nil) rfl fun ea=>J.nil (aj.place 3 (aq 3 _ rfl rfl) (aj.fin (cP [ea]) rfl rfl))
 ·intro hd E' L' aE aq;refine J.app (i:=3) underlying117 n5 BW (bytes:=48) (by kernel_rfl) (ae (aE _ _ rfl)) (aq 3 _ rfl rfl) (ae (aE _ _ rfl)) et rfl fun iy dv=>?_;exact J.nil (aj.fin (cP [iy,some dv]) rfl rfl)
 ·intro hd E' L' aE aq;refine J.app (i:=3) underlying117 n5 BW (bytes:=48) (by kernel_rfl) (ae (aE _ _ rfl)) (aq 3 _ rfl rfl) (ae (aE _ _ rfl)) fl rfl fun lO lN=>?_;exact J.nil (aj.fin (cP [lO,some lN]) rfl rfl)
 ·intro hd E' L' aE aq;refine J.app (i:=3) underlying117 n5 BW (bytes:=48) (by kernel_rfl) (ae (aE _ _ rfl)) (aq 3 _ rfl rfl) (ae (aE _ _ rfl)) hS rfl fun qW qf=>?_;exact J.nil (aj.fin (cP [qW,some qf]) rfl rfl)
 ·intro hd E' L' aE aq;refine bj (c5 (ae (aE _ _ rfl))) (J.nil ?_);exact aj.fin (cP []) rfl rfl
 refine aj.dN (L2:= [⟨none,.row 129 ([]:List eF) 0⟩,aS bo ai,⟨none,.dead⟩,⟨(fN 14 0),.row 129 b9 ((fN 14 1).getD 0)⟩]) rfl (fF ?_);refine aj.bm 3 rfl (aj.next (aw.ret (aj.bm 0 rfl ?_)));cases h;exact qj ((fN 14 0),((fN 14 1).getD 0))
instance aq5:zZ prog 274 _ _ _ _ Bb I.of I.of I.of I.of:= .i func274 rfl ntmps274 rfl fun aa ai aV r h W A=>by
 unfold Bb at h;refine aM fun bo bN b6=>?_;refine az h fun an bx h=>az h fun aD cc h=>az h fun bf et h=>az h fun bu fl h=>az h fun cd hE h=>az h fun b9 hS h=>aw.fy 24 ?_;exact go
theorem aba {hp aa r}(h:A0 hp aa=some r):ik prog 231 [I.of aa] hp (I.of r) hp:=by
 unfold A0 at h;refine bJ.of func231 rfl ntmps231 rfl fun W A=>?_;refine aM ?_;exact az h fun an bx h=>J.fm (dL.gS 0 rfl ahz (aa9 bx) ⟨ae rfl,trivial⟩) rfl rfl rfl go
theorem K7 {hp aa ai r}(h:D0 hp aa ai=some r):ik prog 67 [I.of aa,I.of ai] hp (I.bP []) r:=by
 unfold D0 at h;refine bJ.of func67 rfl ntmps67 rfl fun W A=>?_;refine aM fun bo=>?_;refine az h fun an bx h=>J.dB 1 0 rfl Vl (Q7 bx) rfl rfl ⟨ae rfl,ae rfl,c9 1,trivial⟩ rfl fun av=>J.db (J.nil ?_);exact aj.k0 go
instance aq6:e9 prog 109 _ _ _ A1 I.of I.of I.of:= .i func109 rfl ntmps109 rfl fun aa ai r h W A=>by
 unfold A1 at h;exact go
theorem Ro {aa ai r}(h:uD aa ai=some r):dZ prog 110 [I.of aa,I.of ai] (I.of r):=by
 unfold uD at h;refine dZ.of func110 rfl ntmps110 rfl fun W A=>?_;refine aM fun bo bN=>?_;refine az h fun an bx h=>az h fun aD cc h=>az h fun bf et h=>az h fun bu fl h=>aw.fy 23 (cv (aw.block ?_));refine az h fun ar ak h=>fD (γ:=Unit) (δ:=Unit) ak [0,1,2,3,27,28] (fun s1 g1=>[(4,I.of (0:Int)),(29,I.of s1)]) (fun s1 g1=>[]) (fun av=>Sum.elim (fun av=>Exit.exit 0) (fun av=>Exit.ret) av) (fun av g1=>Sum.elim (fun av=>[(4,I.of (0:Int)),(29,I.of av.1),(30,I.of av.2)]) (fun av=>[(4,I.of av.1),(6,I.of av.2.1),(29,I.of av.2.2.1),(30,I.of av.2.2.2.1),(34,I.of av.2.2.2.2)]) av) (fun av g1=>[]) () (fun s1 r h g1=>?_) fun g1=>?_
 ·exact go
 rcases ar with ar | ar
 ·simp only [Sum.elim_inl] at h;exact go
 simp only [Sum.elim_inr] at h;exact go
instance aq7:e9 prog 110 _ _ _ uD I.of I.of I.of:=
 ⟨⟨_,func110,rfl,by kernel_rfl⟩,fun _ _ _ h=>Ro h⟩
theorem KU {hp aa ai r}(h:DC hp aa ai=some r):ik prog 70 [I.of aa,I.of ai] hp (I.bP []) r:=by
 unfold DC at h;refine bJ.of func70 rfl ntmps70 rfl fun W A=>?_;refine aM fun bo=>?_;refine az h fun an bx h=>J.dB 1 0 rfl Vl (Q7 bx) rfl rfl ⟨ae rfl,ae rfl,c9 (-1),trivial⟩ rfl fun av=>J.db (J.nil ?_);exact aj.k0 go
theorem ZR {aa ai r}(h:Hu aa ai=some r):dZ prog 136 [I.of aa,I.of ai] (I.of r):=by
 unfold Hu at h;refine dZ.of func136 rfl ntmps136 rfl fun W A=>?_;exact go
theorem ZB {hp aa Q}(h:Dj hp aa Q):k6 prog 45 [I.of aa] hp Q:=by
 unfold Dj at h;refine bJ.of func45 rfl ntmps45 rfl fun W A=>cm (bj (c5 (look_nil (α:=gV))) ?_);refine go2 (fun h=>?_) (fun bt dn c1 dy h=>?_)
 ·refine bj (c5 (look_nil (α:=gV))) (cv (aw.ret (aj.ret ?_)));exact aj.eh (⟨⟨(([]:List gV),hp),h⟩,()⟩: {r // _}×_) (.refl _) rfl rfl (dw rfl)
 refine J.dB 0 0 rfl WN (Rh h) rfl rfl ⟨ae rfl,trivial⟩ rfl fun⟨⟨an,h⟩,av⟩=>J.db ?_;refine dW (cv (aw.ret ?_));exact aj.eh (⟨⟨(an.1,an.2),h⟩,()⟩: {r // _}×_) (.refl _) rfl rfl (dw rfl)
theorem ZC {hp aa Q}(h:Hp hp aa Q):k6 prog 85 [I.of aa] hp Q:=by
 unfold Hp at h;refine bJ.of func85 rfl ntmps85 rfl fun W A=>cm (bj (c5 (look_nil (α:=b8))) (jF ?_));refine J.own (α:=b8) 124 (bj (c5 lK) ?_);refine aM ?_;refine J.dB 1 0 rfl WN (Rh h) rfl rfl ⟨ae rfl,trivial⟩ rfl fun⟨⟨an,h⟩,av⟩=>J.db ?_;refine aM ?_;refine ag.br h fun ar ak h=>uc (σ:=Int×(List b8)) (ε:=(Int×Bool×(List b8))) (γ:=(Option Nat×Nat)) (δ:=(Option Nat×Nat)) ak 1 [0,2,7,8] (fun s1 g1=>[(3,I.eq (aJ g1.1 s1.2.length g1.2)),(9,I.of s1.1)]) (fun s1 g1=>[(0,⟨g1.1,.row 124 s1.2 g1.2⟩)]) (fun s1 g1=>aI an.2) (fun cQ=>Exit.exit 0) (fun cQ g1=>[(3,I.eq (aJ g1.1 cQ.2.2.length g1.2)),(9,I.of cQ.1),(10,I.of cQ.2.1)]) (fun cQ g1=>[(0,⟨g1.1,.row 124 cQ.2.2 g1.2⟩)]) (fun cQ g1=>aI an.2) (none,0) (fun s1 r h g1=>?_) (fun g1=>?_)
 ·refine go2 (fun aL dg bo bn eK h=>?_) (fun h=>?_)
  ·refine az h fun m1 b4 h=>q3 (γ:=(Option Nat×Nat)) 2 [0,2,5,7,8,9,10,20] (fun g2=>[(3,I.eq (aJ g2.1 m1.length g2.2))]) (fun g2=>[(1,⟨g2.1,.row 124 m1 g2.2⟩)]) (fun g2=>aI an.2) (fun g2=>?_) (fun hm ad=>?_) (fun hm ad=>?_)
   ·refine aM ?_;cases h;exact ib (g2.1,g2.2) 1
   ·have h:=gk ad b4;refine aM ?_;refine az h fun aD cc h=>ia 1 underlying115 u7 E6 cc fun ea dv=>?_;refine dW (J.nil ?_);cases h;exact dQ 0 (hm (ea,dv))
   have h:=gl ad b4;refine aw.skip ?_;cases h;exact dQ 0 (hm (g1.1,g1.2))
  cases h;exact ha (g1.1,g1.2) 0
 refine aM ?_;exact aj.j2 (α:=b8) 0 [2,3,27] ⟨rfl,rfl,rfl,trivial⟩ rfl (aj.eh (⟨⟨(ar.2.2,an.2),h⟩,()⟩: {r // _}×_) (fE 1) rfl rfl (dw rfl))
instance arX:e9 prog 86 _ _ _ Bj I.of I.of I.of:= .i func86 rfl ntmps86 rfl fun aa ai r h W A=>by
 unfold Bj at h;refine cm (pE fun bo=>?_);refine bj (c5 (look_nil (α:=eF))) (jF ?_);refine J.own (α:=eF) 129 (bj (c5 lK) ?_);refine aM ?_;refine az h fun ar ak h=>fD (γ:=(Option Nat×Nat)) (δ:=(Option Nat×Nat)) ak [0,1,2,4,12,13] (fun s1 g1=>[(5,I.eq (aJ g1.1 s1.2.length g1.2)),(14,I.of s1.1)]) (fun s1 g1=>[(0,⟨g1.1,.row 129 s1.2 g1.2⟩)]) (fun av=>Exit.exit 0) (fun av g1=>[(5,I.eq (aJ g1.1 av.2.2.length g1.2)),(14,I.of av.1),(15,I.of av.2.1)]) (fun av g1=>[(0,⟨g1.1,.row 129 av.2.2 g1.2⟩)]) (none,0) (fun s1 r h g1=>?_) fun g1=>?_
 ·refine go2 (fun aL dg bN an bx h=>?_) (fun h=>?_)
  ·refine az h fun aU ak h=>fD (γ:=(Option Nat×Nat)) (δ:=(Option Nat×Nat)) ak [0,1,2,4,7,12,13,14,15,20,21] (fun s2 g2=>[(5,I.eq (aJ g2.1 s2.2.length g2.2)),(22,I.of s2.1)]) (fun s2 g2=>[(1,⟨g2.1,.row 129 s2.2 g2.2⟩)]) (fun cQ=>Exit.exit 2) (fun cQ g2=>[(5,I.eq (aJ g2.1 cQ.2.2.length g2.2)),(22,I.of cQ.1),(23,I.of cQ.2.1)]) (fun cQ g2=>[(1,⟨g2.1,.row 129 cQ.2.2 g2.2⟩)]) (g1.1,g1.2) (fun s2 r h g2=>?_) fun g2=>?_
   ·refine go2 (fun bz dh b6 h=>?_) (fun h=>?_)
    ·refine J.bm 2 rfl (az h fun aD cc h=>ef 1 Vm (Rr cc) fun ev=>?_);refine aM ?_;refine aj.bm 2 rfl (aj.bm 2 rfl ?_);cases h;exact ib (ev.1,ev.2) 1
    cases h;exact ha (g2.1,g2.2) 0
   refine aM fun bf et h=>?_;refine az h fun cz ak h=>fD (γ:=(Option Nat×Nat)) (δ:=(Option Nat×Nat)) ak [0,1,2,4,7,12,13,14,15,20,21,22,23,32,33] (fun fV g3=>[(5,I.eq (aJ g3.1 fV.2.length g3.2)),(34,I.of fV.1)]) (fun fV g3=>[(1,⟨g3.1,.row 129 fV.2 g3.2⟩)]) (fun hJ=>Exit.exit 4) (fun hJ g3=>[(5,I.eq (aJ g3.1 hJ.2.2.length g3.2)),(34,I.of hJ.1),(35,I.of hJ.2.1)]) (fun hJ g3=>[(1,⟨g3.1,.row 129 hJ.2.2 g3.2⟩)]) (g2.1,g2.2) (fun fV r h g3=>?_) fun g3=>?_
   ·refine go2 (fun cR ic b7 h=>?_) (fun h=>?_)
    ·refine J.bm 2 rfl (az h fun bu fl h=>ef 1 Vm (Rr fl) fun ec=>?_);refine aM ?_;refine aj.bm 2 rfl (aj.bm 2 rfl ?_);cases h;exact ib (ec.1,ec.2) 1
    cases h;exact ha (g3.1,g3.2) 0
   refine aM ?_;cases h;exact ib (g3.1,g3.2) 1
  cases h;exact ha (g1.1,g1.2) 0
 refine aM ?_;exact aj.j2 (α:=eF) 0 [4,5,43] ⟨rfl,rfl,rfl,trivial⟩ rfl go
theorem aaX {hp aa Q}(h:yh hp aa Q):k6 prog 111 [I.of aa] hp Q:=by
 unfold yh at h;refine bJ.of func111 rfl ntmps111 rfl fun W A=>cm (bj (c5 (look_nil (α:=aC))) (hX (cm ?_)));refine cH ?_;refine bj (yF underlying164 (ae rfl)) (cv ?_);refine xp h (fun h=>?_) fun h=>?_
 ·refine cm (bj (c5 (look_nil (α:=aC))) (cv (aw.ret (aj.ret ?_))));exact aj.eh (⟨⟨(([]:List aC),hp),h⟩,()⟩: {r // _}×_) (.refl _) rfl rfl (dw rfl)
 refine l8 (cm (J.own (α:=aC) 54 (bj (c5 lK) ?_)));refine aM fun bt dn c1 dy h=>?_;refine ag.br h fun cu e5 h=>ag.br h fun c2 eR h=>J.Ub (α:=Int) (β:=aC) (kv:=c2) 1 rfl underlying193 (kW (ae rfl) e5) (sx eR) rfl rfl fun bo m1 lY bH=>cv (aw.block (zw (σ:=(List Nat)×(List aC)) (ε:=(Bool×(List Nat)×(List aC))) (γ:=(Option Nat×Nat)) (δ:=(Option Nat×Nat)) h 2 [0,2,7,12] (fun s1 g1=>[(3,I.eq (aJ g1.1 s1.2.length g1.2))]) (fun s1 g1=>[(0,⟨some bo,.is (mY cu m1 lY s1.1)⟩),(1,⟨g1.1,.row 54 s1.2 g1.2⟩)]) (fun s1 g1=>oU cu (.map m1 lY) (aI hp)) (fun av=>Exit.exit 0) (fun av g1=>[(3,I.eq (aJ g1.1 av.2.2.length g1.2)),(14,I.of av.1)]) (fun av g1=>[(0,⟨some bo,.is (mY cu m1 lY av.2.1)⟩),(1,⟨g1.1,.row 54 av.2.2 g1.2⟩)]) (fun av g1=>oU cu (.map m1 lY) (aI hp)) (none,0) (fun s1 R h g1=>?_) (fun ar h g1=>?_)))
 ·refine cm (J.Vi (kv:=c2) 0 (ae rfl) rfl (IL 2 rfl (sx eR) rfl) bH rfl fun nd xq=>?_);replace h:=ag.Sa h nd xq;refine bj (Uc (ae rfl)) ?_;refine go2 (fun h=>?_) (fun h=>?_)
  ·refine ag.br h fun aL dg h=>bj (SD (kv:=c2) (vis:=s1.1) 0 (ae rfl) rfl (IL 2 rfl (sx eR) rfl) bH xq dg) ?_;refine aM fun bN an bx h=>?_;refine ag.br h fun aD cc h=>ia 2 underlying43 eZ fC cc fun ea dv=>?_;refine dW (J.nil ?_);exact aj.p8 (aj.tE h (ea,dv) 1 rfl .all)
  exact aj.p7 h (g1.1,g1.2) 0 rfl (by simp) rfl .all
 refine aM ?_;refine J.bm 1 rfl (J.nb (ee.lj 1 ahA (Y9 h) rfl rfl ⟨ae rfl,SE ahB (fun _ _ _ h=>ZR h),trivial⟩) rfl rfl rfl fun⟨bf,WO,h⟩=>?_);refine J.db ?_;refine J.j5 (m:=bf.length) 3 rfl WO (J.j5 (m:=bf.length) 22 rfl WO (aM ?_));exact aj.Jg 2 rfl (aj.j2 (α:=aC) 0 [2,3,22,24] ⟨rfl,rfl,rfl,rfl,trivial⟩ rfl (aj.eh (⟨⟨(bf,hp),h⟩,()⟩: {r // _}×_) (fE 2) rfl rfl (dw rfl)))
instance arY:e9 prog 89 _ _ _ HN I.of I.of I.of:= .i func89 rfl ntmps89 rfl fun aa ai r h W A=>by
 unfold HN at h;exact go
theorem Zs {hp aa Q}(h:C9 hp aa Q):k6 prog 46 [I.of aa] hp Q:=by
 unfold C9 at h;refine bJ.of func46 rfl ntmps46 rfl fun W A=>cm (bj (c5 (look_nil (α:=b8))) ?_);refine go2 (fun h=>?_) (fun bt dn c1 dy h=>?_)
 ·refine bj (c5 (look_nil (α:=b8))) (cv (aw.ret (aj.ret ?_)));exact aj.eh (⟨⟨(([]:List b8),hp),h⟩,()⟩: {r // _}×_) (.refl _) rfl rfl (dw rfl)
 refine J.dB 0 0 rfl ajM (ZC h) rfl rfl ⟨ae rfl,trivial⟩ rfl fun⟨⟨an,h⟩,av⟩=>J.db ?_;refine dW (cv (aw.ret ?_));exact aj.eh (⟨⟨(an.1,an.2),h⟩,()⟩: {r // _}×_) (.refl _) rfl rfl (dw rfl)
theorem abj {aa bV r}(h:Eg aa=some r):mi prog 47 [I.bE bV] bV aa (I.of r) aa:=by
 unfold Eg at h;refine bJ.of func47 rfl ntmps47 rfl fun W A=>cm (bj (c5 (look_nil (α:=eF))) (hX ?_));refine az h fun an bx h=>az h fun aD cc h=>fk [0] ?_;refine aw.cn 1 (ay 3 [] [] _::ay 4 [0] [] _::ay 5 [1] [] _::ay 6 [2] [0] _::ay 7 [] [] _::ay 8 [4] [0] (I.of an)::ay 9 [3,5] [] _::ay 2 [6] [] _::[]) (dG ?_ h3) (fun cZ=>?_)
 ·intro hd E' L' aE aq b3;exact J.fm (dL.call [0] WQ (Rl bx) ⟨ae (aE _ _ rfl),trivial⟩ rfl ⟨(aq 0 _ rfl rfl),trivial⟩ rfl) rfl rfl rfl (J.nil (aj.fin (cP []) rfl rfl))
 refine aj.dN (L2:= [aS bV aa]) rfl (fF ?_);exact go
instance XM:e9 prog 48 _ _ _ D5 I.of I.of I.of:= .i func48 rfl ntmps48 rfl fun aa ai r h W A=>by
 unfold D5 at h;refine cm (pE fun bo=>?_);refine bj (c5 (look_nil (α:=eI))) (jF ?_);refine J.own (α:=eI) 127 (bj (c5 lK) ?_);refine aM fun an bx h=>?_;refine az h fun ar ak h=>fD (γ:=(Option Nat×Nat)) (δ:=(Option Nat×Nat)) ak [0,1,2,4,10,11] (fun s1 g1=>[(5,I.eq (aJ g1.1 s1.2.length g1.2)),(12,I.of s1.1)]) (fun s1 g1=>[(0,⟨g1.1,.row 127 s1.2 g1.2⟩)]) (fun av=>Exit.exit 0) (fun av g1=>[(5,I.eq (aJ g1.1 av.2.2.length g1.2)),(12,I.of av.1),(13,I.of av.2.1)]) (fun av g1=>[(0,⟨g1.1,.row 127 av.2.2 g1.2⟩)]) (none,0) (fun s1 r h g1=>?_) fun g1=>?_
 ·refine go2 (fun aL dg bN h=>?_) (fun h=>?_)
  ·refine az h fun m1 b4 h=>jS (γ:=(Option Nat×Nat)) [0,1,2,4,7,10,11,12,13,18] (fun g2=>[(5,I.eq (aJ g2.1 m1.length g2.2))]) (fun g2=>[(1,⟨g2.1,.row 127 m1 g2.2⟩)]) (fun g2=>?_) (fun hm ad=>?_) fun hm ad=>?_
   ·refine aM ?_;cases h;exact ib (g2.1,g2.2) 1
   ·have h:=gk ad b4;refine aM ?_;refine az h fun aD cc h=>ia 1 underlying119 oJ BN cc fun ea dv=>?_;refine dW (J.nil ?_);cases h;exact dQ 0 (hm (ea,dv))
   have h:=gl ad b4;refine aw.skip ?_;cases h;exact dQ 0 (hm (g1.1,g1.2))
  cases h;exact ha (g1.1,g1.2) 0
 refine aM ?_;exact aj.j2 (α:=eI) 0 [4,5,25] ⟨rfl,rfl,rfl,trivial⟩ rfl go
theorem Rp {hp aa ai aV r}(h:yk hp aa ai aV=some r):ik prog 223 [I.of aa,I.of ai,I.of aV] hp (I.bP [I.of r.1,I.of r.2]) hp:=by
 unfold yk at h;refine bJ.of func223 rfl ntmps223 rfl fun W A=>?_;refine aM fun bo=>?_;exact az h fun an bx h=>J.fm (dL.gS 1 rfl Vn (Rj bx) ⟨ae rfl,ae rfl,ae rfl,trivial⟩) rfl rfl rfl go
theorem aar {hp aa ai r}(h:DQ hp aa ai=some r):ik prog 253 [I.of aa,I.of ai] hp (I.bP [I.of r.1,I.of r.2]) hp:=by
 unfold DQ at h;refine bJ.of func253 rfl ntmps253 rfl fun W A=>?_;refine aM fun bo bN=>?_;refine az h fun bt dn h=>az h fun c1 dy h=>az h fun an bx h=>J.fm (dL.obj 2 rfl (yP dy) ahC (ZA bx) rfl ⟨fg (ae rfl) dn,trivial⟩) rfl rfl rfl ?_;refine aM ?_;refine az h fun ar ak h=>uc (σ:=Int) (ε:=(Int×Bool) ⊕ (Int×Bool×Int×Bool×Bool)) (γ:=Unit) (δ:=Unit) ak 2 [0,1,2,3,10,11] (fun s1 g1=>[(4,I.of (0:Int)),(5,I.of false),(12,I.of s1)]) (fun s1 g1=>[]) (fun s1 g1=>aI hp) (fun av=>Sum.elim (fun av=>Exit.exit 0) (fun av=>Exit.ret) av) (fun av g1=>Sum.elim (fun av=>[(4,I.of (0:Int)),(5,I.of false),(12,I.of av.1),(13,I.of av.2)]) (fun av=>[(4,I.of av.1),(5,I.of av.2.1),(12,I.of av.2.2.1),(13,I.of av.2.2.2.1),(19,I.of av.2.2.2.2)]) av) (fun av g1=>[]) (fun av g1=>Sum.elim (fun av=>aI hp) (fun av=>aI hp) av) () (fun s1 r h g1=>?_) (fun g1=>?_)
 ·exact go
 rcases ar with ar | ar
 ·simp only [Sum.elim_inl] at h;exact go
 simp only [Sum.elim_inr] at h;exact go
theorem ZS {hp aa ai r}(h:Dr hp aa ai=some r):ik prog 218 [I.of aa,I.of ai] hp (I.bP [I.of r.1,I.of r.2]) hp:=by
 unfold Dr at h;refine bJ.of func218 rfl ntmps218 rfl fun W A=>?_;refine aM fun bo bN an bx b6 b7 h=>?_;refine az h fun bt dn h=>az h fun c1 dy h=>az h fun bn eK h=>az h fun aD cc h=>fk [0,1,2,3,6,7,8,9,10,11,12,13,14,15] ?_;refine aw.cn 4 (ay 16 [] [] _::ay 17 [0] [3] _::ay 18 [] [1] _::ay 19 [1,2] [] (I.of bn)::ay 20 [] [0] _::ay 21 [] [] _::ay 22 [3,4,5] [] (I.bP [I.of aD.1,I.of aD.2])::ay 23 [6] [] _::ay 24 [6] [] _::ay 4 [7] [] _::ay 5 [8] [] _::[]) (dG ?_ (dG ?_ h3)) (fun cZ=>?_)
 ·intro hd E' L' aE aq b3;refine bj (uN (r:=bn) underlying202 y3 E8 (kW (ae (aE _ _ rfl)) dn) (ae (aE _ _ rfl)) (iK (n:=4) (b3.trans rfl) (oG dy) rfl) (dc eK)) (J.nil ?_);exact aj.fin (cP []) rfl rfl
 ·intro hd E' L' aE aq b3;exact J.fm (dL.gS 4 (b3.trans rfl) Vo (Rp cc) ⟨ae (aE _ _ rfl),ae (aE _ _ rfl),ae (aE _ _ rfl),trivial⟩) rfl rfl rfl (J.nil (aj.fin (cP []) rfl rfl))
 refine aj.dN (L2:=(aS b7 an.2.1::aS b6 an.1::aS bN ai::aS bo aa::aI hp)) rfl (fF ?_);exact go
end Go.Proofs.YtppgfphgdogpeaaGreat
