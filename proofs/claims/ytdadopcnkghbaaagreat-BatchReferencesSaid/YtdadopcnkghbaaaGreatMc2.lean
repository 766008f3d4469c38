/-
  Each function meets its functional program. Conditions: none.
-/
import Derived.Test.YtdadopcnkghbaaaGreatMc0
import Derived.Test.YtdadopcnkghbaaaGreatMc1
import Derived.Test.YtdadopcnkghbaaaGreatMd
set_option linter.defProp false
set_option linter.unusedVariables false
set_option linter.unusedSimpArgs false
set_option maxRecDepth 100000
set_option maxHeartbeats 2000000
namespace Go.Proofs.YtdadopcnkghbaaaGreat
open Go Gv Go.Proofs.Tryz
attribute [local irreducible] ae az ar bc aP ei fl fC J.of J.ptr J.eq J.cond J.bY
instance:ea prog 141 _ _ _ Ff J.of J.of J.of:=.i func141 I ntmps141 I λab aj r h W A=>by
 unfold Ff at h;refine aL λbj bB=>?_;refine aA h λan bs h=>aA h λaF b5 h=>aA h λbd dY h=>aA h λbq eW h=>aA h λbM fY h=>aA h λcG hr h=>az.lk mixed 27 (rg 5 27) [[],[0],[],[2],[1,3],[],[5],[],[7],[6,8],[],[10],[],[12],[11,13],[],[15],[],[17],[16,18],[],[20],[],[22],[21,23],[4,9,14,19,24],[25]] [_,_,_,_,_,_,_,_,_,_,_,_,_,_,_,_,_,_,_,_,_,_,_,_,_,_,_] ⟨H1 (cg Cq.fd),ki 1 ud b8,H1 (cg Cq.fd),ki 0 ud b8,n4 CT.cf (CT.m _ _ _ bs),H1 (cg KF.fd),ki 0 Ec b8,H1 (cg KF.fd),ki 1 Ec b8,n4 CT.cf (CT.m _ _ _ b5),H1 (cg zO.fd),ki 1 sH vZ,H1 (cg zO.fd),ki 0 sH vZ,gC λav=>ib akX (acm dY) ⟨ag I,ag I,Wd akY (λ_ _ _=>ady),trivial⟩,H1 (cg zQ.fd),ki 1 ub b8,H1 (cg zQ.fd),ki 0 ub b8,n4 CT.cf (CT.m _ _ _ eW),H1 (cg Cp.fd),ki 1 xc Ao,H1 (cg Cp.fd),ki 0 xc Ao,gC λav=>ib akZ (acn fY) ⟨ag I,ag I,Wd ak0 (λ_ _ _=>UX),trivial⟩,gC λav=>F4 (r:=[an,aF,bd,bq,bM]) underlying39 b8 pb I I (.cons (by simp) (ag I) (.cons (by simp) (ag I) (.cons (by simp) (ag I) (.cons (by simp) (ag I) (.cons (by simp) (ag I) (.nil)))))),n4 Zz.cf (Zz.m _ _ hr),trivial⟩ ?_;exact go
def afc{ab aj aG r}(h:OF ab aj aG=some r):cm prog 33 [J.of ab,J.of aj,J.of aG] (J.of r):=by
 unfold OF at h;refine cm.of func33 I ntmps33 I λW A=>?_;refine aL λbj bB bX=>?_;refine bk (cV (look_nil (α:=gf))) (fD ?_);refine ae.own (α:=gf) 156 (bk (cV k2) ?_);refine aL ?_;refine aA h λau ao h=>fc (γ:=(aw Nat×Nat)) (δ:=(aw Nat×Nat)) ao [0,1,2,3,4,5,6,13,14] (λs1 g1=>[(7,J.eq (aO g1.1 s1.2.length g1.2)),(15,J.of s1.1)]) (λs1 g1=>[(0,⟨g1.1,.row 156 s1.2 g1.2⟩)]) (λaq=>Exit.exit 0) (λaq g1=>[(7,J.eq (aO g1.1 aq.2.2.length g1.2)),(15,J.of aq.1),(16,J.of aq.2.1)]) (λaq g1=>[(0,⟨g1.1,.row 156 aq.2.2 g1.2⟩)]) (none,0) (λs1 r h g1=>?_) λg1=>?_
 ·refine go2 (λaJ cQ ey pj h=>?_) (λh=>?_)
  ·refine aA h λm1 bW h=>gl (γ:=Unit) [0,1,2,3,4,5,6,7,8,9,10,13,14,15,16,24] (λg2=>[]) (λg2=>[(0,a8 pj m1)]) (λg2=>?_) (λhm ak=>?_) λhm ak=>?_
   ·refine aL λSR=>?_;refine aA h λm2 dw h=>gl (γ:=Unit) [0,1,2,3,4,5,6,7,8,9,10,11,13,14,15,16,24,34] (λg3=>[]) (λg3=>[(0,a8 SR m2)]) (λg3=>?_) (λhm ak=>?_) λhm ak=>?_
    ·refine aL ?_;refine aA h λm3 fE h=>gl (γ:=(aw Nat×Nat)) [0,1,2,3,4,5,6,8,9,10,11,13,14,15,16,24,34,40,41] (λg4=>[(7,J.eq (aO g4.1 m3.length g4.2))]) (λg4=>[(3,⟨g4.1,.row 156 m3 g4.2⟩)]) (λg4=>?_) (λhm ak=>?_) λhm ak=>?_
     ·refine aL ?_;cases h;exact hY (g4.1,g4.2) 3
     ·have h:=e1 ak fE;refine aL λbg ej z2 iD h=>?_;refine aA h λan bs h=>fF 3 underlying100 z6 CA bs λed dq=>?_;refine cO (ae.nil ?_);cases h;exact dM 0 (hm (ed,dq))
     have h:=e2 ak fE;refine aL ?_;refine aA h λm4 rn h=>gl (γ:=(aw Nat×Nat)) [0,1,2,3,4,5,6,8,9,10,11,13,14,15,16,24,34,40,41,56] (λg5=>[(7,J.eq (aO g5.1 m4.length g5.2))]) (λg5=>[(3,⟨g5.1,.row 156 m4 g5.2⟩)]) (λg5=>?_) (λhm ak=>?_) λhm ak=>?_
     ·cases h;exact dM 0 (hm (g5.1,g5.2))
     ·have h:=e1 ak rn;refine aA h λz3 sm h=>aA h λaF b5 h=>aA h λz4 uN h=>az.eM 13 ?_;refine aA h λbd dY h=>fF 3 underlying100 z6 CA dY λj0 ly=>?_;refine cO (ae.nil ?_);cases h;exact dM 0 (hm (j0,ly))
     have h:=e2 ak rn;refine aL ?_;refine aA h λm5 RL h=>gl (γ:=(aw Nat×Nat)) [0,1,2,3,4,5,6,8,9,10,11,13,14,15,16,24,34,40,41,56,72] (λg6=>[(7,J.eq (aO g6.1 m5.length g6.2))]) (λg6=>[(3,⟨g6.1,.row 156 m5 g6.2⟩)]) (λg6=>?_) (λhm ak=>?_) λhm ak=>?_
     ·cases h;exact dM 0 (hm (g6.1,g6.2))
     ·have h:=e1 ak RL;refine aL λz5 Ax e4 Ay h=>?_;refine aA h λbq eW h=>fF 3 underlying100 z6 CA eW λlz qB=>?_;refine cO (ae.nil ?_);cases h;exact dM 0 (hm (lz,qB))
     have h:=e2 ak RL;refine aL ?_;refine aA h λm6 RM h=>gl (γ:=(aw Nat×Nat)) [0,1,2,3,4,5,6,8,9,10,11,13,14,15,16,24,34,40,41,56,72,87] (λg7=>[(7,J.eq (aO g7.1 m6.length g7.2))]) (λg7=>[(3,⟨g7.1,.row 156 m6 g7.2⟩)]) (λg7=>?_) (λhm ak=>?_) λhm ak=>?_
     ·cases h;exact dM 0 (hm (g7.1,g7.2))
     ·have h:=e1 ak RM;refine aL λkS yd il Az h=>?_;refine aA h λbM fY h=>fF 3 underlying100 z6 CA fY λjH vW=>?_;refine cO (ae.nil ?_);cases h;exact dM 0 (hm (jH,vW))
     have h:=e2 ak RM;refine az.skip ?_;cases h;exact dM 0 (hm (g1.1,g1.2))
    ·have h:=e1 ak dw;exact go
    have h:=e2 ak dw;exact go
   ·have h:=e1 ak bW;exact go
   have h:=e2 ak bW;exact go
  cases h;exact ho (g1.1,g1.2) 0
 refine aL λdC nA z9 AA h=>?_;refine aA h λga rr h=>fF 0 underlying100 z6 CA rr λr9 Lh=>?_;refine cO (b7 (az.ret ?_));exact ar.jW (α:=gf) 0 [6,108] ⟨rfl,rfl,trivial⟩ I go
instance:gx prog 195 _ _ JJ J.of J.of:=.i func195 I ntmps195 I λab r h W A=>by
 unfold JJ at h;refine aL λbj bB an bs bX aF b5 ey h=>?_;refine aA h λau ao h=>fc (γ:=Unit) (δ:=Unit) ao [0,1,2,3,4] (λs1 g1=>[(5,J.of s1.1)]) (λs1 g1=>[(0,a8 ey s1.2)]) (λaq=>Exit.exit 0) (λaq g1=>[(5,J.of aq.1),(10,J.of aq.2.1)]) (λaq g1=>[(0,a8 ey aq.2.2)]) () (λs1 r h g1=>?_) λg1=>?_
 ·refine aL (λbd dY aJ cQ h=>?_);refine aA h λm1 bW h=>gl (γ:=Unit) [0,1,2,3,4,5,10,18] (λg2=>[]) (λg2=>[(0,a8 ey m1)]) (λg2=>?_) (λhm ak=>?_) λhm ak=>?_
  ·exact go
  ·have h:=e1 ak bW;refine aA h λbq eW h=>aA h λbM fY h=>az.eM 3 ?_;exact go
  have h:=e2 ak bW;exact go
 exact go
instance ZJ:ea prog 194 _ _ _ JQ J.of J.of J.of:=.i func194 I ntmps194 I λab aj r h W A=>by
 unfold JQ at h;refine aL λbj bB bX=>?_;refine aA h λan bs h=>aA h λaF b5 h=>az.eM 4 ?_;exact go
def aci{ab aG:aa aK}{aj:Int}{uE Yw:aw Nat}{gp Aa:Nat}{r:aa aK}(h:Ii ab aj aG=some r):bR prog 367 [J.eq (aO uE ab.length gp),J.of aj,J.eq (aO Yw aG.length Aa)] [⟨uE,.row 186 ab gp⟩,⟨Yw,.row 186 aG Aa⟩] (δ:=(aw Nat×Nat)) (λd=>J.eq (aO d.1 r.length d.2)) (λd=>[⟨d.1,.row 186 r d.2⟩]):=by
 unfold Ii at h;obtain⟨k,rfl,hk,ba,tp,ry,rfl⟩:=af5 h;refine bR.of func367 I ntmps367 I λW A=>az.seq (az.fk (ae.v (cV k2) I I I (ae.nil (ar.next (az.seq (az.fk (ae.v (c8 (ag I)) I I I (ae.v (c8 (ag I)) I I I (ae.v (vC (i:=0) (xs:=ab) underlying61 gB (ag I) I (.some (ag I)) .none I I ⟨hk,iu _⟩) I I I (ae.nil (ar.next (az.seq (az.fk (ae.v (c8 (ag I)) I I I (ae.v (oZ (i:=1) (xs:=aG) underlying61 (ag I) I I) I I I (ae.v (cV (ag I)) I I I (ae.nil (ar.next ?_))))))))))))))))));refine az.seq (az.seq (az.fk (ae.v (c8 (ag I)) I I I (ae.v (mh (ag I) (cH 0)) I I I (ae.nil (ar.next (az.cond (ag I) (λak=>?_) (λ_=>?_))))))))
 ·exfalso;simp only[oT]at ak;omega
 refine az.skip (ar.next (az.seq (az.fk (ae.v (c8 (ag I)) I I I (ae.v (oZ (i:=0) (xs:=ab) underlying61 (ag I) I I) I I I (ae.v (cV (ag I)) I I I (ae.nil (ar.next (az.seq (az.seq (az.fk (ae.v (c8 (ag I)) I I I (ae.v (c8 (ag I)) I I I (ae.v (mh (ag I) (ag I)) I I I (ae.nil (ar.next ?_))))))))))))))));refine az.cond (ag I) (λak=>?_) (λak=>?_)
 ·have jI:k=ab.length:=by simp only[oT]at ak;omega
  subst jI;refine az.seq (az.fk (ae.v (c8 (ag I)) I I I (ae.jW (α:=aK) 1 [2,13] ⟨rfl,rfl,trivial⟩ I (ae.v (c8 (ag I)) I I I (ae.app (i:=0) (xs:=ab) (ys:=aG) (r:=ab++aG) underlying61 gB qw (by kernel_rfl) (ag I) I (ag I) (by unfold eh;rw[br ⟨tp,ry⟩]) I λed dq=>?_)))));refine ae.v (cV (ag I)) I I I (ae.nil (ar.next (az.ret ?_)));have aD:ab.take ab.length++aG++ab.drop ab.length=ab++aG:=by simp
  rw[aD];repeat (apply ar.ret)
  exact ar.eI (ed,dq) (.cons_cons _ (sG _)) I I (dv I)
 have jI:k<ab.length:=by simp only[TU]at ak;omega
 refine az.skip (ar.next (az.some (i:=0) (xs:=ab) I (by omega) λp hp xX AJ=>?_));subst hp;refine az.some (i:=1) (xs:=aG) I (by omega) λq hq ar3 asc=>?_;subst hq;refine az.apart I λLY=>az.seq (az.seq (az.fk (ae.v (c8 (ag I)) I I I (ae.v (c8 (ag I)) I I I (ae.v (lr (ag I) (ag I)) I I I (ae.v (c8 (ag I)) I I I (ae.v (aiX underlying61 (ag I)) I I I (ae.v (F1 (ag I) (ag I)) I I I (ae.nil (ar.next ?_))))))))));have hw:bo ((ab.length:Int)+(aG.length:Int))=((ab.length+aG.length:Nat):Int):=by
  have tq:maxLen=9223372036854775807:=rfl;rw[jr (by omega) (by omega)];simp
 refine az.cond (ag I) (λeX=>?_) (λeX=>?_)
 ·have CE:gp<ab.length+aG.length:=by rw[hw]at eX;simp only[fM]at eX;omega
  have tq:maxLen=9223372036854775807:=rfl;have aC:bo (bo ((ab.length:Int)+(aG.length:Int))-(k:Int))=((ab.length+aG.length-k:Nat):Int):=by
   rw[hw,jr (by omega) (by omega)];omega
  refine az.seq (az.fk (ae.v (c8 (ag I)) I I I (ae.v (c8 (ag I)) I I I (ae.v (vC (i:=0) (xs:=ab) underlying61 gB (ag I) I .none (.some (ag I)) I I ⟨q7 _,hk⟩) I I I (ae.v (c8 (ag I)) I I I (ae.v (c8 (ag I)) I I I (ae.v (lr (ag I) (ag I)) I I I (ae.v (c8 (ag I)) I I I (ae.v (uD (ag I) (ag I)) I I I ?_)))))))));refine ae.ant (i:=0) (m:=k) (k:=ab.length+aG.length-k) (xs:=ab) (z:=(default:aK)) underlying61 underlying3 gB qw (by rfl) (by kernel_rfl) (ag I) (by rw[<-aC];exact ag I) I hk (by omega) (by omega) (by rw[show k+(ab.length+aG.length-k)=ab.length+aG.length by omega];exact tp) (by omega) I λaq dq=>?_;refine ae.v (cV (ag I)) I I I (ae.nil (ar.next ?_));have hlen:(ab.take k++List.replicate (ab.length+aG.length-k) (default:aK)).length=ab.length+aG.length:=by simp;omega
  refine az.some (i:=0) (xs:=ab.take k++List.replicate (ab.length+aG.length-k) (default:aK)) I (by omega) λcA qH ak1 asd=>?_;rw[hlen]at ak1;refine az.seq (az.fk (ae.v (c8 (ag I)) I I I (ae.v (c8 (ag I)) I I I (ae.v (vD (α:=aK) (m:=k) (h:=k+(ab.length+aG.length-k)) underlying61 gB (ag I) (.some (ag I)) .none I I ⟨by omega,by omega⟩) I I I ?_))));refine ae.v (c8 (ag I)) I I I (ae.Lb (i:=0) (p:=aq) (off:=k*ah.size aK) (dLen:=k+(ab.length+aG.length-k)-k) (dCap:=dq-k) (N:=aG.length) (vs:=aG) (T:=186) underlying61 gB (by rw[<-PE (by omega)];exact ag I) (WY (i:=2) (ag I) I ba) (oR (by omega)) I I (λA W o cells h cT=>Pf (by omega) h cT) ?_);refine ae.nil (ar.next ?_);have au:(ab.take k++List.replicate (ab.length+aG.length-k) (default:aK)).take k++aG++(ab.take k++List.replicate (ab.length+aG.length-k) (default:aK)).drop (k+aG.length)=ab.take k++aG++List.replicate (ab.length-k) (default:aK):=by
   have k9:(ab.take k).length=k:=by rw[fy];omega
   rw[List.take_left' k9,Nj,k9,Bm (by omega),List.nil_append,List.drop_replicate];congr 2;omega
  have yi:bo ((k:Int)+(aG.length:Int))=((k+aG.length:Nat):Int):=by rw[jr (by omega) (by omega)];simp
  refine az.seq (az.le (E':=[(0,J.eq (aO (some p) ab.length gp)),(1,J.of (k:Int)),(7,J.of (aG.length:Int)),(9,J.eq (aO (some aq) (k+(ab.length+aG.length-k)) dq))]) .all ?_);refine az.Mx mixed (aQ 46 [] [] (J.eq (aO (some aq) (k+(ab.length+aG.length-k)) dq))::aQ 47 [] [] (J.of (k:Int))::aQ 48 [] [] (J.of (aG.length:Int))::aQ 49 [1,2] [] (J.of (bo ((k:Int)+(aG.length:Int))))::aQ 50 [0,3] [] (J.eq (hE (some aq) (k+aG.length) ((k+(ab.length+aG.length-k))-(k+aG.length)) dq (ah.size aK)))::aQ 51 [] [] (J.eq (aO (some p) ab.length gp))::aQ 52 [] [] (J.of (k:Int))::aQ 53 [5,6] [] (J.eq (hE (some p) k (ab.length-k) gp (ah.size aK)))::⟨some 54,[4,7],[0,1],[0],λ_=>J.of ((((ab.drop k).take (ab.length-k)).length:Nat):Int),λ_ _=>⟨some aq,.row 186 ((ab.take k++aG++List.replicate (ab.length-k) (default:aK)).take (k+aG.length)++(ab.drop k).take (ab.length-k)++(ab.take k++aG++List.replicate (ab.length-k) (default:aK)).drop (k+aG.length+((ab.drop k).take (ab.length-k)).length)) dq⟩⟩::[]) [0,1,7,9] ⟨?_,?_,?_,?_,?_,?_,?_,?_,?_,trivial⟩ λhd=>?_
  ·exact j1 I I I λhd E' L' aM av=>c8 (ag (aM _ _ I))
  ·exact j1 I I I λhd E' L' aM av=>c8 (ag (aM _ _ I))
  ·exact j1 I I I λhd E' L' aM av=>c8 (ag (aM _ _ I))
  ·exact j1 I I I λhd E' L' aM av=>lr (ag (aM _ _ I)) (ag (aM _ _ I))
  ·exact j1 I I I λhd E' L' aM av=>vD (α:=aK) (m:=k+aG.length) (h:=(k+(ab.length+aG.length-k))) underlying61 gB (ag (aM _ _ I)) (.some (ag (aM _ _ I))) .none yi I ⟨by omega,by omega⟩
  ·exact j1 I I I λhd E' L' aM av=>c8 (ag (aM _ _ I))
  ·exact j1 I I I λhd E' L' aM av=>c8 (ag (aM _ _ I))
  ·exact j1 I I I λhd E' L' aM av=>vD (α:=aK) (m:=k) (h:=ab.length) underlying61 gB (ag (aM _ _ I)) (.some (ag (aM _ _ I))) .none I I ⟨by omega,by omega⟩
  ·intro hd E' L' aM av;have bu:=av 0 _ I I;rw[au]at bu;refine ae.Lb (i:=0) (p:=aq) (off:=(k+aG.length)*ah.size aK) (T:=186) (vs:=(ab.drop k).take (ab.length-k)) (N:=ab.length-k) (dLen:=(k+(ab.length+aG.length-k))-(k+aG.length)) (dCap:=dq-(k+aG.length)) underlying61 gB (by rw[<-PE (p:=aq) (lo:=k+aG.length) (cap:=dq) (size:=ah.size aK) (by omega)];exact ag (aM _ _ I)) (Kl (i:=1) (ag (aM _ _ I)) (av 1 _ I I) (by omega) (by omega)) (by rw[show((ab.drop k).take (ab.length-k)).length=ab.length-k by simp];exact oR (by omega)) bu I (λA W o cells h cT=>Pf (by simp;omega) h cT) ?_;exact ae.nil (ar.fin (fK []) I I)
  have aW:((ab.take k++aG++List.replicate (ab.length-k) (default:aK)).take (k+aG.length)++(ab.drop k).take (ab.length-k)++(ab.take k++aG++List.replicate (ab.length-k) (default:aK)).drop (k+aG.length+((ab.drop k).take (ab.length-k)).length))=ab.take k++aG++ab.drop k:=by
   have k9:(ab.take k++aG).length=k+aG.length:=by simp;omega
   have dJ:(ab.drop k).take (ab.length-k)=ab.drop k:=sF (by simp);have ih:(ab.take k++aG++List.replicate (ab.length-k) (default:aK)).drop (k+aG.length+(ab.drop k).length)=[]:=Bm (by rw[fh,k9,DZ,ku];omega);rw[dJ,List.take_left' k9,ih,ma]
  refine ar.eL (L2:=[⟨some aq,.row 186 ((ab.take k++aG++List.replicate (ab.length-k) (default:aK)).take (k+aG.length)++(ab.drop k).take (ab.length-k)++(ab.take k++aG++List.replicate (ab.length-k) (default:aK)).drop (k+aG.length+((ab.drop k).take (ab.length-k)).length)) dq⟩,⟨some p,.row 186 ab gp⟩,⟨some q,.row 186 aG Aa⟩]) I ?_;rw[aW];refine ar.le (E':=[(9,J.eq (aO (some aq) (k+(ab.length+aG.length-k)) dq))]) (.same I .nil) (ar.next (az.seq (az.fk (ae.v (c8 (ag I)) I I I (ae.v (cV (ag I)) I I I (ae.nil (ar.next (az.ret ?_))))))));have cF:k+(ab.length+aG.length-k)=(ab.take k++aG++ab.drop k).length:=by simp;omega
  rw[cF];repeat (apply ar.ret)
  exact ar.eI (some aq,dq) (.cons_cons _ (sG _)) I I (dv I)
 have CE:ab.length+aG.length<=gp:=by rw[hw]at eX;simp only[mC]at eX;omega
 have tq:maxLen=9223372036854775807:=rfl;have yi:bo ((k:Int)+(aG.length:Int))=((k+aG.length:Nat):Int):=by rw[jr (by omega) (by omega)];simp
 refine az.skip (ar.next (az.seq (az.fk (ae.v (c8 (ag I)) I I I (ae.v (c8 (ag I)) I I I (ae.v (c8 (ag I)) I I I (ae.v (lr (ag I) (ag I)) I I I (ae.v (vD (α:=aK) (m:=0) (h:=ab.length+aG.length) underlying61 gB (ag I) .none (.some (ag I)) I hw ⟨by omega,by omega⟩) I I I ?_))))))));refine ae.v (cV (ag I)) I I I (ae.nil (ar.next (az.seq (az.seq (az.fk (ae.v (c8 (ag I)) I I I (ae.v (c8 (ag I)) I I I (ae.v (c8 (ag I)) I I I (ae.v (c8 (ag I)) I I I (ae.v (lr (ag I) (ag I)) I I I (ae.v (vD (α:=aK) (p:=p) (n:=ab.length+aG.length) (cap:=gp) (m:=k+aG.length) (h:=ab.length+aG.length) underlying61 gB (KH (size:=ah.size aK) (ag I)) (.some (ag I)) .none yi I ⟨by omega,by omega⟩) I I I ?_)))))))))));refine ae.v (ak2 (α:=aK) (p:=p) (q:=q) (T:=186) (U:=186) (xs:=ab) (vs:=aG) (cap:=gp) (cap':=Aa) (i:=0) (j:=1) (tR:=4) (by kernel_rfl) func372 (by kernel_rfl) (by kernel_rfl) (by kernel_rfl) (by kernel_rfl) underlying61 gB (ag I) (P5 (p:=p) (lo:=k+aG.length) (cap:=gp) (size:=ah.size aK) (by omega) (ag I)) I I LY (by omega)) I I I ?_;refine ae.v (qv (ag I)) I I I (ae.nil (ar.next (az.cond (ag I) (λ_=>?_) (λjf=>by cases jf))));have jg:(ab.length+aG.length-0)=ab.length+aG.length:=by omega
 have aaU:(ab.drop k).take (ab.length-k)=ab.drop k:=sF (by simp);refine az.seq (az.le (E':=[(0,J.eq (hE (some p) 0 (ab.length+aG.length-0) gp (ah.size aK))),(1,J.of (k:Int)),(2,J.eq (aO (some q) aG.length Aa)),(7,J.of (aG.length:Int))]) .all ?_);refine az.Mx mixed (aQ 69 [] [] (J.eq (hE (some p) 0 (ab.length+aG.length-0) gp (ah.size aK)))::aQ 70 [] [] (J.of (k:Int))::aQ 71 [] [] (J.of (aG.length:Int))::aQ 72 [1,2] [] (J.of (bo ((k:Int)+(aG.length:Int))))::aQ 73 [0,3] [] (J.eq (hE (some p) (k+aG.length) (ab.length+aG.length-(k+aG.length)) gp (ah.size aK)))::aQ 74 [] [] (J.eq (hE (some p) 0 (ab.length+aG.length-0) gp (ah.size aK)))::aQ 75 [] [] (J.of (k:Int))::aQ 76 [5,6] [] (J.eq (hE (some p) k (ab.length+aG.length-k) gp (ah.size aK)))::⟨some 77,[4,7],[0],[0],λ_=>J.of ((((ab.drop k).take (ab.length-k)).length:Nat):Int),λ_ _=>⟨some p,.GU 186 ab k aG.length gp⟩⟩::[]) [0,1,2,7] ⟨?_,?_,?_,?_,?_,?_,?_,?_,?_,trivial⟩ λhd=>?_
 ·exact j1 I I I λhd E' L' aM av=>c8 (ag (aM _ _ I))
 ·exact j1 I I I λhd E' L' aM av=>c8 (ag (aM _ _ I))
 ·exact j1 I I I λhd E' L' aM av=>c8 (ag (aM _ _ I))
 ·exact j1 I I I λhd E' L' aM av=>lr (ag (aM _ _ I)) (ag (aM _ _ I))
 ·exact j1 I I I λhd E' L' aM av=>vD (α:=aK) (n:=ab.length+aG.length) (m:=k+aG.length) (h:=ab.length+aG.length) underlying61 gB (KH (size:=ah.size aK) (ag (aM _ _ I))) (.some (ag (aM _ _ I))) .none yi I ⟨by omega,by omega⟩
 ·exact j1 I I I λhd E' L' aM av=>c8 (ag (aM _ _ I))
 ·exact j1 I I I λhd E' L' aM av=>c8 (ag (aM _ _ I))
 ·exact j1 I I I λhd E' L' aM av=>vD (α:=aK) (n:=ab.length+aG.length) (m:=k) (h:=ab.length+aG.length) underlying61 gB (KH (size:=ah.size aK) (ag (aM _ _ I))) (.some (ag (aM _ _ I))) .none I I ⟨by omega,by omega⟩
 ·intro hd E' L' aM av;have bu:=av 0 _ I I;refine ae.Lb (i:=0) (p:=p) (off:=(k+aG.length)*ah.size aK) (T:=186) (vs:=(ab.drop k).take (ab.length-k)) (N:=ab.length+aG.length-k) (dLen:=ab.length+aG.length-(k+aG.length)) (dCap:=gp-(k+aG.length)) (cp':=.GU 186 ab k aG.length gp) underlying61 gB (P5 (p:=p) (lo:=k+aG.length) (cap:=gp) (size:=ah.size aK) (by omega) (ag (aM _ _ I))) (Kl (i:=0) (ag (aM _ _ I)) bu (by omega) (by omega)) (by rw[aaU];rw[show(ab.drop k).length=ab.length+aG.length-(k+aG.length) by simp;omega];exact Nk (by omega)) bu I (λA W o cells h cT=>ahN hk CE h (by rw[<-aaU];exact cT)) ?_;exact ae.nil (ar.fin (fK []) I I)
 refine ar.eL (L2:=[⟨some p,.GU 186 ab k aG.length gp⟩,⟨some q,.row 186 aG Aa⟩]) I (ar.le (E':=[(0,J.eq (hE (some p) 0 (ab.length+aG.length-0) gp (ah.size aK))),(1,J.of (k:Int)),(2,J.eq (aO (some q) aG.length Aa))]) .all (ar.next (az.seq (az.fk (ae.v (c8 (ag I)) I I I (ae.v (c8 (ag I)) I I I ?_))))));refine ae.v (vD (α:=aK) (n:=ab.length+aG.length) (m:=k) (h:=ab.length+aG.length) underlying61 gB (KH (size:=ah.size aK) (ag I)) (.some (ag I)) .none I I ⟨by omega,by omega⟩) I I I ?_;refine ae.v (c8 (ag I)) I I I (ae.Lb (i:=0) (p:=p) (off:=k*ah.size aK) (dLen:=ab.length+aG.length-k) (dCap:=gp-k) (N:=aG.length) (vs:=aG) (T:=186) (cp':=.row 186 (ab.take k++aG++ab.drop k) gp) underlying61 gB (P5 (p:=p) (lo:=k) (cap:=gp) (size:=ah.size aK) (by omega) (ag I)) (WY (i:=1) (ag I) I ba) (oR (by omega)) I I (λA W o cells h cT=>agT hk h cT) ?_);refine ae.nil (ar.next (az.seq (az.fk (ae.v (c8 (ag I)) I I I (ae.v (cV (ag I)) I I I (ae.nil (ar.next (az.ret ?_))))))));have cF:ab.length+aG.length-0=(ab.take k++aG++ab.drop k).length:=by simp;omega
 rw[zy,cF];repeat (apply ar.ret)
 exact ar.eI (some p,gp) (.cons_cons _ (sG _)) I I (dv I)
instance:ea prog 77 _ _ _ Oo J.of J.of J.of:=.i func77 I ntmps77 I λab aj r h W A=>by
 unfold Oo at h;refine b6 (ny λbj=>?_);refine ny λbB=>?_;refine cO (fD ?_);refine n2 1 kL ?_;refine db (cg Cq.fd) ?_;refine nz 0 ud b8 ?_;refine aA h λan bs h=>lD aaK.cf (aaK.m _ _ _ bs) ?_;refine cO (ht (b6 ?_));refine cJ ?_;refine ef o3 (b7 ?_);refine mq h (λh=>?_) λh=>?_
 ·refine b6 (cO (b7 (az.ret (ar.ret ?_))));cases h;exact pd
 refine k8 (az.seq (aA h λaJ cQ h=>aA h λbE dJ h=>aA h λaF b5 h=>aA h λbd dY h=>gU [0,1,2,3,4,5,8,9,10,11,12,13] ?_));refine az.SS mixed (aQ 15 [] [] _::aQ 16 [0] [1] _::aQ 17 [] [] _::aQ 18 [1,2] [] _::aQ 19 [3] [] _::aQ 20 [4] [] _::aQ 21 [] [] _::aQ 22 [6] [1] _::aQ 23 [] [] _::aQ 24 [7,8] [] _::aQ 25 [9] [] _::aQ 26 [10] [] _::aQ 27 [5,11] [] _::aQ 14 [12] [] _::aQ 28 [13] [] _::aQ 29 [13] [] _::aQ 6 [14] [] _::aQ 7 [15] [] _::[]) ⟨qU (cg rW.fd),GV 1 pt o7,oc,im λaM av=>mM (k:=aJ) underlying27 ke (ag (aM _ _ I)) (ag (aM _ _ I)) (cU cQ),im λaM av=>vR D2 KE.fd (ag (aM _ _ I)) I I,qU (jE j4),qU (cg rW.fd),GV 1 pt o7,oc,im λaM av=>mM (k:=bE) underlying27 ke (ag (aM _ _ I)) (ag (aM _ _ I)) (cU dJ),qU (jE ke),im λaM av=>ib Zy.cf (Zy.m _ _ b5) ⟨ag (aM _ _ I),trivial⟩,im λaM av=>ib Lp.cf (Lp.m _ _ _ dY) ⟨ag (aM _ _ I),ag (aM _ _ I),trivial⟩,oc,im λaM av=>CF (ag (aM _ _ I)) I,im λaM av=>CF (ag (aM _ _ I)) I,im λaM av=>cV (ag (aM _ _ I)),im λaM av=>cV (ag (aM _ _ I)),trivial⟩ λek=>?_;refine ar.eL (L2:=[a8 bB aj,a8 bj ab]) I (je (ar.next (az.seq (az.seq ?_))));refine aA h λcP ih h=>aA h λbq eW h=>aA h λbM fY h=>az.lk mixed 15 (rg 30 15) [[],[0],[1],[2],[2],[2],[2,5],[2],[2,6,7],[2,8],[2],[2,4,9,10],[2,3,11],[2,12],[2,13]] [_,_,_,_,_,_,_,_,_,_,_,_,_,_,_] ⟨fP,mZ Qt,fP,cW λL' av=>λhb=>c8 (ag I),cW λL' av=>λhb=>gA (i:=1) (aN.id aS) (r:=ab) kL (ag I) (av _ _ I I) I I,cW λL' av=>λhb=>cg rW.fd (ag I),cW λL' av=>λhb=>gA (i:=1) ((aN.id aS).comp pt) (r:=ab.bH) o7 (b1 I hb) (av _ _ I I) I I,cW λL' av=>λhb=>c8 (ag I),cW λL' av=>λhb=>mM (k:=cP) underlying27 ke (b1 I hb) (b1 I hb) (cU (fz ih hb)),cW λL' av=>λhb=>jE ke (b1 I hb),cW λL' av=>λhb=>gA (i:=0) (aN.id bp) (r:=aj) pL (ag I) (av _ _ I I) I I,cW λL' av=>λhb=>ib ak3 (afn (fz eW hb)) ⟨b1 I hb,b1 I hb,b1 I hb,trivial⟩,cW λL' av=>λhb=>ib Yx (U9 (fz fY hb)) ⟨b1 I hb,b1 I hb,trivial⟩,cW λL' av=>λhb=>qv (b1 I hb),gC λav=>CU (ag I) (ag I) (λh=>h),trivial⟩ (b7 ?_);refine mq h (λh=>?_) λh=>?_
 ·refine b6 (cO (b7 (az.ret (ar.ret ?_))));cases h;exact pd
 refine k8 (az.seq (b6 (db (cg zQ.fd) ?_)));refine nz 0 ub b8 ?_;refine ef mh (b7 ?_);refine mq h (λh=>?_) λh=>?_
 ·refine b6 (cO (b7 (az.ret (ar.ret ?_))));cases h;exact pd
 refine k8 (b6 (n2 1 kL ?_));refine db (cg zQ.fd) ?_;refine nz 0 ub b8 ?_;refine aA h λcG hr h=>lD Zx.cf (Zx.m _ _ _ hr) ?_;refine cO (ht (b6 ?_));refine cJ ?_;refine ef o3 (b7 ?_);refine mq h (λh=>?_) λh=>?_
 ·refine b6 (cO (b7 (az.ret (ar.ret ?_))));cases h;exact pd
 refine k8 (az.seq (aA h λfm mo h=>aA h λoF LQ h=>aA h λdF j3 h=>aA h λdC nA h=>gU [0,1,2,3,4,5,8,9,10,11,12,13,14,15,16,17,18,19,20,21,22,23,24,25,26,27,28,29,30,31,32,33,34,35,36,37,38,39,40,41,42,43,44,45,46,47,48,49,50,51,52,53] ?_));refine az.SS mixed (aQ 55 [] [] _::aQ 56 [0] [1] _::aQ 57 [] [] _::aQ 58 [1,2] [] _::aQ 59 [3] [] _::aQ 60 [4] [] _::aQ 61 [] [] _::aQ 62 [6] [1] _::aQ 63 [] [] _::aQ 64 [7,8] [] _::aQ 65 [9] [] _::aQ 66 [10] [] _::aQ 67 [5,11] [] _::aQ 54 [12] [] _::aQ 68 [13] [] _::aQ 69 [13] [] _::aQ 6 [14] [] _::aQ 7 [15] [] _::[]) ⟨qU (cg zM.fd),GV 1 w5 xU,oc,im λaM av=>mM (k:=fm) underlying26 qu (ag (aM _ _ I)) (ag (aM _ _ I)) (cU mo),im λaM av=>vR DY Ki.fd (ag (aM _ _ I)) I I,qU (jE j4),qU (cg zM.fd),GV 1 w5 xU,oc,im λaM av=>mM (k:=oF) underlying26 qu (ag (aM _ _ I)) (ag (aM _ _ I)) (cU LQ),qU (jE qu),im λaM av=>ib Zw.cf (Zw.m _ _ j3) ⟨ag (aM _ _ I),trivial⟩,im λaM av=>ib Lp.cf (Lp.m _ _ _ nA) ⟨ag (aM _ _ I),ag (aM _ _ I),trivial⟩,oc,im λaM av=>CF (ag (aM _ _ I)) I,im λaM av=>CF (ag (aM _ _ I)) I,im λaM av=>cV (ag (aM _ _ I)),im λaM av=>cV (ag (aM _ _ I)),trivial⟩ λj5=>?_;refine ar.eL (L2:=[a8 bB aj,a8 bj ab]) I (je (ar.next (az.seq ?_)));refine aA h λlL pR h=>aA h λga rr h=>aA h λhh vY h=>az.lk mixed 14 (rg 70 14) [[],[0],[1],[2],[2],[2,4],[2],[2,5,6],[2,7],[2],[2,9],[2,8,10],[2,3,11],[2,12]] [_,_,_,_,_,_,_,_,_,_,_,_,_,_] ⟨fP,mZ mh,fP,cW λL' av=>λhb=>c8 (ag I),cW λL' av=>λhb=>cg zM.fd (ag I),cW λL' av=>λhb=>gA (i:=1) ((aN.id aS).comp w5) (r:=ab.dg) xU (b1 I hb) (av _ _ I I) I I,cW λL' av=>λhb=>c8 (ag I),cW λL' av=>λhb=>mM (k:=lL) underlying26 qu (b1 I hb) (b1 I hb) (cU (fz pR hb)),cW λL' av=>λhb=>jE qu (b1 I hb),cW λL' av=>λhb=>cg Cp.fd (ag I),cW λL' av=>λhb=>gA (i:=0) ((aN.id bp).comp xc) (r:=aj.gu) Ao (b1 I hb) (av _ _ I I) I I,cW λL' av=>λhb=>ib ak4 (aeX (fz rr hb)) ⟨b1 I hb,b1 I hb,trivial⟩,cW λL' av=>λhb=>ib Yx (U9 (fz vY hb)) ⟨b1 I hb,b1 I hb,trivial⟩,gC λav=>xN (ag I) (ag I) (λh=>h),trivial⟩ ?_;refine cO (b7 (az.ret ?_));cases h;exact pd
def UU{hp ab aj aG r}(h:BR hp ab aj aG=some r):iG prog 341 [J.of ab,J.of aj,J.of aG] hp (J.of r) hp:=by
 unfold BR at h;refine bR.ofM func341 I ntmps341 I λW A=>aL λbj bB=>?_;refine aA h λan bs h=>ae.hA (fa.iA 2 I Yy (UN bs) ⟨ag I,ag I,ag I,trivial⟩) I I I (db qv (b7 ?_));refine mq h (λh=>?_) λh=>?_
 ·refine b6 (ae.store (i:=0) (aN.id Ref) (v:=(none:Ref)) (b':=(none:Ref)) jY (ag I) ou I I I (b7 (az.ret (ar.ret ?_))));cases h;exact ar.CV (ar.eI () (eV 2) I I (lV (i:=0) jY I I))
 refine aL λbz dd c1 dj bX h=>?_;refine aA h λaF b5 h=>lD QB (N6 b5) (b7 (az.block ?_));refine aA h λau ao h=>VL (hp:=hp) (γ:=Unit) (g0:=()) (Ls:=λs1 g1=>(a8 bX s1::a8 bB (default:Ref)::a8 bj aj::a6 hp)) (Lx:=λaq g1=>(a8 bX aq.1::a8 bB aq.2::a8 bj aj::a6 hp)) (λs1 g1=>[a8 bX s1,a8 bB (default:Ref),a8 bj aj]) (λaq=>.ret) I QC I Uw ao (λ_ _=>rfl) I I (λDh s1 r h g1 qI qW qJ l D rec GW=>?_) (λs1 aD g1 D=>?_) (λaq aD g1 D=>?_)
 ·refine az.fk (cO (ae.nil ?_));refine ar.begin 0 I GW (az.block (az.seq (b6 ?_)));refine n2 2 jY ?_;refine bk (Cg underlying450 (ag I)) (b7 ?_);refine mq h (λh=>?_) λh=>?_
  ·refine b6 (ae.store (i:=3) (aN.id Ref) (v:=(none:Ref)) (b':=(none:Ref)) jY (ag I) ou I I I ?_);refine aL ?_;cases h;exact ar.aiY () 0 I I I
  refine aL λcc eS aJ cQ c2 eX h=>?_;cases h;exact ar.aaV () 0 I
 ·clear ao;subst aD;simp only[Sum.elim_inl]at h;refine ar.dh ?_;refine aL ?_;cases h;refine ar.Lu 0 I I ?_;exact ar.eI () (eV 4) I I (lV (i:=2) jY I I)
 clear ao;subst aD;simp only[Sum.elim_inr]at h;refine az.ret (ar.dh ?_);refine ar.te (ar.ret ?_);cases h;refine ar.Lu 0 I I ?_;exact ar.eI () (eV 4) I I (lV (i:=2) jY I I)
def acU{ab c3 iM iN r}(h:Em ab=some r):bR prog 358 [J.df c3] [⟨some c3,.cq ({ab with da:=[]}:ep) [(10,aO iM ab.da.length iN)]⟩,⟨iM,.row 186 ab.da iN⟩] (δ:=Unit) (λd=>J.of r) (λd=>[⟨some c3,.cq ({ab with da:=[]}:ep) [(10,aO iM ab.da.length iN)]⟩,⟨iM,.row 186 ab.da iN⟩]):=by
 unfold Em at h;refine bR.of func358 I ntmps358 I λW A=>b6 (bk (cV (look_nil (α:=aK))) ?_);refine aL ?_;refine bk (KC underlying171 (ag I)) (b7 ?_);refine az.vO (ag I) I (aL ?_);refine bk (gN (i:=0) (q:=0) (β:=ep) (γ:=aK) xY (ag I) I I) ?_;refine aA h λan bs h=>ae.hA (fa.call [1] ak5 (afb bs) ⟨ag I,trivial⟩ I ⟨rfl,trivial⟩ I) I I I (cO (b7 (az.ret ?_)));refine ar.b4 1 I (ar.b4 1 I ?_);cases h;exact tk ()
instance:nL prog 371 _ _ _ _ B4 J.of J.of J.of J.of:=.i func371 I ntmps371 I λab aj aG r h W A=>by
 unfold B4 at h;refine aL λbj bB bX=>?_;refine aA h λan bs h=>aA h λaF b5 h=>aA h λbd dY h=>aA h λbq eW h=>aA h λbM fY h=>aA h λcG hr h=>az.eM 24 ?_;exact go
def aeZ{hp ab r}(h:BV hp ab=some r):iG prog 339 [J.of ab] hp (J.of r) hp:=by
 unfold BV at h;refine bR.of func339 I ntmps339 I λW A=>?_;refine aL ?_;exact aA h λan bs h=>ae.hA (fa.iA 0 I ak6 (aeY bs) ⟨ag I,trivial⟩) I I I go
def NW{hp ab aj r}(h:E6 hp ab aj=some r):iG prog 83 [J.of ab,J.of aj] hp (J.bY []) r:=by
 unfold E6 at h;refine bR.of func83 I ntmps83 I λW A=>?_;refine aL λbj=>?_;refine aA h λan bs h=>ae.dV 1 0 I Yz (UK bs) I I ⟨ag I,ag I,cH 1,trivial⟩ I λaq=>ae.dh (ae.nil ?_);exact ar.lv go
def Nu{hp ab aj r}(h:EH hp ab aj=some r):iG prog 86 [J.of ab,J.of aj] hp (J.bY []) r:=by
 unfold EH at h;refine bR.of func86 I ntmps86 I λW A=>?_;refine aL λbj=>?_;refine aA h λan bs h=>ae.dV 1 0 I Yz (UK bs) I I ⟨ag I,ag I,cH (-1),trivial⟩ I λaq=>ae.dh (ae.nil ?_);exact ar.lv go
def acV{hp ab Q}(h:IG hp ab Q):lJ prog 44 [J.of ab] hp Q:=by
 unfold IG at h;refine bR.of func44 I ntmps44 I λW A=>b6 (bk (cV (look_nil (α:=cz))) (fD ?_));refine ae.own (α:=cz) 200 (bk (cV k2) ?_);refine aL ?_;refine ae.dV 1 0 I anu (aeK h) I I ⟨ag I,trivial⟩ I λ⟨⟨an,h⟩,aq⟩=>ae.dh ?_;refine aL ?_;refine ai.bA h λau ao h=>wi (σ:=Int×(aa cz)) (ε:=(Int×Bool×(aa cz))) (γ:=(aw Nat×Nat)) (δ:=(aw Nat×Nat)) ao 1 [0,2,7,8] (λs1 g1=>[(3,J.eq (aO g1.1 s1.2.length g1.2)),(9,J.of s1.1)]) (λs1 g1=>[(0,⟨g1.1,.row 200 s1.2 g1.2⟩)]) (λs1 g1=>a6 an.2) (λcA=>Exit.exit 0) (λcA g1=>[(3,J.eq (aO g1.1 cA.2.2.length g1.2)),(9,J.of cA.1),(10,J.of cA.2.1)]) (λcA g1=>[(0,⟨g1.1,.row 200 cA.2.2 g1.2⟩)]) (λcA g1=>a6 an.2) (none,0) (λs1 r h g1=>?_) (λg1=>?_)
 ·refine go2 (λaJ cQ bj bg ej h=>?_) (λh=>?_)
  ·refine aA h λm1 bW h=>ye (γ:=(aw Nat×Nat)) 2 [0,2,5,7,8,9,10,20] (λg2=>[(3,J.eq (aO g2.1 m1.length g2.2))]) (λg2=>[(1,⟨g2.1,.row 200 m1 g2.2⟩)]) (λg2=>a6 an.2) (λg2=>?_) (λhm ak=>?_) (λhm ak=>?_)
   ·refine aL ?_;cases h;exact hY (g2.1,g2.2) 1
   ·have h:=e1 ak bW;refine aL ?_;refine aA h λaF b5 h=>fF 1 underlying93 CC K8 b5 λed dq=>?_;refine cO (ae.nil ?_);cases h;exact dM 0 (hm (ed,dq))
   have h:=e2 ak bW;refine az.skip ?_;cases h;exact dM 0 (hm (g1.1,g1.2))
  cases h;exact ho (g1.1,g1.2) 0
 refine aL ?_;exact ar.jW (α:=cz) 0 [2,3,27] ⟨rfl,rfl,rfl,trivial⟩ I (ar.eI (⟨⟨(au.2.2,an.2),h⟩,()⟩: {r // _}×_) (eV 1) I I (dv I))
def adj{ab aj r}(h:IN ab aj=some r):cm prog 140 [J.of ab,J.of aj] (J.of r):=by
 unfold IN at h;refine cm.of func140 I ntmps140 I λW A=>?_;exact go
def aeT(n:Nat):∀(ab:aa jC) (aj:Int) (aG:aa gf) (r:jT),vr n ab aj aG=some r->cm prog 151 [J.of ab,J.of aj,J.of aG] (J.of r):=by
 induction n with
 |zero=>intro ab aj aG r h;simp[vr]at h
 | succ n bJ=>
   intro ab aj aG r h
   simp only[vr]at h
   refine cm.of func151 I ntmps151 I λW A=>?_
   refine aaW (λbj aJ cQ bB h=>?_) (λbj aJ cQ bB h=>?_) (λbj aJ cQ bB h=>?_) (λbj aJ cQ bB h=>?_)
   ·refine aA h λaF b5 h=>lD F6 (bJ _ _ _ _ b5) ?_
    exact go
   ·refine aA h λbq eW h=>aA h λbM fY h=>aA h λcG hr h=>az.lk mixed 11 (rg 31 11) [[],[],[1],[],[0,2,3],[],[],[6],[],[5,7,8],[4,9]] [_,_,_,_,_,_,_,_,_,_,_] ⟨fP,H1 (cg PF.fd),ki 0 Jp b8,fP,n4 F6 (bJ _ _ _ _ eW),fP,H1 (cg PG.fd),ki 0 Jq b8,fP,n4 F6 (bJ _ _ _ _ fY),n4 ZH.cf (ZH.m _ _ _ hr),trivial⟩ ?_
    exact go
   ·refine aA h λdF j3 h=>aA h λdC nA h=>aA h λga rr h=>az.lk mixed 11 (rg 44 11) [[],[],[1],[],[0,2,3],[],[],[6],[],[5,7,8],[4,9]] [_,_,_,_,_,_,_,_,_,_,_] ⟨fP,H1 (cg PF.fd),ki 0 Jp b8,fP,n4 F6 (bJ _ _ _ _ j3),fP,H1 (cg PG.fd),ki 0 Jq b8,fP,n4 F6 (bJ _ _ _ _ nA),n4 ZJ.cf (ZJ.m _ _ _ rr),trivial⟩ ?_
    exact go
   refine aA h λau ao h=>fc (γ:=Unit) (δ:=Unit) ao [0,1,2,6,7,15,16,21,29,42,55,56] (λs1 g1=>[(57,J.of s1)]) (λs1 g1=>[]) (λaq=>Sum.elim (λaq=>Exit.exit 1) (λaq=>Exit.ret) aq) (λaq g1=>Sum.elim (λaq=>[(57,J.of aq.1),(58,J.of aq.2)]) (λaq=>[(57,J.of aq.1),(58,J.of aq.2.1),(72,J.of aq.2.2.1)]) aq) (λaq g1=>Sum.elim (λaq=>[]) (λaq=>[(1,a8 bj aq.2.2.2)]) aq) () (λs1 r h g1=>?_) λg1=>?_
   ·refine aL (λbE dJ bX h=>?_)
    refine bk (z7 underlying9 (ag I) (ag I)) ?_
    refine aL ?_
    refine jM (λhb=>z7 underlying9 (b1 I hb) (b1 I hb)) ?_
    exact go
   rcases au with au|au
   ·simp only[Sum.elim_inl]at h
    exact go
   simp only[Sum.elim_inr]at h
   exact go
def ae0{ab aj aG r}(h:JB ab aj aG=some r):cm prog 151 [J.of ab,J.of aj,J.of aG] (J.of r):=aeT c9 ab aj aG r h
instance:nL prog 151 _ _ _ _ JB J.of J.of J.of J.of:=
 ⟨⟨_,func151,rfl,by kernel_rfl⟩,λ_ _ _ _ h=>ae0 h⟩
instance:ea prog 150 _ _ _ Oe J.of J.of J.of:=.i func150 I ntmps150 I λab aj r h W A=>by
 unfold Oe at h;exact go
def aep{ab aj r}(h:Ji ab aj=some r):cm prog 68 [J.ptr ab,J.ptr aj] (J.of r):=by
 unfold Ji at h;refine cm.of func68 I ntmps68 I λW A=>?_;exact go
def aeq{ab aj r}(h:Jj ab aj=some r):cm prog 76 [J.ptr ab,J.ptr aj] (J.of r):=by
 unfold Jj at h;refine cm.of func76 I ntmps76 I λW A=>?_;exact go
def UY{hp ab aj aG r}(h:zk hp ab aj aG=some r):iG prog 335 [J.of ab,J.of aj,J.of aG] hp (J.bY [J.of r.1,J.of r.2]) hp:=by
 unfold zk at h;refine bR.of func335 I ntmps335 I λW A=>?_;refine aL λbj=>?_;exact aA h λan bs h=>ae.hA (fa.iA 1 I YA (UU bs) ⟨ag I,ag I,ag I,trivial⟩) I I I go
def adS{hp ab aj r}(h:EW hp ab aj=some r):iG prog 354 [J.of ab,J.of aj] hp (J.bY [J.of r.1,J.of r.2]) hp:=by
 unfold EW at h;refine bR.of func354 I ntmps354 I λW A=>?_;refine aL λbj bB=>?_;refine aA h λbz dd h=>aA h λc1 dj h=>aA h λan bs h=>ae.hA (fa.obj 2 I (zP dj) ak7 (acU bs) I ⟨jq (ag I) dd,trivial⟩) I I I ?_;refine aL ?_;refine aA h λau ao h=>wi (σ:=Int) (ε:=(Int×Bool)⊕(Int×Bool×Int×Bool×Bool)) (γ:=Unit) (δ:=Unit) ao 2 [0,1,2,3,10,11] (λs1 g1=>[(4,J.of (0:Int)),(5,J.of false),(12,J.of s1)]) (λs1 g1=>[]) (λs1 g1=>a6 hp) (λaq=>Sum.elim (λaq=>Exit.exit 0) (λaq=>Exit.ret) aq) (λaq g1=>Sum.elim (λaq=>[(4,J.of (0:Int)),(5,J.of false),(12,J.of aq.1),(13,J.of aq.2)]) (λaq=>[(4,J.of aq.1),(5,J.of aq.2.1),(12,J.of aq.2.2.1),(13,J.of aq.2.2.2.1),(19,J.of aq.2.2.2.2)]) aq) (λaq g1=>[]) (λaq g1=>Sum.elim (λaq=>a6 hp) (λaq=>a6 hp) aq) () (λs1 r h g1=>?_) (λg1=>?_)
 ·exact go
 rcases au with au|au
 ·simp only[Sum.elim_inl]at h;exact go
 simp only[Sum.elim_inr]at h;exact go
def ae1{hp ab aj aG cx Q}(h:BW hp ab aj aG cx Q):lJ prog 337 [J.of ab,J.of aj,J.of aG,J.of cx] hp Q:=by
 unfold BW at h;refine bR.ofM func337 I ntmps337 I λW A=>aL λbj=>?_;refine ai.bA h λan bs h=>ae.hA (fa.iA 1 I Yy (UN bs) ⟨ag I,ag I,ag I,trivial⟩) I I I (go2 (λh=>?_) (λh=>?_))
 ·exact ar.CV (ar.eI (⟨⟨(false,hp),h⟩,()⟩: {r // _}×_) (eV 1) I I (dv I))
 refine ai.bA h λaF b5 h=>ae.hA (fa.iA 1 I YA (UU b5) ⟨ag I,ag I,ag I,trivial⟩) I I I (go2 (λbz dd c1 dj h=>?_) (λbz dd c1 dj cc eS c2 eX h=>?_))
 ·exact ar.CV (ar.eI (⟨⟨(false,hp),h⟩,()⟩: {r // _}×_) (eV 1) I I (dv I))
 refine Dd (γ:=Unit) h 1 [0,1,2,3,5,8,9,16,28,33] (λm1 g1=>[]) (λm1 g1=>[]) (λm1 g1=>a6 m1) (λm1 g1 h=>?_) (λhm ak h=>?_) (λhm ak h=>?_)
 ·refine aL λet jf bB h=>?_;refine ai.bA h λbd dY h=>lD QB (N6 dY) (b7 (az.block ?_));refine af6 (σ:=Ref×(aH Cell)) (ε:=Empty) (γ:=Unit) (g0:=()) (Ls:=λs2 g3=>(a8 bB s2.1::a8 bj aj::a6 s2.2)) (Lx:=λcA g3=>Empty.elim cA) (hq:=λs2=>s2.2) (λs2 g3=>[a8 bB s2.1,a8 bj aj]) (λcA=>Empty.elim cA) I QC I adw h (λ_ _=>rfl) I I (λLZ s2 R h g3 qI qW qJ l D rec GW=>?_) (λs2 h g3 D=>?_) (λcA h g3 D=>?_)
  ·refine az.fk (cO (ae.nil ?_));refine ar.begin 0 I GW ?_;refine aL λgW rv aJ cQ hB sn h=>?_;refine Dd (γ:=Unit) h 4 [0,1,2,3,5,8,9,10,11,16,28,33,46,47,54] (λm2 g4=>[]) (λm2 g4=>[]) (λm2 g4=>a6 m2) (λm2 g4 h=>?_) (λhm ak h=>?_) (λhm ak h=>?_)
   ·refine aL λbE dJ jk uR h=>?_;exact ar.anv h () 0 I
   ·refine az.fk (n2 2 jY ?_);refine cJ ?_;refine rm YB YC (default:eG) .nil ?_;refine ae.xT 4 I (Cell.gP (default:eG)) (λ_=>rfl) (ag I) I λbS pP=>?_;replace h:=ai.pz h bS pP;refine aL λcP ih h=>?_;exact ai.bA h λjw uS h=>ai.bA h λbL gv h=>ae.pD (k':=Cell.gP ({jw with du:=dS jw.du cP (some bS.1:Ref)}:eG)) 4 I (((aN.id eG).comp Bv).comp (aN.idx (α:=Ref) 2 cP (cU ih).1)) (v:=(some bS.1:Ref)) jY (ag I) (ag I) (re uS) I I I I (cZ gv) (ae.nil (dM 0 (hm bL () h)))
   exact az.skip (dM 0 (hm s2.2 () h))
  ·simp only[Sum.elim_inl]at h;refine ar.dh ?_;refine ar.ri (ar.next (az.seq (ai.bA h λwM aaS h=>ai.bA h λDE aaX h=>ai.bA h λcN Ak h=>gU [3,8,10] ?_)));refine az.AH mixed [5,6] [(0,68,J.of s2.1),(1,69,J.of s2.1),(2,70,J.of cx),(3,71,J.df wM),(4,72,J.my wM EU)] ?_;refine gI.md [] [0,1,2,3,4] [5] ⟨?_,trivial⟩;refine h2.of (ks:=[]) (λx:Unit=>[]) (λx=>[]) (λx=>(⟨some D,.fO⟩::a8 bB s2.1::a8 bj aj::a6 cN)) (λ_=>?_) (λo aU ef iR aM k=>?_)
   ·refine gI.md [4,3,0] [1,2] [6] ⟨h2.tail [5,4,3,2,1,0] ?_,trivial⟩;refine ae.eL (L2:=(⟨some D,.fO⟩::a8 bB s2.1::a8 bj aj::a6 cN)) I (ae.le (E':=[(3,J.of cx),(8,J.of false),(10,J.df bB),(69,J.of s2.1),(70,J.of cx)]) .all ?_);refine aL λSU asr h=>?_;refine ai.bA h λDF aaY h=>ai.bA h λhG Gh h=>ae.pD (k':=Cell.gP ({DF with kB:=cx}:eG)) 3 I ((aN.id eG).comp Jo) (v:=cx) b8 (ag I) (ag I) (re aaY) I I I I (cZ Gh) (aL ?_);refine ar.Lu 0 I I ?_;exact ar.eI (⟨⟨(true,hG),h⟩,()⟩: {r // _}×_) (eV 3) I I (dv I)
   cases aU;exact ae.pD (k':=Cell.gP ({DE with gr:=true}:eG)) 3 I ((aN.id eG).comp EU) (v:=true) n3 (ag (aM I)) (hN true) (re aaX) I I I I (cZ Ak) (ae.nil (k ()))
  exact Empty.elim cA
 ·refine az.fk (cJ ?_);refine rm YB YC (default:eG) .nil ?_;refine ae.xT 1 I (Cell.gP (default:eG)) (λ_=>rfl) (ag I) I λa2 wh=>?_;replace h:=ai.pz h a2 wh;refine aL ?_;exact ai.bA h λyB Di h=>ai.bA h λqK Re h=>ae.pD (k':=Cell.k6 ({yB with eU:=(some a2.1:Ref)}:gZ)) 1 I ((aN.id gZ).comp I3) (v:=(some a2.1:Ref)) jY (ag I) (ag I) (xx Di) I I I I (cZ Re) (ae.nil (dM 0 (hm qK () h)))
 exact az.skip (dM 0 (hm hp () h))
def acW{ab aj aG r}(h:BA ab aj aG=some r):cm prog 365 [J.ptr ab,J.of aj,J.of aG] (J.of r):=by
 unfold BA at h;refine cm.of func365 I ntmps365 I λW A=>?_;refine aL λbj bB=>?_;refine aA h λan bs h=>az.eM 7 ?_;refine aL (λh=>?_);refine aA h λaF b5 h=>az.eM 7 ?_;exact go
def T5{hp ab Q}(h:y6 hp ab Q):lJ prog 27 [J.of ab] hp Q:=by
 unfold y6 at h;refine bR.of func27 I ntmps27 I λW A=>b6 (bk (cV (look_nil (α:=cz))) ?_);refine go2 (λh=>?_) (λbz dd c1 dj h=>?_)
 ·refine bk (cV (look_nil (α:=cz))) (b7 (az.ret (ar.ret ?_)));exact ar.eI (⟨⟨(([]:aa cz),hp),h⟩,()⟩: {r // _}×_) (.refl _) I I (dv I)
 refine ae.dV 0 0 I anw (acV h) I I ⟨ag I,trivial⟩ I λ⟨⟨an,h⟩,aq⟩=>ae.dh ?_;refine cO (b7 (az.ret ?_));exact ar.eI (⟨⟨(an.1,an.2),h⟩,()⟩: {r // _}×_) (.refl _) I I (dv I)
def adz{hp ab aj Q}(h:EI hp ab aj Q):AL prog 332 [J.of ab,J.of aj] hp Q:=by
 unfold EI at h;refine bR.of func332 I ntmps332 I λW A=>?_;refine aL λbj bB an bs bX ey h=>?_;refine ai.bA h λbz dd h=>ai.bA h λc1 dj h=>ai.bA h λbg ej h=>bk (vF (r:=bg) underlying168 Ab F7 (k1 (ag I) dd) (ag I) (jc (n:=4) I (o1 dj) I) (cZ ej)) ?_;refine bk (Cg underlying442 (ag I)) (b7 ?_);refine Dd (γ:=Unit) h 4 [2,3,4,5,6] (λm1 g1=>[]) (λm1 g1=>[]) (λm1 g1=>a6 m1) (λm1 g1 h=>?_) (λhm ak h=>?_) (λhm ak h=>?_)
 ·refine ar.next (ai.bA h λc2 eX h=>ai.bA h λz2 iD h=>az.lk mixed 8 (rg 26 8) [[],[0],[],[1,2],[],[],[],[6]] [_,_,_,_,_,_,_,_] ⟨H1 (cg WZ.fd),ki 3 D4 QD,uQ 1 K5,gC λav=>vF (r:=z2) underlying168 Ab F7 (k1 (ag I) dd) (ag I) (o8 (λi e q=>av i e q I) (jc (n:=4) I (o1 eX) I)) (cZ iD),uQ 0 hV,fP,H1 (cg W0.fd),ki 2 Ir b8,trivial⟩ ?_)
  refine ae.dV 4 0 I ak8 (ae1 h) I I ⟨ag I,ag I,ag I,ag I,trivial⟩ I λ⟨⟨aF,h⟩,aq⟩=>ae.dh (ae.nil ?_);exact ar.lv (ar.mL (⟨⟨aF.2,h⟩,()⟩: {r // _}×_) (eV 4) I I)
 ·obtain⟨apT,anx,anz⟩:=ai.ex h;refine gU [2,3,4,5,6] ?_;refine az.AH mixed [5,6] [(0,20,J.my bj D4),(1,21,J.of ab.ui),(2,22,J.of an.1),(3,23,J.my bj Nd),(4,24,J.of ab.hn)] ?_;refine gI.md [] [0,1,2,3,4] [5] ⟨?_,trivial⟩;refine h2.of (ks:=[]) (λx:Subtype apT=>[(25,J.of x.1.1)]) (λx=>[]) (λx=>(a8 ey an.2.1::a8 bX an.1::a8 bB aj::a8 bj ab::a6 x.1.2)) (λ⟨bd,Rf⟩=>?_) (λo aU ef iR aM k=>?_)
  ·have h:=anz bd Rf;refine gI.md [4,3] [0,1,2] [6] ⟨h2.tail [5,4,3,2,1,0] ?_,trivial⟩;refine ae.eL (L2:=(a8 ey an.2.1::a8 bX an.1::a8 bB aj::a8 bj ab::a6 bd.2)) I (ae.le (E':=[(2,J.df bj),(3,J.df bB),(4,J.df bX),(5,J.df ey),(6,J.of an.2.2),(21,J.of ab.ui),(22,J.of an.1),(25,J.of bd.1)]) .all (ai.bA h λet jf h=>ai.bA h λbL gv h=>?_));refine ae.F5 (k':=Cell.n0 (gj et an.1 bd.1)) 4 I (by first|exact .inl I|exact .inr I) underlying168 Ab (k1 (ag I) dd) (ag I) (ag I) (o1 jf) I I I (cZ gv) ?_;exact ae.nil (dM 0 (hm bL () h))
  cases aU;refine ae.dV 4 0 I ak9 (afJ anx) I I ⟨ag (aM I),trivial⟩ I λ⟨⟨bd,Rf⟩,_⟩=>ae.dh (ae.nil ?_);exact k ⟨bd,Rf⟩
 exact az.skip (dM 0 (hm hp () h))
def acX{ab aj c3 iM iN r}(h:En ab aj=some r):bR prog 360 [J.df c3,J.of aj] [⟨some c3,.cq ({ab with da:=[]}:ep) [(10,aO iM ab.da.length iN)]⟩,⟨iM,.row 186 ab.da iN⟩] (δ:=(aw Nat×Nat)) (λd=>J.of r.1) (λd=>[⟨some c3,.cq ({r.2 with da:=[]}:ep) [(10,aO d.1 r.2.da.length d.2)]⟩,⟨d.1,.row 186 r.2.da d.2⟩]):=by
 unfold En at h;refine bR.of func360 I ntmps360 I λW A=>?_;refine aL λbj=>?_;refine bk (KC underlying171 (ag I)) ?_;refine aL ?_;refine aA h λan bs h=>jM (λhb=>bc.ala (β:=ep) (γ:=aK) (b':=ab) ((aN.id ep).comp BF) 1 2 0 I I I I I I zD (bc.YD 1 I zD (bc.alb (z:=(ab:ep)) 1 11 I (apU hb) I zD (ib Ys (adf (fz bs hb)) ⟨ag I,b1 I hb,trivial⟩)))) ?_;refine go2 (λh=>?_) (λh=>?_)
 ·refine ar.b4 2 I (ar.b4 2 I ?_);cases h;exact tk (iM,iN)
 refine bk (alc (ag I)) ?_;refine cO (ht ?_);refine aA h λaF b5 h=>gU [0,1,3,4,5,8,9,10,11,12,13,14,15,16,17,18] ?_;refine az.cf 3 (aQ 20 [] [] _::aQ 21 [0] [] _::aQ 22 [1] [] _::aQ 23 [2] [1] (J.eq (aO iM ab.da.length iN))::aQ 24 [] [0] _::aQ 25 [] [] _::aQ 26 [3,4,5] [1,2] (J.bY [J.of aF.1,J.of aF.2])::aQ 19 [6] [] _::aQ 27 [7] [] _::aQ 28 [7] [] _::aQ 6 [8] [] _::aQ 7 [9] [] _::[]) (fo ?_ (fo ?_ kT)) (λek=>?_)
 ·exact fA.q (qT λhd E' L' aM av=>gN (i:=1) (q:=0) (β:=ep) (γ:=aK) xY (ag (aM _ _ I)) (av 1 _ I I) I)
 ·exact fA.q (qT λhd E' L' aM av=>bc.aiZ (β:=ep) (γ:=aK) (b':=ab) ((aN.id ep).comp BF) 1 2 0 23 I (av 1 _ I I) (av 2 _ I I) I I I (aM _ _ I) (O1 zD J5) (bc.YD 1 (RN (aaZ I (av 1 _ I I))) (O1 zD J5) (bc.ai0 (F:=(λa0 bS=>BA ab a0 bS)) 1 25 (aM _ _ I) (RN (RN (aaZ I (av 1 _ I I)))) ald (λ_ _ _ h=>acW h) (O1 zD J5) (ib ale (ach b5) ⟨ag I,ag (aM _ _ I),ag I,trivial⟩))))
 refine ar.eL (L2:=[a8 bj aj,⟨some c3,.cq ({ab with da:=[]}:ep) [(10,aO iM ab.da.length iN)]⟩,⟨iM,.row 186 ab.da iN⟩]) I (je (ar.next (az.seq ?_)));refine aA h λbd dY h=>aA h λbq eW h=>az.sc 1 (gU [0,1,3,4,5,6,7,8,9,10,11,12,13,14,15,16,17,18,19,20,21,22,23,24,25,26,27,28] ?_);refine az.cf 4 (aQ 29 [] [] _::aQ 30 [] [] _::aQ 31 [1] [] _::aQ 32 [2] [] _::aQ 33 [3] [1] (J.eq (aO iM ab.da.length iN))::aQ 34 [] [] _::aQ 35 [] [0] _::aQ 36 [6] [] _::⟨some 37,[7],[3],[3],λhd=>J.eq (aO (hd 8 0) [bd].length 1),λhd _=>⟨(hd 8 0),.row 186 ([bd]:aa aK) 1⟩⟩::⟨some 38,[4,5,8],[2,3],[2,3],λhd=>J.eq (aO (hd 9 0) bq.length ((hd 9 1).getD 0)),λhd j=>bif Nat.beq j 2 then⟨(hd 9 0),.row 186 bq ((hd 9 1).getD 0)⟩else⟨none,.dead⟩⟩::aQ 39 [0] [] _::aQ 40 [10] [] _::j9 [4,9,11] [1] [1] (λhd=>⟨some c3,.cq ({ab with da:=[]}:ep) [(10,aO (hd 9 0) bq.length ((hd 9 1).getD 0))]⟩)::[]) (fo ?_ (fo ?_ (fo ?_ (fo ?_ kT)))) (λj5=>?_)
 ·exact fA.q (qT λhd E' L' aM av=>gN (i:=1) (q:=0) (β:=ep) (γ:=aK) xY (ag (aM _ _ I)) (av 1 _ I I) I)
 ·intro hd E' L' aM av cC;refine ae.sa (α:=aK) (r:=[bd]) underlying61 gB qw I I (.cons (by simp) (ag (aM _ _ I)) (.nil)) I λed=>?_;exact ae.nil (ar.place 3 (av 3 _ I I) (ar.fin (fK [ed]) I I))
 ·intro hd E' L' aM av cC;refine ae.ai1 (λq=>⟨q.1,.row 186 bq q.2⟩) 2 3 alf (aci eW) ⟨ag (aM _ _ I),ag (aM _ _ I),ag (aM _ _ I),trivial⟩ I (av 2 _ I I) (av 3 _ I I) (λ_=>rfl) I λ⟨j0,dq⟩=>?_;exact ae.nil (ar.fin (fK [j0,some dq]) I I)
 ·intro hd E' L' aM av cC;refine ae.iZ (i:=1) (γ:=aK) (b':=({ab with da:=[]}:ep)) (os':=[(10,aO (hd 9 0) bq.length ((hd 9 1).getD 0))]) ((aN.id ep).comp BF) xY (ag (aM _ _ I)) (ag (aM _ _ I)) hU (av 1 _ I I) I I I (ae.nil ?_);exact ar.fin (fK []) I I
 refine ar.eL (L2:=[a8 bj aj,⟨some c3,.cq ({ab with da:=[]}:ep) [(10,aO (j5 9 0) bq.length ((j5 9 1).getD 0))]⟩,⟨(j5 9 0),.row 186 bq ((j5 9 1).getD 0)⟩,⟨none,.dead⟩]) I (je ?_);refine ar.b4 3 I (aL ?_);refine ar.b4 3 I (ar.b4 3 I ?_);cases h;exact tk ((j5 9 0),((j5 9 1).getD 0))
def aeL{hp ab Q}(h:E7 hp ab Q):lJ prog 94 [J.of ab] hp Q:=by
 unfold E7 at h;refine bR.of func94 I ntmps94 I λW A=>b6 (bk (cV (look_nil (α:=aK))) (ht (b6 ?_)));refine cJ ?_;refine bk (Cg underlying130 (ag I)) (b7 ?_);refine LX h (λh=>?_) λh=>?_
 ·refine b6 (bk (cV (look_nil (α:=aK))) (b7 (az.ret (ar.ret ?_))));exact ar.eI (⟨⟨(([]:aa aK),hp),h⟩,()⟩: {r // _}×_) (.refl _) I I (dv I)
 refine k8 (b6 (ae.own (α:=aK) 186 (bk (cV k2) ?_)));refine aL λbz dd c1 dj h=>?_;refine ai.bA h λcc eS h=>ai.bA h λc2 eX h=>ae.Xy (α:=Int) (β:=aK) (kv:=c2) 1 I underlying159 (k1 (ag I) eS) (s3 eX) I I λbj m1 kn bL=>b7 (az.block (AG (σ:=(aa Nat)×(aa aK)) (ε:=(Bool×(aa Nat)×(aa aK))) (γ:=(aw Nat×Nat)) (δ:=(aw Nat×Nat)) h 2 [0,2,7,12] (λs1 g1=>[(3,J.eq (aO g1.1 s1.2.length g1.2))]) (λs1 g1=>[(0,⟨some bj,.is (nC cc m1 kn s1.1)⟩),(1,⟨g1.1,.row 186 s1.2 g1.2⟩)]) (λs1 g1=>pe cc (.map m1 kn) (a6 hp)) (λaq=>Exit.exit 0) (λaq g1=>[(3,J.eq (aO g1.1 aq.2.2.length g1.2)),(14,J.of aq.1)]) (λaq g1=>[(0,⟨some bj,.is (nC cc m1 kn aq.2.1)⟩),(1,⟨g1.1,.row 186 aq.2.2 g1.2⟩)]) (λaq g1=>pe cc (.map m1 kn) (a6 hp)) (none,0) (λs1 R h g1=>?_) (λau h g1=>?_)))
 ·refine b6 (ae.Yu (kv:=c2) 0 (ag I) I (KG 2 I (s3 eX) I) bL I λp9 Dg=>?_);replace h:=ai.VK h p9 Dg;refine bk (Xz (ag I)) ?_;refine go2 (λh=>?_) (λh=>?_)
  ·refine ai.bA h λaJ cQ h=>bk (Wb (kv:=c2) (vis:=s1.1) 0 (ag I) I (KG 2 I (s3 eX) I) bL Dg cQ) ?_;refine aL λbB an bs h=>?_;refine ai.bA h λaF b5 h=>fF 2 underlying61 gB qw b5 λed dq=>?_;refine cO (ae.nil ?_);exact ar.ri (ar.xy h (ed,dq) 1 I .all)
  exact ar.s4 h (g1.1,g1.2) 0 I (by simp) I .all
 refine aL ?_;refine ae.b4 1 I (ae.qV (eE.rh 1 alg (ack h) I I ⟨ag I,Wc alh (λ_ _ _ h=>adj h),trivial⟩) I I I λ⟨bd,ZK,h⟩=>?_);refine ae.dh ?_;refine ae.hc (m:=bd.length) 3 I ZK (ae.hc (m:=bd.length) 22 I ZK (aL ?_));exact ar.La 2 I (ar.jW (α:=aK) 0 [2,3,22,24] ⟨rfl,rfl,rfl,rfl,trivial⟩ I (ar.eI (⟨⟨(bd,hp),h⟩,()⟩: {r // _}×_) (eV 2) I I (dv I)))
def ae5(n:Nat):∀(ab:aa jC) (aj:Int) (aG:aa gf) (r:Bool),q8 n ab aj aG=some r->cm prog 98 [J.of ab,J.of aj,J.of aG] (J.of r):=by
 induction n with
 |zero=>intro ab aj aG r h;simp[q8]at h
 | succ n bJ=>
   intro ab aj aG r h
   simp only[q8]at h
   refine cm.of func98 I ntmps98 I λW A=>?_
   refine apV (λaJ cQ bj h=>?_) (λaJ cQ bj h=>?_) (λaJ cQ bj h=>?_) (λaJ cQ bj h=>?_) (λaJ cQ bj bE dJ dC nA h=>?_) (λaJ cQ bj bE dJ dC nA h=>?_)
   ·refine aA h λan bs h=>lD v7 (bJ _ _ _ _ bs) ?_
    exact go
   ·refine aA h λaF b5 h=>lD v7 (bJ _ _ _ _ b5) ?_
    refine aL ?_
    refine aA h λbd dY h=>jM (λhb=>ib v7 (bJ _ _ _ _ (fz dY hb)) ⟨b1 I hb,b1 I hb,b1 I hb,trivial⟩) ?_
    exact go
   ·refine aA h λbq eW h=>lD v7 (bJ _ _ _ _ eW) ?_
    refine aL ?_
    refine aA h λbM fY h=>jM (λhb=>ib v7 (bJ _ _ _ _ (fz fY hb)) ⟨b1 I hb,b1 I hb,b1 I hb,trivial⟩) ?_
    exact go
   ·refine aA h λcG hr h=>lD v7 (bJ _ _ _ _ hr) ?_
    refine aL ?_
    refine aA h λdF j3 h=>jM (λhb=>ib v7 (bJ _ _ _ _ (fz j3 hb)) ⟨b1 I hb,b1 I hb,b1 I hb,trivial⟩) ?_
    exact go
   ·refine aA h λga rr h=>aA h λhh vY h=>az.lk mixed 15 (rg 79 15) [[],[],[1],[],[0,2,3],[],[],[6],[],[5,7,8],[4,9],[],[11],[12],[10,13]] [_,_,_,_,_,_,_,_,_,_,_,_,_,_,_] ⟨fP,H1 (cg PF.fd),ki 0 Jp b8,fP,n4 v7 (bJ _ _ _ _ rr),fP,H1 (cg PG.fd),ki 0 Jq b8,fP,n4 v7 (bJ _ _ _ _ vY),mZ (QE underlying4),H1 (cg ahO.fd),ki 0 UO b8,mZ mh,mZ (QE underlying4),trivial⟩ ?_
    exact go
   refine aA h λju CQ h=>aA h λkh CR h=>aA h λmR Lk h=>az.eM 11 ?_
   exact go
def ae6{ab aj aG r}(h:Oq ab aj aG=some r):cm prog 98 [J.of ab,J.of aj,J.of aG] (J.of r):=ae5 c9 ab aj aG r h
instance:nL prog 98 _ _ _ _ Oq J.of J.of J.of J.of:=
 ⟨⟨_,func98,rfl,by kernel_rfl⟩,λ_ _ _ _ h=>ae6 h⟩
instance:nL prog 40 _ _ _ _ oU J.of J.of J.of J.of:=.i func40 I ntmps40 I λab aj aG r h W A=>by
 unfold oU at h;refine aL λbj bB bX ey=>?_;refine ae.share (α:=aS) 3 3 I I (ae.share (α:=bp) 0 7 I I (bk (uC (F:=Ja ab aG.bb) (τs:=[J.ptr ab,J.ptr aG.bb]) anA ⟨ag I,ag I,trivial⟩ (λ_ h=>aef h)) ?_));refine aL ?_;refine ae.share (α:=Int) 2 4 I I (bk (uC (F:=Je ab aj aG.bb) (τs:=[J.ptr ab,J.ptr aj,J.ptr aG.bb]) anB ⟨ag I,ag I,ag I,trivial⟩ (λ_ h=>ael h)) ?_);refine aL ?_;refine bk (uC (F:=Jf ab aj aG.bb) (τs:=[J.ptr ab,J.ptr aj,J.ptr aG.bb]) anC ⟨ag I,ag I,ag I,trivial⟩ (λ_ h=>aem h)) ?_;refine aL ?_;refine bk (uC (F:=Jb ab aj) (τs:=[J.ptr ab,J.ptr aj]) anD ⟨ag I,ag I,trivial⟩ (λ_ h=>aeg h)) ?_;refine aL λan bs aF b5 bd dY h=>?_;refine bk (uC (F:=Ji ab aG.bb) (τs:=[J.ptr ab,J.ptr aG.bb]) anE ⟨ag I,ag I,trivial⟩ (λ_ h=>aep h)) ?_;refine aL (λbq eW bg ej bM fY h=>?_);refine jM (λhb=>CU (b1 I hb) (ag I) (λh=>⟨hb,h⟩)) ?_;refine aL (λz2 iD h=>?_);refine bk (uC (F:=Jd ab aG.bb) (τs:=[J.ptr ab,J.ptr aG.bb]) anF ⟨ag I,ag I,trivial⟩ (λ_ h=>aej h)) ?_;refine aA h λcG hr h=>lD LP.cf (LP.m _ _ _ hr) ?_;refine bk (uC (F:=Jg ab aj aG.bb) (τs:=[J.ptr ab,J.ptr aj,J.ptr aG.bb]) anG ⟨ag I,ag I,ag I,trivial⟩ (λ_ h=>aen h)) ?_;refine aA h λdF j3 h=>lD LP.cf (LP.m _ _ _ j3) ?_;refine bk (uC (F:=Jh ab aG.bb) (τs:=[J.ptr ab,J.ptr aG.bb]) anH ⟨ag I,ag I,trivial⟩ (λ_ h=>aeo h)) ?_;refine bk (uC (F:=Jj ab aG.bb) (τs:=[J.ptr ab,J.ptr aG.bb]) anI ⟨ag I,ag I,trivial⟩ (λ_ h=>aeq h)) ?_;exact go
def adk{hp ab aj r}(h:Ey hp ab aj=some r):iG prog 330 [J.of ab,J.of aj] hp (J.bY [J.of r.1,J.of r.2]) hp:=by
 unfold Ey at h;refine bR.of func330 I ntmps330 I λW A=>?_;refine aL λbj bB an bs bX ey h=>?_;refine aA h λbz dd h=>aA h λc1 dj h=>aA h λbg ej h=>aA h λaF b5 h=>gU [0,1,2,3,6,7,8,9,10,11,12,13,14,15] ?_;refine az.cf 4 (aQ 16 [] [] _::aQ 17 [0] [3] _::aQ 18 [] [1] _::aQ 19 [1,2] [] (J.of bg)::aQ 20 [] [0] _::aQ 21 [] [] _::aQ 22 [3,4,5] [] (J.bY [J.of aF.1,J.of aF.2])::aQ 23 [6] [] _::aQ 24 [6] [] _::aQ 4 [7] [] _::aQ 5 [8] [] _::[]) (fo ?_ (fo ?_ kT)) (λek=>?_)
 ·intro hd E' L' aM av cC;refine bk (vF (r:=bg) underlying168 Ab F7 (k1 (ag (aM _ _ I)) dd) (ag (aM _ _ I)) (jc (n:=4) (cC.trans I) (o1 dj) I) (cZ ej)) (ae.nil ?_);exact ar.fin (fK []) I I
 ·intro hd E' L' aM av cC;exact ae.hA (fa.iA 4 (cC.trans I) YE (UY b5) ⟨ag (aM _ _ I),ag (aM _ _ I),ag (aM _ _ I),trivial⟩) I I I (ae.nil (ar.fin (fK []) I I))
 refine ar.eL (L2:=(a8 ey an.2.1::a8 bX an.1::a8 bB aj::a8 bj ab::a6 hp)) I (je ?_);exact go
def aer{hp ab aj aG r}(h:BL hp ab aj aG=some r):iG prog 338 [J.of ab,J.of aj,J.of aG] hp (J.of r.1) r.2:=by
 unfold BL at h;refine bR.ofM func338 I ntmps338 I λW A=>aL λbj=>?_;refine aA h λan bs h=>ae.hA (fa.iA 1 I YE (UY bs) ⟨ag I,ag I,ag I,trivial⟩) I I I (cJ ?_);refine pW ?_;refine pW ?_;refine cO ?_;refine cO (fD ?_);refine cJ ?_;refine db qv (b7 ?_);refine mq h (λh=>?_) λh=>?_
 ·refine aL ?_;cases h;exact ar.CV (ar.eI () (eV 1) I I (dv I))
 refine k8 (b6 (cJ ?_));refine aA h λbz dd h=>bk (mg (jq (ag I) dd)) ?_;refine db (cg ahP.fd) ?_;refine aA h λc1 dj h=>bk (oX ((aN.id gZ).comp I3) (r:=c1.eU) jY (ag I) (jc (n:=1) I (xx dj) I) I I) ?_;refine ae.sa (α:=Ref) (r:=[c1.eU]) underlying460 jY YF I I (.cons (by simp) (ag I) (.nil)) I λed=>?_;refine ae.qp (z:=(default:aa Ref)) [0] ahQ ali I λbB=>ae.own (α:=Ref) 450 (ae.qp (z:=(default:aa Int)) [0] ai2 anJ I λbX=>ae.own (α:=Int) 3 (ae.iZ (i:=3) (γ:=Ref) (b':=([]:aa Ref)) (os':=[(0,aO ed [c1.eU].length 1)]) (aN.id (aa Ref)) xR (ag I) (ag I) hU I I I I (ae.own (α:=Int) 3 (ae.iZ (i:=2) (γ:=Int) (b':=([]:aa Int)) (os':=[(0,aO none ([]:aa Int).length 0)]) (aN.id (aa Int)) k4 (ag I) k2 hU I I I I ?_))));refine aL ?_;refine aA h λaF b5 h=>lD QB (N6 b5) (b7 (az.block ?_));refine aA h λau ao h=>VL (hp:=hp) (γ:=(aw Nat×Nat)×(aw Nat×Nat)) (g0:=((none,0),(ed,1))) (Ls:=λs1 g1=>(⟨g1.1.1,.row 3 s1.1 g1.1.2⟩::⟨none,.row 3 ([]:aa Int) 0⟩::⟨some bX,.cq ([]:aa Int) [(0,aO g1.1.1 s1.1.length g1.1.2)]⟩::⟨none,.row 450 ([]:aa Ref) 0⟩::⟨some bB,.cq ([]:aa Ref) [(0,aO g1.2.1 s1.2.length g1.2.2)]⟩::⟨g1.2.1,.row 450 s1.2 g1.2.2⟩::a8 bj aj::a6 hp)) (Lx:=λaq g1=>Empty.elim aq) (λs1 g1=>[⟨g1.1.1,.row 3 s1.1 g1.1.2⟩,⟨none,.row 3 ([]:aa Int) 0⟩,⟨some bX,.cq ([]:aa Int) [(0,aO g1.1.1 s1.1.length g1.1.2)]⟩,⟨none,.row 450 ([]:aa Ref) 0⟩,⟨some bB,.cq ([]:aa Ref) [(0,aO g1.2.1 s1.2.length g1.2.2)]⟩,⟨g1.2.1,.row 450 s1.2 g1.2.2⟩,a8 bj aj]) (λaq=>Empty.elim aq) I QC I Uw ao (λ_ _=>rfl) I I (λDh s1 r h g1 qI qW qJ l D rec GW=>?_) (λs1 aD g1 D=>?_) (λaq aD g1 D=>?_)
 ·refine az.fk (cO (ae.nil ?_));refine ar.begin 0 I GW (az.block ?_);refine aA h λaJ cQ h=>aA h λcc eS h=>aA h λbE dJ h=>aA h λc2 eX h=>aA h λbd dY h=>aA h λbq eW h=>gU [0,1,2,4,6,7,8,9,10,11,14,15,16,17,18,19,20,21,22,23,24,25,26,28,29,30,31,32] ?_;refine az.cf 9 (aQ 33 [] [6] (J.eq (aO g1.2.1 s1.2.length g1.2.2))::aQ 34 [] [6] (J.eq (aO g1.2.1 s1.2.length g1.2.2))::aQ 35 [] [6] (J.eq (aO g1.2.1 s1.2.length g1.2.2))::aQ 36 [2] [7] (J.of (s1.2.length:Int))::aQ 37 [3] [] _::aQ 38 [1,3,4] [7] (J.eq (.pointer (some ⟨g1.2.1.getD 0,aJ*1,none⟩)))::aQ 39 [3,5] [7] (J.of (aB s1.2 aJ))::aQ 40 [] [] _::aQ 41 [3,5,6] [] _::aQ 42 [3,5,6,8] [] _::aQ 43 [3,5,6,7,9] [] _::aQ 44 [3,5,6,10] [] _::aQ 45 [3,5,6,11] [] _::⟨some 46,[0,3,5,6,12],[7],[7],λhd=>J.eq (aO (hd 13 0) bd.length ((hd 13 1).getD 0)),λhd _=>⟨(hd 13 0),.row 450 bd ((hd 13 1).getD 0)⟩⟩::aQ 47 [] [4] (J.eq (aO g1.1.1 s1.1.length g1.1.2))::aQ 48 [] [] _::aQ 49 [15] [] _::⟨some 50,[14,16],[2],[2],λhd=>J.eq (aO (hd 17 0) bq.length ((hd 17 1).getD 0)),λhd _=>⟨(hd 17 0),.row 3 bq ((hd 17 1).getD 0)⟩⟩::j9 [0,1,2,13] [6] [6] (λhd=>⟨some bB,.cq ([]:aa Ref) [(0,aO (hd 13 0) bd.length ((hd 13 1).getD 0))]⟩)::j9 [14,17] [4] [4] (λhd=>⟨some bX,.cq ([]:aa Int) [(0,aO (hd 17 0) bq.length ((hd 17 1).getD 0))]⟩)::[]) (fo ?_ (fo ?_ (fo ?_ (fo ?_ (fo ?_ (fo ?_ (fo ?_ (fo ?_ (fo ?_ (fo ?_ (fo ?_ kT))))))))))) (λek=>?_)
  ·exact fA.q (qT λhd E' L' aM av=>gN (i:=6) (q:=0) (β:=aa Ref) (γ:=Ref) xR (ag (aM _ _ I)) (av 6 _ I I) I)
  ·exact fA.q (qT λhd E' L' aM av=>gN (i:=6) (q:=0) (β:=aa Ref) (γ:=Ref) xR (ag (aM _ _ I)) (av 6 _ I I) I)
  ·exact fA.q (qT λhd E' L' aM av=>gN (i:=6) (q:=0) (β:=aa Ref) (γ:=Ref) xR (ag (aM _ _ I)) (av 6 _ I I) I)
  ·exact fA.q (qT λhd E' L' aM av=>oZ (i:=7) underlying460 (ag (aM _ _ I)) I (av 7 _ I I))
  ·exact fA.q (qT λhd E' L' aM av=>lU (i:=7) (k:=aJ) (xs:=(s1.2:aa Ref)) underlying460 jY (ag (aM _ _ I)) (ag (aM _ _ I)) (av 7 _ I I) (cU cQ))
  ·exact fA.q (qT λhd E' L' aM av=>sU (i:=7) (k:=aJ) (aN.id Ref) (r:=(aB s1.2 aJ)) jY (ag (aM _ _ I)) (av 7 _ I I) (cU cQ).1 I I)
  ·intro hd E' L' aM av cC;refine ae.app (i:=7) underlying460 jY YF (bytes:=8) (by kernel_rfl) (ag (aM _ _ I)) (av 7 _ I I) (ag (aM _ _ I)) dY I λj0 dq=>?_;exact ae.nil (ar.fin (fK [j0,some dq]) I I)
  ·exact fA.q (qT λhd E' L' aM av=>gN (i:=4) (q:=0) (β:=aa Int) (γ:=Int) k4 (ag (aM _ _ I)) (av 4 _ I I) I)
  ·intro hd E' L' aM av cC;refine ae.app (i:=2) underlying39 b8 pb (bytes:=8) (by kernel_rfl) (ag (aM _ _ I)) (av 2 _ I I) (ag (aM _ _ I)) eW I λlz ly=>?_;exact ae.nil (ar.fin (fK [lz,some ly]) I I)
  ·intro hd E' L' aM av cC;refine ae.iZ (i:=6) (γ:=Ref) (b':=([]:aa Ref)) (os':=[(0,aO (hd 13 0) bd.length ((hd 13 1).getD 0))]) (aN.id (aa Ref)) xR (ag (aM _ _ I)) (ag (aM _ _ I)) hU (av 6 _ I I) I I I (ae.nil ?_);exact ar.fin (fK []) I I
  ·intro hd E' L' aM av cC;refine ae.iZ (i:=4) (γ:=Int) (b':=([]:aa Int)) (os':=[(0,aO (hd 17 0) bq.length ((hd 17 1).getD 0))]) (aN.id (aa Int)) k4 (ag (aM _ _ I)) (ag (aM _ _ I)) hU (av 4 _ I I) I I I (ae.nil ?_);exact ar.fin (fK []) I I
  refine ar.eL (L2:=(⟨some l,.is (.loop {rec with state:=.busy})⟩::⟨some D,.fO⟩::⟨(ek 17 0),.row 3 bq ((ek 17 1).getD 0)⟩::⟨none,.row 3 ([]:aa Int) 0⟩::⟨some bX,.cq ([]:aa Int) [(0,aO (ek 17 0) bq.length ((ek 17 1).getD 0))]⟩::⟨none,.row 450 ([]:aa Ref) 0⟩::⟨some bB,.cq ([]:aa Ref) [(0,aO (ek 13 0) bd.length ((ek 13 1).getD 0))]⟩::⟨(ek 13 0),.row 450 bd ((ek 13 1).getD 0)⟩::a8 bj aj::a6 hp)) I (je ?_);refine ar.ri ?_;cases h;exact ar.aaV (((ek 17 0),((ek 17 1).getD 0)),((ek 13 0),((ek 13 1).getD 0))) 0 I
 ·clear ao;subst aD;simp only[Sum.elim_inl]at h;refine ar.dh ?_;refine ar.ri (ar.next (b6 (bk (gN (i:=5) (q:=0) (β:=aa Ref) (γ:=Ref) xR (ag I) I I) ?_)));refine cJ ?_;refine aA h λcP ih h=>bk (lU (i:=6) (k:=cP) (xs:=(s1.2:aa Ref)) underlying460 jY (ag I) (ag I) I (cU ih)) ?_;refine bk (sU (i:=6) (k:=cP) (aN.id Ref) (r:=(aB s1.2 cP)) jY (ag I) I (cU ih).1 I I) ?_;refine aL λgW rv h=>?_;refine aA h λet jf h=>aA h λbL gv h=>ae.pD (k':=Cell.gP ({et with gr:=false}:eG)) 8 I ((aN.id eG).comp EU) (v:=false) n3 (ag I) (hN false) (re jf) I I I I (cZ gv) (aL ?_);refine aA h λhB sn h=>aA h λcN Ak h=>ae.pD (k':=Cell.gP ({hB with kB:=0}:eG)) 8 I ((aN.id eG).comp Jo) (v:=(0:Int)) b8 (ag I) (cH 0) (re sn) I I I I (cZ Ak) (aL ?_);refine aA h λaW ao h=>wi (σ:=Int×(aH Cell)) (ε:=(Int×Bool×(aH Cell))) (γ:=Unit) (δ:=Unit) ao 8 [0,1,2,4,6,8,9,10,12,22,31] (λs2 g2=>[(13,J.of s2.1)]) (λs2 g2=>[]) (λs2 g2=>a6 s2.2) (λcA=>Exit.exit 2) (λcA g2=>[(13,J.of cA.1),(72,J.of cA.2.1)]) (λcA g2=>[]) (λcA g2=>a6 cA.2.2) () (λs2 r h g2=>?_) (λg2=>?_)
  ·refine aL ?_;refine jM (λhb=>gN (i:=5) (q:=0) (β:=aa Ref) (γ:=Ref) xR (ag I) I I) ?_;refine aL ?_;refine aA h λfm mo h=>jM (λhb=>lU (i:=6) (k:=fm) (xs:=(s1.2:aa Ref)) underlying460 jY (b1 I hb) (b1 I hb) I (cU (fz mo hb))) ?_;refine jM (λhb=>sU (i:=6) (k:=fm) (aN.id Ref) (r:=(aB s1.2 fm)) jY (b1 I hb) I (cU (fz mo hb)).1 I I) ?_;refine aA h λbM fY h=>ae.SV (λhb=>fa.iA 8 I YG (UT (fz fY hb)) ⟨b1 I hb,trivial⟩) I I I I I (aL (λh=>?_));refine aA h λoG GX h=>aA h λoH GY h=>aA h λl3 AK h=>gU [0,1,2,4,6,8,9,10,12,13,22,31,63,64,65,66,67,68,69,70,71,72] ?_;refine az.h4 10 8 mixed (aQ 75 [] [5] _::aQ 76 [] [] _::aQ 77 [0,1] [6] _::aQ 78 [2] [6] _::aQ 79 [] [3] _::aQ 80 [] [] _::aQ 81 [4,5] [1] _::aQ 82 [6] [1] _::aQ 83 [3] [] _::aQ 84 [8] [] _::[]) ⟨fA.q (im λaM av=>gN (i:=5) (q:=0) (β:=aa Ref) (γ:=Ref) xR (ag (aM _ _ I)) (av 5 _ I I) I),fA.q oc,fA.q (im λaM av=>lU (i:=6) (k:=oG) (xs:=(s1.2:aa Ref)) underlying460 jY (ag (aM _ _ I)) (ag (aM _ _ I)) (av 6 _ I I) (cU GX)),fA.q (im λaM av=>sU (i:=6) (k:=oG) (aN.id Ref) (r:=(aB s1.2 oG)) jY (ag (aM _ _ I)) (av 6 _ I I) (cU GX).1 I I),fA.q (im λaM av=>gN (i:=3) (q:=0) (β:=aa Int) (γ:=Int) k4 (ag (aM _ _ I)) (av 3 _ I I) I),fA.q oc,fA.q (im λaM av=>lU (i:=1) (k:=oH) (xs:=(s1.1:aa Int)) underlying39 b8 (ag (aM _ _ I)) (ag (aM _ _ I)) (av 1 _ I I) (cU GY)),fA.q (im λaM av=>sU (i:=1) (k:=oH) (aN.id Int) (r:=(aB s1.1 oH)) b8 (ag (aM _ _ I)) (av 1 _ I I) (cU GY).1 I I),fA.q (im λaM av=>mg (jq (ag (aM _ _ I)) AK)),fA.q (qU (cg Kk.fd)),trivial⟩ λj5=>?_;refine ae.eL (L2:=(⟨some D,.fO⟩::⟨g1.1.1,.row 3 s1.1 g1.1.2⟩::⟨none,.row 3 ([]:aa Int) 0⟩::⟨some bX,.cq ([]:aa Int) [(0,aO g1.1.1 s1.1.length g1.1.2)]⟩::⟨none,.row 450 ([]:aa Ref) 0⟩::⟨some bB,.cq ([]:aa Ref) [(0,aO g1.2.1 s1.2.length g1.2.2)]⟩::⟨g1.2.1,.row 450 s1.2 g1.2.2⟩::a8 bj aj::a6 s2.2)) I (aa0 ?_);refine aA h λqL Gq h=>bk (lx (k:=qL) Qy (ag I) (ag I) (cU Gq)) ?_;exact aA h λjk uR h=>aA h λhG Gh h=>ae.pD (k':=Cell.gP ({jk with du:=dS jk.du qL (none:Ref)}:eG)) 8 I (((aN.id eG).comp Bv).comp (aN.idx (α:=Ref) 2 qL (cU Gq).1)) (v:=(none:Ref)) jY (ag I) ou (re uR) I I I I (cZ Gh) go
  refine aL λjw uS h=>?_;refine aA h λcG hr h=>ae.hA (fa.iA 8 I YG (UT hr) ⟨ag I,trivial⟩) I I I (b7 (aA h λm1 bW h=>ye (γ:=Unit) 8 [0,1,2,4,6,8,9,10,12,13,22,31,72,90] (λg3=>[]) (λg3=>[]) (λg3=>a6 m1) (λg3=>?_) (λhm ak=>?_) (λhm ak=>?_)))
  ·refine aL ?_;cases h;refine ar.Lu 0 I I ?_;exact ar.eI () (eV 8) I I (dv I)
  ·have h:=e1 ak bW;refine aL ?_;exact aA h λqK Re h=>ae.pD (k':=Cell.k6 ({jw with eU:=(none:Ref)}:gZ)) 8 I ((aN.id gZ).comp I3) (v:=(none:Ref)) jY (ag I) ou (xx uS) I I I I (cZ Re) go
  have h:=e2 ak bW;exact go
 exact Empty.elim aq
def adT{hp ab aj Q}(h:EX hp ab aj Q):lJ prog 45 [J.of ab,J.of aj] hp Q:=by
 unfold EX at h;refine bR.of func45 I ntmps45 I λW A=>b6 (bk (cV (look_nil (α:=aK))) ?_);refine aL ?_;refine ai.bA h λan bs h=>ae.hA (fa.iA 0 I Gr (ER bs) ⟨ag I,ag I,trivial⟩) I I I (ae.dV 0 0 I anK (aeL h) I I ⟨ag I,trivial⟩ I λ⟨⟨aF,h⟩,aq⟩=>ae.dh ?_);refine cO (b7 (az.ret ?_));exact ar.eI (⟨⟨(aF.1,aF.2),h⟩,()⟩: {r // _}×_) (.refl _) I I (dv I)
instance:ea prog 49 _ _ _ Ot J.of J.of J.of:=.i func49 I ntmps49 I λab aj r h W A=>by
 unfold Ot at h;exact go
def UB{hp y ab r}(h:IU hp y ab=some r):mJ prog "matchguard/index.find" (J.of y) [J.of ab] ([]++a6 hp) (δ:=Unit) (fun _=>J.bY [J.of r.1,J.of r.2]) (fun _=>[]++a6 hp):=by
 cases y with
 |nil=>cases h
 |pI z=>exact mJ.of af7 (λA W u hu=>O2 hu) (adP h)
 |pJ z=>exact mJ.of af8 (λA W u hu=>O3 hu) (adk h)
 |pK z=>exact mJ.of af9 (λA W u hu=>O4 hu) (adS h)
def aes{hp ab aj Q}(h:E2 hp ab aj Q):AL prog 356 [J.of ab,J.of aj] hp Q:=by
 unfold E2 at h;refine bR.of func356 I ntmps356 I λW A=>?_;refine aL λbj bB=>?_;refine ai.bA h λbz dd h=>ai.bA h λc1 dj h=>ai.bA h λan bs h=>ae.qV (eE.obj 2 (λq:aw Nat×Nat=>Cell.uJ an.2 q.1 q.2) I (zP dj) alj (acX bs) I (λ_=>rfl) ⟨jq (ag I) dd,ag I,trivial⟩) I I I λaq=>?_;replace h:=ai.any_bind h aq;refine ai.bA h λbL gv h=>ae.eL (L2:=(a8 bB aj::a8 bj ab::a6 bL)) (by rw[<-cZ gv];rfl) ?_;exact ae.nil (ar.lv (ar.mL (⟨⟨bL,h⟩,()⟩: {r // _}×_) (eV 2) I I))
def acL{hp ab aj r}(h:Ed hp ab aj=some r):iG prog 333 [J.of ab,J.of aj] hp (J.bY []) r:=by
 unfold Ed at h;refine bR.of func333 I ntmps333 I λW A=>?_;refine aL λbj bB an bs bX ey h=>?_;refine aA h λbz dd h=>aA h λc1 dj h=>aA h λbg ej h=>az.lk mixed 6 (rg 15 6) [[],[0],[],[1,2],[],[]] [_,_,_,_,_,_] ⟨H1 (cg WZ.fd),ki 3 D4 QD,uQ 1 K5,gC λav=>vF (r:=bg) underlying168 Ab F7 (k1 (ag I) dd) (ag I) (o8 (λi e q=>av i e q I) (jc (n:=4) I (o1 dj) I)) (cZ ej),uQ 0 hV,fP,trivial⟩ ?_;refine aA h λaF b5 h=>ae.dV 4 0 I alk (aer b5) I I ⟨ag I,ag I,ag I,trivial⟩ I λaq=>ae.dh ?_;refine aL ?_;refine aA h λc2 eX h=>aA h λz2 iD h=>bk (vF (r:=z2) underlying168 Ab F7 (k1 (ag I) dd) (ag I) (jc (n:=4) I (o1 eX) I) (cZ iD)) ?_;refine aA h λbd dY h=>ae.hA (fa.iA 4 I alm (aeZ dY) ⟨ag I,trivial⟩) I I I (ef mh (b7 ?_));refine aA h λm1 bW h=>ye (γ:=Unit) 4 [0,1,2,3,4,5,6,27] (λg1=>[]) (λg1=>[]) (λg1=>a6 m1) (λg1=>?_) (λhm ak=>?_) (λhm ak=>?_)
 ·exact ar.lv go
 ·have h:=e1 ak bW;refine aL ?_;exact aA h λbL gv h=>ae.K7 (k':=Cell.n0 (iC c2 an.1)) 4 I underlying168 Ab (k1 (ag I) dd) (ag I) (o1 eX) I I I (cZ gv) go
 have h:=e2 ak bW;exact go
def aeM{hp ab Q}(h:Jr hp ab Q):lJ prog 29 [J.of ab] hp Q:=by
 unfold Jr at h;refine bR.of func29 I ntmps29 I λW A=>b6 (bk (cV (look_nil (α:=aK))) (ht (b6 ?_)));refine cJ ?_;refine bk (Cg underlying81 (ag I)) (b7 ?_);refine LX h (λh=>?_) λh=>?_
 ·refine b6 (bk (cV (look_nil (α:=aK))) (b7 (az.ret (ar.ret ?_))));exact ar.eI (⟨⟨(([]:aa aK),hp),h⟩,()⟩: {r // _}×_) (.refl _) I I (dv I)
 refine k8 (b6 (ae.own (α:=aK) 186 (bk (cV k2) ?_)));refine aL λbz dd c1 dj h=>?_;refine AG (σ:=Int×(aa aK)×(aH Cell)) (ε:=(Int×Bool×(aa aK)×(aH Cell))) (γ:=(aw Nat×Nat)) (δ:=(aw Nat×Nat)) h 1 [0,2,7,12,13] (λs1 g1=>[(3,J.eq (aO g1.1 s1.2.1.length g1.2)),(14,J.of s1.1)]) (λs1 g1=>[(0,⟨g1.1,.row 186 s1.2.1 g1.2⟩)]) (λs1 g1=>a6 s1.2.2) (λaq=>Exit.exit 0) (λaq g1=>[(3,J.eq (aO g1.1 aq.2.2.1.length g1.2)),(14,J.of aq.1),(15,J.of aq.2.1)]) (λaq g1=>[(0,⟨g1.1,.row 186 aq.2.2.1 g1.2⟩)]) (λaq g1=>a6 aq.2.2.2) (none,0) (λs1 R h g1=>?_) (λau h g1=>?_)
 ·refine go2 (λaJ cQ bj h=>?_) (λh=>?_)
  ·refine ae.dV 2 0 I anL (adT h) I I ⟨ag I,ag I,trivial⟩ I λ⟨⟨an,h⟩,cA⟩=>ae.dh ?_;refine ai.bA h λaF b5 h=>fF 1 underlying61 gB qw b5 λed dq=>?_;refine aL ?_;exact ar.xy h (ed,dq) 1 I .all
  exact ar.s4 h (g1.1,g1.2) 0 I (by simp) I .all
 refine aL ?_;exact ar.jW (α:=aK) 0 [2,3,25] ⟨rfl,rfl,rfl,trivial⟩ I (ar.eI (⟨⟨(au.2.2.1,au.2.2.2),h⟩,()⟩: {r // _}×_) (eV 1) I I (dv I))
def Va{ab aj aG r}(h:JK ab aj aG=some r):cm prog 31 [J.of ab,J.of aj,J.of aG] (J.of r):=by
 unfold JK at h;refine cm.of func31 I ntmps31 I λW A=>?_;exact go
def NP{hp ab aj r}(h:ze hp ab aj=some r):iG prog 125 [J.of ab,J.of aj] hp (J.bY [J.of r.1,J.of r.2]) hp:=by
 unfold ze at h;refine bR.of func125 I ntmps125 I λW A=>?_;refine aL (λbj bB h=>?_);refine aA h λbz dd h=>aA h λc1 dj h=>aA h λan bs h=>gU [0,1,3,4,5,8,9] ?_;refine az.cf 2 (aQ 12 [] [] _::aQ 13 [0] [] _::aQ 14 [1] [] _::aQ 15 [2] [] _::aQ 16 [] [1] _::aQ 17 [3,4] [] (J.bY [J.of an.1,J.of an.2])::aQ 11 [5] [] _::aQ 18 [6] [] _::aQ 19 [6] [] _::aQ 6 [7] [] _::aQ 7 [8] [] _::[]) (fo ?_ kT) (λek=>?_)
 ·intro hd E' L' aM av cC;refine ae.hA (fa.Gs 2 (cC.trans I) (UB bs) ⟨ag (aM _ _ I),ag (aM _ _ I),trivial⟩) I I I (ae.nil ?_);exact ar.fin (fK []) I I
 refine ar.eL (L2:=(a8 bB (default:aK)::a8 bj aj::a6 hp)) I (je ?_);refine aL ?_;exact aA h λaF b5 h=>ae.hA (fa.iA 2 I aln (adR b5) ⟨ag I,ag I,ag I,trivial⟩) I I I go
def adU{hp y ab Q}(h:Nz hp y ab Q):mJ prog "matchguard/index.put" (J.of y) [J.of ab] ([]++a6 hp) (δ:= {r:(aH Cell) // Q r}×Unit) (fun d=>J.bY []) (fun d=>[]++a6 d.1.1):=by
 cases y with
 |nil=>exact h.elim
 | pI z=>
   obtain⟨r,h1,ad⟩:=h
   exact mJ.of aga (λA W u hu=>O2 hu) (bR.map (λd=>(⟨r,ad⟩,d)) (λ_=>rfl) (λ_=>rfl) (aei h1))
 |pJ z=>exact mJ.of agb (λA W u hu=>O3 hu) (adz h)
 |pK z=>exact mJ.of agc (λA W u hu=>O4 hu) (aes h)
def acY{hp y ab Q}(h:Nl hp y ab Q):mJ prog "matchguard/index.remove" (J.of y) [J.of ab] ([]++a6 hp) (δ:= {r:(aH Cell) // Q r}×Unit) (fun d=>J.bY []) (fun d=>[]++a6 d.1.1):=by
 cases y with
 |nil=>exact h.elim
 | pI z=>
   obtain⟨r,h1,ad⟩:=h
   exact mJ.of agd (λA W u hu=>O2 hu) (bR.map (λd=>(⟨r,ad⟩,d)) (λ_=>rfl) (λ_=>rfl) (adg h1))
 | pJ z=>
   obtain⟨r,h1,ad⟩:=h
   exact mJ.of age (λA W u hu=>O3 hu) (bR.map (λd=>(⟨r,ad⟩,d)) (λ_=>rfl) (λ_=>rfl) (acL h1))
 |pK z=>exact mJ.of agf (λA W u hu=>O4 hu) (adi h)
def UL{hp ab Q}(h:BJ hp ab Q):lJ prog 9 [J.of ab] hp Q:=by
 unfold BJ at h;refine bR.of func9 I ntmps9 I λW A=>b6 (bk (cV (look_nil (α:=aK))) ?_);refine aL ?_;refine ai.bA h λan bs h=>ae.hA (fa.iA 0 I Zm (Uh bs) ⟨ag I,trivial⟩) I I I (ae.dV 0 0 I anM (aeM h) I I ⟨ag I,trivial⟩ I λ⟨⟨aF,h⟩,aq⟩=>ae.dh ?_);refine cO (b7 (az.ret ?_));exact ar.eI (⟨⟨(aF.1,aF.2),h⟩,()⟩: {r // _}×_) (.refl _) I I (dv I)
def U0{ab aj r}(h:B2 ab aj=some r):cm prog 10 [J.of ab,J.of aj] (J.of r):=by
 unfold B2 at h;refine cm.of func10 I ntmps10 I λW A=>b6 (ny λbj=>?_);refine ny λbB=>?_;refine cO (fD ?_);refine n2 1 kL ?_;refine db (cg Cq.fd) ?_;refine nz 0 ud b8 ?_;refine aA h λan bs h=>lD aaT.cf (aaT.m _ _ _ bs) ?_;refine cO (ht (az.seq ?_));refine aA h λaJ cQ h=>aA h λbE dJ h=>aA h λaF b5 h=>aA h λcP ih h=>aA h λbd dY h=>aA h λbq eW h=>az.lk mixed 26 (rg 11 26) [[],[0],[1],[2],[2,3],[2],[2,4,5],[2,6],[2,7],[2],[2,9],[2],[2,10,11],[2,12],[2,13],[2],[2],[2,16],[2],[2,17,18],[2,19],[2],[2,15,20,21],[2,8,14,22],[2,23],[2,24]] [_,_,_,_,_,_,_,_,_,_,_,_,_,_,_,_,_,_,_,_,_,_,_,_,_,_] ⟨fP,mZ o3,fP,cW λL' av=>λhb=>cg rW.fd (ag I),cW λL' av=>λhb=>gA (i:=1) ((aN.id aS).comp pt) (r:=ab.bH) o7 (b1 I hb) (av _ _ I I) I I,cW λL' av=>λhb=>c8 (ag I),cW λL' av=>λhb=>mM (k:=aJ) underlying27 ke (b1 I hb) (b1 I hb) (cU (fz cQ hb)),cW λL' av=>λhb=>vR D2 KE.fd (b1 I hb) I I,cW λL' av=>λhb=>jE j4 (b1 I hb),cW λL' av=>λhb=>cg rW.fd (ag I),cW λL' av=>λhb=>gA (i:=1) ((aN.id aS).comp pt) (r:=ab.bH) o7 (b1 I hb) (av _ _ I I) I I,cW λL' av=>λhb=>c8 (ag I),cW λL' av=>λhb=>mM (k:=bE) underlying27 ke (b1 I hb) (b1 I hb) (cU (fz dJ hb)),cW λL' av=>λhb=>jE ke (b1 I hb),cW λL' av=>λhb=>ib anN (aeH (fz b5 hb)) ⟨b1 I hb,trivial⟩,cW λL' av=>λhb=>gA (i:=1) (aN.id aS) (r:=ab) kL (ag I) (av _ _ I I) I I,cW λL' av=>λhb=>cg rW.fd (ag I),cW λL' av=>λhb=>gA (i:=1) ((aN.id aS).comp pt) (r:=ab.bH) o7 (b1 I hb) (av _ _ I I) I I,cW λL' av=>λhb=>c8 (ag I),cW λL' av=>λhb=>mM (k:=cP) underlying27 ke (b1 I hb) (b1 I hb) (cU (fz ih hb)),cW λL' av=>λhb=>jE ke (b1 I hb),cW λL' av=>λhb=>gA (i:=0) (aN.id bp) (r:=aj) pL (ag I) (av _ _ I I) I I,cW λL' av=>λhb=>ib anO (afc (fz dY hb)) ⟨b1 I hb,b1 I hb,b1 I hb,trivial⟩,cW λL' av=>λhb=>ib ZL (Va (fz eW hb)) ⟨b1 I hb,b1 I hb,b1 I hb,trivial⟩,cW λL' av=>λhb=>qv (b1 I hb),gC λav=>CU (ag I) (ag I) (λh=>h),trivial⟩ (b7 ?_);refine mq h (λh=>?_) λh=>?_
 ·refine b6 (cO (b7 (az.ret (ar.ret ?_))));cases h;exact pd
 refine k8 (az.seq (b6 (db (cg zQ.fd) ?_)));refine nz 0 ub b8 ?_;refine ef mh (b7 ?_);refine mq h (λh=>?_) λh=>?_
 ·refine b6 (cO (b7 (az.ret (ar.ret ?_))));cases h;exact pd
 refine k8 (b6 (n2 1 kL ?_));refine db (cg zQ.fd) ?_;refine nz 0 ub b8 ?_;refine aA h λbM fY h=>lD aaL.cf (aaL.m _ _ _ fY) ?_;refine cO (ht ?_);refine aA h λfm mo h=>aA h λoF LQ h=>aA h λcG hr h=>aA h λlL pR h=>aA h λdF j3 h=>aA h λdC nA h=>az.lk mixed 25 (rg 44 25) [[],[0],[1],[2],[2,3],[2],[2,4,5],[2,6],[2,7],[2],[2,9],[2],[2,10,11],[2,12],[2,13],[2],[2,15],[2],[2,16,17],[2,18],[2],[2,20],[2,19,21],[2,8,14,22],[2,23]] [_,_,_,_,_,_,_,_,_,_,_,_,_,_,_,_,_,_,_,_,_,_,_,_,_] ⟨fP,mZ K1,fP,cW λL' av=>λhb=>cg zM.fd (ag I),cW λL' av=>λhb=>gA (i:=1) ((aN.id aS).comp w5) (r:=ab.dg) xU (b1 I hb) (av _ _ I I) I I,cW λL' av=>λhb=>c8 (ag I),cW λL' av=>λhb=>mM (k:=fm) underlying26 qu (b1 I hb) (b1 I hb) (cU (fz mo hb)),cW λL' av=>λhb=>vR DY Ki.fd (b1 I hb) I I,cW λL' av=>λhb=>jE j4 (b1 I hb),cW λL' av=>λhb=>cg zM.fd (ag I),cW λL' av=>λhb=>gA (i:=1) ((aN.id aS).comp w5) (r:=ab.dg) xU (b1 I hb) (av _ _ I I) I I,cW λL' av=>λhb=>c8 (ag I),cW λL' av=>λhb=>mM (k:=oF) underlying26 qu (b1 I hb) (b1 I hb) (cU (fz LQ hb)),cW λL' av=>λhb=>jE qu (b1 I hb),cW λL' av=>λhb=>ib anP (aed (fz hr hb)) ⟨b1 I hb,trivial⟩,cW λL' av=>λhb=>cg zM.fd (ag I),cW λL' av=>λhb=>gA (i:=1) ((aN.id aS).comp w5) (r:=ab.dg) xU (b1 I hb) (av _ _ I I) I I,cW λL' av=>λhb=>c8 (ag I),cW λL' av=>λhb=>mM (k:=lL) underlying26 qu (b1 I hb) (b1 I hb) (cU (fz pR hb)),cW λL' av=>λhb=>jE qu (b1 I hb),cW λL' av=>λhb=>cg Cp.fd (ag I),cW λL' av=>λhb=>gA (i:=0) ((aN.id bp).comp xc) (r:=aj.gu) Ao (b1 I hb) (av _ _ I I) I I,cW λL' av=>λhb=>ib anQ (aeS (fz j3 hb)) ⟨b1 I hb,b1 I hb,trivial⟩,cW λL' av=>λhb=>ib ZL (Va (fz nA hb)) ⟨b1 I hb,b1 I hb,b1 I hb,trivial⟩,gC λav=>xN (ag I) (ag I) (λh=>h),trivial⟩ ?_;refine cO (b7 (az.ret ?_));cases h;exact pd
instance qL:ea prog 10 _ _ _ B2 J.of J.of J.of:=
 ⟨⟨_,func10,rfl,by kernel_rfl⟩,λ_ _ _ h=>U0 h⟩
def NX{hp ab aj Q}(h:zi hp ab aj Q):lJ prog 128 [J.of ab,J.of aj] hp Q:=by
 unfold zi at h;refine bR.of func128 I ntmps128 I λW A=>?_;refine go2 (λbj h=>?_) (λbj h=>?_)
 ·exact ar.eI (⟨⟨(false,hp),h⟩,()⟩: {r // _}×_) (eV 1) I I (dv I)
 refine ai.bA h λbz dd h=>ai.bA h λc1 dj h=>ai.bA h λcc eS h=>ai.bA h λc2 eX h=>ai.bA h λbg ej h=>az.K6 1 1 (gU [0,1,3,4,9,10] ?_);refine az.cf 2 (aQ 12 [] [] _::aQ 13 [0] [] _::aQ 14 [1] [] _::aQ 15 [2] [] _::aQ 16 [] [] _::aQ 17 [4] [0] _::aQ 18 [3,5] [] (J.bY [J.of (bg.getD default),J.of bg.isSome])::aQ 11 [6] [] _::aQ 19 [7] [] _::aQ 20 [7] [] _::tn 5 [] 1 10 _::j9 [8,10] [1] [1] (λhd=>a8 ((hd 10 0).getD 0) (bg.getD default:aK))::aQ 6 [9] [] _::[]) (fo ?_ kT) (λek=>?_)
 ·intro hd E' L' aM av cC;refine bk (Pe (r:=bg) underlying159 AD qw (k1 (ag (aM _ _ I)) eS) (ag (aM _ _ I)) (jc (n:=2) (cC.trans I) (s3 eX) I) (cZ ej)) (ae.nil ?_);exact ar.fin (fK []) I I
 refine ar.eL (L2:=(a8 bj aj::a8 ((ek 10 0).getD 0) (bg.getD default:aK)::a6 hp)) I (je ?_);refine ar.b4 1 I (ar.next (az.seq (az.seq (ai.bA h λgW rv h=>ai.bA h λet jf h=>ai.bA h λan bs h=>gU [0,1,3,4,5,6,9,10,11,12,13,14,15,16,17,18,19,20] ?_))));refine az.cf 2 (aQ 22 [] [] _::aQ 23 [0] [] _::aQ 24 [1] [] _::aQ 25 [2] [] _::aQ 26 [] [] _::aQ 27 [4] [1] _::aQ 28 [3,5] [] (J.bY [J.of an.1,J.of an.2])::aQ 21 [6] [] _::aQ 29 [7] [] _::aQ 30 [7] [] _::aQ 7 [8] [] _::aQ 8 [9] [] _::[]) (fo ?_ kT) (λj5=>?_)
 ·intro hd E' L' aM av cC;refine ae.hA (fa.Gs 2 (cC.trans I) (UB bs) ⟨ag (aM _ _ I),ag (aM _ _ I),trivial⟩) I I I (ae.nil ?_);exact ar.fin (fK []) I I
 refine ar.eL (L2:=(a8 ((ek 10 0).getD 0) (bg.getD default:aK)::a8 bj aj::a6 hp)) I (je ?_);refine go2 (λh=>?_) (λh=>?_)
 ·exact ar.eI (⟨⟨(false,hp),h⟩,()⟩: {r // _}×_) (eV 2) I I (dv I)
 refine ai.bA h λlM yg h=>ai.bA h λhB sn h=>ai.bA h λaF b5 h=>az.eM 8 ?_;refine ai.bA h λl3 AK h=>ai.bA h λjk uR h=>ai.bA h λbL gv h=>ae.F5 (k':=Cell.lX (gj jk aj.cI aF)) 2 I (by first|exact .inl I|exact .inr I) underlying159 AD (k1 (ag I) AK) (ag I) (ag I) (s3 uR) I I I (cZ gv) ?_;refine ht (ai.bA h λjw uS h=>az.eM 5 ?_);refine ae.Gs 2 0 I (adU h) I I ⟨ag I,ag I,trivial⟩ I λ⟨⟨bd,h⟩,aq⟩=>?_;refine ae.dh ?_;refine aL ?_;exact ar.eI (⟨⟨(true,bd),h⟩,()⟩: {r // _}×_) (eV 2) I I (dv I)
def UP{hp ab aj r}(h:zf hp ab aj=some r):iG prog 79 [J.of ab,J.of aj] hp (J.bY [J.of r.1,J.of r.2]) hp:=by
 unfold zf at h;refine bR.of func79 I ntmps79 I λW A=>?_;refine aL λbj bB=>?_;refine aA h λan bs h=>aA h λaF b5 h=>gU [0,1,3,4] ?_;refine az.cf 2 (aQ 6 [] [] _::aQ 7 [] [] _::aQ 8 [1] [1] _::aQ 9 [0,2] [] (J.of an)::aQ 10 [] [1] _::aQ 11 [3,4] [] (J.bY [J.of aF.1,J.of aF.2])::aQ 12 [5] [] _::aQ 13 [5] [] _::j9 [6] [0] [0] (λhd=>a8 bB aF.1)::aQ 5 [7] [] _::[]) (fo ?_ (fo ?_ kT)) (λek=>?_)
 ·intro hd E' L' aM av cC;exact ae.hA (fa.iA 2 (cC.trans I) Gr (ER bs) ⟨ag (aM _ _ I),ag (aM _ _ I),trivial⟩) I I I (ae.nil (ar.fin (fK []) I I))
 ·intro hd E' L' aM av cC;exact ae.hA (fa.iA 2 (cC.trans I) QF (NP b5) ⟨ag (aM _ _ I),ag (aM _ _ I),trivial⟩) I I I (ae.nil (ar.fin (fK []) I I))
 refine ar.eL (L2:=(a8 bB aF.1::a8 bj aj::a6 hp)) I (je ?_);exact go
def adA{hp ab aj Q}(h:EJ hp ab aj Q):bR prog 130 [J.of ab,J.of aj] ([]++a6 hp) (δ:= {r:aK×Bool×(aH Cell) // Q r}×Unit) (λd=>J.bY [J.of d.1.1.1,J.of d.1.1.2.1]) (λd=>[]++a6 d.1.1.2.2):=by
 unfold EJ at h;refine bR.of func130 I ntmps130 I λW A=>?_;refine aL λbj bB=>?_;refine ai.bA h λan bs h=>ae.hA (fa.iA 2 I QF (NP bs) ⟨ag I,ag I,trivial⟩) I I I (aL λbX=>?_);refine Dd (γ:=Unit) h 3 [0,1,3,4,5,6,7,14] (λm1 g1=>[]) (λm1 g1=>[]) (λm1 g1=>a6 m1) (λm1 g1 h=>?_) (λhm ak h=>?_) (λhm ak h=>?_)
 ·refine aL ?_;exact ar.ns (⟨⟨(an.1,an.2,m1),h⟩,()⟩: {r // _}×_) (eV 3) I I (lV (i:=1) gB I I) (dv I)
 ·refine az.seq (ai.bA h λbz dd h=>ai.bA h λc1 dj h=>az.eM 5 ?_);refine ae.Gs 3 0 I (acY h) I I ⟨ag I,ag I,trivial⟩ I λ⟨⟨aF,h⟩,aq⟩=>?_;refine ae.dh (b7 ?_);refine ai.bA h λc2 eX h=>az.eM 6 ?_;exact ai.bA h λcc eS h=>ai.bA h λet jf h=>ai.bA h λbL gv h=>ae.K7 (k':=Cell.lX (iC et an.1.cI)) 3 I underlying159 AD (k1 (ag I) eS) (ag I) (s3 jf) I I I (cZ gv) (ae.nil (dM 0 (hm bL () h)))
 exact az.skip (dM 0 (hm hp () h))
def UC{hp ab aj aG Q}(h:EK hp ab aj aG Q):bR prog 78 [J.of ab,J.of aj,J.of aG] ([]++a6 hp) (δ:= {r:Int×Int×(aH Cell) // Q r}×Unit) (λd=>J.bY [J.of d.1.1.1,J.of d.1.1.2.1]) (λd=>[]++a6 d.1.1.2.2):=by
 unfold EK at h;refine bR.of func78 I ntmps78 I λW A=>?_;refine aL λbj=>?_;refine ai.bA h λan bs h=>ae.hA (fa.iA 1 I Gr (ER bs) ⟨ag I,ag I,trivial⟩) I I I (go2 (λh=>?_) (λh=>?_))
 ·exact ar.ns (⟨⟨(0,6,hp),h⟩,()⟩: {r // _}×_) (eV 1) I I (dv I) (dv I)
 refine ai.bA h λaF b5 h=>ae.hA (fa.iA 1 I QF (NP b5) ⟨ag I,ag I,trivial⟩) I I I (go2 (λbB h=>?_) (λbB h=>?_))
 ·exact ar.ns (⟨⟨(0,17,hp),h⟩,()⟩: {r // _}×_) (eV 2) I I (dv I) (dv I)
 refine ai.bA h λbd dY h=>ai.bA h λbq eW h=>gU [0,1,2,4,6,7,8,9,10,12,13,14,15,16,17,18,19,20,21,22,23,24] ?_;refine az.cf 2 (aQ 25 [] [] _::aQ 26 [0] [] (J.of bd)::aQ 27 [] [] _::aQ 28 [] [] _::aQ 29 [3] [1] _::aQ 30 [2,4] [] (J.of bq)::aQ 31 [1,5] [] _::[]) (fo ?_ (fo ?_ kT)) (λek=>?_)
 ·intro hd E' L' aM av cC;exact ae.hA (fa.iA 2 (cC.trans I) alo (aeI dY) ⟨ag (aM _ _ I),trivial⟩) I I I (ae.nil (ar.fin (fK []) I I))
 ·intro hd E' L' aM av cC;exact ae.hA (fa.iA 2 (cC.trans I) alp (aek eW) ⟨ag (aM _ _ I),ag (aM _ _ I),trivial⟩) I I I (ae.nil (ar.fin (fK []) I I))
 refine ar.eL (L2:=(a8 bB aF.1::a8 bj aj::a6 hp)) I (je ?_);refine go2 (λh=>?_) (λbz dd c1 dj bg ej h=>?_)
 ·exact ar.ns (⟨⟨(0,18,hp),h⟩,()⟩: {r // _}×_) (eV 2) I I (dv I) (dv I)
 refine ae.dV 2 0 I QG (NX h) I I ⟨ag I,ag I,trivial⟩ I λ⟨⟨bM,h⟩,aq⟩=>ae.dh ?_;refine aL λc2 eX h=>?_;refine ai.bA h λbL gv h=>ae.pD (k':=Cell.qE ({c2 with nT:=bo (c2.nT+1)}:k0)) 2 I ((aN.id k0).comp IM) (v:=(bo (c2.nT+1):Int)) b8 (ag I) (ag I) (vL eX) I I I I (cZ gv) (aL ?_);exact ar.ns (⟨⟨(c1.nT,0,bL),h⟩,()⟩: {r // _}×_) (eV 2) I I (dv I) (dv I)
def EL{hp ab aj Q}(h:xb hp ab aj Q):bR prog 81 [J.of ab,J.of aj] ([]++a6 hp) (δ:= {r:aK×Int×(aH Cell) // Q r}×Unit) (λd=>J.bY [J.of d.1.1.1,J.of d.1.1.2.1]) (λd=>[]++a6 d.1.1.2.2):=by
 unfold xb at h;refine bR.of func81 I ntmps81 I λW A=>?_;refine aL λbj bB=>?_;refine ai.bA h λan bs h=>ae.hA (fa.iA 2 I Gr (ER bs) ⟨ag I,ag I,trivial⟩) I I I (go2 (λh=>?_) (λh=>?_))
 ·exact ar.ns (⟨⟨((default:aK),6,hp),h⟩,()⟩: {r // _}×_) (eV 2) I I (lV (i:=0) gB I I) (dv I)
 refine ae.dV 2 0 I alq (adA h) I I ⟨ag I,ag I,trivial⟩ I λ⟨⟨aF,h⟩,aq⟩=>?_;refine ae.dh ?_;refine go2 (λbX h=>?_) (λbX h=>?_)
 ·exact ar.ns (⟨⟨((default:aK),16,aF.2.2),h⟩,()⟩: {r // _}×_) (eV 3) I I (lV (i:=1) gB I I) (dv I)
 exact ar.ns (⟨⟨(aF.1,0,aF.2.2),h⟩,()⟩: {r // _}×_) (eV 3) I I (lV (i:=1) gB I I) (dv I)
def adl{hp ab aj Q}(h:Ez hp ab aj Q):lJ prog 91 [J.of ab,J.of aj] hp Q:=by
 unfold Ez at h;refine bR.of func91 I ntmps91 I λW A=>?_;refine aL λbj=>?_;refine ai.bA h λaF b5 h=>gU [0,1,3,4] ?_;refine az.h4 6 1 mixed (aQ 5 [] [] _::aQ 6 [] [] _::aQ 7 [1] [] _::aQ 8 [2] [0] _::aQ 9 [0,3] [] (J.of aF)::aQ 10 [] [0] _::[]) ⟨fA.q oc,fA.q (qU (cg ahR.fd)),fA.q (qU (cg Cq.fd)),fA.q (GV 0 (Nf.comp ud) b8),?_,fA.q (apW 0 gB),trivial⟩ λek=>?_
 ·intro hd E' L' aM av cC;exact ae.hA (fa.iA 1 (cC.trans I) Gr (ER b5) ⟨ag (aM _ _ I),ag (aM _ _ I),trivial⟩) I I I (ae.nil (ar.fin (fK []) I I))
 refine ae.eL (L2:=(a8 bj aj::a6 hp)) I (aa0 ?_);refine ae.dV 1 0 I QG (NX h) I I ⟨ag I,ag I,trivial⟩ I λ⟨⟨bd,h⟩,aq⟩=>ae.dh ?_;refine cO (b7 (az.ret ?_));exact ar.eI (⟨⟨(bd.1,bd.2),h⟩,()⟩: {r // _}×_) (eV 1) I I (dv I)
def acZ{hp ab aj aG Q}(h:Eo hp ab aj aG Q):lJ prog 41 [J.of ab,J.of aj,J.of aG] hp Q:=by
 unfold Eo at h;refine bR.of func41 I ntmps41 I λW A=>?_;refine go2 (λbj bB bX h=>?_) (λbj bB bX h=>?_)
 ·exact ar.eI (⟨⟨(6,hp),h⟩,()⟩: {r // _}×_) (eV 3) I I (dv I)
 refine ai.bA h λgW rv h=>ai.bA h λet jf h=>?_;obtain⟨n5,sh,uK⟩:=ai.ex h;refine gU [3,4,5,6] ?_;refine az.AH mixed [6,10,11,12] [(0,14,J.of ab),(1,15,J.df gW),(2,16,J.my gW D8),(3,17,J.of et.1.me),(4,18,J.of aj),(5,19,J.of aG)] ?_;refine gI.cut (γ:=(Subtype n5)×Nat) (pe':=[6,10]) (λg=>[(7,13,J.bY [J.of g.1.1.1,J.of g.1.1.2.1]),(8,21,J.of g.1.1.1),(9,22,J.of g.1.1.2.1)]) (λg=>[(20,J.bY [J.of g.1.1.1,J.of g.1.1.2.1]),(7,J.df g.2),(3,J.df bj),(4,J.df bB),(5,J.df bX),(6,J.of (0:Int))]) (λg=>(a8 g.2 (default:Int)::a8 bX aG::a8 bB aj::a8 bj ab::a6 g.1.1.2.2)) (λ⟨⟨an,iP⟩,ey⟩=>?_) λxZ=>?_
 ·refine gI.md [5,4,3,2,1,0] [7,8,9] [11] ⟨?_,trivial⟩
  ·refine h2.of (ks:=[]) (λx:Unit=>[]) (λx=>[]) (λx=>(a8 ey an.1::a8 bX aG::a8 bB aj::a8 bj ab::a6 an.2.2)) (λ_=>?_) (λo aU ef iR aM k=>?_)
   ·have h:=uK an iP;refine gI.md [8,7,5,4,3,2,1,0] [9] [12] ⟨h2.tail [11,10,9,8,7,6,5,4,3,2,1,0] ?_,trivial⟩;refine ae.eL (L2:=(a8 ey an.1::a8 bX aG::a8 bB aj::a8 bj ab::a6 an.2.2)) I (ae.le (E':=[(3,J.df bj),(4,J.df bB),(5,J.df bX),(6,J.of (0:Int)),(7,J.df ey),(22,J.of an.2.1)]) .all ?_);refine go2 (λh=>?_) (λh=>?_)
    ·exact ar.eI (⟨⟨(an.2.1,an.2.2),h⟩,()⟩: {r // _}×_) (eV 4) I I (dv I)
    refine ai.bA h λlM yg h=>ai.bA h λhB sn h=>ai.bA h λaF b5 h=>az.K6 1 4 (gU [3,4,5,6,7,8,22,23,24] ?_);refine az.cf 5 (aQ 27 [] [3] _::aQ 28 [0] [] _::aQ 29 [1] [] _::aQ 30 [2] [] _::aQ 31 [] [2] _::aQ 32 [3,4] [] (J.bY [J.of aF.1,J.of aF.2])::aQ 26 [5] [] _::aQ 33 [6] [] _::aQ 34 [6] [] _::tn 9 [] 4 9 _::j9 [7,9] [4] [4] (λhd=>a8 ((hd 9 0).getD 0) aF.1)::aQ 10 [8] [] _::[]) (fo ?_ kT) (λek=>?_)
    ·intro hd E' L' aM av cC;exact ae.hA (fa.iA 5 (cC.trans I) ZM (UP b5) ⟨ag (aM _ _ I),ag (aM _ _ I),trivial⟩) I I I (ae.nil (ar.fin (fK []) I I))
    refine ar.eL (L2:=(a8 ey an.1::a8 bX aG::a8 bB aj::a8 bj ab::a8 ((ek 9 0).getD 0) aF.1::a6 an.2.2)) I (je ?_);refine ar.b4 4 I (ar.next (az.seq (az.seq (ai.bA h λl3 AK h=>ai.bA h λjk uR h=>az.eM 5 ?_))));refine ai.bA h λbd dY h=>ae.dV 5 0 I ZN (UJ dY) I I ⟨ag I,ag I,trivial⟩ I λaq=>ae.dh ?_;refine go2 (λh=>?_) (λh=>?_)
    ·refine ai.bA h λjw uS h=>az.eM 6 ?_;refine ae.dV 5 0 I Gt (EL h) I I ⟨ag I,ag I,trivial⟩ I λ⟨⟨bq,h⟩,cA⟩=>?_;refine ae.dh (ht ?_);refine ai.bA h λDE aaX h=>az.eM 5 ?_;refine ai.bA h λbM fY h=>ae.dV 5 0 I ZO (Us fY) I I ⟨ag I,ag I,trivial⟩ I λeZ=>ae.dh ?_;refine aL ?_;exact ar.eI (⟨⟨(19,bM),h⟩,()⟩: {r // _}×_) (eV 5) I I (dv I)
    refine ai.bA h λDF aaY h=>az.eM 6 ?_;refine ai.bA h λcG hr h=>ae.dV 5 0 I Rg (NW hr) I I ⟨ag I,ag I,trivial⟩ I λlK=>ae.dh ?_;refine aL ?_;refine ae.share (α:=Ref) 4 3 I I (ae.share (α:=aK) 0 9 I I (ae.share (α:=Int) 1 7 I I (ae.share (α:=Int) 2 5 I I (bk (P6 (F3 (f:=85) (τs:=[J.ptr ab,J.ptr aF.1,J.ptr an.1,J.ptr aG]) ⟨ag I,ag I,ag I,ag I,trivial⟩) (λ_ _ _ h=>ai3 h)) ?_))));refine ai.bA h λyB Di h=>ai.bA h λdF j3 h=>ae.qV (eE.obj 5 (λq:aw Nat×Nat=>Cell.kj dF q.1 q.2) I (o4 Di) Rh (Nc j3) I (λ_=>rfl) ⟨jq (ag I) AK,ag I,trivial⟩) I I I λfT=>?_;replace h:=ai.any_bind h fT;refine ai.bA h λbL gv h=>ae.eL (L2:=(⟨none,.dead⟩::⟨none,.dead⟩::⟨none,.dead⟩::a8 bB aj::⟨none,.dead⟩::a6 bL)) (by rw[<-cZ gv];rfl) ?_;refine aL ?_;exact ar.eI (⟨⟨(0,bL),h⟩,()⟩: {r // _}×_) (eV 5) I I (dv I)
   cases aU;refine ae.store (i:=0) (aN.id Int) (v:=an.1) (b':=an.1) b8 (ag (aM I)) (ag (aM I)) I I I (ae.nil ?_);exact k ()
 refine gI.md [] [0,1,2,3,4,5] [6,10] ⟨?_,?_,trivial⟩
 ·refine h2.of (ks:=[7,8,9]) (λx:Subtype n5=>[(20,J.bY [J.of x.1.1,J.of x.1.2.1])]) (λx=>[(7,13,J.bY [J.of x.1.1,J.of x.1.2.1]),(8,21,J.of x.1.1),(9,22,J.of x.1.2.1)]) (λx=>(a8 bX aG::a8 bB aj::a8 bj ab::a6 x.1.2.2)) (λ⟨an,iP⟩=>?_) (λo aU ef iR aM k=>?_)
  ·refine gI.md [5,4,3,2,1,0] [7,8,9] [10] ⟨?_,trivial⟩
   ·refine h2.to [] (λx:Nat=>[(7,J.df x)]) (λx:Nat=>xZ (⟨an,iP⟩,x)) (λo aU ef iR aM k=>?_);cases aU;refine pQ pb λey=>ae.nil ?_;exact k ey
  cases aU;refine ae.dV 3 0 I ZP (UC sh) I I ⟨ag (aM I),ag (aM I),ag (aM I),trivial⟩ I λ⟨⟨an,iP⟩,_⟩=>?_;refine ae.dh (ae.nil ?_);exact k ⟨an,iP⟩
 refine h2.of (ks:=[]) (λx:Nat=>[(7,J.df x)]) (λx=>[]) (λx=>(a8 x (default:Int)::a8 bX aG::a8 bB aj::a8 bj ab::a6 hp)) (λey=>?_) (λo aU ef iR aM k=>?_)
 ·refine gI.md [] [0,1,2,3,4,5] [6] ⟨?_,trivial⟩
  ·refine h2.to [7,8,9] (λx:Subtype n5=>[(20,J.bY [J.of x.1.1,J.of x.1.2.1])]) (λx:Subtype n5=>xZ (x,ey)) (λo aU ef iR aM k=>?_);cases aU;refine ae.dV 4 0 I ZP (UC sh) I I ⟨ag (aM I),ag (aM I),ag (aM I),trivial⟩ I λ⟨⟨an,iP⟩,_⟩=>?_;refine ae.dh (ae.nil ?_);exact k ⟨an,iP⟩
 cases aU;refine pQ pb λey=>ae.nil ?_;exact k ey
def UD{hp ab aj Q}(h:Nv hp ab aj Q):bR prog 132 [J.of ab,J.of aj] ([]++a6 hp) (δ:= {r:aK×Int×(aH Cell) // Q r}×Unit) (λd=>J.bY [J.of d.1.1.1,J.of d.1.1.2.1]) (λd=>[]++a6 d.1.1.2.2):=by
 unfold Nv at h;refine bR.of func132 I ntmps132 I λW A=>?_;refine aL λbj bB=>?_;refine ae.dV 2 0 I Gt (EL h) I I ⟨ag I,ag I,trivial⟩ I λ⟨⟨an,h⟩,aq⟩=>?_;refine ae.dh ?_;refine go2 (λbX h=>?_) (λbX h=>?_)
 ·exact ar.ns (⟨⟨((default:aK),an.2.1,an.2.2),h⟩,()⟩: {r // _}×_) (eV 3) I I (lV (i:=1) gB I I) (dv I)
 refine ai.bA h λbz dd h=>ai.bA h λc1 dj h=>ai.bA h λcc eS h=>ai.bA h λc2 eX h=>ai.bA h λbg ej h=>ai.bA h λz2 iD h=>az.lk mixed 13 (rg 18 13) [[],[0],[1],[2],[],[4],[3,5],[],[],[8],[],[10],[7,9,11]] [_,_,_,_,_,_,_,_,_,_,_,_,_] ⟨fP,gC λav=>mg (jq (ag I) dd),H1 (cg ahS.fd),gC λav=>oX ((aN.id k0).comp Iz) (r:=c1.sS) YH (ag I) (o8 (λi e q=>av i e q I) (jc (n:=3) I (vL dj) I)) I I,H1 (cg Cq.fd),ki 2 ud b8,gC λav=>vF (r:=bg) underlying127 AD Ye (k1 (ag I) eS) (ag I) (o8 (λi e q=>av i e q I) (jc (n:=3) I (xw eX) I)) (cZ ej),uQ 2 pL,H1 (cg W0.fd),ki 0 Ir b8,H1 (cg ahT.fd),ki 0 Ng b8,abP iD λL' av=>kc (b:= {bb:=aj,cI:=an.1.cI,fV:=an.1.fV:aK}) I alr qw (.cons Nf I (ag I) I (.cons Ir I (ag I) I (.cons Ng I (ag I) I (.nil)))),trivial⟩ ?_;refine ae.dV 3 0 I QG (NX h) I I ⟨ag I,ag I,trivial⟩ I λ⟨⟨aF,h⟩,cA⟩=>ae.dh ?_;refine aL ?_;exact ar.ns (⟨⟨(an.1,0,aF.2),h⟩,()⟩: {r // _}×_) (eV 3) I I (lV (i:=1) gB I I) (dv I)
end Go.Proofs.YtdadopcnkghbaaaGreat
