/-
  Each function meets its functional program. Conditions: none.
-/
import Derived.Test.YtppgfphgdogpeaaGreatMd
import Derived.Test.YtppgfphgdogpeaaGreatMc0
set_option linter.unusedVariables false
set_option linter.unusedSimpArgs false
set_option maxRecDepth 100000
set_option maxHeartbeats 2000000
namespace Go.Proofs.YtppgfphgdogpeaaGreat
open Go Gv Go.Proofs.Tryz
attribute [local irreducible] J aw aj bc aN dE ep eB I.of I.ptr I.eq I.cond I.bP
theorem Y8 {aa aV:List aC}{ai:Int}{n3 Vp:Option Nat}{fr y4:Nat}{r:List aC}(h:Ha aa ai aV=some r):bJ prog 268 [I.eq (aJ n3 aa.length fr),I.of ai,I.eq (aJ Vp aV.length y4)] [⟨n3,.row 54 aa fr⟩,⟨Vp,.row 54 aV y4⟩] (δ:=(Option Nat×Nat)) (fun d=>I.eq (aJ d.1 r.length d.2)) (fun d=>[⟨d.1,.row 54 r d.2⟩]):=by
 unfold Ha at h;obtain⟨k,rfl,hk,bb,q7,mB,rfl⟩:=acs h;refine bJ.of func268 rfl ntmps268 rfl fun W A=>aw.seq (aw.fv (J.v (c5 lK) rfl rfl rfl (J.nil (aj.next (aw.seq (aw.fv (J.v (cG (ae rfl)) rfl rfl rfl (J.v (cG (ae rfl)) rfl rfl rfl (J.v (Bp (i:=0) (xs:=aa) underlying43 eZ (ae rfl) rfl (.some (ae rfl)) .none rfl rfl ⟨hk,Nat.le_refl _⟩) rfl rfl rfl (J.nil (aj.next (aw.seq (aw.fv (J.v (cG (ae rfl)) rfl rfl rfl (J.v (mO (i:=1) (xs:=aV) underlying43 (ae rfl) rfl rfl) rfl rfl rfl (J.v (c5 (ae rfl)) rfl rfl rfl (J.nil (aj.next ?_))))))))))))))))));refine aw.seq (aw.seq (aw.fv (J.v (cG (ae rfl)) rfl rfl rfl (J.v (sC (ae rfl) (c9 0)) rfl rfl rfl (J.nil (aj.next (aw.cond (ae rfl) (fun ad=>?_) (fun _=>?_))))))))
 ·exfalso;simp only [beq_iff_eq] at ad;omega
 refine aw.skip (aj.next (aw.seq (aw.fv (J.v (cG (ae rfl)) rfl rfl rfl (J.v (mO (i:=0) (xs:=aa) underlying43 (ae rfl) rfl rfl) rfl rfl rfl (J.v (c5 (ae rfl)) rfl rfl rfl (J.nil (aj.next (aw.seq (aw.seq (aw.fv (J.v (cG (ae rfl)) rfl rfl rfl (J.v (cG (ae rfl)) rfl rfl rfl (J.v (sC (ae rfl) (ae rfl)) rfl rfl rfl (J.nil (aj.next ?_))))))))))))))));refine aw.cond (ae rfl) (fun ad=>?_) (fun ad=>?_)
 ·have jT:k=aa.length:=by simp only [beq_iff_eq] at ad;omega
  subst jT;refine aw.seq (aw.fv (J.v (cG (ae rfl)) rfl rfl rfl (J.j2 (α:=aC) 1 [2,13] ⟨rfl,rfl,trivial⟩ rfl (J.v (cG (ae rfl)) rfl rfl rfl (J.app (i:=0) (xs:=aa) (ys:=aV) (r:=aa++aV) underlying43 eZ fC (by kernel_rfl) (ae rfl) rfl (ae rfl) (by unfold eA;rw [if_pos ⟨q7,mB⟩]) rfl fun ea dv=>?_)))));refine J.v (c5 (ae rfl)) rfl rfl rfl (J.nil (aj.next (aw.ret ?_)));have aA:aa.take aa.length++aV++aa.drop aa.length=aa++aV:=by simp
  rw [aA];repeat (apply aj.ret)
  exact aj.eh (ea,dv) (.cons_cons _ (List.nil_sublist _)) rfl rfl (dw rfl)
 have jT:k<aa.length:=by simp only [beq_eq_false_iff_ne] at ad;omega
 refine aw.skip (aj.next (aw.some (i:=0) (xs:=aa) rfl (by omega) fun p hp xc zx=>?_));subst hp;refine aw.some (i:=1) (xs:=aV) rfl (by omega) fun q hq apt aq8=>?_;subst hq;refine aw.apart rfl fun JX=>aw.seq (aw.seq (aw.fv (J.v (cG (ae rfl)) rfl rfl rfl (J.v (cG (ae rfl)) rfl rfl rfl (J.v (j6 (ae rfl) (ae rfl)) rfl rfl rfl (J.v (cG (ae rfl)) rfl rfl rfl (J.v (afH underlying43 (ae rfl)) rfl rfl rfl (J.v (BR (ae rfl) (ae rfl)) rfl rfl rfl (J.nil (aj.next ?_))))))))));have hw:bk ((aa.length:Int)+(aV.length:Int))=((aa.length+aV.length:Nat):Int):=by
  have sZ:maxLen=9223372036854775807:=rfl;rw [gA (by omega) (by omega)];simp
 refine aw.cond (ae rfl) (fun eR=>?_) (fun eR=>?_)
 ·have BX:fr<aa.length+aV.length:=by rw [hw] at eR;simp only [decide_eq_true_eq] at eR;omega
  have sZ:maxLen=9223372036854775807:=rfl;have aB:bk (bk ((aa.length:Int)+(aV.length:Int)) - (k:Int))=((aa.length+aV.length - k:Nat):Int):=by
   rw [hw,gA (by omega) (by omega)];omega
  refine aw.seq (aw.fv (J.v (cG (ae rfl)) rfl rfl rfl (J.v (cG (ae rfl)) rfl rfl rfl (J.v (Bp (i:=0) (xs:=aa) underlying43 eZ (ae rfl) rfl .none (.some (ae rfl)) rfl rfl ⟨Nat.zero_le _,hk⟩) rfl rfl rfl (J.v (cG (ae rfl)) rfl rfl rfl (J.v (cG (ae rfl)) rfl rfl rfl (J.v (j6 (ae rfl) (ae rfl)) rfl rfl rfl (J.v (cG (ae rfl)) rfl rfl rfl (J.v (sH (ae rfl) (ae rfl)) rfl rfl rfl ?_)))))))));refine J.ajN (i:=0) (m:=k) (k:=aa.length+aV.length - k) (xs:=aa) (z:=(default:aC)) underlying43 underlying3 eZ fC (by rfl) (by kernel_rfl) (ae rfl) (by rw [← aB];exact ae rfl) rfl hk (by omega) (by omega) (by rw [show k+(aa.length+aV.length - k)=aa.length+aV.length by omega];exact q7) (by omega) rfl fun av dv=>?_;refine J.v (c5 (ae rfl)) rfl rfl rfl (J.nil (aj.next ?_));have hlen:(aa.take k++List.replicate (aa.length+aV.length - k) (default:aC)).length=aa.length+aV.length:=by simp;omega
  refine aw.some (i:=0) (xs:=aa.take k++List.replicate (aa.length+aV.length - k) (default:aC)) rfl (by omega) fun cQ qn ahD aq9=>?_;rw [hlen] at ahD;refine aw.seq (aw.fv (J.v (cG (ae rfl)) rfl rfl rfl (J.v (cG (ae rfl)) rfl rfl rfl (J.v (uK (α:=aC) (m:=k) (h:=k+(aa.length+aV.length - k)) underlying43 eZ (ae rfl) (.some (ae rfl)) .none rfl rfl ⟨by omega,by omega⟩) rfl rfl rfl ?_))));refine J.v (cG (ae rfl)) rfl rfl rfl (J.Jh (i:=0) (p:=av) (off:=k * ah.size aC) (dLen:=k+(aa.length+aV.length - k) - k) (dCap:=dv - k) (N:=aV.length) (vs:=aV) (T:=54) underlying43 eZ (by rw [← Mb (by omega)];exact ae rfl) (Tx (i:=2) (ae rfl) rfl bb) (Nat.min_eq_left (by omega)) rfl rfl (fun A W o cells h cL=>LL (by omega) h cL) ?_);refine J.nil (aj.next ?_);have ar:(aa.take k++List.replicate (aa.length+aV.length - k) (default:aC)).take k++aV++(aa.take k++List.replicate (aa.length+aV.length - k) (default:aC)).drop (k+aV.length)=aa.take k++aV++List.replicate (aa.length - k) (default:aC):=by
   have j9:(aa.take k).length=k:=by rw [List.length_take];omega
   rw [List.take_left' j9,List.drop_append,j9,List.drop_eq_nil_of_le (by omega),List.nil_append,List.drop_replicate];congr 2;omega
  have ug:bk ((k:Int)+(aV.length:Int))=((k+aV.length:Nat):Int):=by rw [gA (by omega) (by omega)];simp
  refine aw.seq (aw.le (E':= [(0,I.eq (aJ (some p) aa.length fr)),(1,I.of (k:Int)),(7,I.of (aV.length:Int)),(9,I.eq (aJ (some av) (k+(aa.length+aV.length - k)) dv))]) .all ?_);refine aw.Kv mixed (ay 46 [] [] (I.eq (aJ (some av) (k+(aa.length+aV.length - k)) dv))::ay 47 [] [] (I.of (k:Int))::ay 48 [] [] (I.of (aV.length:Int))::ay 49 [1,2] [] (I.of (bk ((k:Int)+(aV.length:Int))))::ay 50 [0,3] [] (I.eq (iY (some av) (k+aV.length) ((k+(aa.length+aV.length - k)) - (k+aV.length)) dv (ah.size aC)))::ay 51 [] [] (I.eq (aJ (some p) aa.length fr))::ay 52 [] [] (I.of (k:Int))::ay 53 [5,6] [] (I.eq (iY (some p) k (aa.length - k) fr (ah.size aC)))::⟨some 54,[4,7],[0,1],[0],fun _=>I.of ((((aa.drop k).take (aa.length - k)).length:Nat):Int),fun _ _=>⟨some av,.row 54 ((aa.take k++aV++List.replicate (aa.length - k) (default:aC)).take (k+aV.length)++(aa.drop k).take (aa.length - k)++(aa.take k++aV++List.replicate (aa.length - k) (default:aC)).drop (k+aV.length+((aa.drop k).take (aa.length - k)).length)) dv⟩⟩::[]) [0,1,7,9] ⟨?_,?_,?_,?_,?_,?_,?_,?_,?_,trivial⟩ fun hd=>?_
  ·exact jR rfl rfl rfl fun hd E' L' aE aq=>cG (ae (aE _ _ rfl))
  ·exact jR rfl rfl rfl fun hd E' L' aE aq=>cG (ae (aE _ _ rfl))
  ·exact jR rfl rfl rfl fun hd E' L' aE aq=>cG (ae (aE _ _ rfl))
  ·exact jR rfl rfl rfl fun hd E' L' aE aq=>j6 (ae (aE _ _ rfl)) (ae (aE _ _ rfl))
  ·exact jR rfl rfl rfl fun hd E' L' aE aq=>uK (α:=aC) (m:=k+aV.length) (h:=(k+(aa.length+aV.length - k))) underlying43 eZ (ae (aE _ _ rfl)) (.some (ae (aE _ _ rfl))) .none ug rfl ⟨by omega,by omega⟩
  ·exact jR rfl rfl rfl fun hd E' L' aE aq=>cG (ae (aE _ _ rfl))
  ·exact jR rfl rfl rfl fun hd E' L' aE aq=>cG (ae (aE _ _ rfl))
  ·exact jR rfl rfl rfl fun hd E' L' aE aq=>uK (α:=aC) (m:=k) (h:=aa.length) underlying43 eZ (ae (aE _ _ rfl)) (.some (ae (aE _ _ rfl))) .none rfl rfl ⟨by omega,by omega⟩
  ·intro hd E' L' aE aq;have bq:=aq 0 _ rfl rfl;rw [ar] at bq;refine J.Jh (i:=0) (p:=av) (off:=(k+aV.length) * ah.size aC) (T:=54) (vs:=(aa.drop k).take (aa.length - k)) (N:=aa.length - k) (dLen:=(k+(aa.length+aV.length - k)) - (k+aV.length)) (dCap:=dv - (k+aV.length)) underlying43 eZ (by rw [← Mb (p:=av) (lo:=k+aV.length) (cap:=dv) (size:=ah.size aC) (by omega)];exact ae (aE _ _ rfl)) (Iw (i:=1) (ae (aE _ _ rfl)) (aq 1 _ rfl rfl) (by omega) (by omega)) (by rw [show((aa.drop k).take (aa.length - k)).length=aa.length - k by simp];exact Nat.min_eq_left (by omega)) bq rfl (fun A W o cells h cL=>LL (by simp;omega) h cL) ?_;exact J.nil (aj.fin (cP []) rfl rfl)
  have aU:((aa.take k++aV++List.replicate (aa.length - k) (default:aC)).take (k+aV.length)++(aa.drop k).take (aa.length - k)++(aa.take k++aV++List.replicate (aa.length - k) (default:aC)).drop (k+aV.length+((aa.drop k).take (aa.length - k)).length))=aa.take k++aV++aa.drop k:=by
   have j9:(aa.take k++aV).length=k+aV.length:=by simp;omega
   have dh:(aa.drop k).take (aa.length - k)=aa.drop k:=List.take_of_length_le (by simp);have ic:(aa.take k++aV++List.replicate (aa.length - k) (default:aC)).drop (k+aV.length+(aa.drop k).length)= []:=List.drop_eq_nil_of_le (by rw [List.length_append,j9,List.length_replicate,List.length_drop];omega);rw [dh,List.take_left' j9,ic,List.append_nil]
  refine aj.dN (L2:= [⟨some av,.row 54 ((aa.take k++aV++List.replicate (aa.length - k) (default:aC)).take (k+aV.length)++(aa.drop k).take (aa.length - k)++(aa.take k++aV++List.replicate (aa.length - k) (default:aC)).drop (k+aV.length+((aa.drop k).take (aa.length - k)).length)) dv⟩,⟨some p,.row 54 aa fr⟩,⟨some q,.row 54 aV y4⟩]) rfl ?_;rw [aU];refine aj.le (E':= [(9,I.eq (aJ (some av) (k+(aa.length+aV.length - k)) dv))]) (.same rfl .nil) (aj.next (aw.seq (aw.fv (J.v (cG (ae rfl)) rfl rfl rfl (J.v (c5 (ae rfl)) rfl rfl rfl (J.nil (aj.next (aw.ret ?_))))))));have cz:k+(aa.length+aV.length - k)=(aa.take k++aV++aa.drop k).length:=by simp;omega
  rw [cz];repeat (apply aj.ret)
  exact aj.eh (some av,dv) (.cons_cons _ (List.nil_sublist _)) rfl rfl (dw rfl)
 have BX:aa.length+aV.length≤fr:=by rw [hw] at eR;simp only [decide_eq_false_iff_not] at eR;omega
 have sZ:maxLen=9223372036854775807:=rfl;have ug:bk ((k:Int)+(aV.length:Int))=((k+aV.length:Nat):Int):=by rw [gA (by omega) (by omega)];simp
 refine aw.skip (aj.next (aw.seq (aw.fv (J.v (cG (ae rfl)) rfl rfl rfl (J.v (cG (ae rfl)) rfl rfl rfl (J.v (cG (ae rfl)) rfl rfl rfl (J.v (j6 (ae rfl) (ae rfl)) rfl rfl rfl (J.v (uK (α:=aC) (m:=0) (h:=aa.length+aV.length) underlying43 eZ (ae rfl) .none (.some (ae rfl)) rfl hw ⟨by omega,by omega⟩) rfl rfl rfl ?_))))))));refine J.v (c5 (ae rfl)) rfl rfl rfl (J.nil (aj.next (aw.seq (aw.seq (aw.fv (J.v (cG (ae rfl)) rfl rfl rfl (J.v (cG (ae rfl)) rfl rfl rfl (J.v (cG (ae rfl)) rfl rfl rfl (J.v (cG (ae rfl)) rfl rfl rfl (J.v (j6 (ae rfl) (ae rfl)) rfl rfl rfl (J.v (uK (α:=aC) (p:=p) (n:=aa.length+aV.length) (cap:=fr) (m:=k+aV.length) (h:=aa.length+aV.length) underlying43 eZ (IP (size:=ah.size aC) (ae rfl)) (.some (ae rfl)) .none ug rfl ⟨by omega,by omega⟩) rfl rfl rfl ?_)))))))))));refine J.v (ahE (α:=aC) (p:=p) (q:=q) (T:=54) (U:=54) (xs:=aa) (vs:=aV) (cap:=fr) (cap':=y4) (i:=0) (j:=1) (tR:=4) (by kernel_rfl) func275 (by kernel_rfl) (by kernel_rfl) (by kernel_rfl) (by kernel_rfl) underlying43 eZ (ae rfl) (MJ (p:=p) (lo:=k+aV.length) (cap:=fr) (size:=ah.size aC) (by omega) (ae rfl)) rfl rfl JX (by omega)) rfl rfl rfl ?_;refine J.v (sG (ae rfl)) rfl rfl rfl (J.nil (aj.next (aw.cond (ae rfl) (fun _=>?_) (fun gF=>by cases gF))));have s0:(aa.length+aV.length - 0)=aa.length+aV.length:=by omega
 have XN:(aa.drop k).take (aa.length - k)=aa.drop k:=List.take_of_length_le (by simp);refine aw.seq (aw.le (E':= [(0,I.eq (iY (some p) 0 (aa.length+aV.length - 0) fr (ah.size aC))),(1,I.of (k:Int)),(2,I.eq (aJ (some q) aV.length y4)),(7,I.of (aV.length:Int))]) .all ?_);refine aw.Kv mixed (ay 69 [] [] (I.eq (iY (some p) 0 (aa.length+aV.length - 0) fr (ah.size aC)))::ay 70 [] [] (I.of (k:Int))::ay 71 [] [] (I.of (aV.length:Int))::ay 72 [1,2] [] (I.of (bk ((k:Int)+(aV.length:Int))))::ay 73 [0,3] [] (I.eq (iY (some p) (k+aV.length) (aa.length+aV.length - (k+aV.length)) fr (ah.size aC)))::ay 74 [] [] (I.eq (iY (some p) 0 (aa.length+aV.length - 0) fr (ah.size aC)))::ay 75 [] [] (I.of (k:Int))::ay 76 [5,6] [] (I.eq (iY (some p) k (aa.length+aV.length - k) fr (ah.size aC)))::⟨some 77,[4,7],[0],[0],fun _=>I.of ((((aa.drop k).take (aa.length - k)).length:Nat):Int),fun _ _=>⟨some p,.FV 54 aa k aV.length fr⟩⟩::[]) [0,1,2,7] ⟨?_,?_,?_,?_,?_,?_,?_,?_,?_,trivial⟩ fun hd=>?_
 ·exact jR rfl rfl rfl fun hd E' L' aE aq=>cG (ae (aE _ _ rfl))
 ·exact jR rfl rfl rfl fun hd E' L' aE aq=>cG (ae (aE _ _ rfl))
 ·exact jR rfl rfl rfl fun hd E' L' aE aq=>cG (ae (aE _ _ rfl))
 ·exact jR rfl rfl rfl fun hd E' L' aE aq=>j6 (ae (aE _ _ rfl)) (ae (aE _ _ rfl))
 ·exact jR rfl rfl rfl fun hd E' L' aE aq=>uK (α:=aC) (n:=aa.length+aV.length) (m:=k+aV.length) (h:=aa.length+aV.length) underlying43 eZ (IP (size:=ah.size aC) (ae (aE _ _ rfl))) (.some (ae (aE _ _ rfl))) .none ug rfl ⟨by omega,by omega⟩
 ·exact jR rfl rfl rfl fun hd E' L' aE aq=>cG (ae (aE _ _ rfl))
 ·exact jR rfl rfl rfl fun hd E' L' aE aq=>cG (ae (aE _ _ rfl))
 ·exact jR rfl rfl rfl fun hd E' L' aE aq=>uK (α:=aC) (n:=aa.length+aV.length) (m:=k) (h:=aa.length+aV.length) underlying43 eZ (IP (size:=ah.size aC) (ae (aE _ _ rfl))) (.some (ae (aE _ _ rfl))) .none rfl rfl ⟨by omega,by omega⟩
 ·intro hd E' L' aE aq;have bq:=aq 0 _ rfl rfl;refine J.Jh (i:=0) (p:=p) (off:=(k+aV.length) * ah.size aC) (T:=54) (vs:=(aa.drop k).take (aa.length - k)) (N:=aa.length+aV.length - k) (dLen:=aa.length+aV.length - (k+aV.length)) (dCap:=fr - (k+aV.length)) (cp':= .FV 54 aa k aV.length fr) underlying43 eZ (MJ (p:=p) (lo:=k+aV.length) (cap:=fr) (size:=ah.size aC) (by omega) (ae (aE _ _ rfl))) (Iw (i:=0) (ae (aE _ _ rfl)) bq (by omega) (by omega)) (by rw [XN];rw [show(aa.drop k).length=aa.length+aV.length - (k+aV.length) by simp;omega];exact Nat.min_eq_right (by omega)) bq rfl (fun A W o cells h cL=>aew hk BX h (by rw [← XN];exact cL)) ?_;exact J.nil (aj.fin (cP []) rfl rfl)
 refine aj.dN (L2:= [⟨some p,.FV 54 aa k aV.length fr⟩,⟨some q,.row 54 aV y4⟩]) rfl (aj.le (E':= [(0,I.eq (iY (some p) 0 (aa.length+aV.length - 0) fr (ah.size aC))),(1,I.of (k:Int)),(2,I.eq (aJ (some q) aV.length y4))]) .all (aj.next (aw.seq (aw.fv (J.v (cG (ae rfl)) rfl rfl rfl (J.v (cG (ae rfl)) rfl rfl rfl ?_))))));refine J.v (uK (α:=aC) (n:=aa.length+aV.length) (m:=k) (h:=aa.length+aV.length) underlying43 eZ (IP (size:=ah.size aC) (ae rfl)) (.some (ae rfl)) .none rfl rfl ⟨by omega,by omega⟩) rfl rfl rfl ?_;refine J.v (cG (ae rfl)) rfl rfl rfl (J.Jh (i:=0) (p:=p) (off:=k * ah.size aC) (dLen:=aa.length+aV.length - k) (dCap:=fr - k) (N:=aV.length) (vs:=aV) (T:=54) (cp':= .row 54 (aa.take k++aV++aa.drop k) fr) underlying43 eZ (MJ (p:=p) (lo:=k) (cap:=fr) (size:=ah.size aC) (by omega) (ae rfl)) (Tx (i:=1) (ae rfl) rfl bb) (Nat.min_eq_left (by omega)) rfl rfl (fun A W o cells h cL=>adv hk h cL) ?_);refine J.nil (aj.next (aw.seq (aw.fv (J.v (cG (ae rfl)) rfl rfl rfl (J.v (c5 (ae rfl)) rfl rfl rfl (J.nil (aj.next (aw.ret ?_))))))));have cz:aa.length+aV.length - 0=(aa.take k++aV++aa.drop k).length:=by simp;omega
 rw [Bm,cz];repeat (apply aj.ret)
 exact aj.eh (some p,fr) (.cons_cons _ (List.nil_sublist _)) rfl rfl (dw rfl)
theorem abb {hp aa ai aV c8 Q}(h:A2 hp aa ai aV c8 Q):k6 prog 229 [I.of aa,I.of ai,I.of aV,I.of c8] hp Q:=by
 unfold A2 at h;refine bJ.ofM func229 rfl ntmps229 rfl fun W A=>aM fun bo=>?_;refine ag.br h fun an bx h=>J.fm (dL.gS 1 rfl Vh (Ra bx) ⟨ae rfl,ae rfl,ae rfl,trivial⟩) rfl rfl rfl (go2 (fun h=>?_) (fun h=>?_))
 ·exact aj.JB (aj.eh (⟨⟨(false,hp),h⟩,()⟩: {r // _}×_) (fE 1) rfl rfl (dw rfl))
 refine ag.br h fun aD cc h=>J.fm (dL.gS 1 rfl Vn (Rj cc) ⟨ae rfl,ae rfl,ae rfl,trivial⟩) rfl rfl rfl (go2 (fun bt dn c1 dy h=>?_) (fun bt dn c1 dy cu e5 c2 eR h=>?_))
 ·exact aj.JB (aj.eh (⟨⟨(false,hp),h⟩,()⟩: {r // _}×_) (fE 1) rfl rfl (dw rfl))
 refine xm (γ:=Unit) h 1 [0,1,2,3,5,8,9,16,28,33] (fun m1 g1=>[]) (fun m1 g1=>[]) (fun m1 g1=>aI m1) (fun m1 g1 h=>?_) (fun hm ad h=>?_) (fun hm ad h=>?_)
 ·refine aM fun cY gF bN h=>?_;refine ag.br h fun bf et h=>vx Nz (K9 et) (cv (aw.block ?_));refine acu (σ:=Ref×(aG Cell)) (ε:=Empty) (γ:=Unit) (g0:=()) (Ls:=fun s2 g3=>(aS bN s2.1::aS bo ai::aI s2.2)) (Lx:=fun cQ g3=>Empty.elim cQ) (hq:=fun s2=>s2.2) (fun s2 g3=>[aS bN s2.1,aS bo ai]) (fun cQ=>Empty.elim cQ) rfl NA rfl Z2 h (fun _ _=>rfl) rfl rfl (fun JY s2 R h g3 ql qx qm l D rec FU=>?_) (fun s2 h g3 D=>?_) (fun cQ h g3 D=>?_)
  ·refine aw.fv (dW (J.nil ?_));refine aj.begin 0 rfl FU ?_;refine aM fun dX j8 aL dg gO pJ h=>?_;refine xm (γ:=Unit) h 4 [0,1,2,3,5,8,9,10,11,16,28,33,46,47,54] (fun m2 g4=>[]) (fun m2 g4=>[]) (fun m2 g4=>aI m2) (fun m2 g4 h=>?_) (fun hm ad h=>?_) (fun hm ad h=>?_)
   ·refine aM fun bz dh ke ud h=>?_;exact aj.ajO h () 0 rfl
   ·refine aw.fv (cB 2 gK ?_);refine cH ?_;refine sX Vq Vr (default:ek) .nil ?_;refine J.xa 4 rfl (Cell.gE (default:ek)) (fun _=>rfl) (ae rfl) rfl fun bT pD=>?_;replace h:=ag.pe h bT pD;refine aM fun cR ic h=>?_;exact ag.br h fun jG ue h=>ag.br h fun bH gD h=>J.ns (k':=Cell.gE ({ jG with dA:=eb jG.dA cR (some bT.1:Ref) } :ek)) 4 rfl (((aK.id ek).comp Ao).comp (aK.idx (α:=Ref) 2 cR (dq ic).1)) (v:=(some bT.1:Ref)) gK (ae rfl) (ae rfl) (oF ue) rfl rfl rfl rfl (dc gD) (J.nil (dQ 0 (hm bH () h)))
   exact aw.skip (dQ 0 (hm s2.2 () h))
  ·simp only [Sum.elim_inl] at h;refine aj.db ?_;refine aj.p8 (aj.next (aw.seq (ag.br h fun pV Co h=>ag.br h fun v8 FW h=>ag.br h fun cE tV h=>aw.BV mixed 9 (bG 9 0) rfl rfl (aQ.bL (γ:=Unit) [3,8,10] 0 3 3 (bG 9 63) (fun j3=>[(69,I.of s2.1),(70,I.of c8)]) (fun j3=>[]) (fun j3=>aI cE) (fun j3=>?_) (fun sI=>?_)))))
   ·refine aQ.tail 6 rfl (by kernel_rfl) ?_;refine aM fun P3 arZ h=>?_;refine ag.br h fun CL XO h=>ag.br h fun hZ Fk h=>J.ns (k':=Cell.gE ({ CL with kA:=c8 } :ek)) 3 rfl ((aK.id ek).comp HH) (v:=c8) bR (ae rfl) (ae rfl) (oF XO) rfl rfl rfl rfl (dc Fk) (aM ?_);refine aj.JC 0 rfl rfl ?_;exact aj.eh (⟨⟨(true,hZ),h⟩,()⟩: {r // _}×_) (fE 3) rfl rfl (dw rfl)
   refine aQ.bL (γ:=Unit) [3,8,10] 0 3 4 (bG 9 61) (fun kK=>[(70,I.of c8)]) (fun kK=>[]) (fun kK=>aI cE) (fun kK=>?_) (fun p9=>?_)
   ·refine aQ.s1 1 ?_
    ·refine cB 1 gK ?_;exact J.a1 (sI ())
   refine aQ.bL (γ:=Unit) [3,8,10] 0 3 4 (bG 9 59) (fun kL=>[(69,I.of s2.1)]) (fun kL=>[]) (fun kL=>aI cE) (fun kL=>?_) (fun rO=>?_)
   ·refine aQ.s1 2 ?_
    ·refine cH ?_;exact J.a1 (sI ())
   refine aQ.bL (γ:=Unit) [3,8,10] 0 3 4 (bG 9 31) (fun pj=>[(69,I.of s2.1),(70,I.of c8),(72,I.eq (.pointer (some ⟨pV,0+2,none⟩)))]) (fun pj=>[]) (fun pj=>aI s2.2) (fun pj=>?_) (fun qU=>?_)
   ·refine aQ.s1 5 ?_
    ·exact J.ns (k':=Cell.gE ({ v8 with ga:=true } :ek)) 3 rfl ((aK.id ek).comp yc) (v:=true) l9 (ae rfl) (hn true) (oF FW) rfl rfl rfl rfl (dc tV) (J.a1 (sI ()))
   refine aQ.bL (γ:=Unit) [3,8,10] 0 3 5 (bG 9 57) (fun kx=>[]) (fun kx=>[]) (fun kx=>aI cE) (fun kx=>?_) (fun rP=>?_)
   ·refine aQ.s2 1 2 ?_ ?_
    ·refine cB 1 gK ?_;exact J.a1 (rO ())
    refine cH ?_;exact J.a1 (p9 ())
   refine aQ.bL (γ:=Unit) [3,8,10] 0 3 5 (bG 9 29) (fun jC=>[(70,I.of c8),(72,I.eq (.pointer (some ⟨pV,0+2,none⟩)))]) (fun jC=>[]) (fun jC=>aI s2.2) (fun jC=>?_) (fun qa=>?_)
   ·refine aQ.s2 1 5 ?_ ?_
    ·refine cB 1 gK ?_;exact J.a1 (qU ())
    exact J.ns (k':=Cell.gE ({ v8 with ga:=true } :ek)) 3 rfl ((aK.id ek).comp yc) (v:=true) l9 (ae rfl) (hn true) (oF FW) rfl rfl rfl rfl (dc tV) (J.a1 (p9 ()))
   refine aQ.bL (γ:=Unit) [3,8,10] 0 3 5 (bG 9 27) (fun kh=>[(69,I.of s2.1),(72,I.eq (.pointer (some ⟨pV,0+2,none⟩)))]) (fun kh=>[]) (fun kh=>aI s2.2) (fun kh=>?_) (fun n4=>?_)
   ·refine aQ.s2 2 5 ?_ ?_
    ·refine cH ?_;exact J.a1 (qU ())
    exact J.ns (k':=Cell.gE ({ v8 with ga:=true } :ek)) 3 rfl ((aK.id ek).comp yc) (v:=true) l9 (ae rfl) (hn true) (oF FW) rfl rfl rfl rfl (dc tV) (J.a1 (rO ()))
   refine aQ.bL (γ:=Unit) [3,8,10] 0 3 5 (bG 9 15) (fun ji=>[(69,I.of s2.1),(70,I.of c8),(71,I.bE pV)]) (fun ji=>[]) (fun ji=>aI s2.2) (fun ji=>?_) (fun oK=>?_)
   ·refine aQ.s1 4 ?_
    ·refine di (bY EK.fd) ?_;exact J.a1 (qU ())
   refine aQ.bL (γ:=Unit) [3,8,10] 0 3 6 (bG 9 25) (fun hP=>[(72,I.eq (.pointer (some ⟨pV,0+2,none⟩)))]) (fun hP=>[]) (fun hP=>aI s2.2) (fun hP=>?_) (fun oL=>?_)
   ·refine aQ.iC [1,2,5] ⟨⟨_,rfl,?_⟩,⟨_,rfl,?_⟩,⟨_,rfl,?_⟩,trivial⟩
    ·refine cB 1 gK ?_;exact J.a1 (n4 ())
    ·refine cH ?_;exact J.a1 (qa ())
    exact J.ns (k':=Cell.gE ({ v8 with ga:=true } :ek)) 3 rfl ((aK.id ek).comp yc) (v:=true) l9 (ae rfl) (hn true) (oF FW) rfl rfl rfl rfl (dc tV) (J.a1 (rP ()))
   refine aQ.bL (γ:=Unit) [3,8,10] 0 3 6 (bG 9 13) (fun h7=>[(70,I.of c8),(71,I.bE pV)]) (fun h7=>[]) (fun h7=>aI s2.2) (fun h7=>?_) (fun nw=>?_)
   ·refine aQ.s2 1 4 ?_ ?_
    ·refine cB 1 gK ?_;exact J.a1 (oK ())
    refine di (bY EK.fd) ?_;exact J.a1 (qa ())
   refine aQ.bL (γ:=Unit) [3,8,10] 0 3 6 (bG 9 11) (fun jO=>[(69,I.of s2.1),(71,I.bE pV)]) (fun jO=>[]) (fun jO=>aI s2.2) (fun jO=>?_) (fun ob=>?_)
   ·refine aQ.s2 2 4 ?_ ?_
    ·refine cH ?_;exact J.a1 (oK ())
    refine di (bY EK.fd) ?_;exact J.a1 (n4 ())
   refine aQ.bL (γ:=Unit) [3,8,10] 0 3 6 (bG 9 7) (fun iv=>[(68,I.of s2.1),(69,I.of s2.1),(70,I.of c8)]) (fun iv=>[]) (fun iv=>aI s2.2) (fun iv=>?_) (fun pz=>?_)
   ·refine aQ.s1 3 ?_
    ·refine bj (e4 (fg (ae rfl) Co)) ?_;exact J.a1 (oK ())
   refine aQ.bL (γ:=Unit) [3,8,10] 0 3 7 (bG 9 6) (fun jP=>[(69,I.of s2.1),(70,I.of c8)]) (fun jP=>[]) (fun jP=>aI s2.2) (fun jP=>?_) (fun oc=>?_)
   ·refine aQ.s1 0 ?_
    ·refine cB 1 gK ?_;exact J.a1 (pz ())
   refine aQ.bL (γ:=Unit) [3,8,10] 0 3 7 (bG 9 9) (fun iw=>[(71,I.bE pV)]) (fun iw=>[]) (fun iw=>aI s2.2) (fun iw=>?_) (fun oP=>?_)
   ·refine aQ.iC [1,2,4] ⟨⟨_,rfl,?_⟩,⟨_,rfl,?_⟩,⟨_,rfl,?_⟩,trivial⟩
    ·refine cB 1 gK ?_;exact J.a1 (ob ())
    ·refine cH ?_;exact J.a1 (nw ())
    refine di (bY EK.fd) ?_;exact J.a1 (oL ())
   refine aQ.bL (γ:=Unit) [3,8,10] 0 3 7 (bG 9 5) (fun lk=>[(68,I.of s2.1),(70,I.of c8)]) (fun lk=>[]) (fun lk=>aI s2.2) (fun lk=>?_) (fun pA=>?_)
   ·refine aQ.s2 1 3 ?_ ?_
    ·refine cB 1 gK ?_;exact J.a1 (pz ())
    refine bj (e4 (fg (ae rfl) Co)) ?_;exact J.a1 (nw ())
   refine aQ.bL (γ:=Unit) [3,8,10] 0 3 7 (bG 9 3) (fun iU=>[(68,I.of s2.1),(69,I.of s2.1)]) (fun iU=>[]) (fun iU=>aI s2.2) (fun iU=>?_) (fun qY=>?_)
   ·refine aQ.s2 2 3 ?_ ?_
    ·refine cH ?_;exact J.a1 (pz ())
    refine bj (e4 (fg (ae rfl) Co)) ?_;exact J.a1 (ob ())
   refine aQ.bL (γ:=Unit) [3,8,10] 0 3 8 (bG 9 4) (fun ix=>[(70,I.of c8)]) (fun ix=>[]) (fun ix=>aI s2.2) (fun ix=>?_) (fun sQ=>?_)
   ·refine aQ.s2 0 1 ?_ ?_
    ·refine cB 1 gK ?_;exact J.a1 (pA ())
    refine cB 1 gK ?_;exact J.a1 (oc ())
   refine aQ.bL (γ:=Unit) [3,8,10] 0 3 8 (bG 9 2) (fun ll=>[(69,I.of s2.1)]) (fun ll=>[]) (fun ll=>aI s2.2) (fun ll=>?_) (fun sR=>?_)
   ·refine aQ.s2 0 2 ?_ ?_
    ·refine cB 1 gK ?_;exact J.a1 (qY ())
    refine cH ?_;exact J.a1 (oc ())
   refine aQ.bL (γ:=Unit) [3,8,10] 0 3 8 (bG 9 1) (fun ln=>[(68,I.of s2.1)]) (fun ln=>[]) (fun ln=>aI s2.2) (fun ln=>?_) (fun sS=>?_)
   ·refine aQ.iC [1,2,3] ⟨⟨_,rfl,?_⟩,⟨_,rfl,?_⟩,⟨_,rfl,?_⟩,trivial⟩
    ·refine cB 1 gK ?_;exact J.a1 (qY ())
    ·refine cH ?_;exact J.a1 (pA ())
    refine bj (e4 (fg (ae rfl) Co)) ?_;exact J.a1 (oP ())
   refine aQ.iC [0,1,2] ⟨⟨_,rfl,?_⟩,⟨_,rfl,?_⟩,⟨_,rfl,?_⟩,trivial⟩
   ·refine cB 1 gK ?_;exact J.a1 (sS ())
   ·refine cB 1 gK ?_;exact J.a1 (sR ())
   refine cH ?_;exact J.a1 (sQ ())
  exact Empty.elim cQ
 ·refine aw.fv (cH ?_);refine sX Vq Vr (default:ek) .nil ?_;refine J.xa 1 rfl (Cell.gE (default:ek)) (fun _=>rfl) (ae rfl) rfl fun a2 oh=>?_;replace h:=ag.pe h a2 oh;refine aM ?_;exact ag.br h fun xK Cr h=>ag.br h fun uh Og h=>J.ns (k':=Cell.k1 ({ xK with eX:=(some a2.1:Ref) } :hl)) 1 rfl ((aK.id hl).comp HD) (v:=(some a2.1:Ref)) gK (ae rfl) (ae rfl) (wQ Cr) rfl rfl rfl rfl (dc Og) (J.nil (dQ 0 (hm uh () h)))
 exact aw.skip (dQ 0 (hm hp () h))
theorem ZD {aa ai aV r}(h:Ar aa ai aV=some r):dZ prog 266 [I.ptr aa,I.of ai,I.of aV] (I.of r):=by
 unfold Ar at h;refine dZ.of func266 rfl ntmps266 rfl fun W A=>?_;refine aM fun bo bN=>?_;refine az h fun an bx h=>aw.fy 7 ?_;refine aM (fun h=>?_);refine az h fun aD cc h=>aw.fy 7 ?_;exact go
theorem K4 {aa ai bV r}(h:wA aa ai=some r):mi prog 77 [I.bE bV,I.of ai] bV aa (I.bP [I.of r.1,I.of r.2]) aa:=by
 unfold wA at h;refine bJ.of func77 rfl ntmps77 rfl fun W A=>?_;refine aM fun bo bN=>?_;refine az h fun ar ak h=>fD (γ:=Unit) (δ:=Unit) ak [0,1,3,4,11,12] (fun s1 g1=>[(5,I.of false),(13,I.of s1)]) (fun s1 g1=>[]) (fun av=>Sum.elim (fun av=>Exit.exit 0) (fun av=>Exit.ret) av) (fun av g1=>Sum.elim (fun av=>[(5,I.of false),(13,I.of av.1),(14,I.of av.2)]) (fun av=>[(5,I.of av.1),(13,I.of av.2.1),(14,I.of av.2.2.1),(20,I.of av.2.2.2.1)]) av) (fun av g1=>Sum.elim (fun av=>[]) (fun av=>[(0,aS bN av.2.2.2.2)]) av) () (fun s1 r h g1=>?_) fun g1=>?_
 ·exact go
 rcases ar with ar | ar
 ·simp only [Sum.elim_inl] at h;exact go
 simp only [Sum.elim_inr] at h;exact go
theorem Ri {aa ai bV r}(h:AT aa ai=some r):mi prog 79 [I.bE bV,I.of ai] bV aa (I.bP []) r:=by
 unfold AT at h;refine bJ.of func79 rfl ntmps79 rfl fun W A=>?_;refine aM fun bo=>?_;refine az h fun ar ak h=>fD (γ:=Unit) (δ:=Unit) ak [0,1,3] (fun s1 g1=>[(4,I.of s1)]) (fun s1 g1=>[]) (fun av=>Exit.exit 0) (fun av g1=>[(4,I.of av.1),(13,I.of av.2)]) (fun av g1=>[]) () (fun s1 r h g1=>?_) fun g1=>?_
 ·refine aM (fun h=>?_);refine az h fun aL dg h=>az h fun an bx h=>az h fun aD cc h=>fk [0,1,3,4,7,8,9,10,11,12,13] ?_;refine aw.cn 2 (ay 14 [] [] _::ay 15 [] [] _::ay 16 [1] [] _::ay 17 [2] [] _::ay 18 [3] [1] _::ay 19 [] [] _::ay 20 [4,5] [] _::ay 21 [6] [] _::ay 22 [7] [] _::ay 23 [0,8] [1] (I.of an)::ay 24 [] [] _::ay 25 [] [] _::ay 26 [11] [0] _::ay 27 [10,12] [1] (I.of aD)::ay 5 [9] [] _::ay 6 [13] [] _::[]) (dG ?_ (dG ?_ h3)) (fun cZ=>?_)
  ·intro hd E' L' aE aq b3;exact J.fm (dL.call [1] Fq (DO bx) ⟨ae (aE _ _ rfl),ae (aE _ _ rfl),trivial⟩ rfl ⟨(aq 1 _ rfl rfl),trivial⟩ rfl) rfl rfl rfl (J.nil (aj.fin (cP []) rfl rfl))
  ·intro hd E' L' aE aq b3;exact J.fm (dL.call [1] Fq (DO cc) ⟨ae (aE _ _ rfl),ae (aE _ _ rfl),trivial⟩ rfl ⟨(aq 1 _ rfl rfl),trivial⟩ rfl) rfl rfl rfl (J.nil (aj.fin (cP []) rfl rfl))
  refine aj.dN (L2:= [aS bo ai,aS bV aa]) rfl (fF (aj.next (aw.seq (aw.seq ?_))));refine az h fun bz dh h=>az h fun bf et h=>aw.ml mixed 22 (rg 28 22) [[],[],[0,1],[2],[3],[3],[3,4,5],[3,6],[7],[7,8],[7,9],[7,10],[7],[7,11,12],[7,13],[7,14],[7],[7,16],[7,15,17],[7,18],[3,7,19],[3,20]] [_,_,_,_,_,_,_,_,_,_,_,_,_,_,_,_,_,_,_,_,_,_] ⟨gj,gj,nc BR,gj,fG fun L' aq=>fun hb=>cG (ae rfl),fG fun L' aq=>fun hb=>cG (ae rfl),fG fun L' aq=>fun hb=>sC (cD rfl hb) (cD rfl hb),fG fun L' aq=>fun hb=>cG (cD rfl hb),fun L' aq=>h4.gg (fun hb=>cG (ae rfl)) rfl rfl rfl,fun L' aq=>h4.gg (fun hb=>e4 (cD rfl hb)) rfl rfl rfl,fun L' aq=>h4.gg (fun hb=>bY IQ.fd (cD rfl hb)) rfl rfl rfl,fun L' aq=>h4.gg (fun hb=>gz (i:=1) ((aK.id bX).comp uC) (r:=aa.bK) py (cD rfl hb) (aq _ _ rfl rfl) rfl rfl) rfl rfl rfl,fun L' aq=>h4.gg (fun hb=>cG (ae rfl)) rfl rfl rfl,fun L' aq=>h4.gg (fun hb=>rN (k:=bz) underlying43 eZ (cD rfl hb) (cD rfl hb) (dq (fA dh (decide_eq_true hb)))) rfl rfl rfl,fun L' aq=>h4.gg (fun hb=>y1 Da MK.fd (cD rfl hb) rfl rfl) rfl rfl rfl,fun L' aq=>h4.gg (fun hb=>k9 eU (cD rfl hb)) rfl rfl rfl,fun L' aq=>h4.gg (fun hb=>bY MK.fd (ae rfl)) rfl rfl rfl,fun L' aq=>h4.gg (fun hb=>gz (i:=0) ((aK.id aC).comp Da) (r:=ai.aY) eU (cD rfl hb) (aq _ _ rfl rfl) rfl rfl) rfl rfl rfl,fun L' aq=>h4.gg (fun hb=>la ahF (Ro (fA et (decide_eq_true hb))) ⟨cD rfl hb,cD rfl hb,trivial⟩) rfl rfl rfl,fun L' aq=>h4.gg (fun hb=>BR (cD rfl hb) (c9 0)) rfl rfl rfl,fG fun L' aq=>fun hb=>y2 (cD rfl hb) (ae rfl) (fun h=>⟨hb,h⟩),gu fun aq=>vl (ae rfl) (ae rfl) (fun h=>h),trivial⟩ ?_;exact go
 refine aj.mP (aj.next (az h fun bu fl h=>az h fun cd hE h=>az h fun b9 hS h=>az h fun cC lT h=>az h fun b1 nF h=>aw.mT 1 (fk [0,1,3,4,13] ?_)));refine aw.cn 3 (ay 52 [] [] _::⟨some 53,[],[2],[2],fun hd=>I.eq (aJ (hd 1 0) ([]:List aC).length 0),fun hd _=>⟨(hd 1 0),.row 54 ([]:List aC) 0⟩⟩::ay 54 [] [] _::ay 55 [2] [] _::ay 56 [3] [] _::ay 57 [4] [1] _::ay 58 [] [] _::ay 59 [5,6] [] (I.of bu)::⟨some 60,[1,7],[2],[2],fun hd=>I.eq (aJ (hd 8 0) cd.length ((hd 8 1).getD 0)),fun hd _=>⟨(hd 8 0),.row 54 cd ((hd 8 1).getD 0)⟩⟩::ay 61 [] [0] _::ay 62 [9] [] _::⟨some 63,[1,8,10],[2],[2],fun hd=>I.eq (aJ (hd 11 0) b9.length ((hd 11 1).getD 0)),fun hd _=>⟨(hd 11 0),.row 54 b9 ((hd 11 1).getD 0)⟩⟩::ay 64 [] [] _::ay 65 [12] [] _::ay 66 [13] [] _::ay 67 [14] [1] _::ay 68 [] [] _::ay 69 [15,16] [] (I.of cC)::⟨some 70,[1,8,11,17],[2],[2],fun hd=>I.eq (aJ (hd 18 0) b1.length ((hd 18 1).getD 0)),fun hd _=>⟨(hd 18 0),.row 54 b1 ((hd 18 1).getD 0)⟩⟩::ay 71 [0] [] _::ay 72 [19] [] _::⟨none,[1,5,8,11,15,18,20],[1,2],[1,2],fun _=>I.any,fun hd j=>bif Nat.beq j 1 then(aS bV ({ aa with bK:=b1 } :bX)) else⟨none,.dead⟩⟩::[]) (dG ?_ (dG ?_ (dG ?_ (dG ?_ (dG ?_ (dG ?_ (dG ?_ h3))))))) (fun fN=>?_)
 ·intro hd E' L' aE aq b3;exact J.oN (α:=aC) (r:=([]:List aC)) underlying43 eZ fC rfl rfl (.nil) rfl fun ea=>J.nil (aj.place 2 (aq 2 _ rfl rfl) (aj.fin (cP [ea]) rfl rfl))
 ·exact ei.q (o2 fun hd E' L' aE aq=>yI underlying43 eZ (ae (aE _ _ rfl)) .none (.some (ae (aE _ _ rfl))) fl)
 ·intro hd E' L' aE aq b3;refine J.app (i:=2) underlying43 eZ fC (bytes:=88) (by kernel_rfl) (ae (aE _ _ rfl)) (aq 2 _ rfl rfl) (ae (aE _ _ rfl)) hE rfl fun iy dv=>?_;exact J.nil (aj.fin (cP [iy,some dv]) rfl rfl)
 ·intro hd E' L' aE aq b3;refine J.app (i:=2) underlying43 eZ fC (bytes:=88) (by kernel_rfl) (ae (aE _ _ rfl)) (aq 2 _ rfl rfl) (ae (aE _ _ rfl)) hS rfl fun lO lN=>?_;exact J.nil (aj.fin (cP [lO,some lN]) rfl rfl)
 ·exact ei.q (o2 fun hd E' L' aE aq=>yI underlying43 eZ (ae (aE _ _ rfl)) (.some (ae (aE _ _ rfl))) .none lT)
 ·intro hd E' L' aE aq b3;refine J.app (i:=2) underlying43 eZ fC (bytes:=88) (by kernel_rfl) (ae (aE _ _ rfl)) (aq 2 _ rfl rfl) (ae (aE _ _ rfl)) nF rfl fun qW qf=>?_;exact J.nil (aj.fin (cP [qW,some qf]) rfl rfl)
 ·intro hd E' L' aE aq b3;refine J.aex (i:=1) (j:=2) (xs:=b1) (b':=({ aa with bK:=b1 } :bX)) ((aK.id bX).comp uC) py (aE _ _ rfl) rfl (aE _ _ rfl) (aq 1 _ rfl rfl) (aq 2 _ rfl rfl) rfl rfl rfl (J.nil ?_);exact aj.fin (cP []) rfl rfl
 refine aj.dN (L2:= [aS bo ai,aS bV ({ aa with bK:=b1 } :bX),⟨none,.dead⟩]) rfl (fF ?_);exact aj.bm 2 rfl (aj.k0 go)
theorem Rb {aa ai bV r}(h:AO aa ai=some r):mi prog 78 [I.bE bV,I.of ai] bV aa (I.bP []) r:=by
 unfold AO at h;refine bJ.of func78 rfl ntmps78 rfl fun W A=>cm (pE fun bo=>jF ?_);refine J.own (α:=aC) 54 (bj (c5 lK) ?_);refine aM ?_;refine az h fun ar ak h=>fD (γ:=(Option Nat×Nat)) (δ:=(Option Nat×Nat)) ak [0,1,3,10,11] (fun s1 g1=>[(4,I.eq (aJ g1.1 s1.2.length g1.2)),(12,I.of s1.1)]) (fun s1 g1=>[(0,⟨g1.1,.row 54 s1.2 g1.2⟩)]) (fun av=>Exit.exit 0) (fun av g1=>[(4,I.eq (aJ g1.1 av.2.2.length g1.2)),(12,I.of av.1),(13,I.of av.2.1)]) (fun av g1=>[(0,⟨g1.1,.row 54 av.2.2 g1.2⟩)]) (none,0) (fun s1 r h g1=>?_) fun g1=>?_
 ·refine go2 (fun aL dg bN an bx h=>?_) (fun h=>?_)
  ·refine az h fun m1 b4 h=>jS (γ:=(Option Nat×Nat)) [0,1,3,6,10,11,12,13,20] (fun g2=>[(4,I.eq (aJ g2.1 m1.length g2.2))]) (fun g2=>[(1,⟨g2.1,.row 54 m1 g2.2⟩)]) (fun g2=>?_) (fun hm ad=>?_) fun hm ad=>?_
   ·refine aM ?_;cases h;exact ib (g2.1,g2.2) 1
   ·have h:=gk ad b4;refine aM ?_;refine az h fun aD cc h=>ia 1 underlying43 eZ fC cc fun ea dv=>?_;refine dW (J.nil ?_);cases h;exact dQ 0 (hm (ea,dv))
   have h:=gl ad b4;refine aw.skip ?_;cases h;exact dQ 0 (hm (g1.1,g1.2))
  cases h;exact ha (g1.1,g1.2) 0
 refine aM ?_;refine J.j2 (α:=aC) 0 [27,4] ⟨rfl,rfl,trivial⟩ rfl (OP 2 uC py (J.nil ?_));exact aj.k0 go
theorem Z6 {hp aa ai Q}(h:DD hp aa ai Q):zy prog 220 [I.of aa,I.of ai] hp Q:=by
 unfold DD at h;refine bJ.of func220 rfl ntmps220 rfl fun W A=>?_;refine aM fun bo bN an bx b6 b7 h=>?_;refine ag.br h fun bt dn h=>ag.br h fun c1 dy h=>ag.br h fun bn eK h=>bj (uN (r:=bn) underlying202 y3 E8 (kW (ae rfl) dn) (ae rfl) (iK (n:=4) rfl (oG dy) rfl) (dc eK)) ?_;refine bj (yF underlying314 (ae rfl)) (cv ?_);refine xm (γ:=Unit) h 4 [0,1,2,3,4,5,6,19] (fun m1 g1=>[]) (fun m1 g1=>[]) (fun m1 g1=>aI m1) (fun m1 g1 h=>?_) (fun hm ad h=>?_) (fun hm ad h=>?_)
 ·refine aj.next (ag.br h fun c2 eR h=>ag.br h fun z2 hz h=>aw.ml mixed 8 (rg 26 8) [[],[0],[],[1,2],[],[],[],[6]] [_,_,_,_,_,_,_,_] ⟨H1 (bY Ix.fd),kP 3 Am E9,vA 1 BS,gu fun aq=>uN (r:=z2) underlying202 y3 E8 (kW (ae rfl) dn) (ae rfl) (oO (fun i e q=>aq i e q rfl) (iK (n:=4) rfl (oG eR) rfl)) (dc hz),vA 0 hQ,gj,H1 (bY Ud.fd),kP 2 Hd bR,trivial⟩ ?_)
  refine J.dB 4 0 rfl ahG (abb h) rfl rfl ⟨ae rfl,ae rfl,ae rfl,ae rfl,trivial⟩ rfl fun⟨⟨aD,h⟩,av⟩=>J.db (J.nil ?_);exact aj.k0 (aj.nv (⟨⟨aD.2,h⟩,()⟩: {r // _}×_) (fE 4) rfl rfl)
 ·obtain⟨al2,ajP,ajQ⟩:=ag.ex h;refine IH mixed 6 5 25 _ (K:=al2) [some (20,I.eq (.pointer (some ⟨bo,0+2,none⟩))),some (21,I.of aa.qP),some (22,I.of an.1),some (23,I.eq (.pointer (some ⟨bo,0+1,none⟩))),some (24,I.of aa.gR),none] _ [[],[0],[],[],[3],[4]] _ (fun bf=>I.of bf.1) (fun bf=>(aS b7 an.2.1::aS b6 an.1::aS bN ai::aS bo aa::aI bf.2)) rfl rfl rfl rfl rfl rfl (by kernel_rfl) ⟨⟨bY Ix.fd (ae rfl),fun bf xd=>bY Ix.fd (ae rfl)⟩,⟨gz (i:=3) ((aK.id kV).comp Am) (r:=aa.qP) E9 (ae rfl) rfl rfl rfl,fun bf xd=>gz (i:=3) ((aK.id kV).comp Am) (r:=aa.qP) E9 (ae rfl) rfl rfl rfl⟩,⟨gz (i:=1) (aK.id (Vector aX 4)) (r:=an.1) BS (ae rfl) rfl rfl rfl,fun bf xd=>gz (i:=1) (aK.id (Vector aX 4)) (r:=an.1) BS (ae rfl) rfl rfl rfl⟩,⟨bY Ty.fd (ae rfl),fun bf xd=>bY Ty.fd (ae rfl)⟩,⟨gz (i:=3) ((aK.id kV).comp Hf) (r:=aa.gR) bR (ae rfl) rfl rfl rfl,fun bf xd=>gz (i:=3) ((aK.id kV).comp Hf) (r:=aa.gR) bR (ae rfl) rfl rfl rfl⟩,trivial⟩ (fun hB v7 aE bz=>?_) (fun bf xd=>?_)
  ·refine J.dB 4 0 rfl ahH (ab1 ajP) rfl rfl ⟨ae (aE rfl),trivial⟩ rfl fun⟨⟨bf,xd⟩,_⟩=>J.db (J.nil ?_);exact bz bf xd
  have h:=ajQ bf xd;refine J.le (E':= [(0,I.of aa),(1,I.of ai),(2,I.bE bo),(3,I.bE bN),(4,I.bE b6),(5,I.bE b7),(6,I.of an.2.2),(7,I.bP [I.of an.1,I.of an.2.1,I.of an.2.2]),(8,I.of aa),(9,I.eq (.pointer (some ⟨bN,0+0,none⟩))),(10,I.of ai.aY),(11,I.bP [I.of an.1,I.of an.2.1,I.of an.2.2]),(12,I.of an.1),(13,I.of an.2.1),(14,I.of an.2.2),(15,I.eq (.pointer (some ⟨bo,0+2,none⟩))),(16,I.of aa.qP),(17,I.of an.1),(18,I.of bn),(19,I.of bn.isNone),(20,I.eq (.pointer (some ⟨bo,0+2,none⟩))),(21,I.of aa.qP),(22,I.of an.1),(23,I.eq (.pointer (some ⟨bo,0+1,none⟩))),(24,I.of aa.gR),(25,I.of bf.1)]) .all (ag.br h fun cY gF h=>ag.br h fun bH gD h=>?_);refine J.E5 (k':=Cell.nB (gn cY an.1 bf.1)) 4 rfl (by first | exact .inl rfl | exact .inr rfl) underlying202 y3 (kW (ae rfl) dn) (ae rfl) (ae rfl) (oG gF) rfl rfl rfl (dc gD) ?_;exact J.nil (dQ 0 (hm bH () h))
 exact aw.skip (dQ 0 (hm hp () h))
theorem ZE {aa ai bV iS iT r}(h:Dk aa ai=some r):bJ prog 260 [I.bE bV,I.of ai] [⟨some bV,.ch ({ aa with dd:= [] } :eD) [(10,aJ iS aa.dd.length iT)]⟩,⟨iS,.row 54 aa.dd iT⟩] (δ:=(Option Nat×Nat)) (fun d=>I.of r.1) (fun d=>[⟨some bV,.ch ({ r.2 with dd:= [] } :eD) [(10,aJ d.1 r.2.dd.length d.2)]⟩,⟨d.1,.row 54 r.2.dd d.2⟩]):=by
 unfold Dk at h;refine bJ.of func260 rfl ntmps260 rfl fun W A=>?_;refine aM fun bo=>?_;refine bj (IF underlying205 (ae rfl)) ?_;refine aM ?_;refine az h fun an bx h=>kF (fun hb=>bc.ahI (β:=eD) (γ:=aC) (b':=aa) ((aK.id eD).comp AF) 1 2 0 rfl rfl rfl rfl rfl rfl uL (bc.Vs 1 rfl uL (bc.Ji (z:=(aa:eD)) 1 11 rfl (JZ hb) rfl uL (la Vf (ZN (fA bx hb)) ⟨ae rfl,cD rfl hb,trivial⟩)))) ?_;refine go2 (fun h=>?_) (fun h=>?_)
 ·refine aj.bm 2 rfl (aj.bm 2 rfl ?_);cases h;exact qj (iS,iT)
 refine bj (ahJ (ae rfl)) ?_;refine dW (hX ?_);refine az h fun aD cc h=>fk [0,1,3,4,5,8,9,10,11,12,13,14,15,16,17,18] ?_;refine aw.cn 3 (ay 20 [] [] _::ay 21 [0] [] _::ay 22 [1] [] _::ay 23 [2] [1] (I.eq (aJ iS aa.dd.length iT))::ay 24 [] [0] _::ay 25 [] [] _::ay 26 [3,4,5] [1,2] (I.bP [I.of aD.1,I.of aD.2])::ay 19 [6] [] _::ay 27 [7] [] _::ay 28 [7] [] _::ay 6 [8] [] _::ay 7 [9] [] _::[]) (dG ?_ (dG ?_ h3)) (fun cZ=>?_)
 ·exact ei.q (o2 fun hd E' L' aE aq=>ht (i:=1) (q:=0) (β:=eD) (γ:=aC) py (ae (aE _ _ rfl)) (aq 1 _ rfl rfl) rfl)
 ·exact ei.q (o2 fun hd E' L' aE aq=>bc.afI (β:=eD) (γ:=aC) (b':=aa) ((aK.id eD).comp AF) 1 2 0 23 rfl (aq 1 _ rfl rfl) (aq 2 _ rfl rfl) rfl rfl rfl (aE _ _ rfl) (Lu uL Ex) (bc.Vs 1 (OR (XP rfl (aq 1 _ rfl rfl))) (Lu uL Ex) (bc.afJ (F:=(fun a0 bT=>Ar aa a0 bT)) 1 25 (aE _ _ rfl) (OR (OR (XP rfl (aq 1 _ rfl rfl)))) ahK (fun _ _ _ h=>ZD h) (Lu uL Ex) (la ahL (Y7 cc) ⟨ae rfl,ae (aE _ _ rfl),ae rfl,trivial⟩))))
 refine aj.dN (L2:= [aS bo ai,⟨some bV,.ch ({ aa with dd:= [] } :eD) [(10,aJ iS aa.dd.length iT)]⟩,⟨iS,.row 54 aa.dd iT⟩]) rfl (fF (aj.next (aw.seq ?_)));refine az h fun bf et h=>az h fun bu fl h=>aw.mT 1 (fk [0,1,3,4,5,6,7,8,9,10,11,12,13,14,15,16,17,18,19,20,21,22,23,24,25,26,27,28] ?_);refine aw.cn 4 (ay 29 [] [] _::ay 30 [] [] _::ay 31 [1] [] _::ay 32 [2] [] _::ay 33 [3] [1] (I.eq (aJ iS aa.dd.length iT))::ay 34 [] [] _::ay 35 [] [0] _::ay 36 [6] [] _::⟨some 37,[7],[3],[3],fun hd=>I.eq (aJ (hd 8 0) [bf].length 1),fun hd _=>⟨(hd 8 0),.row 54 ([bf]:List aC) 1⟩⟩::⟨some 38,[4,5,8],[2,3],[2,3],fun hd=>I.eq (aJ (hd 9 0) bu.length ((hd 9 1).getD 0)),fun hd j=>bif Nat.beq j 2 then⟨(hd 9 0),.row 54 bu ((hd 9 1).getD 0)⟩ else⟨none,.dead⟩⟩::ay 39 [0] [] _::ay 40 [10] [] _::hA [4,9,11] [1] [1] (fun hd=>⟨some bV,.ch ({ aa with dd:= [] } :eD) [(10,aJ (hd 9 0) bu.length ((hd 9 1).getD 0))]⟩)::[]) (dG ?_ (dG ?_ (dG ?_ (dG ?_ h3)))) (fun fN=>?_)
 ·exact ei.q (o2 fun hd E' L' aE aq=>ht (i:=1) (q:=0) (β:=eD) (γ:=aC) py (ae (aE _ _ rfl)) (aq 1 _ rfl rfl) rfl)
 ·intro hd E' L' aE aq b3;refine J.oN (α:=aC) (r:= [bf]) underlying43 eZ fC rfl rfl (.cons (by simp) (ae (aE _ _ rfl)) (.nil)) rfl fun ea=>?_;exact J.nil (aj.place 3 (aq 3 _ rfl rfl) (aj.fin (cP [ea]) rfl rfl))
 ·intro hd E' L' aE aq b3;refine J.afK (fun q=>⟨q.1,.row 54 bu q.2⟩) 2 3 ahM (Y8 fl) ⟨ae (aE _ _ rfl),ae (aE _ _ rfl),ae (aE _ _ rfl),trivial⟩ rfl (aq 2 _ rfl rfl) (aq 3 _ rfl rfl) (fun _=>rfl) rfl fun⟨iy,dv⟩=>?_;exact J.nil (aj.fin (cP [iy,some dv]) rfl rfl)
 ·intro hd E' L' aE aq b3;refine J.jh (i:=1) (γ:=aC) (b':=({ aa with dd:= [] } :eD)) (os':= [(10,aJ (hd 9 0) bu.length ((hd 9 1).getD 0))]) ((aK.id eD).comp AF) py (ae (aE _ _ rfl)) (ae (aE _ _ rfl)) ir (aq 1 _ rfl rfl) rfl rfl rfl (J.nil ?_);exact aj.fin (cP []) rfl rfl
 refine aj.dN (L2:= [aS bo ai,⟨some bV,.ch ({ aa with dd:= [] } :eD) [(10,aJ (fN 9 0) bu.length ((fN 9 1).getD 0))]⟩,⟨(fN 9 0),.row 54 bu ((fN 9 1).getD 0)⟩,⟨none,.dead⟩]) rfl (fF ?_);refine aj.bm 3 rfl (aM ?_);refine aj.bm 3 rfl (aj.bm 3 rfl ?_);cases h;exact qj ((fN 9 0),((fN 9 1).getD 0))
theorem aaJ {hp aa ai aV r}(h:AP hp aa ai aV=some r):ik prog 230 [I.of aa,I.of ai,I.of aV] hp (I.of r.1) r.2:=by
 unfold AP at h;refine bJ.ofM func230 rfl ntmps230 rfl fun W A=>aM fun bo=>?_;refine az h fun an bx h=>J.fm (dL.gS 1 rfl Vo (Rp bx) ⟨ae rfl,ae rfl,ae rfl,trivial⟩) rfl rfl rfl (cH ?_);refine jU ?_;refine jU ?_;refine dW ?_;refine dW (jF ?_);refine cH ?_;refine di sG (cv ?_);refine nH h (fun h=>?_) fun h=>?_
 ·refine aM ?_;cases h;exact aj.JB (aj.eh () (fE 1) rfl rfl (dw rfl))
 refine l8 (cm (cH ?_));refine az h fun bt dn h=>bj (e4 (fg (ae rfl) dn)) ?_;refine di (bY aey.fd) ?_;refine az h fun c1 dy h=>bj (nq ((aK.id hl).comp HD) (r:=c1.eX) gK (ae rfl) (iK (n:=1) rfl (wQ dy) rfl) rfl rfl) ?_;refine J.oN (α:=Ref) (r:= [c1.eX]) underlying336 gK Vt rfl rfl (.cons (by simp) (ae rfl) (.nil)) rfl fun ea=>?_;refine J.qR (z:=(default:List Ref)) [0] aez ahN rfl fun bN=>J.own (α:=Ref) 326 (J.qR (z:=(default:List Int)) [0] afL ajR rfl fun b6=>J.own (α:=Int) 3 (J.jh (i:=3) (γ:=Ref) (b':=([]:List Ref)) (os':= [(0,aJ ea [c1.eX].length 1)]) (aK.id (List Ref)) w3 (ae rfl) (ae rfl) ir rfl rfl rfl rfl (J.own (α:=Int) 3 (J.jh (i:=2) (γ:=Int) (b':=([]:List Int)) (os':= [(0,aJ none ([]:List Int).length 0)]) (aK.id (List Int)) lq (ae rfl) lK ir rfl rfl rfl rfl ?_))));refine aM ?_;refine az h fun aD cc h=>vx Nz (K9 cc) (cv (aw.block ?_));refine az h fun ar ak h=>R9 (hp:=hp) (γ:=(Option Nat×Nat)×(Option Nat×Nat)) (g0:=((none,0),(ea,1))) (Ls:=fun s1 g1=>(⟨g1.1.1,.row 3 s1.1 g1.1.2⟩::⟨none,.row 3 ([]:List Int) 0⟩::⟨some b6,.ch ([]:List Int) [(0,aJ g1.1.1 s1.1.length g1.1.2)]⟩::⟨none,.row 326 ([]:List Ref) 0⟩::⟨some bN,.ch ([]:List Ref) [(0,aJ g1.2.1 s1.2.length g1.2.2)]⟩::⟨g1.2.1,.row 326 s1.2 g1.2.2⟩::aS bo ai::aI hp)) (Lx:=fun av g1=>Empty.elim av) (fun s1 g1=>[⟨g1.1.1,.row 3 s1.1 g1.1.2⟩,⟨none,.row 3 ([]:List Int) 0⟩,⟨some b6,.ch ([]:List Int) [(0,aJ g1.1.1 s1.1.length g1.1.2)]⟩,⟨none,.row 326 ([]:List Ref) 0⟩,⟨some bN,.ch ([]:List Ref) [(0,aJ g1.2.1 s1.2.length g1.2.2)]⟩,⟨g1.2.1,.row 326 s1.2 g1.2.2⟩,aS bo ai]) (fun av=>Empty.elim av) rfl NA rfl QT ak (fun _ _=>rfl) rfl rfl (fun Cq s1 r h g1 ql qx qm l D rec FU=>?_) (fun s1 aA g1 D=>?_) (fun av aA g1 D=>?_)
 ·refine aw.fv (dW (J.nil ?_));refine aj.begin 0 rfl FU (aw.block ?_);refine az h fun aL dg h=>az h fun cu e5 h=>az h fun bz dh h=>az h fun c2 eR h=>az h fun bf et h=>az h fun bu fl h=>fk [0,1,2,4,6,7,8,9,10,11,14,15,16,17,18,19,20,21,22,23,24,25,26,28,29,30,31,32] ?_;refine aw.cn 9 (ay 33 [] [6] (I.eq (aJ g1.2.1 s1.2.length g1.2.2))::ay 34 [] [6] (I.eq (aJ g1.2.1 s1.2.length g1.2.2))::ay 35 [] [6] (I.eq (aJ g1.2.1 s1.2.length g1.2.2))::ay 36 [2] [7] (I.of (s1.2.length:Int))::ay 37 [3] [] _::ay 38 [1,3,4] [7] (I.eq (.pointer (some ⟨g1.2.1.getD 0,aL * 1,none⟩)))::ay 39 [3,5] [7] (I.of (au s1.2 aL))::ay 40 [] [] _::ay 41 [3,5,6] [] _::ay 42 [3,5,6,8] [] _::ay 43 [3,5,6,7,9] [] _::ay 44 [3,5,6,10] [] _::ay 45 [3,5,6,11] [] _::⟨some 46,[0,3,5,6,12],[7],[7],fun hd=>I.eq (aJ (hd 13 0) bf.length ((hd 13 1).getD 0)),fun hd _=>⟨(hd 13 0),.row 326 bf ((hd 13 1).getD 0)⟩⟩::ay 47 [] [4] (I.eq (aJ g1.1.1 s1.1.length g1.1.2))::ay 48 [] [] _::ay 49 [15] [] _::⟨some 50,[14,16],[2],[2],fun hd=>I.eq (aJ (hd 17 0) bu.length ((hd 17 1).getD 0)),fun hd _=>⟨(hd 17 0),.row 3 bu ((hd 17 1).getD 0)⟩⟩::hA [0,1,2,13] [6] [6] (fun hd=>⟨some bN,.ch ([]:List Ref) [(0,aJ (hd 13 0) bf.length ((hd 13 1).getD 0))]⟩)::hA [14,17] [4] [4] (fun hd=>⟨some b6,.ch ([]:List Int) [(0,aJ (hd 17 0) bu.length ((hd 17 1).getD 0))]⟩)::[]) (dG ?_ (dG ?_ (dG ?_ (dG ?_ (dG ?_ (dG ?_ (dG ?_ (dG ?_ (dG ?_ (dG ?_ (dG ?_ h3))))))))))) (fun cZ=>?_)
  ·exact ei.q (o2 fun hd E' L' aE aq=>ht (i:=6) (q:=0) (β:=List Ref) (γ:=Ref) w3 (ae (aE _ _ rfl)) (aq 6 _ rfl rfl) rfl)
  ·exact ei.q (o2 fun hd E' L' aE aq=>ht (i:=6) (q:=0) (β:=List Ref) (γ:=Ref) w3 (ae (aE _ _ rfl)) (aq 6 _ rfl rfl) rfl)
  ·exact ei.q (o2 fun hd E' L' aE aq=>ht (i:=6) (q:=0) (β:=List Ref) (γ:=Ref) w3 (ae (aE _ _ rfl)) (aq 6 _ rfl rfl) rfl)
  ·exact ei.q (o2 fun hd E' L' aE aq=>mO (i:=7) underlying336 (ae (aE _ _ rfl)) rfl (aq 7 _ rfl rfl))
  ·exact ei.q (o2 fun hd E' L' aE aq=>mw (i:=7) (k:=aL) (xs:=(s1.2:List Ref)) underlying336 gK (ae (aE _ _ rfl)) (ae (aE _ _ rfl)) (aq 7 _ rfl rfl) (dq dg))
  ·exact ei.q (o2 fun hd E' L' aE aq=>qO (i:=7) (k:=aL) (aK.id Ref) (r:=(au s1.2 aL)) gK (ae (aE _ _ rfl)) (aq 7 _ rfl rfl) (dq dg).1 rfl rfl)
  ·intro hd E' L' aE aq b3;refine J.app (i:=7) underlying336 gK Vt (bytes:=8) (by kernel_rfl) (ae (aE _ _ rfl)) (aq 7 _ rfl rfl) (ae (aE _ _ rfl)) et rfl fun iy dv=>?_;exact J.nil (aj.fin (cP [iy,some dv]) rfl rfl)
  ·exact ei.q (o2 fun hd E' L' aE aq=>ht (i:=4) (q:=0) (β:=List Int) (γ:=Int) lq (ae (aE _ _ rfl)) (aq 4 _ rfl rfl) rfl)
  ·intro hd E' L' aE aq b3;refine J.app (i:=2) underlying56 bR hY (bytes:=8) (by kernel_rfl) (ae (aE _ _ rfl)) (aq 2 _ rfl rfl) (ae (aE _ _ rfl)) fl rfl fun lO lN=>?_;exact J.nil (aj.fin (cP [lO,some lN]) rfl rfl)
  ·intro hd E' L' aE aq b3;refine J.jh (i:=6) (γ:=Ref) (b':=([]:List Ref)) (os':= [(0,aJ (hd 13 0) bf.length ((hd 13 1).getD 0))]) (aK.id (List Ref)) w3 (ae (aE _ _ rfl)) (ae (aE _ _ rfl)) ir (aq 6 _ rfl rfl) rfl rfl rfl (J.nil ?_);exact aj.fin (cP []) rfl rfl
  ·intro hd E' L' aE aq b3;refine J.jh (i:=4) (γ:=Int) (b':=([]:List Int)) (os':= [(0,aJ (hd 17 0) bu.length ((hd 17 1).getD 0))]) (aK.id (List Int)) lq (ae (aE _ _ rfl)) (ae (aE _ _ rfl)) ir (aq 4 _ rfl rfl) rfl rfl rfl (J.nil ?_);exact aj.fin (cP []) rfl rfl
  refine aj.dN (L2:=(⟨some l,.is (.loop { rec with state:= .busy })⟩::⟨some D,.gf⟩::⟨(cZ 17 0),.row 3 bu ((cZ 17 1).getD 0)⟩::⟨none,.row 3 ([]:List Int) 0⟩::⟨some b6,.ch ([]:List Int) [(0,aJ (cZ 17 0) bu.length ((cZ 17 1).getD 0))]⟩::⟨none,.row 326 ([]:List Ref) 0⟩::⟨some bN,.ch ([]:List Ref) [(0,aJ (cZ 13 0) bf.length ((cZ 13 1).getD 0))]⟩::⟨(cZ 13 0),.row 326 bf ((cZ 13 1).getD 0)⟩::aS bo ai::aI hp)) rfl (fF ?_);refine aj.p8 ?_;cases h;exact aj.XL (((cZ 17 0),((cZ 17 1).getD 0)),((cZ 13 0),((cZ 13 1).getD 0))) 0 rfl
 ·clear ak;subst aA;simp only [Sum.elim_inl] at h;refine aj.db ?_;refine aj.p8 (aj.next (cm (bj (ht (i:=5) (q:=0) (β:=List Ref) (γ:=Ref) w3 (ae rfl) rfl rfl) ?_)));refine cH ?_;refine az h fun cR ic h=>bj (mw (i:=6) (k:=cR) (xs:=(s1.2:List Ref)) underlying336 gK (ae rfl) (ae rfl) rfl (dq ic)) ?_;refine bj (qO (i:=6) (k:=cR) (aK.id Ref) (r:=(au s1.2 cR)) gK (ae rfl) rfl (dq ic).1 rfl rfl) ?_;refine aM fun dX j8 h=>?_;refine az h fun cY gF h=>az h fun bH gD h=>J.ns (k':=Cell.gE ({ cY with ga:=false } :ek)) 8 rfl ((aK.id ek).comp yc) (v:=false) l9 (ae rfl) (hn false) (oF gF) rfl rfl rfl rfl (dc gD) (aM ?_);refine az h fun gO pJ h=>az h fun cE tV h=>J.ns (k':=Cell.gE ({ gO with kA:=0 } :ek)) 8 rfl ((aK.id ek).comp HH) (v:=(0:Int)) bR (ae rfl) (c9 0) (oF pJ) rfl rfl rfl rfl (dc tV) (aM ?_);refine az h fun aU ak h=>uc (σ:=Int×(aG Cell)) (ε:=(Int×Bool×(aG Cell))) (γ:=Unit) (δ:=Unit) ak 8 [0,1,2,4,6,8,9,10,12,22,31] (fun s2 g2=>[(13,I.of s2.1)]) (fun s2 g2=>[]) (fun s2 g2=>aI s2.2) (fun cQ=>Exit.exit 2) (fun cQ g2=>[(13,I.of cQ.1),(72,I.of cQ.2.1)]) (fun cQ g2=>[]) (fun cQ g2=>aI cQ.2.2) () (fun s2 r h g2=>?_) (fun g2=>?_)
  ·refine aM ?_;refine kF (fun hb=>ht (i:=5) (q:=0) (β:=List Ref) (γ:=Ref) w3 (ae rfl) rfl rfl) ?_;refine aM ?_;refine az h fun hh pF h=>kF (fun hb=>mw (i:=6) (k:=hh) (xs:=(s1.2:List Ref)) underlying336 gK (cD rfl hb) (cD rfl hb) rfl (dq (fA pF hb))) ?_;refine kF (fun hb=>qO (i:=6) (k:=hh) (aK.id Ref) (r:=(au s1.2 hh)) gK (cD rfl hb) rfl (dq (fA pF hb)).1 rfl rfl) ?_;refine az h fun cd hE h=>J.te (fun hb=>dL.gS 8 rfl Vu (Rg (fA hE hb)) ⟨cD rfl hb,trivial⟩) rfl rfl rfl rfl rfl (aM (fun h=>?_));refine az h fun oy J0 h=>az h fun GJ XQ h=>az h fun kn vE h=>fk [0,1,2,4,6,8,9,10,12,13,22,31,63,64,65,66,67,68,69,70,71,72] ?_;refine aw.YJ 10 8 mixed (ay 75 [] [5] _::ay 76 [] [] _::ay 77 [0,1] [6] _::ay 78 [2] [6] _::ay 79 [] [3] _::ay 80 [] [] _::ay 81 [4,5] [1] _::ay 82 [6] [1] _::ay 83 [3] [] _::ay 84 [8] [] _::[]) ⟨ei.q (hV fun aE aq=>ht (i:=5) (q:=0) (β:=List Ref) (γ:=Ref) w3 (ae (aE _ _ rfl)) (aq 5 _ rfl rfl) rfl),ei.q iD,ei.q (hV fun aE aq=>mw (i:=6) (k:=oy) (xs:=(s1.2:List Ref)) underlying336 gK (ae (aE _ _ rfl)) (ae (aE _ _ rfl)) (aq 6 _ rfl rfl) (dq J0)),ei.q (hV fun aE aq=>qO (i:=6) (k:=oy) (aK.id Ref) (r:=(au s1.2 oy)) gK (ae (aE _ _ rfl)) (aq 6 _ rfl rfl) (dq J0).1 rfl rfl),ei.q (hV fun aE aq=>ht (i:=3) (q:=0) (β:=List Int) (γ:=Int) lq (ae (aE _ _ rfl)) (aq 3 _ rfl rfl) rfl),ei.q iD,ei.q (hV fun aE aq=>mw (i:=1) (k:=GJ) (xs:=(s1.1:List Int)) underlying56 bR (ae (aE _ _ rfl)) (ae (aE _ _ rfl)) (aq 1 _ rfl rfl) (dq XQ)),ei.q (hV fun aE aq=>qO (i:=1) (k:=GJ) (aK.id Int) (r:=(au s1.1 GJ)) bR (ae (aE _ _ rfl)) (aq 1 _ rfl rfl) (dq XQ).1 rfl rfl),ei.q (hV fun aE aq=>e4 (fg (ae (aE _ _ rfl)) vE)),ei.q (jb (bY Iv.fd)),trivial⟩ fun fN=>?_;refine J.dN (L2:=(⟨some D,.gf⟩::⟨g1.1.1,.row 3 s1.1 g1.1.2⟩::⟨none,.row 3 ([]:List Int) 0⟩::⟨some b6,.ch ([]:List Int) [(0,aJ g1.1.1 s1.1.length g1.1.2)]⟩::⟨none,.row 326 ([]:List Ref) 0⟩::⟨some bN,.ch ([]:List Ref) [(0,aJ g1.2.1 s1.2.length g1.2.2)]⟩::⟨g1.2.1,.row 326 s1.2 g1.2.2⟩::aS bo ai::aI s2.2)) rfl (XR ?_);refine az h fun FX WR h=>bj (kz (k:=FX) Nw (ae rfl) (ae rfl) (dq WR)) ?_;exact az h fun ke ud h=>az h fun hZ Fk h=>J.ns (k':=Cell.gE ({ ke with dA:=eb ke.dA FX (none:Ref) } :ek)) 8 rfl (((aK.id ek).comp Ao).comp (aK.idx (α:=Ref) 2 FX (dq WR).1)) (v:=(none:Ref)) gK (ae rfl) nU (oF ud) rfl rfl rfl rfl (dc Fk) go
  refine aM fun jG ue h=>?_;refine az h fun b9 hS h=>J.fm (dL.gS 8 rfl Vu (Rg hS) ⟨ae rfl,trivial⟩) rfl rfl rfl (cv (az h fun m1 b4 h=>q3 (γ:=Unit) 8 [0,1,2,4,6,8,9,10,12,13,22,31,72,90] (fun g3=>[]) (fun g3=>[]) (fun g3=>aI m1) (fun g3=>?_) (fun hm ad=>?_) (fun hm ad=>?_)))
  ·refine aM ?_;cases h;refine aj.JC 0 rfl rfl ?_;exact aj.eh () (fE 8) rfl rfl (dw rfl)
  ·have h:=gk ad b4;refine aM ?_;exact az h fun uh Og h=>J.ns (k':=Cell.k1 ({ jG with eX:=(none:Ref) } :hl)) 8 rfl ((aK.id hl).comp HD) (v:=(none:Ref)) gK (ae rfl) nU (wQ ue) rfl rfl rfl rfl (dc Og) go
  have h:=gl ad b4;exact go
 exact Empty.elim av
theorem Z7 {aa ai aV bV r}(h:AA aa ai aV=some r):mi prog 72 [I.bE bV,I.of ai,I.of aV] bV aa (I.bP [I.of r.1,I.of r.2.1]) r.2.2:=by
 unfold AA at h;refine bJ.of func72 rfl ntmps72 rfl fun W A=>?_;refine aM fun bo=>?_;refine az h fun an bx h=>J.fm (dL.call [1] Fq (DO bx) ⟨ae rfl,ae rfl,trivial⟩ rfl ⟨rfl,trivial⟩ rfl) rfl rfl rfl (aM (fun h=>?_));refine az h fun aD cc h=>J.fm (dL.call [1] Oh (K4 cc) ⟨ae rfl,ae rfl,trivial⟩ rfl ⟨rfl,trivial⟩ rfl) rfl rfl rfl (aM (fun bN h=>?_));refine az h fun bf et h=>az h fun aL dg h=>fk [0,1,2,4,6,7,8,9,10,11,12,13,14,15,16,17,18,19,20,21,22] ?_;refine aw.cn 3 (ay 23 [] [] _::ay 24 [] [] _::ay 25 [1] [1] _::ay 26 [0,2] [2] (I.of bf)::ay 27 [3] [] _::ay 28 [] [] _::ay 29 [5] [] _::ay 30 [6] [] _::ay 31 [7] [] _::ay 32 [8] [2] _::ay 33 [] [] _::ay 34 [9,10] [] _::ay 35 [11] [] _::ay 36 [12] [] _::ay 37 [4,13] [] _::[]) (dG ?_ h3) (fun cZ=>?_)
 ·intro hd E' L' aE aq b3;exact J.fm (dL.call [2] WS (Q2 et) ⟨ae (aE _ _ rfl),ae (aE _ _ rfl),trivial⟩ rfl ⟨(aq 2 _ rfl rfl),trivial⟩ rfl) rfl rfl rfl (J.nil (aj.fin (cP []) rfl rfl))
 refine aj.dN (L2:= [aS bN aD.1,aS bo ai,aS bV aa]) rfl (fF ?_);refine aM (fun h=>?_);refine az h fun bu fl h=>fk [0,1,2,4,6,7,8,9,10,11,12,13,14,15,16,17,18,19,20,21,22,23,24,25,26,27,28,29,30,31,32,33,34,35,36,37] ?_;refine aw.cn 3 (ay 38 [] [] _::ay 39 [] [1] _::ay 40 [] [] _::ay 41 [2] [] _::ay 42 [3] [] _::ay 43 [4] [2] _::ay 44 [] [] _::ay 45 [1,5,6] [] _::⟨some 46,[0,5,7],[2],[2],fun _=>I.bP [],fun hd _=>aS bV bu⟩::[]) (dG ?_ h3) (fun fN=>?_)
 ·intro hd E' L' aE aq b3;exact J.bm 2 (aq 2 _ rfl rfl) (J.lj (Lin:= [aS bV aa]) (Lr:=L'.eraseIdx 2) WT (Ri fl) ⟨ae (aE _ _ rfl),ae (aE _ _ rfl),trivial⟩ rfl fun av=>J.nil (aj.back 2 (aq 2 _ rfl rfl) (aj.fin (cP []) rfl rfl)))
 refine aj.dN (L2:= [aS bN aD.1,aS bo ai,aS bV bu]) rfl (fF ?_);exact go
theorem Z8 {aa ai bV r}(h:wy aa ai=some r):mi prog 35 [I.bE bV,I.of ai] bV aa (I.bP [I.of r.1,I.of r.2.1]) r.2.2:=by
 unfold wy at h;refine bJ.of func35 rfl ntmps35 rfl fun W A=>?_;refine aM fun bo bN=>?_;refine az h fun an bx h=>J.fm (dL.call [2] Fq (DO bx) ⟨ae rfl,ae rfl,trivial⟩ rfl ⟨rfl,trivial⟩ rfl) rfl rfl rfl (aM (fun h=>?_));refine az h fun aD cc h=>J.fm (dL.call [2] Oh (K4 cc) ⟨ae rfl,ae rfl,trivial⟩ rfl ⟨rfl,trivial⟩ rfl) rfl rfl rfl (aM (fun b6 h=>?_));refine J.bm 3 rfl (az h fun bf et h=>ef 1 WU (Rb et) fun av=>?_);refine aM fun bn eK h=>?_;refine J.bm 0 rfl (az h fun bu fl h=>ef 1 WT (Ri fl) fun cQ=>?_);exact go
theorem Z9 {aa ai bV r}(h:wz aa ai=some r):mi prog 37 [I.bE bV,I.of ai] bV aa (I.bP [I.of r.1,I.of r.2.1]) r.2.2:=by
 unfold wz at h;refine bJ.of func37 rfl ntmps37 rfl fun W A=>?_;refine aM fun bo bN=>?_;refine az h fun an bx h=>J.fm (dL.call [2] Fq (DO bx) ⟨ae rfl,ae rfl,trivial⟩ rfl ⟨rfl,trivial⟩ rfl) rfl rfl rfl (aM (fun h=>?_));refine az h fun aD cc h=>J.fm (dL.call [2] Oh (K4 cc) ⟨ae rfl,ae rfl,trivial⟩ rfl ⟨rfl,trivial⟩ rfl) rfl rfl rfl (aM (fun b6 h=>?_));refine J.bm 3 rfl (az h fun bf et h=>ef 1 WU (Rb et) fun av=>?_);exact go
theorem Q8 {hp aa ai Q}(h:uB hp aa ai Q):k6 prog 82 [I.of aa,I.of ai] hp Q:=by
 unfold uB at h;refine bJ.of func82 rfl ntmps82 rfl fun W A=>cm (bj (c5 (look_nil (α:=aC))) ?_);refine aM ?_;refine ag.br h fun an bx h=>J.fm (dL.gS 0 rfl Fs (DH bx) ⟨ae rfl,ae rfl,trivial⟩) rfl rfl rfl (J.dB 0 0 rfl ahO (aaX h) rfl rfl ⟨ae rfl,trivial⟩ rfl fun⟨⟨aD,h⟩,av⟩=>J.db ?_);refine dW (cv (aw.ret ?_));exact aj.eh (⟨⟨(aD.1,aD.2),h⟩,()⟩: {r // _}×_) (.refl _) rfl rfl (dw rfl)
theorem abr {aa ai r}(h:Bf aa ai=some r):dZ prog 56 [I.of aa,I.of ai] (I.of r):=by
 unfold Bf at h;refine dZ.of func56 rfl ntmps56 rfl fun W A=>?_;exact go
instance ar0:e9 prog 56 _ _ _ Bf I.of I.of I.of:=
 ⟨⟨_,func56,rfl,by kernel_rfl⟩,fun _ _ _ h=>abr h⟩
theorem QZ {hp y aa r}(h:Hz hp y aa=some r):nZ prog "matchguard/index.find" (I.of y) [I.of aa] ([]++aI hp) (δ:=Unit) (fun _=>I.bP [I.of r.1,I.of r.2]) (fun _=>[]++aI hp):=by
 cases y with
 | nil=>cases h
 | pt z=>exact nZ.of acv (fun A W u hu=>Lv hu) (aak h)
 | pv z=>exact nZ.of acw (fun A W u hu=>Lw hu) (ZS h)
 | pw z=>exact nZ.of acx (fun A W u hu=>Ly hu) (aar h)
theorem aaK {hp aa ai Q}(h:DX hp aa ai Q):zy prog 255 [I.of aa,I.of ai] hp Q:=by
 unfold DX at h;refine bJ.of func255 rfl ntmps255 rfl fun W A=>?_;refine aM fun bo bN=>?_;refine ag.br h fun bt dn h=>ag.br h fun c1 dy h=>ag.br h fun an bx h=>J.nb (ee.obj 2 (fun q:Option Nat×Nat=>Cell.tW an.2 q.1 q.2) rfl (yP dy) ahP (ZE bx) rfl (fun _=>rfl) ⟨fg (ae rfl) dn,ae rfl,trivial⟩) rfl rfl rfl fun av=>?_;replace h:=ag.any_bind h av;refine ag.br h fun bH gD h=>J.dN (L2:=(aS bN ai::aS bo aa::aI bH)) (by rw [← dc gD];rfl) ?_;exact J.nil (aj.k0 (aj.nv (⟨⟨bH,h⟩,()⟩: {r // _}×_) (fE 2) rfl rfl))
theorem Zv {hp aa ai r}(h:De hp aa ai=some r):ik prog 221 [I.of aa,I.of ai] hp (I.bP []) r:=by
 unfold De at h;refine bJ.of func221 rfl ntmps221 rfl fun W A=>?_;refine aM fun bo bN an bx b6 b7 h=>?_;refine az h fun bt dn h=>az h fun c1 dy h=>az h fun bn eK h=>aw.ml mixed 6 (rg 15 6) [[],[0],[],[1,2],[],[]] [_,_,_,_,_,_] ⟨H1 (bY Ix.fd),kP 3 Am E9,vA 1 BS,gu fun aq=>uN (r:=bn) underlying202 y3 E8 (kW (ae rfl) dn) (ae rfl) (oO (fun i e q=>aq i e q rfl) (iK (n:=4) rfl (oG dy) rfl)) (dc eK),vA 0 hQ,gj,trivial⟩ ?_;refine az h fun aD cc h=>J.dB 4 0 rfl ahQ (aaJ cc) rfl rfl ⟨ae rfl,ae rfl,ae rfl,trivial⟩ rfl fun av=>J.db ?_;refine aM ?_;refine az h fun c2 eR h=>az h fun z2 hz h=>bj (uN (r:=z2) underlying202 y3 E8 (kW (ae rfl) dn) (ae rfl) (iK (n:=4) rfl (oG eR) rfl) (dc hz)) ?_;refine az h fun bf et h=>J.fm (dL.gS 4 rfl ahR (aba et) ⟨ae rfl,trivial⟩) rfl rfl rfl (hB sC (cv ?_));refine az h fun m1 b4 h=>q3 (γ:=Unit) 4 [0,1,2,3,4,5,6,27] (fun g1=>[]) (fun g1=>[]) (fun g1=>aI m1) (fun g1=>?_) (fun hm ad=>?_) (fun hm ad=>?_)
 ·exact aj.k0 go
 ·have h:=gk ad b4;refine aM ?_;exact az h fun bH gD h=>J.Je (k':=Cell.nB (iL c2 an.1)) 4 rfl underlying202 y3 (kW (ae rfl) dn) (ae rfl) (oG eR) rfl rfl rfl (dc gD) go
 have h:=gl ad b4;exact go
theorem abk {aa ai aV bV r}(h:wC aa ai aV=some r):mi prog 33 [I.bE bV,I.of ai,I.of aV] bV aa (I.of r.1) r.2:=by
 unfold wC at h;refine bJ.of func33 rfl ntmps33 rfl fun W A=>?_;refine aM fun bo=>?_;refine J.bm 1 rfl (az h fun an bx h=>ef 1 Ft (HF bx) fun av=>?_);refine aM ?_;refine J.bm 1 rfl (az h fun aD cc h=>ef 1 ajS (Z7 cc) fun cQ=>?_);refine aM (fun bf et h=>?_);refine az h fun bu fl h=>az h fun aL dg h=>az h fun bn eK h=>fk [0,1,2,4,6,7,8,9,10,11,12,13,14,15,16,17,18,19,20,21,23,24,25,26,27,28] ?_;refine aw.cn 3 (ay 29 [] [] _::ay 30 [0] [] _::ay 31 [1] [] _::ay 32 [2] [] _::ay 33 [2] [] _::ay 34 [2,3,4] [1] (I.cond ((decide (bf<0))=false) (I.of bu))::ay 35 [2] [] _::ay 36 [2,6] [] _::ay 37 [2,7] [] _::ay 38 [2,8] [] _::ay 39 [2,9] [1] _::ay 40 [2] [] _::ay 41 [2,10,11] [] _::ay 42 [2,12] [] _::ay 43 [2,13] [] _::ay 44 [2,5,14] [] _::ay 45 [2,15] [] _::[]) (dG ?_ h3) (fun cZ=>?_)
 ·exact ei.q (Wz rfl rfl rfl rfl (fun hd=>rfl) fun hd E' L' aE aq hb=>bc.Ji (z:=(aa:bX)) 1 32 (aE _ _ rfl) (JZ hb) (aq 1 _ rfl rfl) uL (la WV (Rm (fA fl hb)) ⟨ae rfl,cD (aE _ _ rfl) hb,trivial⟩))
 refine aj.dN (L2:= [aS av aD.2.2,aS bV aa,aS bo ai]) rfl (fF ?_);exact go
theorem aaY {hp aa Q}(h:D1 hp aa Q):k6 prog 39 [I.of aa] hp Q:=by
 unfold D1 at h;refine bJ.of func39 rfl ntmps39 rfl fun W A=>cm (bj (c5 (look_nil (α:=aC))) (hX (cm ?_)));refine cH ?_;refine bj (yF underlying85 (ae rfl)) (cv ?_);refine xp h (fun h=>?_) fun h=>?_
 ·refine cm (bj (c5 (look_nil (α:=aC))) (cv (aw.ret (aj.ret ?_))));exact aj.eh (⟨⟨(([]:List aC),hp),h⟩,()⟩: {r // _}×_) (.refl _) rfl rfl (dw rfl)
 refine l8 (cm (J.own (α:=aC) 54 (bj (c5 lK) ?_)));refine aM fun bt dn c1 dy h=>?_;refine zw (σ:=Int×(List aC)×(aG Cell)) (ε:=(Int×Bool×(List aC)×(aG Cell))) (γ:=(Option Nat×Nat)) (δ:=(Option Nat×Nat)) h 1 [0,2,7,12,13] (fun s1 g1=>[(3,I.eq (aJ g1.1 s1.2.1.length g1.2)),(14,I.of s1.1)]) (fun s1 g1=>[(0,⟨g1.1,.row 54 s1.2.1 g1.2⟩)]) (fun s1 g1=>aI s1.2.2) (fun av=>Exit.exit 0) (fun av g1=>[(3,I.eq (aJ g1.1 av.2.2.1.length g1.2)),(14,I.of av.1),(15,I.of av.2.1)]) (fun av g1=>[(0,⟨g1.1,.row 54 av.2.2.1 g1.2⟩)]) (fun av g1=>aI av.2.2.2) (none,0) (fun s1 R h g1=>?_) (fun ar h g1=>?_)
 ·refine go2 (fun aL dg bo h=>?_) (fun h=>?_)
  ·refine J.dB 2 0 rfl WW (Q8 h) rfl rfl ⟨ae rfl,ae rfl,trivial⟩ rfl fun⟨⟨an,h⟩,cQ⟩=>J.db ?_;refine ag.br h fun aD cc h=>ia 1 underlying43 eZ fC cc fun ea dv=>?_;refine aM ?_;exact aj.tE h (ea,dv) 1 rfl .all
  exact aj.p7 h (g1.1,g1.2) 0 rfl (by simp) rfl .all
 refine aM ?_;exact aj.j2 (α:=aC) 0 [2,3,25] ⟨rfl,rfl,rfl,trivial⟩ rfl (aj.eh (⟨⟨(ar.2.2.1,ar.2.2.2),h⟩,()⟩: {r // _}×_) (fE 1) rfl rfl (dw rfl))
instance J1:e9 prog 42 _ _ _ yl I.of I.of I.of:= .i func42 rfl ntmps42 rfl fun aa ai r h W A=>by
 unfold yl at h;refine aM (fun h=>?_);refine az h fun ar ak h=>fD (γ:=Unit) (δ:=Unit) ak [0,1,4,10,12] (fun s1 g1=>[(13,I.of s1)]) (fun s1 g1=>[]) (fun av=>Sum.elim (fun av=>Exit.exit 0) (fun av=>Exit.ret) av) (fun av g1=>Sum.elim (fun av=>[(13,I.of av.1),(14,I.of av.2)]) (fun av=>[(5,I.of av.1),(13,I.of av.2.1),(14,I.of av.2.2.1),(25,I.of av.2.2.2)]) av) (fun av g1=>[]) () (fun s1 r h g1=>?_) fun g1=>?_
 ·refine aM (fun h=>?_);refine az h fun aL dg h=>az h fun bz dh h=>az h fun an bx h=>aw.fy 10 ?_;exact go
 rcases ar with ar | ar
 ·simp only [Sum.elim_inl] at h;exact go
 simp only [Sum.elim_inr] at h;exact go
theorem ZT {hp aa ai Q}(h:Ds hp aa ai Q):k6 prog 43 [I.of aa,I.of ai] hp Q:=by
 unfold Ds at h;refine bJ.of func43 rfl ntmps43 rfl fun W A=>cm (bj (c5 (look_nil (α:=aC))) ?_);refine aM ?_;refine ag.br h fun an bx h=>J.fm (dL.gS 0 rfl Of (KO bx) ⟨ae rfl,trivial⟩) rfl rfl rfl (cH ?_);refine J.dB 0 0 rfl WW (Q8 h) rfl rfl ⟨ae rfl,ae rfl,trivial⟩ rfl fun⟨⟨aD,h⟩,av⟩=>J.db ?_;refine dW (cv (aw.ret ?_));exact aj.eh (⟨⟨(aD.1,aD.2),h⟩,()⟩: {r // _}×_) (.refl _) rfl rfl (dw rfl)
theorem K5 {hp aa ai r}(h:ye hp aa ai=some r):ik prog 98 [I.of aa,I.of ai] hp (I.bP [I.of r.1,I.of r.2]) hp:=by
 unfold ye at h;refine bJ.of func98 rfl ntmps98 rfl fun W A=>?_;refine aM (fun bo bN h=>?_);refine az h fun bt dn h=>az h fun c1 dy h=>az h fun an bx h=>fk [0,1,3,4,5,8,9] ?_;refine aw.cn 2 (ay 12 [] [] _::ay 13 [0] [] _::ay 14 [1] [] _::ay 15 [2] [] _::ay 16 [] [1] _::ay 17 [3,4] [] (I.bP [I.of an.1,I.of an.2])::ay 11 [5] [] _::ay 18 [6] [] _::ay 19 [6] [] _::ay 6 [7] [] _::ay 7 [8] [] _::[]) (dG ?_ h3) (fun cZ=>?_)
 ·intro hd E' L' aE aq b3;refine J.fm (dL.Fu 2 (b3.trans rfl) (QZ bx) ⟨ae (aE _ _ rfl),ae (aE _ _ rfl),trivial⟩) rfl rfl rfl (J.nil ?_);exact aj.fin (cP []) rfl rfl
 refine aj.dN (L2:=(aS bN (default:aC)::aS bo ai::aI hp)) rfl (fF ?_);refine aM ?_;exact az h fun aD cc h=>J.fm (dL.gS 2 rfl ahS (aaq cc) ⟨ae rfl,ae rfl,ae rfl,trivial⟩) rfl rfl rfl go
theorem aas {hp y aa Q}(h:KX hp y aa Q):nZ prog "matchguard/index.put" (I.of y) [I.of aa] ([]++aI hp) (δ:= {r:(aG Cell) // Q r}×Unit) (fun d=>I.bP []) (fun d=>[]++aI d.1.1):=by
 cases y with
 | nil=>exact h.elim
 | pt z=>
   obtain⟨r,h1,ab⟩:=h
   exact nZ.of acy (fun A W u hu=>Lv hu) (bJ.map (fun d=>(⟨r,ab⟩,d)) (fun _=>rfl) (fun _=>rfl) (aaG h1))
 | pv z=>exact nZ.of acz (fun A W u hu=>Lw hu) (Z6 h)
 | pw z=>exact nZ.of acA (fun A W u hu=>Ly hu) (aaK h)
theorem ZF {hp y aa Q}(h:KP hp y aa Q):nZ prog "matchguard/index.remove" (I.of y) [I.of aa] ([]++aI hp) (δ:= {r:(aG Cell) // Q r}×Unit) (fun d=>I.bP []) (fun d=>[]++aI d.1.1):=by
 cases y with
 | nil=>exact h.elim
 | pt z=>
   obtain⟨r,h1,ab⟩:=h
   exact nZ.of acB (fun A W u hu=>Lv hu) (bJ.map (fun d=>(⟨r,ab⟩,d)) (fun _=>rfl) (fun _=>rfl) (ZO h1))
 | pv z=>
   obtain⟨r,h1,ab⟩:=h
   exact nZ.of acC (fun A W u hu=>Lw hu) (bJ.map (fun d=>(⟨r,ab⟩,d)) (fun _=>rfl) (fun _=>rfl) (Zv h1))
 | pw z=>exact nZ.of acD (fun A W u hu=>Ly hu) (ZP h)
theorem DR {hp aa Q}(h:DS hp aa Q):k6 prog 13 [I.of aa] hp Q:=by
 unfold DS at h;refine bJ.of func13 rfl ntmps13 rfl fun W A=>cm (bj (c5 (look_nil (α:=aC))) ?_);refine aM ?_;refine ag.br h fun an bx h=>J.fm (dL.gS 0 rfl Of (KO bx) ⟨ae rfl,trivial⟩) rfl rfl rfl (J.dB 0 0 rfl ajT (aaY h) rfl rfl ⟨ae rfl,trivial⟩ rfl fun⟨⟨aD,h⟩,av⟩=>J.db ?_);refine dW (cv (aw.ret ?_));exact aj.eh (⟨⟨(aD.1,aD.2),h⟩,()⟩: {r // _}×_) (.refl _) rfl rfl (dw rfl)
theorem K8 {hp aa ai Q}(h:yi hp aa ai Q):k6 prog 101 [I.of aa,I.of ai] hp Q:=by
 unfold yi at h;refine bJ.of func101 rfl ntmps101 rfl fun W A=>?_;refine go2 (fun bo h=>?_) (fun bo h=>?_)
 ·exact aj.eh (⟨⟨(false,hp),h⟩,()⟩: {r // _}×_) (fE 1) rfl rfl (dw rfl)
 refine ag.br h fun bt dn h=>ag.br h fun c1 dy h=>ag.br h fun cu e5 h=>ag.br h fun c2 eR h=>ag.br h fun bn eK h=>aw.BU 1 1 (fk [0,1,3,4,9,10] ?_);refine aw.cn 2 (ay 12 [] [] _::ay 13 [0] [] _::ay 14 [1] [] _::ay 15 [2] [] _::ay 16 [] [] _::ay 17 [4] [0] _::ay 18 [3,5] [] (I.bP [I.of (bn.getD default),I.of bn.isSome])::ay 11 [6] [] _::ay 19 [7] [] _::ay 20 [7] [] _::qk 5 [] 1 10 _::hA [8,10] [1] [1] (fun hd=>aS ((hd 10 0).getD 0) (bn.getD default:aC))::ay 6 [9] [] _::[]) (dG ?_ h3) (fun cZ=>?_)
 ·intro hd E' L' aE aq b3;refine bj (LK (r:=bn) underlying193 zr fC (kW (ae (aE _ _ rfl)) e5) (ae (aE _ _ rfl)) (iK (n:=2) (b3.trans rfl) (sx eR) rfl) (dc eK)) (J.nil ?_);exact aj.fin (cP []) rfl rfl
 refine aj.dN (L2:=(aS bo ai::aS ((cZ 10 0).getD 0) (bn.getD default:aC)::aI hp)) rfl (fF ?_);refine aj.bm 1 rfl (aj.next (aw.seq (aw.seq (ag.br h fun dX j8 h=>ag.br h fun cY gF h=>ag.br h fun an bx h=>fk [0,1,3,4,5,6,9,10,11,12,13,14,15,16,17,18,19,20] ?_))));refine aw.cn 2 (ay 22 [] [] _::ay 23 [0] [] _::ay 24 [1] [] _::ay 25 [2] [] _::ay 26 [] [] _::ay 27 [4] [1] _::ay 28 [3,5] [] (I.bP [I.of an.1,I.of an.2])::ay 21 [6] [] _::ay 29 [7] [] _::ay 30 [7] [] _::ay 7 [8] [] _::ay 8 [9] [] _::[]) (dG ?_ h3) (fun fN=>?_)
 ·intro hd E' L' aE aq b3;refine J.fm (dL.Fu 2 (b3.trans rfl) (QZ bx) ⟨ae (aE _ _ rfl),ae (aE _ _ rfl),trivial⟩) rfl rfl rfl (J.nil ?_);exact aj.fin (cP []) rfl rfl
 refine aj.dN (L2:=(aS ((cZ 10 0).getD 0) (bn.getD default:aC)::aS bo ai::aI hp)) rfl (fF ?_);refine go2 (fun h=>?_) (fun h=>?_)
 ·exact aj.eh (⟨⟨(false,hp),h⟩,()⟩: {r // _}×_) (fE 2) rfl rfl (dw rfl)
 refine ag.br h fun km ub h=>ag.br h fun gO pJ h=>ag.br h fun aD cc h=>aw.fy 8 ?_;refine ag.br h fun kn vE h=>ag.br h fun ke ud h=>ag.br h fun bH gD h=>J.E5 (k':=Cell.lP (gn ke ai.b0 aD)) 2 rfl (by first | exact .inl rfl | exact .inr rfl) underlying193 zr (kW (ae rfl) vE) (ae rfl) (ae rfl) (sx ud) rfl rfl rfl (dc gD) ?_;refine hX (ag.br h fun jG ue h=>aw.fy 5 ?_);refine J.Fu 2 0 rfl (aas h) rfl rfl ⟨ae rfl,ae rfl,trivial⟩ rfl fun⟨⟨bf,h⟩,av⟩=>?_;refine J.db ?_;refine aM ?_;exact aj.eh (⟨⟨(true,bf),h⟩,()⟩: {r // _}×_) (fE 2) rfl rfl (dw rfl)
theorem Ld {hp aa ai hc Q}(h:yq hp aa ai Q):bJ prog 20 [I.of aa,I.bE hc] ([aS hc ai]++aI hp) (δ:= {r:Bool×(aG Cell) // Q r}×Unit) (fun d=>I.of d.1.1.1) (fun d=>[aS hc ai]++aI d.1.1.2):=by
 unfold yq at h;refine bJ.of func20 rfl ntmps20 rfl fun W A=>cm (dW (hX (aw.seq ?_)));obtain⟨fw,l6,rY⟩:=ag.ex h;refine aw.BV mixed 17 (bG 17 0) rfl rfl (aQ.bL (γ:=Subtype fw) [0,1,4] 0 1 11 (bG 17 63) (fun jC=>[(18,I.of jC.1.1),(22,I.of ai.bK)]) (fun jC=>[]) (fun jC=>aI jC.1.2) (fun jC=>?_) (fun qa=>?_))
 ·obtain⟨an,fu⟩:=jC;have h:=rY an fu;refine aQ.dN (L2:=(aS hc ai::aI an.2)) rfl (aQ.le (E':= [(0,I.of aa),(1,I.bE hc),(4,I.of false),(18,I.of an.1),(22,I.of ai.bK)]) .all (ag.br h fun aD cc h=>ag.br h fun bf et h=>?_));refine aQ.bL (γ:=Unit) [0,1,4] 0 1 0 (bG 17 131071) (fun ML=>[(33,I.of ((!aD)||(bf !=ai.fh)))]) (fun ML=>[]) (fun ML=>aI an.2) (fun ML=>?_) (fun ahT=>?_)
  ·refine aQ.last (by kernel_rfl) ?_;refine aj.next (xp h (fun h=>?_) fun h=>?_)
   ·refine cm (dW (cv (aw.ret (aj.ret ?_))));exact aj.bm 0 rfl (aj.eh (⟨⟨(false,an.2),h⟩,()⟩: {r // _}×_) (.cons_cons _ (.refl _)) rfl rfl (dw rfl))
   refine l8 (aw.seq (cm (dW (cv (aw.block ?_)))));refine zw (σ:=Int×(aG Cell)) (ε:=(Int×Bool×(aG Cell)) ⊕ (Int×Bool×Bool×(aG Cell))) (γ:=Unit) (δ:=Unit) h 1 [0,1,4,33] (fun s1 g1=>[(5,I.of s1.1)]) (fun s1 g1=>[]) (fun s1 g1=>aI s1.2) (fun av=>Sum.elim (fun av=>Exit.exit 0) (fun av=>Exit.ret) av) (fun av g1=>Sum.elim (fun av=>[(5,I.of av.1),(35,I.of av.2.1)]) (fun av=>[(5,I.of av.1),(35,I.of av.2.1),(45,I.of av.2.2.1)]) av) (fun av g1=>[]) (fun av g1=>Sum.elim (fun av=>aI av.2.2) (fun av=>aI av.2.2.2) av) () (fun s1 R h g1=>?_) (fun ar h g1=>?_)
   ·refine aw.seq (cm (cH ?_));refine hB Vv (cv ?_);refine xp h (fun h=>?_) fun h=>?_
    ·refine l8 (aw.seq (aw.block (cm (cH ?_))));refine cH ?_;refine J.dB 1 0 rfl ajU (ZT h) rfl rfl ⟨ae rfl,ae rfl,trivial⟩ rfl fun⟨⟨bu,h⟩,cQ⟩=>J.db ?_;refine cH ?_;refine cH ?_;refine ag.br h fun cd hE h=>J.fm (dL.call [0] WS (Q2 hE) ⟨ae rfl,ae rfl,trivial⟩ rfl ⟨rfl,trivial⟩ rfl) rfl rfl rfl (ag.br h fun b9 hS h=>vx J1.cn (J1.m _ _ _ hS) ?_);refine di sG (cv ?_);refine xp h (fun h=>?_) fun h=>?_
     ·refine cm (dW (cv (aw.ret ?_)));exact aj.nC (aj.ret (aj.p7 h () 0 rfl (by simp) rfl .all))
     refine aw.skip (aj.p8 (aj.next (aw.fv (cH ?_))));refine hB j6 ?_;refine dW (J.nil ?_);exact aj.tE h () 0 rfl .all
    exact aw.exit (aj.exit (aj.p7 h () 0 rfl (by simp) rfl .all))
   rcases ar with ar | ar
   ·simp only [Sum.elim_inl] at h;refine aj.mP (aj.next (cm (cH ?_)));refine J.dB 1 0 rfl ajV (ZB h) rfl rfl ⟨ae rfl,trivial⟩ rfl fun⟨⟨cC,h⟩,ev⟩=>J.db ?_;refine cH ?_;refine J.dB 1 0 rfl ajW (Zs h) rfl rfl ⟨ae rfl,trivial⟩ rfl fun⟨⟨b1,h⟩,hJ⟩=>J.db ?_;refine cH ?_;refine ag.br h fun cT pI h=>J.fm (dL.gS 1 rfl ajX (Z4 pI) ⟨ae rfl,trivial⟩) rfl rfl rfl (dW ?_);refine dW ?_;refine dW (hX ?_);refine ag.br h fun fR vj h=>ag.br h fun h0 qX h=>ag.br h fun gG zd h=>fk [0,1,4,5,6,7,8,33,35,46,47,48,49,50,51] ?_;refine aw.YK 1 mixed (ay 52 [] [] _::ay 53 [0] [0] (I.of fR)::ay 54 [] [] _::ay 55 [2] [] _::ay 56 [3] [] _::ay 57 [4] [0] _::ay 58 [] [] _::ay 59 [6] [0] (I.of h0)::ay 60 [5,7] [] _::ay 9 [1] [] _::ay 10 [8] [] _::[]) ⟨ei.q iD,?_,ei.q iD,ei.q (jb e4),ei.q (jb (bY MM.fd)),ei.q (vF 0 AL iX),ei.q iD,?_,ei.q (hV fun aE aq=>la XM.cn (XM.m _ _ _ zd) ⟨ae (aE _ _ rfl),ae (aE _ _ rfl),trivial⟩),ei.q (hV fun aE aq=>c5 (ae (aE _ _ rfl))),ei.q (hV fun aE aq=>c5 (ae (aE _ _ rfl))),trivial⟩ fun cZ=>?_
    ·intro hd E' L' aE aq b3;exact J.fm (dL.call [0] ajY (abj vj) ⟨ae (aE _ _ rfl),trivial⟩ rfl ⟨(aq 0 _ rfl rfl),trivial⟩ rfl) rfl rfl rfl (J.nil (aj.fin (cP []) rfl rfl))
    ·intro hd E' L' aE aq b3;exact J.fm (dL.call [0] WQ (Rl qX) ⟨ae (aE _ _ rfl),trivial⟩ rfl ⟨(aq 0 _ rfl rfl),trivial⟩ rfl) rfl rfl rfl (J.nil (aj.fin (cP []) rfl rfl))
    refine aj.dN (L2:=(aS hc ai::aI b1.2)) rfl (fF (aj.next (aw.seq (cm ?_))));refine cH ?_;refine di (qb underlying113) ?_;refine cH ?_;refine di (qb underlying117) ?_;refine hB u9 ?_;refine cH ?_;refine iB cG ?_;refine iB (qb underlying115) ?_;refine iB cG ?_;refine iB (qb underlying119) ?_;refine FT u9 ?_;refine ag.br h fun bn eK h=>pU eK (vl (ae rfl) (ae rfl) (fun h=>h)) ?_;refine cH ?_;refine iB cG ?_;refine iB (qb underlying45) ?_;refine iB cG ?_;refine iB e4 ?_;refine iB (bY MM.fd) ?_;refine iB (bY MG.fd) ?_;refine kF (fun hb=>gz (i:=0) (((aK.id bX).comp AL).comp Hr) (r:=ai.e0.eo) B6 (cD rfl hb) rfl rfl rfl) ?_;refine iB (qb underlying29) ?_;refine FT u9 ?_;refine OQ (cv ?_);refine xp h (fun h=>?_) fun h=>?_
    ·refine cm (dW (cv (aw.ret (aj.ret ?_))));exact aj.bm 0 rfl (aj.eh (⟨⟨(false,b1.2),h⟩,()⟩: {r // _}×_) (.cons_cons _ (.refl _)) rfl rfl (dw rfl))
    refine l8 (aw.seq (cm (cH ?_)));refine di (qb underlying113) ?_;refine cH (cv (aw.block ?_));refine ag.br h fun aU ak h=>uc (σ:=Int) (ε:=(Int×Bool) ⊕ (Int×Int×Bool×Bool)) (γ:=Unit) (δ:=Unit) ak 1 [0,1,4,5,6,7,8,9,10,33,35,83,84,85] (fun s2 g2=>[(86,I.of s2)]) (fun s2 g2=>[]) (fun s2 g2=>aI b1.2) (fun ec=>Sum.elim (fun ec=>Exit.exit 2) (fun ec=>Exit.ret) ec) (fun ec g2=>Sum.elim (fun ec=>[(86,I.of ec.1),(87,I.of ec.2)]) (fun ec=>[(11,I.of ec.1),(86,I.of ec.2.1),(87,I.of ec.2.2.1),(126,I.of ec.2.2.2)]) ec) (fun ec g2=>[]) (fun ec g2=>Sum.elim (fun ec=>aI b1.2) (fun ec=>aI b1.2) ec) () (fun s2 r h g2=>?_) (fun g2=>?_)
    ·refine cm (hB sF (hX ?_));refine nH h (fun h=>?_) fun h=>?_
     ·refine l8 (aw.seq (aw.block (cm (cH ?_))));refine az h fun aL dg h=>Cm dg underlying113 E7 ?_;refine di (k9 E7) ?_;refine er Vj fun bo=>?_;refine dW ?_;refine q5 0 E7 (hX ?_);refine az h fun z2 hz h=>az h fun bz dh h=>az h fun cR ic h=>az h fun z3 mW h=>az h fun hh pF h=>aw.ml mixed 36 (rg 91 36) [[],[0],[1],[],[3],[4],[],[6],[7],[2,5,8],[],[],[10,11],[12],[13],[9,14],[15],[16],[16,17],[16],[16],[16,19,20],[16,21],[16,22],[16,18,23],[16,24],[25],[26],[26,27],[26],[26],[26,29,30],[26,31],[26,32],[26,28,33],[26,34]] [_,_,_,_,_,_,_,_,_,_,_,_,_,_,_,_,_,_,_,_,_,_,_,_,_,_,_,_,_,_,_,_,_,_,_,_] ⟨H1 (bY Mc.fd),H1 (bY Tz.fd),kP 0 (Hq.comp As) bR,H1 (bY Mc.fd),H1 (bY TA.fd),kP 0 (Hq.comp AB) bR,H1 (bY Mc.fd),H1 (bY TB.fd),kP 0 (Hq.comp Au) hQ,xJ hz fun L' aq=>kg (b:= { bB:=((au cC.1 aL).cI).bB,eY:=((au cC.1 aL).cI).eY,ck:=((au cC.1 aL).cI).ck:eI }) rfl Vw BN (.cons Df rfl (ae rfl) rfl (.cons Dt rfl (ae rfl) rfl (.cons Dg rfl (ae rfl) rfl (.nil)))),gj,gj,OO dh underlying117 n5,al3 Dc L8.fd,H1 (k9 oJ),nc (NB IM rfl IN rfl),gj,fG fun L' aq=>fun hb=>bY aeA.fd (ae rfl),fG fun L' aq=>fun hb=>gz (i:=0) ((aK.id gV).comp QP) (r:=(au cC.1 aL).hM) bR (cD rfl hb) (aq _ _ rfl rfl) rfl rfl,fG fun L' aq=>fun hb=>cG (ae rfl),fG fun L' aq=>fun hb=>cG (ae rfl),fG fun L' aq=>fun hb=>rN (k:=cR) underlying117 n5 (cD rfl hb) (cD rfl hb) (dq (fA ic hb)),fG fun L' aq=>fun hb=>y1 Dd L9.fd (cD rfl hb) rfl rfl,fG fun L' aq=>fun hb=>k9 bR (cD rfl hb),fG fun L' aq=>fun hb=>u9 (cD rfl hb) (cD rfl hb),xJ mW fun L' aq=>vl (ae rfl) (ae rfl) (fun h=>h),gj,fG fun L' aq=>fun hb=>bY aeB.fd (ae rfl),fG fun L' aq=>fun hb=>gz (i:=0) ((aK.id gV).comp Qz) (r:=(au cC.1 aL).hC) bR (cD rfl hb) (aq _ _ rfl rfl) rfl rfl,fG fun L' aq=>fun hb=>cG (ae rfl),fG fun L' aq=>fun hb=>cG (ae rfl),fG fun L' aq=>fun hb=>rN (k:=hh) underlying117 n5 (cD rfl hb) (cD rfl hb) (dq (fA pF hb)),fG fun L' aq=>fun hb=>y1 C5 Ma.fd (cD rfl hb) rfl rfl,fG fun L' aq=>fun hb=>k9 bR (cD rfl hb),fG fun L' aq=>fun hb=>u9 (cD rfl hb) (cD rfl hb),gu fun aq=>vl (ae rfl) (ae rfl) (fun h=>h),trivial⟩ (cv ?_);refine nH h (fun h=>?_) fun h=>?_
      ·refine cm (dW (cv (aw.ret ?_)));refine aj.nC (aj.ret ?_);cases h;exact ha () 1
      refine aw.skip (aj.p8 (aj.next (aw.fv (hB j6 ?_))));refine cH (J.nil ?_);cases h;exact ib () 1
     refine aw.exit (aj.exit ?_);cases h;exact ha () 0
    rcases aU with aU | aU
    ·simp only [Sum.elim_inl] at h;refine aj.mP (aj.next (aw.seq (cm (cH ?_))));refine di (qb underlying115) ?_;refine cH (cv (aw.block ?_));refine ag.br h fun cz ak h=>uc (σ:=Int) (ε:=(Int×Bool) ⊕ (Int×Int×Bool×Bool)) (γ:=Unit) (δ:=Unit) ak 1 [0,1,4,5,6,7,8,9,10,33,35,83,84,85,86,87,128,129] (fun fV g3=>[(130,I.of fV)]) (fun fV g3=>[]) (fun fV g3=>aI b1.2) (fun dM=>Sum.elim (fun dM=>Exit.exit 4) (fun dM=>Exit.ret) dM) (fun dM g3=>Sum.elim (fun dM=>[(130,I.of dM.1),(131,I.of dM.2)]) (fun dM=>[(13,I.of dM.1),(130,I.of dM.2.1),(131,I.of dM.2.2.1),(146,I.of dM.2.2.2)]) dM) (fun dM g3=>[]) (fun dM g3=>Sum.elim (fun dM=>aI b1.2) (fun dM=>aI b1.2) dM) () (fun fV r h g3=>?_) (fun g3=>?_)
     ·refine cm (hB sF (hX ?_));refine nH h (fun h=>?_) fun h=>?_
      ·refine l8 (aw.seq (aw.block (cm (cH ?_))));refine az h fun ox FO h=>Cm FO underlying115 u7 ?_;refine di (k9 u7) ?_;refine er E6 fun bN=>?_;refine dW ?_;refine q5 0 u7 (hX ?_);refine az h fun z4 r5 h=>az h fun rj FP h=>aw.ml mixed 12 (rg 135 12) [[],[0],[],[2],[],[4],[1,3,5],[],[],[7,8],[9],[6,10]] [_,_,_,_,_,_,_,_,_,_,_,_] ⟨H1 (bY Tz.fd),kP 0 As bR,H1 (bY TA.fd),kP 0 AB bR,H1 (bY TB.fd),kP 0 Au hQ,xJ r5 fun L' aq=>kg (b:= { bB:=(au b1.1 ox).bB,eY:=(au b1.1 ox).eY,ck:=(au b1.1 ox).ck:eI }) rfl Vw BN (.cons Df rfl (ae rfl) rfl (.cons Dt rfl (ae rfl) rfl (.cons Dg rfl (ae rfl) rfl (.nil)))),gj,gj,OO FP underlying119 oJ,H1 (k9 oJ),nc (NB IM rfl IN rfl),trivial⟩ (cv ?_);refine nH h (fun h=>?_) fun h=>?_
       ·refine cm (dW (cv (aw.ret ?_)));refine aj.nC (aj.ret ?_);cases h;exact ha () 1
       refine aw.skip (aj.p8 (aj.next (aw.fv (hB j6 ?_))));refine cH (J.nil ?_);cases h;exact ib () 1
      refine aw.exit (aj.exit ?_);cases h;exact ha () 0
     rcases cz with cz | cz
     ·simp only [Sum.elim_inl] at h;refine aj.mP (aj.next (aw.seq (cm (cH ?_))));refine di (qb underlying45) ?_;refine cH (cv (aw.block ?_));refine ag.br h fun eL ak h=>uc (σ:=Int) (ε:=(Int×Bool) ⊕ (Int×Int×Bool×Bool)) (γ:=Unit) (δ:=Unit) ak 1 [0,1,4,5,6,7,8,9,10,33,35,83,84,85,86,87,128,129,130,131,148,149] (fun ja g4=>[(150,I.of ja)]) (fun ja g4=>[]) (fun ja g4=>aI b1.2) (fun kT=>Sum.elim (fun kT=>Exit.exit 6) (fun kT=>Exit.ret) kT) (fun kT g4=>Sum.elim (fun kT=>[(150,I.of kT.1),(151,I.of kT.2)]) (fun kT=>[(15,I.of kT.1),(150,I.of kT.2.1),(151,I.of kT.2.2.1),(175,I.of kT.2.2.2)]) kT) (fun kT g4=>[]) (fun kT g4=>Sum.elim (fun kT=>aI b1.2) (fun kT=>aI b1.2) kT) () (fun ja r h g4=>?_) (fun g4=>?_)
      ·refine cm (hB sF (hX ?_));refine nH h (fun h=>?_) fun h=>?_
       ·refine l8 (aw.seq (aw.block (cm (cH ?_))));refine az h fun nL al4 h=>Cm al4 underlying45 Fo ?_;refine di (k9 Fo) ?_;refine er WI fun b6=>?_;refine dW ?_;refine q5 0 Fo (hX ?_);refine az h fun oy J0 h=>az h fun ie sP h=>az h fun z5 zs h=>fk [0,1,4,5,6,7,8,9,10,15,16,33,35,83,84,85,86,87,128,129,130,131,148,149,150,151,152,153,154] ?_;refine aw.YK 2 mixed (ay 155 [] [] _::ay 156 [0] [0] _::ay 157 [] [] _::ay 158 [2] [] _::ay 159 [3] [] _::ay 160 [4] [] _::ay 161 [5] [1] _::ay 162 [] [] _::ay 163 [6,7] [] _::ay 164 [8] [] _::ay 165 [9] [] _::ay 166 [1,10] [] _::ay 167 [11] [] _::ay 168 [12] [] (I.cond ((((au cT nL).n0) !=((au ai.e0.eo oy).bU))=false) (I.eq (.pointer (some ⟨b6,0+1,none⟩))))::ay 169 [12,13] [0] (I.cond ((((au cT nL).n0) !=((au ai.e0.eo oy).bU))=false) (I.of ((au cT nL).uQ)))::ay 170 [12] [] (I.cond ((((au cT nL).n0) !=((au ai.e0.eo oy).bU))=false) (I.bE hc))::ay 171 [12] [] (I.cond ((((au cT nL).n0) !=((au ai.e0.eo oy).bU))=false) (I.eq (.pointer (some ⟨b6,0+0,none⟩))))::ay 172 [12,16] [0] (I.cond ((((au cT nL).n0) !=((au ai.e0.eo oy).bU))=false) (I.of ((au cT nL).n0)))::ay 173 [12,15,17] [1] (I.cond ((((au cT nL).n0) !=((au ai.e0.eo oy).bU))=false) (I.of ie))::ay 174 [12,14,18] [] (I.cond ((((au cT nL).n0) !=((au ai.e0.eo oy).bU))=false) (I.of (((au cT nL).uQ) !=ie)))::ay 175 [12,19] [] _::[]) ⟨ei.q (jb (bY Ue.fd)),ei.q (vF 0 KV bR),ei.q iD,ei.q (jb e4),ei.q (jb (bY MM.fd)),ei.q (jb (bY MG.fd)),ei.q (vF 1 (AL.comp Hr) B6),ei.q iD,ei.q (hV fun aE aq=>rN (k:=oy) underlying29 vh (ae (aE _ _ rfl)) (ae (aE _ _ rfl)) (dq J0)),ei.q (hV fun aE aq=>y1 D4 afM.fd (ae (aE _ _ rfl)) rfl rfl),ei.q (jb (k9 bR)),ei.q (P2 u9),ei.q iD,?_,?_,?_,?_,?_,?_,?_,ei.q (hV fun aE aq=>(vl (ae (aE _ _ rfl)) (ae (aE _ _ rfl)) (fun h=>h)).rk (dc zs)),trivial⟩ fun fN=>?_
        ·intro hd E' L' aE aq b3;refine J.g (fun hb=>bY afN.fd (ae (aE _ _ rfl))) rfl rfl (aE _ _ rfl) rfl rfl (J.nil ?_);exact aj.fin (cP []) rfl rfl
        ·intro hd E' L' aE aq b3;refine J.g (fun hb=>gz (i:=0) ((aK.id iN).comp QU) (r:=(au cT nL).uQ) bR (cD (aE _ _ rfl) hb) (aq 0 _ rfl rfl) rfl rfl) rfl rfl (aE _ _ rfl) rfl rfl (J.nil ?_);exact aj.fin (cP []) rfl rfl
        ·intro hd E' L' aE aq b3;refine J.g (fun hb=>cG (ae (aE _ _ rfl))) rfl rfl (aE _ _ rfl) rfl rfl (J.nil ?_);exact aj.fin (cP []) rfl rfl
        ·intro hd E' L' aE aq b3;refine J.g (fun hb=>bY Ue.fd (ae (aE _ _ rfl))) rfl rfl (aE _ _ rfl) rfl rfl (J.nil ?_);exact aj.fin (cP []) rfl rfl
        ·intro hd E' L' aE aq b3;refine J.g (fun hb=>gz (i:=0) ((aK.id iN).comp KV) (r:=(au cT nL).n0) bR (cD (aE _ _ rfl) hb) (aq 0 _ rfl rfl) rfl rfl) rfl rfl (aE _ _ rfl) rfl rfl (J.nil ?_);exact aj.fin (cP []) rfl rfl
        ·intro hd E' L' aE aq b3;refine J.g (fun hb=>bc.Ji (z:=(ai:bX)) 1 170 (aE _ _ rfl) (JZ hb) (aq 1 _ rfl rfl) uL (la WV (Rm (fA sP hb)) ⟨ae rfl,cD (aE _ _ rfl) hb,trivial⟩)) rfl rfl (aE _ _ rfl) rfl rfl (J.nil ?_);exact aj.fin (cP []) rfl rfl
        ·intro hd E' L' aE aq b3;refine J.g (fun hb=>u9 (cD (aE _ _ rfl) hb) (cD (aE _ _ rfl) hb)) rfl rfl (aE _ _ rfl) rfl rfl (J.nil ?_);exact aj.fin (cP []) rfl rfl
        refine aj.dN (L2:=(aS b6 (au cT nL:iN)::aS hc ai::aI b1.2)) rfl (fF (aj.next ?_));refine nH h (fun h=>?_) fun h=>?_
        ·refine cm (dW (cv (aw.ret ?_)));refine aj.nC (aj.ret ?_);cases h;exact ha () 1
        refine aw.skip (aj.p8 (aj.next (aw.fv (hB j6 ?_))));refine cH (J.nil ?_);cases h;exact ib () 1
       refine aw.exit (aj.exit ?_);cases h;exact ha () 0
      rcases eL with eL | eL
      ·simp only [Sum.elim_inl] at h;refine aj.mP (aj.next (cm (dW (cv (aw.ret ?_)))));exact aj.bm 0 rfl (aj.eh (⟨⟨(true,b1.2),h⟩,()⟩: {r // _}×_) (.cons_cons _ (.refl _)) rfl rfl (dw rfl))
      simp only [Sum.elim_inr] at h;exact aj.nC (aj.ret (aj.bm 0 rfl (aj.eh (⟨⟨(false,b1.2),h⟩,()⟩: {r // _}×_) (.cons_cons _ (.refl _)) rfl rfl (dw rfl))))
     simp only [Sum.elim_inr] at h;exact aj.nC (aj.ret (aj.bm 0 rfl (aj.eh (⟨⟨(false,b1.2),h⟩,()⟩: {r // _}×_) (.cons_cons _ (.refl _)) rfl rfl (dw rfl))))
    simp only [Sum.elim_inr] at h;exact aj.nC (aj.ret (aj.bm 0 rfl (aj.eh (⟨⟨(false,b1.2),h⟩,()⟩: {r // _}×_) (.cons_cons _ (.refl _)) rfl rfl (dw rfl))))
   simp only [Sum.elim_inr] at h;exact aj.nC (aj.ret (aj.bm 0 rfl (aj.eh (⟨⟨(false,ar.2.2.2),h⟩,()⟩: {r // _}×_) (.cons_cons _ (.refl _)) rfl rfl (dw rfl))))
  refine aQ.bL (γ:=Unit) [0,1,4] 0 1 1 (bG 17 65535) (fun MN=>[(25,I.of (!aD)),(32,I.cond ((!aD)=false) (I.of (bf !=ai.fh)))]) (fun MN=>[]) (fun MN=>aI an.2) (fun MN=>?_) (fun ahU=>?_)
  ·refine aQ.s1 16 ?_
   ·refine OQ ?_;exact J.a1 (ahT ())
  refine aQ.bL (γ:=Unit) [0,1,4] 0 1 2 (bG 17 32767) (fun MO=>[(25,I.of (!aD)),(27,I.cond ((!aD)=false) (I.of bf)),(31,I.cond ((!aD)=false) (I.of ai.fh))]) (fun MO=>[]) (fun MO=>aI an.2) (fun MO=>?_) (fun Vx=>?_)
  ·refine aQ.s1 15 ?_
   ·refine FT u9 ?_;exact J.a1 (ahU ())
  refine aQ.bL (γ:=Unit) [0,1,4] 0 1 3 (bG 17 31743) (fun MP=>[(25,I.of (!aD)),(26,I.cond ((!aD)=false) (I.of aa)),(31,I.cond ((!aD)=false) (I.of ai.fh))]) (fun MP=>[]) (fun MP=>aI an.2) (fun MP=>?_) (fun Vy=>?_)
  ·refine aQ.s1 10 ?_
   ·exact J.te (fun hb=>dL.gS 1 rfl Cb (Ax (fA et hb)) ⟨cD rfl hb,trivial⟩) rfl rfl rfl rfl rfl (J.a1 (Vx ()))
  refine aQ.bL (γ:=Unit) [0,1,4] 0 1 3 (bG 17 16383) (fun MQ=>[(25,I.of (!aD)),(27,I.cond ((!aD)=false) (I.of bf)),(30,I.cond ((!aD)=false) (I.eq (.pointer (some ⟨hc,0+11,none⟩))))]) (fun MQ=>[]) (fun MQ=>aI an.2) (fun MQ=>?_) (fun Vz=>?_)
  ·refine aQ.s1 14 ?_
   ·refine kF (fun hb=>gz (i:=0) ((aK.id bX).comp AM) (r:=ai.fh) bR (cD rfl hb) rfl rfl rfl) ?_;exact J.a1 (Vx ())
  refine aQ.bL (γ:=Unit) [0,1,4] 0 1 4 (bG 17 31231) (fun MR=>[(25,I.of (!aD)),(31,I.cond ((!aD)=false) (I.of ai.fh))]) (fun MR=>[]) (fun MR=>aI an.2) (fun MR=>?_) (fun ahV=>?_)
  ·refine aQ.s1 9 ?_
   ·refine iB cG ?_;exact J.a1 (Vy ())
  refine aQ.bL (γ:=Unit) [0,1,4] 0 1 4 (bG 17 15359) (fun MS=>[(25,I.of (!aD)),(26,I.cond ((!aD)=false) (I.of aa)),(30,I.cond ((!aD)=false) (I.eq (.pointer (some ⟨hc,0+11,none⟩))))]) (fun MS=>[]) (fun MS=>aI an.2) (fun MS=>?_) (fun VA=>?_)
  ·refine aQ.s2 10 14 ?_ ?_
   ·exact J.te (fun hb=>dL.gS 1 rfl Cb (Ax (fA et hb)) ⟨cD rfl hb,trivial⟩) rfl rfl rfl rfl rfl (J.a1 (Vz ()))
   refine kF (fun hb=>gz (i:=0) ((aK.id bX).comp AM) (r:=ai.fh) bR (cD rfl hb) rfl rfl rfl) ?_;exact J.a1 (Vy ())
  refine aQ.bL (γ:=Unit) [0,1,4] 0 1 4 (bG 17 8191) (fun MT=>[(25,I.of (!aD)),(27,I.cond ((!aD)=false) (I.of bf)),(29,I.cond ((!aD)=false) (I.bE hc))]) (fun MT=>[]) (fun MT=>aI an.2) (fun MT=>?_) (fun VB=>?_)
  ·refine aQ.s1 13 ?_
   ·refine iB (bY MU.fd) ?_;exact J.a1 (Vz ())
  refine aQ.bL (γ:=Unit) [0,1,4] 0 1 5 (bG 17 14847) (fun MV=>[(25,I.of (!aD)),(30,I.cond ((!aD)=false) (I.eq (.pointer (some ⟨hc,0+11,none⟩))))]) (fun MV=>[]) (fun MV=>aI an.2) (fun MV=>?_) (fun ahW=>?_)
  ·refine aQ.s2 9 14 ?_ ?_
   ·refine iB cG ?_;exact J.a1 (VA ())
   refine kF (fun hb=>gz (i:=0) ((aK.id bX).comp AM) (r:=ai.fh) bR (cD rfl hb) rfl rfl rfl) ?_;exact J.a1 (ahV ())
  refine aQ.bL (γ:=Unit) [0,1,4] 0 1 5 (bG 17 7167) (fun MW=>[(25,I.of (!aD)),(26,I.cond ((!aD)=false) (I.of aa)),(29,I.cond ((!aD)=false) (I.bE hc))]) (fun MW=>[]) (fun MW=>aI an.2) (fun MW=>?_) (fun VC=>?_)
  ·refine aQ.s2 10 13 ?_ ?_
   ·exact J.te (fun hb=>dL.gS 1 rfl Cb (Ax (fA et hb)) ⟨cD rfl hb,trivial⟩) rfl rfl rfl rfl rfl (J.a1 (VB ()))
   refine iB (bY MU.fd) ?_;exact J.a1 (VA ())
  refine aQ.bL (γ:=Unit) [0,1,4] 0 1 5 (bG 17 4095) (fun NC=>[(25,I.of (!aD)),(27,I.cond ((!aD)=false) (I.of bf)),(28,I.cond ((!aD)=false) (I.bE hc))]) (fun NC=>[]) (fun NC=>aI an.2) (fun NC=>?_) (fun WX=>?_)
  ·refine aQ.s1 12 ?_
   ·refine iB e4 ?_;exact J.a1 (VB ())
  refine aQ.bL (γ:=Unit) [0,1,4] 0 1 6 (bG 17 6655) (fun ND=>[(25,I.of (!aD)),(29,I.cond ((!aD)=false) (I.bE hc))]) (fun ND=>[]) (fun ND=>aI an.2) (fun ND=>?_) (fun ajZ=>?_)
  ·refine aQ.s2 9 13 ?_ ?_
   ·refine iB cG ?_;exact J.a1 (VC ())
   refine iB (bY MU.fd) ?_;exact J.a1 (ahW ())
  refine aQ.bL (γ:=Unit) [0,1,4] 0 1 6 (bG 17 3071) (fun NF=>[(25,I.of (!aD)),(26,I.cond ((!aD)=false) (I.of aa)),(28,I.cond ((!aD)=false) (I.bE hc))]) (fun NF=>[]) (fun NF=>aI an.2) (fun NF=>?_) (fun WY=>?_)
  ·refine aQ.s2 10 12 ?_ ?_
   ·exact J.te (fun hb=>dL.gS 1 rfl Cb (Ax (fA et hb)) ⟨cD rfl hb,trivial⟩) rfl rfl rfl rfl rfl (J.a1 (WX ()))
   refine iB e4 ?_;exact J.a1 (VC ())
  refine aQ.bL (γ:=Unit) [0,1,4] 0 1 6 (bG 17 2047) (fun NG=>[(25,I.of (!aD)),(27,I.cond ((!aD)=false) (I.of bf))]) (fun NG=>[]) (fun NG=>aI an.2) (fun NG=>?_) (fun aj0=>?_)
  ·refine aQ.s1 11 ?_
   ·refine iB cG ?_;exact J.a1 (WX ())
  refine aQ.bL (γ:=Unit) [0,1,4] 0 1 7 (bG 17 2559) (fun NH=>[(25,I.of (!aD)),(28,I.cond ((!aD)=false) (I.bE hc))]) (fun NH=>[]) (fun NH=>aI an.2) (fun NH=>?_) (fun aj1=>?_)
  ·refine aQ.s2 9 12 ?_ ?_
   ·refine iB cG ?_;exact J.a1 (WY ())
   refine iB e4 ?_;exact J.a1 (ajZ ())
  refine aQ.bL (γ:=Unit) [0,1,4] 0 1 7 (bG 17 1023) (fun NI=>[(25,I.of (!aD)),(26,I.cond ((!aD)=false) (I.of aa))]) (fun NI=>[]) (fun NI=>aI an.2) (fun NI=>?_) (fun aj2=>?_)
  ·refine aQ.s2 10 11 ?_ ?_
   ·exact J.te (fun hb=>dL.gS 1 rfl Cb (Ax (fA et hb)) ⟨cD rfl hb,trivial⟩) rfl rfl rfl rfl rfl (J.a1 (aj0 ()))
   refine iB cG ?_;exact J.a1 (WY ())
  refine aQ.bL (γ:=Unit) [0,1,4] 0 1 8 (bG 17 511) (fun NJ=>[(25,I.of (!aD))]) (fun NJ=>[]) (fun NJ=>aI an.2) (fun NJ=>?_) (fun aj3=>?_)
  ·refine aQ.s2 9 11 ?_ ?_
   ·refine iB cG ?_;exact J.a1 (aj2 ())
   refine iB cG ?_;exact J.a1 (aj1 ())
  refine aQ.bL (γ:=Unit) [0,1,4] 0 1 9 (bG 17 255) (fun NK=>[(24,I.of (!aD))]) (fun NK=>[]) (fun NK=>aI an.2) (fun NK=>?_) (fun aj4=>?_)
  ·refine aQ.s1 8 ?_
   ·refine cH ?_;exact J.a1 (aj3 ())
  refine aQ.bL (γ:=Unit) [0,1,4] 0 1 10 (bG 17 127) (fun NL=>[(23,I.of aD)]) (fun NL=>[]) (fun NL=>aI an.2) (fun NL=>?_) (fun aj5=>?_)
  ·refine aQ.s1 7 ?_
   ·refine di sG ?_;exact J.a1 (aj4 ())
  refine aQ.s1 6 ?_;refine vx J1.cn (J1.m _ _ _ cc) ?_;exact J.a1 (aj5 ())
 refine aQ.bL (γ:=Unit) [0,1,4] 0 1 12 (bG 17 61) (fun kh=>[(17,I.of aa),(22,I.of ai.bK)]) (fun kh=>[]) (fun kh=>aI hp) (fun kh=>?_) (fun n4=>?_)
 ·refine aQ.s1 1 ?_
  ·refine J.dB 1 0 rfl Fv (DR l6) rfl rfl ⟨ae rfl,trivial⟩ rfl fun⟨⟨an,fu⟩,_⟩=>J.db ?_;exact J.a1 (qa ⟨an,fu⟩)
 refine aQ.bL (γ:=Subtype fw) [0,1,4] 0 1 12 (bG 17 31) (fun ji=>[(18,I.of ji.1.1),(21,I.eq (.pointer (some ⟨hc,0+10,none⟩)))]) (fun ji=>[]) (fun ji=>aI ji.1.2) (fun ji=>?_) (fun oK=>?_)
 ·refine aQ.s1 5 ?_
  ·refine vD 0 uC py ?_;exact J.a1 (qa ji)
 refine aQ.bL (γ:=Unit) [0,1,4] 0 1 13 (bG 17 60) (fun hP=>[(22,I.of ai.bK)]) (fun hP=>[]) (fun hP=>aI hp) (fun hP=>?_) (fun oL=>?_)
 ·refine aQ.s1 0 ?_
  ·refine cH ?_;exact J.a1 (n4 ())
 refine aQ.bL (γ:=Unit) [0,1,4] 0 1 13 (bG 17 29) (fun h7=>[(17,I.of aa),(21,I.eq (.pointer (some ⟨hc,0+10,none⟩)))]) (fun h7=>[]) (fun h7=>aI hp) (fun h7=>?_) (fun nw=>?_)
 ·refine aQ.s2 1 5 ?_ ?_
  ·refine J.dB 1 0 rfl Fv (DR l6) rfl rfl ⟨ae rfl,trivial⟩ rfl fun⟨⟨an,fu⟩,_⟩=>J.db ?_;exact J.a1 (oK ⟨an,fu⟩)
  refine vD 0 uC py ?_;exact J.a1 (n4 ())
 refine aQ.bL (γ:=Subtype fw) [0,1,4] 0 1 13 (bG 17 15) (fun jO=>[(18,I.of jO.1.1),(20,I.bE hc)]) (fun jO=>[]) (fun jO=>aI jO.1.2) (fun jO=>?_) (fun ob=>?_)
 ·refine aQ.s1 4 ?_
  ·refine di (bY IQ.fd) ?_;exact J.a1 (oK jO)
 refine aQ.bL (γ:=Unit) [0,1,4] 0 1 14 (bG 17 28) (fun iv=>[(21,I.eq (.pointer (some ⟨hc,0+10,none⟩)))]) (fun iv=>[]) (fun iv=>aI hp) (fun iv=>?_) (fun pz=>?_)
 ·refine aQ.s2 0 5 ?_ ?_
  ·refine cH ?_;exact J.a1 (nw ())
  refine vD 0 uC py ?_;exact J.a1 (oL ())
 refine aQ.bL (γ:=Unit) [0,1,4] 0 1 14 (bG 17 13) (fun jP=>[(17,I.of aa),(20,I.bE hc)]) (fun jP=>[]) (fun jP=>aI hp) (fun jP=>?_) (fun oc=>?_)
 ·refine aQ.s2 1 4 ?_ ?_
  ·refine J.dB 1 0 rfl Fv (DR l6) rfl rfl ⟨ae rfl,trivial⟩ rfl fun⟨⟨an,fu⟩,_⟩=>J.db ?_;exact J.a1 (ob ⟨an,fu⟩)
  refine di (bY IQ.fd) ?_;exact J.a1 (nw ())
 refine aQ.bL (γ:=Subtype fw) [0,1,4] 0 1 14 (bG 17 7) (fun iw=>[(18,I.of iw.1.1),(19,I.bE hc)]) (fun iw=>[]) (fun iw=>aI iw.1.2) (fun iw=>?_) (fun oP=>?_)
 ·refine aQ.s1 3 ?_
  ·refine di e4 ?_;exact J.a1 (ob iw)
 refine aQ.bL (γ:=Unit) [0,1,4] 0 1 15 (bG 17 12) (fun lk=>[(20,I.bE hc)]) (fun lk=>[]) (fun lk=>aI hp) (fun lk=>?_) (fun pA=>?_)
 ·refine aQ.s2 0 4 ?_ ?_
  ·refine cH ?_;exact J.a1 (oc ())
  refine di (bY IQ.fd) ?_;exact J.a1 (pz ())
 refine aQ.bL (γ:=Unit) [0,1,4] 0 1 15 (bG 17 5) (fun iU=>[(17,I.of aa),(19,I.bE hc)]) (fun iU=>[]) (fun iU=>aI hp) (fun iU=>?_) (fun qY=>?_)
 ·refine aQ.s2 1 3 ?_ ?_
  ·refine J.dB 1 0 rfl Fv (DR l6) rfl rfl ⟨ae rfl,trivial⟩ rfl fun⟨⟨an,fu⟩,_⟩=>J.db ?_;exact J.a1 (oP ⟨an,fu⟩)
  refine di e4 ?_;exact J.a1 (oc ())
 refine aQ.bL (γ:=Subtype fw) [0,1,4] 0 1 15 (bG 17 3) (fun ix=>[(18,I.of ix.1.1)]) (fun ix=>[]) (fun ix=>aI ix.1.2) (fun ix=>?_) (fun sQ=>?_)
 ·refine aQ.s1 2 ?_
  ·refine cH ?_;exact J.a1 (oP ix)
 refine aQ.bL (γ:=Unit) [0,1,4] 0 1 16 (bG 17 4) (fun ll=>[(19,I.bE hc)]) (fun ll=>[]) (fun ll=>aI hp) (fun ll=>?_) (fun sR=>?_)
 ·refine aQ.s2 0 3 ?_ ?_
  ·refine cH ?_;exact J.a1 (qY ())
  refine di e4 ?_;exact J.a1 (pA ())
 refine aQ.bL (γ:=Unit) [0,1,4] 0 1 16 (bG 17 1) (fun ln=>[(17,I.of aa)]) (fun ln=>[]) (fun ln=>aI hp) (fun ln=>?_) (fun sS=>?_)
 ·refine aQ.s2 1 2 ?_ ?_
  ·refine J.dB 1 0 rfl Fv (DR l6) rfl rfl ⟨ae rfl,trivial⟩ rfl fun⟨⟨an,fu⟩,_⟩=>J.db ?_;exact J.a1 (sQ ⟨an,fu⟩)
  refine cH ?_;exact J.a1 (qY ())
 refine aQ.s2 0 2 ?_ ?_
 ·refine cH ?_;exact J.a1 (sS ())
 refine cH ?_;exact J.a1 (sR ())
theorem aat {aa ai aV bV r}(h:yd aa ai aV=some r):mi prog 31 [I.bE bV,I.of ai,I.of aV] bV aa (I.of r.1) r.2:=by
 unfold yd at h;refine bJ.of func31 rfl ntmps31 rfl fun W A=>cm (pE fun bo=>?_);refine er Jr fun bN=>hX ?_;refine az h fun an bx h=>az h fun aL dg h=>aw.mT 1 (fk [0,1,2,4,6] ?_);refine aw.xI mixed (ay 13 [] [] _::ay 14 [0] [1] _::ay 15 [] [] _::ay 16 [] [] _::ay 17 [3] [1] _::ay 18 [4] [] _::ay 19 [2,5] [] _::ay 20 [1,6] [] _::ay 21 [7] [] _::⟨some 7,[],[3],[3],fun hd=>I.bE ((hd 9 0).getD 0),fun hd _=>aS ((hd 9 0).getD 0) (default:ca)⟩::hA [8,9] [3] [3] (fun hd=>aS ((hd 9 0).getD 0) (au ai.bS aL:ca))::[]) ⟨jb (bY MF.fd),vF 1 x8 zf,iD,jb (bY MF.fd),vF 1 x8 zf,jb (qb underlying27),hV fun aE aq=>la XA.cn (XA.m _ _ _ bx) ⟨ae (aE _ _ rfl),ae (aE _ _ rfl),trivial⟩,hV fun aE aq=>rN (k:=aL) underlying27 qg (ae (aE _ _ rfl)) (ae (aE _ _ rfl)) (dq dg),jb (k9 qg),?_,?_,trivial⟩ fun cZ=>?_
 ·intro hd E' L' aE aq;refine er tX fun b6=>J.nil ?_;exact aj.place 3 (aq 3 _ rfl rfl) (aj.fin (cP [some b6]) rfl rfl)
 ·intro hd E' L' aE aq;refine J.store (i:=3) (aK.id ca) (v:=(au ai.bS aL:ca)) (b':=(au ai.bS aL:ca)) qg (ae (aE _ _ rfl)) (ae (aE _ _ rfl)) (aq 3 _ rfl rfl) rfl rfl (J.nil ?_);exact aj.fin (cP []) rfl rfl
 refine aj.dN (L2:= [aS bN (default:bh),aS bo ai,aS bV aa,aS ((cZ 9 0).getD 0) (au ai.bS aL:ca)]) rfl (fF ?_);refine aj.bm 3 rfl (aj.next (cm (di (bY EX.fd) ?_)));refine vD 0 tu bR ?_;refine bj (ss (b:=({ (default:bh) with bB:=(au ai.bS aL).bU } :bh)) [1,4] SF rfl aj6 Jr (.cons Az rfl (ae rfl) rfl (by rfl) (.nil))) ?_;refine J.own (α:=cx) 108 (J.own (α:=aX) 106 (J.qR (z:=(default:bh)) [1,4] SF Jr rfl fun b7=>J.own (α:=cx) 108 (J.own (α:=aX) 106 (J.uW (i:=2) eU (ae rfl) (ae rfl) rfl (hX (cm (di (bY yO.fd) ?_)))))));refine vD 5 ru xb ?_;refine di (qb underlying82) ?_;refine cH (cv (aw.block ?_));refine az h fun ar ak h=>fD (γ:=(Option Nat×Nat)) (δ:=(Option Nat×Nat)) ak [0,1,2,4,6,7,8,26,27] (fun s1 g1=>[(28,I.of s1.1)]) (fun s1 g1=>[(2,⟨some b7,.ch s1.2.1 [(1,aJ g1.1 s1.2.2.1.length g1.2),(4,aJ none ([]:List aX).length 0)]⟩),(4,⟨g1.1,.row 108 s1.2.2.1 g1.2⟩),(8,aS bV s1.2.2.2)]) (fun av=>Exit.exit 0) (fun av g1=>[(28,I.of av.1),(29,I.of av.2.1)]) (fun av g1=>[(2,⟨some b7,.ch av.2.2.1 [(1,aJ g1.1 av.2.2.2.1.length g1.2),(4,aJ none ([]:List aX).length 0)]⟩),(4,⟨g1.1,.row 108 av.2.2.2.1 g1.2⟩),(8,aS bV av.2.2.2.2)]) (none,0) (fun s1 r h g1=>?_) fun g1=>?_
 ·refine cm (hB sF (hX ?_));refine nH h (fun h=>?_) fun h=>?_
  ·refine l8 (aw.seq (aw.block (cm (az h fun bz dh h=>Cm dh underlying82 sE ?_))));refine di (k9 sE) ?_;refine er sD fun Ku=>?_;refine q5 0 sE (hX ?_);refine az h fun aD cc h=>az h fun bf et h=>fk [0,1,2,4,6,7,8,10,26,27,28,29,30,31] ?_;refine aw.xI mixed (ay 32 [] [] _::ay 33 [0] [3] _::ay 34 [] [] _::ay 35 [] [8] _::ay 36 [] [0] _::⟨some 37,[2,3,4],[9],[9],fun _=>I.of aD.1,fun hd _=>aS bV aD.2⟩::ay 38 [5] [] _::⟨some 39,[1,6],[5],[5],fun hd=>I.eq (aJ (hd 7 0) bf.length ((hd 7 1).getD 0)),fun hd _=>⟨(hd 7 0),.row 108 bf ((hd 7 1).getD 0)⟩⟩::ay 40 [] [] _::hA [1,7,8] [3] [3] (fun hd=>⟨some b7,.ch ({ s1.2.1 with cw:= [] } :bh) [(1,aJ (hd 7 0) bf.length ((hd 7 1).getD 0)),(4,aJ none ([]:List aX).length 0)]⟩)::[]) ⟨jb (bY IJ.fd),hV fun aE aq=>ht (i:=3) (q:=0) (β:=bh) (γ:=cx) B8 (ae (aE _ _ rfl)) (aq 3 _ rfl rfl) rfl,iD,Cp 8 iX,Cp 0 sE,?_,hV fun aE aq=>w2 (r:= [aD.1]) underlying49 BP E4 rfl rfl (.cons (by simp) (ae (aE _ _ rfl)) (.nil)),?_,jb (bY IJ.fd),?_,trivial⟩ fun fN=>?_
   ·intro hd E' L' aE aq;refine J.bm 9 (aq 9 _ rfl rfl) (J.lj (Lin:= [aS bV s1.2.2.2]) (Lr:=L'.eraseIdx 9) aj7 (aao cc) ⟨ae (aE _ _ rfl),ae (aE _ _ rfl),ae (aE _ _ rfl),trivial⟩ rfl fun cQ=>J.nil (aj.back 9 (aq 9 _ rfl rfl) ?_));exact aj.fin (cP []) rfl rfl
   ·intro hd E' L' aE aq;refine J.app (i:=5) underlying49 BP E4 (bytes:=64) (by kernel_rfl) (ae (aE _ _ rfl)) (aq 5 _ rfl rfl) (ae (aE _ _ rfl)) et rfl fun ea dv=>?_;exact J.nil (aj.fin (cP [ea,some dv]) rfl rfl)
   ·intro hd E' L' aE aq;refine J.jh (i:=3) (γ:=cx) (b':=({ s1.2.1 with cw:= [] } :bh)) (os':= [(1,aJ (hd 7 0) bf.length ((hd 7 1).getD 0)),(4,aJ none ([]:List aX).length 0)]) ((aK.id bh).comp Ap) B8 (ae (aE _ _ rfl)) (ae (aE _ _ rfl)) ir (aq 3 _ rfl rfl) rfl rfl rfl (J.nil ?_);exact aj.fin (cP []) rfl rfl
   refine aj.dN (L2:= [aS Ku (au ((au ai.bS aL).c4) bz:dH),⟨none,.row 106 ([]:List aX) 0⟩,⟨none,.row 108 ([]:List cx) 0⟩,⟨some b7,.ch ({ s1.2.1 with cw:= [] } :bh) [(1,aJ (fN 7 0) bf.length ((fN 7 1).getD 0)),(4,aJ none ([]:List aX).length 0)]⟩,⟨none,.row 106 ([]:List aX) 0⟩,⟨(fN 7 0),.row 108 bf ((fN 7 1).getD 0)⟩,aS ((cZ 9 0).getD 0) (au ai.bS aL:ca),aS bN (default:bh),aS bo ai,aS bV aD.2]) rfl (fF (aj.next (cm ?_)));refine di (bY TC.fd) ?_;refine vD 0 yg bR ?_;refine hB sC ?_;refine cH ?_;refine iB (bY TC.fd) ?_;refine kF (fun hb=>gz (i:=0) ((aK.id dH).comp yg) (r:=(au ((au ai.bS aL).c4) bz).ez) bR (cD rfl hb) rfl rfl rfl) ?_;refine FT sC ?_;refine az h fun bn eK h=>pU eK (vl (ae rfl) (ae rfl) (fun h=>h)) (cv ?_);refine az h fun m1 b4 h=>jS (γ:=Unit) [0,1,2,4,6,7,8,10,26,27,28,29,48] (fun g2=>[]) (fun g2=>[(3,⟨some b7,.ch m1.1 [(1,aJ (fN 7 0) bf.length ((fN 7 1).getD 0)),(4,aJ none ([]:List aX).length 0)]⟩),(9,aS bV m1.2)]) (fun g2=>?_) (fun hm ad=>?_) fun hm ad=>?_
   ·refine aj.p8 (aj.next (aw.fv (hB j6 ?_)));refine cH (J.nil ?_);cases h;exact ib ((fN 7 0),((fN 7 1).getD 0)) 1
   ·have h:=gk ad b4;refine aw.fv (cH ?_);refine J.bm 9 rfl (az h fun bu fl h=>ef 1 gB (gx fl) fun ev=>?_);refine hB j6 ?_;refine di (bY MI.fd) ?_;refine az h fun z2 hz h=>J.wP (i:=4) ((aK.id bh).comp Hj) (v:=(bk (1+bu.1):Int)) (b':=z2) bR (ae rfl) (ae rfl) rfl rfl (dc hz) (by rfl) ?_;refine J.nil (aj.bm 9 rfl (aj.bm 9 rfl (aj.bm 9 rfl (aj.bm 9 rfl (aj.bm 9 rfl (aj.bm 9 rfl (aj.bm 9 rfl (aj.bm 9 rfl (aj.bm 9 rfl ?_)))))))));cases h;exact dQ 0 (hm ())
   have h:=gl ad b4;refine aw.skip ?_;cases h;exact dQ 0 (hm ())
  refine aw.exit (aj.exit ?_);cases h;exact ha (g1.1,g1.2) 0
 refine aj.mP (aj.next (aw.seq (az h fun cd hE h=>az h fun cR ic h=>az h fun z3 mW h=>fk [0,1,2,4,6,7,8,26,27,28,29] ?_)));refine aw.xI mixed (ay 54 [] [] _::ay 55 [0] [5] _::ay 56 [] [] _::ay 57 [] [] _::ay 58 [3] [5] _::ay 59 [4] [] _::⟨some 60,[2,5],[8],[8],fun _=>I.of cd.1,fun hd _=>aS bV cd.2⟩::ay 61 [1,6] [] _::ay 62 [7] [] _::ay 63 [] [] _::hA [8,9] [2] [2] (fun hd=>⟨some b7,.ch z3 [(1,aJ g1.1 ar.2.2.2.1.length g1.2),(4,aJ none ([]:List aX).length 0)]⟩)::[]) ⟨jb (bY Uf.fd),vF 5 x7 lq,iD,jb (bY Uf.fd),vF 5 x7 lq,jb (qb underlying56),?_,hV fun aE aq=>rN (k:=cR) underlying56 bR (ae (aE _ _ rfl)) (ae (aE _ _ rfl)) (dq ic),jb (k9 bR),jb (bY IK.fd),?_,trivial⟩ fun xo=>?_
 ·intro hd E' L' aE aq;exact J.bm 8 (aq 8 _ rfl rfl) (J.lj (Lin:= [aS bV ar.2.2.2.2]) (Lr:=L'.eraseIdx 8) gB (gx hE) ⟨ae (aE _ _ rfl),ae (aE _ _ rfl),trivial⟩ rfl fun hJ=>J.nil (aj.back 8 (aq 8 _ rfl rfl) (aj.fin (cP []) rfl rfl)))
 ·intro hd E' L' aE aq;refine J.wP (i:=2) ((aK.id bh).comp Dp) (v:=(au ((au ai.bS aL).dC) cR:Int)) (b':=z3) bR (ae (aE _ _ rfl)) (ae (aE _ _ rfl)) (aq 2 _ rfl rfl) rfl (dc mW) (by rfl) ?_;exact J.nil (aj.fin (cP []) rfl rfl)
 refine aj.dN (L2:= [⟨none,.row 106 ([]:List aX) 0⟩,⟨none,.row 108 ([]:List cx) 0⟩,⟨some b7,.ch z3 [(1,aJ g1.1 ar.2.2.2.1.length g1.2),(4,aJ none ([]:List aX).length 0)]⟩,⟨none,.row 106 ([]:List aX) 0⟩,⟨g1.1,.row 108 ar.2.2.2.1 g1.2⟩,aS ((cZ 9 0).getD 0) (au ai.bS aL:ca),aS bN (default:bh),aS bo ai,aS bV cd.2]) rfl (fF (aj.next (aw.seq (cm ?_))));refine cB 7 iX ?_;refine di (bY IK.fd) ?_;refine XH 2 Dp bR ?_;refine az h fun b9 hS h=>vx XD.cn (XD.m _ _ _ hS) ?_;refine bj (L5 QQ aeC VD rfl (ae rfl) rfl rfl) ?_;refine di (qb underlying146) ?_;refine cH (cv (aw.block ?_));refine az h fun aU ak h=>fD (γ:=(Option Nat×Nat)) (δ:=(Option Nat×Nat)) ak [0,1,2,4,6,7,8,26,27,28,29,68,69] (fun s2 g3=>[(70,I.of s2.1)]) (fun s2 g3=>[(2,⟨some b7,.ch s2.2.1 [(1,aJ g1.1 ar.2.2.2.1.length g1.2),(4,aJ g3.1 s2.2.2.1.length g3.2)]⟩),(3,⟨g3.1,.row 106 s2.2.2.1 g3.2⟩),(8,aS bV s2.2.2.2)]) (fun ec=>Exit.exit 2) (fun ec g3=>[(70,I.of ec.1),(71,I.of ec.2.1)]) (fun ec g3=>[(2,⟨some b7,.ch ec.2.2.1 [(1,aJ g1.1 ar.2.2.2.1.length g1.2),(4,aJ g3.1 ec.2.2.2.1.length g3.2)]⟩),(3,⟨g3.1,.row 106 ec.2.2.2.1 g3.2⟩),(8,aS bV ec.2.2.2.2)]) (none,0) (fun s2 r h g3=>?_) fun g3=>?_
 ·refine cm (hB sF (hX ?_));refine nH h (fun h=>?_) fun h=>?_
  ·refine l8 (aw.seq (aw.block (cm (az h fun hh pF h=>Cm pF underlying146 Jj ?_))));refine di (k9 Jj) ?_;refine er ahX fun YI=>?_;refine q5 0 Jj (cv ?_);refine az h fun cC lT h=>az h fun z4 r5 h=>az h fun b1 nF h=>az h fun cT pI h=>fk [0,1,2,4,6,7,8,12,26,27,28,29,68,69,70,71,72,73] ?_;refine aw.xI mixed (ay 74 [] [] _::ay 75 [0] [3] _::ay 76 [] [] _::⟨some 77,[2],[9],[9],fun _=>I.of cC.1,fun hd _=>aS bV cC.2⟩::ay 78 [3] [] _::ay 79 [4] [] _::ay 80 [] [] _::ay 81 [6] [0] _::ay 82 [5,7] [] _::ay 83 [8] [] _::⟨some 84,[1,9],[4],[4],fun hd=>I.eq (aJ (hd 10 0) cT.length ((hd 10 1).getD 0)),fun hd _=>⟨(hd 10 0),.row 106 cT ((hd 10 1).getD 0)⟩⟩::ay 85 [] [] _::hA [1,10,11] [3] [3] (fun hd=>⟨some b7,.ch ({ s2.2.1 with fq:= [] } :bh) [(1,aJ g1.1 ar.2.2.2.1.length g1.2),(4,aJ (hd 10 0) cT.length ((hd 10 1).getD 0))]⟩)::[]) ⟨jb (bY EU.fd),hV fun aE aq=>ht (i:=3) (q:=1) (β:=bh) (γ:=aX) B9 (ae (aE _ _ rfl)) (aq 3 _ rfl rfl) rfl,iD,?_,jb (Ug underlying3 underlying104),hV fun aE aq=>(kg (b:=({ (default:aX) with cO:=BitVec.ofInt 64 cC.1 } :aX)) rfl BQ tN (.cons qJ rfl (ae (aE _ _ rfl)) rfl (.nil))).rk (dc r5),jb (bY aeD.fd),vF 0 Q9 bR,hV fun aE aq=>la XB.cn (XB.m _ _ _ nF) ⟨ae (aE _ _ rfl),ae (aE _ _ rfl),trivial⟩,hV fun aE aq=>w2 (r:= [b1]) underlying50 hQ tN rfl rfl (.cons (by simp) (ae (aE _ _ rfl)) (.nil)),?_,jb (bY EU.fd),?_,trivial⟩ fun Cs=>?_
   ·intro hd E' L' aE aq;refine J.bm 9 (aq 9 _ rfl rfl) (J.lj (Lin:= [aS bV s2.2.2.2]) (Lr:=L'.eraseIdx 9) gB (gx lT) ⟨ae (aE _ _ rfl),c9 256,trivial⟩ rfl fun dM=>J.nil (aj.back 9 (aq 9 _ rfl rfl) ?_));exact aj.fin (cP []) rfl rfl
   ·intro hd E' L' aE aq;refine J.app (i:=4) underlying50 hQ tN (bytes:=16) (by kernel_rfl) (ae (aE _ _ rfl)) (aq 4 _ rfl rfl) (ae (aE _ _ rfl)) pI rfl fun iy lN=>?_;exact J.nil (aj.fin (cP [iy,some lN]) rfl rfl)
   ·intro hd E' L' aE aq;refine J.jh (i:=3) (γ:=aX) (b':=({ s2.2.1 with fq:= [] } :bh)) (os':= [(1,aJ g1.1 ar.2.2.2.1.length g1.2),(4,aJ (hd 10 0) cT.length ((hd 10 1).getD 0))]) ((aK.id bh).comp AH) B9 (ae (aE _ _ rfl)) (ae (aE _ _ rfl)) ir (aq 3 _ rfl rfl) rfl rfl rfl (J.nil ?_);exact aj.fin (cP []) rfl rfl
   refine aj.dN (L2:= [aS YI (au b9.l2 hh:mn),⟨none,.row 106 ([]:List aX) 0⟩,⟨none,.row 108 ([]:List cx) 0⟩,⟨some b7,.ch ({ s2.2.1 with fq:= [] } :bh) [(1,aJ g1.1 ar.2.2.2.1.length g1.2),(4,aJ (Cs 10 0) cT.length ((Cs 10 1).getD 0))]⟩,⟨(Cs 10 0),.row 106 cT ((Cs 10 1).getD 0)⟩,⟨g1.1,.row 108 ar.2.2.2.1 g1.2⟩,aS ((cZ 9 0).getD 0) (au ai.bS aL:ca),aS bN (default:bh),aS bo ai,aS bV cC.2]) rfl (fF ?_);refine aj.p8 (aj.next (aw.fv (hB j6 ?_)));refine cH (J.nil ?_);cases h;exact ib ((Cs 10 0),((Cs 10 1).getD 0)) 1
  refine aw.exit (aj.exit ?_);cases h;exact ha (g3.1,g3.2) 0
 refine aj.mP (aj.next (cm (J.mx (β:=bh) (γ:=cx) (b':=({ aU.2.2.1 with cw:=ar.2.2.2.1 } :bh)) ((aK.id bh).comp Ap) 2 4 0 rfl rfl rfl rfl rfl rfl (J.mx (β:=bh) (γ:=aX) (b':=({ ({ aU.2.2.1 with cw:=ar.2.2.2.1 } :bh) with fq:=aU.2.2.2.1 } :bh)) ((aK.id bh).comp AH) 2 3 0 rfl rfl rfl rfl rfl rfl (J.rM 2 rfl (az h fun z5 zs h=>pU zs (gz (i:=2) (aK.id bh) (r:=({ ({ aU.2.2.1 with cw:=ar.2.2.2.1 } :bh) with fq:=aU.2.2.2.1 } :bh)) eU (ae rfl) rfl rfl rfl) ?_))))));refine q5 6 eU (cv (aw.ret ?_));refine aj.bm 8 rfl ?_;cases h;exact aj.eh () (.cons_cons _ (List.nil_sublist _)) rfl rfl (po (i:=7) eU rfl rfl)
theorem Rc {hp aa ai r}(h:yf hp aa ai=some r):ik prog 63 [I.of aa,I.of ai] hp (I.bP [I.of r.1,I.of r.2]) hp:=by
 unfold yf at h;refine bJ.of func63 rfl ntmps63 rfl fun W A=>?_;refine aM fun bo bN=>?_;refine az h fun an bx h=>az h fun aD cc h=>fk [0,1,3,4] ?_;refine aw.cn 2 (ay 6 [] [] _::ay 7 [] [] _::ay 8 [1] [1] _::ay 9 [0,2] [] (I.of an)::ay 10 [] [1] _::ay 11 [3,4] [] (I.bP [I.of aD.1,I.of aD.2])::ay 12 [5] [] _::ay 13 [5] [] _::hA [6] [0] [0] (fun hd=>aS bN aD.1)::ay 5 [7] [] _::[]) (dG ?_ (dG ?_ h3)) (fun cZ=>?_)
 ·intro hd E' L' aE aq b3;exact J.fm (dL.gS 2 (b3.trans rfl) Fs (DH bx) ⟨ae (aE _ _ rfl),ae (aE _ _ rfl),trivial⟩) rfl rfl rfl (J.nil (aj.fin (cP []) rfl rfl))
 ·intro hd E' L' aE aq b3;exact J.fm (dL.gS 2 (b3.trans rfl) Oi (K5 cc) ⟨ae (aE _ _ rfl),ae (aE _ _ rfl),trivial⟩) rfl rfl rfl (J.nil (aj.fin (cP []) rfl rfl))
 refine aj.dN (L2:=(aS bN aD.1::aS bo ai::aI hp)) rfl (fF ?_);exact go
theorem aaa {hp aa ai Q}(h:DE hp aa ai Q):bJ prog 103 [I.of aa,I.of ai] ([]++aI hp) (δ:= {r:aC×Bool×(aG Cell) // Q r}×Unit) (fun d=>I.bP [I.of d.1.1.1,I.of d.1.1.2.1]) (fun d=>[]++aI d.1.1.2.2):=by
 unfold DE at h;refine bJ.of func103 rfl ntmps103 rfl fun W A=>?_;refine aM fun bo bN=>?_;refine ag.br h fun an bx h=>J.fm (dL.gS 2 rfl Oi (K5 bx) ⟨ae rfl,ae rfl,trivial⟩) rfl rfl rfl (aM fun b6=>?_);refine xm (γ:=Unit) h 3 [0,1,3,4,5,6,7,14] (fun m1 g1=>[]) (fun m1 g1=>[]) (fun m1 g1=>aI m1) (fun m1 g1 h=>?_) (fun hm ad h=>?_) (fun hm ad h=>?_)
 ·refine aM ?_;exact aj.rQ (⟨⟨(an.1,an.2,m1),h⟩,()⟩: {r // _}×_) (fE 3) rfl rfl (po (i:=1) eZ rfl rfl) (dw rfl)
 ·refine aw.seq (ag.br h fun bt dn h=>ag.br h fun c1 dy h=>aw.fy 5 ?_);refine J.Fu 3 0 rfl (ZF h) rfl rfl ⟨ae rfl,ae rfl,trivial⟩ rfl fun⟨⟨aD,h⟩,av⟩=>?_;refine J.db (cv ?_);refine ag.br h fun c2 eR h=>aw.fy 6 ?_;exact ag.br h fun cu e5 h=>ag.br h fun cY gF h=>ag.br h fun bH gD h=>J.Je (k':=Cell.lP (iL cY an.1.b0)) 3 rfl underlying193 zr (kW (ae rfl) e5) (ae rfl) (sx gF) rfl rfl rfl (dc gD) (J.nil (dQ 0 (hm bH () h)))
 exact aw.skip (dQ 0 (hm hp () h))
theorem Q0 {hp aa ai aV Q}(h:AD hp aa ai aV Q):bJ prog 62 [I.of aa,I.of ai,I.of aV] ([]++aI hp) (δ:= {r:Int×Int×(aG Cell) // Q r}×Unit) (fun d=>I.bP [I.of d.1.1.1,I.of d.1.1.2.1]) (fun d=>[]++aI d.1.1.2.2):=by
 unfold AD at h;refine bJ.of func62 rfl ntmps62 rfl fun W A=>?_;refine aM fun bo=>?_;refine ag.br h fun an bx h=>J.fm (dL.gS 1 rfl Fs (DH bx) ⟨ae rfl,ae rfl,trivial⟩) rfl rfl rfl (go2 (fun h=>?_) (fun h=>?_))
 ·exact aj.rQ (⟨⟨(0,6,hp),h⟩,()⟩: {r // _}×_) (fE 1) rfl rfl (dw rfl) (dw rfl)
 refine ag.br h fun aD cc h=>J.fm (dL.gS 1 rfl Oi (K5 cc) ⟨ae rfl,ae rfl,trivial⟩) rfl rfl rfl (go2 (fun bN h=>?_) (fun bN h=>?_))
 ·exact aj.rQ (⟨⟨(0,17,hp),h⟩,()⟩: {r // _}×_) (fE 2) rfl rfl (dw rfl) (dw rfl)
 refine ag.br h fun bf et h=>ag.br h fun bu fl h=>fk [0,1,2,4,6,7,8,9,10,12,13,14,15,16,17,18,19,20,21,22,23,24] ?_;refine aw.cn 2 (ay 25 [] [] _::ay 26 [0] [] (I.of bf)::ay 27 [] [] _::ay 28 [] [] _::ay 29 [3] [1] _::ay 30 [2,4] [] (I.of bu)::ay 31 [1,5] [] _::[]) (dG ?_ (dG ?_ h3)) (fun cZ=>?_)
 ·intro hd E' L' aE aq b3;exact J.fm (dL.gS 2 (b3.trans rfl) aj8 (aaV et) ⟨ae (aE _ _ rfl),trivial⟩) rfl rfl rfl (J.nil (aj.fin (cP []) rfl rfl))
 ·intro hd E' L' aE aq b3;exact J.fm (dL.gS 2 (b3.trans rfl) ahY (aaI fl) ⟨ae (aE _ _ rfl),ae (aE _ _ rfl),trivial⟩) rfl rfl rfl (J.nil (aj.fin (cP []) rfl rfl))
 refine aj.dN (L2:=(aS bN aD.1::aS bo ai::aI hp)) rfl (fF ?_);refine go2 (fun h=>?_) (fun bt dn c1 dy bn eK h=>?_)
 ·exact aj.rQ (⟨⟨(0,18,hp),h⟩,()⟩: {r // _}×_) (fE 2) rfl rfl (dw rfl) (dw rfl)
 refine J.dB 2 0 rfl NM (K8 h) rfl rfl ⟨ae rfl,ae rfl,trivial⟩ rfl fun⟨⟨cd,h⟩,av⟩=>J.db ?_;refine aM fun c2 eR h=>?_;refine ag.br h fun bH gD h=>J.ns (k':=Cell.qh ({ c2 with nt:=bk (c2.nt+1) } :kr)) 2 rfl ((aK.id kr).comp Ht) (v:=(bk (c2.nt+1):Int)) bR (ae rfl) (ae rfl) (sy eR) rfl rfl rfl rfl (dc gD) (aM ?_);exact aj.rQ (⟨⟨(c1.nt,0,bH),h⟩,()⟩: {r // _}×_) (fE 2) rfl rfl (dw rfl) (dw rfl)
theorem DF {hp aa ai Q}(h:ts hp aa ai Q):bJ prog 65 [I.of aa,I.of ai] ([]++aI hp) (δ:= {r:aC×Int×(aG Cell) // Q r}×Unit) (fun d=>I.bP [I.of d.1.1.1,I.of d.1.1.2.1]) (fun d=>[]++aI d.1.1.2.2):=by
 unfold ts at h;refine bJ.of func65 rfl ntmps65 rfl fun W A=>?_;refine aM fun bo bN=>?_;refine ag.br h fun an bx h=>J.fm (dL.gS 2 rfl Fs (DH bx) ⟨ae rfl,ae rfl,trivial⟩) rfl rfl rfl (go2 (fun h=>?_) (fun h=>?_))
 ·exact aj.rQ (⟨⟨((default:aC),6,hp),h⟩,()⟩: {r // _}×_) (fE 2) rfl rfl (po (i:=0) eZ rfl rfl) (dw rfl)
 refine J.dB 2 0 rfl ahZ (aaa h) rfl rfl ⟨ae rfl,ae rfl,trivial⟩ rfl fun⟨⟨aD,h⟩,av⟩=>?_;refine J.db ?_;refine go2 (fun b6 h=>?_) (fun b6 h=>?_)
 ·exact aj.rQ (⟨⟨((default:aC),16,aD.2.2),h⟩,()⟩: {r // _}×_) (fE 3) rfl rfl (po (i:=1) eZ rfl rfl) (dw rfl)
 exact aj.rQ (⟨⟨(aD.1,0,aD.2.2),h⟩,()⟩: {r // _}×_) (fE 3) rfl rfl (po (i:=1) eZ rfl rfl) (dw rfl)
theorem ZU {hp aa ai Q}(h:Du hp aa ai Q):k6 prog 81 [I.of aa,I.of ai] hp Q:=by
 unfold Du at h;refine bJ.of func81 rfl ntmps81 rfl fun W A=>?_;refine aM fun bo=>?_;refine ag.br h fun aD cc h=>fk [0,1,3,4] ?_;refine aw.YJ 6 1 mixed (ay 5 [] [] _::ay 6 [] [] _::ay 7 [1] [] _::ay 8 [2] [0] _::ay 9 [0,3] [] (I.of aD)::ay 10 [] [0] _::[]) ⟨ei.q iD,ei.q (jb (bY MK.fd)),ei.q (jb (bY II.fd)),ei.q (vF 0 (Da.comp Az) bR),?_,ei.q (Cp 0 eZ),trivial⟩ fun cZ=>?_
 ·intro hd E' L' aE aq b3;exact J.fm (dL.gS 1 (b3.trans rfl) Fs (DH cc) ⟨ae (aE _ _ rfl),ae (aE _ _ rfl),trivial⟩) rfl rfl rfl (J.nil (aj.fin (cP []) rfl rfl))
 refine J.dN (L2:=(aS bo ai::aI hp)) rfl (XR ?_);refine J.dB 1 0 rfl NM (K8 h) rfl rfl ⟨ae rfl,ae rfl,trivial⟩ rfl fun⟨⟨bf,h⟩,av⟩=>J.db ?_;refine dW (cv (aw.ret ?_));exact aj.eh (⟨⟨(bf.1,bf.2),h⟩,()⟩: {r // _}×_) (fE 1) rfl rfl (dw rfl)
theorem KQ {hp aa ai aV Q}(h:so hp aa ai aV Q):k6 prog 32 [I.of aa,I.of ai,I.of aV] hp Q:=by
 unfold so at h;refine bJ.of func32 rfl ntmps32 rfl fun W A=>?_;refine go2 (fun bo bN b6 h=>?_) (fun bo bN b6 h=>?_)
 ·exact aj.eh (⟨⟨(6,hp),h⟩,()⟩: {r // _}×_) (fE 3) rfl rfl (dw rfl)
 refine ag.br h fun dX j8 h=>ag.br h fun cY gF h=>?_;obtain⟨fw,l6,rY⟩:=ag.ex h;refine aw.BV mixed 13 (bG 13 0) rfl rfl (aQ.bL (γ:=(Subtype fw)×Nat) [3,4,5,6] 0 3 1 (bG 13 4095) (fun uY=>[(7,I.bE uY.2),(22,I.of uY.1.1.2.1)]) (fun uY=>[aS uY.2 uY.1.1.1]) (fun uY=>aI uY.1.1.2.2) (fun uY=>?_) (fun VE=>?_))
 ·obtain⟨⟨an,fu⟩,b7⟩:=uY;have h:=rY an fu;refine aQ.tail 12 rfl (by kernel_rfl) ?_;refine J.dN (L2:=(aS b7 an.1::aS b6 aV::aS bN ai::aS bo aa::aI an.2.2)) rfl (J.le (E':= [(3,I.bE bo),(4,I.bE bN),(5,I.bE b6),(6,I.of (0:Int)),(7,I.bE b7),(22,I.of an.2.1)]) .all ?_);refine go2 (fun h=>?_) (fun h=>?_)
  ·exact aj.eh (⟨⟨(an.2.1,an.2.2),h⟩,()⟩: {r // _}×_) (fE 4) rfl rfl (dw rfl)
  refine ag.br h fun km ub h=>ag.br h fun gO pJ h=>ag.br h fun aD cc h=>aw.BU 1 4 (fk [3,4,5,6,7,8,22,23,24] ?_);refine aw.cn 5 (ay 27 [] [3] _::ay 28 [0] [] _::ay 29 [1] [] _::ay 30 [2] [] _::ay 31 [] [2] _::ay 32 [3,4] [] (I.bP [I.of aD.1,I.of aD.2])::ay 26 [5] [] _::ay 33 [6] [] _::ay 34 [6] [] _::qk 9 [] 4 9 _::hA [7,9] [4] [4] (fun hd=>aS ((hd 9 0).getD 0) aD.1)::ay 10 [8] [] _::[]) (dG ?_ h3) (fun cZ=>?_)
  ·intro hd E' L' aE aq b3;exact J.fm (dL.gS 5 (b3.trans rfl) WZ (Rc cc) ⟨ae (aE _ _ rfl),ae (aE _ _ rfl),trivial⟩) rfl rfl rfl (J.nil (aj.fin (cP []) rfl rfl))
  refine aj.dN (L2:=(aS b7 an.1::aS b6 aV::aS bN ai::aS bo aa::aS ((cZ 9 0).getD 0) aD.1::aI an.2.2)) rfl (fF ?_);refine aj.bm 4 rfl (aj.next (aw.seq (aw.seq (ag.br h fun kn vE h=>ag.br h fun ke ud h=>aw.fy 5 ?_))));refine ag.br h fun bf et h=>J.dB 5 0 rfl W0 (Q5 et) rfl rfl ⟨ae rfl,ae rfl,trivial⟩ rfl fun av=>J.db ?_;refine go2 (fun h=>?_) (fun h=>?_)
  ·refine ag.br h fun jG ue h=>aw.fy 6 ?_;refine J.dB 5 0 rfl Fw (DF h) rfl rfl ⟨ae rfl,ae rfl,trivial⟩ rfl fun⟨⟨bu,h⟩,cQ⟩=>?_;refine J.db (hX ?_);refine ag.br h fun v8 FW h=>aw.fy 5 ?_;refine ag.br h fun cd hE h=>J.dB 5 0 rfl W1 (QO hE) rfl rfl ⟨ae rfl,ae rfl,trivial⟩ rfl fun ev=>J.db ?_;refine aM ?_;exact aj.eh (⟨⟨(19,cd),h⟩,()⟩: {r // _}×_) (fE 5) rfl rfl (dw rfl)
  refine ag.br h fun CL XO h=>aw.fy 6 ?_;refine ag.br h fun b9 hS h=>J.dB 5 0 rfl Oj (K7 hS) rfl rfl ⟨ae rfl,ae rfl,trivial⟩ rfl fun hJ=>J.db ?_;refine aM ?_;refine J.share (α:=Ref) 4 3 rfl rfl (J.share (α:=aC) 0 9 rfl rfl (J.share (α:=Int) 1 7 rfl rfl (J.share (α:=Int) 2 5 rfl rfl (bj (MX (I6 (f:=69) (τs:= [I.ptr aa,I.ptr aD.1,I.ptr an.1,I.ptr aV]) ⟨ae rfl,ae rfl,ae rfl,ae rfl,trivial⟩) (fun _ _ _ h=>afO h)) ?_))));refine ag.br h fun xK Cr h=>ag.br h fun cC lT h=>J.nb (ee.obj 5 (fun q:Option Nat×Nat=>Cell.mA cC q.1 q.2) rfl (iI Cr) Ol (KM lT) rfl (fun _=>rfl) ⟨fg (ae rfl) vE,ae rfl,trivial⟩) rfl rfl rfl fun ec=>?_;replace h:=ag.any_bind h ec;refine ag.br h fun bH gD h=>J.dN (L2:=(⟨none,.dead⟩::⟨none,.dead⟩::⟨none,.dead⟩::aS bN ai::⟨none,.dead⟩::aI bH)) (by rw [← dc gD];rfl) ?_;refine aM ?_;exact aj.eh (⟨⟨(0,bH),h⟩,()⟩: {r // _}×_) (fE 5) rfl rfl (dw rfl)
 refine aQ.bL (γ:=(Subtype fw)×Nat) [3,4,5,6] 0 3 2 (bG 13 3583) (fun sA=>[(7,I.bE sA.2),(13,I.bP [I.of sA.1.1.1,I.of sA.1.1.2.1])]) (fun sA=>[aS sA.2 sA.1.1.1]) (fun sA=>aI sA.1.1.2.2) (fun sA=>?_) (fun ah0=>?_)
 ·refine aQ.s1 9 ?_
  ·refine jU ?_;exact J.a1 (VE (sA.1,sA.2))
 refine aQ.bL (γ:=(Subtype fw)×Nat) [3,4,5,6] 0 3 2 (bG 13 2047) (fun tH=>[(7,I.bE tH.2),(21,I.of tH.1.1.1),(22,I.of tH.1.1.2.1)]) (fun tH=>[aS tH.2 (default:Int)]) (fun tH=>aI tH.1.1.2.2) (fun tH=>?_) (fun NN=>?_)
 ·refine aQ.s1 11 ?_
  ·refine q5 0 bR ?_;exact J.a1 (VE (tH.1,tH.2))
 refine aQ.bL (γ:=(Subtype fw)×Nat) [3,4,5,6] 0 3 3 (bG 13 1791) (fun sB=>[(7,I.bE sB.2),(13,I.bP [I.of sB.1.1.1,I.of sB.1.1.2.1]),(22,I.of sB.1.1.2.1)]) (fun sB=>[aS sB.2 (default:Int)]) (fun sB=>aI sB.1.1.2.2) (fun sB=>?_) (fun VF=>?_)
 ·refine aQ.s1 8 ?_
  ·refine jU ?_;exact J.a1 (NN (sB.1,sB.2))
 refine aQ.bL (γ:=(Subtype fw)×Nat) [3,4,5,6] 0 3 3 (bG 13 1535) (fun qS=>[(7,I.bE qS.2),(13,I.bP [I.of qS.1.1.1,I.of qS.1.1.2.1]),(21,I.of qS.1.1.1)]) (fun qS=>[aS qS.2 (default:Int)]) (fun qS=>aI qS.1.1.2.2) (fun qS=>?_) (fun VG=>?_)
 ·refine aQ.s2 9 11 ?_ ?_
  ·refine jU ?_;exact J.a1 (NN (qS.1,qS.2))
  refine q5 0 bR ?_;exact J.a1 (ah0 (qS.1,qS.2))
 refine aQ.bL (γ:=Subtype fw) [3,4,5,6] 0 3 3 (bG 13 1023) (fun yQ=>[(21,I.of yQ.1.1),(22,I.of yQ.1.2.1)]) (fun yQ=>[]) (fun yQ=>aI yQ.1.2.2) (fun yQ=>?_) (fun VH=>?_)
 ·refine aQ.s1 10 ?_
  ·refine er hY fun b7=>?_;exact J.a1 (NN (yQ,b7))
 refine aQ.bL (γ:=(Subtype fw)×Nat) [3,4,5,6] 0 3 4 (bG 13 1279) (fun rG=>[(7,I.bE rG.2),(13,I.bP [I.of rG.1.1.1,I.of rG.1.1.2.1])]) (fun rG=>[aS rG.2 (default:Int)]) (fun rG=>aI rG.1.1.2.2) (fun rG=>?_) (fun VI=>?_)
 ·refine aQ.s2 8 9 ?_ ?_
  ·refine jU ?_;exact J.a1 (VG (rG.1,rG.2))
  refine jU ?_;exact J.a1 (VF (rG.1,rG.2))
 refine aQ.bL (γ:=Subtype fw) [3,4,5,6] 0 3 4 (bG 13 767) (fun uZ=>[(13,I.bP [I.of uZ.1.1,I.of uZ.1.2.1]),(22,I.of uZ.1.2.1)]) (fun uZ=>[]) (fun uZ=>aI uZ.1.2.2) (fun uZ=>?_) (fun ah1=>?_)
 ·refine aQ.s2 8 10 ?_ ?_
  ·refine jU ?_;exact J.a1 (VH uZ)
  refine er hY fun b7=>?_;exact J.a1 (VF (uZ,b7))
 refine aQ.bL (γ:=Subtype fw) [3,4,5,6] 0 3 4 (bG 13 511) (fun u0=>[(13,I.bP [I.of u0.1.1,I.of u0.1.2.1]),(21,I.of u0.1.1)]) (fun u0=>[]) (fun u0=>aI u0.1.2.2) (fun u0=>?_) (fun ah2=>?_)
 ·refine aQ.s2 9 10 ?_ ?_
  ·refine jU ?_;exact J.a1 (VH u0)
  refine er hY fun b7=>?_;exact J.a1 (VG (u0,b7))
 refine aQ.bL (γ:=(Subtype fw)×Nat) [3,4,5,6] 0 3 5 (bG 13 1151) (fun tI=>[(7,I.bE tI.2),(20,I.bP [I.of tI.1.1.1,I.of tI.1.1.2.1])]) (fun tI=>[aS tI.2 (default:Int)]) (fun tI=>aI tI.1.1.2.2) (fun tI=>?_) (fun VJ=>?_)
 ·refine aQ.s1 7 ?_
  ·refine cH ?_;exact J.a1 (VI (tI.1,tI.2))
 refine aQ.bL (γ:=Subtype fw) [3,4,5,6] 0 3 5 (bG 13 255) (fun u1=>[(13,I.bP [I.of u1.1.1,I.of u1.1.2.1])]) (fun u1=>[]) (fun u1=>aI u1.1.2.2) (fun u1=>?_) (fun ah3=>?_)
 ·refine aQ.iC [8,9,10] ⟨⟨_,rfl,?_⟩,⟨_,rfl,?_⟩,⟨_,rfl,?_⟩,trivial⟩
  ·refine jU ?_;exact J.a1 (ah2 u1)
  ·refine jU ?_;exact J.a1 (ah1 u1)
  refine er hY fun b7=>?_;exact J.a1 (VI (u1,b7))
 refine aQ.bL (γ:=Nat) [3,4,5,6] 0 3 6 (bG 13 1087) (fun BC=>[(7,I.bE BC),(17,I.of cY.1.fB),(18,I.of ai),(19,I.of aV)]) (fun BC=>[aS BC (default:Int)]) (fun BC=>aI hp) (fun BC=>?_) (fun Jk=>?_)
 ·refine aQ.s1 6 ?_
  ·refine J.dB 4 0 rfl W2 (Q0 l6) rfl rfl ⟨ae rfl,ae rfl,ae rfl,trivial⟩ rfl fun⟨⟨an,fu⟩,_⟩=>?_;refine J.db ?_;exact J.a1 (VJ (⟨an,fu⟩,BC))
 refine aQ.bL (γ:=Subtype fw) [3,4,5,6] 0 3 6 (bG 13 127) (fun wR=>[(20,I.bP [I.of wR.1.1,I.of wR.1.2.1])]) (fun wR=>[]) (fun wR=>aI wR.1.2.2) (fun wR=>?_) (fun ah4=>?_)
 ·refine aQ.s2 7 10 ?_ ?_
  ·refine cH ?_;exact J.a1 (ah3 wR)
  refine er hY fun b7=>?_;exact J.a1 (VJ (wR,b7))
 refine aQ.bL (γ:=Nat) [3,4,5,6] 0 3 7 (bG 13 1079) (fun BD=>[(7,I.bE BD),(16,I.eq (.pointer (some ⟨dX,0+0,none⟩))),(18,I.of ai),(19,I.of aV)]) (fun BD=>[aS BD (default:Int)]) (fun BD=>aI hp) (fun BD=>?_) (fun Jl=>?_)
 ·refine aQ.s1 3 ?_
  ·refine bj (nW ((aK.id dV).comp nm) (r:=cY.1.fB) od (ae rfl) (n9 (n:=4) rfl (iI gF) rfl) rfl rfl (by rfl)) ?_;exact J.a1 (Jk BD)
 refine aQ.bL (γ:=Nat) [3,4,5,6] 0 3 7 (bG 13 1071) (fun BE=>[(7,I.bE BE),(17,I.of cY.1.fB),(19,I.of aV)]) (fun BE=>[aS BE (default:Int)]) (fun BE=>aI hp) (fun BE=>?_) (fun NO=>?_)
 ·refine aQ.s1 4 ?_
  ·refine cB 2 eU ?_;exact J.a1 (Jk BE)
 refine aQ.bL (γ:=Nat) [3,4,5,6] 0 3 7 (bG 13 1055) (fun BF=>[(7,I.bE BF),(17,I.of cY.1.fB),(18,I.of ai)]) (fun BF=>[aS BF (default:Int)]) (fun BF=>aI hp) (fun BF=>?_) (fun NP=>?_)
 ·refine aQ.s1 5 ?_
  ·refine cB 1 bR ?_;exact J.a1 (Jk BF)
 refine aQ.bL (γ:=Unit) [3,4,5,6] 0 3 7 (bG 13 63) (fun MY=>[(17,I.of cY.1.fB),(18,I.of ai),(19,I.of aV)]) (fun MY=>[]) (fun MY=>aI hp) (fun MY=>?_) (fun NQ=>?_)
 ·refine aQ.s2 6 10 ?_ ?_
  ·refine J.dB 3 0 rfl W2 (Q0 l6) rfl rfl ⟨ae rfl,ae rfl,ae rfl,trivial⟩ rfl fun⟨⟨an,fu⟩,_⟩=>?_;refine J.db ?_;exact J.a1 (ah4 ⟨an,fu⟩)
  refine er hY fun b7=>?_;exact J.a1 (Jk b7)
 refine aQ.bL (γ:=Nat) [3,4,5,6] 0 3 8 (bG 13 1075) (fun BG=>[(7,I.bE BG),(15,I.bE dX),(18,I.of ai),(19,I.of aV)]) (fun BG=>[aS BG (default:Int)]) (fun BG=>aI hp) (fun BG=>?_) (fun Jm=>?_)
 ·refine aQ.s1 2 ?_
  ·refine di (bY oH.fd) ?_;exact J.a1 (Jl BG)
 refine aQ.bL (γ:=Nat) [3,4,5,6] 0 3 8 (bG 13 1063) (fun yR=>[(7,I.bE yR),(16,I.eq (.pointer (some ⟨dX,0+0,none⟩))),(19,I.of aV)]) (fun yR=>[aS yR (default:Int)]) (fun yR=>aI hp) (fun yR=>?_) (fun NR=>?_)
 ·refine aQ.s2 3 4 ?_ ?_
  ·refine bj (nW ((aK.id dV).comp nm) (r:=cY.1.fB) od (ae rfl) (n9 (n:=4) rfl (iI gF) rfl) rfl rfl (by rfl)) ?_;exact J.a1 (NO yR)
  refine cB 2 eU ?_;exact J.a1 (Jl yR)
 refine aQ.bL (γ:=Nat) [3,4,5,6] 0 3 8 (bG 13 1047) (fun yS=>[(7,I.bE yS),(16,I.eq (.pointer (some ⟨dX,0+0,none⟩))),(18,I.of ai)]) (fun yS=>[aS yS (default:Int)]) (fun yS=>aI hp) (fun yS=>?_) (fun NS=>?_)
 ·refine aQ.s2 3 5 ?_ ?_
  ·refine bj (nW ((aK.id dV).comp nm) (r:=cY.1.fB) od (ae rfl) (n9 (n:=4) rfl (iI gF) rfl) rfl rfl (by rfl)) ?_;exact J.a1 (NP yS)
  refine cB 1 bR ?_;exact J.a1 (Jl yS)
 refine aQ.bL (γ:=Unit) [3,4,5,6] 0 3 8 (bG 13 55) (fun lb=>[(16,I.eq (.pointer (some ⟨dX,0+0,none⟩))),(18,I.of ai),(19,I.of aV)]) (fun lb=>[]) (fun lb=>aI hp) (fun lb=>?_) (fun va=>?_)
 ·refine aQ.s2 3 10 ?_ ?_
  ·refine bj (nW ((aK.id dV).comp nm) (r:=cY.1.fB) od (ae rfl) (n9 (n:=3) rfl (iI gF) rfl) rfl rfl (by rfl)) ?_;exact J.a1 (NQ ())
  refine er hY fun b7=>?_;exact J.a1 (Jl b7)
 refine aQ.bL (γ:=Nat) [3,4,5,6] 0 3 8 (bG 13 1039) (fun jj=>[(7,I.bE jj),(17,I.of cY.1.fB)]) (fun jj=>[aS jj (default:Int)]) (fun jj=>aI hp) (fun jj=>?_) (fun BY=>?_)
 ·refine aQ.s2 4 5 ?_ ?_
  ·refine cB 2 eU ?_;exact J.a1 (NP jj)
  refine cB 1 bR ?_;exact J.a1 (NO jj)
 refine aQ.bL (γ:=Unit) [3,4,5,6] 0 3 8 (bG 13 47) (fun kM=>[(17,I.of cY.1.fB),(19,I.of aV)]) (fun kM=>[]) (fun kM=>aI hp) (fun kM=>?_) (fun tO=>?_)
 ·refine aQ.s2 4 10 ?_ ?_
  ·refine cB 1 eU ?_;exact J.a1 (NQ ())
  refine er hY fun b7=>?_;exact J.a1 (NO b7)
 refine aQ.bL (γ:=Unit) [3,4,5,6] 0 3 8 (bG 13 31) (fun ki=>[(17,I.of cY.1.fB),(18,I.of ai)]) (fun ki=>[]) (fun ki=>aI hp) (fun ki=>?_) (fun w4=>?_)
 ·refine aQ.s2 5 10 ?_ ?_
  ·refine cB 0 bR ?_;exact J.a1 (NQ ())
  refine er hY fun b7=>?_;exact J.a1 (NP b7)
 refine aQ.bL (γ:=Nat) [3,4,5,6] 0 3 9 (bG 13 1073) (fun iu=>[(7,I.bE iu),(14,I.of aa),(18,I.of ai),(19,I.of aV)]) (fun iu=>[aS iu (default:Int)]) (fun iu=>aI hp) (fun iu=>?_) (fun tP=>?_)
 ·refine aQ.s1 1 ?_
  ·refine bj (e4 (fg (ae rfl) j8)) ?_;exact J.a1 (Jm iu)
 refine aQ.bL (γ:=Nat) [3,4,5,6] 0 3 9 (bG 13 1059) (fun lf=>[(7,I.bE lf),(15,I.bE dX),(19,I.of aV)]) (fun lf=>[aS lf (default:Int)]) (fun lf=>aI hp) (fun lf=>?_) (fun vb=>?_)
 ·refine aQ.s2 2 4 ?_ ?_
  ·refine di (bY oH.fd) ?_;exact J.a1 (NR lf)
  refine cB 2 eU ?_;exact J.a1 (Jm lf)
 refine aQ.bL (γ:=Nat) [3,4,5,6] 0 3 9 (bG 13 1043) (fun iH=>[(7,I.bE iH),(15,I.bE dX),(18,I.of ai)]) (fun iH=>[aS iH (default:Int)]) (fun iH=>aI hp) (fun iH=>?_) (fun vc=>?_)
 ·refine aQ.s2 2 5 ?_ ?_
  ·refine di (bY oH.fd) ?_;exact J.a1 (NS iH)
  refine cB 1 bR ?_;exact J.a1 (Jm iH)
 refine aQ.bL (γ:=Unit) [3,4,5,6] 0 3 9 (bG 13 51) (fun lg=>[(15,I.bE dX),(18,I.of ai),(19,I.of aV)]) (fun lg=>[]) (fun lg=>aI hp) (fun lg=>?_) (fun y5=>?_)
 ·refine aQ.s2 2 10 ?_ ?_
  ·refine di (bY oH.fd) ?_;exact J.a1 (va ())
  refine er hY fun b7=>?_;exact J.a1 (Jm b7)
 refine aQ.bL (γ:=Nat) [3,4,5,6] 0 3 9 (bG 13 1031) (fun j4=>[(7,I.bE j4),(16,I.eq (.pointer (some ⟨dX,0+0,none⟩)))]) (fun j4=>[aS j4 (default:Int)]) (fun j4=>aI hp) (fun j4=>?_) (fun BZ=>?_)
 ·refine aQ.iC [3,4,5] ⟨⟨_,rfl,?_⟩,⟨_,rfl,?_⟩,⟨_,rfl,?_⟩,trivial⟩
  ·refine bj (nW ((aK.id dV).comp nm) (r:=cY.1.fB) od (ae rfl) (n9 (n:=4) rfl (iI gF) rfl) rfl rfl (by rfl)) ?_;exact J.a1 (BY j4)
  ·refine cB 2 eU ?_;exact J.a1 (NS j4)
  refine cB 1 bR ?_;exact J.a1 (NR j4)
 refine aQ.bL (γ:=Unit) [3,4,5,6] 0 3 9 (bG 13 39) (fun kN=>[(16,I.eq (.pointer (some ⟨dX,0+0,none⟩))),(19,I.of aV)]) (fun kN=>[]) (fun kN=>aI hp) (fun kN=>?_) (fun w5=>?_)
 ·refine aQ.iC [3,4,10] ⟨⟨_,rfl,?_⟩,⟨_,rfl,?_⟩,⟨_,rfl,?_⟩,trivial⟩
  ·refine bj (nW ((aK.id dV).comp nm) (r:=cY.1.fB) od (ae rfl) (n9 (n:=3) rfl (iI gF) rfl) rfl rfl (by rfl)) ?_;exact J.a1 (tO ())
  ·refine cB 1 eU ?_;exact J.a1 (va ())
  refine er hY fun b7=>?_;exact J.a1 (NR b7)
 refine aQ.bL (γ:=Unit) [3,4,5,6] 0 3 9 (bG 13 23) (fun lh=>[(16,I.eq (.pointer (some ⟨dX,0+0,none⟩))),(18,I.of ai)]) (fun lh=>[]) (fun lh=>aI hp) (fun lh=>?_) (fun B0=>?_)
 ·refine aQ.iC [3,5,10] ⟨⟨_,rfl,?_⟩,⟨_,rfl,?_⟩,⟨_,rfl,?_⟩,trivial⟩
  ·refine bj (nW ((aK.id dV).comp nm) (r:=cY.1.fB) od (ae rfl) (n9 (n:=3) rfl (iI gF) rfl) rfl rfl (by rfl)) ?_;exact J.a1 (w4 ())
  ·refine cB 0 bR ?_;exact J.a1 (va ())
  refine er hY fun b7=>?_;exact J.a1 (NS b7)
 refine aQ.bL (γ:=Unit) [3,4,5,6] 0 3 9 (bG 13 15) (fun n1=>[(17,I.of cY.1.fB)]) (fun n1=>[]) (fun n1=>aI hp) (fun n1=>?_) (fun vd=>?_)
 ·refine aQ.iC [4,5,10] ⟨⟨_,rfl,?_⟩,⟨_,rfl,?_⟩,⟨_,rfl,?_⟩,trivial⟩
  ·refine cB 1 eU ?_;exact J.a1 (w4 ())
  ·refine cB 0 bR ?_;exact J.a1 (tO ())
  refine er hY fun b7=>?_;exact J.a1 (BY b7)
 refine aQ.bL (γ:=Nat) [3,4,5,6] 0 3 10 (bG 13 1072) (fun j3=>[(7,I.bE j3),(18,I.of ai),(19,I.of aV)]) (fun j3=>[aS j3 (default:Int)]) (fun j3=>aI hp) (fun j3=>?_) (fun sI=>?_)
 ·refine aQ.s1 0 ?_
  ·refine cB 3 rZ ?_;exact J.a1 (tP j3)
 refine aQ.bL (γ:=Nat) [3,4,5,6] 0 3 10 (bG 13 1057) (fun kK=>[(7,I.bE kK),(14,I.of aa),(19,I.of aV)]) (fun kK=>[aS kK (default:Int)]) (fun kK=>aI hp) (fun kK=>?_) (fun p9=>?_)
 ·refine aQ.s2 1 4 ?_ ?_
  ·refine bj (e4 (fg (ae rfl) j8)) ?_;exact J.a1 (vb kK)
  refine cB 2 eU ?_;exact J.a1 (tP kK)
 refine aQ.bL (γ:=Nat) [3,4,5,6] 0 3 10 (bG 13 1041) (fun kL=>[(7,I.bE kL),(14,I.of aa),(18,I.of ai)]) (fun kL=>[aS kL (default:Int)]) (fun kL=>aI hp) (fun kL=>?_) (fun rO=>?_)
 ·refine aQ.s2 1 5 ?_ ?_
  ·refine bj (e4 (fg (ae rfl) j8)) ?_;exact J.a1 (vc kL)
  refine cB 1 bR ?_;exact J.a1 (tP kL)
 refine aQ.bL (γ:=Unit) [3,4,5,6] 0 3 10 (bG 13 49) (fun pj=>[(14,I.of aa),(18,I.of ai),(19,I.of aV)]) (fun pj=>[]) (fun pj=>aI hp) (fun pj=>?_) (fun qU=>?_)
 ·refine aQ.s2 1 10 ?_ ?_
  ·refine bj (e4 (fg (ae rfl) j8)) ?_;exact J.a1 (y5 ())
  refine er hY fun b7=>?_;exact J.a1 (tP b7)
 refine aQ.bL (γ:=Nat) [3,4,5,6] 0 3 10 (bG 13 1027) (fun kx=>[(7,I.bE kx),(15,I.bE dX)]) (fun kx=>[aS kx (default:Int)]) (fun kx=>aI hp) (fun kx=>?_) (fun rP=>?_)
 ·refine aQ.iC [2,4,5] ⟨⟨_,rfl,?_⟩,⟨_,rfl,?_⟩,⟨_,rfl,?_⟩,trivial⟩
  ·refine di (bY oH.fd) ?_;exact J.a1 (BZ kx)
  ·refine cB 2 eU ?_;exact J.a1 (vc kx)
  refine cB 1 bR ?_;exact J.a1 (vb kx)
 refine aQ.bL (γ:=Unit) [3,4,5,6] 0 3 10 (bG 13 35) (fun jC=>[(15,I.bE dX),(19,I.of aV)]) (fun jC=>[]) (fun jC=>aI hp) (fun jC=>?_) (fun qa=>?_)
 ·refine aQ.iC [2,4,10] ⟨⟨_,rfl,?_⟩,⟨_,rfl,?_⟩,⟨_,rfl,?_⟩,trivial⟩
  ·refine di (bY oH.fd) ?_;exact J.a1 (w5 ())
  ·refine cB 1 eU ?_;exact J.a1 (y5 ())
  refine er hY fun b7=>?_;exact J.a1 (vb b7)
 refine aQ.bL (γ:=Unit) [3,4,5,6] 0 3 10 (bG 13 19) (fun kh=>[(15,I.bE dX),(18,I.of ai)]) (fun kh=>[]) (fun kh=>aI hp) (fun kh=>?_) (fun n4=>?_)
 ·refine aQ.iC [2,5,10] ⟨⟨_,rfl,?_⟩,⟨_,rfl,?_⟩,⟨_,rfl,?_⟩,trivial⟩
  ·refine di (bY oH.fd) ?_;exact J.a1 (B0 ())
  ·refine cB 0 bR ?_;exact J.a1 (y5 ())
  refine er hY fun b7=>?_;exact J.a1 (vc b7)
 refine aQ.bL (γ:=Unit) [3,4,5,6] 0 3 10 (bG 13 7) (fun ji=>[(16,I.eq (.pointer (some ⟨dX,0+0,none⟩)))]) (fun ji=>[]) (fun ji=>aI hp) (fun ji=>?_) (fun oK=>?_)
 ·refine aQ.iC [3,4,5,10] ⟨⟨_,rfl,?_⟩,⟨_,rfl,?_⟩,⟨_,rfl,?_⟩,⟨_,rfl,?_⟩,trivial⟩
  ·refine bj (nW ((aK.id dV).comp nm) (r:=cY.1.fB) od (ae rfl) (n9 (n:=3) rfl (iI gF) rfl) rfl rfl (by rfl)) ?_;exact J.a1 (vd ())
  ·refine cB 1 eU ?_;exact J.a1 (B0 ())
  ·refine cB 0 bR ?_;exact J.a1 (w5 ())
  refine er hY fun b7=>?_;exact J.a1 (BZ b7)
 refine aQ.bL (γ:=Nat) [3,4,5,6] 0 3 11 (bG 13 1056) (fun hP=>[(7,I.bE hP),(19,I.of aV)]) (fun hP=>[aS hP (default:Int)]) (fun hP=>aI hp) (fun hP=>?_) (fun oL=>?_)
 ·refine aQ.s2 0 4 ?_ ?_
  ·refine cB 3 rZ ?_;exact J.a1 (p9 hP)
  refine cB 2 eU ?_;exact J.a1 (sI hP)
 refine aQ.bL (γ:=Nat) [3,4,5,6] 0 3 11 (bG 13 1040) (fun h7=>[(7,I.bE h7),(18,I.of ai)]) (fun h7=>[aS h7 (default:Int)]) (fun h7=>aI hp) (fun h7=>?_) (fun nw=>?_)
 ·refine aQ.s2 0 5 ?_ ?_
  ·refine cB 3 rZ ?_;exact J.a1 (rO h7)
  refine cB 1 bR ?_;exact J.a1 (sI h7)
 refine aQ.bL (γ:=Unit) [3,4,5,6] 0 3 11 (bG 13 48) (fun jO=>[(18,I.of ai),(19,I.of aV)]) (fun jO=>[]) (fun jO=>aI hp) (fun jO=>?_) (fun ob=>?_)
 ·refine aQ.s2 0 10 ?_ ?_
  ·refine cB 2 rZ ?_;exact J.a1 (qU ())
  refine er hY fun b7=>?_;exact J.a1 (sI b7)
 refine aQ.bL (γ:=Nat) [3,4,5,6] 0 3 11 (bG 13 1025) (fun iv=>[(7,I.bE iv),(14,I.of aa)]) (fun iv=>[aS iv (default:Int)]) (fun iv=>aI hp) (fun iv=>?_) (fun pz=>?_)
 ·refine aQ.iC [1,4,5] ⟨⟨_,rfl,?_⟩,⟨_,rfl,?_⟩,⟨_,rfl,?_⟩,trivial⟩
  ·refine bj (e4 (fg (ae rfl) j8)) ?_;exact J.a1 (rP iv)
  ·refine cB 2 eU ?_;exact J.a1 (rO iv)
  refine cB 1 bR ?_;exact J.a1 (p9 iv)
 refine aQ.bL (γ:=Unit) [3,4,5,6] 0 3 11 (bG 13 33) (fun jP=>[(14,I.of aa),(19,I.of aV)]) (fun jP=>[]) (fun jP=>aI hp) (fun jP=>?_) (fun oc=>?_)
 ·refine aQ.iC [1,4,10] ⟨⟨_,rfl,?_⟩,⟨_,rfl,?_⟩,⟨_,rfl,?_⟩,trivial⟩
  ·refine bj (e4 (fg (ae rfl) j8)) ?_;exact J.a1 (qa ())
  ·refine cB 1 eU ?_;exact J.a1 (qU ())
  refine er hY fun b7=>?_;exact J.a1 (p9 b7)
 refine aQ.bL (γ:=Unit) [3,4,5,6] 0 3 11 (bG 13 17) (fun iw=>[(14,I.of aa),(18,I.of ai)]) (fun iw=>[]) (fun iw=>aI hp) (fun iw=>?_) (fun oP=>?_)
 ·refine aQ.iC [1,5,10] ⟨⟨_,rfl,?_⟩,⟨_,rfl,?_⟩,⟨_,rfl,?_⟩,trivial⟩
  ·refine bj (e4 (fg (ae rfl) j8)) ?_;exact J.a1 (n4 ())
  ·refine cB 0 bR ?_;exact J.a1 (qU ())
  refine er hY fun b7=>?_;exact J.a1 (rO b7)
 refine aQ.bL (γ:=Unit) [3,4,5,6] 0 3 11 (bG 13 3) (fun lk=>[(15,I.bE dX)]) (fun lk=>[]) (fun lk=>aI hp) (fun lk=>?_) (fun pA=>?_)
 ·refine aQ.iC [2,4,5,10] ⟨⟨_,rfl,?_⟩,⟨_,rfl,?_⟩,⟨_,rfl,?_⟩,⟨_,rfl,?_⟩,trivial⟩
  ·refine di (bY oH.fd) ?_;exact J.a1 (oK ())
  ·refine cB 1 eU ?_;exact J.a1 (n4 ())
  ·refine cB 0 bR ?_;exact J.a1 (qa ())
  refine er hY fun b7=>?_;exact J.a1 (rP b7)
 refine aQ.bL (γ:=Nat) [3,4,5,6] 0 3 12 (bG 13 1024) (fun iU=>[(7,I.bE iU)]) (fun iU=>[aS iU (default:Int)]) (fun iU=>aI hp) (fun iU=>?_) (fun qY=>?_)
 ·refine aQ.iC [0,4,5] ⟨⟨_,rfl,?_⟩,⟨_,rfl,?_⟩,⟨_,rfl,?_⟩,trivial⟩
  ·refine cB 3 rZ ?_;exact J.a1 (pz iU)
  ·refine cB 2 eU ?_;exact J.a1 (nw iU)
  refine cB 1 bR ?_;exact J.a1 (oL iU)
 refine aQ.bL (γ:=Unit) [3,4,5,6] 0 3 12 (bG 13 32) (fun ix=>[(19,I.of aV)]) (fun ix=>[]) (fun ix=>aI hp) (fun ix=>?_) (fun sQ=>?_)
 ·refine aQ.iC [0,4,10] ⟨⟨_,rfl,?_⟩,⟨_,rfl,?_⟩,⟨_,rfl,?_⟩,trivial⟩
  ·refine cB 2 rZ ?_;exact J.a1 (oc ())
  ·refine cB 1 eU ?_;exact J.a1 (ob ())
  refine er hY fun b7=>?_;exact J.a1 (oL b7)
 refine aQ.bL (γ:=Unit) [3,4,5,6] 0 3 12 (bG 13 16) (fun ll=>[(18,I.of ai)]) (fun ll=>[]) (fun ll=>aI hp) (fun ll=>?_) (fun sR=>?_)
 ·refine aQ.iC [0,5,10] ⟨⟨_,rfl,?_⟩,⟨_,rfl,?_⟩,⟨_,rfl,?_⟩,trivial⟩
  ·refine cB 2 rZ ?_;exact J.a1 (oP ())
  ·refine cB 0 bR ?_;exact J.a1 (ob ())
  refine er hY fun b7=>?_;exact J.a1 (nw b7)
 refine aQ.bL (γ:=Unit) [3,4,5,6] 0 3 12 (bG 13 1) (fun ln=>[(14,I.of aa)]) (fun ln=>[]) (fun ln=>aI hp) (fun ln=>?_) (fun sS=>?_)
 ·refine aQ.iC [1,4,5,10] ⟨⟨_,rfl,?_⟩,⟨_,rfl,?_⟩,⟨_,rfl,?_⟩,⟨_,rfl,?_⟩,trivial⟩
  ·refine bj (e4 (fg (ae rfl) j8)) ?_;exact J.a1 (pA ())
  ·refine cB 1 eU ?_;exact J.a1 (oP ())
  ·refine cB 0 bR ?_;exact J.a1 (oc ())
  refine er hY fun b7=>?_;exact J.a1 (pz b7)
 refine aQ.iC [0,4,5,10] ⟨⟨_,rfl,?_⟩,⟨_,rfl,?_⟩,⟨_,rfl,?_⟩,⟨_,rfl,?_⟩,trivial⟩
 ·refine cB 2 rZ ?_;exact J.a1 (sS ())
 ·refine cB 1 eU ?_;exact J.a1 (sR ())
 ·refine cB 0 bR ?_;exact J.a1 (sQ ())
 refine er hY fun b7=>?_;exact J.a1 (qY b7)
theorem ZG {hp aa ai Q}(h:wu hp aa ai Q):k6 prog 36 [I.of aa,I.of ai] hp Q:=by
 unfold wu at h;refine bJ.of func36 rfl ntmps36 rfl fun W A=>?_;refine go2 (fun bo bN h=>?_) (fun bo bN h=>?_)
 ·exact aj.eh (⟨⟨(6,hp),h⟩,()⟩: {r // _}×_) (fE 2) rfl rfl (dw rfl)
 refine ag.br h fun dX j8 h=>ag.br h fun cY gF h=>?_;obtain⟨fw,l6,rY⟩:=ag.ex h;refine aw.BV mixed 12 (bG 12 0) rfl rfl (aQ.bL (γ:=(Subtype fw)×Nat) [2,3,4] 0 2 1 (bG 12 2047) (fun lb=>[(5,I.bE lb.2),(17,I.of lb.1.1.2.1)]) (fun lb=>[aS lb.2 lb.1.1.1]) (fun lb=>aI lb.1.1.2.2) (fun lb=>?_) (fun va=>?_))
 ·obtain⟨⟨an,fu⟩,b6⟩:=lb;have h:=rY an fu;refine aQ.tail 11 rfl (by kernel_rfl) ?_;refine J.dN (L2:=(aS b6 an.1::aS bN ai::aS bo aa::aI an.2.2)) rfl (J.le (E':= [(2,I.bE bo),(3,I.bE bN),(4,I.of (0:Int)),(5,I.bE b6),(17,I.of an.2.1)]) .all ?_);refine go2 (fun h=>?_) (fun h=>?_)
  ·exact aj.eh (⟨⟨(an.2.1,an.2.2),h⟩,()⟩: {r // _}×_) (fE 3) rfl rfl (dw rfl)
  refine ag.br h fun km ub h=>ag.br h fun gO pJ h=>aw.fy 6 ?_;refine ag.br h fun aD cc h=>J.dB 3 0 rfl Om (KU cc) rfl rfl ⟨ae rfl,ae rfl,trivial⟩ rfl fun av=>J.db (hX ?_);refine ag.br h fun ke ud h=>aw.fy 6 ?_;refine ag.br h fun bf et h=>J.dB 3 0 rfl W3 (QY et) rfl rfl ⟨ae rfl,ae rfl,trivial⟩ rfl fun cQ=>J.db ?_;refine aM ?_;refine J.share (α:=Ref) 2 2 rfl rfl (J.share (α:=aC) 0 5 rfl rfl (bj (MX (I6 (f:=80) (τs:= [I.ptr aa,I.ptr an.1]) ⟨ae rfl,ae rfl,trivial⟩) (fun _ _ _ h=>afP h)) ?_));refine ag.br h fun jG ue h=>ag.br h fun bu fl h=>J.nb (ee.obj 3 (fun q:Option Nat×Nat=>Cell.mA bu q.1 q.2) rfl (iI ue) Ol (KM fl) rfl (fun _=>rfl) ⟨fg (ae rfl) ub,ae rfl,trivial⟩) rfl rfl rfl fun ev=>?_;replace h:=ag.any_bind h ev;refine ag.br h fun bH gD h=>J.dN (L2:=(⟨none,.dead⟩::aS bN ai::⟨none,.dead⟩::aI bH)) (by rw [← dc gD];rfl) ?_;refine aM ?_;exact aj.eh (⟨⟨(0,bH),h⟩,()⟩: {r // _}×_) (fE 3) rfl rfl (dw rfl)
 refine aQ.bL (γ:=(Subtype fw)×Nat) [2,3,4] 0 2 2 (bG 12 1791) (fun jj=>[(5,I.bE jj.2),(9,I.bP [I.of jj.1.1.1,I.of jj.1.1.2.1])]) (fun jj=>[aS jj.2 jj.1.1.1]) (fun jj=>aI jj.1.1.2.2) (fun jj=>?_) (fun BY=>?_)
 ·refine aQ.s1 8 ?_
  ·refine jU ?_;exact J.a1 (va (jj.1,jj.2))
 refine aQ.bL (γ:=(Subtype fw)×Nat) [2,3,4] 0 2 2 (bG 12 1023) (fun kM=>[(5,I.bE kM.2),(16,I.of kM.1.1.1),(17,I.of kM.1.1.2.1)]) (fun kM=>[aS kM.2 (default:aC)]) (fun kM=>aI kM.1.1.2.2) (fun kM=>?_) (fun tO=>?_)
 ·refine aQ.s1 10 ?_
  ·refine q5 0 eZ ?_;exact J.a1 (va (kM.1,kM.2))
 refine aQ.bL (γ:=(Subtype fw)×Nat) [2,3,4] 0 2 3 (bG 12 895) (fun ki=>[(5,I.bE ki.2),(9,I.bP [I.of ki.1.1.1,I.of ki.1.1.2.1]),(17,I.of ki.1.1.2.1)]) (fun ki=>[aS ki.2 (default:aC)]) (fun ki=>aI ki.1.1.2.2) (fun ki=>?_) (fun w4=>?_)
 ·refine aQ.s1 7 ?_
  ·refine jU ?_;exact J.a1 (tO (ki.1,ki.2))
 refine aQ.bL (γ:=(Subtype fw)×Nat) [2,3,4] 0 2 3 (bG 12 767) (fun iu=>[(5,I.bE iu.2),(9,I.bP [I.of iu.1.1.1,I.of iu.1.1.2.1]),(16,I.of iu.1.1.1)]) (fun iu=>[aS iu.2 (default:aC)]) (fun iu=>aI iu.1.1.2.2) (fun iu=>?_) (fun tP=>?_)
 ·refine aQ.s2 8 10 ?_ ?_
  ·refine jU ?_;exact J.a1 (tO (iu.1,iu.2))
  refine q5 0 eZ ?_;exact J.a1 (BY (iu.1,iu.2))
 refine aQ.bL (γ:=Subtype fw) [2,3,4] 0 2 3 (bG 12 511) (fun lf=>[(16,I.of lf.1.1),(17,I.of lf.1.2.1)]) (fun lf=>[]) (fun lf=>aI lf.1.2.2) (fun lf=>?_) (fun vb=>?_)
 ·refine aQ.s1 9 ?_
  ·refine er fC fun b6=>?_;exact J.a1 (tO (lf,b6))
 refine aQ.bL (γ:=(Subtype fw)×Nat) [2,3,4] 0 2 4 (bG 12 639) (fun iH=>[(5,I.bE iH.2),(9,I.bP [I.of iH.1.1.1,I.of iH.1.1.2.1])]) (fun iH=>[aS iH.2 (default:aC)]) (fun iH=>aI iH.1.1.2.2) (fun iH=>?_) (fun vc=>?_)
 ·refine aQ.s2 7 8 ?_ ?_
  ·refine jU ?_;exact J.a1 (tP (iH.1,iH.2))
  refine jU ?_;exact J.a1 (w4 (iH.1,iH.2))
 refine aQ.bL (γ:=Subtype fw) [2,3,4] 0 2 4 (bG 12 383) (fun lg=>[(9,I.bP [I.of lg.1.1,I.of lg.1.2.1]),(17,I.of lg.1.2.1)]) (fun lg=>[]) (fun lg=>aI lg.1.2.2) (fun lg=>?_) (fun y5=>?_)
 ·refine aQ.s2 7 9 ?_ ?_
  ·refine jU ?_;exact J.a1 (vb lg)
  refine er fC fun b6=>?_;exact J.a1 (w4 (lg,b6))
 refine aQ.bL (γ:=Subtype fw) [2,3,4] 0 2 4 (bG 12 255) (fun j4=>[(9,I.bP [I.of j4.1.1,I.of j4.1.2.1]),(16,I.of j4.1.1)]) (fun j4=>[]) (fun j4=>aI j4.1.2.2) (fun j4=>?_) (fun BZ=>?_)
 ·refine aQ.s2 8 9 ?_ ?_
  ·refine jU ?_;exact J.a1 (vb j4)
  refine er fC fun b6=>?_;exact J.a1 (tP (j4,b6))
 refine aQ.bL (γ:=(Subtype fw)×Nat) [2,3,4] 0 2 5 (bG 12 575) (fun kN=>[(5,I.bE kN.2),(15,I.bP [I.of kN.1.1.1,I.of kN.1.1.2.1])]) (fun kN=>[aS kN.2 (default:aC)]) (fun kN=>aI kN.1.1.2.2) (fun kN=>?_) (fun w5=>?_)
 ·refine aQ.s1 6 ?_
  ·refine cH ?_;exact J.a1 (vc (kN.1,kN.2))
 refine aQ.bL (γ:=Subtype fw) [2,3,4] 0 2 5 (bG 12 127) (fun lh=>[(9,I.bP [I.of lh.1.1,I.of lh.1.2.1])]) (fun lh=>[]) (fun lh=>aI lh.1.2.2) (fun lh=>?_) (fun B0=>?_)
 ·refine aQ.iC [7,8,9] ⟨⟨_,rfl,?_⟩,⟨_,rfl,?_⟩,⟨_,rfl,?_⟩,trivial⟩
  ·refine jU ?_;exact J.a1 (BZ lh)
  ·refine jU ?_;exact J.a1 (y5 lh)
  refine er fC fun b6=>?_;exact J.a1 (vc (lh,b6))
 refine aQ.bL (γ:=Nat) [2,3,4] 0 2 6 (bG 12 543) (fun n1=>[(5,I.bE n1),(13,I.of cY.1.fB),(14,I.of ai)]) (fun n1=>[aS n1 (default:aC)]) (fun n1=>aI hp) (fun n1=>?_) (fun vd=>?_)
 ·refine aQ.s1 5 ?_
  ·refine J.dB 3 0 rfl Fw (DF l6) rfl rfl ⟨ae rfl,ae rfl,trivial⟩ rfl fun⟨⟨an,fu⟩,_⟩=>?_;refine J.db ?_;exact J.a1 (w5 (⟨an,fu⟩,n1))
 refine aQ.bL (γ:=Subtype fw) [2,3,4] 0 2 6 (bG 12 63) (fun j3=>[(15,I.bP [I.of j3.1.1,I.of j3.1.2.1])]) (fun j3=>[]) (fun j3=>aI j3.1.2.2) (fun j3=>?_) (fun sI=>?_)
 ·refine aQ.s2 6 9 ?_ ?_
  ·refine cH ?_;exact J.a1 (B0 j3)
  refine er fC fun b6=>?_;exact J.a1 (w5 (j3,b6))
 refine aQ.bL (γ:=Nat) [2,3,4] 0 2 7 (bG 12 535) (fun kK=>[(5,I.bE kK),(12,I.eq (.pointer (some ⟨dX,0+0,none⟩))),(14,I.of ai)]) (fun kK=>[aS kK (default:aC)]) (fun kK=>aI hp) (fun kK=>?_) (fun p9=>?_)
 ·refine aQ.s1 3 ?_
  ·refine bj (nW ((aK.id dV).comp nm) (r:=cY.1.fB) od (ae rfl) (n9 (n:=3) rfl (iI gF) rfl) rfl rfl (by rfl)) ?_;exact J.a1 (vd kK)
 refine aQ.bL (γ:=Nat) [2,3,4] 0 2 7 (bG 12 527) (fun kL=>[(5,I.bE kL),(13,I.of cY.1.fB)]) (fun kL=>[aS kL (default:aC)]) (fun kL=>aI hp) (fun kL=>?_) (fun rO=>?_)
 ·refine aQ.s1 4 ?_
  ·refine cB 1 eU ?_;exact J.a1 (vd kL)
 refine aQ.bL (γ:=Unit) [2,3,4] 0 2 7 (bG 12 31) (fun pj=>[(13,I.of cY.1.fB),(14,I.of ai)]) (fun pj=>[]) (fun pj=>aI hp) (fun pj=>?_) (fun qU=>?_)
 ·refine aQ.s2 5 9 ?_ ?_
  ·refine J.dB 2 0 rfl Fw (DF l6) rfl rfl ⟨ae rfl,ae rfl,trivial⟩ rfl fun⟨⟨an,fu⟩,_⟩=>?_;refine J.db ?_;exact J.a1 (sI ⟨an,fu⟩)
  refine er fC fun b6=>?_;exact J.a1 (vd b6)
 refine aQ.bL (γ:=Nat) [2,3,4] 0 2 8 (bG 12 531) (fun kx=>[(5,I.bE kx),(11,I.bE dX),(14,I.of ai)]) (fun kx=>[aS kx (default:aC)]) (fun kx=>aI hp) (fun kx=>?_) (fun rP=>?_)
 ·refine aQ.s1 2 ?_
  ·refine di (bY oH.fd) ?_;exact J.a1 (p9 kx)
 refine aQ.bL (γ:=Nat) [2,3,4] 0 2 8 (bG 12 519) (fun jC=>[(5,I.bE jC),(12,I.eq (.pointer (some ⟨dX,0+0,none⟩)))]) (fun jC=>[aS jC (default:aC)]) (fun jC=>aI hp) (fun jC=>?_) (fun qa=>?_)
 ·refine aQ.s2 3 4 ?_ ?_
  ·refine bj (nW ((aK.id dV).comp nm) (r:=cY.1.fB) od (ae rfl) (n9 (n:=3) rfl (iI gF) rfl) rfl rfl (by rfl)) ?_;exact J.a1 (rO jC)
  refine cB 1 eU ?_;exact J.a1 (p9 jC)
 refine aQ.bL (γ:=Unit) [2,3,4] 0 2 8 (bG 12 23) (fun kh=>[(12,I.eq (.pointer (some ⟨dX,0+0,none⟩))),(14,I.of ai)]) (fun kh=>[]) (fun kh=>aI hp) (fun kh=>?_) (fun n4=>?_)
 ·refine aQ.s2 3 9 ?_ ?_
  ·refine bj (nW ((aK.id dV).comp nm) (r:=cY.1.fB) od (ae rfl) (n9 (n:=2) rfl (iI gF) rfl) rfl rfl (by rfl)) ?_;exact J.a1 (qU ())
  refine er fC fun b6=>?_;exact J.a1 (p9 b6)
 refine aQ.bL (γ:=Unit) [2,3,4] 0 2 8 (bG 12 15) (fun ji=>[(13,I.of cY.1.fB)]) (fun ji=>[]) (fun ji=>aI hp) (fun ji=>?_) (fun oK=>?_)
 ·refine aQ.s2 4 9 ?_ ?_
  ·refine cB 0 eU ?_;exact J.a1 (qU ())
  refine er fC fun b6=>?_;exact J.a1 (rO b6)
 refine aQ.bL (γ:=Nat) [2,3,4] 0 2 9 (bG 12 529) (fun hP=>[(5,I.bE hP),(10,I.of aa),(14,I.of ai)]) (fun hP=>[aS hP (default:aC)]) (fun hP=>aI hp) (fun hP=>?_) (fun oL=>?_)
 ·refine aQ.s1 1 ?_
  ·refine bj (e4 (fg (ae rfl) j8)) ?_;exact J.a1 (rP hP)
 refine aQ.bL (γ:=Nat) [2,3,4] 0 2 9 (bG 12 515) (fun h7=>[(5,I.bE h7),(11,I.bE dX)]) (fun h7=>[aS h7 (default:aC)]) (fun h7=>aI hp) (fun h7=>?_) (fun nw=>?_)
 ·refine aQ.s2 2 4 ?_ ?_
  ·refine di (bY oH.fd) ?_;exact J.a1 (qa h7)
  refine cB 1 eU ?_;exact J.a1 (rP h7)
 refine aQ.bL (γ:=Unit) [2,3,4] 0 2 9 (bG 12 19) (fun jO=>[(11,I.bE dX),(14,I.of ai)]) (fun jO=>[]) (fun jO=>aI hp) (fun jO=>?_) (fun ob=>?_)
 ·refine aQ.s2 2 9 ?_ ?_
  ·refine di (bY oH.fd) ?_;exact J.a1 (n4 ())
  refine er fC fun b6=>?_;exact J.a1 (rP b6)
 refine aQ.bL (γ:=Unit) [2,3,4] 0 2 9 (bG 12 7) (fun iv=>[(12,I.eq (.pointer (some ⟨dX,0+0,none⟩)))]) (fun iv=>[]) (fun iv=>aI hp) (fun iv=>?_) (fun pz=>?_)
 ·refine aQ.iC [3,4,9] ⟨⟨_,rfl,?_⟩,⟨_,rfl,?_⟩,⟨_,rfl,?_⟩,trivial⟩
  ·refine bj (nW ((aK.id dV).comp nm) (r:=cY.1.fB) od (ae rfl) (n9 (n:=2) rfl (iI gF) rfl) rfl rfl (by rfl)) ?_;exact J.a1 (oK ())
  ·refine cB 0 eU ?_;exact J.a1 (n4 ())
  refine er fC fun b6=>?_;exact J.a1 (qa b6)
 refine aQ.bL (γ:=Nat) [2,3,4] 0 2 10 (bG 12 528) (fun jP=>[(5,I.bE jP),(14,I.of ai)]) (fun jP=>[aS jP (default:aC)]) (fun jP=>aI hp) (fun jP=>?_) (fun oc=>?_)
 ·refine aQ.s1 0 ?_
  ·refine cB 2 rZ ?_;exact J.a1 (oL jP)
 refine aQ.bL (γ:=Nat) [2,3,4] 0 2 10 (bG 12 513) (fun iw=>[(5,I.bE iw),(10,I.of aa)]) (fun iw=>[aS iw (default:aC)]) (fun iw=>aI hp) (fun iw=>?_) (fun oP=>?_)
 ·refine aQ.s2 1 4 ?_ ?_
  ·refine bj (e4 (fg (ae rfl) j8)) ?_;exact J.a1 (nw iw)
  refine cB 1 eU ?_;exact J.a1 (oL iw)
 refine aQ.bL (γ:=Unit) [2,3,4] 0 2 10 (bG 12 17) (fun lk=>[(10,I.of aa),(14,I.of ai)]) (fun lk=>[]) (fun lk=>aI hp) (fun lk=>?_) (fun pA=>?_)
 ·refine aQ.s2 1 9 ?_ ?_
  ·refine bj (e4 (fg (ae rfl) j8)) ?_;exact J.a1 (ob ())
  refine er fC fun b6=>?_;exact J.a1 (oL b6)
 refine aQ.bL (γ:=Unit) [2,3,4] 0 2 10 (bG 12 3) (fun iU=>[(11,I.bE dX)]) (fun iU=>[]) (fun iU=>aI hp) (fun iU=>?_) (fun qY=>?_)
 ·refine aQ.iC [2,4,9] ⟨⟨_,rfl,?_⟩,⟨_,rfl,?_⟩,⟨_,rfl,?_⟩,trivial⟩
  ·refine di (bY oH.fd) ?_;exact J.a1 (pz ())
  ·refine cB 0 eU ?_;exact J.a1 (ob ())
  refine er fC fun b6=>?_;exact J.a1 (nw b6)
 refine aQ.bL (γ:=Nat) [2,3,4] 0 2 11 (bG 12 512) (fun ix=>[(5,I.bE ix)]) (fun ix=>[aS ix (default:aC)]) (fun ix=>aI hp) (fun ix=>?_) (fun sQ=>?_)
 ·refine aQ.s2 0 4 ?_ ?_
  ·refine cB 2 rZ ?_;exact J.a1 (oP ix)
  refine cB 1 eU ?_;exact J.a1 (oc ix)
 refine aQ.bL (γ:=Unit) [2,3,4] 0 2 11 (bG 12 16) (fun ll=>[(14,I.of ai)]) (fun ll=>[]) (fun ll=>aI hp) (fun ll=>?_) (fun sR=>?_)
 ·refine aQ.s2 0 9 ?_ ?_
  ·refine cB 1 rZ ?_;exact J.a1 (pA ())
  refine er fC fun b6=>?_;exact J.a1 (oc b6)
 refine aQ.bL (γ:=Unit) [2,3,4] 0 2 11 (bG 12 1) (fun ln=>[(10,I.of aa)]) (fun ln=>[]) (fun ln=>aI hp) (fun ln=>?_) (fun sS=>?_)
 ·refine aQ.iC [1,4,9] ⟨⟨_,rfl,?_⟩,⟨_,rfl,?_⟩,⟨_,rfl,?_⟩,trivial⟩
  ·refine bj (e4 (fg (ae rfl) j8)) ?_;exact J.a1 (qY ())
  ·refine cB 0 eU ?_;exact J.a1 (pA ())
  refine er fC fun b6=>?_;exact J.a1 (oP b6)
 refine aQ.iC [0,4,9] ⟨⟨_,rfl,?_⟩,⟨_,rfl,?_⟩,⟨_,rfl,?_⟩,trivial⟩
 ·refine cB 1 rZ ?_;exact J.a1 (sS ())
 ·refine cB 0 eU ?_;exact J.a1 (sR ())
 refine er fC fun b6=>?_;exact J.a1 (sQ b6)
theorem Q1 {hp aa ai Q}(h:AE hp aa ai Q):bJ prog 107 [I.of aa,I.of ai] ([]++aI hp) (δ:= {r:aC×Int×(aG Cell) // Q r}×Unit) (fun d=>I.bP [I.of d.1.1.1,I.of d.1.1.2.1]) (fun d=>[]++aI d.1.1.2.2):=by
 unfold AE at h;refine bJ.of func107 rfl ntmps107 rfl fun W A=>?_;refine aM fun bo bN=>?_;refine J.dB 2 0 rfl Fw (DF h) rfl rfl ⟨ae rfl,ae rfl,trivial⟩ rfl fun⟨⟨an,h⟩,av⟩=>?_;refine J.db ?_;refine go2 (fun b6 h=>?_) (fun b6 h=>?_)
 ·exact aj.rQ (⟨⟨((default:aC),an.2.1,an.2.2),h⟩,()⟩: {r // _}×_) (fE 3) rfl rfl (po (i:=1) eZ rfl rfl) (dw rfl)
 refine ag.br h fun bt dn h=>ag.br h fun c1 dy h=>ag.br h fun cu e5 h=>ag.br h fun c2 eR h=>ag.br h fun bn eK h=>ag.br h fun z2 hz h=>aw.ml mixed 13 (rg 18 13) [[],[0],[1],[2],[],[4],[3,5],[],[],[8],[],[10],[7,9,11]] [_,_,_,_,_,_,_,_,_,_,_,_,_] ⟨gj,gu fun aq=>e4 (fg (ae rfl) dn),H1 (bY L7.fd),gu fun aq=>nq ((aK.id kr).comp Db) (r:=c1.qM) Jd (ae rfl) (oO (fun i e q=>aq i e q rfl) (iK (n:=3) rfl (sy dy) rfl)) rfl rfl,H1 (bY II.fd),kP 2 Az bR,gu fun aq=>uN (r:=bn) underlying161 zr US (kW (ae rfl) e5) (ae rfl) (oO (fun i e q=>aq i e q rfl) (iK (n:=3) rfl (wO eR) rfl)) (dc eK),vA 2 eU,H1 (bY Ud.fd),kP 0 Hd bR,H1 (bY afQ.fd),kP 0 KN bR,xJ hz fun L' aq=>kg (b:= { aY:=ai,b0:=an.1.b0,dr:=an.1.dr:aC }) rfl aj9 fC (.cons Da rfl (ae rfl) rfl (.cons Hd rfl (ae rfl) rfl (.cons KN rfl (ae rfl) rfl (.nil)))),trivial⟩ ?_;refine J.dB 3 0 rfl NM (K8 h) rfl rfl ⟨ae rfl,ae rfl,trivial⟩ rfl fun⟨⟨aD,h⟩,cQ⟩=>J.db ?_;refine aM ?_;exact aj.rQ (⟨⟨(an.1,0,aD.2),h⟩,()⟩: {r // _}×_) (fE 3) rfl rfl (po (i:=1) eZ rfl rfl) (dw rfl)
theorem QK {hp aa ai Q}(h:x6 hp aa ai Q):bJ prog 74 [I.of aa,I.of ai] ([]++aI hp) (δ:= {r:bh×bh×Int×(aG Cell) // Q r}×Unit) (fun d=>I.bP [I.of d.1.1.1,I.of d.1.1.2.1,I.of d.1.1.2.2.1]) (fun d=>[]++aI d.1.1.2.2.2):=by
 unfold x6 at h;refine bJ.of func74 rfl ntmps74 rfl fun W A=>?_;refine aM fun bo bN b6=>?_;refine ag.br h fun dX j8 h=>ag.br h fun cY gF h=>?_;obtain⟨fw,l6,rY⟩:=ag.ex h;refine aw.BV mixed 12 (bG 12 0) rfl rfl (aQ.bL (γ:=(Subtype fw)×Nat) [0,3,4,5,6] 0 3 1 (bG 12 2047) (fun lb=>[(7,I.bE lb.2),(18,I.of lb.1.1.2.1)]) (fun lb=>[aS lb.2 lb.1.1.1]) (fun lb=>aI lb.1.1.2.2) (fun lb=>?_) (fun va=>?_))
 ·obtain⟨⟨an,fu⟩,b7⟩:=lb;have h:=rY an fu;refine aQ.tail 11 rfl (by kernel_rfl) ?_;refine J.dN (L2:=(aS b7 an.1::aS b6 (default:bh)::aS bN (default:bh)::aS bo ai::aI an.2.2)) rfl (J.le (E':= [(0,I.of aa),(3,I.bE bo),(4,I.bE bN),(5,I.bE b6),(6,I.of (0:Int)),(7,I.bE b7),(18,I.of an.2.1)]) .all ?_);refine go2 (fun h=>?_) (fun h=>?_)
  ·exact aj.VK (⟨⟨((default:bh),(default:bh),an.2.1,an.2.2),h⟩,()⟩: {r // _}×_) (fE 4) rfl rfl (po (i:=2) eU rfl rfl) (po (i:=1) eU rfl rfl) (dw rfl)
  refine ag.br h fun km ub h=>ag.br h fun gO pJ h=>ag.br h fun aD cc h=>aw.BU 1 4 (fk [0,3,4,5,6,7,18,19,20] ?_);refine aw.cn 5 (ay 25 [] [] _::ay 26 [0] [] _::ay 27 [1] [] _::ay 28 [2] [] _::ay 29 [] [3] _::ay 30 [3,4] [] (I.bP [I.of aD.1,I.of aD.2])::ay 24 [5] [] _::ay 31 [6] [] _::ay 32 [6] [] _::qk 8 [] 4 9 _::hA [7,9] [4] [4] (fun hd=>aS ((hd 9 0).getD 0) aD.1)::ay 9 [8] [] _::[]) (dG ?_ h3) (fun cZ=>?_)
  ·intro hd E' L' aE aq b3;exact J.fm (dL.gS 5 (b3.trans rfl) WZ (Rc cc) ⟨ae (aE _ _ rfl),ae (aE _ _ rfl),trivial⟩) rfl rfl rfl (J.nil (aj.fin (cP []) rfl rfl))
  refine aj.dN (L2:=(aS b7 an.1::aS b6 (default:bh)::aS bN (default:bh)::aS bo ai::aS ((cZ 9 0).getD 0) aD.1::aI an.2.2)) rfl (fF ?_);refine aj.bm 4 rfl (aj.next (aw.seq (ag.br h fun kn vE h=>ag.br h fun ke ud h=>aw.fy 6 ?_)));refine ag.br h fun bf et h=>J.dB 5 0 rfl Om (KU et) rfl rfl ⟨ae rfl,ae rfl,trivial⟩ rfl fun av=>J.db (hX ?_);refine ag.br h fun jG ue h=>aw.fy 6 ?_;refine ag.br h fun bu fl h=>J.dB 5 0 rfl Oj (K7 fl) rfl rfl ⟨ae rfl,ae rfl,trivial⟩ rfl fun cQ=>J.db (hX ?_);refine fk [0,3,4,5,7,8,9,18,19,20,24,25,26,27,28,29,30,31,32,33,34,35,36,37,38,39,40,41,42,43,44,45,46] ?_;refine aw.vZ 5 (ay 47 [] [] _::ay 48 [0] [1] _::ay 49 [] [] _::ay 50 [2] [0] _::hA [1] [3] [3] (fun hd=>aS bN an.1.aY)::hA [3] [2] [2] (fun hd=>aS b6 aD.1.aY)::ay 6 [] [] _::[]) (fun fN=>?_);refine aj.dN (L2:=(aS ((cZ 9 0).getD 0) aD.1::aS b7 an.1::aS b6 aD.1.aY::aS bN an.1.aY::aS bo ai::aI bu)) rfl (fF (aj.next (aw.ret ?_)));exact aj.VK (⟨⟨(an.1.aY,aD.1.aY,0,bu),h⟩,()⟩: {r // _}×_) (fE 5) rfl rfl (po (i:=3) eU rfl rfl) (po (i:=2) eU rfl rfl) (dw rfl)
 refine aQ.bL (γ:=(Subtype fw)×Nat) [0,3,4,5,6] 0 3 2 (bG 12 1791) (fun jj=>[(7,I.bE jj.2),(10,I.bP [I.of jj.1.1.1,I.of jj.1.1.2.1])]) (fun jj=>[aS jj.2 jj.1.1.1]) (fun jj=>aI jj.1.1.2.2) (fun jj=>?_) (fun BY=>?_)
 ·refine aQ.s1 8 ?_
  ·refine jU ?_;exact J.a1 (va (jj.1,jj.2))
 refine aQ.bL (γ:=(Subtype fw)×Nat) [0,3,4,5,6] 0 3 2 (bG 12 1023) (fun kM=>[(7,I.bE kM.2),(17,I.of kM.1.1.1),(18,I.of kM.1.1.2.1)]) (fun kM=>[aS kM.2 (default:aC)]) (fun kM=>aI kM.1.1.2.2) (fun kM=>?_) (fun tO=>?_)
 ·refine aQ.s1 10 ?_
  ·refine q5 0 eZ ?_;exact J.a1 (va (kM.1,kM.2))
 refine aQ.bL (γ:=(Subtype fw)×Nat) [0,3,4,5,6] 0 3 3 (bG 12 895) (fun ki=>[(7,I.bE ki.2),(10,I.bP [I.of ki.1.1.1,I.of ki.1.1.2.1]),(18,I.of ki.1.1.2.1)]) (fun ki=>[aS ki.2 (default:aC)]) (fun ki=>aI ki.1.1.2.2) (fun ki=>?_) (fun w4=>?_)
 ·refine aQ.s1 7 ?_
  ·refine jU ?_;exact J.a1 (tO (ki.1,ki.2))
 refine aQ.bL (γ:=(Subtype fw)×Nat) [0,3,4,5,6] 0 3 3 (bG 12 767) (fun iu=>[(7,I.bE iu.2),(10,I.bP [I.of iu.1.1.1,I.of iu.1.1.2.1]),(17,I.of iu.1.1.1)]) (fun iu=>[aS iu.2 (default:aC)]) (fun iu=>aI iu.1.1.2.2) (fun iu=>?_) (fun tP=>?_)
 ·refine aQ.s2 8 10 ?_ ?_
  ·refine jU ?_;exact J.a1 (tO (iu.1,iu.2))
  refine q5 0 eZ ?_;exact J.a1 (BY (iu.1,iu.2))
 refine aQ.bL (γ:=Subtype fw) [0,3,4,5,6] 0 3 3 (bG 12 511) (fun lf=>[(17,I.of lf.1.1),(18,I.of lf.1.2.1)]) (fun lf=>[]) (fun lf=>aI lf.1.2.2) (fun lf=>?_) (fun vb=>?_)
 ·refine aQ.s1 9 ?_
  ·refine er fC fun b7=>?_;exact J.a1 (tO (lf,b7))
 refine aQ.bL (γ:=(Subtype fw)×Nat) [0,3,4,5,6] 0 3 4 (bG 12 639) (fun iH=>[(7,I.bE iH.2),(10,I.bP [I.of iH.1.1.1,I.of iH.1.1.2.1])]) (fun iH=>[aS iH.2 (default:aC)]) (fun iH=>aI iH.1.1.2.2) (fun iH=>?_) (fun vc=>?_)
 ·refine aQ.s2 7 8 ?_ ?_
  ·refine jU ?_;exact J.a1 (tP (iH.1,iH.2))
  refine jU ?_;exact J.a1 (w4 (iH.1,iH.2))
 refine aQ.bL (γ:=Subtype fw) [0,3,4,5,6] 0 3 4 (bG 12 383) (fun lg=>[(10,I.bP [I.of lg.1.1,I.of lg.1.2.1]),(18,I.of lg.1.2.1)]) (fun lg=>[]) (fun lg=>aI lg.1.2.2) (fun lg=>?_) (fun y5=>?_)
 ·refine aQ.s2 7 9 ?_ ?_
  ·refine jU ?_;exact J.a1 (vb lg)
  refine er fC fun b7=>?_;exact J.a1 (w4 (lg,b7))
 refine aQ.bL (γ:=Subtype fw) [0,3,4,5,6] 0 3 4 (bG 12 255) (fun j4=>[(10,I.bP [I.of j4.1.1,I.of j4.1.2.1]),(17,I.of j4.1.1)]) (fun j4=>[]) (fun j4=>aI j4.1.2.2) (fun j4=>?_) (fun BZ=>?_)
 ·refine aQ.s2 8 9 ?_ ?_
  ·refine jU ?_;exact J.a1 (vb j4)
  refine er fC fun b7=>?_;exact J.a1 (tP (j4,b7))
 refine aQ.bL (γ:=(Subtype fw)×Nat) [0,3,4,5,6] 0 3 5 (bG 12 575) (fun kN=>[(7,I.bE kN.2),(16,I.bP [I.of kN.1.1.1,I.of kN.1.1.2.1])]) (fun kN=>[aS kN.2 (default:aC)]) (fun kN=>aI kN.1.1.2.2) (fun kN=>?_) (fun w5=>?_)
 ·refine aQ.s1 6 ?_
  ·refine cH ?_;exact J.a1 (vc (kN.1,kN.2))
 refine aQ.bL (γ:=Subtype fw) [0,3,4,5,6] 0 3 5 (bG 12 127) (fun lh=>[(10,I.bP [I.of lh.1.1,I.of lh.1.2.1])]) (fun lh=>[]) (fun lh=>aI lh.1.2.2) (fun lh=>?_) (fun B0=>?_)
 ·refine aQ.iC [7,8,9] ⟨⟨_,rfl,?_⟩,⟨_,rfl,?_⟩,⟨_,rfl,?_⟩,trivial⟩
  ·refine jU ?_;exact J.a1 (BZ lh)
  ·refine jU ?_;exact J.a1 (y5 lh)
  refine er fC fun b7=>?_;exact J.a1 (vc (lh,b7))
 refine aQ.bL (γ:=Nat) [0,3,4,5,6] 0 3 6 (bG 12 543) (fun n1=>[(7,I.bE n1),(14,I.of cY.1.fB),(15,I.of ai)]) (fun n1=>[aS n1 (default:aC)]) (fun n1=>aI hp) (fun n1=>?_) (fun vd=>?_)
 ·refine aQ.s1 5 ?_
  ·refine J.dB 4 0 rfl VL (Q1 l6) rfl rfl ⟨ae rfl,ae rfl,trivial⟩ rfl fun⟨⟨an,fu⟩,_⟩=>?_;refine J.db ?_;exact J.a1 (w5 (⟨an,fu⟩,n1))
 refine aQ.bL (γ:=Subtype fw) [0,3,4,5,6] 0 3 6 (bG 12 63) (fun j3=>[(16,I.bP [I.of j3.1.1,I.of j3.1.2.1])]) (fun j3=>[]) (fun j3=>aI j3.1.2.2) (fun j3=>?_) (fun sI=>?_)
 ·refine aQ.s2 6 9 ?_ ?_
  ·refine cH ?_;exact J.a1 (B0 j3)
  refine er fC fun b7=>?_;exact J.a1 (w5 (j3,b7))
 refine aQ.bL (γ:=Nat) [0,3,4,5,6] 0 3 7 (bG 12 535) (fun kK=>[(7,I.bE kK),(13,I.eq (.pointer (some ⟨dX,0+0,none⟩))),(15,I.of ai)]) (fun kK=>[aS kK (default:aC)]) (fun kK=>aI hp) (fun kK=>?_) (fun p9=>?_)
 ·refine aQ.s1 3 ?_
  ·refine bj (nW ((aK.id dV).comp nm) (r:=cY.1.fB) od (ae rfl) (n9 (n:=4) rfl (iI gF) rfl) rfl rfl (by rfl)) ?_;exact J.a1 (vd kK)
 refine aQ.bL (γ:=Nat) [0,3,4,5,6] 0 3 7 (bG 12 527) (fun kL=>[(7,I.bE kL),(14,I.of cY.1.fB)]) (fun kL=>[aS kL (default:aC)]) (fun kL=>aI hp) (fun kL=>?_) (fun rO=>?_)
 ·refine aQ.s1 4 ?_
  ·refine cB 3 eU ?_;exact J.a1 (vd kL)
 refine aQ.bL (γ:=Unit) [0,3,4,5,6] 0 3 7 (bG 12 31) (fun pj=>[(14,I.of cY.1.fB),(15,I.of ai)]) (fun pj=>[]) (fun pj=>aI hp) (fun pj=>?_) (fun qU=>?_)
 ·refine aQ.s2 5 9 ?_ ?_
  ·refine J.dB 3 0 rfl VL (Q1 l6) rfl rfl ⟨ae rfl,ae rfl,trivial⟩ rfl fun⟨⟨an,fu⟩,_⟩=>?_;refine J.db ?_;exact J.a1 (sI ⟨an,fu⟩)
  refine er fC fun b7=>?_;exact J.a1 (vd b7)
 refine aQ.bL (γ:=Nat) [0,3,4,5,6] 0 3 8 (bG 12 531) (fun kx=>[(7,I.bE kx),(12,I.bE dX),(15,I.of ai)]) (fun kx=>[aS kx (default:aC)]) (fun kx=>aI hp) (fun kx=>?_) (fun rP=>?_)
 ·refine aQ.s1 2 ?_
  ·refine di (bY oH.fd) ?_;exact J.a1 (p9 kx)
 refine aQ.bL (γ:=Nat) [0,3,4,5,6] 0 3 8 (bG 12 519) (fun jC=>[(7,I.bE jC),(13,I.eq (.pointer (some ⟨dX,0+0,none⟩)))]) (fun jC=>[aS jC (default:aC)]) (fun jC=>aI hp) (fun jC=>?_) (fun qa=>?_)
 ·refine aQ.s2 3 4 ?_ ?_
  ·refine bj (nW ((aK.id dV).comp nm) (r:=cY.1.fB) od (ae rfl) (n9 (n:=4) rfl (iI gF) rfl) rfl rfl (by rfl)) ?_;exact J.a1 (rO jC)
  refine cB 3 eU ?_;exact J.a1 (p9 jC)
 refine aQ.bL (γ:=Unit) [0,3,4,5,6] 0 3 8 (bG 12 23) (fun kh=>[(13,I.eq (.pointer (some ⟨dX,0+0,none⟩))),(15,I.of ai)]) (fun kh=>[]) (fun kh=>aI hp) (fun kh=>?_) (fun n4=>?_)
 ·refine aQ.s2 3 9 ?_ ?_
  ·refine bj (nW ((aK.id dV).comp nm) (r:=cY.1.fB) od (ae rfl) (n9 (n:=3) rfl (iI gF) rfl) rfl rfl (by rfl)) ?_;exact J.a1 (qU ())
  refine er fC fun b7=>?_;exact J.a1 (p9 b7)
 refine aQ.bL (γ:=Unit) [0,3,4,5,6] 0 3 8 (bG 12 15) (fun ji=>[(14,I.of cY.1.fB)]) (fun ji=>[]) (fun ji=>aI hp) (fun ji=>?_) (fun oK=>?_)
 ·refine aQ.s2 4 9 ?_ ?_
  ·refine cB 2 eU ?_;exact J.a1 (qU ())
  refine er fC fun b7=>?_;exact J.a1 (rO b7)
 refine aQ.bL (γ:=Nat) [0,3,4,5,6] 0 3 9 (bG 12 529) (fun hP=>[(7,I.bE hP),(11,I.of aa),(15,I.of ai)]) (fun hP=>[aS hP (default:aC)]) (fun hP=>aI hp) (fun hP=>?_) (fun oL=>?_)
 ·refine aQ.s1 1 ?_
  ·refine bj (e4 (fg (ae rfl) j8)) ?_;exact J.a1 (rP hP)
 refine aQ.bL (γ:=Nat) [0,3,4,5,6] 0 3 9 (bG 12 515) (fun h7=>[(7,I.bE h7),(12,I.bE dX)]) (fun h7=>[aS h7 (default:aC)]) (fun h7=>aI hp) (fun h7=>?_) (fun nw=>?_)
 ·refine aQ.s2 2 4 ?_ ?_
  ·refine di (bY oH.fd) ?_;exact J.a1 (qa h7)
  refine cB 3 eU ?_;exact J.a1 (rP h7)
 refine aQ.bL (γ:=Unit) [0,3,4,5,6] 0 3 9 (bG 12 19) (fun jO=>[(12,I.bE dX),(15,I.of ai)]) (fun jO=>[]) (fun jO=>aI hp) (fun jO=>?_) (fun ob=>?_)
 ·refine aQ.s2 2 9 ?_ ?_
  ·refine di (bY oH.fd) ?_;exact J.a1 (n4 ())
  refine er fC fun b7=>?_;exact J.a1 (rP b7)
 refine aQ.bL (γ:=Unit) [0,3,4,5,6] 0 3 9 (bG 12 7) (fun iv=>[(13,I.eq (.pointer (some ⟨dX,0+0,none⟩)))]) (fun iv=>[]) (fun iv=>aI hp) (fun iv=>?_) (fun pz=>?_)
 ·refine aQ.iC [3,4,9] ⟨⟨_,rfl,?_⟩,⟨_,rfl,?_⟩,⟨_,rfl,?_⟩,trivial⟩
  ·refine bj (nW ((aK.id dV).comp nm) (r:=cY.1.fB) od (ae rfl) (n9 (n:=3) rfl (iI gF) rfl) rfl rfl (by rfl)) ?_;exact J.a1 (oK ())
  ·refine cB 2 eU ?_;exact J.a1 (n4 ())
  refine er fC fun b7=>?_;exact J.a1 (qa b7)
 refine aQ.bL (γ:=Nat) [0,3,4,5,6] 0 3 10 (bG 12 528) (fun jP=>[(7,I.bE jP),(15,I.of ai)]) (fun jP=>[aS jP (default:aC)]) (fun jP=>aI hp) (fun jP=>?_) (fun oc=>?_)
 ·refine aQ.s1 0 ?_
  ·refine cH ?_;exact J.a1 (oL jP)
 refine aQ.bL (γ:=Nat) [0,3,4,5,6] 0 3 10 (bG 12 513) (fun iw=>[(7,I.bE iw),(11,I.of aa)]) (fun iw=>[aS iw (default:aC)]) (fun iw=>aI hp) (fun iw=>?_) (fun oP=>?_)
 ·refine aQ.s2 1 4 ?_ ?_
  ·refine bj (e4 (fg (ae rfl) j8)) ?_;exact J.a1 (nw iw)
  refine cB 3 eU ?_;exact J.a1 (oL iw)
 refine aQ.bL (γ:=Unit) [0,3,4,5,6] 0 3 10 (bG 12 17) (fun lk=>[(11,I.of aa),(15,I.of ai)]) (fun lk=>[]) (fun lk=>aI hp) (fun lk=>?_) (fun pA=>?_)
 ·refine aQ.s2 1 9 ?_ ?_
  ·refine bj (e4 (fg (ae rfl) j8)) ?_;exact J.a1 (ob ())
  refine er fC fun b7=>?_;exact J.a1 (oL b7)
 refine aQ.bL (γ:=Unit) [0,3,4,5,6] 0 3 10 (bG 12 3) (fun iU=>[(12,I.bE dX)]) (fun iU=>[]) (fun iU=>aI hp) (fun iU=>?_) (fun qY=>?_)
 ·refine aQ.iC [2,4,9] ⟨⟨_,rfl,?_⟩,⟨_,rfl,?_⟩,⟨_,rfl,?_⟩,trivial⟩
  ·refine di (bY oH.fd) ?_;exact J.a1 (pz ())
  ·refine cB 2 eU ?_;exact J.a1 (ob ())
  refine er fC fun b7=>?_;exact J.a1 (nw b7)
 refine aQ.bL (γ:=Nat) [0,3,4,5,6] 0 3 11 (bG 12 512) (fun ix=>[(7,I.bE ix)]) (fun ix=>[aS ix (default:aC)]) (fun ix=>aI hp) (fun ix=>?_) (fun sQ=>?_)
 ·refine aQ.s2 0 4 ?_ ?_
  ·refine cH ?_;exact J.a1 (oP ix)
  refine cB 3 eU ?_;exact J.a1 (oc ix)
 refine aQ.bL (γ:=Unit) [0,3,4,5,6] 0 3 11 (bG 12 16) (fun ll=>[(15,I.of ai)]) (fun ll=>[]) (fun ll=>aI hp) (fun ll=>?_) (fun sR=>?_)
 ·refine aQ.s2 0 9 ?_ ?_
  ·refine cH ?_;exact J.a1 (pA ())
  refine er fC fun b7=>?_;exact J.a1 (oc b7)
 refine aQ.bL (γ:=Unit) [0,3,4,5,6] 0 3 11 (bG 12 1) (fun ln=>[(11,I.of aa)]) (fun ln=>[]) (fun ln=>aI hp) (fun ln=>?_) (fun sS=>?_)
 ·refine aQ.iC [1,4,9] ⟨⟨_,rfl,?_⟩,⟨_,rfl,?_⟩,⟨_,rfl,?_⟩,trivial⟩
  ·refine bj (e4 (fg (ae rfl) j8)) ?_;exact J.a1 (qY ())
  ·refine cB 2 eU ?_;exact J.a1 (pA ())
  refine er fC fun b7=>?_;exact J.a1 (oP b7)
 refine aQ.iC [0,4,9] ⟨⟨_,rfl,?_⟩,⟨_,rfl,?_⟩,⟨_,rfl,?_⟩,trivial⟩
 ·refine cH ?_;exact J.a1 (sS ())
 ·refine cB 2 eU ?_;exact J.a1 (sR ())
 refine er fC fun b7=>?_;exact J.a1 (sQ b7)
theorem ZH {hp aa ai Q}(h:wv hp aa ai Q):k6 prog 34 [I.of aa,I.of ai] hp Q:=by
 unfold wv at h;refine bJ.of func34 rfl ntmps34 rfl fun W A=>?_;refine go2 (fun bo bN h=>?_) (fun bo bN h=>?_)
 ·exact aj.eh (⟨⟨(6,hp),h⟩,()⟩: {r // _}×_) (fE 2) rfl rfl (dw rfl)
 refine J.dB 2 0 rfl W4 (QK h) rfl rfl ⟨ae rfl,ae rfl,trivial⟩ rfl fun⟨⟨an,h⟩,av⟩=>?_;refine J.db ?_;refine go2 (fun b6 b7 h=>?_) (fun b6 b7 h=>?_)
 ·exact aj.eh (⟨⟨(an.2.2.1,an.2.2.2),h⟩,()⟩: {r // _}×_) (fE 4) rfl rfl (dw rfl)
 refine J.share (α:=Ref) 3 2 rfl rfl (J.share (α:=bh) 1 5 rfl rfl (bj (MX (I6 (f:=75) (τs:= [I.ptr aa,I.ptr an.1]) ⟨ae rfl,ae rfl,trivial⟩) (fun _ _ _ h=>afR h)) ?_));refine ag.br h fun bt dn h=>ag.br h fun c1 dy h=>ag.br h fun aD cc h=>J.nb (ee.obj 4 (fun q:Option Nat×Nat=>Cell.mA aD q.1 q.2) rfl (iI dy) Ol (KM cc) rfl (fun _=>rfl) ⟨fg (ae rfl) dn,ae rfl,trivial⟩) rfl rfl rfl fun cQ=>?_;replace h:=ag.any_bind h cQ;refine ag.br h fun bH gD h=>J.dN (L2:=(aS b7 an.2.1::⟨none,.dead⟩::aS bN ai::⟨none,.dead⟩::aI bH)) (by rw [← dc gD];rfl) ?_;refine aM ?_;exact aj.eh (⟨⟨(0,bH),h⟩,()⟩: {r // _}×_) (fE 4) rfl rfl (dw rfl)
theorem Zm {hp aa ai Q}(h:C2 hp aa ai Q):zy prog 75 [I.ptr aa,I.ptr ai] hp Q:=by
 unfold C2 at h;refine bJ.of func75 rfl ntmps75 rfl fun W A=>?_;refine aM ?_;refine J.dB 0 0 rfl W4 (QK h) rfl rfl ⟨ae rfl,ae rfl,trivial⟩ rfl fun⟨⟨an,h⟩,av⟩=>?_;refine J.db (J.nil ?_);exact aj.k0 (aj.nv (⟨⟨an.2.2.2,h⟩,()⟩: {r // _}×_) (.refl _) rfl rfl)
theorem abt {hp aa ai aV hc lx Q}(h:En hp aa ai aV Q):bJ prog 12 [I.of aa,I.bE hc,I.bE lx] ([aS hc ai,aS lx aV]++aI hp) (δ:= {r:Bool×Bool×bX×eg×(aG Cell) // Q r}×Unit) (fun d=>I.bP [I.of d.1.1.1,I.of d.1.1.2.1]) (fun d=>[aS hc d.1.1.2.2.1,aS lx d.1.1.2.2.2.1]++aI d.1.1.2.2.2.2):=by
 unfold En at h;refine bJ.of func12 rfl ntmps12 rfl fun W A=>?_;refine aM ?_;refine ag.br h fun an bx h=>ag.br h fun aD cc h=>aw.BU 1 2 (fk [0,1,2,6,7] ?_);refine aw.cn 3 (ay 13 [] [] _::ay 14 [] [] _::ay 15 [1] [] _::ay 16 [2] [] _::ay 17 [3] [0] _::ay 18 [] [] _::⟨some 19,[5],[1],[1],fun _=>I.of an.1,fun hd _=>aS lx an.2⟩::⟨some 20,[0,4,6],[1],[1],fun _=>I.of aD.1,fun hd _=>aS lx aD.2⟩::qk 8 [] 2 8 _::hA [7,8] [2] [2] (fun hd=>aS ((hd 8 0).getD 0) aD.1)::[]) (dG ?_ (dG ?_ h3)) (fun cZ=>?_)
 ·intro hd E' L' aE aq b3;exact J.bm 1 (aq 1 _ rfl rfl) (J.lj (Lin:= [aS lx aV]) (Lr:=L'.eraseIdx 1) gB (gx bx) ⟨ae (aE _ _ rfl),c9 4,trivial⟩ rfl fun av=>J.nil (aj.back 1 (aq 1 _ rfl rfl) (aj.fin (cP []) rfl rfl)))
 ·intro hd E' L' aE aq b3;exact J.bm 1 (aq 1 _ rfl rfl) (J.lj (Lin:= [aS lx an.2]) (Lr:=L'.eraseIdx 1) aka (aat cc) ⟨ae (aE _ _ rfl),ae (aE _ _ rfl),ae (aE _ _ rfl),trivial⟩ rfl fun cQ=>J.nil (aj.back 1 (aq 1 _ rfl rfl) (aj.fin (cP []) rfl rfl)))
 refine aj.dN (L2:=(aS hc ai::aS lx aD.2::aS ((cZ 8 0).getD 0) aD.1::aI hp)) rfl (fF ?_);refine aj.bm 2 rfl (aM ?_);refine J.bm 2 rfl (J.anT (γ:=Unit) h (fun y=>I.of y.1) (fun y g=>(aS lx y.2::aS ((cZ 8 0).getD 0) aD.1::aS hc ai::aI hp)) () rfl rfl rfl rfl rfl rfl (fun hb hm=>by obtain⟨anU,al5,al6⟩:=hm;refine ee.map (fun d=>(⟨anU,al6⟩,d)) (fun _=>rfl) ?_ (ee.lj 1 px (o8 al5) rfl rfl ?_);exact fun _=>rfl;exact⟨cD rfl hb,trivial⟩) fun bf ev h=>?_);refine XI (cv ?_);refine ag.br h fun m1 b4 h=>q3 (γ:=Unit) 3 [0,1,2,6,7,8,30] (fun g2=>[]) (fun g2=>[(0,aS lx m1.1),(1,aS ((cZ 8 0).getD 0) m1.2)]) (fun g2=>aI hp) (fun g2=>?_) (fun hm ad=>?_) (fun hm ad=>?_)
 ·refine aM ?_;refine J.bm 0 rfl (ag.br h fun cd hE h=>ef 1 gB (gx hE) fun hJ=>?_);refine hB sC (cv ?_);refine ag.br h fun m2 dj h=>q3 (γ:=Unit) 3 [0,1,2,6,7,8,30,59] (fun g3=>[]) (fun g3=>[(1,aS ((cZ 8 0).getD 0) m2)]) (fun g3=>aI hp) (fun g3=>?_) (fun hm ad=>?_) (fun hm ad=>?_)
  ·refine aM ?_;refine J.bm 0 rfl (ag.br h fun b9 hS h=>ef 1 gB (gx hS) fun ec=>?_);refine aM ?_;refine ag.br h fun m3 gM h=>q3 (γ:=Unit) 3 [0,1,2,6,7,8,10,11,30,59,62] (fun g4=>[(72,I.of m3)]) (fun g4=>[]) (fun g4=>aI hp) (fun g4=>?_) (fun hm ad=>?_) (fun hm ad=>?_)
   ·refine aj.next (xm (γ:=Unit) h 3 [0,1,2,6,7,8,30,59,62,72] (fun m4 g5=>[(10,I.of m4.1),(11,I.of m4.2.1)]) (fun m4 g5=>[(0,aS lx m4.2.2.1),(2,aS hc m4.2.2.2.1)]) (fun m4 g5=>aI m4.2.2.2.2) (fun m4 g5 h=>?_) (fun hm ad h=>?_) (fun hm ad h=>?_))
    ·refine aM ?_;exact aj.bm 0 rfl (aj.bm 2 rfl (aj.rQ (⟨⟨(m4.1==m4.2.1,m4.2.1==0,m4.2.2.2.1,m4.2.2.1,m4.2.2.2.2),h⟩,()⟩: {r // _}×_) (.cons_cons _ (.cons_cons _ (.cons _ (.refl _)))) rfl rfl (dw rfl) (dw rfl)))
    ·refine aM ?_;refine J.bm 0 rfl (ag.br h fun cC lT h=>ef 1 gB (gx lT) fun dM=>?_);refine aM fun aL dg h=>?_;obtain⟨al7,akb,akc⟩:=ag.ex h;refine IH mixed 7 3 84 _ (K:=al7) [some (81,I.of aa),some (82,I.of m2),some (83,I.of (au ([1,1,2,7,5]:List Int) aL)),none,some (85,I.bE hc),some (86,I.of m2),some (87,I.of (au ([1,1,2,7,5]:List Int) aL))] _ [[],[],[],[0,1,2],[],[],[]] _ (fun b1=>I.of b1.1) (fun b1=>(aS lx cC.2::aS ((cZ 8 0).getD 0) m2::aS hc ai::aI b1.2)) rfl rfl rfl rfl rfl rfl (by kernel_rfl) ⟨⟨cG (ae rfl),fun b1 vm=>cG (ae rfl)⟩,⟨gz (i:=1) (aK.id bh) (r:=m2) eU (ae rfl) rfl rfl rfl,fun b1 vm=>gz (i:=1) (aK.id bh) (r:=m2) eU (ae rfl) rfl rfl rfl⟩,⟨cG (ae rfl),fun b1 vm=>cG (ae rfl)⟩,⟨cG (ae rfl),fun b1 vm=>cG (ae rfl)⟩,⟨gz (i:=1) (aK.id bh) (r:=m2) eU (ae rfl) rfl rfl rfl,fun b1 vm=>gz (i:=1) (aK.id bh) (r:=m2) eU (ae rfl) rfl rfl rfl⟩,⟨cG (ae rfl),fun b1 vm=>cG (ae rfl)⟩,trivial⟩ (fun hB v7 aE bz=>?_) (fun b1 vm=>?_)
     ·refine J.dB 3 0 rfl On (KQ akb) rfl rfl ⟨ae (aE rfl),ae (aE rfl),ae (aE rfl),trivial⟩ rfl fun⟨⟨b1,vm⟩,_⟩=>J.db (J.nil ?_);exact bz b1 vm
     have h:=akc b1 vm;refine J.le (E':= [(0,I.of aa),(1,I.bE hc),(2,I.bE lx),(6,I.of false),(7,I.of false),(8,I.bE ((cZ 8 0).getD 0)),(10,I.of (0:Int)),(11,I.of (0:Int)),(12,I.of (au ([1,1,2,7,5]:List Int) aL)),(30,I.of ((decide ((ai.bK.length:Int)>0))&&bf.1)),(59,I.of (cd.1==1)),(62,I.of b9.1),(72,I.of m3),(76,I.of ([1,1,2,7,5]:List Int)),(77,I.bE lx),(78,I.of cC.1),(79,I.ptr (au ([1,1,2,7,5]:List Int) aL)),(80,I.of (au ([1,1,2,7,5]:List Int) aL)),(81,I.of aa),(82,I.of m2),(83,I.of (au ([1,1,2,7,5]:List Int) aL)),(84,I.of b1.1),(85,I.bE hc),(86,I.of m2),(87,I.of (au ([1,1,2,7,5]:List Int) aL))]) .all (J.bm 2 rfl (ag.br h fun cT pI h=>ef 1 akd (abk pI) fun kT=>?_));refine aM ?_;exact aj.bm 2 rfl (aj.bm 2 rfl (dQ 0 (hm (b1.1,cT.1,cC.2,cT.2,b1.2) () h)))
    refine aM ?_;refine xm (γ:=Unit) h 3 [0,1,2,6,7,8,30,59,62,72,89] (fun m5 g6=>[(10,I.of m5.1),(11,I.of m5.2.1)]) (fun m5 g6=>[(2,aS hc m5.2.2.1)]) (fun m5 g6=>aI m5.2.2.2) (fun m5 g6 h=>?_) (fun hm ad h=>?_) (fun hm ad h=>?_)
    ·exact dQ 0 (hm (m5.1,m5.2.1,b9.2,m5.2.2.1,m5.2.2.2) () h)
    ·refine aM ?_;refine J.dB 3 0 rfl ake (ZH h) rfl rfl ⟨ae rfl,ae rfl,trivial⟩ rfl fun⟨⟨fR,h⟩,GI⟩=>J.db ?_;refine aM ?_;refine J.bm 2 rfl (ag.br h fun h0 qX h=>ef 1 akf (Z8 qX) fun sh=>?_);refine aM ?_;exact aj.bm 2 rfl (aj.bm 2 rfl (dQ 0 (hm (fR.1,h0.2.1,h0.2.2,fR.2) () h)))
    refine aM ?_;refine J.dB 3 0 rfl akg (ZG h) rfl rfl ⟨ae rfl,ae rfl,trivial⟩ rfl fun⟨⟨gG,h⟩,zu⟩=>J.db ?_;refine aM ?_;refine J.bm 2 rfl (ag.br h fun ie sP h=>ef 1 akh (Z9 sP) fun XG=>?_);refine aM ?_;exact aj.bm 2 rfl (aj.bm 2 rfl (dQ 0 (hm (gG.1,ie.2.1,ie.2.2,gG.2) () h)))
   ·have h:=gk ad gM;exact go
   have h:=gl ad gM;refine aM ?_;refine az h fun m6 OS h=>q3 (γ:=Unit) 3 [0,1,2,6,7,8,10,11,30,59,62] (fun g7=>[(72,I.of m6)]) (fun g7=>[]) (fun g7=>aI hp) (fun g7=>?_) (fun hm ad=>?_) (fun hm ad=>?_)
   ·exact go
   ·have h:=gk ad OS;exact go
   have h:=gl ad OS;exact go
  ·have h:=gk ad dj;exact go
  have h:=gl ad dj;exact go
 ·have h:=gk ad b4;refine aw.seq (az h fun jn vk h=>az h fun bz dh h=>aw.BU 1 3 (fk [0,1,2,6,7,8,13,14,15,16,17,18,19,20,21,22,23,24,25,26,27,28,29,30] ?_));refine aw.cn 4 (ay 31 [] [] _::ay 32 [0] [] _::ay 33 [1] [] _::ay 34 [2] [2] _::ay 35 [] [] _::ay 36 [] [] _::ay 37 [5] [] _::ay 38 [6] [] _::ay 39 [7] [2] _::ay 40 [8] [] _::⟨some 41,[4,9],[0],[0],fun _=>I.of jn.1,fun hd _=>aS lx jn.2⟩::ay 42 [3,10] [] _::ay 43 [11] [] _::ay 44 [12] [] _::qk 9 [] 3 14 _::hA [13,14] [3] [3] (fun hd=>aS ((hd 14 0).getD 0) ((au ai.bK bz).aY:bh))::[]) (dG ?_ h3) (fun fN=>?_)
  ·intro hd E' L' aE aq b3;exact J.bm 0 (aq 0 _ rfl rfl) (J.lj (Lin:= [aS lx bf.2]) (Lr:=L'.eraseIdx 0) gB (gx vk) ⟨ae (aE _ _ rfl),ae (aE _ _ rfl),trivial⟩ rfl fun vz=>J.nil (aj.back 0 (aq 0 _ rfl rfl) (aj.fin (cP []) rfl rfl)))
  refine aj.dN (L2:=(aS lx jn.2::aS ((cZ 8 0).getD 0) aD.1::aS hc ai::aS ((fN 14 0).getD 0) ((au ai.bK bz).aY:bh)::aI hp)) rfl (fF ?_);refine aj.bm 3 rfl (aM ?_);refine az h fun m7 OT h=>q3 (γ:=Unit) 4 [0,1,2,6,7,8,9,30,49] (fun g8=>[]) (fun g8=>[(0,aS ((fN 14 0).getD 0) m7)]) (fun g8=>aI hp) (fun g8=>?_) (fun hm ad=>?_) (fun hm ad=>?_)
  ·exact go
  ·have h:=gk ad OT;refine az h fun bn eK h=>fk [0,1,2,6,7,8,9,13,14,15,16,17,18,19,20,21,22,23,24,25,26,27,28,29,30,31,32,33,34,35,36,37,38,39,40,41,42,43,44,45,46,47,48,49] ?_;refine aw.vZ 4 (ay 50 [] [] _::ay 51 [0] [2] _::ay 52 [] [] _::ay 53 [2] [2] _::ay 54 [] [] _::hA [1,4] [0] [0] (fun hd=>aS ((fN 14 0).getD 0) bn)::ay 55 [] [] _::hA [3,5,6] [0] [0] (fun hd=>aS ((fN 14 0).getD 0) ({ bn with fq:=aD.1.fq } :bh))::[]) (fun xo=>?_);refine aj.dN (L2:=(aS ((fN 14 0).getD 0) ({ bn with fq:=aD.1.fq } :bh)::aS lx jn.2::aS ((cZ 8 0).getD 0) aD.1::aS hc ai::aI hp)) rfl (fF ?_);exact go
  have h:=gl ad OT;exact go
 have h:=gl ad b4;exact go
theorem Zn {hp aa ai aV c8 Q}(h:C3 hp aa ai aV c8 Q):zy prog 69 [I.ptr aa,I.ptr ai,I.ptr aV,I.ptr c8] hp Q:=by
 unfold C3 at h;refine bJ.of func69 rfl ntmps69 rfl fun W A=>aw.seq (ag.br h fun bt dn h=>ag.br h fun c1 dy h=>aw.fy 6 ?_);refine J.dB 0 0 rfl Fw (DF h) rfl rfl ⟨ae rfl,ae rfl,trivial⟩ rfl fun⟨⟨an,h⟩,av⟩=>?_;refine J.db (hX ?_);refine ag.br h fun c2 eR h=>aw.fy 5 ?_;refine ag.br h fun aD cc h=>J.dB 0 0 rfl W1 (QO cc) rfl rfl ⟨ae rfl,ae rfl,trivial⟩ rfl fun cQ=>J.db (hX ?_);refine ag.br h fun cY gF h=>aw.fy 6 ?_;refine ag.br h fun bf et h=>J.dB 0 0 rfl Om (KU et) rfl rfl ⟨ae rfl,ae rfl,trivial⟩ rfl fun ev=>J.db (cv ?_);refine ag.br h fun gO pJ h=>aw.fy 5 ?_;refine ag.br h fun bu fl h=>J.dB 0 0 rfl W3 (QY fl) rfl rfl ⟨ae rfl,ae rfl,trivial⟩ rfl fun hJ=>J.db (J.nil ?_);exact aj.k0 (aj.nv (⟨⟨bu.2,h⟩,()⟩: {r // _}×_) (.refl _) rfl rfl)
theorem Zo {hp aa ai Q}(h:Al hp aa ai Q):zy prog 80 [I.ptr aa,I.ptr ai] hp Q:=by
 unfold Al at h;refine bJ.of func80 rfl ntmps80 rfl fun W A=>aw.seq (ag.br h fun bt dn h=>ag.br h fun c1 dy h=>aw.fy 5 ?_);refine J.dB 0 0 rfl aki (ZU h) rfl rfl ⟨ae rfl,ae rfl,trivial⟩ rfl fun⟨⟨an,h⟩,av⟩=>J.db (hX ?_);refine ag.br h fun c2 eR h=>aw.fy 6 ?_;refine ag.br h fun aD cc h=>J.dB 0 0 rfl Oj (K7 cc) rfl rfl ⟨ae rfl,ae rfl,trivial⟩ rfl fun cQ=>J.db (cv ?_);refine ag.br h fun cY gF h=>aw.fy 6 ?_;refine ag.br h fun bf et h=>J.dB 0 0 rfl W0 (Q5 et) rfl rfl ⟨ae rfl,ae rfl,trivial⟩ rfl fun ev=>J.db (J.nil ?_);exact aj.k0 (aj.nv (⟨⟨bf.2,h⟩,()⟩: {r // _}×_) (.refl _) rfl rfl)
theorem abu {hp y Q}(h:Le hp y Q):wS prog (I.of y) [] ([]++aI hp) (δ:= {r:(aG Cell) // Q r}×Unit) (fun _=>.bP []) (fun d=>[]++aI d.1.1):=by
 cases y with
 | nil=>exact h.elim
 | xr a0 bT a2 a3=>exact wS.of akj (fun A W u hu=>afS hu) (Zn h)
 | vG a0 bT=>exact wS.of akk (fun A W u hu=>afT hu) (Zm h)
 | xt a0 bT=>exact wS.of akl (fun A W u hu=>afU hu) (Zo h)
theorem QA {hp aa ai Q}(h:An hp aa ai Q):zy prog 18 [I.of aa,I.of ai] hp Q:=by
 unfold An at h;refine bJ.of func18 rfl ntmps18 rfl fun W A=>aw.block ?_;refine zw (σ:=(aG Cell)) (ε:=(Bool×(aG Cell))) (γ:=Unit) (δ:=Unit) h 0 [0,1] (fun s1 g1=>[]) (fun s1 g1=>[]) (fun s1 g1=>aI s1) (fun av=>Exit.exit 0) (fun av g1=>[(10,I.of av.1)]) (fun av g1=>[]) (fun av g1=>aI av.2) () (fun s1 R h g1=>?_) (fun ar h g1=>?_)
 ·refine aw.seq (cm (cH ?_));refine ag.br h fun bt dn h=>ag.br h fun c1 dy h=>ag.br h fun an bx h=>J.fm (dL.obj 0 rfl (iI dy) Fx (C6 bx) rfl ⟨fg (ae rfl) dn,trivial⟩) rfl rfl rfl ?_;refine go2 (fun h=>?_) (fun h=>?_)
  ·refine J.MZ 0 rfl (iI dy) rfl fun asP OU=>bj (ht (i:=0) (q:=0) (β:=dV) (γ:=fe) vi (ae rfl) rfl rfl) ?_;refine bj (mO (i:=1) underlying91 (ae rfl) rfl rfl) ?_;refine aM ?_;refine J.NT (Cell.mA c1.1 c1.2.1 c1.2.2) 2 2 OU rfl rfl rfl (J.dN (L2:=(aI s1)) (by rw [SG (iI dy)];rfl) ?_);refine aM ?_;refine J.MZ 0 rfl (iI dy) rfl fun xL r6=>bj (ht (i:=0) (q:=0) (β:=dV) (γ:=fe) vi (ae rfl) rfl rfl) ?_;refine cH ?_;refine ag.br h fun aL dg h=>bj (mw (i:=1) (k:=aL) (xs:=(c1.1.fQ:List fe)) underlying91 I4 (ae rfl) (ae rfl) rfl (dq dg)) ?_;refine di (bY aeE.fd) ?_;refine bj (qO (i:=1) (k:=aL) ((aK.id fe).comp QB) (r:=(au c1.1.fQ aL).yT) XS (ae rfl) rfl (dq dg).1 rfl rfl) ?_;refine dW ?_;refine J.NT (Cell.mA c1.1 c1.2.1 c1.2.2) 2 2 r6 rfl rfl rfl (J.dN (L2:=(aI s1)) (by rw [SG (iI dy)];rfl) ?_);refine aM ?_;refine J.MZ 0 rfl (iI dy) rfl fun YL zz=>bj (ht (i:=0) (q:=0) (β:=dV) (γ:=fe) vi (ae rfl) rfl rfl) ?_;refine cH ?_;refine ag.br h fun bz dh h=>bj (Bp (i:=1) (xs:=(c1.1.fQ:List fe)) (m:=0) (n:=bz) underlying91 I4 (ae rfl) rfl .none (.some (ae rfl)) rfl (dq dh).2 ⟨Nat.zero_le _,Nat.le_of_lt_succ (dq dh).1⟩) ?_;refine ag.br h fun bn eK h=>J.VM (i:=1) (n:=bz) (xs:=(c1.1.fQ:List fe)) (r:=bn) 31 rfl rfl (Nat.le_of_lt_succ (dq dh).1) (dc eK) ?_;refine aM ?_;refine J.jh (i:=0) (γ:=fe) (b':=({ c1.1 with fQ:= [] } :dV)) (os':= [(3,aJ c1.2.1 bn.length c1.2.2)]) ((aK.id dV).comp C0) vi (ae rfl) (ae rfl) ir rfl rfl rfl rfl (ag.br h fun bH gD h=>J.NT (Cell.mA ({ c1.1 with fQ:=bn } :dV) c1.2.1 c1.2.2) 2 2 zz rfl rfl rfl ?_);refine J.dN (L2:=(aI bH)) (by rw [← dc gD];rfl) ?_;refine cv (aw.fv (cH ?_));refine J.al8 0 0 rfl (abu h) rfl rfl ⟨ae rfl,trivial⟩ rfl fun⟨⟨aD,h⟩,cQ⟩=>?_;refine J.db (J.nil ?_);exact aj.p8 (aj.tE h () 0 rfl .all)
  exact aj.p7 h () 0 rfl (by simp) rfl .all
 exact aj.mP (aj.k0 (aj.nv (⟨⟨ar.2,h⟩,()⟩: {r // _}×_) (.refl _) rfl rfl))
theorem abl {hp Q}(h:Ej hp Q):k6 prog 15 [] hp Q:=by
 unfold Ej at h;refine bJ.of func15 rfl ntmps15 rfl fun W A=>?_;refine aM ?_;refine ag.br h fun an bx h=>ef 0 OV (Lf bx) fun av=>?_;refine J.bm 0 rfl (ag.br h fun aD cc h=>ef 1 XT (QW cc) fun cQ=>?_);refine J.dB 1 0 rfl XU (Rv (ag.hd h)) rfl rfl ⟨ae rfl,trivial⟩ rfl fun⟨⟨bf,h⟩,ev⟩=>J.db ?_;refine aM fun bn eK bo h=>?_;refine J.dB 2 0 rfl On (KQ h) rfl rfl ⟨ae rfl,ae rfl,c9 1,trivial⟩ rfl fun⟨⟨bu,h⟩,hJ⟩=>J.db ?_;refine aM ?_;refine J.dB 2 0 rfl W5 (QA h) rfl rfl ⟨ae rfl,c9 0,trivial⟩ rfl fun⟨⟨cd,h⟩,ec⟩=>J.db ?_;refine aM ?_;refine J.dB 2 0 rfl On (KQ h) rfl rfl ⟨ae rfl,ae rfl,c9 1,trivial⟩ rfl fun⟨⟨b9,h⟩,dM⟩=>J.db ?_;refine aM ?_;refine ag.br h fun bt dn h=>ag.br h fun c1 dy h=>ag.br h fun cC lT h=>J.te (fun hb=>dL.obj 2 rfl (iI (fA dy hb)) Fx (C6 (fA lT hb)) rfl ⟨fg (cD rfl hb) (fA dn hb),trivial⟩) rfl rfl rfl rfl rfl ?_;refine aM ?_;refine ag.br h fun b1 nF h=>J.te (fun hb=>dL.gS 2 rfl Cb (Ax (fA nF hb)) ⟨cD rfl hb,trivial⟩) rfl rfl rfl rfl rfl (aM ?_);exact aj.eh (⟨⟨((((bu.1==0)&&(b9.1==0))&&(cC==1))&&(b1==2),b9.2),h⟩,()⟩: {r // _}×_) (fE 2) rfl rfl (dw rfl)
theorem aab {hp aa ai Q}(h:DG hp aa ai Q):k6 prog 4 [I.of aa,I.of ai] hp Q:=by
 unfold DG at h;refine bJ.of func4 rfl ntmps4 rfl fun W A=>?_;refine aM ?_;refine ag.br h fun an bx h=>ef 0 OV (Lf bx) fun av=>?_;refine J.bm 0 rfl (ag.br h fun aD cc h=>ef 1 XT (QW cc) fun cQ=>?_);refine cH ?_;refine ag.br h fun bf et h=>ef 0 OV (Lf et) fun ev=>?_;refine aM fun bo=>?_;obtain⟨al9,akm,akn⟩:=ag.ex h;refine IH mixed 3 1 20 _ (K:=al9) [some (19,I.of aD.1),none,some (21,I.of aD.1)] _ [[],[0],[]] _ (fun bu=>I.of bu.1) (fun bu=>(aS bo aD.1::aS ev bf::aS av aD.2::aI bu.2)) rfl rfl rfl rfl rfl rfl (by kernel_rfl) ⟨⟨gz (i:=0) (aK.id aZ) (r:=aD.1) iX (ae rfl) rfl rfl rfl,fun bu Fy=>gz (i:=0) (aK.id aZ) (r:=aD.1) iX (ae rfl) rfl rfl rfl⟩,⟨gz (i:=0) (aK.id aZ) (r:=aD.1) iX (ae rfl) rfl rfl rfl,fun bu Fy=>gz (i:=0) (aK.id aZ) (r:=aD.1) iX (ae rfl) rfl rfl rfl⟩,trivial⟩ (fun hB v7 aE bz=>?_) (fun bu Fy=>?_)
 ·refine J.dB 3 0 rfl XU (Rv akm) rfl rfl ⟨ae (aE rfl),trivial⟩ rfl fun⟨⟨bu,Fy⟩,_⟩=>J.db (J.nil ?_);exact bz bu Fy
 have h:=akn bu Fy;refine J.le (E':= [(0,I.of aa),(1,I.of ai),(4,I.of false),(5,I.bE bo),(6,I.bE ev),(14,I.of aa),(15,I.bE av),(16,I.of aD.1),(17,I.of ai),(18,I.bE ev),(19,I.of aD.1),(20,I.of bu.1),(21,I.of aD.1)]) .all (ag.br h fun cd hE h=>ef 0 ako (abB hE) fun hJ=>?_);refine aM ?_;refine J.bm 0 rfl (ag.br h fun b9 hS h=>ef 1 Ft (HF hS) fun ec=>?_);refine J.share (α:=bX) 1 24 rfl rfl (J.oN (α:=jw bX) (r:= [(⟨some b9⟩:jw bX)]) underlying61 zh JD rfl rfl (.cons (by simp) (Lz (ae rfl)) (.nil)) rfl fun ea=>?_);refine aM ?_;refine zw (σ:=Int×(List (jw bX))×bX×eg×(aG Cell)) (ε:=(Int×Bool×(List (jw bX))×bX×eg×(aG Cell)) ⊕ (Int×Bool×Int×Bool×(List (jw bX))×bX×eg×(aG Cell))) (γ:=(Option Nat×Nat)×Nat) (δ:=(Option Nat×Nat)×Nat) h 6 [0,1,4,5,6,7] (fun s1 g1=>[(8,I.bE g1.2),(9,I.eq (aJ g1.1.1 s1.2.1.length g1.1.2)),(10,I.of s1.1)]) (fun s1 g1=>[(0,⟨g1.1.1,.row 38 s1.2.1 g1.1.2⟩),(1,aS g1.2 s1.2.2.1),(4,aS ev s1.2.2.2.1)]) (fun s1 g1=>aI s1.2.2.2.2) (fun dM=>Sum.elim (fun dM=>Exit.exit 0) (fun dM=>Exit.ret) dM) (fun dM g1=>Sum.elim (fun dM=>[(8,I.bE g1.2),(9,I.eq (aJ g1.1.1 dM.2.2.1.length g1.1.2)),(10,I.of dM.1),(31,I.of dM.2.1)]) (fun dM=>[(8,I.bE g1.2),(9,I.eq (aJ g1.1.1 dM.2.2.2.2.1.length g1.1.2)),(10,I.of dM.1),(31,I.of dM.2.1),(35,I.of dM.2.2.1),(51,I.of dM.2.2.2.1)]) dM) (fun dM g1=>Sum.elim (fun dM=>[(0,⟨g1.1.1,.row 38 dM.2.2.1 g1.1.2⟩),(1,aS g1.2 dM.2.2.2.1),(4,aS ev dM.2.2.2.2.1)]) (fun dM=>[(0,⟨g1.1.1,.row 38 dM.2.2.2.2.1 g1.1.2⟩),(1,aS g1.2 dM.2.2.2.2.2.1),(4,aS ev dM.2.2.2.2.2.2.1)]) dM) (fun dM g1=>Sum.elim (fun dM=>aI dM.2.2.2.2.2) (fun dM=>aI dM.2.2.2.2.2.2.2) dM) ((ea,1),hJ) (fun s1 R h g1=>?_) (fun ar h g1=>?_)
 ·refine aM ?_;refine ag.br h fun cC lT h=>kF (fun hb=>bc.Ji (z:=(s1.2.2.2.1:eg)) 4 29 rfl (JZ hb) rfl Ex (la Wn (ZY (fA lT hb)) ⟨ae rfl,trivial⟩)) ?_;refine go2 (fun h=>?_) (fun h=>?_)
  ·refine J.bm 4 rfl (ag.br h fun b1 nF h=>ef 1 gB (gx nF) fun kT=>?_);refine OL (fun h=>?_) (fun h=>?_) (fun h=>?_)
   ·refine bj (mO (i:=1) underlying61 (ae rfl) rfl rfl) ?_;refine hB j6 ?_;refine J.bm 0 rfl (ag.br h fun cT pI h=>ef 1 gB (gx pI) fun GI=>?_);refine aM ?_;refine J.dB 6 0 rfl W5 (QA h) rfl rfl ⟨ae rfl,ae rfl,trivial⟩ rfl fun⟨⟨fR,h⟩,sh⟩=>J.db ?_;refine aM ?_;refine bj (mO (i:=1) underlying61 (ae rfl) rfl rfl) ?_;refine aM ?_;refine ag.br h fun aL dg h=>bj (Bp (i:=1) (xs:=(s1.2.1:List (jw bX))) (m:=0) (n:=aL) underlying61 zh (ae rfl) rfl .none (.some (ae rfl)) rfl (dq dg).2 ⟨Nat.zero_le _,Nat.le_of_lt_succ (dq dg).1⟩) ?_;refine ag.br h fun bn eK h=>J.VM (i:=1) (n:=aL) (xs:=(s1.2.1:List (jw bX))) (r:=bn) 69 rfl rfl (Nat.le_of_lt_succ (dq dg).1) (dc eK) ?_;refine aM ?_;refine bj (mO (i:=1) underlying61 (ae rfl) rfl rfl) ?_;refine hB sH ?_;refine ag.br h fun bz dh h=>bj (mw (i:=1) (k:=bz) (xs:=(bn:List (jw bX))) underlying61 zh (ae rfl) (ae rfl) rfl (dq dh)) ?_;refine bj (qO (i:=1) (k:=bz) (aK.id (jw bX)) (r:=(au bn bz)) zh (ae rfl) rfl (dq dh).1 rfl rfl) ?_;refine ag.br h fun bt dn h=>ag.br h fun h0 qX h=>J.lj (Lin:= []) (Lr:=(aS ev cT.2::⟨g1.1.1,.row 38 bn g1.1.2⟩::aS g1.2 s1.2.2.1::⟨none,.dead⟩::aS bo aD.1::aS av aD.2::aI fR)) Ft (ZZ qX) ⟨aeF (ae rfl) dn,trivial⟩ rfl fun zu=>?_;refine aM ?_;refine J.nb (ee.dB 7 1 rfl Oo (Ld h) rfl rfl ⟨ae rfl,ae rfl,trivial⟩) rfl rfl rfl fun⟨⟨gG,h⟩,XG⟩=>?_;refine J.db ?_;refine aM ?_;refine ag.br h fun cu e5 h=>ag.br h fun c1 dy h=>ag.br h fun ie sP h=>J.te (fun hb=>dL.obj 7 rfl (iI (fA dy hb)) Fx (C6 (fA sP hb)) rfl ⟨fg (cD rfl hb) (fA e5 hb),trivial⟩) rfl rfl rfl rfl rfl (iB cG ?_);refine kF (fun hb=>mO (i:=2) underlying61 (cD rfl hb) rfl rfl) ?_;refine go2 (fun h=>?_) (fun h=>?_)
    ·exact aj.bm 5 rfl (aj.bm 5 rfl (aj.bm 2 rfl (aj.bm 4 rfl (aj.bm 5 rfl (aj.p7 h ((g1.1.1,g1.1.2),zu) 1 rfl (by simp) rfl .all)))))
    exact aj.bm 5 rfl (aj.bm 5 rfl (aj.bm 2 rfl (aj.bm 4 rfl (aj.bm 5 rfl (aj.tE h ((g1.1.1,g1.1.2),zu) 1 rfl .all)))))
   ·refine ag.br h fun dX j8 h=>ag.br h fun c2 eR h=>ag.br h fun jn vk h=>J.nb (ee.obj 6 (fun q:Option Nat×Nat=>Cell.mA jn q.1 q.2) rfl (iI eR) akp (Zh vk) rfl (fun _=>rfl) ⟨fg (ae rfl) j8,trivial⟩) rfl rfl rfl fun vz=>?_;replace h:=ag.any_bind h vz;refine ag.br h fun bH gD h=>J.dN (L2:=(aS ev b1.2::⟨g1.1.1,.row 38 s1.2.1 g1.1.2⟩::aS g1.2 s1.2.2.1::⟨none,.dead⟩::aS bo aD.1::aS av aD.2::aI bH)) (by rw [← dc gD];rfl) ?_;refine cv (aw.fv (cH ?_));refine J.bm 2 rfl (ag.br h fun q6 Oc h=>ef 1 Ft (HF Oc) fun alX=>?_);refine J.share (α:=bX) 1 82 rfl rfl (J.oN (α:=jw bX) (r:= [(⟨some q6⟩:jw bX)]) underlying61 zh JD rfl rfl (.cons (by simp) (Lz (ae rfl)) (.nil)) rfl fun iy=>?_);refine aM ?_;refine J.bm 1 rfl (J.nb (ee.dB 8 1 rfl Oo (Ld h) rfl rfl ⟨ae rfl,ae rfl,trivial⟩) rfl rfl rfl fun⟨⟨nG,h⟩,ar1⟩=>?_);refine J.db ?_;refine aM ?_;refine ag.br h fun km ub h=>ag.br h fun cY gF h=>ag.br h fun XV akq h=>J.te (fun hb=>dL.obj 8 rfl (iI (fA gF hb)) Fx (C6 (fA akq hb)) rfl ⟨fg (cD rfl hb) (fA ub hb),trivial⟩) rfl rfl rfl rfl rfl (iB cG ?_);refine kF (fun hb=>mO (i:=1) underlying61 (cD rfl hb) rfl rfl) ?_;refine go2 (fun z2 hz h=>?_) (fun z2 hz h=>?_)
    ·exact aj.bm 6 rfl (aj.bm 6 rfl (aj.bm 2 rfl (aj.bm 3 rfl (aj.bm 6 rfl (aj.bm 5 rfl (aj.p7 h ((iy,1),g1.2) 2 rfl (by simp) rfl .all))))))
    exact aj.bm 6 rfl (aj.bm 6 rfl (aj.bm 2 rfl (aj.bm 3 rfl (aj.bm 6 rfl (aj.bm 5 rfl (aj.tE h ((iy,1),g1.2) 2 rfl .all))))))
   refine J.bm 0 rfl (J.bm 2 rfl (J.nb (ee.dB 6 2 rfl akr (abt h) rfl rfl ⟨ae rfl,ae rfl,ae rfl,trivial⟩) rfl rfl rfl fun⟨⟨ly,h⟩,ar2⟩=>?_));refine J.db ?_;refine go2 (fun h=>?_) (fun h=>?_)
   ·exact aj.bm 4 rfl (aj.bm 4 rfl (aj.bm 2 rfl (aj.bm 4 rfl (aj.p7 h ((g1.1.1,g1.1.2),g1.2) 0 rfl (by simp) rfl .all))))
   refine ag.br h fun m1 b4 h=>q3 (γ:=(Option Nat×Nat)) 6 [0,1,4,5,6,7,8,10,12,13,31,35,44,45,51,77] (fun g2=>[(9,I.eq (aJ g2.1 m1.length g2.2))]) (fun g2=>[(2,⟨g2.1,.row 38 m1 g2.2⟩)]) (fun g2=>aI ly.2.2.2.2) (fun g2=>?_) (fun hm ad=>?_) (fun hm ad=>?_)
   ·refine aM ?_;refine J.nb (ee.dB 6 1 rfl Oo (Ld h) rfl rfl ⟨ae rfl,ae rfl,trivial⟩) rfl rfl rfl fun⟨⟨vH,h⟩,ar3⟩=>?_;refine J.db ?_;refine aM ?_;refine ag.br h fun kn vE h=>ag.br h fun gO pJ h=>ag.br h fun XW aks h=>J.te (fun hb=>dL.obj 6 rfl (iI (fA pJ hb)) Fx (C6 (fA aks hb)) rfl ⟨fg (cD rfl hb) (fA vE hb),trivial⟩) rfl rfl rfl rfl rfl (iB cG ?_);refine kF (fun hb=>mO (i:=2) underlying61 (cD rfl hb) rfl rfl) ?_;refine go2 (fun h=>?_) (fun h=>?_)
    ·exact aj.bm 4 rfl (aj.bm 4 rfl (aj.bm 2 rfl (aj.bm 4 rfl (aj.p7 h ((g2.1,g2.2),g1.2) 0 rfl (by simp) rfl .all))))
    exact aj.bm 4 rfl (aj.bm 4 rfl (aj.bm 2 rfl (aj.bm 4 rfl (aj.tE h ((g2.1,g2.2),g1.2) 0 rfl .all))))
   ·have h:=gk ad b4;refine aM ?_;refine J.bm 0 rfl (az h fun OW akt h=>ef 1 Ft (HF akt) fun ar4=>?_);refine J.share (α:=bX) 1 48 rfl rfl (bj (w2 (r:= [(⟨some OW⟩:jw bX)]) underlying61 zh JD rfl rfl (.cons (by simp) (Lz (ae rfl)) (.nil))) ?_);refine az h fun XX aku h=>ia 3 underlying61 zh JD aku fun lO dv=>?_;refine dW (J.nil ?_);refine aj.bm 1 rfl ?_;cases h;exact dQ 1 (hm (lO,dv))
   have h:=gl ad b4;refine aw.skip ?_;cases h;exact dQ 0 (hm (g1.1.1,g1.1.2))
  exact aj.p7 h ((g1.1.1,g1.1.2),g1.2) 0 rfl (by simp) rfl .all
 rcases ar with ar | ar
 ·simp only [Sum.elim_inl] at h;refine aj.mP (aj.next (cm (J.dB 6 0 rfl akv (abl h) rfl rfl trivial rfl fun⟨⟨FY,h⟩,ar5⟩=>J.db ?_)));refine dW (cv (aw.ret ?_));exact aj.eh (⟨⟨(FY.1,FY.2),h⟩,()⟩: {r // _}×_) (fE 6) rfl rfl (dw rfl)
 simp only [Sum.elim_inr] at h;exact aj.nC (aj.ret (aj.eh (⟨⟨(false,ar.2.2.2.2.2.2.2),h⟩,()⟩: {r // _}×_) (fE 6) rfl rfl (dw rfl)))
end Go.Proofs.YtppgfphgdogpeaaGreat
