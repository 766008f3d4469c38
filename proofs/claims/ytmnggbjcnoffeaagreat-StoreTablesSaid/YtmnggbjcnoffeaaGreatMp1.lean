/-
  What the programs compute, in plain Lean. Conditions: none.
-/
import Derived.Test.YtmnggbjcnoffeaaGreatMp0
set_option linter.unusedVariables false
set_option linter.unusedSimpArgs false
set_option maxRecDepth 100000
namespace Go.Proofs.YtmnggbjcnoffeaaGreat
open Go Gv
structure jh {α:Type} (f:α→α→Int):Prop where
 neg:∀ x y,f x y < 0↔0 < f y x
 pY:∀ x y z,f x y≤0→f y z≤0→f x z≤0
theorem jh.self {α:Type} {f:α→α→Int} (h:jh f) (x:α):f x x=0:=by have:=h.neg x x; omega
theorem jh.on {α β:Type} {f:β→β→Int} (h:jh f) (g:α→β):jh (fun x y=>f (g x) (g y)):=⟨fun x y=>h.neg _ _,fun x y z=>h.pY _ _ _⟩
theorem jh.rev {α:Type} {f:α→α→Int} (h:jh f):jh (fun x y=>f y x):=⟨fun x y=>h.neg y x,fun x y z J ad=>h.pY z y x ad J⟩
def jQ {α:Type} (f g:α→α→Int) (x y:α):Int:=if f x y=0 then g x y else f x y
theorem uj {α:Type} {f g:α→α→Int} {x y:α} (h:jQ f g x y=0):f x y=0∧g x y=0:=by
 unfold jQ at h
 split at h
 ·rename_i e; exact⟨e,h⟩
 ·rename_i e; exact absurd h e
theorem jh.jQ {α:Type} {f g:α→α→Int} (h:jh f) (k:jh g):jh (Go.Proofs.YtmnggbjcnoffeaaGreat.jQ f g) where
 neg x y:=by
  unfold Go.Proofs.YtmnggbjcnoffeaaGreat.jQ
  have J:=h.neg x y
  have ad:=h.neg y x
  by_cases e:f x y=0
  ·rw [if_pos e,if_pos (by omega)]; exact k.neg x y
  ·rw [if_neg e,if_neg (by omega)]; exact J
 pY x y z:=by
  unfold Go.Proofs.YtmnggbjcnoffeaaGreat.jQ
  intro J ad
  have cN:f x y≤0:=by by_cases e:f x y=0 <;> simp [e] at J <;> omega
  have cF:f y z≤0:=by by_cases e:f y z=0 <;> simp [e] at ad <;> omega
  have fL:=h.pY x y z cN cF
  by_cases e:f x z=0
  ·have tx:f z x≤0:=by have:=h.neg x z; have:=h.neg z x; omega
   have dE:=h.pY z x y tx cN
   have dU:=h.pY y z x cF tx
   have bq:f y z=0:=by have:=h.neg y z; omega
   have cg:f x y=0:=by have:=h.neg x y; omega
   rw [if_pos cg] at J
   rw [if_pos bq] at ad
   rw [if_pos e]
   exact k.pY x y z J ad
  ·rw [if_neg e]; exact fL
theorem XE {x y:Int} :kg x y < 0↔x < y:=by unfold kg; split <;> (try split) <;> omega
theorem Ek {x y:Int} :0 < kg x y↔y < x:=by unfold kg; split <;> (try split) <;> omega
theorem sE {x y:Int} :kg x y=0↔x=y:=by unfold kg; split <;> (try split) <;> omega
theorem rv:jh kg:=⟨fun x y=>by rw [XE,Ek],fun x y z J ad=>by
 have a:= @Ek x y; have b:= @Ek y z; have c:= @Ek x z; omega⟩
def lc {α:Type} (g:α→α→Int):List α→List α→Int
 | [],[]=>0
 | [],_ :: _=> -1
 | _ :: _,[]=>1
 | a :: r,b :: t=>if g a b=0 then lc g r t else g a b
theorem M9 {α:Type} {g:α→α→Int} (h:jh g):∀ (x y:List α),lc g x y < 0↔0 < lc g y x
 | [],[]=>by simp [lc]
 | [],_ :: _=>by simp [lc]
 | _ :: _,[]=>by simp [lc]
 | a :: r,b :: t=>by
   have J:=h.neg a b
   have ad:=h.neg b a
   unfold lc
   by_cases e:g a b=0
   ·rw [if_pos e,if_pos (by omega)]; exact M9 h r t
   ·rw [if_neg e,if_neg (by omega)]; exact J
theorem N5 {α:Type} {g:α→α→Int} (h:jh g):∀ (x y z:List α),lc g x y≤0→lc g y z≤0→lc g x z≤0
 | [],_,[],_,_=>by simp [lc]
 | [],_,_ :: _,_,_=>by simp [lc]
 | _ :: _,[],_,J,_=>by simp [lc] at J
 | _ :: _,_ :: _,[],_,ad=>by simp [lc] at ad
 | a :: r,b :: t,c :: u,J,ad=>by
   unfold lc at J ad ⊢
   have cN:g a b≤0:=by by_cases e:g a b=0 <;> simp [e] at J <;> omega
   have cF:g b c≤0:=by by_cases e:g b c=0 <;> simp [e] at ad <;> omega
   have fL:=h.pY a b c cN cF
   by_cases e:g a c=0
   ·have tx:g c a≤0:=by have:=h.neg a c; have:=h.neg c a; omega
    have dE:=h.pY c a b tx cN
    have dU:=h.pY b c a cF tx
    have bq:g b c=0:=by have:=h.neg b c; omega
    have cg:g a b=0:=by have:=h.neg a b; omega
    rw [if_pos cg] at J
    rw [if_pos bq] at ad
    rw [if_pos e]
    exact N5 h r t u J ad
   ·rw [if_neg e]; exact fL
theorem N6 {α:Type} {g:α→α→Int} (h:jh g):jh (lc g):=⟨M9 h,N5 h⟩
theorem My {α:Type} {g:α→α→Int} (h:∀ a b,g a b=0→a=b):∀ {x y:List α},lc g x y=0→x=y
 | [],[],_=>rfl
 | [],_ :: _,e=>by simp [lc] at e
 | _ :: _,[],e=>by simp [lc] at e
 | a :: r,b :: t,e=>by
   unfold lc at e
   split at e
   ·rename_i aF; rw [h a b aF,My h e]
   ·rename_i aF; exact absurd e aF
def ji (v:aA):Int:=((v.de.toNat * 18446744073709551616 + v.b2.toNat:Nat):Int)
theorem DP {x y:aA} (h:ji x=ji y):x=y:=by
 obtain⟨a,b⟩:=x
 obtain⟨c,d⟩:=y
 unfold ji at h
 simp only at h
 first
 | (have J:=a.isLt; have ad:=b.isLt; have ay:=c.isLt; have aU:=d.isLt
    have aF:a=c:=BitVec.eq_of_toNat_eq (by omega)
    have aR:b=d:=BitVec.eq_of_toNat_eq (by omega)
    rw [aF,aR])
theorem Mz (x y:aA):so x y=some (kg (ji x) (ji y)):=by
 unfold so
 by_cases e:x=y
 ·subst e
  simp only [decide_true,cond_true]
  rw [sE.2 rfl]
 ·simp only [e,decide_false,cond_false,Option.bind_some]
  have cH:ji x≠ji y:=fun h=>e (DP h)
  have cb:((decide (x.de < y.de)) || ((x.de ==y.de) && (decide (x.b2 < y.b2))))=decide (ji x < ji y):=by
   rw [Bool.eq_iff_iff]
   simp only [Bool.or_eq_true,Bool.and_eq_true,decide_eq_true_eq,beq_iff_eq,BitVec.lt_def]
   unfold ji
   have J:=x.de.isLt; have ad:=x.b2.isLt; have ay:=y.de.isLt; have aU:=y.b2.isLt
   constructor
   ·rintro (h | ⟨h,cX⟩)
    ·omega
    ·rw [h]; omega
   ·intro h
    by_cases ck:x.de.toNat < y.de.toNat
    ·exact .inl ck
    ·have:x.de.toNat=y.de.toNat:=by omega
     exact .inr ⟨BitVec.eq_of_toNat_eq this,by omega⟩
  rw [cb]
  unfold kg
  by_cases a6:ji x < ji y
  ·simp [a6]
  ·rw [decide_eq_false a6,if_neg a6,if_pos (by omega)]; rfl
def rJ:List Int→Int
 | []=>0
 | a :: r=>if a=0 then rJ r else a
theorem Lp {l:List Int} (ao:l.length≤1000):qS l=some (rJ l):=by
 refine bC.get ?_
 unfold qS
 refine .bind (P:=fun e=>(∃ q,e= .inl q∧rJ l=0)∨ ∃ q:Int × Int × Int × Bool × Bool,e= .inr q∧q.1=rJ l)
  (bC.u0 l.length (fun j st=>st=(j:Int)∧rJ l=rJ (l.drop j)) (by omega) ⟨rfl,rfl⟩ (fun j st aG hs=> ?_) (fun st hs=> ?_)) fun e he=> ?_
 ·obtain⟨rfl,hs⟩:=hs
  rw [List.drop_eq_getElem_cons aG] at hs
  have hs:rJ l=if l[j]=0 then rJ (l.drop (j + 1)) else l[j]:=hs
  refine .cond (fun _=> .idx rfl aG ?_) fun ak=>by simp at ak; omega
  rw [eV _ aG]
  refine .cond (fun ak=> .ret (.inr ⟨_,rfl,?_⟩)) fun ak=> .ret ⟨gT (by omega),?_⟩
  ·have:l[j]≠0:=by simpa using ak
   rw [hs,if_neg this]
  ·have:l[j]=0:=by simpa using ak
   rw [hs,if_pos this]
 ·obtain⟨rfl,hs⟩:=hs
  refine .cond (fun ak=>by simp at ak) fun _=> .ret (.inl ⟨_,rfl,?_⟩)
  rw [hs,List.drop_length]; rfl
 ·rcases he with⟨q,rfl,hq⟩ | ⟨q,rfl,hq⟩
  ·simp only [Sum.elim_inl]; exact .ret hq.symm
  ·simp only [Sum.elim_inr]; exact .ret hq
theorem QH {g:bR→bR→Int} {f:bR→bR→Option Int} (a8:∀ a b,f a b=some (g a b)) {xs ys:List bR} (al:xs.length≤100000) (a5:ys.length≤100000):yf xs ys f=some (lc g xs ys):=by
 refine bC.get ?_
 unfold yf
 refine .bind (P:=fun e=>(∃ q,e= .inl q∧lc g xs ys=if xs.length < ys.length then -1 else 0)∨ ∃ q:Int × Int × Int × Bool × Bool,e= .inr q∧q.1=lc g xs ys)
  (bC.u0 xs.length (fun j st=>st=(j:Int)∧j≤ys.length∧lc g xs ys=lc g (xs.drop j) (ys.drop j)) (by omega) ⟨rfl,by omega,rfl⟩ (fun j st aG hs=> ?_) (fun st hs=> ?_)) fun e he=> ?_
 ·obtain⟨rfl,JE,hs⟩:=hs
  refine .cond (fun _=> .idx rfl aG (.cond (fun ak=> .ret (.inr ⟨_,rfl,?_⟩)) fun ak=> ?_)) fun ak=>by simp at ak; omega
  ·have ak:ys.length≤j:=by simpa using ak
   rw [hs,List.drop_eq_getElem_cons aG,List.drop_eq_nil_of_le ak]; rfl
  ·have cb:j < ys.length:=by simpa using ak
   rw [List.drop_eq_getElem_cons aG,List.drop_eq_getElem_cons cb] at hs
   refine .idx rfl cb (.eq (a8 _ _) ?_)
   rw [eV _ aG,eV _ cb]
   have hs:lc g xs ys=if g xs[j] ys[j]=0 then lc g (xs.drop (j + 1)) (ys.drop (j + 1)) else g xs[j] ys[j]:=hs
   refine .cond (fun ak=> .ret (.inr ⟨_,rfl,?_⟩)) fun ak=> .ret ⟨gT (by omega),cb,?_⟩
   ·have:g xs[j] ys[j]≠0:=by simpa using ak
    rw [hs,if_neg this]
   ·have:g xs[j] ys[j]=0:=by simpa using ak
    rw [hs,if_pos this]
 ·obtain⟨rfl,JE,hs⟩:=hs
  refine .cond (fun ak=>by simp at ak) fun _=> .ret (.inl ⟨_,rfl,?_⟩)
  rw [hs,List.drop_length]
  cases hd:ys.drop xs.length with
  | nil=>
    have:=List.drop_eq_nil_iff.1 hd
    rw [if_neg (by omega)]; rfl
  | cons z k1=>
    have:ys.length - xs.length=k1.length + 1:=by rw [← List.length_drop,hd]; rfl
    rw [if_pos (by omega)]; rfl
 ·rcases he with⟨q,rfl,hq⟩ | ⟨q,rfl,hq⟩
  ·simp only [Sum.elim_inl]
   refine .cond (fun ak=> .ret ?_) fun ak=> .ret ?_
   ·rw [hq,if_pos (by simpa using ak)]
   ·rw [hq,if_neg (by simpa using ak)]
  ·simp only [Sum.elim_inr]
   exact .ret hq
theorem QI {g:aA→aA→Int} {f:aA→aA→Option Int} (a8:∀ a b,f a b=some (g a b)) {xs ys:List aA} (al:xs.length≤100000) (a5:ys.length≤100000):yg xs ys f=some (lc g xs ys):=by
 refine bC.get ?_
 unfold yg
 refine .bind (P:=fun e=>(∃ q,e= .inl q∧lc g xs ys=if xs.length < ys.length then -1 else 0)∨ ∃ q:Int × Int × Int × Bool × Bool,e= .inr q∧q.1=lc g xs ys)
  (bC.u0 xs.length (fun j st=>st=(j:Int)∧j≤ys.length∧lc g xs ys=lc g (xs.drop j) (ys.drop j)) (by omega) ⟨rfl,by omega,rfl⟩ (fun j st aG hs=> ?_) (fun st hs=> ?_)) fun e he=> ?_
 ·obtain⟨rfl,JE,hs⟩:=hs
  refine .cond (fun _=> .idx rfl aG (.cond (fun ak=> .ret (.inr ⟨_,rfl,?_⟩)) fun ak=> ?_)) fun ak=>by simp at ak; omega
  ·have ak:ys.length≤j:=by simpa using ak
   rw [hs,List.drop_eq_getElem_cons aG,List.drop_eq_nil_of_le ak]; rfl
  ·have cb:j < ys.length:=by simpa using ak
   rw [List.drop_eq_getElem_cons aG,List.drop_eq_getElem_cons cb] at hs
   refine .idx rfl cb (.eq (a8 _ _) ?_)
   rw [eV _ aG,eV _ cb]
   have hs:lc g xs ys=if g xs[j] ys[j]=0 then lc g (xs.drop (j + 1)) (ys.drop (j + 1)) else g xs[j] ys[j]:=hs
   refine .cond (fun ak=> .ret (.inr ⟨_,rfl,?_⟩)) fun ak=> .ret ⟨gT (by omega),cb,?_⟩
   ·have:g xs[j] ys[j]≠0:=by simpa using ak
    rw [hs,if_neg this]
   ·have:g xs[j] ys[j]=0:=by simpa using ak
    rw [hs,if_pos this]
 ·obtain⟨rfl,JE,hs⟩:=hs
  refine .cond (fun ak=>by simp at ak) fun _=> .ret (.inl ⟨_,rfl,?_⟩)
  rw [hs,List.drop_length]
  cases hd:ys.drop xs.length with
  | nil=>
    have:=List.drop_eq_nil_iff.1 hd
    rw [if_neg (by omega)]; rfl
  | cons z k1=>
    have:ys.length - xs.length=k1.length + 1:=by rw [← List.length_drop,hd]; rfl
    rw [if_pos (by omega)]; rfl
 ·rcases he with⟨q,rfl,hq⟩ | ⟨q,rfl,hq⟩
  ·simp only [Sum.elim_inl]
   refine .cond (fun ak=> .ret ?_) fun ak=> .ret ?_
   ·rw [hq,if_pos (by simpa using ak)]
   ·rw [hq,if_neg (by simpa using ak)]
  ·simp only [Sum.elim_inr]
   exact .ret hq
def x1 (m:bR):Int:=if m.fO=true then 1 else 0
theorem VA (m:bR):wx m=some (x1 m):=by
 unfold wx x1
 cases m.fO <;> rfl
def qG:bR→bR→Int:=jQ (fun x y=>kg (x1 x) (x1 y)) (jQ (fun x y=>kg (ji x.c6) (ji y.c6)) (jQ (fun x y=>kg (ji x.gU) (ji y.gU)) (jQ (fun x y=>kg x.fU y.fU) (fun x y=>kg (ji x.k4) (ji y.k4)))))
theorem N7:jh qG:=(rv.on x1).jQ ((rv.on fun x:bR=>ji x.c6).jQ ((rv.on fun x:bR=>ji x.gU).jQ ((rv.on fun x:bR=>x.fU).jQ (rv.on fun x:bR=>ji x.k4))))
theorem UO {x y:bR} (h:qG x y=0):x=y:=by
 obtain⟨J,h⟩:=uj h
 obtain⟨ad,h⟩:=uj h
 obtain⟨ay,h⟩:=uj h
 obtain⟨aU,a0⟩:=uj h
 refine Hh ?_ (DP (sE.1 ad)) (DP (sE.1 ay)) (sE.1 aU) (DP (sE.1 a0))
 have:=sE.1 J
 unfold x1 at this
 cases al:x.fO <;> cases a5:y.fO <;> simp [al,a5] at this <;> rfl
theorem OM (a b c d e:Int):rJ [a,b,c,d,e]=if a=0 then(if b=0 then(if c=0 then(if d=0 then e else d) else c) else b) else a:=by
 have:(if e=0 then 0 else e)=e:=by split <;> omega
 show(if a=0 then(if b=0 then(if c=0 then(if d=0 then(if e=0 then 0 else e) else d) else c) else b) else a)=_
 rw [this]
theorem Sm (x y:bR):yD x y=some (qG x y):=by
 unfold yD
 by_cases e:x=y
 ·subst e
  simp only [decide_true,cond_true]
  rw [N7.self]
 ·simp only [e,decide_false,cond_false,VA,uE,Mz,Option.bind_some]
  rw [Lp (by simp),OM]
  rfl
def Fz:bh→bh→Int:=jQ (fun x y=>kg x.bo y.bo) (jQ (fun x y=>kg y.g8 x.g8) (jQ (fun x y=>lc qG x.cZ y.cZ) (jQ (fun x y=>kg x.jm y.jm) (fun x y=>lc (fun v w=>kg (ji v) (ji w)) x.h0 y.h0))))
theorem XF:jh Fz:=(rv.on fun x:bh=>x.bo).jQ ((rv.on fun x:bh=>x.g8).rev.jQ (((N6 N7).on fun x:bh=>x.cZ).jQ ((rv.on fun x:bh=>x.jm).jQ ((N6 (rv.on ji)).on fun x:bh=>x.h0))))
theorem XG {x y:bh} (h:Fz x y=0):h8 x y=true:=by
 obtain⟨J,h⟩:=uj h
 obtain⟨ad,h⟩:=uj h
 obtain⟨ay,h⟩:=uj h
 exact uG.2 ⟨sE.1 J,My (fun a b=>UO) ay,(sE.1 ad).symm⟩
theorem UP {x y:bh} (J:x.cZ.length≤1000) (ad:y.cZ.length≤1000) (ay:x.h0.length≤1000) (aU:y.h0.length≤1000):y4 x y=some (Fz x y):=by
 unfold y4
 rw [uE,uE,uE,QH Sm (by omega) (by omega),QI Mz (by omega) (by omega)]
 simp only [Option.bind_some]
 rw [Lp (by simp),OM]
 rfl
theorem GU {α:Type} {m:Option (List α)} {P:List α→Prop} {n:Nat} (h:bC m (fun r=>r.length=n∧P r)):bC (ql n m) P:=by
 obtain⟨r,J,ad,ay⟩:=h
 refine⟨r,?_,ay⟩
 unfold ql; rw [J]; simp [ad]
theorem Lq {α:Type} [Inhabited α] {xs:List α} {k:Nat} {v:α} (au:k < xs.length) (i:Nat):aI (ea xs k v) i=if i=k then v else aI xs i:=by
 unfold aI ea
 by_cases e:i=k
 ·subst e; rw [if_pos rfl]; simp [au]
 ·rw [if_neg e]; simp [List.getElem?_set_ne (Ne.symm e)]
theorem DC {j:Nat} (J:1≤j) (h:j < 2 ^ 62):bA ((j:Int) - 1)=((j - 1:Nat):Int):=by rw [hA] <;> omega
def oR {α:Type} [Inhabited α] (c:α→α→Int) (ys:List α) (n:Nat):Prop:= ∀ p q,p < q→q < n→c (aI ys p) (aI ys q)≤0
def yb {α:Type} [Inhabited α] (c:α→α→Int) (ys:List α) (b i:Nat):Prop:= ∀ p q,p < q→q≤i→q≠b→c (aI ys p) (aI ys q)≤0
theorem yb.stop {α:Type} [Inhabited α] {c:α→α→Int} (ak:jh c) {ys:List α} {b i:Nat} (h:yb c ys b i) (hb:b≤i) (hs:b=0∨0≤c (aI ys b) (aI ys (b - 1))):oR c ys (i + 1):=fun p q th hq=>by
 by_cases e:q=b
 ·subst e
  rcases hs with rfl | hs
  ·omega
  ·have J:c (aI ys (q - 1)) (aI ys q)≤0:=by have:=ak.neg (aI ys q) (aI ys (q - 1)); have:=ak.neg (aI ys (q - 1)) (aI ys q); omega
   by_cases aR:p=q - 1
   ·rw [aR]; exact J
   ·exact ak.pY _ _ _ (h p (q - 1) (by omega) (by omega) (by omega)) J
 ·exact h p q th (by omega) e
theorem yb.swap {α:Type} [Inhabited α] {c:α→α→Int} {ys:List α} {b i:Nat} (h:yb c ys b i) (hb:b≤i) (J:1≤b) (ar:i < ys.length) (cb:c (aI ys b) (aI ys (b - 1)) < 0):
 yb c (ea (ea ys b (aI ys (b - 1))) (b - 1) (aI ys b)) (b - 1) i:=fun p q th hq cH=>by
 have bE:∀ a,aI (ea (ea ys b (aI ys (b - 1))) (b - 1) (aI ys b)) a=if a=b - 1 then aI ys b else if a=b then aI ys (b - 1) else aI ys a:=fun a=>by
  rw [Lq (by unfold ea; rw [List.length_set]; omega),Lq (by omega)]
 rw [bE,bE,if_neg cH]
 by_cases aF:q=b
 ·rw [if_pos aF]
  by_cases aR:p=b - 1
  ·rw [if_pos aR]; omega
  ·rw [if_neg aR,if_neg (by omega)]
   exact h p (b - 1) (by omega) (by omega) (by omega)
 ·rw [if_neg aF]
  by_cases aR:p=b - 1
  ·rw [if_pos aR]
   exact h b q (by omega) hq aF
  ·rw [if_neg aR]
   by_cases dh:p=b
   ·rw [if_pos dh]
    exact h (b - 1) q (by omega) hq aF
   ·rw [if_neg dh]
    exact h p q th hq aF
theorem swap_perm {α:Type} [Inhabited α] {ys:List α} {b:Nat} (hb:b < ys.length):(ea (ea ys b (aI ys (b - 1))) (b - 1) (aI ys b)).Perm ys:=by
 have J:b - 1 < ys.length:=by omega
 unfold ea
 rw [eV _ J,eV _ hb]
 exact List.set_set_perm hb J
theorem To {f:aw→aw→Option Int} {c:aw→aw→Int} (ak:jh c) {xs:List aw} (hlen:xs.length≤1000) (a8:∀ a∈xs,∀ b∈xs,f a b=some (c a b)):
 bC (yc xs 0 (xs.length:Int) f) (fun r=>r.Perm xs∧oR c r xs.length):=by
 unfold yc
 refine .bind (P:=fun e=>e.2.2.Perm xs∧oR c e.2.2 xs.length) (bC.u0 (xs.length - 1) (fun j st=> ∃ ys,st=(((j + 1:Nat):Int),ys)∧ys.Perm xs∧oR c ys (j + 1)) (by omega) ⟨xs,rfl,.refl _,fun p q J ad=>by omega⟩ (fun j st aG hs=> ?_) (fun st hs=> ?_)) fun e he=> .ret he
 ·obtain⟨ys,rfl,hp,hs⟩:=hs
  refine .cond (fun _=> ?_) fun ak=>by simp at ak; omega
  refine .bind (P:=fun e=>e.2.2.Perm xs∧oR c e.2.2 (j + 2)) (bC.u0 (j + 1) (fun a st=> ∃ k1,st=(((j + 1 - a:Nat):Int),k1)∧k1.Perm xs∧yb c k1 (j + 1 - a) (j + 1)) (by omega) ⟨ys,rfl,hp,fun p q J ad ay=>hs p q J (by omega)⟩ (fun a st bd hs=> ?_) (fun st hs=> ?_)) fun e he=> .ret ⟨e.2.2,by rw [gT (by omega)],he.1,he.2⟩
  ·obtain⟨k1,rfl,df,hm⟩:=hs
   have Pf:=df.length_eq
   generalize hb:j + 1 - a=b at hm
   have lN:1≤b:=by omega
   have lR:b < k1.length:=by omega
   have EK:b - 1 < k1.length:=by omega
   have hd:decide ((b:Int) > 0)=true:=by rw [decide_eq_true_eq]; omega
   have ef:∀ i,i < k1.length→aI k1 i∈xs:=fun i ar=>df.mem_iff.1 (by rw [eV _ ar]; exact List.getElem_mem _)
   refine .dd (P:=fun k=>k=b) (fun _=>⟨_,ox lR,rfl⟩) fun bj aF=> .dd (P:=fun k=>k=b - 1) (fun _=>⟨b - 1,by rw [DC lN (by omega)]; exact ox EK,rfl⟩) fun bI aR=> ?_
   rw [aF hd,aR hd]
   refine .dd (P:=fun y=>y=c (aI k1 b) (aI k1 (b - 1))) (fun _=>⟨_,a8 _ (ef _ lR) _ (ef _ EK),rfl⟩) fun aB dh=> ?_
   rw [dh hd]
   refine .cond (fun qB=> ?_) fun qB=> .ret ⟨df,hm.stop ak (by omega) (.inr ?_)⟩
   ·rw [Bool.and_eq_true,decide_eq_true_eq,decide_eq_true_eq] at qB
    refine .eq (a:=b - 1) (by rw [DC lN (by omega)]; exact ox EK) (.idx rfl lR (.idx rfl lR (.eq (a:=b - 1) (by rw [DC lN (by omega)]; exact ox (by unfold ea; rw [List.length_set]; exact EK)) (.ret ⟨_,?_,(swap_perm lR).trans df,?_⟩))))
    ·rw [DC lN (by omega),show j + 1 - (a + 1)=b - 1 by omega]
    ·rw [show j + 1 - (a + 1)=b - 1 by omega]
     exact hm.swap (by omega) lN (by omega) qB.2
   ·rw [hd,Bool.true_and,decide_eq_false_iff_not] at qB
    omega
  ·obtain⟨k1,rfl,df,hm⟩:=hs
   have hd:decide (((j + 1 - (j + 1):Nat):Int) > 0)=false:=by rw [decide_eq_false_iff_not]; omega
   refine .dd (P:=fun _=>True) (fun h=>by rw [hd] at h; cases h) fun bj _=> .dd (P:=fun _=>True) (fun h=>by rw [hd] at h; cases h) fun bI _=> .dd (P:=fun _=>True) (fun h=>by rw [hd] at h; cases h) fun aB _=> .cond (fun qB=>by rw [hd] at qB; cases qB) fun qB=> .ret ⟨df,hm.stop ak (by omega) (.inl (by omega))⟩
 ·obtain⟨ys,rfl,hp,hs⟩:=hs
  refine .cond (fun ak=>by simp at ak; omega) fun _=> .ret ⟨hp,fun p q J ad=>hs p q J (by omega)⟩
theorem UQ (x:Nat) (al:x < 31):bC (yZ (BitVec.ofInt 64 (x:Int))) (fun _=>True):=by
 have:∀ y:Nat,y < 31→ (yZ (BitVec.ofInt 64 (y:Int))).isSome=true:=by decide +kernel
 obtain⟨r,aS⟩:=Option.isSome_iff_exists.1 (this x al)
 exact⟨r,aS,trivial⟩
theorem Sn {f:aw→aw→Option Int} {c:aw→aw→Int} (ak:jh c) {xs:List aw} (hlen:xs.length≤12) (a8:∀ a∈xs,∀ b∈xs,f a b=some (c a b)):
 bC (ql xs.length (ye xs f)) (fun r=>r.Perm xs∧oR c r xs.length):=by
 refine GU ?_
 unfold ye
 refine(UQ _ (by omega)).bind fun aB _=> .bind (P:=fun r=>r.length=xs.length∧r.Perm xs∧oR c r xs.length) (GU ?_) fun r aS=> .ret aS
 unfold Cl
 have hw:bA ((xs.length:Int) - 0)=(xs.length:Int):=by rw [hA] <;> omega
 refine .bind (P:=fun e=>e.2.2.length=xs.length∧e.2.2.length=xs.length∧e.2.2.Perm xs∧oR c e.2.2 xs.length) (bC.u0 0 (fun _ _=>True) (by omega) trivial (fun a st bd hs=>by omega) fun st hs=> ?_) fun e he=> .ret he
 rw [hw]
 refine .cond (fun _=> .bind (P:=fun r=>r.length=xs.length∧r.Perm xs∧oR c r xs.length) (GU ((To ak (by omega) a8).mono fun r aS=>⟨aS.1.length_eq,aS.1.length_eq,aS⟩)) fun r aS=> .ret ⟨aS.1,aS⟩) fun qB=>by simp at qB; omega
theorem L1 {c:aw→aw→Int} (ak:jh c):∀ {xs ys:List aw},xs.Perm ys→xs.Pairwise (fun a b=>c a b≤0)→ys.Pairwise (fun a b=>c a b≤0)→ (∀ a∈xs,∀ b∈xs,c a b=0→a=b)→xs=ys
 | [],ys,h,_,_,_=>h.nil_eq
 | x :: r,[],h,_,_,_=>by have:=h.length_eq; simp at this
 | x :: r,y :: t,h,J,ad,ay=>by
   obtain⟨cN,cF⟩:=List.pairwise_cons.1 J
   obtain⟨dE,dU⟩:=List.pairwise_cons.1 ad
   have e:x=y:=by
    have al:x∈y :: t:=h.mem_iff.1 List.mem_cons_self
    have a5:y∈x :: r:=h.mem_iff.2 List.mem_cons_self
    rcases List.mem_cons.1 al with e | al
    ·exact e
    ·rcases List.mem_cons.1 a5 with e | n7
     ·exact e.symm
     ·refine ay x List.mem_cons_self y a5 ?_
      have av:=cN y n7
      have bm:=dE x al
      have:=ak.neg x y
      omega
   subst e
   rw [L1 ak (List.perm_cons x |>.1 h) cF dU fun a bd b hb=>ay a (List.mem_cons_of_mem _ bd) b (List.mem_cons_of_mem _ hb)]
theorem oR.aaP {c:aw→aw→Int} {ys:List aw} (h:oR c ys ys.length):ys.Pairwise (fun a b=>c a b≤0):=by
 rw [List.pairwise_iff_getElem]
 intro i j ar aG fk
 have:=h i j fk aG
 rw [eV _ ar,eV _ aG] at this
 exact this
theorem _root_.Gv.dg.next {β:Type} {n:Nat} {vis:List Nat} {k:Option Nat→aq β} {P:β→Prop} (h:∀ j,v5 n vis j→dg (k j) P):dg (aq.bind (aq.next n vis) k) P:=fun Q hq j aG=>h j aG Q hq
structure r8 (n:Nat) (vis:List Nat):Prop where
 one:vis.Nodup
 lt:∀ q∈vis,q < n
theorem r8.more {n:Nat} {vis:List Nat} {q:Nat} (h:r8 n vis) (hq:q < n∧q ∉ vis):r8 n (vis ++ [q]):=
 ⟨by rw [List.nodup_append]; exact⟨h.one,by simp,fun a bd b hb e=>by rw [List.mem_singleton.1 hb] at e; exact hq.2 (e ▸ bd)⟩,fun a bd=>by
  rcases List.mem_append.1 bd with bd | bd
  ·exact h.lt a bd
  ·rw [List.mem_singleton.1 bd]; exact hq.1⟩
theorem r8.perm {n:Nat} {vis:List Nat} (h:r8 n vis) (bd:∀ j,j < n→j∈vis):vis.Perm (List.range n):=
 (List.perm_ext_iff_of_nodup h.one List.nodup_range).2 fun a=>⟨fun J=>List.mem_range.2 (h.lt a J),fun J=>bd a (List.mem_range.1 J)⟩
theorem r8.full {n:Nat} {vis:List Nat} (h:r8 n vis) (ao:vis.length=n) {q:Nat} (hq:q < n):q∈vis:=by
 false_or_by_contra
 rename_i eO
 have J:vis.Perm ((List.range n).filter fun x=>decide (x∈vis)):=(List.perm_ext_iff_of_nodup h.one (List.nodup_range.filter _)).2 fun a=>by
  rw [List.mem_filter,List.mem_range,decide_eq_true_eq]
  exact⟨fun J=>⟨h.lt a J,J⟩,fun J=>J.2⟩
 have ad:=J.length_eq
 have ay:((List.range n).filter fun x=>decide (x∈vis)).length < (List.range n).length:=List.length_filter_lt_length_iff_exists.2 ⟨q,List.mem_range.2 hq,by simpa using eO⟩
 rw [List.length_range] at ay
 omega
theorem Tp {α:Type} [Inhabited α] (l:List α):(List.range l.length).map (fun q=>aI l q)=l:=by
 apply List.ext_getElem
 ·simp
 ·intro i J ad
  simp only [List.getElem_map,List.getElem_range]
  rw [eV _ ad]
def x2 (a c:aw):Int:=Fz a.bV c.bV
theorem Na:jh x2:=XF.on fun i:aw=>i.bV
theorem XH {s:a1} (h:dQ s) {k:Nat} (au:k < 4) {hp:aN Cell} {p:Nat} {l:List aw} {own:Nat→Prop} (al:jM s k hp p l own) (hlen:l.length≤12):
 dg (wu hp (some p)) (fun r=>r.2=hp∧r.1.Perm l∧r.1.Pairwise (fun a b=>x2 a b≤0)):=by
 obtain⟨f,m,em,J,ad,ay,aU,a0,bl⟩:=al.cell
 have ao:=al.k2.ok
 have BB:em.length=l.length:=by rw [a0.length_eq,List.length_map]
 have IH:∀ q,q < em.length→ (aI em q).2∈l:=fun q hq=>by
  have hm:aI em q∈em:=by rw [eV _ hq]; exact List.getElem_mem _
  obtain⟨i,ar,e⟩:=List.mem_map.1 (a0.mem_iff.1 hm)
  rw [← e]; exact ar
 have A4:∀ vis,r8 em.length vis→ (∀ j,j < em.length→j∈vis)→ (vis.map fun q=>(aI em q).2).Perm l:=fun vis a6 bd=>by
  refine((a6.perm bd).map _).trans ?_
  have:(List.range em.length).map (fun q=>(aI em q).2)=em.map (·.2):=by
   rw [show(List.range em.length).map (fun q=>(aI em q).2)=((List.range em.length).map (fun q=>aI em q)).map (·.2) by rw [List.map_map]; rfl,Tp]
  rw [this]
  refine(a0.map (·.2)).trans ?_
  rw [List.map_map,show((fun x:Int × aw=>x.2) ∘ fun i:aw=>(i.cu,i))=id from rfl,List.map_id]
 unfold wu
 refine .cond (fun ak=>by cases ak) fun _=> .eq rfl (.eq J (.eq rfl (.eq ad ?_)))
 refine .bind (P:=fun e=>e.2.2.Perm l) (dg.loop em.length (fun j st=> ∃ vis,st=(vis,vis.map fun q=>(aI em q).2)∧vis.length=j∧r8 em.length vis) (by omega) ⟨[],rfl,rfl,.nil,by simp⟩ (fun j st aG hs=> ?_) (fun st hs=> ?_)) fun e he=> ?_
 ·obtain⟨vis,rfl,tq,a6⟩:=hs
  refine .next fun o a9=> ?_
  cases o with
  | none=>exact .cond (fun ak=>by cases ak) fun _=> .ret (A4 vis a6 a9)
  | some q=>
    refine .cond (fun _=> .eq rfl (.eq (z8 h au (ao.ok _ (IH q a9.1))) (.eq (kh _ _ (by simp; omega) (by omega)) (.ret ⟨vis ++ [q],?_,by simp [tq],a6.more a9⟩)))) fun ak=>by cases ak
    rw [List.map_append]; rfl
 ·obtain⟨vis,rfl,tq,a6⟩:=hs
  refine .next fun o a9=> ?_
  cases o with
  | none=>exact .cond (fun ak=>by cases ak) fun _=> .ret (A4 vis a6 a9)
  | some q=>exact absurd (a6.full tq a9.1) a9.2
 ·have Fg:∀ a∈e.2.2,a.bV.cZ.length≤1000∧a.bV.h0.length≤1000:=fun a bd=>(ao.ok a (he.mem_iff.1 bd)).small h au
  have hle:=he.length_eq
  refine .mP (Sn (c:=x2) Na (by omega) fun a bd b hb=> ?_) fun bn a5=> .ret ⟨rfl,a5.1.trans he,oR.aaP (by rw [a5.1.length_eq]; exact a5.2)⟩
  unfold Cz
  rw [UP (Fg a bd).1 (Fg b hb).1 (Fg a bd).2 (Fg b hb).2]
  rfl
theorem T4 {s:a1} {k:Nat} {l pZ r jB:List aw} (ao:h9 s k l) (hp:l.Perm pZ) (J:r.Perm l) (ad:jB.Perm pZ) (s1:r.Pairwise (fun a b=>x2 a b≤0)) (s2:jB.Pairwise (fun a b=>x2 a b≤0)):r=jB:=
 L1 Na (J.trans (hp.trans ad.symm)) s1 s2 fun a bd b hb e=>ao.uniq (J.mem_iff.1 bd) (J.mem_iff.1 hb) (XG e)
def nS (ls:Nat→List aw) (x:Nat) (r:List aw):Prop:=if x=0 then r= [] else r.Perm (ls (x - 1))∧r.Pairwise (fun a b=>x2 a b≤0)
theorem L3 {s:a1} (hs:dQ s) {hp:aN Cell} {p:Nat} {ls:Nat→List aw} {next:Int} (h:j6 s hp p ls next) {x:Nat} (al:x≤4) (ao:∀ k,k < 4→ (ls k).length≤12):
 dg (wh hp (some p) (x:Int)) (fun r=>r.2=hp∧nS ls x r.1):=by
 unfold wh
 by_cases e:x=0
 ·subst e
  refine .eq (T1 h (by omega)) ?_
  unfold wu
  exact .bind (P:=fun r=>r=([],hp)) (.cond (fun _=> .ret rfl) fun ak=>by cases ak) fun r aS=> .ret (by rw [aS]; exact⟨rfl,by unfold nS; rw [if_pos rfl]⟩)
 ·obtain⟨k,rfl⟩:∃ k,x=k + 1:=⟨x - 1,by omega⟩
  obtain⟨q,own,J,ad⟩:=L0 h (show k < 4 by omega)
  rw [show((k + 1:Nat):Int)=(k:Int) + 1 by omega]
  refine .eq J (.bind (XH hs (show k < 4 by omega) ad (ao k (by omega))) fun r aS=> .ret ⟨aS.1,?_⟩)
  unfold nS; rw [if_neg e]; exact aS.2
theorem j6.k2 {s:a1} {hp:aN Cell} {p:Nat} {ls:Nat→List aw} {next:Int} (h:j6 s hp p ls next) {k:Nat} (au:k < 4):h9 s k (ls k):=by
 obtain⟨q,own,_,ad⟩:=L0 h au
 exact ad.k2
theorem nS.same {s:a1} (hs:dQ s) {hp:aN Cell} {p:Nat} {ls:Nat→List aw} {next:Int} (h:j6 s hp p ls next) {x:Nat} (al:x≤4) {a c:List aw} (bd:nS ls x a) (ak:nS ls x c):a=c∧wz a a=some true:=by
 unfold nS at bd ak
 by_cases e:x=0
 ·rw [if_pos e] at bd ak
  rw [bd,ak]
  exact⟨rfl,KF (fun i ar=>by cases ar) (by simp)⟩
 ·rw [if_neg e] at bd ak
  have vG:=h.k2 (show x - 1 < 4 by omega)
  refine⟨T4 vG (.refl _) bd.1 ak.1 bd.2 ak.2,KF (fun i ar=>(vG.ok.ok i (bd.1.mem_iff.1 ar)).small hs (by omega)) ?_⟩
  have:=bd.1.length_eq; have:=vG.ok.len; omega
theorem Lt {ls:Nat→List aw} {k:Nat} :ma ls k (ls k)=ls:=by
 funext j
 unfold ma
 split
 ·rename_i e; rw [e]
 ·rfl
theorem RQ (hp:aN Cell) (aa aj:List (BitVec 8)):dg (yQ hp aa aj) (fun r=>r.1=true):=by
 unfold yQ
 refine .mP (Hd aa 120 (by omega) (by omega)) fun aB J=> .mP (KX aB J) fun aH ad=> .mP (Hd aj 220 (by omega) (by omega)) fun bn ay=> ?_
 obtain⟨s,tB⟩:=aH
 obtain⟨h,_⟩:=ad
 simp only at h ⊢
 refine .bind (M8 h hp) fun bD aU=> ?_
 obtain⟨p,iQ,aU⟩:=aU
 obtain⟨abu,cw⟩:=bD
 simp only at iQ aU
 subst iQ
 have Ay:∀ k,k < 4→1≤ (aI s.b1 k).gD∧ (aI s.b1 k).gD≤12:=fun k au=>by have:=h.size au; omega
 refine .bind (P:=fun e=> ∃ a,e= .inl a) (dg.loop 20 (fun i st=> ∃ c hp' ls next,st=((i:Int),c,hp')∧hC c∧j6 s hp' p ls next∧ (∀ k,k < 4→ (∀ i∈ls k,i.cu < next)∧ ((ls k).length:Int)≤ (aI s.b1 k).gD)∧1≤next∧next≤1 + i) (by omega) ⟨bn,cw,_,_,rfl,ay,aU,fun k au=>⟨fun i ar=>(by cases ar),by have:=Ay k au; simp; omega⟩,by omega,by omega⟩ (fun i st ar hs=> ?_) (fun st hs=> ?_)) fun aF aav=> ?_
 ·obtain⟨c,hp',ls,next,rfl,ak,fK,nj,lS,mN⟩:=hs
  have hw:bA ((i:Int) + 1)=((i + 1:Nat):Int):=gT (by omega)
  have ON:∀ k,k < 4→ (ls k).length≤12:=fun k au=>by have:=Ay k au; have:=(nj k au).2; omega
  refine .dd (P:=fun _=>True) (fun _=>TU _) fun b0 _=> .cond (fun _=> ?_) fun _=> .ret ⟨_,rfl⟩
  refine .mP (gf _ 4 ak (by omega)) fun cl bl=> .mP (S9 cl.2 cl.1 bl.1 h) fun bg ⟨cP,k,au,_,he⟩=> ?_
  refine .bind (P:=fun aR=>aR.2.2.2=hp'∧ ∀ x,x < 5→nS ls x (b7 aR.2.2.1 x)) (dg.loop 5 (fun j st=> ∃ b,st=((j:Int),b,hp')∧ ∀ x,x < j→nS ls x (b7 b x)) (by omega) ⟨default,rfl,fun x al=>by omega⟩ (fun j st aG hs=> ?_) (fun st hs=> ?_)) fun aR qA=> ?_
  ·obtain⟨b,rfl,hb⟩:=hs
   refine .cond (fun _=> .bind (L3 h fK (x:=j) (by omega) ON) fun fe eL=> .idx rfl aG (.ret ⟨h2 b j fe.1,by rw [eL.1,gT (by omega)],fun x al=> ?_⟩)) fun ak=>by simp at ak; omega
   rw [sw _ _ aG]
   by_cases e:x=j
   ·rw [if_pos e,e]; exact eL.2
   ·rw [if_neg e]; exact hb x (by omega)
  ·obtain⟨b,rfl,hb⟩:=hs
   exact .cond (fun ak=>by simp at ak) fun _=> .ret ⟨rfl,hb⟩
  obtain⟨i2,dU,bv,abv⟩:=aR
  obtain⟨rfl,PE⟩:=qA
  simp only at PE ⊢
  refine .mP (gf _ 3 cP (by omega)) fun b3 fM=> ?_
  refine .bind (P:=fun bB=> ∃ pZ next',j6 s bB p (ma ls k pZ) next'∧ (∀ i∈pZ,i.cu < next')∧ (pZ.length:Int)≤ (aI s.b1 k).gD∧next≤next'∧next'≤next + 1) (.cond (fun _=> .bind (Ln h fK au he) fun h6 n9=> .ret ⟨_,next,n9.2,fun i ar=>(nj k au).1 i (m2.1 ar).1,by have:=T3 (ls k) bg.1; have:=(nj k au).2; omega,by omega,by omega⟩) fun _=> .bind (GC h fK au he 1 (nj k au).1 (by have:=ON k au; omega) (by omega)) fun iW oP=> .ret ?_) fun bB cV=> ?_
  ·by_cases a8:(fq (ls k) bg.1).isSome=true
   ·rw [if_pos a8] at oP
    subst oP
    exact⟨ls k,next,by rw [Lt]; exact fK,(nj k au).1,(nj k au).2,by omega,by omega⟩
   rw [if_neg a8] at oP
   by_cases N8:(aI s.b1 k).gD≤ ((ls k).length:Int)
   ·rw [if_pos N8] at oP
    subst oP
    exact⟨ls k,next,by rw [Lt]; exact fK,(nj k au).1,(nj k au).2,by omega,by omega⟩
   rw [if_neg N8] at oP
   refine⟨_,next + 1,oP.2.2,fun x al=> ?_,by simp; omega,by omega,by omega⟩
   rcases List.mem_append.1 al with al | al
   ·have:=(nj k au).1 x al; omega
   ·rw [List.mem_singleton.1 al]; simp only; omega
  obtain⟨pZ,next',OO,XI,XJ,ka,mf⟩:=cV
  have N9:∀ j,j < 4→ (∀ i∈ma ls k pZ j,i.cu < next')∧ ((ma ls k pZ j).length:Int)≤ (aI s.b1 j).gD:=fun j aG=>by
   by_cases e:j=k
   ·subst e; rw [zv]; exact⟨XI,XJ⟩
   ·rw [Mx e]; exact⟨fun x al=>by have:=(nj j aG).1 x al; omega,(nj j aG).2⟩
  have XK:∀ j,j < 4→ (ma ls k pZ j).length≤12:=fun j aG=>by have:=Ay j aG; have:=(N9 j aG).2; omega
  refine .bind (P:=fun dh=> ∃ q,dh= .inl q∧q.2.2=bB) (dg.loop 5 (fun j st=>st=((j:Int),bB)) (by omega) rfl (fun j st aG hs=> ?_) (fun st hs=> ?_)) fun dh aaw=> ?_
  ·subst hs
   refine .cond (fun _=> .dd (P:=fun a=>a=j) (fun _=>⟨_,ox aG,rfl⟩) fun bI aR=> ?_) fun ak=>by simp at ak; omega
   simp only
   refine .bind (P:=fun y=>y.2=bB∧ (((j:Int) !=bg.1.bo)=true→nS (ma ls k pZ) j y.1)) (.cond (fun ak=>(L3 h OO (x:=j) (by omega) XK).mono fun r aS=>⟨aS.1,fun _=>aS.2⟩) fun ak=> .ret ⟨rfl,fun cH=>by rw [decide_eq_false_iff_not] at ak; exact absurd cH ak⟩) fun fJ jt=> ?_
   obtain⟨Y8,aa4⟩:=fJ
   obtain⟨rfl,jt⟩:=jt
   refine .dd (P:=fun y=>y=true) (fun cH=> ?_) fun hG vQ=> .cond (fun ak=> ?_) fun _=> .ret (by rw [gT (by omega)])
   ·have qx:j≠k + 1:=fun e=>by
     rw [he.lg,e] at cH
     simp at cH
    have bJ:=jt cH
    have iM:nS ls j Y8:=by
     unfold nS at bJ ⊢
     by_cases jU:j=0
     ·rw [if_pos jU] at bJ ⊢; exact bJ
     ·rw [if_neg jU] at bJ ⊢
      rw [Mx (by omega)] at bJ; exact bJ
    obtain⟨av,bm⟩:=nS.same h fK (by omega) iM (PE j aG)
    rw [aR cH,← av]
    exact⟨true,bm,rfl⟩
   ·rw [Bool.and_eq_true] at ak
    rw [vQ ak.1] at ak
    simp at ak
  ·subst hs
   exact .cond (fun ak=>by simp at ak) fun _=> .ret ⟨_,rfl,rfl⟩
  obtain⟨q,rfl,hq⟩:=aaw
  simp only [Sum.elim_inl]
  exact .ret ⟨b3.2,bB,_,next',by rw [hw,hq],fM.1,OO,N9,by omega,by omega⟩
 ·obtain⟨c,hp',ls,next,rfl,ak,fK,nj,lS,mN⟩:=hs
  refine .dd (P:=fun _=>True) (fun ak=>by simp at ak) fun cl _=> .cond (fun ak=>by simp at ak) fun _=> .ret ⟨_,rfl⟩
 obtain⟨a,rfl⟩:=aav
 simp only [Sum.elim_inl]
 exact .bind (Tn _) fun h6 n9=> .ret n9
theorem RE (aa aj:List (BitVec 8)):yQ [] aa aj (fun r=>r.1=true):=(RQ [] aa aj).run
end Go.Proofs.YtmnggbjcnoffeaaGreat
