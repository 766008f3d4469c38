/-
  What the programs compute, in plain Lean. Conditions: none.
-/
import Derived.Test.YtmnggbjcnoffeaaGreatMl0
import Derived.Test.YtmnggbjcnoffeaaGreatMl2
import Derived.Test.YtmnggbjcnoffeaaGreatMd
namespace Gv
open Go
theorem Jh {σ ε:Type} {body:σ→Option (σ ⊕ ε)} {Q:ε→Prop} {b2:σ} (m:Nat) (e4:Nat→σ→Prop)
 (hm:m < 2 ^ 80) (bJ:e4 0 b2)
 (hs:∀ k s,k < m→e4 k s→ (∃ bV,body s=some (.inl bV)∧e4 (k + 1) bV)∨ (∃ e,body s=some (.inr e)∧Q e))
 (he:∀ s,e4 m s→ ∃ e,body s=some (.inr e)∧Q e):∃ e,ej ep body b2=some e∧Q e:=by
 have key:∀ n k s,k≤m→m - k < n→e4 k s→ ∃ e,ej n body s=some e∧Q e:=by
  intro n
  induction n with
  | zero=>intro k s _ h; omega
  | succ n bI=>
    intro k s av aO al
    by_cases zh:k=m
    ·subst zh
     obtain⟨e,J,ab⟩:=he s al
     exact⟨e,by simp [ej,J],ab⟩
    ·rcases hs k s (by omega) al with⟨bV,J,ab⟩ | ⟨e,J,ab⟩
     ·obtain⟨e,aC,aU⟩:=bI (k + 1) bV (by omega) (by omega) ab
      exact⟨e,by simp [ej,J,aC],aU⟩
     ·exact⟨e,by simp [ej,J],ab⟩
 exact key ep 0 b2 (by omega) (by unfold ep; omega) bJ
def bo {β:Type} (m:Option β) (P:β→Prop):Prop:= ∃ r,m=some r∧P r
theorem bo.ret {β:Type} {P:β→Prop} {r:β} (h:P r):bo (some r) P:=⟨r,rfl,h⟩
theorem bo.bind {α β:Type} {m:Option α} {f:α→Option β} {P:α→Prop} {Q:β→Prop} (h:bo m P) (k:∀ a,P a→bo (f a) Q):bo (m.bind f) Q:=by
 obtain⟨a,J,ab⟩:=h
 rw [J]; exact k a ab
theorem bo.eq {α β:Type} {m:Option α} {a:α} {f:α→Option β} {Q:β→Prop} (h:m=some a) (k:bo (f a) Q):bo (m.bind f) Q:=by
 rw [h]; exact k
theorem bo.mono {β:Type} {m:Option β} {P Q:β→Prop} (h:bo m P) (k:∀ a,P a→Q a):bo m Q:=by
 obtain⟨a,J,ab⟩:=h
 exact⟨a,J,k a ab⟩
theorem bo.cond {β:Type} {b:Bool} {m n:Option β} {P:β→Prop} (J:b=true→bo m P) (ab:b=false→bo n P):bo (cond b m n) P:=by
 cases b
 ·exact ab rfl
 ·exact J rfl
theorem bo.dt {α β:Type} [Inhabited α] {b w:Bool} {m:Option α} {f:α→Option β} {P:α→Prop} {Q:β→Prop} (h:b=w→bo m P) (k:∀ a,(b=w→P a)→bo (f a) Q):bo ((dt b w m).bind f) Q:=by
 unfold Gv.dt
 by_cases hb:b=w
 ·rw [if_pos hb]; exact(h hb).bind fun a bh=>k a fun _=>bh
 ·rw [if_neg hb]; exact k default fun h=>absurd h hb
theorem bo.loop {σ ε β:Type} {body:σ→Option (σ ⊕ ε)} {f:ε→Option β} {P:β→Prop} {b2:σ} (m:Nat) (e4:Nat→σ→Prop)
 (hm:m < 2 ^ 80) (bJ:e4 0 b2)
 (hs:∀ k s,k < m→e4 k s→bo (body s) (fun x=>match x with | .inl bV=>e4 (k + 1) bV | .inr e=>bo (f e) P))
 (he:∀ s,e4 m s→ ∃ e,body s=some (.inr e)∧bo (f e) P):bo ((ej ep body b2).bind f) P:=by
 obtain⟨e,J,ab⟩:=Jh (Q:=fun e=>bo (f e) P) m e4 hm bJ (fun k s av al=>by
  obtain⟨r,J,ab⟩:=hs k s av al
  cases r with
  | inl bV=>exact .inl ⟨bV,J,ab⟩
  | inr e=>exact .inr ⟨e,J,ab⟩) he
 rw [J]; exact ab
theorem bo.E5 {σ ε:Type} {body:σ→Option (σ ⊕ ε)} {P:ε→Prop} {b2:σ} (m:Nat) (e4:Nat→σ→Prop)
 (hm:m < 2 ^ 80) (bJ:e4 0 b2)
 (hs:∀ k s,k < m→e4 k s→bo (body s) (fun x=>match x with | .inl bV=>e4 (k + 1) bV | .inr e=>P e))
 (he:∀ s,e4 m s→bo (body s) (fun x=>match x with | .inl _=>False | .inr e=>P e)):bo (ej ep body b2) P:=by
 obtain⟨e,J,ab⟩:=Jh (Q:=P) m e4 hm bJ (fun k s av al=>by
  obtain⟨r,J,ab⟩:=hs k s av al
  cases r with
  | inl bV=>exact .inl ⟨bV,J,ab⟩
  | inr e=>exact .inr ⟨e,J,ab⟩) fun s al=>by
  obtain⟨r,J,ab⟩:=he s al
  cases r with
  | inl bV=>exact ab.elim
  | inr e=>exact⟨e,J,ab⟩
 exact⟨e,J,ab⟩
theorem bo.idx {β:Type} {n:Nat} {i:Int} {k:Nat} {f:Nat→Option β} {Q:β→Prop} (al:i=k) (av:k < n) (h:bo (f k) Q):bo ((Gv.idx n i).bind f) Q:=by
 subst al
 have:Gv.idx n (k:Int)=some k:=by unfold Gv.idx; rw [if_pos (by omega)]; simp
 rw [this]; exact h
theorem gv {α:Type} [Inhabited α] {n:Nat} (v:Vector α n) {k:Nat} (x:α) (av:k < n) (j:Nat):cf (c1 v k x) j=if j=k then x else cf v j:=by
 unfold cf c1
 by_cases h:j=k
 ·subst h; simp [av]
 ·rw [if_neg h,Vector.getElem?_setIfInBounds_ne (by omega)]
theorem DE {α:Type} [Inhabited α] {n:Nat} {v w:Vector α n} (h:∀ j,j < n→cf v j=cf w j):v=w:=by
 apply Vector.ext
 intro i al
 have:=h i al
 simpa [cf,al] using this
theorem C7 {α:Type} [Inhabited α] {n:Nat} (j:Nat):cf (default:Vector α n) j=default:=by
 show cf (Vector.replicate n default) j=default
 unfold cf
 by_cases h:j < n <;> simp [h]
theorem qZ {n k:Nat} (h:k < n):idx n (k:Int)=some k:=by
 unfold idx; rw [if_pos (by omega)]; simp
theorem sm {n:Nat} {i:Int} (h:0≤i) (cJ:i < n):idx n i=some i.toNat:=by
 unfold idx; rw [if_pos ⟨h,cJ⟩]
theorem e3 {k:Nat} (h:k < 2 ^ 62):bD ((k:Int) + 1)=((k + 1:Nat):Int):=by
 rw [hQ (by omega) (by omega)]; simp
theorem ng {k:Nat} (h:k < 2 ^ 64):(BitVec.ofInt 64 (k:Int)).toNat=k:=by
 simp; omega
theorem Rc (x:BitVec 64):((x &&& 1#64) ==1#64)=x.getLsbD 0:=by
 rw [BitVec.and_one_eq_setWidth_ofBool_getLsbD]
 cases x.getLsbD 0 <;> rfl
theorem xj {α β:Type} [Inhabited α] [Inhabited β] (f:α→β) {l:List α} {k:Nat} (av:k < l.length):aA (l.map f) k=f (aA l k):=by
 rw [eB l av,eB _ (by simpa using av),List.getElem_map]
theorem pq {α:Type} [Inhabited α] (l:List α) {k:Nat} (av:k < l.length):l.take (k + 1)=l.take k ++ [aA l k]:=by
 rw [List.take_add_one,List.getElem?_eq_getElem av,eB l av]; rfl
theorem Rd {α:Type} [Inhabited α] {xs:List α} {p:α→Bool} {k:Nat} (av:k < xs.length) (hp:p (aA xs k)=true) (aF:∀ j,j < k→p (aA xs j)=false):xs.find? p=some (aA xs k):=by
 rw [List.find?_eq_some_iff_getElem]
 refine⟨hp,k,av,(eB xs av).symm,fun j kP=> ?_⟩
 have:=aF j kP
 rw [eB xs (by omega)] at this
 simp [this]
theorem Re {α:Type} {xs:List α} {p:α→Bool} (h:∀ x∈xs,p x=false):xs.find? p=none:=
 List.find?_eq_none.2 fun x an=>by simp [h x an]
end Gv
namespace Gv
open Go
set_option linter.unusedVariables false
def dY {α:Type} (m:aG α) (P:α→Prop):Prop:= ∀ Q:α→Prop,(∀ r,P r→Q r)→m Q
theorem dY.run {α:Type} {m:aG α} {P:α→Prop} (h:dY m P):m P:=h P fun _ h=>h
theorem dY.ret {α:Type} {P:α→Prop} {x:α} (h:P x):dY (aG.ret x) P:=fun Q k=>k x h
theorem dY.bind {α β:Type} {m:aG α} {f:α→aG β} {P:α→Prop} {oz:β→Prop} (h:dY m P) (k:∀ r,P r→dY (f r) oz):dY (aG.bind m f) oz:=fun Q hq=>h _ fun r aS=>k r aS Q hq
theorem dY.of {α:Type} {o:Option α} {P:α→Prop} (h:bo o P):dY (aG.of o) P:=fun Q hq=>let⟨r,J,ab⟩:=h; ⟨r,J,hq r ab⟩
theorem dY.ov {α β:Type} {o:Option α} {f:α→aG β} {P:α→Prop} {oz:β→Prop} (h:bo o P) (k:∀ r,P r→dY (f r) oz):dY (aG.bind (aG.of o) f) oz:= .bind (.of h) k
theorem dY.eq {α β:Type} {o:Option α} {a:α} {f:α→aG β} {oz:β→Prop} (h:o=some a) (k:dY (f a) oz):dY (aG.bind (aG.of o) f) oz:=fun Q hq=>⟨a,h,k Q hq⟩
theorem dY.mono {α:Type} {m:aG α} {P oz:α→Prop} (h:dY m P) (k:∀ r,P r→oz r):dY m oz:=fun Q hq=>h Q fun r aS=>hq r (k r aS)
theorem dY.cond {α:Type} {b:Bool} {m n:aG α} {P:α→Prop} (J:b=true→dY m P) (ab:b=false→dY n P):dY (cond b m n) P:=by
 cases b
 ·exact ab rfl
 ·exact J rfl
theorem dY.dt {α β:Type} [Inhabited α] {b w:Bool} {m:Option α} {f:α→aG β} {P:α→Prop} {Q:β→Prop} (h:b=w→bo m P) (k:∀ a,(b=w→P a)→dY (f a) Q):dY (aG.bind (aG.of (dt b w m)) f) Q:=by
 unfold Gv.dt
 by_cases hb:b=w
 ·rw [if_pos hb]; exact .ov (h hb) fun a bh=>k a fun _=>bh
 ·rw [if_neg hb]; exact .eq rfl (k default fun h=>absurd h hb)
theorem dY.idx {β:Type} {n:Nat} {i:Int} {k:Nat} {f:Nat→aG β} {Q:β→Prop} (al:i=k) (av:k < n) (h:dY (f k) Q):dY (aG.bind (aG.of (Gv.idx n i)) f) Q:=by
 subst al
 exact .eq (qZ av) h
theorem dY.mk {bW β:Type} {hp:bb bW} {c:bW} {f:Nat × bb bW→aG β} {P:β→Prop} (k:∀ p,p ∉ ec hp→dY (f (p,(p,c) :: hp)) P):dY (aG.bind (aG.mk hp c) f) P:=fun Q hq=>fun a bh=>by
 obtain⟨p,hp'⟩:=a
 obtain⟨J,ab⟩:=bh
 simp only at J ab
 subst ab
 exact k p J Q hq
theorem dY.any {α β:Type} {f:α→aG β} {P:β→Prop} (k:∀ x,dY (f x) P):dY (aG.bind (aG.any α) f) P:=fun Q hq x=>k x Q hq
theorem dY.loop {σ ε:Type} {body:σ→aG (σ ⊕ ε)} {P:ε→Prop} {b2:σ} (m:Nat) (e4:Nat→σ→Prop) (hm:m < 2 ^ 80) (bJ:e4 0 b2)
 (hs:∀ k s,k < m→e4 k s→dY (body s) (fun x=>match x with | .inl bV=>e4 (k + 1) bV | .inr e=>P e))
 (he:∀ s,e4 m s→dY (body s) (fun x=>match x with | .inl _=>False | .inr e=>P e)):dY (n1 ep body b2) P:=by
 have key:∀ n k s,k≤m→m - k < n→e4 k s→dY (n1 n body s) P:=by
  intro n
  induction n with
  | zero=>intro k s _ h; omega
  | succ n bI=>
    intro k s av aO al Q hq
    by_cases zh:k=m
    ·subst zh
     exact he s al _ fun r aS=>by
      cases r with
      | inl bV=>exact aS.elim
      | inr e=>exact hq e aS
    ·exact hs k s (by omega) al _ fun r aS=>by
      cases r with
      | inl bV=>exact bI (k + 1) bV (by omega) (by omega) aS Q hq
      | inr e=>exact hq e aS
 exact key ep 0 b2 (by omega) (by unfold ep; omega) bJ
theorem qS {bW:Type} {hp:bb bW} {p q:Nat} {k:bW} :pat ((p,k) :: hp) q=if p=q then some k else pat hp q:=rfl
theorem Qq {bW:Type} {hp:bb bW} {p:Nat} (h:p ∉ ec hp):pat hp p=none:=by
 cases e:pat hp p with
 | none=>rfl
 | some k=>exact absurd (kC e) h
theorem uU {bW:Type} {hp:bb bW} {p:Nat} {k k':bW} (h:pat hp p=some k'):pat (dz hp p k) p=some k:=by rw [xv,if_pos rfl,h]; rfl
theorem qL {bW:Type} {hp:bb bW} {p q:Nat} {k:bW} (h:p≠q):pat (dz hp p k) q=pat hp q:=by rw [xv,if_neg h]
theorem xb {α β:Type} [DecidableEq α] {l:List (α × β)} {x y:α} {v:β} :eH (fS l x v) y=if y=x then some v else eH l y:=by
 induction l with
 | nil=>
   show(if y=x then some v else eH [] y)=_
   rfl
 | cons a r bI=>
   obtain⟨k,w⟩:=a
   simp only [fS]
   by_cases h:x=k
   ·rw [if_pos h]
    simp only [eH]
    by_cases ab:y=x
    ·simp [ab]
    ·simp [ab,show ¬ y=k from fun e=>ab (by rw [e,h])]
   ·rw [if_neg h]
    simp only [eH]
    by_cases ab:y=k
    ·subst ab; simp [show ¬ y=x from fun e=>h e.symm]
    ·rw [if_neg ab,bI,if_neg ab]
end Gv
namespace Go.Proofs.YtmnggbjcnoffeaaGreat
open Go Gv
set_option linter.unusedVariables false
set_option linter.unusedSimpArgs false
def hE (b:Bool):Nat:=bif b then 1 else 0
def dA (hp:bb Cell):Ref→List Bool→Ref
 | none,_=>none
 | some p,[]=>some p
 | some p,b :: bA=>match dh hp p with
   | none=>none
   | some c=>dA hp (cf c.e6 (hE b)) bA
theorem h3 {hp:bb Cell} {bA:List Bool} :dA hp none bA=none:=by cases bA <;> rfl
theorem sn {hp:bb Cell} {r:Ref} :dA hp r []=r:=by cases r <;> rfl
theorem jN {hp:bb Cell} {p:Nat} {c:ew} {b:Bool} {bA:List Bool} (h:dh hp p=some c):dA hp (some p) (b :: bA)=dA hp (cf c.e6 (hE b)) bA:=by
 show(match dh hp p with | none=>none | some c=>dA hp (cf c.e6 (hE b)) bA)=_
 rw [h]
theorem oG {hp:bb Cell} :∀ {r:Ref} {bA cs:List Bool},dA hp r (bA ++ cs)=dA hp (dA hp r bA) cs
 | none,bA,cs=>by rw [h3,h3,h3]
 | some p,[],cs=>by rw [List.nil_append,sn]
 | some p,b :: bA,cs=>by
   cases e:dh hp p with
   | none=>
     have J:∀ xs,dA hp (some p) (b :: xs)=none:=fun xs=>by
      show(match dh hp p with | none=>none | some c=>dA hp (cf c.e6 (hE b)) xs)=_
      rw [e]
     rw [List.cons_append,J,J,h3]
   | some c=>rw [List.cons_append,jN e,jN e,oG]
theorem IZ {hp hp':bb Cell} :∀ {r:Ref} {bA:List Bool},(∀ p cs,dA hp r cs=some p→dh hp' p=dh hp p)→dA hp' r bA=dA hp r bA
 | none,bA,_=>by rw [h3,h3]
 | some p,[],_=>rfl
 | some p,b :: bA,h=>by
   have bJ:=h p [] rfl
   show(match dh hp' p with | none=>none | some c=>dA hp' (cf c.e6 (hE b)) bA)=(match dh hp p with | none=>none | some c=>dA hp (cf c.e6 (hE b)) bA)
   rw [bJ]
   cases e:dh hp p with
   | none=>rfl
   | some c=>
     refine IZ fun q cs hq=>h q (b :: cs) ?_
     rw [jN e]; exact hq
structure pL (hp:bb Cell) (root:Ref):Prop where
 reads:∀ bA p,dA hp root bA=some p→ ∃ c,dh hp p=some c
 inj:∀ bA cs p,dA hp root bA=some p→dA hp root cs=some p→bA=cs
 dep:∀ bA p,dA hp root bA=some p→bA.length≤32
def cont (hp:bb Cell) (root:Ref) (bA:List Bool):Option Int:=match dA hp root bA with
 | none=>none
 | some p=>match dh hp p with
   | none=>none
   | some c=>bif c.e7 then some c.mL else none
theorem mA {hp:bb Cell} {root:Ref} {bA:List Bool} {p:Nat} {c:ew} (h:dA hp root bA=some p) (ar:dh hp p=some c):cont hp root bA=bif c.e7 then some c.mL else none:=by
 unfold cont; rw [h]; simp only [ar]
theorem nT {hp:bb Cell} {root:Ref} {bA:List Bool} (h:dA hp root bA=none):cont hp root bA=none:=by
 unfold cont; rw [h]
theorem pw {hp:bb Cell} {p:Nat} {c:ew} :dh hp p=some c↔pat hp p=some (.gJ c):=by
 refine⟨mD,fun h=> ?_⟩
 unfold dh; rw [h]
theorem qM {hp:bb Cell} {p:Nat} {c:fY} :gh hp p=some c↔pat hp p=some (.jb c):=by
 refine⟨pD,fun h=> ?_⟩
 unfold gh; rw [h]
theorem w0 {hp hp':bb Cell} {p:Nat} (h:pat hp' p=pat hp p):dh hp' p=dh hp p:=by unfold dh; rw [h]
theorem Dd {hp hp':bb Cell} {p:Nat} (h:pat hp' p=pat hp p):gh hp' p=gh hp p:=by unfold gh; rw [h]
structure gi (hp hp':bb Cell) (own:Nat→Prop):Prop where
 keys:∀ q,q∈ec hp→q∈ec hp'
 rest:∀ q,q∈ec hp→ ¬ own q→pat hp' q=pat hp q
theorem gi.refl {hp:bb Cell} {own:Nat→Prop} :gi hp hp own:=⟨fun _ h=>h,fun _ _ _=>rfl⟩
theorem gi.mk' {hp:bb Cell} {own:Nat→Prop} {a:Nat} {k:Cell} (bh:a ∉ ec hp):gi hp ((a,k) :: hp) own:=
 ⟨fun q h=>List.mem_cons_of_mem _ h,fun q h _=>by rw [qS,if_neg (fun e:a=q=>bh (by rw [e]; exact h))]⟩
theorem gi.up {hp:bb Cell} {own:Nat→Prop} {p:Nat} {k:Cell} (hp':own p):gi hp (dz hp p k) own:=
 ⟨fun q h=>by rw [sl]; exact h,fun q h hq=>qL (fun e:p=q=>hq (by rw [← e]; exact hp'))⟩
theorem gi.trans {J ab aC:bb Cell} {own own':Nat→Prop} (a:gi J ab own) (b:gi ab aC own') (bm:∀ q,q∈ec J→own' q→own q):gi J aC own:=
 ⟨fun q h=>b.keys q (a.keys q h),fun q h hq=>by rw [b.rest q (a.keys q h) fun cJ=>hq (bm q h cJ),a.rest q h hq]⟩
theorem PV (b:Bool):cf (default:ew).e6 (hE b)=none:=by cases b <;> rfl
theorem I0 {hp:bb Cell} {a:Nat} (h:dh hp a=some (default:ew)):∀ bA,dA hp (some a) bA=if bA= [] then some a else none
 | []=>rfl
 | b :: bA=>by rw [jN h,PV,h3]; rfl
theorem DF {hp hp':bb Cell} {root:Ref} {ws:List Bool} {b:Bool} {p a:Nat} {c:ew} (b9:pL hp root) (hw:dA hp root ws=some p) (ar:dh hp p=some c) (aO:cf c.e6 (hE b)=none) (bh:dh hp a=none)
 (dy:dh hp' p=some { c with e6:=c1 c.e6 (hE b) (some a) }) (eE:dh hp' a=some default) (hV:∀ q,q≠p→q≠a→dh hp' q=dh hp q):
 ∀ (bA us:List Bool) (q:Nat),dA hp root us=some q→dA hp' (some q) bA=if us ++ bA=ws ++ [b] then some a else dA hp (some q) bA
 | [],us,q,hu=>by
   have: ¬ us ++ []=ws ++ [b]:=fun e=>by
    rw [List.append_nil] at e
    rw [e,oG,hw,jN ar,aO,h3] at hu; cases hu
   rw [if_neg this]; rfl
 | x :: xs,us,q,hu=>by
   obtain⟨M5,rK⟩:=b9.reads us q hu
   have rL:q≠a:=fun e=>by rw [e,bh] at rK; cases rK
   by_cases zu:q=p
   ·subst zu
    have V2:=b9.inj us ws q hu hw
    subst V2
    rw [ar] at rK; cases rK
    rw [jN dy,jN ar]
    simp only
    have cq:hE b < 2:=by cases b <;> decide
    rw [gv _ _ cq]
    by_cases GA:x=b
    ·subst GA
     rw [if_pos rfl,aO,h3,I0 eE]
     by_cases h:xs= []
     ·subst h; rw [if_pos rfl,if_pos rfl]
     ·rw [if_neg h,if_neg fun e=>h ?_]
      have:=List.append_cancel_left e
      simpa using this
    ·have dv: ¬ hE x=hE b:=fun e=>GA (by cases x <;> cases b <;> first | rfl | cases e)
     have fU: ¬ us ++ x :: xs=us ++ [b]:=fun e=>GA (by have:=List.append_cancel_left e; simpa using (List.cons.inj this).1)
     rw [if_neg dv,if_neg fU]
     cases e:cf c.e6 (hE x) with
     | none=>rw [h3,h3]
     | some dX=>
       have mW:dA hp root (us ++ [x])=some dX:=by rw [oG,hu,jN ar,e,sn]
       rw [DF b9 hw ar aO bh dy eE hV xs (us ++ [x]) dX mW,List.append_assoc,List.singleton_append,if_neg fU]
   ·have J:dh hp' q=some M5:=by rw [hV q zu rL]; exact rK
    rw [jN J,jN rK]
    cases e:cf M5.e6 (hE x) with
    | none=>
      have fU: ¬ us ++ x :: xs=ws ++ [b]:=fun aX=>by
       have V3:dA hp root (us ++ [x])=none:=by rw [oG,hu,jN rK,e,h3]
       rcases List.eq_nil_or_concat xs with rfl | ⟨ys,y,rfl⟩
       ·have:=(List.append_inj_left' aX rfl)
        subst this
        rw [hu] at hw; cases hw; exact zu rfl
       ·have aC:us ++ x :: ys=ws:=by
         have:(us ++ x :: ys) ++ [y]=ws ++ [b]:=by simpa using aX
         exact List.append_inj_left' this rfl
        rw [← aC,show us ++ x :: ys=(us ++ [x]) ++ ys by simp,oG,V3,h3] at hw
        cases hw
      rw [h3,h3,if_neg fU]
    | some dX=>
      have mW:dA hp root (us ++ [x])=some dX:=by rw [oG,hu,jN rK,e,sn]
      rw [DF b9 hw ar aO bh dy eE hV xs (us ++ [x]) dX mW,List.append_assoc,List.singleton_append]
theorem grow {hp hp':bb Cell} {r:Nat} {ws:List Bool} (hd:ws.length < 32) {b:Bool} {p a:Nat} {c:ew} (b9:pL hp (some r)) (hw:dA hp (some r) ws=some p) (ar:dh hp p=some c) (aO:cf c.e6 (hE b)=none) (bh:dh hp a=none)
 (dy:dh hp' p=some { c with e6:=c1 c.e6 (hE b) (some a) }) (eE:dh hp' a=some default) (hV:∀ q,q≠p→q≠a→dh hp' q=dh hp q):
 pL hp' (some r)∧ (∀ bA,dA hp' (some r) bA=if bA=ws ++ [b] then some a else dA hp (some r) bA)∧ ∀ bA,cont hp' (some r) bA=cont hp (some r) bA:=by
 have a8:∀ bA,dA hp' (some r) bA=if bA=ws ++ [b] then some a else dA hp (some r) bA:=fun bA=>DF b9 hw ar aO bh dy eE hV bA [] r rfl
 have Cn:∀ bA,dA hp (some r) bA≠some a:=fun bA h=>by
  obtain⟨c,J⟩:=b9.reads bA a h
  rw [bh] at J; cases J
 have V4:dA hp (some r) (ws ++ [b])=none:=by rw [oG,hw,jN ar,aO,h3]
 refine⟨⟨fun bA q h=> ?_,fun bA cs q J ab=> ?_,fun bA q h=> ?_⟩,a8,fun bA=> ?_⟩
 ·rw [a8] at h
  split at h
  ·cases h; exact⟨_,eE⟩
  ·obtain⟨iX,J⟩:=b9.reads bA q h
   by_cases e:q=p
   ·subst e; exact⟨_,dy⟩
   ·exact⟨iX,by rw [hV q e fun aX=>Cn bA (aX ▸ h)]; exact J⟩
 ·rw [a8] at J ab
  split at J <;> split at ab
  ·rename_i az aX; rw [az,aX]
  ·cases J; exact absurd ab (Cn cs)
  ·cases ab; exact absurd J (Cn bA)
  ·exact b9.inj bA cs q J ab
 ·rw [a8] at h
  split at h
  ·rename_i e; rw [e]; simp; omega
  ·exact b9.dep bA q h
 ·by_cases e:bA=ws ++ [b]
  ·subst e
   rw [nT V4,mA (by rw [a8,if_pos rfl]) eE]; rfl
  ·have GB:dA hp' (some r) bA=dA hp (some r) bA:=by rw [a8,if_neg e]
   cases h:dA hp (some r) bA with
   | none=>rw [nT h,nT (GB.trans h)]
   | some q=>
     obtain⟨iX,J⟩:=b9.reads bA q h
     by_cases eq:q=p
     ·subst eq
      rw [ar] at J; cases J
      rw [mA h ar,mA (GB.trans h) dy]
     ·rw [mA h J,mA (GB.trans h) (by rw [hV q eq fun aX=>Cn bA (aX ▸ h)]; exact J)]
theorem AW {hp hp':bb Cell} {p:Nat} {c iX:ew} (ar:dh hp p=some c) (mj:dh hp' p=some iX) (he:iX.e6=c.e6) (h:∀ q,q≠p→dh hp' q=dh hp q):∀ (bA:List Bool) (r:Ref),dA hp' r bA=dA hp r bA
 | bA,none=>by rw [h3,h3]
 | [],some q=>rfl
 | b :: bA,some q=>by
   by_cases e:q=p
   ·subst e
    rw [jN ar,jN mj,he]; exact AW ar mj he h bA _
   ·cases aX:dh hp q with
    | none=>
      show(match dh hp' q with | none=>none | some c=>dA hp' (cf c.e6 (hE b)) bA)=(match dh hp q with | none=>none | some c=>dA hp (cf c.e6 (hE b)) bA)
      rw [h q e,aX]
    | some d=>rw [jN aX,jN (by rw [h q e]; exact aX)]; exact AW ar mj he h bA _
theorem U5 {hp hp':bb Cell} {root:Ref} {ws:List Bool} {p:Nat} {c iX:ew} (b9:pL hp root) (hw:dA hp root ws=some p) (ar:dh hp p=some c) (mj:dh hp' p=some iX) (he:iX.e6=c.e6) (h:∀ q,q≠p→dh hp' q=dh hp q):
 pL hp' root∧ ∀ bA,cont hp' root bA=if bA=ws then(bif iX.e7 then some iX.mL else none) else cont hp root bA:=by
 have a8:=AW ar mj he h
 refine⟨⟨fun bA q hq=> ?_,fun bA cs q J ab=>b9.inj bA cs q (by rw [← a8]; exact J) (by rw [← a8]; exact ab),fun bA q hq=>b9.dep bA q (by rw [← a8]; exact hq)⟩,fun bA=> ?_⟩
 ·rw [a8] at hq
  obtain⟨d,J⟩:=b9.reads bA q hq
  by_cases e:q=p
  ·subst e; exact⟨_,mj⟩
  ·exact⟨d,by rw [h q e]; exact J⟩
 ·by_cases e:bA=ws
  ·subst e; rw [if_pos rfl,mA (by rw [a8]; exact hw) mj]
  ·rw [if_neg e]
   cases J:dA hp root bA with
   | none=>rw [nT J,nT (by rw [a8]; exact J)]
   | some q=>
     obtain⟨d,ab⟩:=b9.reads bA q J
     have zu:q≠p:=fun aX=>e (b9.inj bA ws p (aX ▸ J) hw)
     rw [mA J ab,mA (by rw [a8]; exact J) (by rw [h q zu]; exact ab)]
end Go.Proofs.YtmnggbjcnoffeaaGreat
namespace Go.Proofs.YtmnggbjcnoffeaaGreat
open Go Gv
set_option linter.unusedVariables false
set_option linter.unusedSimpArgs false
set_option maxRecDepth 100000
theorem h2 {α:Type} {b:Nat} (xs ys:List α) (h:xs.length + ys.length≤1000000) (hb:b≤100000):fT b xs ys=some (xs ++ ys):=by
 unfold fT
 rw [if_pos]
 unfold maxLen
 refine⟨Nat.le_trans (Nat.mul_le_mul h hb) (by omega),by omega⟩
def gK (c:bw):Prop:=0≤c.p1∧c.dE.length≤1000
theorem JO (l:List (BitVec 8)) (n:Int) (bJ:0≤n) (J:n≤1000):bo (sa l n) gK:=by
 unfold sa
 refine .eq (a:=(l.drop 0).take ((min (l.length:Int) n).toNat - 0)) ?_ (.ret ⟨Int.le_refl 0,?_⟩)
 ·unfold sv; rw [if_pos ⟨by omega,by omega,by omega⟩]; rfl
 ·simp only [List.length_take,List.length_drop]; omega
theorem fZ (c:bw) (n:Int) (ar:gK c) (aO:1≤n):bo (fq c n) (fun r=>gK r.2∧0≤r.1∧r.1 < n∧r.1 < 256):=by
 unfold fq Aq
 obtain⟨l,a⟩:=c
 obtain⟨bJ,J⟩:=ar
 simp only at bJ J
 obtain⟨k,rfl⟩:=Int.eq_ofNat_of_zero_le bJ
 refine .eq rfl (.cond (fun _=> .ret ⟨⟨bJ,J⟩,by omega,by omega,by omega⟩) fun h=> ?_)
 simp only [Bool.or_eq_false_iff,Bool.not_eq_false',decide_eq_true_eq,decide_eq_false_iff_not] at h
 have az:bD ((k:Int) + 1)=((k + 1:Nat):Int):=e3 (by omega)
 simp only [az]
 have aX:bD (((k + 1:Nat):Int) - 1)=(k:Int):=by rw [hQ (by omega) (by omega)]; omega
 rw [aX]
 refine .idx rfl (by omega) (.eq (by unfold mQ; rw [if_neg (by omega)]) (.ret ⟨⟨by simp only; omega,J⟩,?_,?_,?_⟩))
 ·exact Int.tmod_nonneg _ (by omega)
 ·exact Int.tmod_lt_of_pos _ (by omega)
 ·simp only
  have aC:(aA l k).toNat < 256:=(aA l k).isLt
  obtain⟨m,rfl⟩:=Int.eq_ofNat_of_zero_le (show 0≤n by omega)
  have aU:(((aA l k).toNat:Int)).tmod m=(((aA l k).toNat % m:Nat):Int):=(Int.ofNat_tmod _ _).symm
  have aZ:=Nat.mod_le (aA l k).toNat m
  omega
theorem lZ (c:bw) (ar:gK c):bo (j9 c) (fun r=>gK r.2):=by
 unfold j9
 exact .bind (fZ c 2 ar (by omega)) fun y h=> .ret h.1
theorem Ps (c:bw) (ar:gK c):bo (wc c) (fun r=>gK r.2∧r.1.length=3):=by
 unfold wc
 refine .bind (fZ c 4 ar (by omega)) fun ak J=> ?_
 refine .eq (sm J.2.1 (by simpa using J.2.2.1)) (.eq rfl (.eq rfl (.bind (lZ _ J.1) fun aP ab=> ?_)))
 refine .bind (P:=fun m=>gK m.1) (.cond (fun _=> ?_) (fun _=> .ret ab)) fun bO cM=> ?_
 ·refine .bind (fZ _ 2 ab (by omega)) fun cN bn=> .eq rfl (.bind (fZ _ 4 bn.1 (by omega)) fun dm cE=> ?_)
  exact .eq (sm cE.2.1 (by simpa using cE.2.2.1)) (.eq rfl (.eq (h2 _ _ (by simp) (by omega)) (.ret cE.1)))
 ·refine .bind (fZ _ 4 cM (by omega)) fun bc aC=> .eq (sm aC.2.1 (by simpa using aC.2.2.1)) (.eq rfl (.eq rfl ?_))
  refine .bind (fZ _ 3 aC.1 (by omega)) fun bf aU=> ?_
  refine .bind (P:=fun m=>gK m.1) (.cond (fun _=> ?_) (fun _=> .ret aU.1)) fun cD dS=> .ret ⟨dS,rfl⟩
  exact .bind (fZ _ 3 aU.1 (by omega)) fun cb aZ=> .eq rfl (.ret aZ.1)
def n3 (a:dp):Int × List Int:=(a.bF,a.iY.map (·.eO))
def vu:List (Int × List Int):= [(1,[]),(2,[]),(3,[16]),(4,[4]),(5,[4,12]),(6,[])]
theorem Qr {α β:Type} [Inhabited α] (f:α→β) (l:List α) (k:Nat) (x:α) (h:f x=f (aA l k)):(gI l k x).map f=l.map f:=by
 unfold gI
 apply List.ext_getElem
 ·simp
 ·intro i J ab
  simp only [List.length_map,List.length_set] at J
  simp only [List.getElem_map,List.getElem_set]
  split
  ·rename_i e; subst e; rw [h,eB l J]
  ·rfl
theorem Dr {α β:Type} [Inhabited α] (f:α→β) {l:List α} {k:Nat} {x:α} {r:List β} (h:f x=f (aA l k)) (aq:l.map f=r):(gI l k x).map f=r:=(Qr f l k x h).trans aq
theorem O7 (c:bw) (ar:gK c):bo (v9 c) (fun r=>gK r.2∧r.1.map n3=vu):=by
 unfold v9
 refine .eq rfl (.eq rfl (.eq rfl (.eq rfl (.eq rfl (.eq rfl (.eq rfl (.eq rfl (.eq rfl (.eq rfl (.eq rfl (.eq rfl (.eq rfl ?_))))))))))))
 refine .bind (fZ _ 2 ar (by omega)) fun ak J=> .eq rfl (.bind (fZ _ 256 J.1 (by omega)) fun aP ab=> .eq rfl (.eq rfl (.eq rfl ?_)))
 refine .bind (lZ _ ab.1) fun bc aC=> ?_
 refine .bind (P:=fun m=>m.map n3=vu) (.cond (fun _=> ?_) (fun _=> .ret rfl)) fun bO cM=> ?_
 ·exact .idx (k:=2) rfl (by simp) (.eq rfl (.ret (Dr n3 rfl rfl)))
 ·refine .bind (lZ _ aC) fun bf aU=> .bind (P:=fun m=>m.map n3=vu) (.cond (fun _=> ?_) (fun _=> .ret cM)) fun cD dS=> .ret ⟨aU,dS⟩
  have aq:bO.length=6:=by rw [← List.length_map (f:=n3),cM]; rfl
  exact .idx (k:=4) rfl (by omega) (.eq rfl (.ret (Dr n3 rfl cM)))
def rU:cn:= { b7:=ByteArray.mk #[97],ga:=4,cI:=1 }
def tx:cn:= { b7:=ByteArray.mk #[100],ga:=7,cI:=2 }
def Hh:cn:= { b7:=ByteArray.mk #[109],ga:=3,cI:=1 }
def zT:cn:= { b7:=ByteArray.mk #[101],ga:=6,cI:=3 }
def zv:cn:= { b7:=ByteArray.mk #[97],ga:=4,cI:=3 }
def Hi:cn:= { b7:=ByteArray.mk #[98],ga:=5,cI:=1 }
def zU:cn:= { b7:=ByteArray.mk #[102],ga:=8,cI:=4 }
def Hj:cn:= { b7:=ByteArray.mk #[103],ga:=9,cI:=1 }
def l9 (t:bN):Int × List Int × List cn:=(t.bF,t.cX,t.b1)
def ri (b:Bool):List cn:=if b then [tx,Hh] else [tx]
def sK (b:Bool):List cn:=if b then [zT,zv,Hi] else [zT,zv]
def sL (b:Bool):List cn:=if b then [zU,Hj,tx] else [zU]
def p5 (eu fF hk:Bool):List (Int × List Int × List cn):=
 [(1,[1,2,4],[rU]),(2,[1,2,3,4],ri eu),(3,[1,2,3,5,6],sK fF),(4,[1,3,5],sL hk)]
theorem Pt (c:bw) (ar:gK c):bo (wg c) (fun r=>gK r.2∧ ∃ eu fF hk,r.1.map l9=p5 eu fF hk):=by
 unfold wg
 refine .eq rfl (.bind (fZ _ 2 ar (by omega)) fun ak J=> .bind (fZ _ 5 J.1 (by omega)) fun aP ab=> .eq rfl (.eq rfl ?_))
 refine .bind (fZ _ 6 ab.1 (by omega)) fun bc aC=> .bind (lZ _ aC.1) fun bf aU=> ?_
 refine .bind (P:=fun m=>(m.1.bF=2∧m.1.cX= [1,2,3,4])∧ ∃ b,m.2=ri b) (.cond (fun _=> ?_) (fun _=> .ret ⟨⟨rfl,rfl⟩,false,rfl⟩)) fun bO cM=> ?_
 ·exact .eq rfl (.eq (h2 _ _ (by simp) (by omega)) (.ret ⟨⟨rfl,rfl⟩,true,rfl⟩))
 refine .eq rfl (.eq rfl (.bind (fZ _ 6 aU (by omega)) fun cb aZ=> .bind (lZ _ aZ.1) fun cN bn=> ?_))
 refine .bind (P:=fun m=>(m.1.bF=3∧m.1.cX= [1,2,3,5,6])∧ ∃ b,m.2=sK b) (.cond (fun _=> ?_) (fun _=> .ret ⟨⟨rfl,rfl⟩,false,rfl⟩)) fun cD dS=> ?_
 ·exact .eq rfl (.eq (h2 _ _ (by simp) (by omega)) (.ret ⟨⟨rfl,rfl⟩,true,rfl⟩))
 refine .eq rfl (.bind (fZ _ 5 bn (by omega)) fun dm cE=> .bind (lZ _ cE.1) fun et dW=> ?_)
 refine .bind (P:=fun m=>(m.1.bF=4∧m.1.cX= [1,3,5])∧ ∃ b,m.2=sL b) (.cond (fun _=> ?_) (fun _=> .ret ⟨⟨rfl,rfl⟩,false,rfl⟩)) fun fj hh=> ?_
 ·exact .eq rfl (.eq rfl (.eq (h2 _ _ (by simp) (by omega)) (.ret ⟨⟨rfl,rfl⟩,true,rfl⟩)))
 refine .eq rfl (.eq rfl (.eq rfl (.eq rfl (.eq rfl ?_))))
 obtain⟨⟨eg,ei⟩,eu,jn⟩:=cM
 obtain⟨⟨cK,dL⟩,fF,fV⟩:=dS
 obtain⟨⟨d1,d2⟩,hk,d3⟩:=hh
 refine bo.loop 4 (fun k s=>s.1=(k:Int)∧s.2.1.map l9=p5 eu fF hk∧gK s.2.2) (by omega) ⟨rfl,?_,dW⟩ (fun k s av al=> ?_) (fun s al=> ?_)
 ·simp only [List.map_cons,List.map_nil,l9,eg,ei,jn,cK,dL,fV,d1,d2,d3,p5]; rfl
 ·obtain⟨i,gE,zV⟩:=s; obtain⟨az,aX,cP⟩:=al
  simp only at az aX cP; subst az
  refine bo.cond (fun _=> ?_) (fun h=>by simp at h; omega)
  have aq:gE.length=4:=by rw [← List.length_map (f:=l9),aX]; rfl
  refine .idx rfl (by simpa using av) (.bind (fZ _ 3 cP (by omega)) fun fk fl=> .eq (sm fl.2.1 ?_) (.idx rfl (by simp only; omega) (.eq rfl (.ret ⟨e3 (by omega),?_,fl.1⟩))))
  ·have iS:=fl.2.2.1
   have:k=0∨k=1∨k=2∨k=3:=by omega
   rcases this with rfl | rfl | rfl | rfl <;> exact iS
  ·exact Dr l9 rfl aX
 ·obtain⟨i,gE,zV⟩:=s; obtain⟨az,aX,cP⟩:=al
  simp only at az aX cP; subst az
  refine⟨_,rfl,?_⟩
  exact .ret ⟨cP,eu,fF,hk,aX⟩
theorem JP (n:Nat) (h:n≤1000):qe (α:=Bool) 1 (n:Int)=some (List.replicate n default):=by
 unfold qe; rw [if_pos ⟨by omega,by omega,by omega⟩]; simp
theorem PW (c:bw) (gE:List bN) (ar:gK c) (aq:gE.length≤1000) (av:∀ t∈gE,t.b1.length≤1000):bo (wv c gE) (fun r=>gK r.2∧r.1.map (·.bF)= [1,2,7]):=by
 unfold wv
 refine .bind (fZ _ 3 ar (by omega)) fun ak J=> .bind (fZ _ 6 J.1 (by omega)) fun aP ab=> .bind (fZ _ 6 ab.1 (by omega)) fun bc aC=> .bind (fZ _ 4 aC.1 (by omega)) fun bf aU=> ?_
 refine bo.loop gE.length (fun k s=>s.1=(k:Int)∧gK s.2.2.2.1∧s.2.2.1.length≤k∧s.2.2.2.2.2.1.length≤k∧s.2.2.2.2.2.2.2.length≤k∧s.2.1.bF=7∧s.2.2.2.2.1.bF=2∧s.2.2.2.2.2.2.1.bF=1) (by omega) ⟨rfl,aU.1,by simp,by simp,by simp,rfl,rfl,rfl⟩ (fun k s qi al=> ?_) (fun s al=> ?_)
 ·obtain⟨i,m4,ax,zV,iV,a1,tv,br⟩:=s; obtain⟨az,aX,cP,eZ,gk,i1,i2,i3⟩:=al
  simp only at az aX cP eZ gk i1 i2 i3; subst az
  refine bo.cond (fun _=> ?_) (fun h=>by simp at h; omega)
  have LV:(aA gE k).b1.length≤1000:=av _ (by rw [eB gE qi]; exact List.getElem_mem qi)
  refine .idx rfl qi (.eq (JP _ LV) (.eq (JP _ LV) ?_))
  refine bo.loop (aA gE k).b1.length (fun j s=>s.1=(j:Int)∧s.2.1.length=(aA gE k).b1.length∧s.2.2.1.length=(aA gE k).b1.length∧gK s.2.2.2) (by omega) ⟨rfl,by simp,by simp,aX⟩ (fun j s aF al=> ?_) (fun s al=> ?_)
  ·obtain⟨i,eu,fF,V5⟩:=s; obtain⟨f1,f2,f3,f4⟩:=al
   simp only at f1 f2 f3 f4; subst f1
   refine bo.cond (fun _=> ?_) (fun h=>by simp at h; omega)
   exact .bind (fZ _ 4 f4 (by omega)) fun dm cE=> .idx rfl (by simp only; omega) (.idx rfl (by simp only; omega) (.ret ⟨e3 (by omega),by simp [gI,f2],by simp [gI,f3],cE.1⟩))
  ·obtain⟨i,eu,fF,V5⟩:=s; obtain⟨f1,f2,f3,f4⟩:=al
   simp only at f1 f2 f3 f4; subst f1
   refine⟨_,by simp; rfl,?_⟩
   refine .eq rfl (.eq (h2 _ _ (by simp; omega) (by omega)) (.bind (fZ _ 4 f4 (by omega)) fun fk fl=> ?_))
   refine .bind (P:=fun m=>gK m.1∧m.2.2.length≤k + 1∧m.2.1.bF=2) (.cond (fun _=> ?_) (fun _=> .ret ⟨fl.1,by simp only; omega,i2⟩)) fun bO cM=> ?_
   ·exact .bind (fZ _ 4 fl.1 (by omega)) fun kl Co=> .bind (lZ _ Co.1) fun ry Cp=> .eq rfl (.eq (h2 _ _ (by simp; omega) (by omega)) (.ret ⟨Cp,by simp; omega,i2⟩))
   refine .bind (lZ _ cM.1) fun hz iS=> ?_
   refine .bind (P:=fun m=>gK m.1∧m.2.2.length≤k + 1∧m.2.1.bF=7) (.cond (fun _=> ?_) (fun _=> .ret ⟨iS,by simp only; omega,i1⟩)) fun cD dS=> ?_
   ·exact .bind (lZ _ iS) fun iR o7=> .bind (lZ _ o7) fun h7 zw=> .eq rfl (.eq (h2 _ _ (by simp; omega) (by omega)) (.ret ⟨zw,by simp; omega,i1⟩))
   exact .ret ⟨e3 (by omega),dS.1,dS.2.1,cM.2.1,by simp; omega,dS.2.2,cM.2.2,i3⟩
 ·obtain⟨i,m4,ax,zV,iV,a1,tv,br⟩:=s; obtain⟨az,aX,cP,eZ,gk,i1,i2,i3⟩:=al
  simp only at az aX cP eZ gk i1 i2 i3; subst az
  refine⟨_,by simp; rfl,?_⟩
  exact .eq rfl (.eq rfl (.ret ⟨aX,by simp only [List.map_cons,List.map_nil,i1,i2,i3]⟩))
def FD:List (Int × Int):= [(1,16),(2,16),(3,8),(4,4),(5,4),(6,8),(7,32),(8,12),(9,4)]
def yj (f:eS):Int × Int:=(f.bF,f.eO)
structure du (s:a3):Prop where
 fields:s.e2.map yj=FD
 headers:s.kA.length=3
 Kt:s.kU.length=3
 D2:s.cX.map n3=vu
 tables:∃ eu fF hk,s.bH.map l9=p5 eu fF hk
 Lk:s.ix.map (·.bF)= [1,2,7]
theorem du.U6 {s:a3} (h:du s):s.ix.length=3:=by rw [← List.length_map (f:=(·.bF)),h.Lk]; rfl
theorem du.rp {s:a3} (h:du s):s.e2.length=9:=by rw [← List.length_map (f:=yj),h.fields]; rfl
theorem du.jz {s:a3} (h:du s):s.bH.length=4:=by obtain⟨eu,fF,hk,J⟩:=h.tables; rw [← List.length_map (f:=l9),J]; rfl
theorem du.FE {s:a3} (h:du s):s.cX.length=6:=by rw [← List.length_map (f:=n3),h.D2]; rfl
theorem Pu (c:bw) (ar:gK c):bo (tO c) (fun r=>du r.1∧gK r.2):=by
 unfold tO
 refine .bind (fZ _ 8 ar (by omega)) fun ak J=> .bind (fZ _ 30 J.1 (by omega)) fun aP ab=> ?_
 refine .eq rfl (.eq rfl (.eq rfl (.eq rfl (.eq rfl (.eq rfl (.eq rfl (.eq rfl (.eq rfl (.eq rfl (.eq rfl (.eq rfl ?_)))))))))))
 refine .bind (Ps _ ab.1) fun bc aC=> .bind (O7 _ aC.1) fun bf aU=> .bind (Pt _ aU.1) fun cb aZ=> .eq rfl (.eq rfl ?_)
 obtain⟨V6,eu,fF,hk,aZ⟩:=aZ
 have aq:cb.1.length=4:=by rw [← List.length_map (f:=l9),aZ]; rfl
 have TN:∀ t∈cb.1,t.b1.length≤1000:=fun t b9=>by
  have bn:l9 t∈p5 eu fF hk:=aZ ▸ List.mem_map_of_mem b9
  have cE:∀ p∈p5 eu fF hk,p.2.2.length≤1000:=by
   intro p hp
   simp only [p5,List.mem_cons,List.not_mem_nil,or_false] at hp
   rcases hp with rfl | rfl | rfl | rfl
   ·simp
   ·cases eu <;> simp [ri]
   ·cases fF <;> simp [sK]
   ·cases hk <;> simp [sL]
  exact cE _ bn
 refine .bind (PW _ _ V6 (by simp only; omega) TN) fun cN bn=> .eq rfl (.bind (lZ _ bn.1) fun dm cE=> ?_)
 let Inv (s:a3):Prop:=s.e2.map yj=FD∧s.kA.length=3∧s.kU.length=3∧s.cX.map n3=vu∧s.bH=cb.1∧s.ix.map (·.bF)= [1,2,7]
 have hinv:∀ (st:List fa) (M6:List ez) (s:a3),Inv s→Inv { s with lX:=st,mC:=M6 } :=fun st M6 s h=>h
 refine .bind (P:=fun _=>True) (.cond (fun _=> .eq (h2 _ _ (by simp) (by omega)) (.ret trivial)) (fun _=> .ret trivial)) fun bO _=> ?_
 refine .bind (lZ _ cE) fun et dW=> ?_
 refine .bind (P:=fun m=>Inv m.1∧m.2.length≤10) (.cond (fun _=> .eq rfl (.eq (h2 _ _ (by simp) (by omega)) (.ret ⟨⟨rfl,rfl,aC.2,aU.2,rfl,bn.2⟩,by simp⟩))) (fun _=> .ret ⟨⟨rfl,rfl,aC.2,aU.2,rfl,bn.2⟩,by simp⟩)) fun cD dS=> ?_
 refine .bind (lZ _ dW) fun fk fl=> ?_
 refine .dt (P:=fun _=>True) (fun _=>⟨2,qZ (k:=2) (by rw [dS.1.2.2.2.2.1]; omega),trivial⟩) fun a4 _=> ?_
 refine .bind (P:=fun m=>Inv m.1∧m.2.length≤11) (.cond (fun _=> .eq rfl (.eq (h2 _ _ (by have:=dS.2; simp; omega) (by omega)) (.ret ⟨dS.1,by have:=dS.2; simp; omega⟩))) (fun _=> .ret ⟨dS.1,by have:=dS.2; simp only; omega⟩)) fun fj hh=> ?_
 refine .bind (lZ _ fl) fun hz iS=> ?_
 refine .dt (P:=fun _=>True) (fun _=>⟨3,qZ (k:=3) (by rw [hh.1.2.2.2.2.1]; omega),trivial⟩) fun bZ _=> ?_
 refine .bind (P:=fun m=>Inv m.1∧m.2.length≤13) (.cond (fun _=> .eq rfl (.eq rfl (.eq (h2 _ _ (by have:=hh.2; simp; omega) (by omega)) (.ret ⟨hh.1,by have:=hh.2; simp; omega⟩)))) (fun _=> .ret ⟨hh.1,by have:=hh.2; simp only; omega⟩)) fun nJ yX=> ?_
 obtain⟨⟨i1,i2,i3,i4,i5,i6⟩,_⟩:=yX
 exact .eq rfl (.ret ⟨⟨i1,i2,i3,i4,⟨eu,fF,hk,by simp only [i5]; exact aZ⟩,i6⟩,iS⟩)
theorem JQ (x:Int) (n:Int) (J:1≤n) (ab:n≤1000000):bo (qF x n) (fun r=>0≤r∧r < n):=by
 unfold qF
 refine .cond (fun h=>by simp at h; omega) fun _=> ?_
 have hm:∀ y:Int,mQ y n=some (y.tmod n):=fun y=>by unfold mQ; rw [if_neg (by omega)]
 refine .eq (hm _) ?_
 have aC:=Int.tmod_lt_of_pos x (show 0 < n by omega)
 have aU: -n < x.tmod n:=by
  have:=Int.tmod_lt_of_pos (-x) (show 0 < n by omega)
  rw [Int.neg_tmod] at this; omega
 rw [hQ (by omega) (by omega)]
 exact .eq (hm _) (.ret ⟨Int.tmod_nonneg _ (by omega),Int.tmod_lt_of_pos _ (by omega)⟩)
end Go.Proofs.YtmnggbjcnoffeaaGreat
namespace Go.Proofs.YtmnggbjcnoffeaaGreat
open Go Gv
set_option linter.unusedVariables false
set_option linter.unusedSimpArgs false
def b4 (v:ao) (i:Nat):Bool:=if i < 64 then v.bY.getLsbD i else v.dD.getLsbD (i - 64)
theorem Em {v w:ao} (h:∀ j,j < 128→b4 v j=b4 w j):v=w:=by
 cases v with | mk WK WL=>cases w with | mk WM wl=>
 have J:WK=WM:=by
  apply BitVec.eq_of_getLsbD_eq
  intro i al
  have:=h (i + 64) (by omega)
  simpa [b4,show ¬ (i + 64 < 64) by omega] using this
 have ab:WL=wl:=by
  apply BitVec.eq_of_getLsbD_eq
  intro i al
  have:=h i (by omega)
  simpa [b4,al] using this
 rw [J,ab]
theorem so (j:Nat):b4 default j=false:=by
 unfold b4; split <;> exact BitVec.getLsbD_zero
def yQ (x y:ao):ao:= { dD:=x.dD &&& y.dD,bY:=x.bY &&& y.bY }
def Cq (x y:ao):ao:= { dD:=x.dD ||| y.dD,bY:=x.bY ||| y.bY }
def FF (x y:ao):ao:= { dD:=x.dD ^^^ y.dD,bY:=x.bY ^^^ y.bY }
@[simp] theorem D3 (x y:ao) (j:Nat):b4 (yQ x y) j=(b4 x j && b4 y j):=by unfold b4 yQ; split <;> simp
@[simp] theorem Ku (x y:ao) (j:Nat):b4 (Cq x y) j=(b4 x j || b4 y j):=by unfold b4 Cq; split <;> simp
@[simp] theorem Rf (x y:ao) (j:Nat):b4 (FF x y) j=(b4 x j ^^ b4 y j):=by unfold b4 FF; split <;> simp
theorem and_eq (x y:ao):my x y=some (yQ x y):=rfl
theorem or_eq (x y:ao):mz x y=some (Cq x y):=rfl
theorem xor_eq (x y:ao):qH x y=some (FF x y):=rfl
end Go.Proofs.YtmnggbjcnoffeaaGreat
namespace Go.Proofs.YtmnggbjcnoffeaaGreat
open Go Gv
set_option linter.unusedVariables false
set_option linter.unusedSimpArgs false
theorem Ji (v:ao) (n:Nat) (aO:n < 2 ^ 62):bo (uf v n) (fun r=> ∀ j,j < 128→b4 r j=b4 v (j + n)):=by
 unfold uf
 refine .cond (fun h=> .ret fun j aF=> ?_) (fun h=> .cond (fun cJ=> .eq rfl (.ret fun j aF=> ?_)) (fun cJ=> .eq rfl (.eq rfl (.ret fun j aF=> ?_))))
 ·have:n=0:=by simp at h; omega
  simp [this]
 ·simp only [decide_eq_true_eq] at cJ
  have az:bD ((n:Int) - 64)=((n - 64:Nat):Int):=by rw [hQ (by omega) (by omega)]; omega
  rw [az,ng (by omega)]
  unfold b4
  by_cases aF:j < 64
  ·rw [if_pos aF,if_neg (by omega)]
   simp only [BitVec.getLsbD_ushiftRight]
   congr 1; omega
  ·rw [if_neg aF,if_neg (by omega)]
   rw [show(default:ao).dD=0#64 from rfl,BitVec.getLsbD_zero,BitVec.getLsbD_of_ge _ _ (by omega)]
 ·simp only [decide_eq_false_iff_not] at h cJ
  have az:bD (64 - (n:Int))=((64 - n:Nat):Int):=by rw [hQ (by omega) (by omega)]; omega
  rw [az,ng (by omega),ng (by omega)]
  unfold b4
  by_cases aF:j < 64
  ·rw [if_pos aF]
   simp only [BitVec.getLsbD_or,BitVec.getLsbD_ushiftRight,BitVec.getLsbD_shiftLeft]
   by_cases aC:j + n < 64
   ·rw [if_pos aC]
    have:j < 64 - n:=by omega
    simp [this,Nat.add_comm]
   ·rw [if_neg aC,BitVec.getLsbD_of_ge _ (n + j) (by omega)]
    have: ¬ (j < 64 - n):=by omega
    simp only [aF,this,decide_true,decide_false,Bool.true_and,Bool.not_false,Bool.false_or]
    congr 1; omega
  ·rw [if_neg aF,if_neg (by omega)]
   simp only [BitVec.getLsbD_ushiftRight]
   congr 1; omega
theorem Rg (v:ao) (n:Nat) (aO:n < 2 ^ 62):bo (wW v n) (fun r=> ∀ j,j < 128→b4 r j=(decide (n≤j) && b4 v (j - n))):=by
 unfold wW
 refine .cond (fun h=> .ret fun j aF=> ?_) (fun h=> .cond (fun cJ=> .eq rfl (.ret fun j aF=> ?_)) (fun cJ=> .eq rfl (.eq rfl (.ret fun j aF=> ?_))))
 ·have:n=0:=by simp at h; omega
  simp [this]
 ·simp only [decide_eq_true_eq] at cJ
  have az:bD ((n:Int) - 64)=((n - 64:Nat):Int):=by rw [hQ (by omega) (by omega)]; omega
  rw [az,ng (by omega)]
  unfold b4
  by_cases nG:j < 64
  ·rw [if_pos nG,show(default:ao).bY=0#64 from rfl,BitVec.getLsbD_zero]
   have: ¬ (n≤j):=by omega
   simp [this]
  ·rw [if_neg nG]
   simp only [BitVec.getLsbD_shiftLeft]
   by_cases aC:n≤j
   ·rw [if_pos (by omega)]
    have aU: ¬ (j - 64 < n - 64):=by omega
    have aZ:j - 64 < 64:=by omega
    simp only [aC,aU,aZ,decide_true,decide_false,Bool.true_and,Bool.not_false]
    congr 1; omega
   ·have aU:j - 64 < n - 64:=by omega
    simp [aC,aU]
 ·simp only [decide_eq_false_iff_not] at h cJ
  have az:bD (64 - (n:Int))=((64 - n:Nat):Int):=by rw [hQ (by omega) (by omega)]; omega
  rw [az,ng (by omega),ng (by omega)]
  unfold b4
  by_cases nG:j < 64
  ·rw [if_pos nG]
   simp only [BitVec.getLsbD_shiftLeft]
   by_cases aC:n≤j
   ·rw [if_pos (by omega)]
    have aU: ¬ (j < n):=by omega
    simp [aC,aU,nG]
   ·have aU:j < n:=by omega
    simp [aC,aU]
  ·rw [if_neg nG]
   simp only [BitVec.getLsbD_or,BitVec.getLsbD_ushiftRight,BitVec.getLsbD_shiftLeft]
   have aC:n≤j:=by omega
   by_cases aU:j - 64 < n
   ·rw [if_pos (by omega)]
    simp only [aC,aU,decide_true,Bool.not_true,Bool.and_false,Bool.false_and,Bool.false_or,Bool.true_and]
    congr 1; omega
   ·rw [if_neg (by omega),BitVec.getLsbD_of_ge v.bY _ (by omega)]
    have aZ:j - 64 < 64:=by omega
    simp only [aC,aU,aZ,decide_true,decide_false,Bool.not_false,Bool.true_and,Bool.or_false]
    congr 1; omega
theorem En (v:ao) (i:Int):bo (ps v i) (fun r=>r=(decide (0≤i∧i < 128) && b4 v i.toNat)):=by
 unfold ps
 refine .dt (P:=fun r=> ∀ j,j < 128→b4 r j=b4 v (j + i.toNat)) (fun h=> ?_) fun y a9=> .eq rfl (.ret ?_)
 ·simp at h
  obtain⟨n,rfl⟩:=Int.eq_ofNat_of_zero_le h.1
  exact Ji v n (by omega)
 ·by_cases h:0≤i∧i < 128
  ·have J:(decide (i≥0) && decide (i < 128))=true:=by simp; omega
   rw [J,Rc]
   have:=a9 J 0 (by omega)
   rw [show b4 y 0=y.bY.getLsbD 0 from rfl,Nat.zero_add] at this
   rw [this,decide_eq_true h]
  ·have J:(decide (i≥0) && decide (i < 128))=false:=by simp; omega
   simp [J,h]
def bg (w:Vector ao 4) (i:Nat):Bool:=b4 (cf w (i / 128)) (127 - i % 128)
theorem uV {v w:Vector ao 4} (h:∀ i,i < 512→bg v i=bg w i):v=w:=by
 refine DE fun k av=>Em fun j aF=> ?_
 have:=h (128 * k + (127 - j)) (by omega)
 unfold bg at this
 rw [show(128 * k + (127 - j)) / 128=k by omega,show 127 - (128 * k + (127 - j)) % 128=j by omega] at this
 exact this
theorem Jj (n:Nat) (aO:n < 512):ug (n:Int)=some (((n / 128:Nat):Int),((127 - n % 128:Nat):Int)):=by
 unfold ug sW mQ
 have J:(n:Int).tdiv 128=((n / 128:Nat):Int):=by rw [Int.tdiv_eq_ediv_of_nonneg (by omega)]; omega
 have ab:(n:Int).tmod 128=((n % 128:Nat):Int):=by rw [Int.tmod_eq_emod_of_nonneg (by omega)]; omega
 simp only [J,ab,if_neg (show ¬ ((128:Int)=0) by omega),Option.bind_some]
 rw [hQ (by omega) (by omega),hQ (by omega) (by omega)]
 congr 2; omega
theorem has_eq (w:Vector ao 4) (n:Nat) (aO:n < 512):bo (w3 w n) (fun r=>r=bg w n):=by
 unfold w3
 refine .eq (Jj n aO) (.idx rfl (show n / 128 < 4 by omega) ((En _ _).bind fun y a9=> .ret ?_))
 rw [a9]
 have:(0:Int)≤ ((127 - n % 128:Nat):Int)∧ ((127 - n % 128:Nat):Int) < 128:=by omega
 simp [this,bg]
theorem D4 (w:Vector ao 4) {n:Nat} (aO:n < 512) (x:ao) (h:∀ j,j < 128→b4 x j=(b4 (cf w (n / 128)) j || decide (j=127 - n % 128))) (m:Nat) (hm:m < 512):
 bg (c1 w (n / 128) x) m=(bg w m || decide (m=n)):=by
 unfold bg
 rw [gv _ _ (show n / 128 < 4 by omega)]
 by_cases hq:m / 128=n / 128
 ·rw [if_pos hq,h _ (by omega),hq]
  congr 1
  rw [decide_eq_decide]; omega
 ·rw [if_neg hq]
  have:m≠n:=by intro h; subst h; exact hq rfl
  simp [this]
theorem RW (x:a2) (n:Nat) (aO:n < 512) (b:Bool):bo (se x n b) (fun c=>
 (bg x.bK n=true→c=x)∧ (bg x.bK n=false→ (∀ m,m < 512→bg c.bK m=(bg x.bK m || decide (m=n)))∧ (∀ m,m < 512→bg c.bR m=(bg x.bR m || (b && decide (m=n)))))):=by
 unfold se
 have bJ:(decide ((n:Int) < 0) || decide ((n:Int)≥512))=false:=by simp; omega
 rw [bJ]
 refine .dt (P:=fun r=>r=bg x.bK n) (fun _=>has_eq _ _ aO) fun y a9=> .cond (fun h=> .ret ⟨fun _=>rfl,fun cJ=> ?_⟩) (fun h=> ?_)
 ·rw [a9 rfl,cJ] at h; simp at h
 have hm:bg x.bK n=false:=by simpa [a9 rfl] using h
 refine .eq (Jj n aO) (.eq rfl ((Rg _ (127 - n % 128) (by omega)).bind fun bf fh=> ?_))
 have aU:∀ (w:ao) j,j < 128→b4 (Cq w bf) j=(b4 w j || decide (j=127 - n % 128)):=by
  intro w j aF
  rw [Ku,fh j aF]
  congr 1
  by_cases hq:j=127 - n % 128
  ·subst hq; simp [b4]
  ·by_cases nF:127 - n % 128≤j
   ·have dR:b4 { (default:ao) with bY:=1#64 } (j - (127 - n % 128))=false:=by
     unfold b4
     split
     ·simp only [BitVec.getLsbD_one]; simp; omega
     ·rw [show(default:ao).dD=0#64 from rfl]; exact BitVec.getLsbD_zero
    rw [dR]; simp [hq]
   ·simp [hq,nF]
 have av:n / 128 < 4:=by omega
 refine .idx rfl av ?_
 refine .eq (or_eq _ _) ?_
 refine .idx rfl av ?_
 refine .bind (P:=fun c=>(∀ m,m < 512→bg c.bK m=(bg x.bK m || decide (m=n)))∧ (∀ m,m < 512→bg c.bR m=(bg x.bR m || (b && decide (m=n))))) (.cond (fun hb=> ?_) (fun hb=> ?_)) fun c ar=> ?_
 ·refine .idx rfl av ?_
  first
  | refine .eq (or_eq _ _) ?_
  | refine .eq rfl (.eq (or_eq _ _) ?_)
  refine .idx rfl av ?_
  refine .eq rfl ?_
  refine .ret ⟨fun m hm=> ?_,fun m hm=> ?_⟩
  ·exact D4 _ aO _ (aU _) m hm
  ·rw [hb,Bool.true_and]; exact D4 _ aO _ (aU _) m hm
 ·refine .ret ⟨fun m hm=> ?_,fun m hm=> ?_⟩
  ·exact D4 _ aO _ (aU _) m hm
  ·simp [hb]
 ·refine .ret ⟨fun h=> ?_,fun _=>ar⟩
  rw [hm] at h; cases h
def cell (val mask:Vector ao 4) (i:Nat):BitVec 8:=if bg mask i then(if bg val i then 1#8 else 0#8) else 2#8
end Go.Proofs.YtmnggbjcnoffeaaGreat
namespace Go.Proofs.YtmnggbjcnoffeaaGreat
open Go Gv
set_option linter.unusedVariables false
set_option linter.unusedSimpArgs false
set_option maxRecDepth 100000
theorem w1 {f:ao→ao→Option ao} {g:Bool→Bool→Bool} (a8:∀ x y,bo (f x y) (fun r=> ∀ j,j < 128→b4 r j=g (b4 x j) (b4 y j))) (a b:Vector ao 4):
 bo (po a b f) (fun r=> ∀ i,i < 512→bg r i=g (bg a i) (bg b i)):=by
 unfold po
 refine bo.loop 4 (fun k s=>s.1=k∧ ∀ j,j < 4→ ∀ i,i < 128→b4 (cf s.2 j) i=if j < k then g (b4 (cf a j) i) (b4 (cf b j) i) else b4 (cf a j) i) (by omega)
  ⟨rfl,fun j aF i al=>by simp⟩ (fun k s av al=> ?_) (fun s al=> ?_)
 ·obtain⟨i,v⟩:=s; obtain⟨J,ab⟩:=al
  simp only at J ab; subst J
  refine bo.cond (fun _=> ?_) (fun h=>by simp at h; omega)
  refine .idx rfl av (.idx rfl av ((a8 _ _).bind fun y a9=> .idx rfl av (.ret ⟨e3 (by omega),fun j aF i al=> ?_⟩)))
  simp only [gv _ _ av]
  by_cases FY:j=k
  ·subst FY; rw [if_pos rfl,if_pos (by omega),a9 i al,ab j aF i al,if_neg (by omega)]
  ·rw [if_neg FY,ab j aF i al]
   have aU:(j < k + 1)↔j < k:=by omega
   simp [aU]
 ·obtain⟨i,v⟩:=s; obtain⟨J,ab⟩:=al
  simp only at J ab; subst J
  refine⟨_,rfl,.ret fun m hm=> ?_⟩
  unfold bg
  rw [ab _ (by omega) _ (by omega),if_pos (by omega)]
theorem sq (x y:ao):bo (my x y) (fun r=> ∀ j,j < 128→b4 r j=(b4 x j && b4 y j)):=⟨_,and_eq x y,fun j _=>D3 x y j⟩
theorem sy (x y:ao):bo (mz x y) (fun r=> ∀ j,j < 128→b4 r j=(b4 x j || b4 y j)):=⟨_,or_eq x y,fun j _=>Ku x y j⟩
theorem A5 (x y:ao):bo (qH x y) (fun r=> ∀ j,j < 128→b4 r j=(b4 x j ^^ b4 y j)):=⟨_,xor_eq x y,fun j _=>Rf x y j⟩
theorem A6 (n:Int):bo (qE n) (fun r=> ∀ j,j < 128→b4 r j=decide ((j:Int) < n)):=by
 unfold qE uc
 refine .eq rfl (.eq rfl ?_)
 have hm:bD (128 - min (max 0 n) 128)=((128 - min (max 0 n) 128).toNat:Int):=by rw [hQ (by omega) (by omega)]; omega
 rw [hm]
 refine(Ji _ _ (by omega)).bind fun r aS=> .ret fun j aF=> ?_
 rw [aS j aF]
 have jy:∀ i,b4 { dD:=18446744073709551615#64,bY:=18446744073709551615#64 } i=decide (i < 128):=by
  intro i
  have bm:(18446744073709551615#64)=BitVec.allOnes 64:=by rfl
  unfold b4
  simp only [bm,BitVec.getLsbD_allOnes]
  by_cases h:i < 64
  ·simp [h]; omega
  ·simp [h]; omega
 rw [jy,decide_eq_decide]; omega
theorem Kv (x:ao):bo (um x 128) (fun r=> ∀ j,j < 128→b4 r j= !b4 x j):=by
 unfold um
 refine(A6 128).bind fun a bh=> .eq (and_eq _ _) (.ret fun j aF=> ?_)
 rw [D3,bh j aF]
 have:((j:Int) < 128):=by omega
 unfold b4
 by_cases h:j < 64
 ·simp [h,this]
 ·simp [h,this]; omega
def can (c:a2):Prop:= ∀ i,i < 512→bg c.bR i=true→bg c.bK i=true
theorem AP (i:Nat):bg default i=false:=by unfold bg; rw [C7]; exact so _
theorem eq_zero_iff {w:Vector ao 4} :w=default↔ ∀ i,i < 512→bg w i=false:=
 ⟨fun h i _=>by rw [h]; exact AP i,fun h=>uV fun i al=>by rw [h i al,AP]⟩
def pV (x y:a2):Prop:= ∀ i,i < 512→bg x.bK i=true→bg y.bK i=true→bg x.bR i=bg y.bR i
theorem JR (x y:a2):bo (uk x y) (fun r=>(r.2=true↔pV x y)∧ (r.2=false→r.1=default)∧
 (r.2=true→ (∀ i,i < 512→bg r.1.bR i=(bg x.bR i || bg y.bR i))∧ ∀ i,i < 512→bg r.1.bK i=(bg x.bK i || bg y.bK i))):=by
 unfold uk
 refine(w1 sq _ _).bind fun ak J=>(w1 A5 _ _).bind fun aP ab=>(w1 sq _ _).bind fun bc aC=> ?_
 have key:bc=default↔pV x y:=by
  rw [eq_zero_iff]
  constructor
  ·intro h i al an a9
   have:=h i al
   rw [aC i al,J i al,ab i al,an,a9] at this
   simpa using this
  ·intro h i al
   rw [aC i al,J i al,ab i al]
   cases an:bg x.bK i
   ·simp
   ·cases a9:bg y.bK i
    ·simp
    ·simp [h i al an a9]
 refine .cond (fun h=> .ret ?_) (fun h=> ?_)
 ·have: ¬ pV x y:=fun bh=>by rw [key.2 bh] at h; simp at h
  simp [this]
 ·have bh:pV x y:=key.1 (by simpa using h)
  exact(w1 sy _ _).bind fun bf aU=>(w1 sy _ _).bind fun cb aZ=> .ret (by simp [bh]; exact⟨aU,aZ⟩)
def lL (c:a2) (q:Vector ao 4):Bool:=decide (∀ i:Fin 512,(bg q i.1 && bg c.bK i.1)=bg c.bR i.1)
theorem D5 {c:a2} {q:Vector ao 4} :lL c q=true↔ ∀ i,i < 512→ (bg q i && bg c.bK i)=bg c.bR i:=by
 unfold lL
 rw [decide_eq_true_iff]
 exact⟨fun h i al=>h ⟨i,al⟩,fun h i=>h i.1 i.2⟩
theorem RX {c d:a2} {q:Vector ao 4} {k:Nat} {b:Bool} (av:k < 512) (J:bg c.bK k=false) (ab:bg c.bR k=false)
 (hm:∀ m,m < 512→bg d.bK m=(bg c.bK m || decide (m=k))) (aY:∀ m,m < 512→bg d.bR m=(bg c.bR m || (b && decide (m=k)))):lL d q=(lL c q && (bg q k ==b)):=by
 rw [Bool.eq_iff_iff,Bool.and_eq_true,D5,D5,beq_iff_eq]
 constructor
 ·intro h
  refine⟨fun i al=> ?_,?_⟩
  ·by_cases jj:i=k
   ·subst jj; simp [J,ab]
   ·have:=h i al
    rw [hm i al,aY i al] at this
    simpa [jj] using this
  ·have:=h k av
   rw [hm k av,aY k av] at this
   simpa [J,ab] using this
 ·rintro ⟨h,hq⟩ i al
  rw [hm i al,aY i al]
  by_cases jj:i=k
  ·subst jj; simp [ab,hq]
  ·simpa [jj] using h i al
end Go.Proofs.YtmnggbjcnoffeaaGreat
namespace Go.Proofs.YtmnggbjcnoffeaaGreat
open Go Gv
set_option linter.unusedVariables false
set_option linter.unusedSimpArgs false
set_option maxRecDepth 100000
def val (w:Nat):Nat→ (Nat→Nat)→Nat
 | 0,_=>0
 | n + 1,d=>d 0 + 2 ^ w * val w n (fun k=>d (k + 1))
theorem Qs {w n:Nat} {d:Nat→Nat} :val w (n + 1) d=val w n d + 2 ^ (w * n) * d n:=by
 induction n generalizing d with
 | zero=>simp [val]
 | succ n bI=>
   rw [val,bI,val,Nat.mul_add,← Nat.mul_assoc,← Nat.pow_add,show w + w * n=w * (n + 1) by rw [Nat.mul_add]; omega]
   omega
def o8 (n:Nat) (p:Nat→Bool):Nat:=val 0 n (fun i=>(p i).toNat)
theorem xk {n:Nat} {p:Nat→Bool} :o8 (n + 1) p=o8 n p + (p n).toNat:=by unfold o8; rw [Qs]; simp
theorem RY {n:Nat} {p:Nat→Bool} :o8 n p≤n:=by
 induction n with
 | zero=>simp [o8,val]
 | succ n bI=>rw [xk]; have:=Bool.toNat_le (p n); omega
end Go.Proofs.YtmnggbjcnoffeaaGreat
namespace Go.Proofs.YtmnggbjcnoffeaaGreat
open Go Gv
set_option linter.unusedVariables false
set_option linter.unusedSimpArgs false
set_option maxRecDepth 100000
end Go.Proofs.YtmnggbjcnoffeaaGreat
namespace Go.Proofs.YtmnggbjcnoffeaaGreat
open Go Gv
set_option linter.unusedVariables false
set_option linter.unusedSimpArgs false
set_option maxRecDepth 100000
end Go.Proofs.YtmnggbjcnoffeaaGreat
namespace Go.Proofs.YtmnggbjcnoffeaaGreat
open Go Gv
set_option linter.unusedVariables false
set_option linter.unusedSimpArgs false
set_option maxRecDepth 100000
theorem PX (x y:a2) (an:can x) (a9:can y):bo (wU x y) (fun r=>r=true↔ ∀ i,i < 512→bg y.bK i=true→bg x.bK i=true∧bg x.bR i=bg y.bR i):=by
 unfold wU
 refine(JR x y).bind fun m ⟨J,ab,aC⟩=> .ret ?_
 rw [Bool.and_eq_true,decide_eq_true_iff]
 constructor
 ·rintro ⟨b9,he⟩ i al hm
  obtain⟨aU,aZ⟩:=aC b9
  rw [he] at aU aZ
  have zx:bg x.bK i=true:=by rw [aZ i al,hm]; simp
  exact⟨zx,J.1 b9 i al zx hm⟩
 ·intro h
  have bh:pV x y:=fun i al _ hm=>(h i al hm).2
  have b9:=J.2 bh
  obtain⟨aU,aZ⟩:=aC b9
  refine⟨b9,?_⟩
  have az:m.1.bR=x.bR:=uV fun i al=>by
   rw [aU i al]
   cases aY:bg y.bR i
   ·simp
   ·simp [(h i al (a9 i al aY)).2,aY]
  have aX:m.1.bK=x.bK:=uV fun i al=>by
   rw [aZ i al]
   cases aY:bg y.bK i
   ·simp
   ·simp [(h i al aY).1]
  cases hm:m.1; cases x; simp_all
end Go.Proofs.YtmnggbjcnoffeaaGreat
namespace Go.Proofs.YtmnggbjcnoffeaaGreat
open Go Gv
set_option linter.unusedVariables false
set_option linter.unusedSimpArgs false
set_option maxRecDepth 100000
def p6:List Int:= [16,16,8,4,4,8,32,12,4]
theorem du.tn {s:a3} (h:du s) {k:Nat} (av:k < 9):(aA s.e2 k).bF=(k:Int) + 1∧ (aA s.e2 k).eO=aA p6 k:=by
 have J:=xj yj (l:=s.e2) (k:=k) (by rw [h.rp]; exact av)
 rw [h.fields] at J
 have ab:aA FD k=((k:Int) + 1,aA p6 k):=by
  have:k=0∨k=1∨k=2∨k=3∨k=4∨k=5∨k=6∨k=7∨k=8:=by omega
  rcases this with rfl | rfl | rfl | rfl | rfl | rfl | rfl | rfl | rfl <;> rfl
 rw [ab] at J
 simp only [yj,Prod.mk.injEq] at J
 exact⟨J.1.symm,J.2.symm⟩
def rq:List (List Int):= [[],[],[16],[4],[4,12],[]]
theorem du.act {s:a3} (h:du s) {k:Nat} (av:k < 6):(aA s.cX k).bF=(k:Int) + 1∧ (aA s.cX k).iY.map (·.eO)=aA rq k:=by
 have J:=xj n3 (l:=s.cX) (k:=k) (by rw [h.FE]; exact av)
 rw [h.D2] at J
 have ab:aA vu k=((k:Int) + 1,aA rq k):=by
  have:k=0∨k=1∨k=2∨k=3∨k=4∨k=5:=by omega
  rcases this with rfl | rfl | rfl | rfl | rfl | rfl <;> rfl
 rw [ab] at J
 simp only [n3,Prod.mk.injEq] at J
 exact⟨J.1.symm,J.2.symm⟩
def k0 (key:cn):Prop:= ∃ j:Nat,j < 9∧key.ga=(j:Int) + 1∧1≤key.cI∧key.cI≤4∧4≤aA p6 j∧aA p6 j≤32∧ (key.cI=2→j=6)
def lR (key:cn):Int:=aA p6 (key.ga - 1).toNat
theorem du.iT {s:a3} (h:du s) {k:Nat} (av:k < 4):(aA s.bH k).bF=(k:Int) + 1∧
 (1≤ (aA s.bH k).b1.length∧ (aA s.bH k).b1.length≤3)∧ (∀ key∈ (aA s.bH k).b1,k0 key)∧
 (1≤ (aA s.bH k).cX.length∧ (aA s.bH k).cX.length≤5)∧ (∀ a∈ (aA s.bH k).cX,1≤a∧a≤6):=by
 obtain⟨eu,fF,hk,b9⟩:=h.tables
 have J:=xj l9 (l:=s.bH) (k:=k) (by rw [h.jz]; exact av)
 rw [b9] at J
 have ab:∀ p:Int × List Int × List cn,p=l9 (aA s.bH k)→p.1=(k:Int) + 1→ (1≤p.2.2.length∧p.2.2.length≤3)→ (∀ key∈p.2.2,k0 key)→
  (1≤p.2.1.length∧p.2.1.length≤5)→ (∀ a∈p.2.1,1≤a∧a≤6)→ (aA s.bH k).bF=(k:Int) + 1∧
  (1≤ (aA s.bH k).b1.length∧ (aA s.bH k).b1.length≤3)∧ (∀ key∈ (aA s.bH k).b1,k0 key)∧
  (1≤ (aA s.bH k).cX.length∧ (aA s.bH k).cX.length≤5)∧ (∀ a∈ (aA s.bH k).cX,1≤a∧a≤6):=by
  rintro p rfl a b c d e
  exact⟨a,b,c,d,e⟩
 have fu:(1≤ ([1,2,4]:List Int).length∧ ([1,2,4]:List Int).length≤5)∧ ∀ a∈ ([1,2,4]:List Int),1≤a∧a≤6:=by decide
 have eg:(1≤ ([1,2,3,4]:List Int).length∧ ([1,2,3,4]:List Int).length≤5)∧ ∀ a∈ ([1,2,3,4]:List Int),1≤a∧a≤6:=by decide
 have ei:(1≤ ([1,2,3,5,6]:List Int).length∧ ([1,2,3,5,6]:List Int).length≤5)∧ ∀ a∈ ([1,2,3,5,6]:List Int),1≤a∧a≤6:=by decide
 have jn:(1≤ ([1,3,5]:List Int).length∧ ([1,3,5]:List Int).length≤5)∧ ∀ a∈ ([1,3,5]:List Int),1≤a∧a≤6:=by decide
 have TO:k0 rU:=⟨3,by decide,rfl,by decide,by decide,by decide,by decide,by decide⟩
 have Kw:k0 zv:=⟨3,by decide,rfl,by decide,by decide,by decide,by decide,by decide⟩
 have TP:k0 Hi:=⟨4,by decide,rfl,by decide,by decide,by decide,by decide,by decide⟩
 have E6:k0 tx:=⟨6,by decide,rfl,by decide,by decide,by decide,by decide,by decide⟩
 have TQ:k0 Hh:=⟨2,by decide,rfl,by decide,by decide,by decide,by decide,by decide⟩
 have Ll:k0 zT:=⟨5,by decide,rfl,by decide,by decide,by decide,by decide,by decide⟩
 have Lm:k0 zU:=⟨7,by decide,rfl,by decide,by decide,by decide,by decide,by decide⟩
 have TR:k0 Hj:=⟨8,by decide,rfl,by decide,by decide,by decide,by decide,by decide⟩
 have:k=0∨k=1∨k=2∨k=3:=by omega
 rcases this with rfl | rfl | rfl | rfl
 ·refine ab _ J rfl (show 1≤ [rU].length∧ [rU].length≤3 by decide) ?_ fu.1 fu.2
  intro key hU
  rcases List.mem_singleton.1 hU with rfl
  exact TO
 ·refine ab _ J rfl ?_ ?_ eg.1 eg.2
  ·show 1≤ (ri eu).length∧ (ri eu).length≤3
   cases eu <;> decide
  ·intro key hU
   replace hU:key∈ri eu:=hU
   cases eu <;> simp only [ri,List.mem_cons,List.not_mem_nil,or_false,if_true,if_false,Bool.false_eq_true] at hU
   ·subst hU; exact E6
   ·rcases hU with rfl | rfl; exact E6; exact TQ
 ·refine ab _ J rfl ?_ ?_ ei.1 ei.2
  ·show 1≤ (sK fF).length∧ (sK fF).length≤3
   cases fF <;> decide
  ·intro key hU
   replace hU:key∈sK fF:=hU
   cases fF <;> simp only [sK,List.mem_cons,List.not_mem_nil,or_false,if_true,if_false,Bool.false_eq_true] at hU
   ·rcases hU with rfl | rfl; exact Ll; exact Kw
   ·rcases hU with rfl | rfl | rfl; exact Ll; exact Kw; exact TP
 ·refine ab _ J rfl ?_ ?_ jn.1 jn.2
  ·show 1≤ (sL hk).length∧ (sL hk).length≤3
   cases hk <;> decide
  ·intro key hU
   replace hU:key∈sL hk:=hU
   cases hk <;> simp only [sL,List.mem_cons,List.not_mem_nil,or_false,if_true,if_false,Bool.false_eq_true] at hU
   ·subst hU; exact Lm
   ·rcases hU with rfl | rfl | rfl; exact Lm; exact TR; exact E6
theorem Pv {s:a3} (h:du s) {j:Nat} (aF:j < 9):bo (wN s ((j:Int) + 1)) (fun r=>r=aA p6 j):=by
 unfold wN
 have aq:=h.rp
 refine bo.loop j (fun k s=>s=(k:Int)) (by omega) rfl (fun k i av al=> ?_) (fun i al=> ?_)
 ·subst al
  refine bo.cond (fun _=> ?_) (fun h=>by simp at h; omega)
  refine .idx rfl (by omega) (.cond (fun ar=> ?_) (fun ar=> .ret (e3 (by omega))))
  have:=(h.tn (show k < 9 by omega)).1
  simp only [this,beq_iff_eq] at ar
  omega
 ·subst al
  have J:decide ((j:Int) < (s.e2.length:Int))=true:=by simp; omega
  have ab:((aA s.e2 j).bF ==(j:Int) + 1)=true:=by rw [(h.tn aF).1]; simp
  rw [J]
  simp only [cond_true]
  rw [qZ (by omega)]
  simp only [Option.bind_some,ab,cond_true]
  exact⟨_,rfl,.ret (h.tn aF).2⟩
theorem O8 {s:a3} (h:du s) {j:Nat} (aF:j < 6):bo (wG s ((j:Int) + 1)) (fun r=>r=aA s.cX j):=by
 unfold wG
 have aq:=h.FE
 refine bo.loop j (fun k s=>s=(k:Int)) (by omega) rfl (fun k i av al=> ?_) (fun i al=> ?_)
 ·subst al
  refine bo.cond (fun _=> ?_) (fun h=>by simp at h; omega)
  refine .idx rfl (by omega) (.cond (fun ar=> ?_) (fun ar=> .ret (e3 (by omega))))
  have:=(h.act (show k < 6 by omega)).1
  simp only [this,beq_iff_eq] at ar
  omega
 ·subst al
  have J:decide ((j:Int) < (s.cX.length:Int))=true:=by simp; omega
  have ab:((aA s.cX j).bF ==(j:Int) + 1)=true:=by rw [(h.act aF).1]; simp
  rw [J]
  simp only [cond_true]
  rw [qZ (by omega)]
  simp only [Option.bind_some,ab,cond_true]
  exact⟨_,rfl,.ret rfl⟩
theorem xl {n:Nat} (aO:n < 64) (j:Nat):(((1#64) <<< n) - 1#64).getLsbD j=decide (j < n):=by
 have J:(((1#64) <<< n) - 1#64).toNat=2 ^ n - 1:=by
  have ab:((1#64) <<< n).toNat=2 ^ n:=by
   rw [BitVec.toNat_shiftLeft,BitVec.toNat_ofNat,Nat.shiftLeft_eq]
   have:=Nat.pow_lt_pow_right (show 1 < 2 by omega) aO
   rw [show(1 % 2 ^ 64:Nat)=1 from rfl,Nat.one_mul]
   exact Nat.mod_eq_of_lt this
  have aC:1≤2 ^ n:=Nat.one_le_two_pow
  have aU:=Nat.pow_lt_pow_right (show 1 < 2 by omega) aO
  rw [BitVec.toNat_sub,ab]
  simp only [BitVec.toNat_ofNat]
  omega
 rw [← BitVec.testBit_toNat,J,Nat.testBit_two_pow_sub_one]
theorem Eo (x:ao) (n:Int) (bJ:0≤n) (J:n < 1000):bo (sb x n) (fun r=> ∀ j,j < 128→b4 r j=(b4 x j && decide ((j:Int) < n))):=by
 unfold sb
 obtain⟨m,rfl⟩:=Int.eq_ofNat_of_zero_le bJ
 refine .cond (fun h=> .ret fun j aF=> ?_) fun h=> .cond (fun cJ=> .eq rfl (.ret fun j aF=> ?_)) fun cJ=> .cond (fun GC=> .ret fun j aF=> ?_) fun GC=> .eq rfl (.eq rfl (.ret fun j aF=> ?_))
 ·simp only [decide_eq_true_eq] at h
  have:decide ((j:Int) < (m:Int))=true:=by simp; omega
  rw [this,Bool.and_true]
 ·simp only [decide_eq_true_eq,decide_eq_false_iff_not] at h cJ
  have e:bD ((m:Int) - 64)=((m - 64:Nat):Int):=by rw [hQ (by omega) (by omega)]; omega
  simp only [b4,e,ng (show m - 64 < 2 ^ 64 by omega),BitVec.getLsbD_and,xl (show m - 64 < 64 by omega)]
  split
  ·have:decide ((j:Int) < (m:Int))=true:=by simp; omega
   rw [this,Bool.and_true]
  ·congr 1; rw [decide_eq_decide]; omega
 ·simp only [decide_eq_true_eq] at GC
  have:decide ((j:Int) < (m:Int))=false:=by simp; omega
  rw [so,this,Bool.and_false]
 ·simp only [decide_eq_true_eq,decide_eq_false_iff_not] at h cJ GC
  simp only [b4,ng (show m < 2 ^ 64 by omega),BitVec.getLsbD_and,xl (show m < 64 by omega)]
  split
  ·congr 1; rw [decide_eq_decide]; omega
  ·have:decide ((j:Int) < (m:Int))=false:=by simp; omega
   rw [this,Bool.and_false]; exact BitVec.getLsbD_zero
theorem Ln (w:BitVec 64) (j:Nat):b4 { (default:ao) with bY:=w } j=w.getLsbD j:=by
 unfold b4
 split
 ·rfl
 ·rw [BitVec.getLsbD_of_ge w j (by omega)]; exact BitVec.getLsbD_zero
structure n4 (kind b:Int) (m:ch):Prop where
 off:m.h1=false→m=default
 Mz:kind=1→m.h1=true
 low:kind=1→ ∀ j,j < 128→b4 m.bR j=true→ (j:Int) < b
 Xm:kind=3→ ∀ j,j < 128→b4 m.bK j=true→ (j:Int) < b
 Xn:kind=3→ ∀ j,j < 128→b4 m.bR j=true→b4 m.bK j=true
 pre:0≤m.gw∧m.gw≤32
 MA:kind=2→m.h1=true→1≤m.gw
 MB:kind≠2→m.gw=0
 gD:kind≠3→m.bK=default
 Xo:kind=3→m.h1=true→m.bK≠default
 vK:kind=4→m.h1=true→m.bR.dD=m.nW.dD∧m.bR.bY≤m.nW.bY
 GD:kind=2→ ∀ j,j < 128→b4 m.bR j=true→32 - m.gw≤ (j:Int)∧j < 32
 Cr:kind≠4→m.nW=default
theorem BZ:(0:Int)≤0∧ (0:Int)≤32:=⟨Int.le_refl 0,by decide⟩
theorem Ds {kind b:Int} (h:kind≠1):n4 kind b default:=
 ⟨fun _=>rfl,fun k=>absurd k h,fun k=>absurd k h,fun _ j _ aY=>(by rw [show(default:ch).bK=default from rfl,so] at aY; cases aY),
  fun _ j _ aY=>(by rw [show(default:ch).bR=default from rfl,so] at aY; cases aY),
  BZ,fun _ k=>(by cases k),fun _=>rfl,fun _=>rfl,fun _ k=>(by cases k),fun _ k=>(by cases k),
  fun _ j _ aY=>(by rw [show(default:ch).bR=default from rfl,so] at aY; cases aY),fun _=>rfl⟩
theorem Rh {a x y:BitVec 64} (J:a≤x) (ab:a≤y):a≤sV x y:=by
 unfold sV; split <;> assumption
theorem Ri {v:ao} {b c:Int} (hb:0≤b∧b≤32) (ar:0≤c∧c < 256) (aY:∀ j,j < 128→b4 v j=true→ (j:Int) < b):
 v.dD=0#64∧v.bY≤sV (v.bY + BitVec.ofInt 64 c) (((1#64) <<< (BitVec.ofInt 64 b).toNat) - (1#64)):=by
 have eb:v.dD=0#64:=by
  apply BitVec.eq_of_getLsbD_eq
  intro i al
  have h:=aY (64 + i) (by omega)
  unfold b4 at h
  rw [if_neg (by omega),Nat.add_sub_cancel_left] at h
  rw [BitVec.getLsbD_zero]
  cases an:v.dD.getLsbD i
  ·rfl
  ·have:=h an; omega
 obtain⟨n,rfl⟩:=Int.eq_ofNat_of_zero_le hb.1
 have aO:n≤32:=by omega
 have V7:(BitVec.ofInt 64 (n:Int)).toNat=n:=ng (by omega)
 rw [V7]
 have Lp:v.bY≤ ((1#64) <<< n) - 1#64:=by
  have hand:v.bY &&& (((1#64) <<< n) - 1#64)=v.bY:=by
   apply BitVec.eq_of_getLsbD_eq
   intro i al
   rw [BitVec.getLsbD_and,xl (by omega)]
   have h:=aY i (by omega)
   unfold b4 at h
   rw [if_pos al] at h
   cases an:v.bY.getLsbD i
   ·rfl
   ·have:=h an
    simp; omega
  rw [← hand]
  rw [BitVec.le_def,BitVec.toNat_and]
  exact Nat.and_le_right
 have rS:(((1#64) <<< n) - 1#64).toNat < 2 ^ 33:=by
  have Cs:(((1#64) <<< n) - 1#64) &&& (((1#64) <<< 32) - 1#64)=(((1#64) <<< n) - 1#64):=by
   apply BitVec.eq_of_getLsbD_eq
   intro i al
   rw [BitVec.getLsbD_and,xl (by omega),xl (by omega)]
   simp; omega
  rw [← Cs,BitVec.toNat_and]
  exact Nat.lt_of_le_of_lt Nat.and_le_right (by decide)
 refine⟨eb,Rh ?_ Lp⟩
 rw [BitVec.le_def] at Lp ⊢
 obtain⟨m,rfl⟩:=Int.eq_ofNat_of_zero_le ar.1
 rw [BitVec.toNat_add,ng (by omega),Nat.mod_eq_of_lt (by omega)]
 omega
theorem Qt (x:BitVec 64) {n:Int} (J:1≤n) (ab:n≤32) {i:Nat} (al:i < 128)
 (aY:b4 { (default:ao) with bY:=x &&& ((((1#64) <<< (BitVec.ofInt 64 32).toNat) - (1#64)) - (((1#64) <<< (BitVec.ofInt 64 (bD (32 - n))).toNat) - (1#64))) } i=true):32 - n≤ (i:Int)∧i < 32:=by
 rw [Ln,BitVec.getLsbD_and,Bool.and_eq_true] at aY
 have aC:=aY.2
 obtain⟨k,av⟩:=Int.eq_ofNat_of_zero_le (show 0≤32 - n by omega)
 have c7:k < 32:=by omega
 have e:bD (32 - n)=(k:Int):=by rw [av,hQ (by omega) (by omega)]
 rw [e,ng (by omega)] at aC
 have GF:i < 64:=by
  rcases Nat.lt_or_ge i 64 with h | h
  ·exact h
  ·rw [BitVec.getLsbD_of_ge _ i h] at aC; cases aC
 have key:∀ (k:Fin 32) (i:Fin 64),((((1#64) <<< (BitVec.ofInt 64 32).toNat) - (1#64)) - (((1#64) <<< k.1) - (1#64))).getLsbD i.1=true→k.1≤i.1∧i.1 < 32:=by decide +kernel
 have:=key ⟨k,c7⟩ ⟨i,GF⟩ aC
 simp only at this
 omega
theorem PY (c:bw) {s:a3} (key:cn) (ar:gK c) (h:du s) (av:k0 key):
 bo (wz c s key) (fun r=>gK r.2∧n4 key.cI (lR key) r.1):=by
 obtain⟨j,aF,a8,a4,hj,M7,V8,c7⟩:=av
 have hb:lR key=aA p6 j:=by unfold lR; rw [a8]; congr 1; omega
 unfold wz
 rw [a8]
 refine(Pv h aF).bind fun ak az=> ?_
 rw [hb]
 subst az
 generalize ir:aA p6 j=b at *
 refine .bind (fZ _ 256 ar (by omega)) fun aP ab=> .bind (fZ _ 16 ab.1 (by omega)) fun bc aC=> .eq rfl (.bind (fZ _ 16 aC.1 (by omega)) fun bf aU=> .eq rfl ?_)
 refine .bind (Eo _ b (by omega) (by omega)) fun cb aZ=> ?_
 refine .cond (fun q=> ?_) fun q=> ?_
 ·have q:key.cI=2:=by simpa using q
  refine .bind (fZ _ 5 aU.1 (by omega)) fun cN bn=> .cond (fun _=> ?_) fun _=> .ret ⟨bn.1,Ds (by omega)⟩
  refine .bind (fZ _ b bn.1 (by omega)) fun dm cE=> .bind (fZ _ 5 cE.1 (by omega)) fun et dW=> ?_
  refine .eq (sm dW.2.1 (by simpa using dW.2.2.1)) ?_
  have lg:1≤aA [b,8,16,1,bD (1 + dm.1)] et.1.toNat∧aA [b,8,16,1,bD (1 + dm.1)] et.1.toNat≤32:=by
   have cq:et.1.toNat < [b,8,16,1,bD (1 + dm.1)].length:=by have:=dW.2.1; have:=dW.2.2.1; simp; omega
   have hm:=List.getElem_mem cq
   rw [← eB _ cq] at hm
   have hw:bD (1 + dm.1)=1 + dm.1:=hQ (by have:=cE.2.1; omega) (by have:=cE.2.2.1; omega)
   have:=cE.2.1; have:=cE.2.2.1
   simp only [List.mem_cons,List.not_mem_nil,or_false] at hm
   rcases hm with hm | hm | hm | hm | hm <;> rw [hm] <;> omega
  unfold AF
  refine .eq rfl (.eq rfl (.eq rfl (.ret ⟨dW.1,fun h=>(by cases h),fun h=>(by omega),fun h=>by omega,fun h=>(by omega),fun h=>(by omega),⟨by have:=lg.1; show 0≤aA _ _; omega,lg.2⟩,fun _ _=>lg.1,fun h=>absurd q h,fun _=>rfl,fun h=>(by omega),fun h=>(by omega),fun _ i al aY=> ?_,fun _=>rfl⟩)))
  have Cs:b=32:=by rw [← ir,c7 q]; rfl
  rw [Cs] at lg aY
  rw [Cs]
  exact Qt _ lg.1 lg.2 al aY
 refine .cond (fun fi=> ?_) fun fi=> ?_
 ·have fi:key.cI=3:=by simpa using fi
  refine .bind (fZ _ 256 aU.1 (by omega)) fun hz iS=> .bind (fZ _ 5 iS.1 (by omega)) fun iR o7=> ?_
  refine .eq (sm o7.2.1 (by simpa using o7.2.2.1)) (.eq rfl (.bind (Eo _ b (by omega) (by omega)) fun h7 zw=> ?_))
  refine .cond (fun GG=> ?_) fun _=> .ret ⟨o7.1,Ds (by omega)⟩
  refine .eq rfl (.eq rfl (.ret ⟨o7.1,fun h=>(by cases h),fun h=>(by omega),fun h=>by omega,fun _ i al aY=> ?_,fun _ i al aY=> ?_,BZ,fun h=>(by omega),fun _=>rfl,fun h=>absurd fi h,fun _ _ hd=> ?_,fun h=>(by omega),fun h=>(by omega),fun _=>rfl⟩))
  ·have qn:=zw i al
   simp only at aY
   rw [aY] at qn
   have:=qn.symm
   simp only [Bool.and_eq_true,decide_eq_true_eq] at this
   exact this.2
  ·simp only at aY ⊢
   rw [Ln,BitVec.getLsbD_and,Bool.and_eq_true] at aY
   have GF:i < 64:=by
    rcases Nat.lt_or_ge i 64 with h | h
    ·exact h
    ·rw [BitVec.getLsbD_of_ge _ i h] at aY; cases aY.1
   unfold b4; rw [if_pos GF]; exact aY.2
  ·have hd':h7=default:=hd
   rw [hd'] at GG; simp at GG
   exact GG rfl
 refine .cond (fun iq=> ?_) fun iq=> ?_
 ·have iq:key.cI=4:=by simpa using iq
  refine .bind (fZ _ 256 aU.1 (by omega)) fun jg qn=> .eq rfl (.bind (fZ _ 5 qn.1 (by omega)) fun kl Co=> .eq rfl (.cond (fun _=> ?_) fun _=> .ret ⟨Co.1,Ds (by omega)⟩))
  have V9:=Ri (v:=cb) (b:=b) (c:=jg.1) ⟨by omega,V8⟩ ⟨qn.2.1,qn.2.2.1⟩ fun i al aY=>by
   have Cp:=aZ i al
   rw [aY] at Cp
   have:=Cp.symm
   simp only [Bool.and_eq_true,decide_eq_true_eq] at this
   exact this.2
  exact .eq rfl (.ret ⟨Co.1,fun h=>(by cases h),fun h=>(by omega),fun h=>by omega,fun h=>(by omega),fun h=>(by omega),BZ,fun h=>(by omega),fun _=>rfl,fun _=>rfl,fun h=>(by omega),fun _ _=>V9,fun h=>(by omega),fun h=>absurd iq h⟩)
 ·have aE:key.cI=1:=by
   simp only [beq_eq_false_iff_ne] at q fi iq
   omega
  refine .eq rfl (.ret ⟨aU.1,fun h=>(by cases h),fun _=>rfl,fun _ i al aY=> ?_,fun h=>(by omega),fun h=>(by omega),BZ,fun h=>(by omega),fun _=>rfl,fun _=>rfl,fun h=>(by omega),fun h=>(by omega),fun h=>(by omega),fun _=>rfl⟩)
  have qn:=aZ i al
  simp only at aY
  rw [aY] at qn
  have:=qn.symm
  simp only [Bool.and_eq_true,decide_eq_true_eq] at this
  exact this.2
structure ig (s:a3) (k:Nat) (e:bE):Prop where
 iT:e.dq=(k:Int) + 1
 len:e.cA.length=(aA s.bH k).b1.length
 zy:∀ i,i < (aA s.bH k).b1.length→n4 (aA (aA s.bH k).b1 i).cI (lR (aA (aA s.bH k).b1 i)) (aA e.cA i)
 args:e.lq.length≤10
 pri:(∀ i,i < (aA s.bH k).b1.length→ (aA (aA s.bH k).b1 i).cI≤2)→e.gF=0
theorem PZ {α:Type} [Inhabited α] (l:List α) (x:α) (i:Nat):aA (l ++ [x]) i=if i=l.length then x else aA l i:=by
 unfold aA
 by_cases h:i=l.length
 ·subst h; simp
 ·rw [if_neg h]
  rcases Nat.lt_or_ge i l.length with J | J
  ·rw [List.getElem?_append_left J]
  ·rw [List.getElem?_eq_none (by simp; omega),List.getElem?_eq_none J]
theorem P0 (c:bw) {s:a3} (x:Int) (ar:gK c) (h:du s):
 bo (wA c s x) (fun r=>gK r.2∧ ∃ k:Nat,k < 4∧qF x (s.bH.length:Int)=some (k:Int)∧ig s k r.1):=by
 unfold wA
 obtain⟨ak,az,bJ,J⟩:=JQ x (s.bH.length:Int) (by rw [h.jz]; omega) (by rw [h.jz]; omega)
 obtain⟨k,rfl⟩:=Int.eq_ofNat_of_zero_le bJ
 have av:k < 4:=by have:=h.jz; omega
 obtain⟨t1,⟨t2,t3⟩,t4,⟨t5,t6⟩,t7⟩:=h.iT av
 refine .eq az (.idx rfl (by have:=h.jz; omega) ?_)
 refine bo.loop (aA s.bH k).b1.length (fun i st=>st.1=(i:Int)∧st.2.1.dq=(k:Int) + 1∧st.2.2.1.length=i∧gK st.2.2.2∧
  (∀ j,j < i→n4 (aA (aA s.bH k).b1 j).cI (lR (aA (aA s.bH k).b1 j)) (aA st.2.2.1 j))∧ ((∀ j,j < i→ (aA (aA s.bH k).b1 j).cI≤2)→st.2.1.gF=0)) (by omega) ⟨rfl,t1,rfl,ar,fun j aF=>by omega,fun _=>rfl⟩ (fun i st al hs=> ?_) (fun st hs=> ?_)
 ·obtain⟨tz,e,ms,zV⟩:=st; obtain⟨aX,cP,eZ,gk,gU,pf⟩:=hs
  simp only at aX cP eZ gk gU pf; subst aX
  refine bo.cond (fun _=> ?_) (fun h=>by simp at h; omega)
  refine .idx rfl al (.bind (PY _ _ gk h (t4 _ (by rw [eB _ al]; exact List.getElem_mem al))) fun aP ab=> .eq (h2 _ _ (by simp; omega) (by omega)) (.eq rfl ?_))
  refine .bind (P:=fun m=>m.1.dq=(k:Int) + 1∧gK m.2∧ ((aA (aA s.bH k).b1 i).cI≤2→m.1.gF=e.gF)) (.cond (fun dR=> .bind (fZ _ 5 ab.1 (by omega)) fun bf aU=> .eq rfl (.ret ⟨cP,aU.1,fun h=>by simp at dR; omega⟩)) (fun _=> .ret ⟨cP,ab.1,fun _=>rfl⟩)) fun bO cM=> ?_
  refine .ret ⟨e3 (by omega),cM.1,by simp; omega,cM.2.1,fun j aF=> ?_,fun h=> ?_⟩
  ·simp only [PZ]
   by_cases nG:j=ms.length
   ·rw [if_pos nG]; rw [nG,eZ]; exact ab.2
   ·rw [if_neg nG]; exact gU j (by omega)
  ·exact(cM.2.2 (h i (by omega))).trans (pf fun j aF=>h j (by omega))
 ·obtain⟨tz,e,ms,zV⟩:=st; obtain⟨aX,cP,eZ,gk,gU,pf⟩:=hs
  simp only at aX cP eZ gk gU pf; subst aX
  refine⟨_,by simp; rfl,?_⟩
  refine .bind (fZ _ _ gk (by omega)) fun cb aZ=> ?_
  refine .eq (sm aZ.2.1 aZ.2.2.1) (.eq rfl ?_)
  have bh:1≤aA (aA s.bH k).cX cb.1.toNat∧aA (aA s.bH k).cX cb.1.toNat≤6:=t7 _ (by
   have cq:cb.1.toNat < (aA s.bH k).cX.length:=by have:=aZ.2.1; have:=aZ.2.2.1; omega
   rw [eB _ cq]; exact List.getElem_mem cq)
  obtain⟨a,fE⟩:=Int.eq_ofNat_of_zero_le (show 0≤aA (aA s.bH k).cX cb.1.toNat - 1 by omega)
  have Wa:aA (aA s.bH k).cX cb.1.toNat=(a:Int) + 1:=by omega
  simp only [Wa]
  refine .bind (O8 h (show a < 6 by omega)) fun cN bn=> ?_
  obtain⟨aT,a7⟩:=h.act (show a < 6 by omega)
  rw [← bn] at a7
  have hp:cN.iY.length≤10∧ ∀ i,i < cN.iY.length→0≤ (aA cN.iY i).eO∧ (aA cN.iY i).eO < 1000:=by
   have hq:∀ l∈rq,l.length≤10∧ ∀ b∈l,0≤b∧b < 1000:=by decide
   have hm:aA rq a∈rq:=by rw [eB rq (show a < rq.length by simp [rq]; omega)]; exact List.getElem_mem _
   obtain⟨aE,da⟩:=hq _ hm
   rw [← a7] at aE da
   refine⟨by simpa using aE,fun i al=>da _ ?_⟩
   rw [eB _ al]
   exact List.mem_map.2 ⟨_,List.getElem_mem al,rfl⟩
  refine bo.loop cN.iY.length (fun i st=>st.1=(i:Int)∧st.2.1.dq=(k:Int) + 1∧st.2.2.1.length=i∧gK st.2.2.2∧st.2.1.gF=e.gF) (by omega) ⟨rfl,cP,rfl,aZ.1,rfl⟩ (fun i st al hs=> ?_) (fun st hs=> ?_)
  ·obtain⟨tz,e',vs,Wb⟩:=st; obtain⟨f2,f3,f4,f5,f6⟩:=hs
   simp only at f2 f3 f4 f5 f6; subst f2
   refine bo.cond (fun _=> ?_) (fun h=>by simp at h; omega)
   refine .idx rfl al (.bind (fZ _ 256 f5 (by omega)) fun dm cE=> .eq rfl (.bind (Eo _ _ (hp.2 i al).1 (hp.2 i al).2) fun et dW=> .eq (h2 _ _ (by have:=hp.1; simp; omega) (by omega)) (.ret ⟨e3 (by have:=hp.1; omega),f3,by simp; omega,cE.1,f6⟩)))
  ·obtain⟨tz,e',vs,Wb⟩:=st; obtain⟨f2,f3,f4,f5,f6⟩:=hs
   simp only at f2 f3 f4 f5 f6; subst f2
   refine⟨_,by simp; rfl,?_⟩
   exact .eq rfl (.ret ⟨f5,k,av,az,f3,eZ,gU,by show vs.length≤10; have:=hp.1; omega,fun h=>f6.trans (pf h)⟩)
end Go.Proofs.YtmnggbjcnoffeaaGreat
namespace Go.Proofs.YtmnggbjcnoffeaaGreat
open Go Gv
set_option linter.unusedVariables false
set_option linter.unusedSimpArgs false
set_option maxRecDepth 100000
structure TS (s:a3) (r:Vector (List Int) 6):Prop where
 fields:cf r 0=s.e2.map (·.bF)
 headers:cf r 1=s.kA.map (·.bF)
 Kt:cf r 2=s.kU.map (·.bF)
 D2:cf r 3=s.cX.map (·.bF)
 tables:cf r 4=s.bH.map (·.bF)
 Lk:cf r 5=s.ix.map (·.bF)
theorem RZ {s:a3} (h:du s):bo (wZ s) (TS s):=by
 unfold wZ
 have vR:=h.rp; have M3:=h.headers; have XI:=h.Kt; have XJ:=h.FE; have XK:=h.jz; have XL:=h.U6
 refine bo.loop s.e2.length (fun k st=>st.1=(k:Int)∧st.2.1=(s.e2.take k).map (·.bF)) (by omega) ⟨rfl,rfl⟩ (fun k st av al=> ?_) (fun st al=> ?_)
 ·obtain⟨i,a,v⟩:=st; obtain⟨az,aX⟩:=al; simp only at az aX; subst az; subst aX
  refine bo.cond (fun _=> ?_) (fun h=>by simp at h; omega)
  exact .idx rfl av (.eq (h2 _ _ (by simp; omega) (by omega)) (.ret ⟨e3 (by omega),by rw [pq _ av,List.map_append]; rfl⟩))
 obtain⟨i,fu,v⟩:=st; obtain⟨az,aX⟩:=al; simp only at az aX; subst az; subst aX
 refine⟨_,by simp only [show decide ((s.e2.length:Int) < (s.e2.length:Int))=false by simp,cond_false]; rfl,?_⟩
 refine bo.loop s.kA.length (fun k st=>st.1=(k:Int)∧st.2.1=(s.kA.take k).map (·.bF)) (by omega) ⟨rfl,rfl⟩ (fun k st av al=> ?_) (fun st al=> ?_)
 ·obtain⟨i,a,v⟩:=st; obtain⟨az,aX⟩:=al; simp only at az aX; subst az; subst aX
  refine bo.cond (fun _=> ?_) (fun h=>by simp at h; omega)
  exact .idx rfl av (.eq (h2 _ _ (by simp; omega) (by omega)) (.ret ⟨e3 (by omega),by rw [pq _ av,List.map_append]; rfl⟩))
 obtain⟨i,eg,v⟩:=st; obtain⟨az,aX⟩:=al; simp only at az aX; subst az; subst aX
 refine⟨_,by simp only [show decide ((s.kA.length:Int) < (s.kA.length:Int))=false by simp,cond_false]; rfl,?_⟩
 refine bo.loop s.kU.length (fun k st=>st.1=(k:Int)∧st.2.1=(s.kU.take k).map (·.bF)) (by omega) ⟨rfl,rfl⟩ (fun k st av al=> ?_) (fun st al=> ?_)
 ·obtain⟨i,a,v⟩:=st; obtain⟨az,aX⟩:=al; simp only at az aX; subst az; subst aX
  refine bo.cond (fun _=> ?_) (fun h=>by simp at h; omega)
  exact .idx rfl av (.eq (h2 _ _ (by simp; omega) (by omega)) (.ret ⟨e3 (by omega),by rw [pq _ av,List.map_append]; rfl⟩))
 obtain⟨i,ei,v⟩:=st; obtain⟨az,aX⟩:=al; simp only at az aX; subst az; subst aX
 refine⟨_,by simp only [show decide ((s.kU.length:Int) < (s.kU.length:Int))=false by simp,cond_false]; rfl,?_⟩
 refine bo.loop s.cX.length (fun k st=>st.1=(k:Int)∧st.2.1=(s.cX.take k).map (·.bF)) (by omega) ⟨rfl,rfl⟩ (fun k st av al=> ?_) (fun st al=> ?_)
 ·obtain⟨i,a,v⟩:=st; obtain⟨az,aX⟩:=al; simp only at az aX; subst az; subst aX
  refine bo.cond (fun _=> ?_) (fun h=>by simp at h; omega)
  exact .idx rfl av (.eq (h2 _ _ (by simp; omega) (by omega)) (.ret ⟨e3 (by omega),by rw [pq _ av,List.map_append]; rfl⟩))
 obtain⟨i,jn,v⟩:=st; obtain⟨az,aX⟩:=al; simp only at az aX; subst az; subst aX
 refine⟨_,by simp only [show decide ((s.cX.length:Int) < (s.cX.length:Int))=false by simp,cond_false]; rfl,?_⟩
 refine bo.loop s.bH.length (fun k st=>st.1=(k:Int)∧st.2.1=(s.bH.take k).map (·.bF)) (by omega) ⟨rfl,rfl⟩ (fun k st av al=> ?_) (fun st al=> ?_)
 ·obtain⟨i,a,v⟩:=st; obtain⟨az,aX⟩:=al; simp only at az aX; subst az; subst aX
  refine bo.cond (fun _=> ?_) (fun h=>by simp at h; omega)
  exact .idx rfl av (.eq (h2 _ _ (by simp; omega) (by omega)) (.ret ⟨e3 (by omega),by rw [pq _ av,List.map_append]; rfl⟩))
 obtain⟨i,lO,v⟩:=st; obtain⟨az,aX⟩:=al; simp only at az aX; subst az; subst aX
 refine⟨_,by simp only [show decide ((s.bH.length:Int) < (s.bH.length:Int))=false by simp,cond_false]; rfl,?_⟩
 refine bo.loop s.ix.length (fun k st=>st.1=(k:Int)∧st.2.1=(s.ix.take k).map (·.bF)) (by omega) ⟨rfl,rfl⟩ (fun k st av al=> ?_) (fun st al=> ?_)
 ·obtain⟨i,a,v⟩:=st; obtain⟨az,aX⟩:=al; simp only at az aX; subst az; subst aX
  refine bo.cond (fun _=> ?_) (fun h=>by simp at h; omega)
  exact .idx rfl av (.eq (h2 _ _ (by simp; omega) (by omega)) (.ret ⟨e3 (by omega),by rw [pq _ av,List.map_append]; rfl⟩))
 obtain⟨i,qx,v⟩:=st; obtain⟨az,aX⟩:=al; simp only at az aX; subst az; subst aX
 refine⟨_,by simp only [show decide ((s.ix.length:Int) < (s.ix.length:Int))=false by simp,cond_false]; rfl,?_⟩
 refine .eq rfl (.ret ⟨?_,?_,?_,?_,?_,?_⟩)
 ·simp only [List.take_length]
  rw [gv _ _ (by omega),if_neg (by omega),gv _ _ (by omega),if_neg (by omega),gv _ _ (by omega),if_neg (by omega),gv _ _ (by omega),if_neg (by omega),gv _ _ (by omega),if_neg (by omega),gv _ _ (by omega),if_pos rfl]
 ·simp only [List.take_length]
  rw [gv _ _ (by omega),if_neg (by omega),gv _ _ (by omega),if_neg (by omega),gv _ _ (by omega),if_neg (by omega),gv _ _ (by omega),if_neg (by omega),gv _ _ (by omega),if_pos rfl]
 ·simp only [List.take_length]
  rw [gv _ _ (by omega),if_neg (by omega),gv _ _ (by omega),if_neg (by omega),gv _ _ (by omega),if_neg (by omega),gv _ _ (by omega),if_pos rfl]
 ·simp only [List.take_length]
  rw [gv _ _ (by omega),if_neg (by omega),gv _ _ (by omega),if_neg (by omega),gv _ _ (by omega),if_pos rfl]
 ·simp only [List.take_length]
  rw [gv _ _ (by omega),if_neg (by omega),gv _ _ (by omega),if_pos rfl]
 ·simp only [List.take_length]
  rw [gv _ _ (by omega),if_pos rfl]
end Go.Proofs.YtmnggbjcnoffeaaGreat
namespace Go.Proofs.YtmnggbjcnoffeaaGreat
open Go Gv
set_option linter.unusedVariables false
set_option linter.unusedSimpArgs false
theorem NW {xs:List bN} {f:bN→Option Bool} {g:bN→Bool} (a8:∀ x∈xs,f x=some (g x)) (aq:xs.length < 2 ^ 62):
 bo (vV xs f) (fun r=>(r= -1∧ ∀ x∈xs,g x=false)∨ ∃ i:Nat,i < xs.length∧r=i∧g (aA xs i)=true∧ ∀ j,j < i→g (aA xs j)=false):=by
 unfold vV
 refine bo.loop xs.length (fun k s=>s=(k:Int)∧ ∀ j,j < k→g (aA xs j)=false) (by omega) ⟨rfl,fun j aF=>by omega⟩ (fun k s av al=> ?_) (fun s al=> ?_)
 ·obtain⟨az,aX⟩:=al; subst az
  refine bo.cond (fun _=> ?_) (fun h=>by simp at h; omega)
  refine .idx rfl av (.eq (a8 _ (by rw [eB xs av]; exact List.getElem_mem av)) (.cond (fun h=> .ret ?_) (fun h=> .ret ⟨e3 (by omega),fun j aF=> ?_⟩)))
  ·exact .ret (.inr ⟨k,av,rfl,h,aX⟩)
  ·by_cases kP:j=k
   ·subst kP; exact h
   ·exact aX j (by omega)
 ·obtain⟨az,aX⟩:=al; subst az
  refine⟨_,by simp; rfl,?_⟩
  refine .ret (.inl ⟨rfl,fun x an=> ?_⟩)
  obtain⟨j,aF,rfl⟩:=List.mem_iff_getElem.1 an
  rw [← eB xs aF]; exact aX j aF
end Go.Proofs.YtmnggbjcnoffeaaGreat
namespace Go.Proofs.YtmnggbjcnoffeaaGreat
open Go Gv
set_option linter.unusedVariables false
set_option linter.unusedSimpArgs false
theorem NX {xs:List eS} {f:eS→Option Bool} {g:eS→Bool} (a8:∀ x∈xs,f x=some (g x)) (aq:xs.length < 2 ^ 62):
 bo (vW xs f) (fun r=>(r= -1∧ ∀ x∈xs,g x=false)∨ ∃ i:Nat,i < xs.length∧r=i∧g (aA xs i)=true∧ ∀ j,j < i→g (aA xs j)=false):=by
 unfold vW
 refine bo.loop xs.length (fun k s=>s=(k:Int)∧ ∀ j,j < k→g (aA xs j)=false) (by omega) ⟨rfl,fun j aF=>by omega⟩ (fun k s av al=> ?_) (fun s al=> ?_)
 ·obtain⟨az,aX⟩:=al; subst az
  refine bo.cond (fun _=> ?_) (fun h=>by simp at h; omega)
  refine .idx rfl av (.eq (a8 _ (by rw [eB xs av]; exact List.getElem_mem av)) (.cond (fun h=> .ret ?_) (fun h=> .ret ⟨e3 (by omega),fun j aF=> ?_⟩)))
  ·exact .ret (.inr ⟨k,av,rfl,h,aX⟩)
  ·by_cases kP:j=k
   ·subst kP; exact h
   ·exact aX j (by omega)
 ·obtain⟨az,aX⟩:=al; subst az
  refine⟨_,by simp; rfl,?_⟩
  refine .ret (.inl ⟨rfl,fun x an=> ?_⟩)
  obtain⟨j,aF,rfl⟩:=List.mem_iff_getElem.1 an
  rw [← eB xs aF]; exact aX j aF
end Go.Proofs.YtmnggbjcnoffeaaGreat
namespace Go.Proofs.YtmnggbjcnoffeaaGreat
open Go Gv
set_option linter.unusedVariables false
set_option linter.unusedSimpArgs false
set_option maxRecDepth 100000
theorem AK {s:a3} (h:du s) {k:Nat} (av:k < 4):bo (qC s ((k:Int) + 1)) (fun r=>r=(k:Int)):=by
 unfold qC
 refine(NW (g:=fun t=>t.bF ==(k:Int) + 1) (fun x an=>rfl) (by rw [h.jz]; omega)).bind fun r aS=> .ret ?_
 have c7:k < s.bH.length:=by rw [h.jz]; exact av
 rcases aS with⟨_,aS⟩ | ⟨i,J,ab,aC,aU⟩
 ·have:=aS (aA s.bH k) (by rw [eB _ c7]; exact List.getElem_mem c7)
  simp only [(h.iT av).1,beq_self_eq_true] at this; cases this
 ·have aZ:=(h.iT (show i < 4 by have:=h.jz; omega)).1
  simp only [aZ,beq_iff_eq] at aC; omega
theorem Ii {s:a3} (h:du s) {k:Nat} (av:k < 9):bo (tW s ((k:Int) + 1)) (fun r=>r=(k:Int)):=by
 unfold tW
 refine(NX (g:=fun t=>t.bF ==(k:Int) + 1) (fun x an=>rfl) (by rw [h.rp]; omega)).bind fun r aS=> .ret ?_
 have c7:k < s.e2.length:=by rw [h.rp]; exact av
 rcases aS with⟨_,aS⟩ | ⟨i,J,ab,aC,aU⟩
 ·have:=aS (aA s.e2 k) (by rw [eB _ c7]; exact List.getElem_mem c7)
  simp only [(h.tn av).1,beq_self_eq_true] at this; cases this
 ·have aZ:=(h.tn (show i < 9 by have:=h.rp; omega)).1
  simp only [aZ,beq_iff_eq] at aC; omega
theorem Qu (l:List Int) {k:Nat} (av:k < l.length) (aq:l.length < 2 ^ 30) (h:∀ j,j < l.length→aA l j=(j:Int) + 1):bo (wR l ((k:Int) + 1)) (fun r=>r=(k:Int)):=by
 unfold wR
 refine bo.loop k (fun j s=>s=(j:Int)) (by omega) rfl (fun j i aF al=> ?_) (fun i al=> ?_)
 ·subst al
  refine bo.cond (fun _=> ?_) (fun h=>by simp at h; omega)
  refine .idx rfl (by omega) (.cond (fun ar=> ?_) (fun ar=> .ret (e3 (by omega))))
  rw [h j (by omega),beq_iff_eq] at ar; omega
 ·subst al
  have J:decide ((k:Int) < (l.length:Int))=true:=by simp; omega
  have ab:(aA l k ==(k:Int) + 1)=true:=by rw [h k av]; simp
  rw [J]
  simp only [cond_true]
  rw [qZ (by omega)]
  simp only [Option.bind_some,ab,cond_true]
  exact⟨_,rfl,.ret rfl⟩
theorem O9 {s:a3} (h:du s) {k:Nat} (av:k < 4):bo (wK s ((k:Int) + 1)) (fun r=>r=(k:Int)):=by
 unfold wK
 refine(RZ h).bind fun y a9=> ?_
 have aq:=h.jz
 rw [a9.tables]
 refine(Qu _ (by simp; omega) (by simp; omega) fun j aF=> ?_).bind fun r aS=> .ret aS
 rw [xj _ (by simpa using aF)]; exact(h.iT (by simp at aF; omega)).1
theorem Lq {key:cn} {j:Nat} (h:key.ga=(j:Int) + 1):lR key=aA p6 j:=by unfold lR; rw [h]; congr 1; omega
def lead (n k:Int) (j:Nat):Bool:=decide ((j:Int) < n) && decide (n - max 0 (min k n)≤ (j:Int))
theorem Iz (n k:Int) (bJ:0≤n) (J:n≤128):bo (tV n k) (fun r=> ∀ j,j < 128→b4 r j=lead n k j):=by
 unfold tV uc
 have e:min (max 0 n) 128=n:=by omega
 rw [e]
 have aX:bD (n - min (max 0 k) n)=n - min (max 0 k) n:=hQ (by omega) (by omega)
 refine .eq rfl ((A6 n).bind fun a bh=> ?_)
 rw [aX]
 refine(A6 _).bind fun b hb=>(A5 a b).bind fun r aS=> .ret fun j aF=> ?_
 rw [aS j aF,bh j aF,hb j aF]
 unfold lead
 by_cases p:(j:Int) < n
 ·rw [decide_eq_true p]
  by_cases q:(j:Int) < n - min (max 0 k) n
  ·rw [decide_eq_true q,decide_eq_false (by omega)]; rfl
  ·rw [decide_eq_false q,decide_eq_true (by omega)]; rfl
 ·rw [decide_eq_false p,decide_eq_false (by omega)]; rfl
def rV (key:cn) (m:ch) (j:Nat):Bool:=m.h1 && (if key.cI=1 then decide ((j:Int) < lR key) else if key.cI=2 then lead (lR key) m.gw j else b4 m.bK j)
theorem k0.lR {key:cn} (h:k0 key):4≤Go.Proofs.YtmnggbjcnoffeaaGreat.lR key∧Go.Proofs.YtmnggbjcnoffeaaGreat.lR key≤32:=by
 obtain⟨j,aF,a8,_,_,J,ab,_⟩:=h
 rw [Lq a8]; exact⟨J,ab⟩
theorem Qv {key:cn} (av:k0 key) (m:ch):bo (wX m key.cI (lR key)) (fun r=> ∀ j,j < 128→b4 r j=rV key m j):=by
 have hb:=av.lR
 unfold wX rV
 refine .cond (fun h=> .ret fun j aF=> ?_) fun h=> .cond (fun J=>(A6 _).bind fun y a9=> .ret fun j aF=> ?_) fun J=> .cond (fun ab=>(Iz _ _ (by omega) (by omega)).bind fun y a9=> .ret fun j aF=> ?_) fun ab=> .ret fun j aF=> ?_
 ·rw [so]; simp only [Bool.not_eq_true'] at h; rw [h]; rfl
 all_goals (simp only [Bool.not_eq_false'] at h; rw [h,Bool.true_and])
 ·rw [if_pos (by simpa using J)]; exact a9 j aF
 ·rw [if_neg (by simpa using J),if_pos (by simpa using ab)]; exact a9 j aF
 ·rw [if_neg (by simpa using J),if_neg (by simpa using ab)]
theorem Rj {s:a3} (h:du s) {k:Nat} (av:k < 4) {e:bE} (he:ig s k e):bo (qK s e) (fun r=>
 (r.2=false∧r.1=default∧ ∃ i,i < (aA s.bH k).b1.length∧ (aA (aA s.bH k).b1 i).cI=4)∨
 (r.2=true∧ (∀ i,i < (aA s.bH k).b1.length→ (aA (aA s.bH k).b1 i).cI≠4)∧ ∀ c j,c < 4→j < 128→
   b4 (cf r.1.bK c) j=(decide (c < (aA s.bH k).b1.length) && rV (aA (aA s.bH k).b1 c) (aA e.cA c) j)∧
   b4 (cf r.1.bR c) j=(decide (c < (aA s.bH k).b1.length) && (b4 (aA e.cA c).bR j && rV (aA (aA s.bH k).b1 c) (aA e.cA c) j)))):=by
 unfold qK
 obtain⟨t1,⟨t2,t3⟩,t4,_⟩:=h.iT av
 rw [he.iT]
 refine(AK h av).bind fun ak az=> ?_
 subst az
 refine .cond (fun h=>by simp at h; omega) fun _=> .idx rfl (by rw [h.jz]; exact av) ?_
 have hm:=he.len
 generalize rQ:(aA s.bH k).b1=K at *
 refine bo.loop K.length (fun i st=>st.1=(i:Int)∧ (∀ c,c < i→ (aA K c).cI≠4)∧ ∀ c j,c < 4→j < 128→
  b4 (cf st.2.bK c) j=(decide (c < i) && rV (aA K c) (aA e.cA c) j)∧
  b4 (cf st.2.bR c) j=(decide (c < i) && (b4 (aA e.cA c).bR j && rV (aA K c) (aA e.cA c) j))) (by omega)
  ⟨rfl,fun c ar=>by omega,fun c j ar aF=> ?_⟩ (fun i st al hs=> ?_) (fun st hs=> ?_)
 ·rw [show(default:a2).bK=default from rfl,show(default:a2).bR=default from rfl,C7,so]; simp
 ·obtain⟨tz,x⟩:=st; obtain⟨aX,cP,eZ⟩:=hs
  simp only at aX cP eZ; subst aX
  refine bo.cond (fun _=> ?_) (fun h=>by simp at h; omega)
  have hU:k0 (aA K i):=t4 _ (by rw [eB _ al]; exact List.getElem_mem al)
  have TT:=hU
  obtain⟨j,aF,a8,_⟩:=TT
  refine .idx rfl al ?_
  rw [a8]
  refine(Ii h aF).bind fun aP aX=> ?_
  subst aX
  refine .eq rfl (.eq rfl (.cond (fun dR=> ?_) fun dR=> ?_))
  ·refine .ret (.ret (.inl ⟨rfl,rfl,i,al,?_⟩))
   simp only [Bool.or_eq_true,beq_iff_eq,decide_eq_true_eq] at dR
   omega
  ·simp only [Bool.or_eq_false_iff,beq_eq_false_iff_ne,decide_eq_false_iff_not] at dR
   refine .idx rfl (by omega) (.idx rfl (by rw [h.rp]; exact aF) ?_)
   rw [(h.tn aF).2,← Lq a8]
   have vK:i < 4:=by omega
   refine(Qv hU _).bind fun bc aC=> .idx rfl vK (.idx rfl (by omega) (.idx rfl vK ((sq _ _).bind fun bf aU=> .idx rfl vK (.eq rfl (.ret ⟨e3 (by omega),fun c ar=> ?_,fun c j ar aF=> ?_⟩)))))
   ·by_cases zz:c=i
    ·subst zz; exact dR.1.1.1
    ·exact cP c (by omega)
   ·simp only [gv _ _ vK]
    by_cases zz:c=i
    ·subst zz
     rw [if_pos rfl,if_pos rfl]
     have tp:=aU j aF
     simp only [gv _ _ vK,if_true] at tp
     rw [aC j aF,tp,aC j aF,decide_eq_true (show c < c + 1 by omega)]
     exact⟨rfl,rfl⟩
    ·rw [if_neg zz,if_neg zz,(eZ c j ar aF).1,(eZ c j ar aF).2]
     have:decide (c < i + 1)=decide (c < i):=by rw [decide_eq_decide]; omega
     rw [this]; exact⟨rfl,rfl⟩
 ·obtain⟨tz,x⟩:=st; obtain⟨aX,cP,eZ⟩:=hs
  simp only at aX cP eZ; subst aX
  have ar:decide ((K.length:Int) < (K.length:Int))=false:=by simp
  rw [ar]
  refine⟨_,rfl,?_⟩
  exact .ret (.inr ⟨rfl,cP,eZ⟩)
end Go.Proofs.YtmnggbjcnoffeaaGreat
namespace Go.Proofs.YtmnggbjcnoffeaaGreat
open Go Gv
set_option linter.unusedVariables false
set_option linter.unusedSimpArgs false
set_option maxRecDepth 100000
end Go.Proofs.YtmnggbjcnoffeaaGreat
namespace Go.Proofs.YtmnggbjcnoffeaaGreat
open Go Gv
set_option linter.unusedVariables false
set_option linter.unusedSimpArgs false
set_option maxRecDepth 100000
def MC (a b:ao):Bool:=decide (a.dD < b.dD) || (a.dD ==b.dD && decide (a.bY < b.bY))
end Go.Proofs.YtmnggbjcnoffeaaGreat
namespace Gv
set_option linter.unusedVariables false
structure tq {α:Type} (b:α→α→Bool):Prop where
 asymm:∀ x y,b x y=true→b y x=false
 trans:∀ x y z,b x y=true→b y z=true→b x z=true
def ins {α:Type} (b:α→α→Bool):List α→α→List α
 | [],x=> [x]
 | a :: l,x=>if b a x=true then a :: ins b l x else x :: a :: l
def h0 {α:Type} (b:α→α→Bool) (l:List α):List α:=l.foldl (ins b) []
def iE {α:Type} (b:α→α→Bool):List α→α→Nat
 | [],_=>0
 | a :: l,x=>if b a x=true then iE b l x + 1 else 0
def rM {α:Type} (b:α→α→Bool) (x y:α):Prop:=b x y=true∨b y x=true
variable {α:Type} {b:α→α→Bool}
theorem Ep:∀ {l:List α} {x:α},iE b l x≤l.length
 | [],_=>Nat.le_refl _
 | a :: l,x=>by
   have:=Ep (l:=l) (x:=x)
   unfold iE; split <;> simp <;> omega
theorem Kx:∀ (l:List α) (x:α),ins b l x=l.take (iE b l x) ++ x :: l.drop (iE b l x)
 | [],x=>rfl
 | a :: l,x=>by
   unfold ins iE
   split
   ·rw [Kx l x]; rfl
   ·rfl
theorem DG:∀ (l:List α) (x:α),(ins b l x).Perm (x :: l)
 | [],x=>List.Perm.refl _
 | a :: l,x=>by
   unfold ins
   split
   ·exact((DG l x).cons a).trans (List.Perm.swap x a l)
   ·exact List.Perm.refl _
theorem Rk {l:List α} {x y:α} :y∈ins b l x↔y=x∨y∈l:=by
 rw [(DG l x).mem_iff]; simp
theorem JS (l:List α) (x:α):h0 b (l ++ [x])=ins b (h0 b l) x:=by
 simp [h0,List.foldl_append]
theorem JT (l:List α):(h0 b l).Perm l:=by
 have key:∀ (l m:List α),(l.foldl (ins b) m).Perm (m ++ l):=by
  intro l
  induction l with
  | nil=>intro m; simp
  | cons a l bI=>
    intro m
    refine(bI (ins b m a)).trans ?_
    refine((DG m a).append_right l).trans ?_
    exact(List.perm_middle (a:=a) (l₁:=m) (l₂:=l)).symm
 exact key l []
theorem sA {l:List α} {y:α} :y∈h0 b l↔y∈l:=(JT l).mem_iff
theorem R0 {l:List α} :(h0 b l).length=l.length:=(JT l).length_eq
theorem IA (hb:tq b):∀ {l:List α} {x:α},l.Pairwise (fun x y=>b x y=true)→ (∀ a∈l,rM b a x)→ (ins b l x).Pairwise (fun x y=>b x y=true)
 | [],x,_,_=>by simp [ins]
 | a :: l,x,hs,b9=>by
   obtain⟨J,ab⟩:=List.pairwise_cons.1 hs
   unfold ins
   split
   ·rename_i zA
    refine List.pairwise_cons.2 ⟨fun c ar=> ?_,IA hb ab fun a bh=>b9 a (by simp [bh])⟩
    rcases Rk.1 ar with rfl | ar
    ·exact zA
    ·exact J c ar
   ·rename_i zA
    have MD:b x a=true:=(b9 a (by simp)).resolve_left zA
    refine List.pairwise_cons.2 ⟨fun c ar=> ?_,hs⟩
    rcases List.mem_cons.1 ar with rfl | ar
    ·exact MD
    ·exact hb.trans _ _ _ MD (J c ar)
def oY (b:α→α→Bool) (l:List α):Prop:=l.Pairwise (rM b)
theorem rM.symm {x y:α} (h:rM b x y):rM b y x:=h.elim .inr .inl
theorem oY.snoc {l:List α} {x:α} (h:oY b (l ++ [x])):oY b l∧ ∀ a∈l,rM b a x:=by
 unfold oY at *
 rw [List.pairwise_append] at h
 exact⟨h.1,fun a bh=>h.2.2 a bh x (by simp)⟩
theorem oY.perm {l m:List α} (h:oY b l) (p:l.Perm m):oY b m:=(p.pairwise_iff fun h=>h.symm).1 h
theorem Qw {P:List α→Prop} (bJ:P []) (J:∀ l x,P l→P (l ++ [x])) (l:List α):P l:=by
 have:∀ r:List α,P r.reverse:=by
  intro r
  induction r with
  | nil=>exact bJ
  | cons a r bI=>rw [List.reverse_cons]; exact J _ _ bI
 have:=this l.reverse
 rwa [List.reverse_reverse] at this
theorem I1 (hb:tq b) {l:List α} (h:oY b l):(h0 b l).Pairwise (fun x y=>b x y=true):=by
 induction l using Qw with
 | bJ=>exact List.Pairwise.nil
 | J l x bI=>
   obtain⟨J,ab⟩:=h.snoc
   rw [JS]
   exact IA hb (bI J) fun a bh=>ab a (sA.1 bh)
theorem Er [Inhabited α] (hb:tq b):∀ {l:List α} {x:α} {k:Nat},l.Pairwise (fun x y=>b x y=true)→k < l.length→ (b (aA l k) x=true↔k < iE b l x)
 | [],x,k,_,av=>by simp at av
 | a :: l,x,k,hs,av=>by
   obtain⟨J,ab⟩:=List.pairwise_cons.1 hs
   unfold iE
   cases k with
   | zero=>
     have:aA (a :: l) 0=a:=rfl
     rw [this]
     split <;> simp_all
   | succ k=>
     have ji:k < l.length:=by simpa using av
     have he:aA (a :: l) (k + 1)=aA l k:=by rw [eB _ av,eB _ ji]; rfl
     rw [he,Er hb ab ji]
     split
     ·omega
     ·rename_i zA
      constructor
      ·intro cq
       have aZ:=(Er hb ab ji).2 cq
       have bn:=J (aA l k) (by rw [eB _ ji]; exact List.getElem_mem _)
       exact absurd (hb.trans _ _ _ bn aZ) zA
      ·intro h; omega
end Gv
namespace Go.Proofs.YtmnggbjcnoffeaaGreat
open Go Gv
set_option linter.unusedVariables false
set_option linter.unusedSimpArgs false
theorem HF {xs:List cn} {f:cn→Option Bool} {g:cn→Bool} (a8:∀ x∈xs,f x=some (g x)) (aq:xs.length < 2 ^ 62):
 bo (tH xs f) (fun r=>(r= -1∧ ∀ x∈xs,g x=false)∨ ∃ i:Nat,i < xs.length∧r=i∧g (aA xs i)=true∧ ∀ j,j < i→g (aA xs j)=false):=by
 unfold tH
 refine bo.loop xs.length (fun k s=>s=(k:Int)∧ ∀ j,j < k→g (aA xs j)=false) (by omega) ⟨rfl,fun j aF=>by omega⟩ (fun k s av al=> ?_) (fun s al=> ?_)
 ·obtain⟨az,aX⟩:=al; subst az
  refine bo.cond (fun _=> ?_) (fun h=>by simp at h; omega)
  refine .idx rfl av (.eq (a8 _ (by rw [eB xs av]; exact List.getElem_mem av)) (.cond (fun h=> .ret ?_) (fun h=> .ret ⟨e3 (by omega),fun j aF=> ?_⟩)))
  ·exact .ret (.inr ⟨k,av,rfl,h,aX⟩)
  ·by_cases kP:j=k
   ·subst kP; exact h
   ·exact aX j (by omega)
 ·obtain⟨az,aX⟩:=al; subst az
  refine⟨_,by simp; rfl,?_⟩
  refine .ret (.inl ⟨rfl,fun x an=> ?_⟩)
  obtain⟨j,aF,rfl⟩:=List.mem_iff_getElem.1 an
  rw [← eB xs aF]; exact aX j aF
end Go.Proofs.YtmnggbjcnoffeaaGreat
namespace Go.Proofs.YtmnggbjcnoffeaaGreat
open Go Gv
set_option linter.unusedVariables false
set_option linter.unusedSimpArgs false
set_option maxRecDepth 100000
theorem _root_.Gv.bo.get {β:Type} {m:Option β} {v:β} (h:bo m (fun r=>r=v)):m=some v:=by
 obtain⟨r,J,rfl⟩:=h; exact J
def Wc (kind b:Int) (m:ch) (x:ao):Bool:=
 if m.h1=false then true
 else if kind=1 then decide (x=m.bR)
 else if kind=2 then(List.range 128).all fun j=> !lead b m.gw j || (b4 x j ==b4 m.bR j)
 else if kind=3 then decide (yQ x m.bK=m.bR)
 else !MC x m.bR && !MC m.nW x
def mt (s:a3) (k:Nat) (p:Vector ao 4) (e:bE):Bool:=
 (List.range (aA s.bH k).b1.length).all fun i=>Wc (aA (aA s.bH k).b1 i).cI (lR (aA (aA s.bH k).b1 i)) (aA e.cA i) (cf p i)
theorem P1 {s:a3} (h:du s) {k:Nat} (av:k < 4) {e:bE} (he:e.dq=(k:Int) + 1):wS s e=some (aA s.bH k,true):=by
 refine bo.get ?_
 unfold wS
 rw [he]
 refine(AK h av).bind fun r aS=> ?_
 subst aS
 rw [show decide ((k:Int) < 0)=false from decide_eq_false (by omega),cond_false]
 exact .idx rfl (by have:=h.jz; omega) (.ret rfl)
def qo:List cn→List ch→Int
 | key :: aJ,m :: ms=>if key.cI=2 then m.gw else qo aJ ms
 | _,_=>0
theorem Es:∀ {aJ:List cn} {ms:List ch} {i:Nat},ms.length=aJ.length→i < aJ.length→ (aA aJ i).cI=2→ (∀ j,j < i→ (aA aJ j).cI≠2)→qo aJ ms=(aA ms i).gw
 | [],_,i,_,al,_,_=>by simp at al
 | key :: aJ,[],i,aq,_,_,_=>by simp at aq
 | key :: aJ,m :: ms,0,_,_,ab,_=>by
   have:(aA (key :: aJ) 0)=key:=rfl
   rw [this] at ab
   unfold qo; rw [if_pos ab]; rfl
 | key :: aJ,m :: ms,i + 1,aq,al,ab,aO=>by
   have bJ:=aO 0 (by omega)
   have:(aA (key :: aJ) 0)=key:=rfl
   rw [this] at bJ
   unfold qo; rw [if_neg bJ]
   have b0:∀ {β:Type} [Inhabited β] (x:β) (l:List β) (n:Nat),aA (x :: l) (n + 1)=aA l n:=fun x l n=>by simp [aA]
   rw [b0] at ab ⊢
   exact Es (by simpa using aq) (by simpa using al) ab fun j aF=>by have:=aO (j + 1) (by omega); rwa [b0] at this
theorem Et:∀ {aJ:List cn} {ms:List ch},(∀ key∈aJ,key.cI≠2)→qo aJ ms=0
 | [],_,_=>by unfold qo; rfl
 | key :: aJ,[],_=>by unfold qo; rfl
 | key :: aJ,m :: ms,aO=>by
   unfold qo; rw [if_neg (aO key (by simp))]
   exact Et fun k av=>aO k (by simp [av])
def rW (s:a3) (k:Nat) (e:bE):Int:=qo (aA s.bH k).b1 e.cA
theorem IB {s:a3} (h:du s) {k:Nat} (av:k < 4) {e:bE} (he:ig s k e):ue s e=some (rW s k e):=by
 obtain⟨t1,⟨t2,t3⟩,t4,_⟩:=h.iT av
 have hm:=he.len
 refine bo.get ?_
 unfold ue rW
 refine .eq (P1 h av he.iT) ?_
 simp only
 refine(HF (g:=fun key=>key.cI ==2) (fun x an=>rfl) (by omega)).bind fun r aS=> .eq rfl ?_
 rcases aS with⟨rfl,aS⟩ | ⟨i,J,rfl,aC,aU⟩
 ·refine .cond (fun _=> .ret ?_) (fun h=>by simp at h)
  rw [Et fun key hU=>by simpa using aS key hU]
 ·have dR:(!true || decide ((i:Int) < 0) || decide ((i:Int)≥ (e.cA.length:Int)))=false:=by simp; omega
  rw [dR,cond_false]
  refine .idx rfl (by omega) (.ret ?_)
  rw [Es hm J (by simpa using aC) fun j aF=>by simpa using aU j aF]
theorem IC {s:a3} (h:du s) {k:Nat} (av:k < 4) {e:bE} (he:ig s k e):ud s e=some (rW s k e):=by
 obtain⟨t1,⟨t2,t3⟩,t4,_⟩:=h.iT av
 have hm:=he.len
 refine bo.get ?_
 unfold ud rW
 rw [he.iT]
 refine(O9 h av).bind fun r aS=> ?_
 subst aS
 rw [show decide ((k:Int) < 0)=false from decide_eq_false (by omega),cond_false]
 refine .idx rfl (by have:=h.jz; omega) ?_
 refine bo.loop (aA s.bH k).b1.length (fun i st=>st=(i:Int)∧ ∀ j,j < i→ (aA (aA s.bH k).b1 j).cI≠2) (by omega) ⟨rfl,fun j aF=>by omega⟩ (fun i st al hs=> ?_) (fun st hs=> ?_)
 ·obtain⟨rfl,hs⟩:=hs
  refine .cond (fun _=> ?_) (fun h=>by simp at h; omega)
  refine .idx rfl al (.eq rfl (.cond (fun ar=> ?_) fun ar=> .ret ⟨e3 (by omega),fun j aF=> ?_⟩))
  ·simp only [Bool.and_eq_true,beq_iff_eq] at ar
   refine .idx rfl (by omega) (.ret ?_)
   simp only [Sum.elim_inr]
   exact .ret (Es hm al ar.1 hs).symm
  ·by_cases kr:j=i
   ·subst kr
    have hd:decide ((j:Int) < (e.cA.length:Int))=true:=by simp; omega
    rw [hd,Bool.and_true] at ar
    simpa using ar
   ·exact hs j (by omega)
 ·obtain⟨rfl,hs⟩:=hs
  rw [show decide (((aA s.bH k).b1.length:Int) < ((aA s.bH k).b1.length:Int))=false by simp]
  refine⟨_,rfl,?_⟩
  simp only [Sum.elim_inl]
  refine .ret (Et fun key hU=> ?_).symm
  obtain⟨j,aF,rfl⟩:=List.mem_iff_getElem.1 hU
  rw [← eB _ aF]; exact hs j aF
def e0 (s:a3) (k:Nat) (a c:aM):Bool:=
 decide (c.b5.gF < a.b5.gF∨ (a.b5.gF=c.b5.gF∧ (rW s k c.b5 < rW s k a.b5∨ (rW s k a.b5=rW s k c.b5∧c.cy < a.cy))))
theorem Bg (s:a3) (k:Nat):tq (e0 s k) where
 asymm x y h:=by
  unfold e0 at *
  rw [decide_eq_true_eq] at h
  rw [decide_eq_false_iff_not]; omega
 trans x y z h cJ:=by
  unfold e0 at *
  rw [decide_eq_true_eq] at *
  omega
theorem R1 {s:a3} {k:Nat} {a c:aM} (h:a.cy≠c.cy):rM (e0 s k) a c:=by
 unfold rM e0
 rw [decide_eq_true_eq,decide_eq_true_eq]; omega
def Hk (x y:Int):Int:=if x < y then -1 else if y < x then 1 else 0
theorem Eu (x y:Int):r3 x y=some (Hk x y):=by
 unfold r3 wJ Hk
 have:∀ z:Int,(z !=z)=false:=fun z=>by simp
 rw [this,this]
 simp only [Option.bind_some,cond_false]
 by_cases J:x < y
 ·simp [J]
 ·by_cases ab:y < x
  ·simp [J,ab]
  ·simp [J,ab]
theorem Qx (a c d:Int):wV [a,c,d]=some (if a≠0 then a else if c≠0 then c else d):=by
 refine bo.get ?_
 unfold wV
 refine bo.loop 3 (fun i st=>st=(i:Int)∧ ∀ j,j < i→aA [a,c,d] j=0) (by omega) ⟨rfl,fun j aF=>by omega⟩ (fun i st al hs=> ?_) (fun st hs=> ?_)
 ·obtain⟨rfl,hs⟩:=hs
  refine .cond (fun _=> ?_) (fun h=>by simp at h; omega)
  refine .idx rfl (by simpa using al) (.cond (fun ar=> .ret ?_) fun ar=> .ret ⟨e3 (by omega),fun j aF=> ?_⟩)
  ·simp only [Sum.elim_inr]
   refine .ret ?_
   have bJ:=hs 0
   have J:=hs 1
   rcases (show i=0∨i=1∨i=2 by omega) with rfl | rfl | rfl
   ·have:a≠0:=by simpa [aA] using ar
    rw [if_pos this]; rfl
   ·have:c≠0:=by simpa [aA] using ar
    have GH:a=0:=by simpa [aA] using bJ (by omega)
    rw [if_neg (by simpa using GH),if_pos this]; rfl
   ·have GH:a=0:=by simpa [aA] using bJ (by omega)
    have Wd:c=0:=by simpa [aA] using J (by omega)
    rw [if_neg (by simpa using GH),if_neg (by simpa using Wd)]; rfl
  ·by_cases kr:j=i
   ·subst kr; simpa using ar
   ·exact hs j (by omega)
 ·obtain⟨rfl,hs⟩:=hs
  refine⟨_,rfl,?_⟩
  simp only [Sum.elim_inl]
  refine .ret ?_
  have bJ:a=0:=by simpa [aA] using hs 0 (by omega)
  have J:c=0:=by simpa [aA] using hs 1 (by omega)
  have ab:d=0:=by simpa [aA] using hs 2 (by omega)
  simp [bJ,J,ab]
theorem Dt {s:a3} (h:du s) {k:Nat} (av:k < 4) {a c:aM} (bh:ig s k a.b5) (ar:ig s k c.b5):r8 s a c=some (e0 s k a c):=by
 unfold r8 e0
 rw [Eu,Option.bind_some,IB h av bh,Option.bind_some,IB h av ar,Option.bind_some,Eu,Option.bind_some,Eu,Option.bind_some,Qx,Option.bind_some]
 congr 1
 rw [decide_eq_decide]
 unfold Hk
 split <;> split <;> (repeat' split) <;> omega
theorem P2 {s:a3} (h:du s) {k:Nat} (av:k < 4) {a c:aM} (bh:ig s k a.b5) (ar:ig s k c.b5):wT s a c=some (e0 s k a c):=by
 refine bo.get ?_
 unfold wT e0
 refine .cond (fun J=> .ret ?_) fun J=> .eq (IC h av bh) (.eq (IC h av ar) (.cond (fun ab=> .ret ?_) fun ab=> .ret ?_))
 ·rw [decide_eq_decide]; simp at J; omega
 ·rw [decide_eq_decide]; simp at J ab; omega
 ·rw [decide_eq_decide]; simp at J ab; omega
end Go.Proofs.YtmnggbjcnoffeaaGreat
namespace Go.Proofs.YtmnggbjcnoffeaaGreat
open Go Gv
set_option linter.unusedVariables false
set_option linter.unusedSimpArgs false
theorem Hv {xs:List aM} {f:aM→Option Bool} {g:aM→Bool} (a8:∀ x∈xs,f x=some (g x)) (aq:xs.length < 2 ^ 62):
 bo (tE xs f) (fun r=>(r= -1∧ ∀ x∈xs,g x=false)∨ ∃ i:Nat,i < xs.length∧r=i∧g (aA xs i)=true∧ ∀ j,j < i→g (aA xs j)=false):=by
 unfold tE
 refine bo.loop xs.length (fun k s=>s=(k:Int)∧ ∀ j,j < k→g (aA xs j)=false) (by omega) ⟨rfl,fun j aF=>by omega⟩ (fun k s av al=> ?_) (fun s al=> ?_)
 ·obtain⟨az,aX⟩:=al; subst az
  refine bo.cond (fun _=> ?_) (fun h=>by simp at h; omega)
  refine .idx rfl av (.eq (a8 _ (by rw [eB xs av]; exact List.getElem_mem av)) (.cond (fun h=> .ret ?_) (fun h=> .ret ⟨e3 (by omega),fun j aF=> ?_⟩)))
  ·exact .ret (.inr ⟨k,av,rfl,h,aX⟩)
  ·by_cases kP:j=k
   ·subst kP; exact h
   ·exact aX j (by omega)
 ·obtain⟨az,aX⟩:=al; subst az
  refine⟨_,by simp; rfl,?_⟩
  refine .ret (.inl ⟨rfl,fun x an=> ?_⟩)
  obtain⟨j,aF,rfl⟩:=List.mem_iff_getElem.1 an
  rw [← eB xs aF]; exact aX j aF
end Go.Proofs.YtmnggbjcnoffeaaGreat
namespace Go.Proofs.YtmnggbjcnoffeaaGreat
open Go Gv
set_option linter.unusedVariables false
set_option linter.unusedSimpArgs false
set_option maxRecDepth 100000
structure ks (s:a3) (k:Nat) (i:aM):Prop where
 fp:ig s k i.b5
theorem Rl {i:aM} (J:i.b5.cA.length≤1000) (ab:i.b5.lq.length≤1000):qB i=some i:=by
 unfold qB AJ z1 z2
 rw [h2 _ _ (by simp; omega) (by omega),h2 _ _ (by simp; omega) (by omega)]
 rfl
theorem Ev {s:a3} (h:du s) {k:Nat} (av:k < 4) {i:aM} (al:ks s k i):qB i=some i:=by
 have J:=al.fp.len
 have ab:=al.fp.args
 have aC:=(h.iT av).2.1.2
 exact Rl (by omega) (by omega)
def jA (l:List aM) (n:Int):Bool:=l.any fun c=>c.cy ==n
theorem find_eq (x:dr) (n:Int) (aq:x.dE.length≤1000):bo (v8 x n) (fun r=>(r= -1∧jA x.dE n=false)∨ ∃ i:Nat,i < x.dE.length∧r=i∧ (aA x.dE i).cy=n∧jA x.dE n=true∧ ∀ j,j < i→ (aA x.dE j).cy≠n):=by
 unfold v8
 refine(Hv (g:=fun c=>c.cy ==n) (fun c ar=>rfl) (by omega)).bind fun r aS=> .ret ?_
 rcases aS with⟨J,ab⟩ | ⟨i,J,ab,aC,aU⟩
 ·exact .inl ⟨J,by unfold jA; rw [List.any_eq_false]; exact fun c ar=>by simp [ab c ar]⟩
 ·refine .inr ⟨i,J,ab,by simpa using aC,?_,fun j aF=>by simpa using aU j aF⟩
  unfold jA; rw [List.any_eq_true]
  exact⟨aA x.dE i,by rw [eB _ J]; exact List.getElem_mem _,aC⟩
theorem Qy {s:a3} (h:du s) {k:Nat} (av:k < 4) {x:dr} (an:x.nQ=s) {a c:aM} (bh:ks s k a) (ar:ks s k c):
 bo (tL x a c) (fun r=>r < 0↔e0 s k a c=true):=by
 unfold tL
 rw [an]
 refine .eq (Dt h av bh.fp ar.fp) (.cond (fun hb=> .ret ⟨fun _=>hb,fun _=>by omega⟩) fun hb=> .eq (Dt h av ar.fp bh.fp) (.cond (fun _=> .ret ?_) fun _=> .ret ?_))
 ·rw [hb]; simp
 ·rw [hb]; simp
theorem R2 {i j:Nat} (h:i + j < 2 ^ 62):bD ((BitVec.ofInt 64 (bD ((i:Int) + (j:Int)))) >>> (1#64).toNat).toNat=(((i + j) / 2:Nat):Int):=by
 rw [show(i:Int) + (j:Int)=((i + j:Nat):Int) by omega,hQ (x:=((i + j:Nat):Int)) (by omega) (by omega)]
 have:((BitVec.ofInt 64 ((i + j:Nat):Int)) >>> (1#64).toNat).toNat=(i + j) / 2:=by
  rw [BitVec.toNat_ushiftRight,ng (by omega)]
  rw [show(1#64).toNat=1 from rfl,Nat.shiftRight_eq_div_pow,Nat.pow_one]
 rw [this,hQ (by omega) (by omega)]
theorem P3 {l:List aM} {x:aM} {b:aM→aM→Bool} (hb:tq b) (hs:l.Pairwise (fun x y=>b x y=true)) (aq:l.length≤1000)
 {f:aM→aM→Option Int} (a8:∀ a∈l,bo (f a x) (fun r=>r < 0↔b a x=true)):
 bo (vS l x f) (fun r=>r.1=(iE b l x:Int)):=by
 unfold vS
 have fE:=Ep (b:=b) (l:=l) (x:=x)
 have vp:∀ h,h < l.length→aA l h∈l:=fun h ct=>by rw [eB _ ct]; exact List.getElem_mem _
 have nz:∀ q:Bool,bo ((dt (decide (((iE b l x:Nat):Int) < (l.length:Int))) true (idx l.length ((iE b l x:Nat):Int))).bind fun bZ=>
  (dt (decide (((iE b l x:Nat):Int) < (l.length:Int))) true (f (aA l bZ) x)).bind fun aP=>some (((iE b l x:Nat):Int),(decide (((iE b l x:Nat):Int) < (l.length:Int))) && (aP ==0))) (fun r=>r.1=(iE b l x:Int)):=fun _=>by
  refine .dt (P:=fun c=>c=iE b l x) (fun h=>⟨_,qZ (by simpa using h),rfl⟩) fun bZ ab=> .dt (P:=fun _=>True) (fun h=> ?_) fun aP _=> .ret rfl
  rw [ab h]
  exact(a8 _ (vp _ (by simpa using h))).mono fun _ _=>trivial
 refine bo.loop l.length (fun r st=> ∃ i j:Nat,st=((i:Int),(j:Int))∧i≤iE b l x∧iE b l x≤j∧j≤l.length∧j - i≤l.length - r) (by omega) ⟨0,l.length,rfl,by omega,by omega,by omega,by omega⟩ (fun r st aS j0=> ?_) (fun st j0=> ?_)
 ·obtain⟨i,j,rfl,J,ab,aC,aU⟩:=j0
  refine .cond (fun ar=> ?_) fun ar=> .ret ?_
  ·have eW:i < j:=by simpa using ar
   rw [R2 (by omega)]
   have hm:(i + j) / 2 < l.length:=by omega
   refine .idx rfl hm ((a8 _ (vp _ hm)).bind fun ak bB=> ?_)
   have cq:=Er hb (x:=x) hs hm
   refine .bind (P:=fun m=> ∃ i j:Nat,m=((i:Int),(j:Int))∧i≤iE b l x∧iE b l x≤j∧j≤l.length∧j - i≤l.length - (r + 1)) (.cond (fun a9=> .eq rfl (.ret ?_)) fun a9=> .ret ?_) fun m hm=> .ret ?_
   ·have:=cq.1 (bB.1 (by simpa using a9))
    refine⟨(i + j) / 2 + 1,j,?_,by omega,ab,aC,by omega⟩
    simp only [e3 (show(i + j) / 2 < 2 ^ 62 by omega)]
   ·have: ¬ (i + j) / 2 < iE b l x:=fun ct=>by
     have:=bB.2 (cq.2 ct)
     simp at a9; omega
    exact⟨i,(i + j) / 2,rfl,J,by omega,by omega,by omega⟩
   ·obtain⟨tz,MP,rfl,aZ⟩:=hm
    exact⟨tz,MP,rfl,aZ⟩
  ·have eW: ¬ i < j:=by simpa using ar
   have:i=iE b l x:=by omega
   subst this
   exact nz true
 ·obtain⟨i,j,rfl,J,ab,aC,aU⟩:=j0
  have eW:i=iE b l x:=by omega
  have ar:decide ((i:Int) < (j:Int))=false:=by simp; omega
  simp only [ar,cond_false]
  refine⟨_,rfl,?_⟩
  subst eW
  exact nz true
structure jl (s:a3) (k:Nat) (l:List aM):Prop where
 ok:∀ i∈l,ks s k i
 num:l.Pairwise fun a c=>a.cy≠c.cy
 len:l.length≤900
theorem jl.ME {s:a3} {k:Nat} {l:List aM} (h:jl s k l):oY (e0 s k) l:=h.num.imp fun ct=>R1 ct
theorem jl.h0 {s:a3} {k:Nat} {l:List aM} (h:jl s k l):(∀ i∈h0 (e0 s k) l,ks s k i)∧ (h0 (e0 s k) l).length≤900:=
 ⟨fun i al=>h.ok i (sA.1 al),by rw [R0]; exact h.len⟩
theorem JU {s:a3} {k:Nat} {l:List aM} {n:Int} :jA (h0 (e0 s k) l) n=jA l n:=by
 unfold jA
 rw [Bool.eq_iff_iff,List.any_eq_true,List.any_eq_true]
 exact⟨fun⟨c,J,ab⟩=>⟨c,sA.1 J,ab⟩,fun⟨c,J,ab⟩=>⟨c,sA.2 J,ab⟩⟩
theorem Rm {l:List aM} {n:Int} (h:jA l n=false):∀ c∈l,c.cy≠n:=fun c ar=>by
 unfold jA at h
 rw [List.any_eq_false] at h
 simpa using h c ar
theorem jl.snoc {s:a3} {k:Nat} {l:List aM} (h:jl s k l) {i:aM} (al:ks s k i) (aO:jA l i.cy=false) (aq:l.length < 900):jl s k (l ++ [i]) where
 ok c ar:=by
  rcases List.mem_append.1 ar with ar | ar
  ·exact h.ok c ar
  ·rw [List.mem_singleton.1 ar]; exact al
 num:=by
  rw [List.pairwise_append]
  exact⟨h.num,by simp,fun a bh c ar=>by rw [List.mem_singleton.1 ar]; exact Rm aO a bh⟩
 len:=by simp; omega
def vd (s:a3) (k:Nat) (l:List aM):dr:= { nQ:=s,dE:=h0 (e0 s k) l }
theorem R3 {s:a3} (h:du s) {k:Nat} (av:k < 4) {l:List aM} (aq:jl s k l) {i:aM} (al:ks s k i) (hlen:l.length < 900):
 v7 (vd s k l) i=some (!jA l i.cy,if jA l i.cy=true then vd s k l else vd s k (l ++ [i])):=by
 refine bo.get ?_
 unfold v7
 obtain⟨m4,iV⟩:=aq.h0
 refine .dt (fun _=>find_eq (vd s k l) _ (by show(h0 _ l).length≤1000; omega)) fun ak J=> ?_
 have J:=J rfl
 rw [Bool.false_or]
 rcases J with⟨rfl,ab⟩ | ⟨j,ab,rfl,aC,aU,aZ⟩
 ·have kq:jA l i.cy=false:=by rw [← ab]; exact JU.symm
  refine .cond (fun ar=>by simp at ar) fun _=> ?_
  refine(P3 (b:=e0 s k) (Bg s k) (I1 (Bg s k) aq.ME) (by omega) fun a bh=>Qy h av rfl (m4 a bh) al).bind fun aP cg=> .eq (Ev h av al) ?_
  rw [cg]
  unfold z0
  have fE:=Ep (b:=e0 s k) (l:=h0 (e0 s k) l) (x:=i)
  refine .eq (a:=h0 (e0 s k) (l ++ [i])) ?_ (.ret ?_)
  ·show yG 88 (h0 (e0 s k) l) _ _=_
   unfold yG
   have oc:maxLen=9223372036854775807:=rfl
   rw [if_pos ⟨by omega,by omega,by simp,by simp <;> omega,by simp <;> omega⟩,JS,Kx]
   simp
  ·rw [kq]; rfl
 ·have tp:jA l i.cy=true:=by rw [← aU]; exact JU.symm
  refine .cond (fun _=> .ret ?_) fun ar=>by simp at ar <;> omega
  rw [tp]; rfl
theorem Pw {s:a3} (h:du s) {k:Nat} (av:k < 4) {l:List aM} (aq:∀ i∈l,ks s k i) (aO:l.length≤1000):ui l=some l:=by
 refine bo.get ?_
 unfold ui
 refine bo.loop l.length (fun i st=>st=((i:Int),l.take i)) (by omega) rfl (fun i st al hs=> ?_) (fun st hs=> ?_)
 ·subst hs
  refine .cond (fun _=> ?_) (fun ar=>by simp at ar; omega)
  refine .idx rfl al (.eq (Ev h av (aq _ (by rw [eB _ al]; exact List.getElem_mem _))) (.eq (h2 _ _ (by simp; omega) (by omega)) (.ret ?_)))
  rw [e3 (by omega),pq l al]
 ·subst hs
  refine⟨_,by simp; rfl,.ret ?_⟩
  simp
theorem R4 {s:a3} (h:du s) {k:Nat} (av:k < 4) {l:List aM} (aq:jl s k l):v5 (vd s k l)=some (h0 (e0 s k) l):=by
 unfold v5
 obtain⟨m4,iV⟩:=aq.h0
 show Option.bind (ui (h0 (e0 s k) l)) _=_
 rw [Pw h av m4 (by omega)]; rfl
theorem ks.small {s:a3} (h:du s) {k:Nat} (av:k < 4) {i:aM} (al:ks s k i):i.b5.cA.length≤1000∧i.b5.lq.length≤1000:=by
 have J:=al.fp.len
 have ab:=al.fp.args
 have aC:=(h.iT av).2.1.2
 exact⟨by omega,by omega⟩
theorem Qz (c:bw):bo (wb c) (fun _=>True):=by
 unfold wb
 first | exact .ret trivial | exact .eq rfl (.ret trivial)
end Go.Proofs.YtmnggbjcnoffeaaGreat
namespace Go.Proofs.YtmnggbjcnoffeaaGreat
open Go Gv
set_option linter.unusedVariables false
set_option linter.unusedSimpArgs false
set_option maxRecDepth 100000
structure kd (hp:bb Cell) (t:Nat) (g:List Bool→Option Int):Prop where
 ok:∃ c,gh hp t=some c∧c.eN=32∧pL hp c.c5∧ ∀ bA,cont hp c.c5 bA=g bA
def Own (hp:bb Cell) (t q:Nat):Prop:=q=t∨ ∃ c bA,gh hp t=some c∧dA hp c.c5 bA=some q
def gz (v:ao) (n:Nat):List Bool:=(List.range n).map fun i=>b4 v (31 - i)
theorem ID (v:ao) (n:Nat):gz v (n + 1)=gz v n ++ [b4 v (31 - n)]:=by simp [gz,List.range_succ]
theorem I2 {hp:bb Cell} {t:Nat} {c:fY} (ar:gh hp t=some c) (hb:c.eN=32) {n:Nat} (aO:n≤32) {v:ao} (aY:∀ j,j < 128→b4 v j=true→lead 32 n j=true):
 tQ hp (some t) v n=some true:=by
 refine bo.get ?_
 unfold tQ
 have az:(Option.isSome (some t) && decide ((n:Int)≥0))=true:=by simp
 have aX:decide ((n:Int)≤c.eN)=true:=by rw [hb]; simp; omega
 refine .dt (P:=fun r=>r=t) (fun _=>⟨t,rfl,rfl⟩) fun dK J=> ?_
 rw [J az]
 refine .dt (P:=fun r=>r=c) (fun _=>⟨c,ar,rfl⟩) fun cK ab=> ?_
 rw [ab az]
 rw [az,aX]
 refine .dt (P:=fun r=>r=t) (fun _=>⟨t,rfl,rfl⟩) fun cB aC=> ?_
 rw [aC rfl]
 refine .dt (P:=fun r=>r=c) (fun _=>⟨c,ar,rfl⟩) fun dL aU=> ?_
 rw [aU rfl,hb]
 refine .dt (fun _=>Iz 32 n (by decide) (by decide)) fun ak aZ=> ?_
 refine .dt (P:=fun r=>r=yQ v ak) (fun _=>⟨_,and_eq v ak,rfl⟩) fun aP bn=> ?_
 refine .eq rfl (.ret ?_)
 have:aP=v:=by
  rw [bn rfl]
  refine Em fun j aF=> ?_
  rw [D3,aZ rfl j aF]
  cases e:b4 v j with
  | false=>rfl
  | true=>rw [aY j aF e]; rfl
 rw [this]; simp
theorem Ky {v:ao} {i:Nat} (al:i < 32):bo (ps v (bD ((bD ((32:Int) - 1)) - (i:Int)))) (fun r=>r=b4 v (31 - i)):=by
 have e:bD ((bD ((32:Int) - 1)) - (i:Int))=((31 - i:Nat):Int):=by
  rw [show bD ((32:Int) - 1)=31 from by rw [hQ (by decide) (by decide)]; rfl,hQ (by omega) (by omega)]; omega
 rw [e]
 refine(En v _).mono fun r aS=> ?_
 rw [aS]
 have:decide (0≤ ((31 - i:Nat):Int)∧ ((31 - i:Nat):Int) < 128)=true:=by rw [decide_eq_true_eq]; omega
 rw [this,Bool.true_and]; rfl
theorem Kz (b:Bool):(cond b (some (1:Int)) (some 0))=some ((hE b:Nat):Int):=by cases b <;> rfl
theorem TU {σ ε:Type} {hp:bb Cell} {t:Nat} {c:fY} (ar:gh hp t=some c) (hb:c.eN=32) (v:ao) {n:Nat} (aO:n≤32) {step:Int→σ→Option (σ ⊕ ε)} {b2:σ} {P:σ ⊕ ε→Prop} (e4:Nat→σ→Prop) (bJ:e4 0 b2)
 (hs:∀ i s,i < n→e4 i s→bo (step ((hE (b4 v (31 - i)):Nat):Int) s) (fun r=>match r with | .inl bV=>e4 (i + 1) bV | .inr e=>P (.inr e))) (he:∀ s,e4 n s→P (.inl s)):bo (r1 hp n v (some t) step b2) P:=by
 unfold r1
 refine bo.loop n (fun i s=>s.1=(i:Int)∧e4 i s.2) (by omega) ⟨rfl,bJ⟩ (fun i s al eP=> ?_) (fun s eP=> ?_)
 ·obtain⟨j,s⟩:=s; obtain⟨az,aX⟩:=eP
  simp only at az aX; subst az
  refine bo.cond (fun _=> ?_) (fun h=>by simp at h; omega)
  refine .eq rfl (.eq ar ?_)
  rw [hb]
  refine(Ky (by omega)).bind fun ak J=> .eq (Kz ak) ?_
  rw [J]
  refine(hs i s al aX).bind fun r aS=> ?_
  cases r with
  | inl bV=>exact .ret ⟨e3 (by omega),aS⟩
  | inr e=>exact .ret (.ret aS)
 ·obtain⟨j,s⟩:=s; obtain⟨az,aX⟩:=eP
  simp only at az aX; subst az
  refine⟨_,by simp; rfl,?_⟩
  exact .ret (he s aX)
theorem TV {σ ε:Type} {t:Nat} (v:ao) {n:Nat} (aO:n≤32) {hq:σ→bb Cell} {step:Int→σ→aG (σ ⊕ ε)} {b2:σ} {P:σ ⊕ ε→Prop} (e4:Nat→σ→Prop) (bJ:e4 0 b2) (jG:∀ i s,e4 i s→ ∃ c,gh (hq s) t=some c∧c.eN=32)
 (hs:∀ i s,i < n→e4 i s→dY (step ((hE (b4 v (31 - i)):Nat):Int) s) (fun r=>match r with | .inl bV=>e4 (i + 1) bV | .inr e=>P (.inr e))) (he:∀ s,e4 n s→P (.inl s)):dY (r2 n v (some t) hq step b2) P:=by
 unfold r2
 refine .bind (P:=fun e=>match e with | .inl e=>P (.inl e.2.2) | .inr e=>P (.inr e.2.2.2.2.2.2)) (dY.loop n (fun i s=>s.1=(i:Int)∧e4 i s.2) (by omega) ⟨rfl,bJ⟩ (fun i s al eP=> ?_) (fun s eP=> ?_)) fun e h=> ?_
 ·obtain⟨j,s⟩:=s; obtain⟨az,aX⟩:=eP
  simp only at az aX; subst az
  refine dY.cond (fun _=> ?_) (fun h=>by simp at h; omega)
  obtain⟨c,ar,hb⟩:=jG i s aX
  refine .eq rfl (.eq ar ?_)
  rw [hb]
  refine .ov (Ky (by omega)) fun ak J=> .eq (Kz ak) ?_
  rw [J]
  refine .bind (hs i s al aX) fun r aS=> ?_
  cases r with
  | inl bV=>exact .ret ⟨e3 (by omega),aS⟩
  | inr e=>exact .ret aS
 ·obtain⟨j,s⟩:=s; obtain⟨az,aX⟩:=eP
  simp only at az aX; subst az
  refine dY.cond (fun h=>by simp at h) fun _=> .ret (he s aX)
 ·cases e with
  | inl e=>exact .ret h
  | inr e=>exact .ret h
theorem Jk {hp:bb Cell} {t:Nat} {c:fY} (ar:gh hp t=some c) (hb:c.eN=32) (b9:pL hp c.c5) {n:Nat} (aO:n≤32) {v:ao} (aY:∀ j,j < 128→b4 v j=true→lead 32 n j=true):
 tU hp (some t) v n=some (dA hp c.c5 (gz v n)):=by
 refine bo.get ?_
 unfold tU
 refine .eq (I2 ar hb aO aY) (.cond (fun h=>by cases h) fun _=> .eq rfl (.eq ar (.eq rfl ?_)))
 show bo (Option.bind (r1 hp (n:Int) v (some t) _ _) _) _
 refine bo.bind (P:=fun e:Ref ⊕ (Ref × Ref)=>e.elim (fun s=>s=dA hp c.c5 (gz v n)) (fun q=>q.2=dA hp c.c5 (gz v n))) (TU ar hb v aO (fun i s=>s=dA hp c.c5 (gz v i)) sn.symm (fun i s al hs=> ?_) (fun s hs=>hs)) fun e he=> ?_
 ·refine .cond (fun h=> .ret ?_) fun h=> ?_
  ·rw [Option.isNone_iff_eq_none] at h
   have az:gz v n=gz v i ++ (gz v n).drop i:=by
    have:gz v i=(gz v n).take i:=by unfold gz; rw [← List.map_take,List.take_range]; congr 2; omega
    rw [this,List.take_append_drop]
   show(none:Ref)=_
   rw [az,oG,← hs,h,h3]
  ·cases s with
   | none=>simp at h
   | some p=>
     obtain⟨cK,J⟩:=b9.reads _ _ hs.symm
     refine .eq rfl (.idx rfl (by cases b4 v (31 - i) <;> decide) (.eq J (.ret ?_)))
     show cf cK.e6 _=_
     rw [ID,oG,← hs,jN J,sn]
 ·cases e with
  | inl s=>exact .ret he
  | inr q=>exact .ret he
theorem R5 {hp:bb Cell} {t:Nat} {g:List Bool→Option Int} (h:kd hp t g) {n:Nat} (aO:n≤32) {v:ao} (aY:∀ j,j < 128→b4 v j=true→lead 32 n j=true):
 tZ hp (some t) v n=some (match g (gz v n) with | none=>(0,false) | some id=>(id,true)):=by
 obtain⟨c,ar,hb,b9,b0⟩:=h.ok
 refine bo.get ?_
 unfold tZ
 refine .eq (Jk ar hb b9 aO aY) ?_
 rw [← b0]
 cases e:dA hp c.c5 (gz v n) with
 | none=>
   rw [nT e]
   refine .dt (P:=fun _=>True) (fun h=>by cases h) fun o _=> .dt (P:=fun _=>True) (fun h=>by cases h) fun o _=> .cond (fun _=> .ret rfl) fun h=>by cases h
 | some p=>
   obtain⟨d,hd⟩:=b9.reads _ _ e
   rw [mA e hd]
   refine .dt (P:=fun r=>r=p) (fun _=>⟨p,rfl,rfl⟩) fun o J=> ?_
   rw [J rfl]
   refine .dt (P:=fun r=>r=d) (fun _=>⟨d,hd,rfl⟩) fun cK ab=> ?_
   rw [ab rfl]
   refine .cond (fun h=> ?_) fun h=> ?_
   ·have:d.e7=false:=by simpa using h
    rw [this]; exact .ret rfl
   ·have:d.e7=true:=by simpa using h
    rw [this]; exact .eq rfl (.eq hd (.ret rfl))
end Go.Proofs.YtmnggbjcnoffeaaGreat
namespace Go.Proofs.YtmnggbjcnoffeaaGreat
open Go Gv
set_option linter.unusedVariables false
set_option linter.unusedSimpArgs false
set_option maxRecDepth 100000
structure B0 (ml hp:bb Cell) (t:Nat) (g:List Bool→Option Int) (r:Nat):Prop where
 cell:∃ c,gh hp t=some c∧c.eN=32∧c.c5=some r
 tree:pL hp (some r)
 cont:∀ bA,cont hp (some r) bA=g bA
 keeps:gi ml hp (Own ml t)
 own:∀ bA q,dA hp (some r) bA=some q→Own ml t q∨q ∉ ec ml
theorem xc {hp:bb Cell} {a t:Nat} {k:Cell} (bh:a ∉ ec hp) (h:pat hp t=some k):a≠t:=fun e=>bh (e ▸ kC h)
theorem Jl {hp:bb Cell} {a:Nat} {x:ew} :dh ((a,.gJ x) :: hp) a=some x:=by rw [pw,qS,if_pos rfl]
theorem Px {hp:bb Cell} {a:Nat} (bh:a ∉ ec hp):dh hp a=none:=by unfold dh; rw [Qq bh]
theorem DH {hp:bb Cell} {p:Nat} {k:Cell} {x:ew} (h:pat hp p=some k):dh (dz hp p (.gJ x)) p=some x:=by rw [pw,uU h]
theorem sd {hp:bb Cell} {p q:Nat} {k:Cell} (h:p≠q):dh (dz hp p k) q=dh hp q:=w0 (qL h)
theorem Ij {hp:bb Cell} {a q:Nat} {k:Cell} (h:a≠q):dh ((a,k) :: hp) q=dh hp q:=w0 (by rw [qS,if_neg h])
theorem QA {hp:bb Cell} {p:Nat} {k:Cell} {x:fY} (h:pat hp p=some k):gh (dz hp p (.jb x)) p=some x:=by rw [qM,uU h]
theorem De {hp:bb Cell} {p q:Nat} {k:Cell} (h:p≠q):gh (dz hp p k) q=gh hp q:=Dd (qL h)
theorem Ik {hp:bb Cell} {a q:Nat} {k:Cell} (h:a≠q):gh ((a,k) :: hp) q=gh hp q:=Dd (by rw [qS,if_neg h])
theorem Lt {hp:bb Cell} {p t:Nat} {x:ew} {c:fY} (J:dh hp p=some x) (ab:gh hp t=some c):p≠t:=fun e=>by
 subst e
 rw [pw] at J; rw [qM,J] at ab; cases ab
theorem R6 {hp:bb Cell} {t:Nat} {g:List Bool→Option Int} {c:fY} (ar:gh hp t=some c) (hb:c.eN=32) (b9:pL hp c.c5) (b0:∀ bA,cont hp c.c5 bA=g bA):
 dY (cond c.c5.isNone (
     aG.bind (aG.mk hp (Cell.gJ (default:ew))) fun ei=>
     aG.bind (aG.of (gh ei.2 t)) fun zG=>
     aG.bind (aG.of (some (dz ei.2 t (Cell.jb ({ zG with c5:=(some ei.1:Ref) } :fY))))) fun y0=>
     aG.ret y0) (aG.ret hp)) (fun dy=> ∃ r,B0 hp dy t g r):=by
 have jE:=qM.1 ar
 refine .cond (fun h=> .mk fun a bh=> ?_) fun h=> ?_
 ·have aS:c.c5=none:=by rw [Option.isNone_iff_eq_none] at h; exact h
  have MF:=xc bh jE
  have B8:gh ((a,Cell.gJ default) :: hp) t=some c:=by rw [Ik MF]; exact ar
  refine .eq B8 (.eq rfl (.ret ⟨a,?_⟩))
  have aO:dh (dz ((a,Cell.gJ default) :: hp) t (.jb { c with c5:=some a })) a=some default:=by
   rw [sd MF.symm,Jl]
  have a8:=I0 aO
  refine⟨⟨_,QA (qM.1 B8),hb,rfl⟩,⟨fun bA p J=> ?_,fun bA cs p J ab=> ?_,fun bA p J=> ?_⟩,fun bA=> ?_,?_,fun bA q J=> ?_⟩
  ·rw [a8] at J
   split at J
   ·cases J; exact⟨_,aO⟩
   ·cases J
  ·rw [a8] at J ab
   split at J <;> split at ab
   ·rename_i az aX; rw [az,aX]
   ·cases ab
   ·cases J
   ·cases J
  ·rw [a8] at J
   split at J
   ·rename_i e; rw [e]; exact Nat.zero_le _
   ·cases J
  ·rw [← b0,aS,nT h3]
   by_cases e:bA= []
   ·rw [mA (by rw [a8,if_pos e]) aO]; rfl
   ·rw [nT (by rw [a8,if_neg e])]
  ·exact(gi.mk' bh).trans (own':=fun q=>q=t) (gi.up (own:=fun q=>q=t) rfl) fun q _ J=> .inl J
  ·rw [a8] at J
   split at J
   ·cases J; exact .inr bh
   ·cases J
 ·cases aS:c.c5 with
  | none=>rw [aS] at h; cases h
  | some r=>
    rw [aS] at b9 b0
    exact .ret ⟨r,⟨c,ar,hb,aS⟩,b9,b0,.refl,fun bA q J=> .inl (.inr ⟨c,bA,ar,by rw [aS]; exact J⟩)⟩
theorem TW {hp:bb Cell} {t:Nat} {g:List Bool→Option Int} (h:kd hp t g) {n:Nat} (aO:n≤32) {v:ao} (aY:∀ j,j < 128→b4 v j=true→lead 32 n j=true) (id:Int) (fU:g (gz v n)=none):
 dY (tY hp (some t) v n id) (fun r=>r.1=true∧kd r.2 t (fun bA=>if bA=gz v n then some id else g bA)∧gi hp r.2 (Own hp t)∧ ∀ q,Own r.2 t q→Own hp t q∨q ∉ ec hp):=by
 obtain⟨c,ar,hb,b9,b0⟩:=h.ok
 unfold tY
 refine .eq (I2 ar hb aO aY) (.cond (fun h=>by cases h) fun _=> .eq (Jk ar hb b9 aO aY) ?_)
 refine .dt (P:=fun o=>dA hp c.c5 (gz v n)=some o) (fun J=> ?_) fun dK J=> ?_
 ·cases e:dA hp c.c5 (gz v n) with
  | none=>rw [e] at J; cases J
  | some p=>exact⟨p,rfl,rfl⟩
 refine .dt (P:=fun d=>dh hp dK=some d) (fun ab=> ?_) fun cK ab=> ?_
 ·obtain⟨d,hd⟩:=b9.reads _ _ (J ab)
  exact⟨d,hd,hd⟩
 refine .cond (fun aC=> ?_) fun _=> ?_
 ·simp only [Bool.and_eq_true] at aC
  rw [← b0,mA (J aC.1) (ab aC.1),aC.2] at fU
  cases fU
 refine .eq rfl (.eq ar (.bind (R6 ar hb b9 b0) fun bO cM=> ?_))
 obtain⟨r,cM⟩:=cM
 obtain⟨fV,mU,zB,We⟩:=cM.cell
 refine .eq mU (.eq rfl ?_)
 show dY (aG.bind (r2 (n:Int) v (some t) _ _ _) _) _
 refine .bind (P:=fun e:(Ref × bb Cell) ⊕ Empty=> ∃ p eE,e= .inl (some p,eE)∧dA eE (some r) (gz v n)=some p∧B0 hp eE t g r) (TV v aO (fun i s=> ∃ p,s.1=some p∧dA s.2 (some r) (gz v i)=some p∧B0 hp s.2 t g r) ⟨r,We,sn,cM⟩ (fun i s al=> ?_) (fun i s al hs=> ?_) (fun s hs=> ?_)) fun e he=> ?_
 ·obtain⟨p,_,_,hm⟩:=al
  obtain⟨d,aU,aZ,_⟩:=hm.cell
  exact⟨d,aU,aZ⟩
 ·obtain⟨Wf,eE⟩:=s
  obtain⟨p,az,aX,hm⟩:=hs
  simp only at az aX hm
  subst az
  obtain⟨d,hd⟩:=hm.tree.reads _ _ aX
  have cq:hE (b4 v (31 - i)) < 2:=by cases b4 v (31 - i) <;> decide
  refine .eq rfl (.idx rfl cq (.eq hd ?_))
  refine .bind (P:=fun hV=> ∃ q Hl,dh hV p=some Hl∧cf Hl.e6 (hE (b4 v (31 - i)))=some q∧dA hV (some r) (gz v i)=some p∧B0 hp hV t g r) (.cond (fun bn=> .mk fun a bh=> ?_) fun bn=> .ret ?_) fun hV cE=> ?_
  ·have Ct:cf d.e6 (hE (b4 v (31 - i)))=none:=by rw [Option.isNone_iff_eq_none] at bn; exact bn
   have MG:=xc bh (pw.1 hd)
   have jh:dh ((a,Cell.gJ default) :: eE) p=some d:=by rw [Ij MG]; exact hd
   refine .idx rfl cq (.eq jh (.eq rfl (.ret ?_)))
   have fE:dh (dz ((a,Cell.gJ default) :: eE) p (.gJ { d with e6:=c1 d.e6 (hE (b4 v (31 - i))) (some a) })) a=some default:=by
    rw [sd MG.symm,Jl]
   have eX:dh (dz ((a,Cell.gJ default) :: eE) p (.gJ { d with e6:=c1 d.e6 (hE (b4 v (31 - i))) (some a) })) p=some { d with e6:=c1 d.e6 (hE (b4 v (31 - i))) (some a) } :=DH (pw.1 jh)
   obtain⟨ax,a1,br⟩:=grow (by unfold gz; simp; omega) hm.tree aX hd Ct (Px bh) eX fE fun q ou nF=>by rw [sd ou.symm,Ij nF.symm]
   have yR:Own hp t p∨p ∉ ec hp:=hm.own _ _ aX
   refine⟨a,_,eX,by rw [gv _ _ cq,if_pos rfl],by rw [a1,if_neg (fun e=>by have:=congrArg List.length e; simp at this)]; exact aX,?_,ax,fun bA=>by rw [br,hm.cont],?_,fun bA q hq=> ?_⟩
   ·obtain⟨d4,aU,aZ,dW⟩:=hm.cell
    have jE:=Lt hd aU
    exact⟨d4,by rw [De jE,Ik (xc bh (qM.1 aU))]; exact aU,aZ,dW⟩
   ·refine hm.keeps.trans (own':=fun q=>q=p) ((gi.mk' bh).trans (own':=fun q=>q=p) (gi.up (own:=fun q=>q=p) rfl) fun q _ fl=>fl) fun q hq fl=> ?_
    subst fl
    exact yR.resolve_right fun iS=>iS hq
   ·rw [a1] at hq
    split at hq
    ·cases hq; exact .inr fun fl=>bh (hm.keeps.keys _ fl)
    ·exact hm.own _ _ hq
  ·cases Ct:cf d.e6 (hE (b4 v (31 - i))) with
   | none=>rw [Ct] at bn; cases bn
   | some q=>exact⟨q,d,hd,Ct,aX,hm⟩
  ·obtain⟨q,Hl,dW,fl,iS,o7⟩:=cE
   refine .idx rfl cq (.eq dW (.ret ⟨q,fl,?_,o7⟩))
   show dA hV (some r) (gz v (i + 1))=some q
   rw [ID,oG,iS,jN dW,fl,sn]
 ·obtain⟨Wf,eE⟩:=s
  obtain⟨p,az,aX,hm⟩:=hs
  simp only at az aX hm
  subst az
  exact⟨p,eE,rfl,aX,hm⟩
 ·obtain⟨p,eE,rfl,aX,hm⟩:=he
  obtain⟨d,hd⟩:=hm.tree.reads _ _ aX
  have Wg:=pw.1 hd
  refine .eq rfl (.eq hd (.eq rfl (.eq rfl ?_)))
  have jh:dh (dz eE p (.gJ { d with e7:=true })) p=some { d with e7:=true } :=DH Wg
  refine .eq jh (.eq rfl (.ret ?_))
  have qd:dh (dz (dz eE p (.gJ { d with e7:=true })) p (.gJ { d with e7:=true,mL:=id })) p=some { d with e7:=true,mL:=id } :=DH (pw.1 jh)
  obtain⟨s1,s2⟩:=U5 hm.tree aX hd qd rfl fun q hq=>by rw [sd hq.symm,sd hq.symm]
  obtain⟨d4,aU,aZ,dW⟩:=hm.cell
  have jE:=Lt hd aU
  have tp:gh (dz (dz eE p (.gJ { d with e7:=true })) p (.gJ { d with e7:=true,mL:=id })) t=some d4:=by rw [De jE,De jE]; exact aU
  have yR:Own hp t p∨p ∉ ec hp:=hm.own _ _ aX
  refine⟨rfl,⟨d4,tp,aZ,by rw [dW]; exact s1,fun bA=> ?_⟩,?_,fun q hq=> ?_⟩
  ·rw [dW,s2,hm.cont]; rfl
  ·refine hm.keeps.trans (own':=fun q=>q=p) ((gi.up (own:=fun q=>q=p) rfl).trans (own':=fun q=>q=p) (gi.up (own:=fun q=>q=p) rfl) fun q _ fl=>fl) fun q hq fl=> ?_
   subst fl
   exact yR.resolve_right fun iS=>iS hq
  ·rcases hq with rfl | ⟨iX,bA,J,ab⟩
   ·exact .inl (.inl rfl)
   ·rw [tp] at J; cases J
    rw [dW,AW hd qd rfl (fun q hq=>by rw [sd hq.symm,sd hq.symm])] at ab
    exact hm.own _ _ ab
end Go.Proofs.YtmnggbjcnoffeaaGreat
namespace Go.Proofs.YtmnggbjcnoffeaaGreat
open Go Gv
set_option linter.unusedVariables false
set_option linter.unusedSimpArgs false
set_option maxRecDepth 100000
def enc:Option (Nat × Int)→Int × Int × Bool
 | none=>(0,0,false)
 | some (n,id)=>((n:Int),id,true)
end Go.Proofs.YtmnggbjcnoffeaaGreat
namespace Go.Proofs.YtmnggbjcnoffeaaGreat
open Go Gv
set_option linter.unusedVariables false
set_option linter.unusedSimpArgs false
set_option maxRecDepth 100000
theorem du.Cu {s:a3} (h:du s):∃ eu fF hk,∀ k,k < 4→l9 (aA s.bH k)=aA (p5 eu fF hk) k:=by
 obtain⟨eu,fF,hk,e⟩:=h.tables
 refine⟨eu,fF,hk,fun k av=> ?_⟩
 rw [← e,xj l9 (by rw [h.jz]; exact av)]
theorem sg (t:bN) {r:Int × Int} (aJ:List cn) (av:t.b1=aJ) (h:ub { (default:bN) with b1:=aJ } =some r):ub t=some r:=by
 subst av
 exact h
def m5 (k:Nat):Int:=aA [1,2,3,3] k
theorem P4 {s:a3} (h:du s) {k:Nat} (av:k < 4):bo (ub (aA s.bH k)) (fun r=>r.1=m5 k∧ (k=1→r.2=0)):=by
 obtain⟨eu,fF,hk,e⟩:=h.Cu
 have e:=e k av
 have gq:(aA s.bH k).b1=(aA (p5 eu fF hk) k).2.2:=congrArg (·.2.2) e
 have:k=0∨k=1∨k=2∨k=3:=by omega
 rcases this with rfl | rfl | rfl | rfl
 ·exact⟨_,sg _ [rU] gq rfl,rfl,fun h=>by simp at h⟩
 ·cases eu
  ·exact⟨_,sg _ [tx] gq rfl,rfl,fun _=>rfl⟩
  ·exact⟨_,sg _ [tx,Hh] gq rfl,rfl,fun _=>rfl⟩
 ·cases fF
  ·exact⟨_,sg _ [zT,zv] gq rfl,rfl,fun h=>by simp at h⟩
  ·exact⟨_,sg _ [zT,zv,Hi] gq rfl,rfl,fun h=>by simp at h⟩
 ·cases hk
  ·exact⟨_,sg _ [zU] gq rfl,rfl,fun h=>by simp at h⟩
  ·exact⟨_,sg _ [zU,Hj,tx] gq rfl,rfl,fun h=>by simp at h⟩
structure vv (s:a3) (k:Nat) (ml hp:bb Cell) (p:Nat):Prop where
 cell:∃ c m,iN hp p=some c∧c.pI=m5 k∧c.pJ=((aA s.bH k).b1.length:Int)∧c.lV=⟨some m⟩∧mK hp m=some []∧
  (k=0→ ∃ q cD,c.js= .mN ⟨some q⟩∧ns hp q=some ⟨⟨some cD⟩⟩∧l6 hp cD=some []∧q ∉ ec ml∧cD ∉ ec ml)∧
  (k=1→ ∃ fj,c.js= .mO ⟨0,32,⟨some fj⟩⟩∧jw hp fj=some []∧fj ∉ ec ml)∧
  (2≤k→ ∃ q key cap,c.js= .mP ⟨some q⟩∧nt hp q=some (({ nQ:=s,dE:= [] } :dr),key,cap)∧q ∉ ec ml)∧
  p ∉ ec ml∧m ∉ ec ml∧ (∀ q,q∈ec ml→q∈ec hp)∧ ∀ q,q∈ec ml→pat hp q=pat ml q
theorem TX {s:a3} (h:du s) {k:Nat} (av:k < 4) (hp:bb Cell):dY (uq hp s ((k:Int) + 1)) (fun r=> ∃ p,r.1=some p∧vv s k hp r.2 p):=by
 unfold uq
 refine .ov (AK h av) fun ak az=> ?_
 subst az
 refine .cond (fun ar=>by simp at ar; omega) fun _=> ?_
 refine .idx rfl (by rw [h.jz]; exact av) (.ov (P4 h av) fun aP ab=> .mk fun m hm=> .eq rfl (.mk fun p dy=> ?_))
 obtain⟨WN,key⟩:=aP
 obtain⟨ab,aC⟩:=ab
 simp only at ab aC dy
 subst ab
 have mh:p≠m:=fun e=>by subst e; simp [ec] at dy
 have:k=0∨k=1∨2≤k:=by omega
 rcases this with rfl | rfl | c7
 ·have e:(m5 0 ==1)=true:=rfl
  simp only [e,cond_true]
  unfold AG
  refine .bind (P:=fun eE=>vv s 0 hp eE p) (.bind (P:=fun r=> ∃ q cD,r=((some q:Ref),(q,Cell.ve ⟨⟨some cD⟩⟩) :: (cD,Cell.n5 []) :: (p,_) :: (m,Cell.k3 []) :: hp)∧cD ∉ ec ((p,_) :: (m,Cell.k3 []) :: hp)∧q ∉ ec ((cD,Cell.n5 []) :: (p,_) :: (m,Cell.k3 []) :: hp)) (.mk fun cD dS=> .mk fun q hq=> .ret ⟨q,cD,rfl,dS,hq⟩) fun bc aU=> ?_) fun eE aZ=> .ret ⟨p,rfl,aZ⟩
  obtain⟨q,cD,rfl,dS,hq⟩:=aU
  simp only [ec,List.map_cons,List.mem_cons,not_or] at dS hq dy
  refine .eq (by simp [iN,pat,hq.1,hq.2,dS.1,hq.2.2.1,Ne.symm]; rfl) (.eq rfl (.ret ?_))
  refine⟨{ pI:=m5 0,pJ:=((aA s.bH 0).b1.length:Int),js:= .mN ⟨some q⟩,lV:=⟨some m⟩ },m,?_,rfl,rfl,rfl,?_,?_,fun ar=>by simp at ar,fun ar=>by simp at ar,dy.2,hm,fun x an=>by rw [sl]; exact List.mem_cons_of_mem _ (List.mem_cons_of_mem _ (List.mem_cons_of_mem _ (List.mem_cons_of_mem _ an))),fun x an=> ?_⟩
  ·simp [iN,pat,dz,hq.1,hq.2,dS.1,hq.2.2.1]
  ·simp [mK,pat,dz,hq.1,hq.2,dS.1,hq.2.2.1,dS.2.1,dy.1]
  ·intro _
   refine⟨q,cD,rfl,?_,?_,hq.2.2.2,dS.2.2⟩
   ·simp [ns,pat,dz,hq.1,hq.2,dS.1,hq.2.2.1,dS.2.1,dy.1]
   ·simp [l6,pat,dz,hq.1,hq.2,dS.1,hq.2.2.1,dS.2.1,dy.1]
  ·have tA:q≠x:=fun e=>hq.2.2.2 (by rw [e]; exact an)
   have Hm:cD≠x:=fun e=>dS.2.2 (by rw [e]; exact an)
   have zW:p≠x:=fun e=>dy.2 (by rw [e]; exact an)
   have zX:m≠x:=fun e=>hm (by rw [e]; exact an)
   simp [xv,pat,tA,Hm,zW,zX]
 ·have e:(m5 1 ==1)=false:=rfl
  have aX:(m5 1 ==2)=true:=rfl
  simp only [e,aX,cond_true,cond_false]
  have aC:=aC rfl
  subst aC
  obtain⟨t1,⟨t2,t3⟩,t4,_⟩:=h.iT av
  have a8:(aA (aA s.bH 1).b1 0).ga=((6:Nat):Int) + 1:=by
   obtain⟨eu,fF,hk,e⟩:=h.Cu
   have e:=congrArg (·.2.2) (e 1 av)
   show(aA (l9 (aA s.bH 1)).2.2 0).ga=_
   rw [e]
   cases eu <;> rfl
  refine .bind (P:=fun eE=>vv s 1 hp eE p) (.bind (P:=fun eE=>vv s 1 hp eE p) ?_ fun _ bn=> .ret bn) fun eE aZ=> .ret ⟨p,rfl,aZ⟩
  refine .idx (k:=0) rfl (by omega) ?_
  simp only [a8]
  refine .ov (Ii h (show 6 < 9 by decide)) fun bf eZ=> ?_
  subst eZ
  refine .ov (P:=fun r=>r=32) (.cond (fun _=> .idx rfl (by rw [h.rp]; decide) (.ret (h.tn (show 6 < 9 by decide)).2)) (fun ar=>by simp at ar)) fun b hb=> ?_
  subst hb
  refine .mk fun fj hh=> ?_
  simp only [ec,List.map_cons,List.mem_cons,not_or] at hh dy
  refine .eq rfl (.eq (by simp [iN,pat,hh.1]; rfl) (.eq rfl (.ret ?_)))
  refine⟨{ pI:=m5 1,pJ:=((aA s.bH 1).b1.length:Int),js:= .mO ⟨0,32,⟨some fj⟩⟩,lV:=⟨some m⟩ },m,?_,rfl,rfl,rfl,?_,fun ar=>by simp at ar,?_,fun ar=>by simp at ar,dy.2,hm,fun x an=>by rw [sl]; exact List.mem_cons_of_mem _ (List.mem_cons_of_mem _ (List.mem_cons_of_mem _ an)),fun x an=> ?_⟩
  ·simp [iN,pat,dz,hh.1]
  ·simp [mK,pat,dz,hh.1,hh.2.1,dy.1]
  ·intro _
   refine⟨fj,rfl,?_,hh.2.2⟩
   simp [jw,pat,dz,hh.1,hh.2.1,dy.1]
  ·have tA:fj≠x:=fun e=>hh.2.2 (by rw [e]; exact an)
   have zW:p≠x:=fun e=>dy.2 (by rw [e]; exact an)
   have zX:m≠x:=fun e=>hm (by rw [e]; exact an)
   simp [xv,pat,tA,zW,zX]
 ·have e:(m5 k ==1)=false:=by
   have:k=2∨k=3:=by omega
   rcases this with rfl | rfl <;> rfl
  have aX:(m5 k ==2)=false:=by
   have:k=2∨k=3:=by omega
   rcases this with rfl | rfl <;> rfl
  simp only [e,aX,cond_true,cond_false]
  refine .bind (P:=fun eE=>vv s k hp eE p) (.bind (P:=fun eE=>vv s k hp eE p) ?_ fun _ bn=> .ret bn) fun eE aZ=> .ret ⟨p,rfl,aZ⟩
  refine .eq rfl (.any fun fi=> .mk fun q hq=> ?_)
  simp only [ec,List.map_cons,List.mem_cons,not_or] at hq dy
  refine .eq (by simp [iN,pat,hq.1]; rfl) (.eq rfl (.ret ?_))
  refine⟨{ pI:=m5 k,pJ:=((aA s.bH k).b1.length:Int),js:= .mP ⟨some q⟩,lV:=⟨some m⟩ },m,?_,rfl,rfl,rfl,?_,fun ar=>by omega,fun ar=>by omega,fun _=>⟨q,fi.1,fi.2,rfl,?_,hq.2.2⟩,dy.2,hm,fun x an=>by rw [sl]; exact List.mem_cons_of_mem _ (List.mem_cons_of_mem _ (List.mem_cons_of_mem _ an)),fun x an=> ?_⟩
  ·simp [iN,pat,dz,hq.1]
  ·simp [mK,pat,dz,hq.1,hq.2.1,dy.1]
  ·simp [nt,pat,dz,hq.1]
  ·have tA:q≠x:=fun e=>hq.2.2 (by rw [e]; exact an)
   have zW:p≠x:=fun e=>dy.2 (by rw [e]; exact an)
   have zX:m≠x:=fun e=>hm (by rw [e]; exact an)
   simp [xv,pat,tA,zW,zX]
end Go.Proofs.YtmnggbjcnoffeaaGreat
namespace Go.Proofs.YtmnggbjcnoffeaaGreat
open Go Gv
set_option linter.unusedVariables false
set_option linter.unusedSimpArgs false
set_option maxRecDepth 100000
theorem Jm {α:Type} {b:α→α→Bool} (hb:tq b) {q:α→Bool} :∀ {l:List α} {c:α},l.Pairwise (fun x y=>b x y=true)→c∈l→q c=true→ (∀ d∈l,q d=true→d=c∨b c d=true)→l.find? q=some c
 | [],c,_,ar,_,_=>by cases ar
 | a :: l,c,hs,ar,hq,hd=>by
   obtain⟨J,ab⟩:=List.pairwise_cons.1 hs
   by_cases rL:q a=true
   ·rw [List.find?_cons_of_pos rL]
    rcases hd a (by simp) rL with h | h
    ·rw [h]
    ·rcases List.mem_cons.1 ar with aC | aC
     ·rw [aC]
     ·have:=hb.asymm _ _ (J c aC)
      rw [this] at h; cases h
   ·rw [List.find?_cons_of_neg rL]
    rcases List.mem_cons.1 ar with aC | aC
    ·rw [aC] at hq; exact absurd hq rL
    ·exact Jm hb ab aC hq fun d hd' Wh=>hd d (by simp [hd']) Wh
theorem Rn {α:Type} {b:α→α→Bool} (hb:tq b) {q:α→Bool} {l:List α} {c:α} (h:oY b l) (ar:c∈l) (hq:q c=true) (hd:∀ d∈l,q d=true→d=c∨b c d=true):(h0 b l).find? q=some c:=
 Jm hb (I1 hb h) (sA.2 ar) hq fun d hd'=>hd d (sA.1 hd')
theorem jl.uniq {s:a3} {k:Nat} :∀ {l:List aM},jl s k l→ ∀ {a c:aM},a∈l→c∈l→a.cy=c.cy→a=c:=fun {l} h {a c} bh ar e=>by
 have aO:=h.num
 clear h
 induction l with
 | nil=>cases bh
 | cons x l bI=>
   obtain⟨J,ab⟩:=List.pairwise_cons.1 aO
   rcases List.mem_cons.1 bh with ax | ax <;> rcases List.mem_cons.1 ar with a1 | a1
   ·rw [ax,a1]
   ·rw [ax] at e; exact absurd e (J c a1)
   ·rw [a1] at e; exact absurd e.symm (J a ax)
   ·exact bI ax a1 ab
theorem du.TY {s:a3} (h:du s):(aA s.bH 0).b1= [rU]:=by
 obtain⟨eu,fF,hk,e⟩:=h.Cu
 exact congrArg (·.2.2) (e 0 (by decide))
theorem du.E7 {s:a3} (h:du s):∃ b,(aA s.bH 1).b1=ri b:=by
 obtain⟨eu,fF,hk,e⟩:=h.Cu
 exact⟨eu,congrArg (·.2.2) (e 1 (by decide))⟩
def Hn (s:a3) (k:Nat):Nat:=(aA s.bH k).b1.length
theorem Ro {α:Type} [Inhabited α] {n:Nat} {f:Fin n→α} {j:Nat} (h:j < n):cf (Vector.ofFn f) j=f ⟨j,h⟩:=by unfold cf; simp [h]
def gj (e:bE):Vector ao 4:=Vector.ofFn fun i=>if i.1 < e.cA.length then(aA e.cA i.1).bR else default
def jq (p:Vector ao 4):Vector ao 4:=c1 p 0 default
theorem uA {e:bE} {j:Nat} (h:j < 4):cf (gj e) j=if j < e.cA.length then(aA e.cA j).bR else default:=Ro h
theorem JV {p:Vector ao 4} {j:Nat} :cf (jq p) j=if j=0 then default else cf p j:=by unfold jq; rw [gv _ _ (by decide)]
theorem LW {v w:Vector ao 4} :v=w↔cf v 0=cf w 0∧cf v 1=cf w 1∧cf v 2=cf w 2∧cf v 3=cf w 3:=by
 refine⟨fun h=>by rw [h]; exact⟨rfl,rfl,rfl,rfl⟩,fun⟨bJ,J,ab,aC⟩=>DE fun j aF=> ?_⟩
 rcases (show j=0∨j=1∨j=2∨j=3 by omega) with rfl | rfl | rfl | rfl <;> assumption
theorem QB {v w:ao} {n m:Nat} :gz v n=gz w m↔n=m∧ ∀ i,i < n→b4 v (31 - i)=b4 w (31 - i):=by
 unfold gz
 constructor
 ·intro h
  have aq:=congrArg List.length h
  simp only [List.length_map,List.length_range] at aq
  subst aq
  refine⟨rfl,fun i al=> ?_⟩
  have:=congrArg (·[i]?) h
  simpa [al] using this
 ·rintro ⟨rfl,h⟩
  exact List.map_congr_left fun i al=>h i (List.mem_range.1 al)
def lM (e:bE):List Bool:=gz (aA e.cA 0).bR (aA e.cA 0).gw.toNat
theorem B1 {s:a3} (h:du s) {e:bE} (he:ig s 1 e):n4 2 32 (aA e.cA 0):=by
 have hm:=he.zy 0
 obtain⟨b,hb⟩:=h.E7
 rw [hb] at hm
 cases b
 ·exact hm (by decide)
 ·exact hm (by decide)
theorem xO {k:Int} (bJ:0≤k) (J:k≤32) {j:Nat} :lead 32 k j=true↔32 - k≤ (j:Int)∧j < 32:=by
 unfold lead; rw [Bool.and_eq_true,decide_eq_true_eq,decide_eq_true_eq]; omega
theorem Rp {m:ch} (hm:n4 2 32 m) {v:ao} {n:Nat} (aO:n≤32):gz m.bR m.gw.toNat=gz v n↔m.gw=n∧ ∀ j,j < 128→lead 32 m.gw j=true→b4 v j=b4 m.bR j:=by
 have hp:=hm.pre
 rw [QB]
 constructor
 ·rintro ⟨J,ab⟩
  refine⟨by omega,fun j aF aq=> ?_⟩
  rw [xO hp.1 hp.2] at aq
  have:=ab (31 - j) (by omega)
  rw [show 31 - (31 - j)=j by omega] at this
  exact this.symm
 ·rintro ⟨J,ab⟩
  refine⟨by omega,fun i al=> ?_⟩
  exact(ab (31 - i) (by omega) ((xO hp.1 hp.2).2 (by omega))).symm
theorem LX {s:a3} (h:du s) {e:bE} (he:ig s 1 e):e.gF=0:=by
 refine he.pri fun i al=> ?_
 obtain⟨b,hb⟩:=h.E7
 rw [hb] at al ⊢
 cases b
 ·have:i=0:=by have:i < 1:=al; omega
  subst this; decide
 ·have:i=0∨i=1:=by have:i < 2:=al; omega
  rcases this with rfl | rfl <;> decide
end Go.Proofs.YtmnggbjcnoffeaaGreat
namespace Go.Proofs.YtmnggbjcnoffeaaGreat
open Go Gv
set_option linter.unusedVariables false
set_option linter.unusedSimpArgs false
set_option maxRecDepth 100000
end Go.Proofs.YtmnggbjcnoffeaaGreat
namespace Go.Proofs.YtmnggbjcnoffeaaGreat
open Go Gv
set_option linter.unusedVariables false
set_option linter.unusedSimpArgs false
set_option maxRecDepth 100000
def jW {α β:Type} (R:α→β→Prop) (xs:List α) (ys:List β):Prop:=xs.length=ys.length∧ ∀ t (h:t < xs.length) (cJ:t < ys.length),R xs[t] ys[t]
theorem jW.nil {α β:Type} {R:α→β→Prop} :jW R [] []:=⟨rfl,fun t h=>by cases h⟩
theorem jW.snoc {α β:Type} {R:α→β→Prop} {xs:List α} {ys:List β} {x:α} {y:β} (h:jW R xs ys) (aS:R x y):jW R (xs ++ [x]) (ys ++ [y]):=by
 obtain⟨J,ab⟩:=h
 refine⟨by simp [J],fun t b9 mm=> ?_⟩
 by_cases cq:t < xs.length
 ·rw [List.getElem_append_left cq,List.getElem_append_left (by omega)]
  exact ab t cq (by omega)
 ·have e:t=xs.length:=by simp at b9; omega
  subst e
  simp only [List.getElem_append_right (Nat.le_refl _),Nat.sub_self,List.getElem_cons_zero]
  rw [List.getElem_append_right (by omega)]
  simpa [J] using aS
def WO (a b:a2) (i:Nat):Bool:=bg b.bK i && !bg a.bK i
def part (a b:a2) (i:Nat) (c:a2):Prop:=
 (∀ j,j < 512→bg c.bK j=(bg a.bK j || (decide (j≤i) && bg b.bK j)))∧
 (∀ j,j < 512→bg c.bR j=(bg a.bR j || (decide (j < i) && (WO a b j && bg b.bR j)) || (decide (j=i) && !bg b.bR i)))
end Go.Proofs.YtmnggbjcnoffeaaGreat
namespace Go.Proofs.YtmnggbjcnoffeaaGreat
open Go Gv
set_option linter.unusedVariables false
set_option linter.unusedSimpArgs false
theorem HB {xs:List a2} {f:a2→Option Bool} {g:a2→Bool} (a8:∀ x∈xs,f x=some (g x)) (aq:xs.length < 2 ^ 62):
 bo (tG xs f) (fun r=>(r= -1∧ ∀ x∈xs,g x=false)∨ ∃ i:Nat,i < xs.length∧r=i∧g (aA xs i)=true∧ ∀ j,j < i→g (aA xs j)=false):=by
 unfold tG
 refine bo.loop xs.length (fun k s=>s=(k:Int)∧ ∀ j,j < k→g (aA xs j)=false) (by omega) ⟨rfl,fun j aF=>by omega⟩ (fun k s av al=> ?_) (fun s al=> ?_)
 ·obtain⟨az,aX⟩:=al; subst az
  refine bo.cond (fun _=> ?_) (fun h=>by simp at h; omega)
  refine .idx rfl av (.eq (a8 _ (by rw [eB xs av]; exact List.getElem_mem av)) (.cond (fun h=> .ret ?_) (fun h=> .ret ⟨e3 (by omega),fun j aF=> ?_⟩)))
  ·exact .ret (.inr ⟨k,av,rfl,h,aX⟩)
  ·by_cases kP:j=k
   ·subst kP; exact h
   ·exact aX j (by omega)
 ·obtain⟨az,aX⟩:=al; subst az
  refine⟨_,by simp; rfl,?_⟩
  refine .ret (.inl ⟨rfl,fun x an=> ?_⟩)
  obtain⟨j,aF,rfl⟩:=List.mem_iff_getElem.1 an
  rw [← eB xs aF]; exact aX j aF
theorem Nu {xs:List a2} {f:a2→Option Bool} {g:a2→Bool} (a8:∀ x∈xs,f x=some (g x)) (aq:xs.length < 2 ^ 62):
 bo (vT xs f) (fun r=>r=xs.any g):=by
 unfold vT
 refine(HB a8 aq).bind fun r aS=> .ret ?_
 rcases aS with⟨J,ab⟩ | ⟨i,J,ab,aC,aU⟩
 ·subst J
  symm
  rw [List.any_eq_false.2 (fun x an=>by rw [ab x an]; simp)]
  rfl
 ·subst ab
  symm
  rw [List.any_eq_true.2 ⟨aA xs i,by rw [eB xs J]; exact List.getElem_mem J,aC⟩]
  simp
theorem NL {xs:List a2} {f:a2→Option Bool} {g:a2→Bool} (a8:∀ x∈xs,f x=some (g x)) (aq:xs.length < 2 ^ 62):
 bo (tF xs f) (fun r=>r=xs.filter (fun x=> !g x)):=by
 unfold tF
 refine(HB a8 aq).bind fun r aS=> ?_
 rcases aS with⟨J,ab⟩ | ⟨i0,J,ab,aC,aU⟩
 ·subst J
  exact .cond (fun _=> .ret (List.filter_eq_self.2 fun x an=>by rw [ab x an]; rfl).symm) (fun h=>by simp at h)
 ·subst ab
  refine .cond (fun h=>absurd h (by simp <;> omega)) (fun _=> ?_)
  refine bo.loop (xs.length - (i0 + 1)) (fun k s=>s.2.1=((i0 + 1 + k:Nat):Int)∧s.2.2.length=xs.length∧ ∃ i:Nat,s.1=i∧i < i0 + 1 + k∧s.2.2.take i=(xs.take (i0 + 1 + k)).filter (fun x=> !g x)∧s.2.2.drop (i0 + 1 + k)=xs.drop (i0 + 1 + k)) (by omega)
   ⟨e3 (by omega),rfl,i0,rfl,by omega,?_,rfl⟩ (fun k s av al=> ?_) (fun s al=> ?_)
  ·show xs.take i0=_
   rw [Nat.add_zero,List.take_add_one,List.getElem?_eq_getElem J,List.filter_append]
   rw [eB xs J] at aC
   simp only [Option.toList_some,List.filter_cons,aC,Bool.not_true,Bool.false_eq_true,if_false,List.filter_nil,List.append_nil]
   symm
   refine List.filter_eq_self.2 fun x an=> ?_
   obtain⟨j,aF,rfl⟩:=List.mem_iff_getElem.1 an
   have Gt:j < i0:=by rw [List.length_take] at aF; omega
   rw [List.getElem_take,← eB xs (by omega),aU j Gt]; rfl
  ·obtain⟨WQ,WR,ys⟩:=s; obtain⟨az,aX,i,cP,eZ,gk,gU⟩:=al
   simp only at az aX cP gk gU
   subst az; subst cP
   have aF:i0 + 1 + k < xs.length:=by omega
   have aY:aA ys (i0 + 1 + k)=aA xs (i0 + 1 + k):=by
    unfold aA
    have:=congrArg (fun l=>l[0]?) gU
    simp only [List.getElem?_drop,Nat.add_zero] at this
    rw [this]
   refine bo.cond (fun _=> ?_) (fun h=>by simp only [decide_eq_false_iff_not] at h; omega)
   refine .idx rfl (show i0 + 1 + k < ys.length by omega) ?_
   show bo ((f (aA ys (i0 + 1 + k))).bind _) _
   rw [aY]
   refine .eq (a8 _ (by rw [eB xs aF]; exact List.getElem_mem aF)) ?_
   have BE:bD ((i0 + 1 + k:Nat) + 1:Int)=((i0 + 1 + (k + 1):Nat):Int):=by rw [e3 (by omega)]; rfl
   have mV:xs.take (i0 + 1 + (k + 1))=xs.take (i0 + 1 + k) ++ [aA xs (i0 + 1 + k)]:=by
    rw [← Nat.add_assoc,List.take_add_one,List.getElem?_eq_getElem aF,eB xs aF]; rfl
   refine .bind (P:=fun m:Int × List a2=>m.2.length=xs.length∧ ∃ i:Nat,m.1=i∧i < i0 + 1 + (k + 1)∧m.2.take i=(xs.take (i0 + 1 + (k + 1))).filter (fun x=> !g x)∧m.2.drop (i0 + 1 + (k + 1))=xs.drop (i0 + 1 + (k + 1))) (.cond (fun h=> ?_) (fun h=> .ret ?_)) fun m hm=> .ret ⟨BE,hm⟩
   ·refine .idx rfl (show i < ys.length by omega) (.ret ⟨by simp [gI]; exact aX,i + 1,e3 (by omega),by omega,?_,?_⟩)
    ·rw [mV,List.filter_append,← gk,gI,List.take_add_one,List.take_set,List.set_eq_of_length_le (by rw [List.length_take]; omega),List.getElem?_set_self (show i < ys.length by omega)]
     simp only [List.filter_cons,List.filter_nil,h,if_true,Option.toList_some]
    ·have:(ys.drop (i0 + 1 + k)).drop 1=(xs.drop (i0 + 1 + k)).drop 1:=by rw [gU]
     rw [List.drop_drop,List.drop_drop] at this
     rw [gI,List.drop_set_of_lt (by omega)]
     exact this
   ·refine⟨aX,i,rfl,by omega,?_,?_⟩
    ·rw [mV,List.filter_append,← gk]
     simp only [List.filter_cons,List.filter_nil,h,Bool.false_eq_true,if_false,List.append_nil]
    ·have:(ys.drop (i0 + 1 + k)).drop 1=(xs.drop (i0 + 1 + k)).drop 1:=by rw [gU]
     rw [List.drop_drop,List.drop_drop] at this
     exact this
  ·obtain⟨WQ,WR,ys⟩:=s; obtain⟨az,aX,i,cP,eZ,gk,gU⟩:=al
   simp only at az aX cP gk gU
   subst az; subst cP
   refine⟨_,by simp only [aX,show ¬ (((i0 + 1 + (xs.length - (i0 + 1)):Nat):Int) < (xs.length:Int)) by omega,decide_false,cond_false]; rfl,?_⟩
   have Mp:i≤ys.length:=by omega
   refine .eq (a:=(i,ys.length)) (show yH ys.length (i:Int) (ys.length:Int)=some (i,ys.length) by unfold yH; rw [if_pos (by omega)]; simp) (.eq rfl (.idx rfl (by simp [mF]; omega) (.eq rfl (.ret ?_))))
   rw [show i0 + 1 + (xs.length - (i0 + 1))=xs.length by omega,List.take_length] at gk
   rw [← gk]
   show(mF ys i (ys.length - i)).take i=_
   unfold mF
   rw [List.append_assoc,List.take_append_of_le_length (by rw [List.length_take]; omega),List.take_take,Nat.min_self]
theorem On {xs:List a2} (aq:xs.length < 2 ^ 30):vY xs=some xs:=by
 unfold vY
 rw [show fT 128 [] xs=some xs from by unfold fT maxLen; rw [if_pos (by simp only [List.length_nil]; omega)]; rfl]
 rfl
end Go.Proofs.YtmnggbjcnoffeaaGreat
namespace Go.Proofs.YtmnggbjcnoffeaaGreat
open Go Gv
set_option linter.unusedVariables false
set_option linter.unusedSimpArgs false
set_option maxRecDepth 100000
theorem bo.FG {β:Type} {m:Option β} {v:β} (h:bo m (fun r=>r=v)):m=some v:=by
 obtain⟨r,J,ab⟩:=h
 rw [J,ab]
theorem JW (b:Nat→Bool):∀ n,n≤64→ ∃ w:BitVec 64,∀ i,i < 64→w.getLsbD i=(decide (i < n) && b i):=by
 intro n
 induction n with
 | zero=>exact fun _=>⟨0#64,fun i al=>by simp⟩
 | succ n bI=>
   intro aO
   obtain⟨w,hw⟩:=bI (by omega)
   refine⟨w ||| (if b n=true then BitVec.twoPow 64 n else 0#64),fun i al=> ?_⟩
   rw [BitVec.getLsbD_or,hw i al]
   by_cases hb:b n=true
   ·rw [if_pos hb,BitVec.getLsbD_twoPow]
    by_cases e:i=n
    ·subst e; simp [al,hb]
    ·have:(decide (i < n + 1))=decide (i < n):=by
      rw [Bool.eq_iff_iff]; simp; omega
     rw [this]
     have:decide (n=i)=false:=by simp; omega
     simp [this]
   ·rw [if_neg hb]
    by_cases e:i=n
    ·subst e; simp [hb]
    ·have:(decide (i < n + 1))=decide (i < n):=by
      rw [Bool.eq_iff_iff]; simp; omega
     rw [this]; simp
theorem QC (b:Nat→Bool):∃ q:Vector ao 4,∀ i,i < 512→bg q i=b i:=by
 have aY:∀ c:Nat→Bool,∃ v:ao,∀ i,i < 128→b4 v i=c i:=fun c=>by
  obtain⟨lo,hi⟩:=JW c 64 (by omega)
  obtain⟨al,eb⟩:=JW (fun i=>c (64 + i)) 64 (by omega)
  refine⟨⟨al,lo⟩,fun i iD=> ?_⟩
  unfold b4
  split
  ·rename_i h
   show lo.getLsbD i=c i
   rw [hi i h]; simp [h]
  ·rename_i h
   show al.getLsbD (i - 64)=c i
   rw [eb (i - 64) (by omega)]
   have:64 + (i - 64)=i:=by omega
   simp only [this]
   have:i - 64 < 64:=by omega
   simp [this]
 have jy:∀ k,k≤4→ ∃ q:Vector ao 4,∀ i,i < 128 * k→bg q i=b i:=by
  intro k
  induction k with
  | zero=>exact fun _=>⟨default,fun i al=>by omega⟩
  | succ k bI=>
    intro av
    obtain⟨q,hq⟩:=bI (by omega)
    obtain⟨v,aY⟩:=aY fun j=>b (128 * k + (127 - j))
    refine⟨c1 q k v,fun i al=> ?_⟩
    unfold bg
    rw [gv q v (by omega)]
    by_cases e:i / 128=k
    ·rw [if_pos e,aY _ (by omega)]
     have:128 * k + (127 - (127 - i % 128))=i:=by omega
     rw [this]
    ·rw [if_neg e]
     exact hq i (by omega)
 obtain⟨q,hq⟩:=jy 4 (by omega)
 exact⟨q,fun i al=>hq i (by omega)⟩
theorem nX {c:a2} (ar:can c) {q:Vector ao 4} :lL c q=true↔ ∀ i,i < 512→bg c.bK i=true→bg q i=bg c.bR i:=by
 rw [D5]
 constructor
 ·intro h i al hm
  have:=h i al
  rw [hm,Bool.and_true] at this; exact this
 ·intro h i al
  cases hm:bg c.bK i
  ·rw [Bool.and_false]
   cases aY:bg c.bR i
   ·rfl
   ·rw [ar i al aY] at hm; cases hm
  ·rw [Bool.and_true]; exact h i al hm
def mn (c:a2) (l:List a2):Prop:= ∀ q,lL c q=true→ ∃ x∈l,lL x q=true
theorem KA {c:a2} (ar:can c):lL c c.bR=true:=(nX ar).2 fun i _ _=>rfl
theorem Pa {c x:a2} (ar:can c) (an:can x) {q:Vector ao 4} (h:lL c q=true) (cJ:lL x q=true):pV c x:=fun i al J ab=>by
 rw [← (nX ar).1 h i al J,← (nX an).1 cJ i al ab]
noncomputable def mo (c x:a2):Bool:= @decide (pV c x) (Classical.propDecidable _)
theorem D6 {c x:a2} :mo c x=true↔pV c x:=by unfold mo; simp
theorem JX (c:a2) (l:List a2) (aq:l.length < 2 ^ 30):uh c l=some (l.filter (mo c)):=by
 unfold uh
 rw [On aq]
 have:tF l (fun fu=>tT fu c)=some (l.filter (fun x=> !(!mo c x))):=by
  refine bo.FG (NL (g:=fun x=> !mo c x) (fun x _=>bo.FG ?_) (by omega))
  unfold tT
  refine(JR c x).bind fun y a9=> .ret ?_
  congr 1
  rw [Bool.eq_iff_iff,D6]; exact a9.1
 simp only [Option.bind_some,this,Bool.not_not]
theorem Jn {c:a2} {l:List a2} (ar:can c) (aq:∀ x∈l,can x):mn c (l.filter (mo c))↔mn c l:=by
 constructor
 ·intro h q hq
  obtain⟨x,an,J⟩:=h q hq
  exact⟨x,(List.mem_filter.1 an).1,J⟩
 ·intro h q hq
  obtain⟨x,an,J⟩:=h q hq
  exact⟨x,List.mem_filter.2 ⟨an,D6.2 (Pa ar (aq x an) hq J)⟩,J⟩
def B2 (c x:a2):Prop:= ∀ i,i < 512→bg x.bK i=true→bg c.bK i=true∧bg c.bR i=bg x.bR i
noncomputable def FH (c x:a2):Bool:= @decide (B2 c x) (Classical.propDecidable _)
theorem DI {c x:a2} :FH c x=true↔B2 c x:=by unfold FH; simp
theorem Rq {c x:a2} (ar:can c) (an:can x) (h:B2 c x) {q:Vector ao 4} (hq:lL c q=true):lL x q=true:=
 (nX an).2 fun i al hm=>by rw [(nX ar).1 hq i al (h i al hm).1,(h i al hm).2]
def sB (c:a2) (k:Nat) (b:Bool) (d:a2):Prop:=
 (∀ m,m < 512→bg d.bK m=(bg c.bK m || decide (m=k)))∧ (∀ m,m < 512→bg d.bR m=(bg c.bR m || (b && decide (m=k))))
theorem IE {c d:a2} {k:Nat} {b:Bool} (ar:can c) (h:sB c k b d):can d:=fun i al aY=>by
 rw [h.2 i al] at aY
 rw [h.1 i al]
 simp only [Bool.or_eq_true,Bool.and_eq_true] at aY ⊢
 rcases aY with aY | aY
 ·exact .inl (ar i al aY)
 ·exact .inr aY.2
theorem AX {c:a2} (ar:can c) {k:Nat} (av:k < 512) (h:bg c.bK k=false):bg c.bR k=false:=by
 cases aY:bg c.bR k
 ·rfl
 ·rw [ar k av aY] at h; cases h
theorem AT {c d:a2} {k:Nat} {b:Bool} (ar:can c) (av:k < 512) (a8:bg c.bK k=false) (h:sB c k b d) (q:Vector ao 4):lL d q=(lL c q && (bg q k ==b)):=
 RX av a8 (AX ar av a8) h.1 h.2
theorem xd {c d e:a2} {l:List a2} {k:Nat} (ar:can c) (av:k < 512) (a8:bg c.bK k=false) (bJ:sB c k false d) (J:sB c k true e):mn c l↔mn d l∧mn e l:=by
 constructor
 ·intro h
  refine⟨fun q hq=>h q ?_,fun q hq=>h q ?_⟩
  ·rw [AT ar av a8 bJ,Bool.and_eq_true] at hq; exact hq.1
  ·rw [AT ar av a8 J,Bool.and_eq_true] at hq; exact hq.1
 ·rintro ⟨bh,hb⟩ q hq
  cases aY:bg q k
  ·exact bh q (by rw [AT ar av a8 bJ,hq,aY]; rfl)
  ·exact hb q (by rw [AT ar av a8 J,hq,aY]; rfl)
def nfree (c:a2):Nat:=o8 512 (fun i=> !bg c.bK i)
theorem QD {n:Nat} {p q:Nat→Bool} (h:∀ i,i < n→p i=true→q i=true):o8 n p≤o8 n q:=by
 induction n with
 | zero=>exact Nat.le_refl _
 | succ n bI=>
   rw [xk,xk]
   have:=bI fun i al=>h i (by omega)
   have ab:(p n).toNat≤ (q n).toNat:=by
    cases hp:p n
    ·simp
    ·rw [h n (by omega) hp]; simp
   omega
theorem P5 {n:Nat} {p q:Nat→Bool} {k:Nat} (av:k < n) (h:∀ i,i < n→p i=true→q i=true) (hp:p k=false) (hq:q k=true):o8 n p < o8 n q:=by
 induction n with
 | zero=>omega
 | succ n bI=>
   rw [xk,xk]
   by_cases k9:k=n
   ·subst k9
    have:=QD (n:=k) fun i al=>h i (by omega)
    rw [hp,hq]; simp; omega
   ·have:=bI (by omega) fun i al=>h i (by omega)
    have ab:(p n).toNat≤ (q n).toNat:=by
     cases hp:p n
     ·simp
     ·rw [h n (by omega) hp]; simp
    omega
theorem Jo {c d:a2} {k:Nat} (av:k < 512) (h:∀ m,m < 512→bg c.bK m=true→bg d.bK m=true) (bJ:bg c.bK k=false) (J:bg d.bK k=true):nfree d < nfree c:=
 P5 av (fun i al hd=>by
  cases hm:bg c.bK i
  ·rfl
  ·rw [h i al hm] at hd; exact hd) (by rw [J]; rfl) (by rw [bJ]; rfl)
theorem QE (c:a2):nfree c≤512:=RY
theorem I3 {c d:a2} {k:Nat} {b:Bool} (av:k < 512) (a8:bg c.bK k=false) (h:sB c k b d):nfree d < nfree c:=
 Jo av (fun m hm J=>by rw [h.1 m hm,J]; rfl) a8 (by rw [h.1 k av]; simp)
theorem DJ {c:a2} {k:Nat} (av:k < 512) (a8:bg c.bK k=false) (b:Bool):bo (se c k b) (sB c k b):=(RW c k av b).mono fun d hd=>hd.2 a8
theorem JY (w:Vector ao 4) (n:Nat) (aO:n < 512):bo (uo w n) (fun r=>r=bg w n):=by
 unfold uo
 have J:sW (n:Int) 128=some ((n / 128:Nat):Int):=by
  unfold sW
  rw [if_neg (by omega)]
  have J:(n:Int).tdiv 128=((n / 128:Nat):Int):=by rw [Int.tdiv_eq_ediv_of_nonneg (by omega)]; omega
  rw [J,hQ (by omega) (by omega)]
 have ab:mQ (n:Int) 128=some ((n % 128:Nat):Int):=by
  unfold mQ
  rw [if_neg (by omega)]
  have ab:(n:Int).tmod 128=((n % 128:Nat):Int):=by rw [Int.tmod_eq_emod_of_nonneg (by omega)]; omega
  rw [ab]
 refine .eq J (.idx rfl (show n / 128 < 4 by omega) (.eq ab ((En _ _).bind fun y a9=> .ret ?_)))
 rw [a9,hQ (by omega) (by omega)]
 have:(0:Int)≤127 - ((n % 128:Nat):Int)∧127 - ((n % 128:Nat):Int) < 128:=by omega
 rw [decide_eq_true this,Bool.true_and]
 unfold bg
 congr 1; omega
def iO (c:a2) (l:List a2) (b:Bool) (i:Nat):Bool:= !bg c.bK i && l.any (fun x=>bg x.bK i && (bg x.bR i ==b))
set_option maxHeartbeats 2000000 in
theorem P6 (c:a2) (l:List a2) (aq:l.length < 2 ^ 30):bo (wP c l) (fun r=>(∀ i,i < 512→bg r.1 i=iO c l false i)∧ (∀ i,i < 512→bg r.2 i=iO c l true i)):=by
 unfold wP
 have Lu:∀ k (av:k < l.length) b i,iO c (l.take (k + 1)) b i=(iO c (l.take k) b i || (!bg c.bK i && (bg (aA l k).bK i && (bg (aA l k).bR i ==b)))):=fun k av b i=>by
  unfold iO
  rw [List.take_add_one,List.getElem?_eq_getElem av,List.any_append,eB l av,Bool.and_or_distrib_left]
  simp
 refine bo.loop l.length (fun k s=>s.1=k∧ (∀ i,i < 512→bg s.2.1 i=iO c (l.take k) true i)∧ (∀ i,i < 512→bg s.2.2 i=iO c (l.take k) false i)) (by omega)
  ⟨rfl,fun i al=>by rw [AP]; simp [iO],fun i al=>by rw [AP]; simp [iO]⟩ (fun k s av al=> ?_) (fun s al=> ?_)
 ·obtain⟨n,o,z⟩:=s; obtain⟨az,aX,cP⟩:=al
  simp only at az aX cP; subst az
  refine bo.cond (fun _=> ?_) (fun h=>by simp at h; omega)
  refine .idx rfl av ?_
  have rB:=Lu k av true
  have im:=Lu k av false
  generalize aA l k=x at rB im ⊢
  refine bo.loop 4 (fun j s=>s.1=j∧ (∀ i,i < 512→bg s.2.1 i=if i / 128 < j then iO c (l.take (k + 1)) true i else iO c (l.take k) true i)∧
   (∀ i,i < 512→bg s.2.2 i=if i / 128 < j then iO c (l.take (k + 1)) false i else iO c (l.take k) false i)) (by omega)
   ⟨rfl,fun i al=>by rw [if_neg (by omega)]; exact aX i al,fun i al=>by rw [if_neg (by omega)]; exact cP i al⟩ (fun j s aF al=> ?_) (fun s al=> ?_)
  ·obtain⟨n,o,z⟩:=s; obtain⟨ax,a1,br⟩:=al
   simp only at ax a1 br; subst ax
   refine bo.cond (fun _=> ?_) (fun h=>by simp at h; omega)
   refine .idx rfl aF (.idx rfl aF ((Kv _).bind fun ak J=>(sq _ _).bind fun aP ab=> .idx rfl aF (.idx rfl aF ((sq _ _).bind fun bc aC=>(sy _ _).bind fun bf aU=> .idx rfl aF (.idx rfl aF (.idx rfl aF ((Kv _).bind fun cb aZ=>(sq _ _).bind fun cN bn=>(sy _ _).bind fun dm cE=> .idx rfl aF (.ret ⟨e3 (by omega),fun i al=> ?_,fun i al=> ?_⟩))))))))
   ·have g:=a1 i al
    unfold bg at g ⊢
    simp only [gv _ _ aF]
    by_cases hq:i / 128=j
    ·rw [if_pos hq,if_pos (by omega),aU _ (by omega),aC _ (by omega),ab _ (by omega),J _ (by omega),rB]
     rw [if_neg (by omega)] at g
     rw [hq] at g
     rw [g]
     unfold bg
     rw [hq]
     cases b4 (cf x.bK j) (127 - i % 128) <;> cases b4 (cf c.bK j) (127 - i % 128) <;> cases b4 (cf x.bR j) (127 - i % 128) <;> simp
    ·rw [if_neg hq,g]
     have:(i / 128 < j + 1)↔i / 128 < j:=by omega
     simp [this]
   ·have g:=br i al
    unfold bg at g ⊢
    simp only [gv _ _ aF]
    by_cases hq:i / 128=j
    ·rw [if_pos hq,if_pos (by omega),cE _ (by omega),bn _ (by omega),aZ _ (by omega),ab _ (by omega),J _ (by omega),im]
     rw [if_neg (by omega)] at g
     rw [hq] at g
     rw [g]
     unfold bg
     rw [hq]
     cases b4 (cf x.bK j) (127 - i % 128) <;> cases b4 (cf c.bK j) (127 - i % 128) <;> cases b4 (cf x.bR j) (127 - i % 128) <;> simp
    ·rw [if_neg hq,g]
     have:(i / 128 < j + 1)↔i / 128 < j:=by omega
     simp [this]
  ·obtain⟨n,o,z⟩:=s; obtain⟨ax,a1,br⟩:=al
   simp only at ax a1 br; subst ax
   refine⟨_,rfl,?_⟩
   refine .ret ⟨e3 (by omega),fun i al=> ?_,fun i al=> ?_⟩
   ·rw [a1 i al,if_pos (by omega)]
   ·rw [br i al,if_pos (by omega)]
 ·obtain⟨n,o,z⟩:=s; obtain⟨az,aX,cP⟩:=al
  simp only at az aX cP; subst az
  rw [List.take_length] at aX cP
  refine⟨_,by simp; rfl,?_⟩
  exact .ret ⟨cP,aX⟩
set_option maxHeartbeats 2000000 in
theorem P7 (c:a2) (z o:Vector ao 4):bo (wO c z o) (fun r=>(∀ i,i < 512→bg r.bK i=(bg c.bK i || (bg z i ^^ bg o i)))∧ (∀ i,i < 512→bg r.bR i=(bg c.bR i || (bg z i && !bg o i)))):=by
 unfold wO
 refine bo.loop 4 (fun j s=>s.1=j∧ (∀ i,i < 512→bg s.2.bK i=if i / 128 < j then(bg c.bK i || (bg z i ^^ bg o i)) else bg c.bK i)∧
  (∀ i,i < 512→bg s.2.bR i=if i / 128 < j then(bg c.bR i || (bg z i && !bg o i)) else bg c.bR i)) (by omega)
  ⟨rfl,fun i al=>(if_neg (Nat.not_lt_zero _)).symm,fun i al=>(if_neg (Nat.not_lt_zero _)).symm⟩ (fun j s aF al=> ?_) (fun s al=> ?_)
 ·obtain⟨n,d⟩:=s; obtain⟨ax,a1,br⟩:=al
  simp only at ax a1 br; subst ax
  refine bo.cond (fun _=> ?_) (fun h=>by simp at h; omega)
  refine .idx rfl aF (.idx rfl aF ((sq _ _).bind fun ak J=> .idx rfl aF (.idx rfl aF (.idx rfl aF ((sy _ _).bind fun aP ab=>(A5 _ _).bind fun bc aC=>(sy _ _).bind fun bf aU=> .idx rfl aF (.idx rfl aF (.idx rfl aF ((A5 _ _).bind fun cb aZ=>(sy _ _).bind fun cN bn=> ?_))))))))
  refine .idx rfl aF ?_
  refine .eq rfl ?_
  refine .ret ?_
  refine⟨e3 (by omega),fun i al=> ?_,fun i al=> ?_⟩
  ·have g:=a1 i al
   unfold bg at g ⊢
   simp only [gv _ _ aF]
   by_cases hq:i / 128=j
   ·rw [if_pos hq,if_pos (by omega),aU _ (by omega),aC _ (by omega),ab _ (by omega),J _ (by omega),hq]
    rw [if_neg (by omega)] at g
    rw [hq] at g
    rw [g]
    cases b4 (cf z j) (127 - i % 128) <;> cases b4 (cf o j) (127 - i % 128) <;> simp
   ·rw [if_neg hq,g]
    have:(i / 128 < j + 1)↔i / 128 < j:=by omega
    simp [this]
  ·have g:=br i al
   unfold bg at g ⊢
   simp only [gv _ _ aF]
   by_cases hq:i / 128=j
   ·rw [if_pos hq,if_pos (by omega),bn _ (by omega),aZ _ (by omega),J _ (by omega),hq]
    rw [if_neg (by omega)] at g
    rw [hq] at g
    rw [g]
    cases b4 (cf z j) (127 - i % 128) <;> cases b4 (cf o j) (127 - i % 128) <;> simp
   ·rw [if_neg hq,g]
    have:(i / 128 < j + 1)↔i / 128 < j:=by omega
    simp [this]
 ·obtain⟨n,d⟩:=s; obtain⟨ax,a1,br⟩:=al
  simp only at ax a1 br; subst ax
  refine⟨_,rfl,?_⟩
  refine .ret ⟨fun i al=> ?_,fun i al=> ?_⟩
  ·rw [a1 i al,if_pos (by omega)]
  ·rw [br i al,if_pos (by omega)]
set_option maxHeartbeats 2000000 in
theorem Py (p:Vector ao 4) (l:List a2) (aq:l.length < 2 ^ 30):bo (wL p l) (fun r=> ∃ b:Nat,r=b∧b < 512∧ ((∃ i,i < 512∧bg p i=true∧ ∃ x∈l,bg x.bK i=true)→bg p b=true)):=by
 unfold wL
 refine bo.loop 512 (fun k s=>s.2.2=(k:Int)∧ (∃ b:Nat,s.1=b∧b < 512∧ ∃ m:Nat,s.2.1=m∧m≤l.length∧ (0 < m→bg p b=true)∧ (m=0→ ∀ i,i < k→bg p i=true→ ∀ x∈l,bg x.bK i=false))) (by omega)
  ⟨rfl,0,rfl,by omega,0,rfl,by omega,by omega,fun _ i al=>by omega⟩ (fun k s av al=> ?_) (fun s al=> ?_)
 ·obtain⟨WS,WT,n⟩:=s; obtain⟨az,b,aX,cP,m,eZ,gk,gU,pf⟩:=al
  simp only at az aX eZ; subst az; subst aX; subst eZ
  refine bo.cond (fun _=> ?_) (fun h=>by simp at h; omega)
  refine(JY p k av).bind fun ak J=> .cond (fun h=> .ret ⟨e3 (by omega),b,rfl,cP,m,rfl,gk,gU,fun hm i al hp=> ?_⟩) (fun h=> ?_)
  ·by_cases jj:i=k
   ·subst jj; rw [J,hp] at h; simp at h
   ·exact pf hm i (by omega) hp
  ·have Wi:bg p k=true:=by rw [J] at h; simpa using h
   refine bo.loop l.length (fun j s=>s.2=(j:Int)∧s.1=(((l.take j).countP (fun x=>bg x.bK k):Nat):Int)) (by omega) ⟨rfl,by simp⟩ (fun j s aF al=> ?_) (fun s al=> ?_)
   ·obtain⟨c,i⟩:=s; obtain⟨ax,a1⟩:=al
    simp only at ax a1; subst ax; subst a1
    refine bo.cond (fun _=> ?_) (fun h=>by simp at h; omega)
    have hle:(l.take j).countP (fun x=>bg x.bK k)≤j:=Nat.le_trans List.countP_le_length (by rw [List.length_take]; omega)
    have mV:(l.take (j + 1)).countP (fun x=>bg x.bK k)=(l.take j).countP (fun x=>bg x.bK k) + (bg (aA l j).bK k).toNat:=by
     rw [List.take_add_one,List.getElem?_eq_getElem aF,List.countP_append,eB l aF]
     simp [List.countP_cons,List.countP_nil]
     cases bg l[j].bK k <;> rfl
    refine .idx rfl aF ((JY _ k av).bind fun aP ab=> .bind (P:=fun r=>r=(((l.take (j + 1)).countP (fun x=>bg x.bK k):Nat):Int)) (.cond (fun h=> .ret ?_) (fun h=> .ret ?_)) fun r aS=> .ret ⟨e3 (by omega),aS⟩)
    ·rw [mV,← ab,h,e3 (by omega)]; rfl
    ·rw [mV,← ab,h]; rfl
   ·obtain⟨c,i⟩:=s; obtain⟨ax,a1⟩:=al
    simp only at ax a1; subst ax; subst a1
    rw [List.take_length]
    refine⟨_,by simp; rfl,?_⟩
    simp only
    refine .bind (P:=fun r:Int × Int=> ∃ b:Nat,r.1=b∧b < 512∧ ∃ m:Nat,r.2=m∧m≤l.length∧ (0 < m→bg p b=true)∧ (m=0→ ∀ i,i < k + 1→bg p i=true→ ∀ x∈l,bg x.bK i=false)) (.cond (fun h=> .ret ?_) (fun h=> .ret ?_)) fun r aS=> .ret ⟨e3 (by omega),aS⟩
    ·simp only [gt_iff_lt,decide_eq_true_eq] at h
     exact⟨k,rfl,av,_,rfl,List.countP_le_length,fun _=>Wi,fun bJ=>by omega⟩
    ·simp only [gt_iff_lt,decide_eq_false_iff_not] at h
     refine⟨b,rfl,cP,m,rfl,gk,gU,fun hm i al hp=> ?_⟩
     by_cases jj:i=k
     ·subst jj
      have bJ:l.countP (fun x=>bg x.bK i)=0:=by omega
      intro x an
      have:=List.countP_eq_zero.1 bJ x an
      simpa using this
     ·exact pf hm i (by omega) hp
 ·obtain⟨WS,WT,n⟩:=s; obtain⟨az,b,aX,cP,m,eZ,gk,gU,pf⟩:=al
  simp only at az aX eZ; subst az; subst aX; subst eZ
  refine⟨_,rfl,?_⟩
  refine .ret ⟨b,rfl,cP,fun⟨i,al,hp,x,an,hm⟩=> ?_⟩
  rcases Nat.eq_zero_or_pos m with bJ | bJ
  ·have:=pf bJ i al hp x an
   rw [hm] at this; cases this
  ·exact gU bJ
set_option maxHeartbeats 2000000 in
theorem OO:∀ (n:Nat) (c:a2) (l:List a2),can c→ (∀ x∈l,can x)→l.length < 2 ^ 30→nfree c < n→bo (pn n c l) (fun r=>r=true↔mn c l):=by
 intro n
 induction n with
 | zero=>intro c l _ _ _ h; omega
 | succ n bI=>
   intro c mw ar MH hlen aO
   unfold pn
   refine .eq (JX c mw hlen) ?_
   have aq:∀ x∈mw.filter (mo c),can x:=fun x an=>MH x (List.mem_filter.1 an).1
   have MI:∀ x∈mw.filter (mo c),pV c x:=fun x an=>D6.1 (List.mem_filter.1 an).2
   have n2:(mw.filter (mo c)).length < 2 ^ 30:=Nat.lt_of_le_of_lt (List.length_filter_le _ _) hlen
   rw [← Jn ar MH]
   generalize mw.filter (mo c)=l at aq MI n2
   refine(Nu (g:=FH c) (fun x an=>bo.FG ?_) (by omega)).bind fun aP ab=> .cond (fun h=> .ret ?_) (fun h=> ?_)
   ·unfold wx
    refine(PX c x ar (aq x an)).bind fun r aS=> .ret ?_
    rw [Bool.eq_iff_iff,DI]; exact aS
   ·rw [ab,List.any_eq_true] at h
    obtain⟨x,an,al⟩:=h
    have al:=DI.1 al
    exact⟨fun _ q hq=>⟨x,an,Rq ar (aq x an) al hq⟩,fun _=>rfl⟩
   ·rw [ab,List.any_eq_false] at h
    have U7:∀ x∈l,¬ B2 c x:=fun x an al=>h x an (DI.2 al)
    refine .cond (fun bJ=> .ret ?_) (fun bJ=> ?_)
    ·have:l= []:=by
      simp only [beq_iff_eq] at bJ
      exact List.length_eq_zero_iff.1 (by omega)
     subst this
     refine⟨fun h=>(by cases h),fun yS=> ?_⟩
     obtain⟨x,an,_⟩:=yS _ (KA ar)
     cases an
    ·refine(P6 c l n2).bind fun bc aC=>(P7 c bc.1 bc.2).bind fun bf aU=> ?_
     have E8:∀ m,m < 512→bg c.bK m=true→bg bf.bK m=true:=fun m hm J=>by rw [aU.1 m hm,J]; rfl
     have yT:∀ m,m < 512→bg c.bK m=true→bg bf.bR m=bg c.bR m:=fun m hm J=>by
      rw [aU.2 m hm,aC.1 m hm]; unfold iO; rw [J]; simp
     have BG:can bf:=fun i al aY=>by
      rw [aU.2 i al] at aY
      rw [aU.1 i al]
      simp only [Bool.or_eq_true,Bool.and_eq_true,Bool.not_eq_true'] at aY
      rcases aY with aY | aY
      ·rw [ar i al aY]; rfl
      ·rw [aY.1,aY.2]; simp
     have TZ:mn bf l↔mn c l:=by
      constructor
      ·intro yS q hq
       obtain⟨dX,gC⟩:=QC fun i=>if bg c.bK i=false∧bg bf.bK i=true then bg bf.bR i else bg q i
       have eQ:lL bf dX=true:=(nX BG).2 fun i al hm=>by
        rw [gC i al]
        cases nE:bg c.bK i
        ·rw [if_pos ⟨rfl,hm⟩]
        ·rw [if_neg (by simp),(nX ar).1 hq i al nE,yT i al nE]
       obtain⟨x,an,F4⟩:=yS dX eQ
       refine⟨x,an,(nX (aq x an)).2 fun i al hm=> ?_⟩
       have aZ:=(nX (aq x an)).1 F4 i al hm
       rw [gC i al] at aZ
       by_cases aK:bg c.bK i=false∧bg bf.bK i=true
       ·exfalso
        rw [if_pos aK] at aZ
        have zC:=aK.2
        rw [aU.1 i al,aK.1,aC.1 i al,aC.2 i al] at zC
        rw [aU.2 i al,aC.1 i al,aC.2 i al,AX ar al aK.1] at aZ
        have hw:iO c l (bg x.bR i) i=true:=by
         unfold iO
         rw [aK.1,Bool.not_false,Bool.true_and,List.any_eq_true]
         exact⟨x,an,by rw [hm]; simp⟩
        cases zD:bg x.bR i
        ·rw [zD] at hw aZ
         rw [hw] at zC aZ
         cases bn:iO c l true i <;> simp [bn] at zC aZ
        ·rw [zD] at hw aZ
         rw [hw] at zC aZ
         cases bn:iO c l false i <;> simp [bn] at zC aZ
       ·rw [if_neg aK] at aZ; exact aZ
      ·intro yS q hq
       exact yS q ((nX ar).2 fun i al hm=>by rw [(nX BG).1 hq i al (E8 i al hm),yT i al hm])
     refine .cond (fun dv=> ?_) (fun he=> ?_)
     ·have dv:bf≠c:=by simpa using dv
      have cq:nfree bf < nfree c:=by
       have:∃ k,k < 512∧bg c.bK k=false∧bg bf.bK k=true:=by
        false_or_by_contra
        rename_i fU
        have hm:∀ i,i < 512→bg bf.bK i=bg c.bK i:=fun i al=>by
         cases aZ:bg c.bK i
         ·cases bn:bg bf.bK i
          ·rfl
          ·exact absurd ⟨i,al,aZ,bn⟩ fU
         ·exact E8 i al aZ
        have aY:∀ i,i < 512→bg bf.bR i=bg c.bR i:=fun i al=>by
         cases aZ:bg c.bK i
         ·rw [AX ar al aZ]
          exact AX BG al (by rw [hm i al,aZ])
         ·exact yT i al aZ
        apply dv
        obtain⟨a,b⟩:=bf; obtain⟨hZ,b'⟩:=c
        simp only at hm aY
        rw [uV hm,uV aY]
       obtain⟨k,aZ,bn,cE⟩:=this
       exact Jo aZ E8 bn cE
      refine(bI bf l BG aq n2 (by omega)).bind fun cb aZ=> .ret ?_
      rw [aZ,TZ]
     ·have he:bf=c:=by simpa using he
      have U8:∃ i,i < 512∧bg bc.1 i=true∧ ∃ x∈l,bg x.bK i=true:=by
       have dv:l≠ []:=fun e=>by subst e; simp at bJ
       obtain⟨x,r,Ga⟩:=List.exists_cons_of_ne_nil dv
       have an:x∈l:=by rw [Ga]; simp
       have:∃ i,i < 512∧bg x.bK i=true∧bg c.bK i=false:=by
        false_or_by_contra
        rename_i fU
        refine U7 x an fun i al hm=> ?_
        cases aZ:bg c.bK i
        ·exact absurd ⟨i,al,hm,aZ⟩ fU
        ·exact⟨rfl,MI x an i al aZ hm⟩
       obtain⟨i,al,zx,nE⟩:=this
       refine⟨i,al,?_,x,an,zx⟩
       have aZ:=aU.1 i al
       rw [he,nE] at aZ
       simp only [Bool.false_or] at aZ
       have hw:iO c l (bg x.bR i) i=true:=by
        unfold iO
        rw [nE,Bool.not_false,Bool.true_and,List.any_eq_true]
        exact⟨x,an,by rw [zx]; simp⟩
       rw [aC.1 i al,aC.2 i al] at aZ
       rw [aC.1 i al]
       cases zD:bg x.bR i
       ·rw [zD] at hw; exact hw
       ·rw [zD] at hw
        rw [hw] at aZ
        cases bn:iO c l false i
        ·rw [bn] at aZ; simp at aZ
        ·rfl
      refine(Py bc.1 l n2).bind fun cN bn=> ?_
      obtain⟨b,rfl,hb,ob⟩:=bn
      have zB:=ob U8
      have oS:bg c.bK b=false:=by
       rw [aC.1 b hb] at zB
       unfold iO at zB
       simp only [Bool.and_eq_true,Bool.not_eq_true'] at zB
       exact zB.1
      refine(DJ hb oS false).bind fun dm cE=>(bI dm l (IE ar cE) aq n2 (by have:=I3 hb oS cE; omega)).bind fun et dW=> ?_
      refine .dt (P:=sB c b true) (fun _=>DJ hb oS true) fun fk fl=> ?_
      refine .dt (P:=fun r=>r=true↔mn fk l) (fun kk=>bI fk l (IE ar (fl kk)) aq n2 (by have:=I3 hb oS (fl kk); omega)) fun hz iS=> .ret ?_
      rw [Bool.and_eq_true]
      obtain⟨Xp,_,GI⟩:=DJ hb oS true
      rw [xd ar hb oS cE GI]
      constructor
      ·rintro ⟨bh,rD⟩
       refine⟨dW.1 bh,?_⟩
       have:=(xd (l:=l) ar hb oS cE (fl bh)).2 ⟨dW.1 bh,(iS bh).1 rD⟩
       exact((xd (l:=l) ar hb oS cE GI).1 this).2
      ·rintro ⟨bh,rD⟩
       have GJ:=dW.2 bh
       refine⟨GJ,(iS GJ).2 ?_⟩
       have:=(xd (l:=l) ar hb oS cE GI).2 ⟨bh,rD⟩
       exact((xd (l:=l) ar hb oS cE (fl GJ)).1 this).2
theorem Pb (c:a2) (l:List a2) (ar:can c) (aq:∀ x∈l,can x) (hlen:l.length < 2 ^ 30):bo (C3 c l) (fun r=>r=true↔mn c l):=
 OO ep c l ar aq hlen (by have:=QE c; unfold ep; omega)
theorem Pc (c:a2) (l:List a2) (ar:can c) (aq:∀ x∈l,can x) (hlen:l.length < 2 ^ 30):
 bo (tX c l) (fun r=>if (l.filter (mo c)).length > 16 then r=(false,26) else(r.2=0∧ (r.1=true↔mn c l))):=by
 unfold tX
 refine .eq (JX c l hlen) (.cond (fun h=> .ret ?_) (fun h=> ?_))
 ·rw [if_pos (by have:=of_decide_eq_true h; omega)]
 ·have GK:∀ x∈l.filter (mo c),can x:=fun x an=>aq x (List.mem_filter.1 an).1
  have n2:(l.filter (mo c)).length < 2 ^ 30:=Nat.lt_of_le_of_lt (List.length_filter_le _ _) hlen
  refine(Pb c _ ar GK n2).bind fun y a9=> .ret ?_
  rw [if_neg (by have:=of_decide_eq_false h; omega)]
  exact⟨rfl,by rw [a9,Jn ar aq]⟩
end Go.Proofs.YtmnggbjcnoffeaaGreat
namespace Go.Proofs.YtmnggbjcnoffeaaGreat
open Go Gv
set_option linter.unusedVariables false
set_option linter.unusedSimpArgs false
set_option maxRecDepth 100000
theorem jW.cons_inv {α β:Type} {R:α→β→Prop} {x:α} {xs:List α} {ys:List β} (h:jW R (x :: xs) ys):∃ y r,ys=y :: r∧R x y∧jW R xs r:=by
 obtain⟨J,ab⟩:=h
 cases ys with
 | nil=>simp at J
 | cons y r=>
   refine⟨y,r,rfl,ab 0 (by simp) (by simp),by simpa using J,fun t b9 mm=> ?_⟩
   have:=ab (t + 1) (by simp; omega) (by simp; omega)
   simpa using this
theorem jW.Rr {α β:Type} {R:α→β→Prop} {ys:List β} (h:jW R [] ys):ys= []:=by
 have:=h.1
 cases ys with
 | nil=>rfl
 | cons y r=>simp at this
theorem jW.cons {α β:Type} {R:α→β→Prop} {x:α} {y:β} :∀ {xs:List α} {ys:List β},R x y→jW R xs ys→jW R (x :: xs) (y :: ys):=fun {xs ys} h k=>
 ⟨by simp [k.1],fun t b9 mm=>by
  cases t with
  | zero=>exact h
  | succ t=>simpa using k.2 t (by simpa using b9) (by simpa using mm)⟩
theorem jW.filter {α β:Type} {R:α→β→Prop} {f:α→Bool} {g:β→Bool} :∀ {xs:List α} {ys:List β},jW R xs ys→ (∀ x∈xs,∀ y,R x y→f x=g y)→jW R (xs.filter f) (ys.filter g)
 | [],ys,h,_=>by rw [h.Rr]; exact .nil
 | x :: xs,ys,h,a8=>by
   obtain⟨y,r,rfl,J,ab⟩:=h.cons_inv
   have bI:=jW.filter ab (fun x an=>a8 x (by simp [an]))
   have:=a8 x (by simp) y J
   simp only [List.filter_cons,this]
   cases g y
   ·exact bI
   ·exact .cons J bI
theorem jW.ex {α β:Type} {R:α→β→Prop} {xs:List α} {ys:List β} (h:jW R xs ys) {P:α→Prop} {Q:β→Prop} (hp:∀ x∈xs,∀ y,R x y→ (P x↔Q y)):(∃ x∈xs,P x)↔ ∃ y∈ys,Q y:=by
 constructor
 ·rintro ⟨x,an,J⟩
  obtain⟨t,b9,rfl⟩:=List.mem_iff_getElem.1 an
  have mm:t < ys.length:=by rw [← h.1]; exact b9
  exact⟨ys[t],List.getElem_mem mm,(hp _ (List.getElem_mem b9) _ (h.2 t b9 mm)).1 J⟩
 ·rintro ⟨y,a9,J⟩
  obtain⟨t,mm,rfl⟩:=List.mem_iff_getElem.1 a9
  have b9:t < xs.length:=by rw [h.1]; exact mm
  exact⟨xs[t],List.getElem_mem b9,(hp _ (List.getElem_mem b9) _ (h.2 t b9 mm)).2 J⟩
abbrev nI:=Vector ao 4
end Go.Proofs.YtmnggbjcnoffeaaGreat
namespace Go.Proofs.YtmnggbjcnoffeaaGreat
open Go Gv
set_option linter.unusedVariables false
set_option linter.unusedSimpArgs false
set_option maxRecDepth 100000
theorem OF (c:a2) (l:List a2) (ar:can c) (aq:∀ x∈l,can x) (hlen:l.length≤16):bo (tX c l) (fun r=>r.2=0∧ (r.1=true↔mn c l)):=
 (Pc c l ar aq (by omega)).mono fun r h=>by
  rw [if_neg (by have:=List.length_filter_le (mo c) l; omega)] at h; exact h
end Go.Proofs.YtmnggbjcnoffeaaGreat
namespace Go.Proofs.YtmnggbjcnoffeaaGreat
open Go Gv
set_option linter.unusedVariables false
set_option linter.unusedSimpArgs false
set_option maxRecDepth 100000
structure l3 (C U:nI→Prop) (k:Nat) (S:nI→Prop):Prop where
 some_:∃ q,S q∧U q
 sub:∀ q,S q→C q
 same:∀ q dX,S q→S dX→ ∀ j,j < k→bg q j=bg dX j
 least:∀ dX,C dX→U dX→S dX∨ ∀ q,S q→ ∃ i,i < k∧bg q i=false∧bg dX i=true∧ ∀ j,j < i→bg q j=bg dX j
theorem l3.skip {C U S:nI→Prop} {k:Nat} (g:l3 C U k S) (h:∀ q dX,S q→S dX→bg q k=bg dX k):l3 C U (k + 1) S where
 some_:=g.some_
 sub:=g.sub
 same q dX hq gC j aF:=by
  by_cases kP:j=k
  ·subst kP; exact h q dX hq gC
  ·exact g.same q dX hq gC j (by omega)
 least dX ar hu:=by
  rcases g.least dX ar hu with J | J
  ·exact .inl J
  ·refine .inr fun q hq=> ?_
   obtain⟨i,ab,aC⟩:=J q hq
   exact⟨i,by omega,aC⟩
theorem l3.zero {C U S:nI→Prop} {k:Nat} (g:l3 C U k S) (h:∃ q,(S q∧bg q k=false)∧U q):l3 C U (k + 1) (fun q=>S q∧bg q k=false) where
 some_:=h
 sub q hq:=g.sub q hq.1
 same q dX hq gC j aF:=by
  by_cases kP:j=k
  ·subst kP; rw [hq.2,gC.2]
  ·exact g.same q dX hq.1 gC.1 j (by omega)
 least dX ar hu:=by
  rcases g.least dX ar hu with J | J
  ·cases ab:bg dX k
   ·exact .inl ⟨J,rfl⟩
   ·exact .inr fun q hq=>⟨k,by omega,hq.2,ab,fun j aF=>g.same q dX hq.1 J j aF⟩
  ·refine .inr fun q hq=> ?_
   obtain⟨i,ab,aC⟩:=J q hq.1
   exact⟨i,by omega,aC⟩
theorem l3.one {C U S:nI→Prop} {k:Nat} (g:l3 C U k S) (h: ¬ ∃ q,(S q∧bg q k=false)∧U q):l3 C U (k + 1) (fun q=>S q∧bg q k=true) where
 some_:=by
  obtain⟨q,J,ab⟩:=g.some_
  refine⟨q,⟨J,?_⟩,ab⟩
  cases aC:bg q k
  ·exact absurd ⟨q,⟨J,aC⟩,ab⟩ h
  ·rfl
 sub q hq:=g.sub q hq.1
 same q dX hq gC j aF:=by
  by_cases kP:j=k
  ·subst kP; rw [hq.2,gC.2]
  ·exact g.same q dX hq.1 gC.1 j (by omega)
 least dX ar hu:=by
  rcases g.least dX ar hu with J | J
  ·cases ab:bg dX k
   ·exact absurd ⟨dX,⟨J,ab⟩,hu⟩ h
   ·exact .inl ⟨J,rfl⟩
  ·refine .inr fun q hq=> ?_
   obtain⟨i,ab,aC⟩:=J q hq.1
   exact⟨i,by omega,aC⟩
theorem l3.congr {C U S Ho:nI→Prop} {k:Nat} (g:l3 C U k S) (h:∀ q,Ho q↔S q):l3 C U k Ho:=by
 have:Ho=S:=funext fun q=>propext (h q)
 rw [this]; exact g
def A7 (C U:nI→Prop) (q:nI):Prop:=C q∧U q∧ ∀ dX,C dX→U dX→dX=q∨ ∃ i,i < 512∧bg q i=false∧bg dX i=true∧ ∀ j,j < i→bg q j=bg dX j
theorem A7.uniq {C U:nI→Prop} {q dX:nI} (h:A7 C U q) (cJ:A7 C U dX):q=dX:=by
 rcases h.2.2 dX cJ.1 cJ.2.1 with J | ⟨i,_,ab,aC,aU⟩
 ·exact J.symm
 rcases cJ.2.2 q h.1 h.2.1 with J | ⟨j,_,a1,br,cr⟩
 ·exact J
 exfalso
 rcases Nat.lt_trichotomy i j with aq | aq | aq
 ·have:=cr i aq; rw [ab,aC] at this; cases this
 ·subst aq; rw [ab] at br; cases br
 ·have:=aU j aq; rw [a1,br] at this; cases this
theorem l3.done {C U S:nI→Prop} (g:l3 C U 512 S) {q:nI} (hq:S q):A7 C U q:=by
 have jy:∀ dX,S dX→dX=q:=fun dX gC=>uV fun i al=>g.same dX q gC hq i al
 obtain⟨w,J,ab⟩:=g.some_
 rw [jy w J] at ab
 refine⟨g.sub q hq,ab,fun dX ar hu=> ?_⟩
 rcases g.least dX ar hu with aC | aC
 ·exact .inl (jy dX aC)
 ·exact .inr (aC q hq)
end Go.Proofs.YtmnggbjcnoffeaaGreat
namespace Go.Proofs.YtmnggbjcnoffeaaGreat
open Go Gv
set_option linter.unusedVariables false
set_option linter.unusedSimpArgs false
set_option maxRecDepth 100000
def mf (s:a3) (k:Nat):Bool:=(aA s.bH k).b1.any fun key=>key.cI ==4
def lP (s:a3) (e:bE):a2:=((qK s e).getD default).1
theorem Rs {s:a3} {k:Nat} (h:mf s k=false):∀ i,i < (aA s.bH k).b1.length→ (aA (aA s.bH k).b1 i).cI≠4:=fun i al=>by
 unfold mf at h
 rw [List.any_eq_false] at h
 have:=h (aA (aA s.bH k).b1 i) (by rw [eB _ al]; exact List.getElem_mem _)
 simpa using this
theorem E9 {s:a3} (h:du s) {k:Nat} (av:k < 4) (aS:mf s k=false) {e:bE} (he:ig s k e):qK s e=some (lP s e,true)∧ ∀ c j,c < 4→j < 128→
 b4 (cf (lP s e).bK c) j=(decide (c < (aA s.bH k).b1.length) && rV (aA (aA s.bH k).b1 c) (aA e.cA c) j)∧
 b4 (cf (lP s e).bR c) j=(decide (c < (aA s.bH k).b1.length) && (b4 (aA e.cA c).bR j && rV (aA (aA s.bH k).b1 c) (aA e.cA c) j)):=by
 obtain⟨r,J,ab⟩:=Rj h av he
 rcases ab with⟨_,_,i,al,aU⟩ | ⟨ab,_,aC⟩
 ·exact absurd aU (Rs aS i al)
 ·obtain⟨a,b⟩:=r
  simp only at ab aC
  subst ab
  have:lP s e=a:=by unfold lP; rw [J]; rfl
  rw [this]
  exact⟨J,aC⟩
theorem Ew {s:a3} (h:du s) {k:Nat} (av:k < 4) (aS:mf s k=false) {e:bE} (he:ig s k e):can (lP s e):=fun i al aY=>by
 obtain⟨_,ab⟩:=E9 h av aS he
 have aC:=ab (i / 128) (127 - i % 128) (by omega) (by omega)
 unfold bg at aY ⊢
 rw [aC.2] at aY
 rw [aC.1]
 simp only [Bool.and_eq_true] at aY ⊢
 exact⟨aY.1,aY.2.2⟩
def j4 (s:a3) (k:Nat) (l:List aM) (i:aM):List a2:=(l.filter fun c=>e0 s k c i).map fun c=>lP s c.b5
theorem Rt {s:a3} (h:du s) {k:Nat} (av:k < 4) (aS:mf s k=false) {l:List aM} (aq:jl s k l) (i:aM):∀ x∈j4 s k l i,can x:=fun x an=>by
 obtain⟨c,ar,rfl⟩:=List.mem_map.1 an
 exact Ew h av aS (aq.ok c (List.mem_filter.1 ar).1).fp
theorem JZ {s:a3} {k:Nat} {l:List aM} {i:aM} :(j4 s k l i).length≤l.length:=by
 unfold j4; rw [List.length_map]; exact List.length_filter_le _ _
theorem T0 {s:a3} (h:du s) {k:Nat} (av:k < 4):vU (aA s.bH k).b1 Aa=some (mf s k):=by
 refine bo.get ?_
 unfold vU
 have aq:=(h.iT av).2.1
 refine(HF (g:=fun key=>key.cI ==4) (fun x an=>rfl) (by omega)).bind fun r aS=> .ret ?_
 unfold mf
 rcases aS with⟨rfl,aS⟩ | ⟨i,J,rfl,aC,aU⟩
 ·rw [List.any_eq_false.2 fun x an=>by simp [aS x an]]; rfl
 ·rw [List.any_eq_true.2 ⟨aA (aA s.bH k).b1 i,by rw [eB _ J]; exact List.getElem_mem _,aC⟩]
  simp
theorem Pd {s:a3} (h:du s) {k:Nat} (av:k < 4) {l:List aM} (aq:jl s k l) {i:aM} (al:i∈l):
 wD s l i.cy=some (if mf s k=true then(default,[],13) else(lP s i.b5,j4 s k l i,0)):=by
 refine bo.get ?_
 unfold wD
 have hlen:=aq.len
 have dJ:=(aq.ok i al).fp
 refine(Hv (g:=fun c=>c.cy ==i.cy) (fun x an=>rfl) (by omega)).bind fun r aS=> ?_
 rcases aS with⟨_,aS⟩ | ⟨a,J,rfl,aC,_⟩
 ·have:=aS i al; simp at this
 have hm:aA l a∈l:=by rw [eB _ J]; exact List.getElem_mem _
 have GL:aA l a=i:=aq.uniq hm al (by simpa using aC)
 refine .cond (fun ar=>by simp at ar; omega) fun _=> .idx rfl J ?_
 rw [GL,dJ.iT]
 refine(AK h av).bind fun aP aX=> ?_
 subst aX
 have MX:decide ((k:Int)≥0)=true:=by rw [decide_eq_true_eq]; omega
 rw [MX]
 refine .dt (P:=fun c=>c=k) (fun _=>⟨k,qZ (by rw [h.jz]; exact av),rfl⟩) fun bZ cP=> ?_
 rw [cP rfl]
 refine .dt (P:=fun c=>c=mf s k) (fun _=>⟨_,T0 h av,rfl⟩) fun bc eZ=> ?_
 rw [eZ rfl,Bool.true_and]
 refine .cond (fun aS=> .ret (by rw [if_pos aS])) fun aS=> .idx rfl J ?_
 rw [GL]
 refine .eq (E9 h av aS dJ).1 (.idx rfl J ?_)
 rw [GL]
 refine .eq rfl ?_
 rw [if_neg (by simp [aS])]
 unfold wi
 simp only
 refine .bind (P:=fun e:(List a2 × List a2) ⊕ Empty=>e= .inl (j4 s k l i,[])) (.bind (P:=fun e=> ∃ a b,e= .inl (a,b,j4 s k l i,[])) (bo.E5 l.length (fun j st=>st=((j:Int),(j4 s k (l.take j) i,[]))) (by omega) rfl (fun j st aF hs=> ?_) (fun st hs=> ?_)) fun e he=>by obtain⟨a,b,rfl⟩:=he; exact .ret rfl) fun e he=>by subst he; exact .ret rfl
 ·subst hs
  refine .cond (fun _=> ?_) (fun ar=>by simp at ar; omega)
  have an:aA l j∈l:=by rw [eB _ aF]; exact List.getElem_mem _
  have MJ:=(aq.ok _ an).fp
  have hw:j4 s k (l.take (j + 1)) i=if e0 s k (aA l j) i=true then j4 s k (l.take j) i ++ [lP s (aA l j).b5] else j4 s k (l.take j) i:=by
   unfold j4
   rw [pq l aF,List.filter_append]
   by_cases hb:e0 s k (aA l j) i=true
   ·rw [if_pos hb,show [aA l j].filter (fun c=>e0 s k c i)= [aA l j] from by simp [hb],List.map_append]; rfl
   ·rw [if_neg hb,show [aA l j].filter (fun c=>e0 s k c i)= [] from by simp [hb],List.append_nil]
  refine .idx rfl aF (.eq (Dt h av MJ dJ) (.cond (fun aO=> .ret ?_) fun hb=> .eq (E9 h av aS MJ).1 (.cond (fun _=> ?_) fun ar=>by cases ar)))
  ·rw [Bool.not_eq_true'] at aO
   rw [hw,aO,e3 (by omega)]; rfl
  ·rw [Bool.not_eq_false'] at hb
   have hle:=JZ (s:=s) (k:=k) (l:=l.take j) (i:=i)
   rw [List.length_take] at hle
   refine .eq (a:=(Sum.inl (j4 s k (l.take j) i ++ [lP s (aA l j).b5],[]):(List a2 × List a2) ⊕ Empty)) ?_ ?_
   ·show(fT 128 (j4 s k (l.take j) i) [lP s (aA l j).b5]).bind _=_
    rw [h2 _ _ (by simp; omega) (by omega)]; rfl
   ·simp only [Sum.elim_inl]
    refine .ret ?_
    rw [hw,if_pos hb,e3 (by omega)]
 ·subst hs
  refine .cond (fun ar=>by simp at ar) fun _=> .ret ?_
  rw [List.take_length]
  exact⟨_,_,rfl⟩
theorem Jp {s:a3} (h:du s) {k:Nat} (av:k < 4) {l:List aM} (aq:jl s k l) (hlen:l.length≤16) {i:aM} (al:i∈l):
 bo (qD s l i.cy) (fun r=>(mf s k=true→r=(false,13))∧ (mf s k=false→r.2=0∧ (r.1=true↔mn (lP s i.b5) (j4 s k l i)))):=by
 unfold qD
 refine .eq (Pd h av aq al) ?_
 cases aS:mf s k with
 | true=>
   refine .cond (fun _=> .ret ⟨fun _=>rfl,fun ar=>by cases ar⟩) fun ar=>by simp at ar
 | false=>
   refine .cond (fun ar=>by simp at ar) fun _=> ?_
   simp only [Bool.false_eq_true,if_false]
   have hw:=JZ (s:=s) (k:=k) (l:=l) (i:=i)
   refine(OF _ _ (Ew h av aS (aq.ok i al).fp) (Rt h av aS aq i) (by omega)).bind fun y a9=> .ret ⟨fun ar=>(by cases ar),fun _=>a9⟩
end Go.Proofs.YtmnggbjcnoffeaaGreat
namespace Go.Proofs.YtmnggbjcnoffeaaGreat
open Go Gv
set_option linter.unusedVariables false
set_option linter.unusedSimpArgs false
set_option maxRecDepth 100000
theorem Own.iff {hp hp':bb Cell} {t:Nat} {c:fY} (ar:gh hp t=some c) (h:∀ q,Own hp t q→pat hp' q=pat hp q):gh hp' t=some c∧ (∀ bA,dA hp' c.c5 bA=dA hp c.c5 bA)∧ ∀ q,Own hp' t q↔Own hp t q:=by
 have J:gh hp' t=some c:=by rw [Dd (h t (.inl rfl))]; exact ar
 have ab:∀ bA,dA hp' c.c5 bA=dA hp c.c5 bA:=fun bA=>IZ fun p cs hp=>w0 (h p (.inr ⟨c,cs,ar,hp⟩))
 refine⟨J,ab,fun q=>⟨fun hq=> ?_,fun hq=> ?_⟩⟩
 ·rcases hq with rfl | ⟨iX,bA,ax,a1⟩
  ·exact .inl rfl
  ·rw [J] at ax; cases ax
   rw [ab] at a1
   exact .inr ⟨c,bA,ar,a1⟩
 ·rcases hq with rfl | ⟨iX,bA,ax,a1⟩
  ·exact .inl rfl
  ·rw [ar] at ax; cases ax
   exact .inr ⟨c,bA,J,by rw [ab]; exact a1⟩
theorem kd.congr {hp hp':bb Cell} {t:Nat} {g:List Bool→Option Int} (h:kd hp t g) (bh:∀ q,Own hp t q→pat hp' q=pat hp q):kd hp' t g∧ ∀ q,Own hp' t q↔Own hp t q:=by
 obtain⟨c,ar,hb,b9,b0⟩:=h.ok
 obtain⟨J,ab,aC⟩:=Own.iff ar bh
 refine⟨⟨⟨c,J,hb,⟨fun bA p hp=> ?_,fun bA cs p ax a1=> ?_,fun bA p ax=>b9.dep bA p (by rw [← ab]; exact ax)⟩,fun bA=> ?_⟩⟩,aC⟩
 ·rw [ab] at hp
  obtain⟨d,hd⟩:=b9.reads bA p hp
  exact⟨d,by rw [w0 (bh p (.inr ⟨c,bA,ar,hp⟩))]; exact hd⟩
 ·rw [ab] at ax a1
  exact b9.inj bA cs p ax a1
 ·rw [← b0]
  cases e:dA hp c.c5 bA with
  | none=>rw [nT e,nT (by rw [ab]; exact e)]
  | some p=>
    obtain⟨d,hd⟩:=b9.reads bA p e
    rw [mA e hd,mA (by rw [ab]; exact e) (by rw [w0 (bh p (.inr ⟨c,bA,ar,e⟩))]; exact hd)]
theorem kd.uW {hp:bb Cell} {t:Nat} {g:List Bool→Option Int} (h:kd hp t g) {q:Nat} (hq:Own hp t q):q∈ec hp:=by
 obtain⟨c,ar,hb,b9,b0⟩:=h.ok
 rcases hq with rfl | ⟨iX,bA,ax,a1⟩
 ·exact kC (qM.1 ar)
 ·rw [ar] at ax; cases ax
  obtain⟨d,hd⟩:=b9.reads bA q a1
  exact kC (pw.1 hd)
theorem kd.KB {hp:bb Cell} {t:Nat} {g:List Bool→Option Int} (h:kd hp t g) {q:Nat} (hq:Own hp t q):(∃ c,pat hp q=some (.jb c))∨ ∃ c,pat hp q=some (.gJ c):=by
 obtain⟨c,ar,hb,b9,b0⟩:=h.ok
 rcases hq with rfl | ⟨iX,bA,ax,a1⟩
 ·exact .inl ⟨c,qM.1 ar⟩
 ·rw [ar] at ax; cases ax
  obtain⟨d,hd⟩:=b9.reads bA q a1
  exact .inr ⟨d,pw.1 hd⟩
def j8 (a c:bE):Bool:=decide (a.dq=c.dq∧a.cA=c.cA∧a.gF=c.gF)
theorem xP {a c:bE} :j8 a c=true↔a.dq=c.dq∧a.cA=c.cA∧a.gF=c.gF:=by unfold j8; rw [decide_eq_true_eq]
theorem J0 (a c:bE):j8 a c=j8 c a:=by
 rw [Bool.eq_iff_iff,xP,xP]
 exact⟨fun⟨x,y,z⟩=>⟨x.symm,y.symm,z.symm⟩,fun⟨x,y,z⟩=>⟨x.symm,y.symm,z.symm⟩⟩
theorem QF {a c d:bE} (J:j8 a c=true) (ab:j8 c d=true):j8 a d=true:=by
 rw [xP] at *
 exact⟨J.1.trans ab.1,J.2.1.trans ab.2.1,J.2.2.trans ab.2.2⟩
theorem J1 {a c:ch} (J:a.h1=c.h1) (ab:a.bR=c.bR) (aC:a.bK=c.bK) (aU:a.gw=c.gw) (aZ:a.nW=c.nW):a=c:=by
 cases a; cases c; simp_all
theorem J2 {b:Int} {m nM:ch} (h:n4 1 b m) (cJ:n4 1 b nM) (e:m.bR=nM.bR):m=nM:=
 J1 (by rw [h.Mz rfl,cJ.Mz rfl]) e (by rw [h.gD (by decide),cJ.gD (by decide)]) (by rw [h.MB (by decide),cJ.MB (by decide)]) (by rw [h.Cr (by decide),cJ.Cr (by decide)])
theorem Ru {m nM:ch} (h:n4 2 32 m) (cJ:n4 2 32 nM) (e:gz m.bR m.gw.toNat=gz nM.bR nM.gw.toNat):m=nM:=by
 have hp:=h.pre
 have hp':=cJ.pre
 obtain⟨n,aO⟩:=Int.eq_ofNat_of_zero_le hp'.1
 rw [aO,Int.toNat_natCast] at e
 obtain⟨az,aX⟩:=(Rp h (by omega)).1 e
 have cP:m.gw=nM.gw:=by omega
 have Wj:m.h1=nM.h1:=by
  cases ax:m.h1 <;> cases a1:nM.h1
  ·rfl
  ·have:=cJ.MA rfl a1
   have:=h.off ax
   have bJ:(default:ch).gw=0:=rfl
   rw [this,bJ] at cP; omega
  ·have:=h.MA rfl ax
   have:=cJ.off a1
   have bJ:(default:ch).gw=0:=rfl
   rw [this,bJ] at cP; omega
  ·rfl
 refine J1 Wj (Em fun j aF=> ?_) (by rw [h.gD (by decide),cJ.gD (by decide)]) cP (by rw [h.Cr (by decide),cJ.Cr (by decide)])
 cases aq:lead 32 m.gw j with
 | true=>exact(aX j aF aq).symm
 | false=>
   have lJ:b4 m.bR j=false:=by
    rw [Bool.eq_false_iff]; intro aY
    have:=h.GD rfl j aF aY
    rw [(xO hp.1 hp.2).2 this] at aq; cases aq
   have o6:b4 nM.bR j=false:=by
    rw [Bool.eq_false_iff]; intro aY
    have:=cJ.GD rfl j aF aY
    rw [cP,(xO hp'.1 hp'.2).2 this] at aq; cases aq
   rw [lJ,o6]
theorem yU {α:Type} [Inhabited α] {l:List α} (h:l.length=1):l= [aA l 0]:=by
 match l,h with
 | [x],_=>rfl
theorem LY {α:Type} [Inhabited α] {l:List α} (h:l.length=2):l= [aA l 0,aA l 1]:=by
 match l,h with
 | [x,y],_=>rfl
theorem GM {s:a3} (h:du s) {a c:bE} (bh:ig s 0 a) (ar:ig s 0 c):j8 a c=true↔gj a=gj c:=by
 rw [xP]
 have ox:=bh.len; have lc:=ar.len
 have zY:=bh.zy 0; have zZ:=ar.zy 0
 have CB:=bh.pri; have CC:=ar.pri
 rw [h.TY] at ox lc zY zZ CB CC
 have av:∀ i,i < [rU].length→ (aA [rU] i).cI≤2:=by decide
 refine⟨fun⟨J,ab,aC⟩=>by unfold gj; rw [ab],fun e=>⟨by rw [bh.iT,ar.iT],?_,by rw [CB av,CC av]⟩⟩
 have kR:=(LW.1 e).1
 rw [uA (by decide),uA (by decide),ox,lc] at kR
 have kR:(aA a.cA 0).bR=(aA c.cA 0).bR:=kR
 rw [yU (l:=a.cA) ox,yU (l:=c.cA) lc,J2 (zY (by decide)) (zZ (by decide)) kR]
theorem Cv {s:a3} (h:du s) {a c:bE} (bh:ig s 1 a) (ar:ig s 1 c):j8 a c=true↔jq (gj a)=jq (gj c)∧lM a=lM c:=by
 rw [xP]
 have ox:=bh.len; have lc:=ar.len
 have zY:=bh.zy 1; have zZ:=ar.zy 1
 have CB:=LX h bh; have CC:=LX h ar
 have WU:=B1 h bh; have Wk:=B1 h ar
 obtain⟨b,hb⟩:=h.E7
 rw [hb] at ox lc zY zZ
 refine⟨fun⟨J,ab,aC⟩=>by unfold gj lM; rw [ab]; exact⟨rfl,rfl⟩,fun⟨e,e'⟩=>⟨by rw [bh.iT,ar.iT],?_,by rw [CB,CC]⟩⟩
 have bJ:=Ru WU Wk e'
 cases b
 ·rw [yU (l:=a.cA) ox,yU (l:=c.cA) lc,bJ]
 ·have az:=(LW.1 e).2.1
  rw [JV,JV,if_neg (by decide),if_neg (by decide),uA (by decide),uA (by decide),ox,lc] at az
  have az:(aA a.cA 1).bR=(aA c.cA 1).bR:=az
  rw [LY (l:=a.cA) ox,LY (l:=c.cA) lc,bJ,J2 (zY (by decide)) (zZ (by decide)) az]
end Go.Proofs.YtmnggbjcnoffeaaGreat
namespace Go.Proofs.YtmnggbjcnoffeaaGreat
open Go Gv
set_option linter.unusedVariables false
set_option linter.unusedSimpArgs false
set_option maxRecDepth 100000
structure ky (s:a3) (k:Nat) (l:List aM):Prop where
 ok:jl s k l
 key:l.Pairwise fun a c=>j8 a.b5 c.b5=false
theorem ky.uniq {s:a3} {k:Nat} {l:List aM} (h:ky s k l) {a c:aM} (bh:a∈l) (ar:c∈l) (e:j8 a.b5 c.b5=true):a=c:=by
 have aO:=h.key
 clear h
 induction l with
 | nil=>cases bh
 | cons x l bI=>
   obtain⟨J,ab⟩:=List.pairwise_cons.1 aO
   rcases List.mem_cons.1 bh with ax | ax <;> rcases List.mem_cons.1 ar with a1 | a1
   ·rw [ax,a1]
   ·rw [ax,J c a1] at e; cases e
   ·rw [a1,J0,J a ax] at e; cases e
   ·exact bI ax a1 ab
def hD (l:List aM) (e:bE):Option aM:=l.find? fun i=>j8 i.b5 e
theorem AY {l:List aM} {e:bE} {i:aM} (h:hD l e=some i):i∈l∧j8 i.b5 e=true:=by
 unfold hD at h
 have ab:=List.find?_some h
 exact⟨List.mem_of_find?_eq_some h,ab⟩
theorem uB {l:List aM} {e:bE} (h:hD l e=none):∀ i∈l,j8 i.b5 e=false:=fun i al=>by
 have:=List.find?_eq_none.1 h i al
 simpa using this
def tB (o:Option aM):Int × Bool:=match o with | some i=>(i.cy,true) | none=>(0,false)
def tC {α β:Type} (l:List (α × β)):Prop:=l.Pairwise fun a c=>a.1≠c.1
theorem Jq {α β:Type} [DecidableEq α]:∀ {l:List (α × β)} {x:α} {v:β} {a:α × β},a∈fS l x v→a.1=x∨a∈l
 | [],x,v,a,h=>by
   have:a=(x,v):=by simpa [fS] using h
   rw [this]; exact .inl rfl
 | (k,w) :: r,x,v,a,h=>by
   unfold fS at h
   split at h
   ·rcases List.mem_cons.1 h with h | h
    ·rw [h]; exact .inl rfl
    ·exact .inr (by simp [h])
   ·rcases List.mem_cons.1 h with h | h
    ·exact .inr (by simp [h])
    ·exact(Jq h).imp id fun h=>List.mem_cons_of_mem _ h
theorem tC.put {α β:Type} [DecidableEq α]:∀ {l:List (α × β)} {x:α} {v:β},tC l→tC (fS l x v)
 | [],x,v,_=>by unfold fS tC; simp
 | (k,w) :: r,x,v,h=>by
   obtain⟨J,ab⟩:=List.pairwise_cons.1 h
   unfold fS
   split
   ·rename_i e
    refine List.pairwise_cons.2 ⟨fun a bh=> ?_,ab⟩
    have:=J a bh
    rw [e]; exact this
   ·rename_i e
    refine List.pairwise_cons.2 ⟨fun a bh=> ?_,tC.put ab⟩
    rcases Jq bh with g | g
    ·rw [g]; exact fun e'=>e e'.symm
    ·exact J a g
structure Bh (s:a3) (hp:bb Cell) (q:Nat) (l:List aM) (own:Nat→Prop):Prop where
 ok:∃ m em,ns hp q=some ⟨⟨some m⟩⟩∧l6 hp m=some em∧own q∧own m∧ (∀ dC n,eH em dC=some n↔ ∃ i∈l,gj i.b5=dC∧i.cy=n)∧tC em
structure nj (s:a3) (hp:bb Cell) (m:Nat) (l:List aM) (own:Nat→Prop):Prop where
 ok:∃ em,jw hp m=some em∧own m∧
  (∀ dC r,eH em dC=some r→ ∃ t g,r=some t∧kd hp t g∧ (∀ q,Own hp t q→own q)∧ ∀ bA n,g bA=some n↔ ∃ i∈l,jq (gj i.b5)=dC∧lM i.b5=bA∧i.cy=n)∧
  (∀ dC,eH em dC=none→ ∀ i∈l,jq (gj i.b5)≠dC)∧
  (∀ dC jF t hF,eH em dC=some (some t)→eH em jF=some (some hF)→dC≠jF→ ∀ q,Own hp t q→ ¬ Own hp hF q)∧tC em
structure Bi (s:a3) (k:Nat) (hp:bb Cell) (q:Nat) (l:List aM) (own:Nat→Prop):Prop where
 ok:∃ key cap,nt hp q=some (vd s k l,key,cap)∧own q
def rj (s:a3) (k:Nat) (hp:bb Cell) (f:gr) (l:List aM) (own:Nat→Prop):Prop:=
 (k=0∧ ∃ q,f= .mN ⟨some q⟩∧Bh s hp q l own)∨ (k=1∧ ∃ m,f= .mO ⟨0,32,⟨some m⟩⟩∧nj s hp m l own)∨ (2≤k∧ ∃ q,f= .mP ⟨some q⟩∧Bi s k hp q l own)
theorem Il {hp hp':bb Cell} {p:Nat} (h:pat hp' p=pat hp p):ns hp' p=ns hp p:=by unfold ns; rw [h]
theorem Pe {hp hp':bb Cell} {p:Nat} (h:pat hp' p=pat hp p):l6 hp' p=l6 hp p:=by unfold l6; rw [h]
theorem Df {hp hp':bb Cell} {p:Nat} (h:pat hp' p=pat hp p):jw hp' p=jw hp p:=by unfold jw; rw [h]
theorem Pf {hp hp':bb Cell} {p:Nat} (h:pat hp' p=pat hp p):nt hp' p=nt hp p:=by unfold nt; rw [h]
theorem Pg {hp hp':bb Cell} {p:Nat} (h:pat hp' p=pat hp p):iN hp' p=iN hp p:=by unfold iN; rw [h]
theorem Ph {hp hp':bb Cell} {p:Nat} (h:pat hp' p=pat hp p):mK hp' p=mK hp p:=by unfold mK; rw [h]
theorem rj.congr {s:a3} {k:Nat} {hp hp':bb Cell} {f:gr} {l:List aM} {own:Nat→Prop} (h:rj s k hp f l own) {own':Nat→Prop} (bm:∀ q,q∈ec hp→own q→own' q) (bh:∀ q,own q→pat hp' q=pat hp q):rj s k hp' f l own':=by
 rcases h with⟨rfl,q,rfl,h⟩ | ⟨rfl,m,rfl,h⟩ | ⟨av,q,rfl,h⟩
 ·obtain⟨m,em,J,ab,aC,aU,aZ,k9⟩:=h.ok
  refine .inl ⟨rfl,q,rfl,⟨m,em,by rw [Il (bh q aC)]; exact J,by rw [Pe (bh m aU)]; exact ab,bm q (kC (uH J)) aC,bm m (kC (ss ab)) aU,aZ,k9⟩⟩
 ·obtain⟨em,J,ab,aC,aU,aZ,k9⟩:=h.ok
  have key:∀ dC r,eH em dC=some r→ ∃ t g,r=some t∧kd hp t g∧kd hp' t g∧ (∀ q,Own hp t q→own q)∧ (∀ q,Own hp' t q↔Own hp t q)∧ ∀ bA n,g bA=some n↔ ∃ i∈l,jq (gj i.b5)=dC∧lM i.b5=bA∧i.cy=n:=fun dC r aS=>by
   obtain⟨t,g,rfl,ax,a1,br⟩:=aC dC r aS
   obtain⟨cr,g7⟩:=ax.congr fun q hq=>bh q (a1 q hq)
   exact⟨t,g,rfl,ax,cr,a1,g7,br⟩
  refine .inr (.inl ⟨rfl,m,rfl,⟨em,by rw [Df (bh m ab)]; exact J,bm m (kC (oI J)) ab,fun dC r aS=> ?_,aU,fun dC jF t hF b9 mm dv q hq=> ?_,k9⟩⟩)
  ·obtain⟨t,g,rfl,g0,ax,a1,br,cr⟩:=key dC r aS
   exact⟨t,g,rfl,ax,fun q hq=>bm q (g0.uW ((br q).1 hq)) (a1 q ((br q).1 hq)),cr⟩
  ·obtain⟨_,g,e,g0,ax,a1,br,cr⟩:=key dC _ b9
   obtain⟨_,eR,e',Xq,Xr,Xs,Wl,Xt⟩:=key jF _ mm
   cases e; cases e'
   rw [Wl]
   exact aZ dC jF t hF b9 mm dv q ((br q).1 hq)
 ·obtain⟨key,cap,J,ab⟩:=h.ok
  exact .inr (.inr ⟨av,q,rfl,⟨key,cap,by rw [Pf (bh q ab)]; exact J,bm q (kC (xM J)) ab⟩⟩)
theorem D7 {e:bE} (aq:e.cA.length≤4):r6 e=some (gj e):=by
 refine bo.get ?_
 unfold r6
 refine .eq (a:=e.cA) (by unfold sv; rw [if_pos ⟨by omega,by omega,by omega⟩,Int.toNat_zero,List.drop_zero,Nat.sub_zero,List.take_of_length_le (by omega)]) ?_
 refine bo.loop e.cA.length (fun i st=>st.1=(i:Int)∧ ∀ j,j < 4→cf st.2 j=if j < i then(aA e.cA j).bR else default) (by omega) ⟨rfl,fun j aF=>by rw [C7]; rfl⟩ (fun i st al hs=> ?_) (fun st hs=> ?_)
 ·obtain⟨j,v⟩:=st
  obtain⟨az,aX⟩:=hs
  simp only at az aX; subst az
  refine .cond (fun _=> ?_) (fun ar=>by simp at ar; omega)
  refine .idx rfl al (.idx rfl (by omega) (.ret ⟨e3 (by omega),fun j aF=> ?_⟩))
  rw [gv _ _ (by omega)]
  by_cases kr:j=i
  ·rw [if_pos kr,if_pos (by omega),kr]
  ·rw [if_neg kr,aX j aF]
   by_cases h:j < i
   ·rw [if_pos h,if_pos (by omega)]
   ·rw [if_neg h,if_neg (by omega)]
 ·obtain⟨j,v⟩:=st
  obtain⟨az,aX⟩:=hs
  simp only at az aX; subst az
  refine⟨_,by simp; rfl,.ret ?_⟩
  exact DE fun j aF=>by rw [aX j aF,uA aF]
theorem ig.FI {s:a3} (h:du s) {k:Nat} (av:k < 4) {e:bE} (he:ig s k e):e.cA.length≤4∧1≤e.cA.length:=by
 have:=(h.iT av).2.1
 rw [he.len]; omega
theorem QG {a c:List ch} (aq:a.length≤1000):vX a c=some (decide (a=c)):=by
 refine bo.get ?_
 unfold vX
 refine .cond (fun h=> .ret ?_) fun h=> ?_
 ·have:a≠c:=fun e=>by rw [e] at h; simp at h
  simp [this]
 have GK:c.length=a.length:=by
  have:(a.length:Int)=c.length:=by simpa using h
  omega
 refine bo.loop a.length (fun i st=>st=(i:Int)∧ ∀ j,j < i→aA a j=aA c j) (by omega) ⟨rfl,fun j aF=>by omega⟩ (fun i st al hs=> ?_) (fun st hs=> ?_)
 ·obtain⟨rfl,hs⟩:=hs
  refine .cond (fun _=> ?_) (fun ar=>by simp at ar; omega)
  refine .idx rfl al (.idx rfl (by omega) (.cond (fun dv=> .ret ?_) fun he=> .ret ⟨e3 (by omega),fun j aF=> ?_⟩))
  ·simp only [Sum.elim_inr]
   refine .ret ?_
   have:a≠c:=fun e=>by rw [e] at dv; simp at dv
   simp [this]
  ·by_cases kr:j=i
   ·subst kr; simpa using he
   ·exact hs j (by omega)
 ·obtain⟨rfl,hs⟩:=hs
  refine⟨_,by simp; rfl,?_⟩
  simp only [Sum.elim_inl]
  refine .ret ?_
  have:a=c:=List.ext_getElem GK.symm fun j J ab=>by
   have:=hs j J
   rwa [eB _ J,eB _ ab] at this
  simp [this]
theorem Pz {a c:bE} (aq:a.cA.length≤1000):wH a c=some (j8 a c):=by
 refine bo.get ?_
 unfold wH j8
 refine .dt (P:=fun r=>r=decide (a.cA=c.cA)) (fun _=>⟨_,QG aq,rfl⟩) fun y a9=> .ret ?_
 by_cases h:a.dq=c.dq
 ·rw [a9 (by simpa using h)]
  rw [Bool.eq_iff_iff]
  simp [h]
 ·simp [h]
theorem T1 {s:a3} (h:du s) {hp:bb Cell} {q:Nat} {l:List aM} {own:Nat→Prop} (hq:Bh s hp q l own) (aq:ky s 0 l) {e:bE} (he:ig s 0 e):wm hp ⟨some q⟩ e=some (tB (hD l e)):=by
 obtain⟨m,em,J,ab,_,_,aZ,_⟩:=hq.ok
 refine bo.get ?_
 unfold wm Aw
 refine .eq (D7 (he.FI h (by decide)).1) ?_
 have hm:eH em (gj e)=(hD l e).map (·.cy):=by
  cases a8:hD l e with
  | none=>
    cases b0:eH em (gj e) with
    | none=>rfl
    | some n=>
      obtain⟨i,al,bn,_⟩:=(aZ _ _).1 b0
      have:=uB a8 i al
      rw [(GM h (aq.ok.ok i al).fp he).2 bn] at this; cases this
  | some i=>
    obtain⟨al,av⟩:=AY a8
    exact(aZ _ _).2 ⟨i,al,(GM h (aq.ok.ok i al).fp he).1 av,rfl⟩
 refine .eq (a:=tB (hD l e)) ?_ (.ret rfl)
 show(ns hp q).bind _=_
 rw [J]
 show(l6 hp m).bind _=_
 rw [ab]
 show some ((eH em (gj e)).getD default,(eH em (gj e)).isSome)=_
 rw [hm]
 cases hD l e <;> rfl
theorem J3 {s:a3} (h:du s) {e:bE} (he:ig s 1 e) (m:fR):tI ⟨0,32,m⟩ e=some (jq (gj e),(aA e.cA 0).bR,(aA e.cA 0).gw):=by
 have aq:=he.FI h (by decide)
 refine bo.get ?_
 unfold tI z5
 refine .eq (D7 aq.1) (.eq (a:=(jq (gj e),cf (gj e) 0)) rfl (.cond (fun ar=>by have ar:(0:Int)≥ (e.cA.length:Int):=of_decide_eq_true ar; omega) fun _=> .idx (k:=0) rfl (by omega) (.ret ?_)))
 rw [uA (by decide),if_pos (by omega)]
theorem Jr {m:ch} (h:n4 2 32 m):∀ j,j < 128→b4 m.bR j=true→lead 32 m.gw j=true:=fun j aF aY=>
 (xO h.pre.1 h.pre.2).2 (h.GD rfl j aF aY)
theorem T2 {s:a3} (h:du s) {hp:bb Cell} {m:Nat} {l:List aM} {own:Nat→Prop} (hq:nj s hp m l own) (aq:ky s 1 l) {e:bE} (he:ig s 1 e):wa hp ⟨0,32,⟨some m⟩⟩ e=some (tB (hD l e)):=by
 obtain⟨em,J,_,aC,aU,_⟩:=hq.ok
 have hB:=B1 h he
 refine bo.get ?_
 unfold wa
 refine .eq (J3 h he _) (.eq rfl (.eq J (.eq rfl ?_)))
 obtain⟨n,aO⟩:=Int.eq_ofNat_of_zero_le hB.pre.1
 have FJ:n≤32:=by have:=hB.pre.2; omega
 have yk:=Jr hB
 refine .eq (a:=tB (hD l e)) ?_ (.ret rfl)
 simp only
 cases aS:eH em (jq (gj e)) with
 | none=>
   have a8:hD l e=none:=by
    cases a8:hD l e with
    | none=>rfl
    | some i=>
      obtain⟨al,av⟩:=AY a8
      exact absurd ((Cv h (aq.ok.ok i al).fp he).1 av).1 (aU _ aS i al)
   rw [a8]; rfl
 | some r=>
   obtain⟨t,g,rfl,ax,_,br⟩:=aC _ _ aS
   have b0:g (lM e)=(hD l e).map (·.cy):=by
    cases a8:hD l e with
    | none=>
      cases GN:g (lM e) with
      | none=>rfl
      | some n=>
        obtain⟨i,al,bn,cE,_⟩:=(br _ _).1 GN
        have:=uB a8 i al
        rw [(Cv h (aq.ok.ok i al).fp he).2 ⟨bn,cE⟩] at this; cases this
    | some i=>
      obtain⟨al,av⟩:=AY a8
      obtain⟨bn,cE⟩:=(Cv h (aq.ok.ok i al).fp he).1 av
      exact(br _ _).2 ⟨i,al,bn,cE,rfl⟩
   rw [aO] at yk ⊢
   show tZ hp (some t) _ (n:Int)=_
   rw [R5 ax FJ yk]
   have hp':gz (aA e.cA 0).bR n=lM e:=by unfold lM; rw [aO]; rfl
   rw [hp',b0]
   cases hD l e <;> rfl
theorem T3 {s:a3} (h:du s) {k:Nat} (av:k < 4) {hp:bb Cell} {q:Nat} {l:List aM} {own:Nat→Prop} (hq:Bi s k hp q l own) (aq:ky s k l) {e:bE} (he:ig s k e):wy hp ⟨some q⟩ e=some (tB (hD l e)):=by
 obtain⟨key,cap,J,_⟩:=hq.ok
 refine bo.get ?_
 unfold wy
 refine .eq rfl (.eq J (.eq (R4 h av aq.ok) ?_))
 obtain⟨m4,iV⟩:=aq.ok.h0
 have a8:hD l e=(h0 (e0 s k) l).find? fun i=>j8 i.b5 e:=by
  cases a8:hD l e with
  | none=>
    symm
    rw [List.find?_eq_none]
    intro x an
    rw [uB a8 x (sA.1 an)]; simp
  | some i=>
    obtain⟨al,zg⟩:=AY a8
    exact(Rn (Bg s k) aq.ok.ME al zg fun d hd Wm=> .inl (aq.uniq hd al (QF Wm (by rw [J0]; exact zg)))).symm
 rw [a8]
 refine bo.loop (h0 (e0 s k) l).length (fun i st=>st=(i:Int)∧ ∀ j,j < i→j8 (aA (h0 (e0 s k) l) j).b5 e=false) (by omega) ⟨rfl,fun j aF=>by omega⟩ (fun i st al hs=> ?_) (fun st hs=> ?_)
 ·obtain⟨rfl,hs⟩:=hs
  refine .cond (fun _=> ?_) (fun ar=>by simp at ar; omega)
  have hm:=m4 (aA (h0 (e0 s k) l) i) (by rw [eB _ al]; exact List.getElem_mem _)
  refine .idx rfl al (.eq (Pz (hm.small h av).1) (.cond (fun ar=> .ret ?_) fun ar=> .ret ⟨e3 (by omega),fun j aF=> ?_⟩))
  ·simp only [Sum.elim_inr]
   refine .ret ?_
   rw [Rd (p:=fun i=>j8 i.b5 e) al ar hs]; rfl
  ·by_cases kr:j=i
   ·subst kr; exact ar
   ·exact hs j (by omega)
 ·obtain⟨rfl,hs⟩:=hs
  refine⟨_,by simp; rfl,?_⟩
  simp only [Sum.elim_inl]
  refine .ret ?_
  rw [Re fun c ar=> ?_]
  ·rfl
  ·obtain⟨j,aF,rfl⟩:=List.mem_iff_getElem.1 ar
   rw [← eB _ aF]; exact hs j aF
theorem T4 {s:a3} (h:du s) {k:Nat} (av:k < 4) {hp:bb Cell} {f:gr} {l:List aM} {own:Nat→Prop} (hq:rj s k hp f l own) (aq:ky s k l) {e:bE} (he:ig s k e):CP hp f e=some (tB (hD l e)):=by
 rcases hq with⟨rfl,q,rfl,hq⟩ | ⟨rfl,m,rfl,hq⟩ | ⟨c7,q,rfl,hq⟩
 ·exact T1 h hq aq he
 ·exact T2 h hq aq he
 ·exact T3 h av hq aq he
end Go.Proofs.YtmnggbjcnoffeaaGreat
namespace Go.Proofs.YtmnggbjcnoffeaaGreat
open Go Gv
set_option linter.unusedVariables false
set_option linter.unusedSimpArgs false
set_option maxRecDepth 100000
def lv (own:Nat→Prop) (hp hp':bb Cell) (q:Nat):Prop:=own q∨ (q ∉ ec hp∧q∈ec hp')
theorem QH {hp:bb Cell} {p:Nat} {k:Cell} {x:List (Vector ao 4 × Int)} (h:pat hp p=some k):l6 (dz hp p (.n5 x)) p=some x:=by unfold l6; rw [uU h]
theorem QI {hp:bb Cell} {p:Nat} {k:Cell} {x:List (Vector ao 4 × Ref)} (h:pat hp p=some k):jw (dz hp p (.mc x)) p=some x:=by unfold jw; rw [uU h]
theorem U9 {s:a3} (h:du s) {hp:bb Cell} {q:Nat} {l:List aM} {own:Nat→Prop} (hq:Bh s hp q l own) (aq:ky s 0 l) {i:aM} (al:ks s 0 i) (a8:hD l i.b5=none):
 bo (wB hp ⟨some q⟩ i) (fun hp'=>Bh s hp' q (l ++ [i]) (lv own hp hp')∧gi hp hp' own):=by
 obtain⟨m,em,J,ab,aC,aU,aZ,k9⟩:=hq.ok
 have fU:eH em (gj i.b5)=none:=by
  cases b0:eH em (gj i.b5) with
  | none=>rfl
  | some n=>
    obtain⟨c,ar,bn,_⟩:=(aZ _ _).1 b0
    have:=uB a8 c ar
    rw [(GM h (aq.ok.ok c ar).fp al.fp).2 bn] at this; cases this
 unfold wB Av
 refine .eq (D7 (al.fp.FI h (by decide)).1) ?_
 refine .eq (a:=(true,dz hp m (Cell.n5 (fS em (gj i.b5) i.cy)))) ?_ (.ret ?_)
 ·show(ns hp q).bind _=_
  rw [J]
  show(l6 hp m).bind _=_
  rw [ab]
  show cond (eH em (gj i.b5)).isSome _ _=_
  rw [fU]; rfl
 have GO:q≠m:=fun e=>by
  subst e
  have:=uH J
  rw [ss ab] at this; cases this
 refine⟨⟨m,_,by rw [Il (qL GO.symm)]; exact J,QH (ss ab),.inl aC,.inl aU,fun dC n=> ?_,k9.put⟩,.up aU⟩
 rw [xb]
 by_cases jE:dC=gj i.b5
 ·rw [if_pos jE]
  constructor
  ·intro e
   cases e
   exact⟨i,by simp,jE.symm,rfl⟩
  ·rintro ⟨c,ar,bn,cE⟩
   rcases List.mem_append.1 ar with ar | ar
   ·have:=(aZ _ _).2 ⟨c,ar,bn,cE⟩
    rw [jE,fU] at this; cases this
   ·rw [List.mem_singleton.1 ar] at cE; rw [cE]
 ·rw [if_neg jE,aZ]
  constructor
  ·rintro ⟨c,ar,bn⟩; exact⟨c,by simp [ar],bn⟩
  ·rintro ⟨c,ar,bn,cE⟩
   rcases List.mem_append.1 ar with ar | ar
   ·exact⟨c,ar,bn,cE⟩
   ·rw [List.mem_singleton.1 ar] at bn; exact absurd bn.symm jE
theorem Va {s:a3} (h:du s) {hp:bb Cell} {m:Nat} {l:List aM} {own:Nat→Prop} (hq:nj s hp m l own) (eQ:∀ q,own q→q∈ec hp) (aq:ky s 1 l) {i:aM} (al:ks s 1 i) (a8:hD l i.b5=none)
 {em:List (Vector ao 4 × Ref)} (mX:jw hp m=some em) {t:Nat} (b9:eH em (jq (gj i.b5))=some (some t)):
 dY (tY hp (some t) (aA i.b5.cA 0).bR (aA i.b5.cA 0).gw i.cy) (fun r=>nj s r.2 m (l ++ [i]) (lv own hp r.2)∧gi hp r.2 own):=by
 obtain⟨Wn,J,ab,aC,aU,aZ,k9⟩:=hq.ok
 rw [mX] at J; cases J
 have hB:=B1 h al.fp
 obtain⟨hF,g,e,ax,a1,br⟩:=aC _ _ b9
 cases e
 obtain⟨n,aO⟩:=Int.eq_ofNat_of_zero_le hB.pre.1
 have FJ:n≤32:=by have:=hB.pre.2; omega
 have yk:=Jr hB
 have hp':gz (aA i.b5.cA 0).bR n=lM i.b5:=by unfold lM; rw [aO]; rfl
 have fU:g (lM i.b5)=none:=by
  cases GN:g (lM i.b5) with
  | none=>rfl
  | some n=>
    obtain⟨c,ar,bn,cE,_⟩:=(br _ _).1 GN
    have:=uB a8 c ar
    rw [(Cv h (aq.ok.ok c ar).fp al.fp).2 ⟨bn,cE⟩] at this; cases this
 rw [aO] at yk ⊢
 refine(TW ax FJ yk i.cy (by rw [hp']; exact fU)).mono fun r aS=> ?_
 obtain⟨_,m4,iV,tv⟩:=aS
 rw [hp'] at m4
 have Wo:∀ q,Own hp t q→q≠m:=fun q Wp e=>by
  have:=oI mX
  rw [← e] at this
  rcases ax.KB Wp with⟨c,ar⟩ | ⟨c,ar⟩ <;> rw [ar] at this <;> cases this
 have mh:pat r.2 m=pat hp m:=iV.rest m (kC (oI mX)) fun hq=>Wo m hq rfl
 have Bj:∀ dC hF,dC≠jq (gj i.b5)→eH em dC=some (some hF)→ ∃ eR,kd hp hF eR∧kd r.2 hF eR∧ (∀ q,Own hp hF q→own q)∧ (∀ q,Own r.2 hF q↔Own hp hF q)∧ ∀ bA n,eR bA=some n↔ ∃ i∈l,jq (gj i.b5)=dC∧lM i.b5=bA∧i.cy=n:=fun dC hF dv aS=>by
  obtain⟨Xu,eR,e,eg,ei,jn⟩:=aC dC _ aS
  cases e
  obtain⟨eu,fF⟩:=eg.congr (hp':=r.2) fun q hq=>iV.rest q (eg.uW hq) fun gC=>aZ _ _ _ _ b9 aS dv.symm q gC hq
  exact⟨eR,eg,eu,ei,fF,jn⟩
 have yR:∀ q,Own r.2 t q→lv own hp r.2 q:=fun q hq=>by
  rcases tv q hq with bn | bn
  ·exact .inl (a1 q bn)
  ·exact .inr ⟨bn,m4.uW hq⟩
 refine⟨⟨em,by rw [Df mh]; exact mX,.inl ab,fun dC qw lh=> ?_,fun dC jE c ar=> ?_,fun dC jF t1 t2 mY mq dv q ou nF=> ?_,k9⟩,⟨iV.keys,fun q hq fU=>iV.rest q hq fun gC=>fU (a1 q gC)⟩⟩
 ·by_cases jE:dC=jq (gj i.b5)
  ·subst jE
   rw [b9] at lh; cases lh
   refine⟨t,_,rfl,m4,yR,fun bA Hc=> ?_⟩
   by_cases zE:bA=lM i.b5
   ·simp only [if_pos zE]
    constructor
    ·intro e; cases e
     exact⟨i,by simp,rfl,zE.symm,rfl⟩
    ·rintro ⟨c,ar,bn,cE,dW⟩
     rcases List.mem_append.1 ar with ar | ar
     ·have:=(br _ _).2 ⟨c,ar,bn,cE,dW⟩
      rw [zE,fU] at this; cases this
     ·rw [List.mem_singleton.1 ar] at dW; rw [dW]
   ·simp only [if_neg zE]
    rw [br]
    constructor
    ·rintro ⟨c,ar,bn⟩; exact⟨c,by simp [ar],bn⟩
    ·rintro ⟨c,ar,bn,cE,dW⟩
     rcases List.mem_append.1 ar with ar | ar
     ·exact⟨c,ar,bn,cE,dW⟩
     ·rw [List.mem_singleton.1 ar] at cE; exact absurd cE.symm zE
  ·obtain⟨hF,eR,e,_⟩:=aC dC qw lh
   subst e
   obtain⟨MK,eg,ei,jn,lO,qx⟩:=Bj dC hF jE lh
   refine⟨hF,MK,rfl,ei,fun q hq=> .inl (jn q ((lO q).1 hq)),fun bA Hc=> ?_⟩
   rw [qx]
   constructor
   ·rintro ⟨c,ar,bn⟩; exact⟨c,by simp [ar],bn⟩
   ·rintro ⟨c,ar,bn,cE⟩
    rcases List.mem_append.1 ar with ar | ar
    ·exact⟨c,ar,bn,cE⟩
    ·rw [List.mem_singleton.1 ar] at bn; exact absurd bn.symm jE
 ·rcases List.mem_append.1 ar with ar | ar
  ·exact aU dC jE c ar
  ·rw [List.mem_singleton.1 ar]
   intro e
   rw [← e,b9] at jE; cases jE
 ·
  have KC:∀ dC hF,dC≠jq (gj i.b5)→eH em dC=some (some hF)→ ∀ q,Own r.2 t q→ ¬ Own r.2 hF q:=fun dC hF dv aS q hq gC=>by
   obtain⟨MK,eg,ei,jn,lO,qx⟩:=Bj dC hF dv aS
   have gC:=(lO q).1 gC
   rcases tv q hq with bn | bn
   ·exact aZ _ _ _ _ b9 aS dv.symm q bn gC
   ·exact bn (eg.uW gC)
  by_cases az:dC=jq (gj i.b5)
  ·subst az
   rw [b9] at mY; cases mY
   exact KC jF t2 dv.symm mq q ou nF
  ·by_cases aX:jF=jq (gj i.b5)
   ·subst aX
    rw [b9] at mq; cases mq
    exact KC dC t1 az mY q nF ou
   ·obtain⟨_,_,_,_,lO,_⟩:=Bj dC t1 az mY
    obtain⟨_,_,_,_,M7,_⟩:=Bj jF t2 aX mq
    exact aZ _ _ _ _ mY mq dv q ((lO q).1 ou) ((M7 q).1 nF)
end Go.Proofs.YtmnggbjcnoffeaaGreat
namespace Go.Proofs.YtmnggbjcnoffeaaGreat
open Go Gv
set_option linter.unusedVariables false
set_option linter.unusedSimpArgs false
set_option maxRecDepth 100000
theorem OG {own:Nat→Prop} {bJ J ab:bb Cell} {q:Nat} (av:∀ q,q∈ec bJ→q∈ec J) (c7:∀ q,q∈ec J→q∈ec ab) (h:lv (lv own bJ J) J ab q):lv own bJ ab q:=by
 rcases h with(h | ⟨h,cJ⟩) | ⟨h,cJ⟩
 ·exact .inl h
 ·exact .inr ⟨h,c7 q cJ⟩
 ·exact .inr ⟨fun aC=>h (av q aC),cJ⟩
theorem nj.mono {s:a3} {hp:bb Cell} {m:Nat} {l:List aM} {own own':Nat→Prop} (h:nj s hp m l own) (bm:∀ q,own q→own' q):nj s hp m l own':=by
 obtain⟨em,J,ab,aC,aU,aZ,k9⟩:=h.ok
 exact⟨em,J,bm m ab,fun dC r aS=>by obtain⟨t,g,e,a,b,c⟩:=aC dC r aS; exact⟨t,g,e,a,fun q hq=>bm q (b q hq),c⟩,aU,aZ,k9⟩
theorem gi.grow {bJ J ab:bb Cell} {own:Nat→Prop} (a:gi bJ J own) (b:gi J ab (lv own bJ J)):gi bJ ab own:=
 a.trans b fun q hq h=>h.elim (fun h=>h) fun h=>absurd hq h.1
theorem Vb {s:a3} {hp:bb Cell} {m:Nat} {l:List aM} {own:Nat→Prop} (hq:nj s hp m l own)
 {em:List (Vector ao 4 × Ref)} (mX:jw hp m=some em) {dC:Vector ao 4} (fU:eH em dC=none) {a:Nat} (bh:a ∉ ec hp) {z:fY} (dR:z.eN=32) (aS:z.c5=none):
 nj s (dz ((a,Cell.jb z) :: hp) m (.mc (fS em dC (some a)))) m l (lv own hp (dz ((a,Cell.jb z) :: hp) m (.mc (fS em dC (some a)))))∧gi hp (dz ((a,Cell.jb z) :: hp) m (.mc (fS em dC (some a)))) own∧
  jw (dz ((a,Cell.jb z) :: hp) m (.mc (fS em dC (some a)))) m=some (fS em dC (some a)):=by
 obtain⟨Wn,J,ab,aC,aU,aZ,k9⟩:=hq.ok
 rw [mX] at J; cases J
 have mh:=oI mX
 have ML:=xc bh mh
 have cM:pat ((a,Cell.jb z) :: hp) m=some (.mc em):=by rw [qS,if_neg ML]; exact mh
 generalize eX:dz ((a,Cell.jb z) :: hp) m (.mc (fS em dC (some a)))=dy
 have ax:jw dy m=some (fS em dC (some a)):=by rw [← eX]; exact QI cM
 have a1:pat dy a=some (.jb z):=by rw [← eX,qL ML.symm,qS,if_pos rfl]
 have br:∀ q,q≠m→q≠a→pat dy q=pat hp q:=fun q GO rL=>by rw [← eX,qL GO.symm,qS,if_neg rL.symm]
 have av:gi hp dy own:=by
  rw [← eX]
  exact(gi.mk' (own:=own) bh).trans (gi.up ab) fun q _ h=>h
 have MM:gh dy a=some z:=qM.2 a1
 have T5:kd dy a (fun _=>none):=⟨z,MM,dR,by rw [aS]; exact⟨fun bA p h=>(by rw [h3] at h; cases h),fun bA cs p h _=>(by rw [h3] at h; cases h),fun bA p h=>(by rw [h3] at h; cases h)⟩,fun bA=>by rw [aS]; exact nT h3⟩
 have Fa:∀ q,Own dy a q→q=a:=fun q o9=>by
  rcases o9 with h | ⟨c,bA,bn,cE⟩
  ·exact h
  ·rw [MM] at bn; cases bn
   rw [aS,h3] at cE; cases cE
 have hold:∀ t g,kd hp t g→kd dy t g∧ ∀ q,Own dy t q↔Own hp t q:=fun t g b9=>b9.congr fun q o9=>by
  refine br q (fun e=> ?_) fun e=>bh (by rw [← e]; exact b9.uW o9)
  rw [← e] at mh
  rcases b9.KB o9 with⟨c,ar⟩ | ⟨c,ar⟩ <;> rw [ar] at mh <;> cases mh
 refine⟨⟨_,ax,.inl ab,fun jF r lh=> ?_,fun jF lh=> ?_,fun GP Cw t1 t2 mY mq dv q ou nF=> ?_,k9.put⟩,av,ax⟩
 ·rw [xb] at lh
  by_cases e:jF=dC
  ·rw [if_pos e] at lh; cases lh
   exact⟨a,_,rfl,T5,fun q o9=>by rw [Fa q o9]; exact .inr ⟨bh,kC a1⟩,fun bA n=>⟨fun h=>(by cases h),fun⟨i,al,bn,_⟩=>absurd (bn.trans e) (aU dC fU i al)⟩⟩
  ·rw [if_neg e] at lh
   obtain⟨t,g,rfl,eg,ei,jn⟩:=aC jF r lh
   obtain⟨eu,fF⟩:=hold t g eg
   exact⟨t,g,rfl,eu,fun q o9=> .inl (ei q ((fF q).1 o9)),jn⟩
 ·rw [xb] at lh
  by_cases e:jF=dC
  ·rw [if_pos e] at lh; cases lh
  ·rw [if_neg e] at lh; exact aU jF lh
 ·rw [xb] at mY mq
  have an:∀ jF hF,eH em jF=some (some hF)→ ∀ q,q=a→ ¬ Own dy hF q:=fun jF hF mm q e o9=>by
   obtain⟨t,g,e',eg,_⟩:=aC jF _ mm
   cases e'
   have:=(hold hF g eg).2 q |>.1 o9
   exact bh (by rw [← e]; exact eg.uW this)
  by_cases az:GP=dC
  ·rw [if_pos az] at mY; cases mY
   by_cases aX:Cw=dC
   ·exact dv (az.trans aX.symm)
   ·rw [if_neg aX] at mq
    exact an Cw t2 mq q (Fa q ou) nF
  ·rw [if_neg az] at mY
   by_cases aX:Cw=dC
   ·rw [if_pos aX] at mq; cases mq
    exact an GP t1 mY q (Fa q nF) ou
   ·rw [if_neg aX] at mq
    obtain⟨t,g,e',eg,_⟩:=aC GP _ mY
    cases e'
    obtain⟨hF,eR,Gu,Wq,_⟩:=aC Cw _ mq
    cases Gu
    exact aZ _ _ _ _ mY mq dv q (((hold _ _ eg).2 q).1 ou) (((hold _ _ Wq).2 q).1 nF)
theorem T6 {s:a3} (h:du s) {hp:bb Cell} {m:Nat} {l:List aM} {own:Nat→Prop} (hq:nj s hp m l own) (eQ:∀ q,own q→q∈ec hp) (aq:ky s 1 l) {i:aM} (al:ks s 1 i) (a8:hD l i.b5=none):
 dY (wj hp ⟨0,32,⟨some m⟩⟩ i) (fun hp'=>nj s hp' m (l ++ [i]) (lv own hp hp')∧gi hp hp' own):=by
 obtain⟨em,mX,ab,aC,aU,aZ,_⟩:=hq.ok
 unfold wj
 refine .eq (J3 h al.fp _) (.eq rfl (.eq mX (.eq rfl ?_)))
 simp only
 refine .bind (P:=fun bO=>nj s bO m l (lv own hp bO)∧gi hp bO own∧ ∃ GQ t,jw bO m=some GQ∧eH GQ (jq (gj i.b5))=some (some t)) (.cond (fun ar=> ?_) fun ar=> .ret ?_) fun bO cM=> ?_
 ·have fU:eH em (jq (gj i.b5))=none:=by
   cases b0:eH em (jq (gj i.b5)) with
   | none=>rfl
   | some r=>
     obtain⟨t,_,rfl,_⟩:=aC _ _ b0
     rw [b0] at ar; cases ar
  unfold AL
  refine .bind (P:=fun r=> ∃ a,a ∉ ec hp∧r=((some a:Ref),(a,Cell.jb ({ (default:fY) with eN:=32 })) :: hp)) (.eq rfl (.mk fun a bh=> .ret ⟨a,bh,rfl⟩)) fun bc bn=> ?_
  obtain⟨a,bh,rfl⟩:=bn
  have mU:jw ((a,Cell.jb ({ (default:fY) with eN:=32 })) :: hp) m=some em:=(Df (hp:=hp) (by rw [qS,if_neg (xc bh (oI mX))])).trans mX
  obtain⟨ax,a1,br⟩:=Vb hq mX fU bh (z:= { (default:fY) with eN:=32 }) rfl rfl
  refine .eq mU (.eq rfl (.ret ⟨ax,a1,_,a,br,by rw [xb,if_pos rfl]⟩))
 ·cases b0:eH em (jq (gj i.b5)) with
  | none=>rw [b0] at ar; cases ar
  | some r=>
    obtain⟨t,_,rfl,_⟩:=aC _ _ b0
    exact⟨hq.mono fun q hq=> .inl hq,.refl,em,t,mX,b0⟩
 ·obtain⟨ax,a1,GQ,t,br,cr⟩:=cM
  refine .eq br (.eq rfl ?_)
  simp only [cr]
  refine .bind (Va h ax (fun q hq=>hq.elim (fun hq=>a1.keys q (eQ q hq)) fun hq=>hq.2) aq al a8 br cr) fun r aS=> .ret ?_
  exact⟨aS.1.mono fun q hq=>OG a1.keys aS.2.keys hq,a1.grow aS.2⟩
theorem QJ {hp:bb Cell} {p:Nat} {k:Cell} {x:dr} {y:Option Nat} {n:Nat} (h:pat hp p=some k):nt (dz hp p (.rk x y n)) p=some (x,y,n):=by unfold nt; rw [uU h]
theorem T7 {s:a3} (h:du s) {k:Nat} (av:k < 4) {hp:bb Cell} {q:Nat} {l:List aM} {own:Nat→Prop} (hq:Bi s k hp q l own) (aq:ky s k l) {i:aM} (al:ks s k i) (j7:jA l i.cy=false) (hlen:l.length < 900):
 dY (wC hp ⟨some q⟩ i) (fun hp'=>Bi s k hp' q (l ++ [i]) (lv own hp hp')∧gi hp hp' own):=by
 obtain⟨key,cap,J,ab⟩:=hq.ok
 unfold wC
 refine .eq rfl (.eq J (.eq (R3 h av aq.ok al hlen) (.any fun aE=> .eq rfl (.ret ?_))))
 rw [j7]
 exact⟨⟨aE.1,aE.2,QJ (xM J),.inl ab⟩,.up ab⟩
theorem T8 {s:a3} (h:du s) {k:Nat} (av:k < 4) {hp:bb Cell} {f:gr} {l:List aM} {own:Nat→Prop} (hq:rj s k hp f l own) (eQ:∀ q,own q→q∈ec hp) (aq:ky s k l) {i:aM} (al:ks s k i) (a8:hD l i.b5=none) (j7:jA l i.cy=false) (hlen:l.length < 900):
 dY (CV hp f i) (fun hp'=>rj s k hp' f (l ++ [i]) (lv own hp hp')∧gi hp hp' own):=by
 rcases hq with⟨rfl,q,rfl,hq⟩ | ⟨rfl,m,rfl,hq⟩ | ⟨c7,q,rfl,hq⟩
 ·exact dY.of ((U9 h hq aq al a8).mono fun hp' aS=>⟨.inl ⟨rfl,q,rfl,aS.1⟩,aS.2⟩)
 ·exact(T6 h hq eQ aq al a8).mono fun hp' aS=>⟨.inr (.inl ⟨rfl,m,rfl,aS.1⟩),aS.2⟩
 ·exact(T7 h av hq aq al j7 hlen).mono fun hp' aS=>⟨.inr (.inr ⟨c7,q,rfl,aS.1⟩),aS.2⟩
theorem Js {α β:Type} [DecidableEq α]:∀ {l:List (α × β)} {x:α} {v:β},eH l x=some v→ (x,v)∈l
 | [],_,_,h=>by cases h
 | (k,w) :: r,x,v,h=>by
   unfold eH at h
   split at h
   ·rename_i e; cases h; rw [e]; simp
   ·exact List.mem_cons_of_mem _ (Js h)
theorem J4 {α β:Type} [DecidableEq α]:∀ {l:List (α × β)} {x:α} {v:β},l.Pairwise (fun a c=>a.1≠c.1)→ (x,v)∈l→eH l x=some v
 | [],_,_,_,h=>by cases h
 | (k,w) :: r,x,v,aO,h=>by
   obtain⟨J,ab⟩:=List.pairwise_cons.1 aO
   unfold eH
   rcases List.mem_cons.1 h with h | h
   ·cases h; rw [if_pos rfl]
   ·rw [if_neg (fun e=>J _ h e.symm),J4 ab h]
theorem Jt {α β:Type} [DecidableEq α]:∀ {l:List (α × β)} {x:α} {v:β},eH l x=none→fS l x v=l ++ [(x,v)]
 | [],_,_,_=>rfl
 | (k,w) :: r,x,v,h=>by
   unfold eH at h
   split at h
   ·cases h
   ·rename_i e
    show(if x=k then _ else _)=_
    rw [if_neg e,Jt h]; rfl
def vw (em:List (Int × aM)) (l:List aM):Prop:=em.Perm (l.map fun i=>(i.cy,i))
theorem vw.get {s:a3} {k:Nat} {em:List (Int × aM)} {l:List aM} (h:vw em l) (aq:jl s k l) (n:Int) (i:aM):eH em n=some i↔i∈l∧i.cy=n:=by
 have hd:em.Pairwise (fun a c=>a.1≠c.1):=by
  refine(h.pairwise_iff fun ct=>Ne.symm ct).2 ?_
  rw [List.pairwise_map]
  exact aq.num.imp fun ct=>ct
 have hm:(n,i)∈em↔i∈l∧i.cy=n:=by
  rw [h.mem_iff,List.mem_map]
  constructor
  ·rintro ⟨c,ar,e⟩
   cases e; exact⟨ar,rfl⟩
  ·rintro ⟨al,rfl⟩
   exact⟨i,al,rfl⟩
 rw [← hm]
 exact⟨Js,J4 hd⟩
theorem vw.no {s:a3} {k:Nat} {em:List (Int × aM)} {l:List aM} (h:vw em l) (aq:jl s k l) (n:Int):(eH em n).isSome=jA l n:=by
 rw [Bool.eq_iff_iff,Option.isSome_iff_exists]
 unfold jA
 rw [List.any_eq_true]
 constructor
 ·rintro ⟨i,al⟩
  obtain⟨J,ab⟩:=(h.get aq n i).1 al
  exact⟨i,J,by simpa using ab⟩
 ·rintro ⟨i,al,ab⟩
  exact⟨i,(h.get aq n i).2 ⟨al,by simpa using ab⟩⟩
structure lC (s:a3) (k:Nat) (hp:bb Cell) (p:Nat) (l:List aM) (own:Nat→Prop):Prop where
 tD:ky s k l
 cell:∃ f m em,iN hp p=some ⟨m5 k,(Hn s k:Int),f,⟨some m⟩⟩∧mK hp m=some em∧own p∧own m∧vw em l∧rj s k hp f l (fun q=>own q∧q≠m∧q≠p)
 zF:∀ q,own q→q∈ec hp
theorem lC.congr {s:a3} {k:Nat} {hp hp':bb Cell} {p:Nat} {l:List aM} {own:Nat→Prop} (h:lC s k hp p l own) (av:∀ q,q∈ec hp→q∈ec hp') (bh:∀ q,own q→pat hp' q=pat hp q):lC s k hp' p l own:=by
 obtain⟨f,m,em,J,ab,aC,aU,aZ,bn⟩:=h.cell
 exact⟨h.tD,⟨f,m,em,by rw [Pg (bh p aC)]; exact J,by rw [Ph (bh m aU)]; exact ab,aC,aU,aZ,bn.congr (fun q _ hq=>hq) fun q hq=>bh q hq.1⟩,fun q hq=>av q (h.zF q hq)⟩
theorem lC.pY {s:a3} {k:Nat} {hp hp':bb Cell} {p:Nat} {l:List aM} {own own':Nat→Prop} (h:lC s k hp p l own) (av:gi hp hp' own') (hd:∀ q,own q→ ¬ own' q):lC s k hp' p l own:=
 h.congr av.keys fun q hq=>av.rest q (h.zF q hq) (hd q hq)
end Go.Proofs.YtmnggbjcnoffeaaGreat
namespace Go.Proofs.YtmnggbjcnoffeaaGreat
open Go Gv
set_option linter.unusedVariables false
set_option linter.unusedSimpArgs false
set_option maxRecDepth 100000
theorem lC.mono {s:a3} {k:Nat} {hp:bb Cell} {p:Nat} {l:List aM} {own own':Nat→Prop} (h:lC s k hp p l own) (bm:∀ q,own q→own' q) (al:∀ q,own' q→q∈ec hp):lC s k hp p l own':=by
 obtain⟨f,m,em,J,ab,aC,aU,aZ,bn⟩:=h.cell
 exact⟨h.tD,⟨f,m,em,J,ab,bm p aC,bm m aU,aZ,bn.congr (fun q _ hq=>⟨bm q hq.1,hq.2⟩) fun q hq=>rfl⟩,al⟩
theorem ky.nil {s:a3} {k:Nat} :ky s k []:=⟨⟨fun i al=>by(cases al),.nil,by simp⟩,.nil⟩
def GR:Nat→Prop:=fun _=>False
theorem R7 {s:a3} (h:du s) {k:Nat} (av:k < 4) (hp:bb Cell):dY (uq hp s ((k:Int) + 1)) (fun r=> ∃ p,r.1=some p∧lC s k r.2 p [] (lv GR hp r.2)∧gi hp r.2 GR):=by
 refine(TX h av hp).mono fun r aS=> ?_
 obtain⟨p,e,aS⟩:=aS
 obtain⟨c,m,J,ab,aC,aU,aZ,bn,cE,dW,fl,iS,o7,zw⟩:=aS.cell
 obtain⟨WN,aJ,f,dO⟩:=c
 simp only at ab aC aU bn cE dW
 subst ab aC aU
 have hm:=Bb aZ
 have hp':=pK J
 refine⟨p,e,⟨ky.nil,⟨f,m,[],J,aZ,.inr ⟨fl,kC hp'⟩,.inr ⟨iS,kC hm⟩,List.Perm.refl _,?_⟩,fun q hq=>hq.elim (fun h=>h.elim) fun h=>h.2⟩,⟨o7,fun q hq _=>zw q hq⟩⟩
 have key:∀ q c,pat r.2 q=some c→ (∀ x,c≠ .k3 x)→ (∀ x,c≠ .me x)→q ∉ ec hp→lv GR hp r.2 q∧q≠m∧q≠p:=fun q c ar tA Hm aO=>
  ⟨.inr ⟨aO,kC ar⟩,fun e=>by rw [e,hm] at ar; cases ar; exact tA _ rfl,fun e=>by rw [e,hp'] at ar; cases ar; exact Hm _ rfl⟩
 have:k=0∨k=1∨2≤k:=by omega
 rcases this with rfl | rfl | c7
 ·obtain⟨q,cD,rfl,ax,a1,br,cr⟩:=bn rfl
  exact .inl ⟨rfl,q,rfl,⟨cD,[],ax,a1,key q _ (uH ax) (fun _ h=>by cases h) (fun _ h=>by cases h) br,key cD _ (ss a1) (fun _ h=>by cases h) (fun _ h=>by cases h) cr,fun dC n=>⟨fun h=>(by cases h),fun⟨i,al,_⟩=>(by cases al)⟩,.nil⟩⟩
 ·obtain⟨fj,rfl,ax,a1⟩:=cE rfl
  exact .inr (.inl ⟨rfl,fj,rfl,⟨[],ax,key fj _ (oI ax) (fun _ h=>by cases h) (fun _ h=>by cases h) a1,fun dC r h=>(by cases h),fun dC _ i al=>(by cases al),fun dC jF t hF h=>(by cases h),.nil⟩⟩)
 ·obtain⟨q,WV,cap,rfl,ax,a1⟩:=dW c7
  exact .inr (.inr ⟨c7,q,rfl,⟨WV,cap,ax,key q _ (xM ax) (fun _ h=>by cases h) (fun _ h=>by cases h) a1⟩⟩)
theorem ky.snoc {s:a3} {k:Nat} {l:List aM} (h:ky s k l) {i:aM} (al:ks s k i) (a8:hD l i.b5=none) (aO:jA l i.cy=false) (aq:l.length < 900):ky s k (l ++ [i]) where
 ok:=h.ok.snoc al aO aq
 key:=by
  rw [List.pairwise_append]
  exact⟨h.key,by simp,fun a bh c ar=>by rw [List.mem_singleton.1 ar]; exact uB a8 a bh⟩
theorem KD (o:Option aM):(tB o).2=o.isSome:=by cases o <;> rfl
def tr (l:List aM) (i:aM):Bool:=(hD l i.b5).isNone && !jA l i.cy
def added (l:List aM) (i:aM):List aM:=if tr l i=true then l ++ [i] else l
theorem R8 {s:a3} (h:du s) {k:Nat} (av:k < 4) {hp:bb Cell} {p:Nat} {l:List aM} {own:Nat→Prop} (an:lC s k hp p l own) {i:aM} (al:ks s k i) (hlen:l.length < 900):
 dY (wE hp (some p) i) (fun r=>r.1=tr l i∧lC s k r.2 p (added l i) (lv own hp r.2)∧gi hp r.2 own):=by
 obtain⟨f,m,em,J,ab,aC,aU,aZ,bn⟩:=an.cell
 have hm:=Bb ab
 have hp':=pK J
 have mh:p≠m:=fun e=>by rw [e,hm] at hp'; cases hp'
 have fU:=aZ.no an.tD.ok i.cy
 unfold wE
 refine .cond (fun ar=>by cases ar) fun _=> .eq rfl (.eq J (.eq rfl (.eq ab (.eq rfl (.eq rfl (.eq J (.eq (T4 h av bn an.tD al.fp) (.cond (fun ar=> .ret ?_) fun ar=> ?_))))))))
 ·rw [fU,KD,Bool.or_eq_true] at ar
  have b9:tr l i=false:=by
   unfold tr
   rcases ar with ar | ar
   ·cases a8:hD l i.b5 with
    | none=>rw [a8] at ar; cases ar
    | some _=>rfl
   ·rw [ar]; simp
  refine⟨b9.symm,?_,.refl⟩
  unfold added
  rw [b9]
  exact an.mono (fun q hq=> .inl hq) fun q hq=>hq.elim (an.zF q) fun hq=>absurd hq.2 hq.1
 ·rw [fU,KD,Bool.or_eq_false_iff] at ar
  obtain⟨cK,dL⟩:=ar
  have a8:hD l i.b5=none:=by
   cases a8:hD l i.b5 with
   | none=>rfl
   | some _=>rw [a8] at cK; cases cK
  have b9:tr l i=true:=by unfold tr; rw [a8,dL]; rfl
  have b0:eH em i.cy=none:=by
   cases b0:eH em i.cy with
   | none=>rfl
   | some _=>rw [b0,dL] at fU; cases fU
  have aE:pat (dz hp m (Cell.k3 (fS em i.cy i))) p=some (.me ⟨m5 k,(Hn s k:Int),f,⟨some m⟩⟩):=by rw [qL mh.symm]; exact hp'
  have f1:rj s k (dz hp m (Cell.k3 (fS em i.cy i))) f l (fun q=>own q∧q≠m∧q≠p):=bn.congr (fun q _ hq=>hq) fun q hq=>qL hq.2.1.symm
  refine .eq rfl (.eq J (.eq (Ev h av al) (.eq rfl (.eq ab (.eq rfl (.eq (by unfold iN; rw [aE]) (.bind (T8 h av f1 (fun q hq=>by rw [sl]; exact an.zF q hq.1) an.tD al a8 dL hlen) fun hV aS=> .ret ⟨b9.symm,?_,?_⟩)))))))
  ·obtain⟨m4,iV⟩:=aS
   have eg:pat hV p=some (.me ⟨m5 k,(Hn s k:Int),f,⟨some m⟩⟩):=by rw [iV.rest p (kC aE) (fun hq=>hq.2.2 rfl)]; exact aE
   have ei:pat hV m=some (.k3 (fS em i.cy i)):=by
    have:pat (dz hp m (Cell.k3 (fS em i.cy i))) m=some (.k3 (fS em i.cy i)):=uU hm
    rw [iV.rest m (kC this) (fun hq=>hq.2.1 rfl)]; exact this
   unfold added
   rw [if_pos b9]
   refine⟨an.tD.snoc al a8 dL hlen,⟨f,m,_,by unfold iN; rw [eg],by unfold mK; rw [ei],.inl aC,.inl aU,?_,m4.congr (fun q _ hq=> ?_) fun q _=>rfl⟩,fun q hq=> ?_⟩
   ·unfold vw
    rw [Jt b0,List.map_append]
    exact List.Perm.append_right _ aZ
   ·rcases hq with hq | ⟨ax,a1⟩
    ·exact⟨.inl hq.1,hq.2⟩
    ·rw [sl] at ax
     exact⟨.inr ⟨ax,a1⟩,fun e=>ax (e ▸ kC hm),fun e=>ax (e ▸ kC hp')⟩
   ·rcases hq with hq | hq
    ·exact iV.keys q (by rw [sl]; exact an.zF q hq)
    ·exact hq.2
  ·exact(gi.up (own:=own) aU).trans aS.2 fun q _ hq=>hq.1
end Go.Proofs.YtmnggbjcnoffeaaGreat
namespace Go.Proofs.YtmnggbjcnoffeaaGreat
open Go Gv
set_option linter.unusedVariables false
set_option linter.unusedSimpArgs false
set_option maxRecDepth 100000
end Go.Proofs.YtmnggbjcnoffeaaGreat
namespace Go.Proofs.YtmnggbjcnoffeaaGreat
open Go Gv
set_option linter.unusedVariables false
set_option linter.unusedSimpArgs false
set_option maxRecDepth 100000
theorem jl.filter {s:a3} {k:Nat} {l:List aM} (h:jl s k l) (q:aM→Bool):jl s k (l.filter q) where
 ok i al:=h.ok i (List.mem_filter.1 al).1
 num:=h.num.sublist List.filter_sublist
 len:=Nat.le_trans (List.length_filter_le _ _) h.len
end Go.Proofs.YtmnggbjcnoffeaaGreat
namespace Go.Proofs.YtmnggbjcnoffeaaGreat
open Go Gv
set_option linter.unusedVariables false
set_option linter.unusedSimpArgs false
set_option maxRecDepth 100000
theorem P8:AD=some true:=by kernel_rfl
theorem P9 {s:a3} (h:du s) {k:Nat} (av:k < 4) {x:Int} (em:qF x (s.bH.length:Int)=some (k:Int)) (hp:bb Cell) (c:bw) (ar:gK c) (n:Nat) (aO:n≤100):
 dY (wQ hp s c x (n:Int)) (fun r=> ∃ p own,r.1=some p∧lC s k r.2.2.2 p r.2.1 own∧r.2.1.length≤n∧gK r.2.2.1):=by
 unfold wQ
 have Wr:=(h.iT av).1
 refine .eq em (.idx rfl (by rw [h.jz]; exact av) ?_)
 rw [Wr]
 refine .bind (R7 h av hp) fun aP ab=> ?_
 obtain⟨p,e,an,_⟩:=ab
 obtain⟨Xv,dy⟩:=aP
 simp only at e an
 subst e
 refine .bind (P:=fun az=> ∃ own,lC s k az.2.2.2.2 p az.2.2.1 own∧az.2.2.1.length≤n∧gK az.2.2.2.1)
  (dY.loop n (fun j st=> ∃ l iX hp' own,st=((j:Int),l,iX,hp')∧lC s k hp' p l own∧l.length≤j∧gK iX) (by omega) ⟨[],c,dy,_,rfl,an,by simp,ar⟩ (fun j st aF hs=> ?_) (fun st hs=> ?_)) fun az J=> .ret ⟨p,J.elim fun own h=>⟨own,rfl,h⟩⟩
 ·obtain⟨l,iX,hp',own,rfl,an,GS,mj⟩:=hs
  refine .dt (P:=fun _=>True) (fun _=>Qz _) fun bc _=> .cond (fun ar=> ?_) fun ar=> .ret ⟨own,an,Nat.le_trans GS (by omega),mj⟩
  refine .ov (P0 iX x mj h) fun bf ⟨aU,k',ji,qm,he⟩=> .eq rfl ?_
  have qi:k'=k:=by rw [em] at qm; simp only [Option.some.injEq] at qm; omega
  subst qi
  generalize dR:({ (default:aM) with b5:=bf.1,cy:=bD ((j:Int) + 1) } :aM)=z
  have al:ks s k' z:=⟨by rw [← dR]; exact he⟩
  simp only [dR]
  refine .bind (R8 h av an al (by omega)) fun cb aZ=> ?_
  obtain⟨ax,a1,br⟩:=aZ
  obtain⟨Xw,hV⟩:=cb
  simp only at ax a1 br
  refine .eq (a:=added l z) ?_ (.ret ⟨_,bf.2,hV,_,by rw [e3 (by omega)],a1,?_,aU⟩)
  ·simp only [ax]
   unfold added
   cases tr l z
   ·rfl
   ·show(fT 88 l [_]).bind (fun cN=>some cN)=_
    rw [h2 _ _ (by simp; omega) (by omega)]; rfl
  ·unfold added; split
   ·simp; omega
   ·omega
 ·obtain⟨l,iX,hp',own,rfl,an,GS,mj⟩:=hs
  refine .dt (P:=fun _=>True) (fun ar=>by simp at ar) fun bc _=> .cond (fun ar=>by simp at ar) fun ar=> .ret ⟨own,an,GS,mj⟩
def kt (s:a3) (k:Nat) (l:List aM) (i:aM):List aM:=l.filter fun y=>y.cy ==i.cy || e0 s k y i
theorem J5 {s:a3} {k:Nat} {l:List aM} {i:aM} :j4 s k (kt s k l i) i=j4 s k l i:=by
 unfold j4 kt
 rw [List.filter_filter]
 congr 1
 refine List.filter_congr fun c _=> ?_
 cases e0 s k c i <;> simp
theorem R9 (s:a3) (k:Nat) (i:aM):e0 s k i i=false:=by
 cases h:e0 s k i i with
 | false=>rfl
 | true=>have:=(Bg s k).asymm _ _ h; rw [h] at this; cases this
theorem Rv {c:a2} (ar:can c): ¬ mn c []:=fun h=>by
 obtain⟨x,an,_⟩:=h _ (KA ar)
 cases an
theorem Pj (hp:bb Cell) (aa aj:List (BitVec 8)) (aR:Int):dY (wF hp aa aj aR) (fun r=>r.1=true):=by
 unfold wF
 refine .ov (JO aa 120 (by omega) (by omega)) fun ak J=> .ov (Pu ak J) fun aP ab=> .ov (JO aj 200 (by omega) (by omega)) fun bc aC=> ?_
 obtain⟨s,XM⟩:=aP
 obtain⟨h,_⟩:=ab
 simp only at h ⊢
 obtain⟨m,em,hB,cM⟩:=JQ aR (s.bH.length:Int) (by rw [h.jz]; omega) (by rw [h.jz]; omega)
 obtain⟨k,rfl⟩:=Int.eq_ofNat_of_zero_le hB
 have av:k < 4:=by have:=h.jz; omega
 refine .bind (P9 h av em hp bc aC 12 (by omega)) fun bf aU=> ?_
 obtain⟨XN,l,iX,dy⟩:=bf
 obtain⟨p,own,rfl,an,hlen,mj⟩:=aU
 simp only at an hlen mj
 have aq:=an.tD.ok
 refine .ov (P:=fun e=> ∃ a,e= .inl a) (bo.E5 l.length (fun i st=>st=(i:Int)) (by omega) rfl (fun i st al hs=> ?_) (fun st hs=> ?_)) fun aX Ws=> ?_
 ·subst hs
  refine .cond (fun _=> ?_) (fun ar=>by simp at ar; omega)
  have hm:aA l i∈l:=by rw [eB _ al]; exact List.getElem_mem _
  refine .idx rfl al (.bind (P:=fun e=>e.2.2=kt s k l (aA l i)) (bo.E5 l.length (fun j st=>st=((j:Int),kt s k (l.take j) (aA l i))) (by omega) rfl (fun j st aF hs=> ?_) (fun st hs=> ?_)) fun aX he=> ?_)
  ·subst hs
   refine .cond (fun _=> ?_) (fun ar=>by simp at ar; omega)
   have Wt:aA l j∈l:=by rw [eB _ aF]; exact List.getElem_mem _
   have hw:kt s k (l.take (j + 1)) (aA l i)=if ((aA l j).cy ==(aA l i).cy || e0 s k (aA l j) (aA l i))=true then kt s k (l.take j) (aA l i) ++ [aA l j] else kt s k (l.take j) (aA l i):=by
    unfold kt
    rw [pq l aF,List.filter_append]
    by_cases hb:((aA l j).cy ==(aA l i).cy || e0 s k (aA l j) (aA l i))=true
    ·rw [if_pos hb,show [aA l j].filter (fun y=>y.cy ==(aA l i).cy || e0 s k y (aA l i))= [aA l j] from by simp only [List.filter_cons,hb,if_true,List.filter_nil]]
    ·rw [if_neg hb,show [aA l j].filter (fun y=>y.cy ==(aA l i).cy || e0 s k y (aA l i))= [] from by rw [List.filter_cons,if_neg hb,List.filter_nil],List.append_nil]
   refine .idx rfl aF (.dt (P:=fun y=>y=e0 s k (aA l j) (aA l i)) (fun _=>⟨_,P2 h av (aq.ok _ Wt).fp (aq.ok _ hm).fp,rfl⟩) fun cb aZ=> ?_)
   have a9:((aA l j).cy ==(aA l i).cy || cb)=((aA l j).cy ==(aA l i).cy || e0 s k (aA l j) (aA l i)):=by
    cases aO:((aA l j).cy ==(aA l i).cy) with
    | true=>rfl
    | false=>rw [aZ aO]
   simp only [a9]
   have hle:(kt s k (l.take j) (aA l i)).length≤j:=by
    unfold kt
    have:=List.length_filter_le (fun y=>y.cy ==(aA l i).cy || e0 s k y (aA l i)) (l.take j)
    rw [List.length_take] at this; omega
   refine .bind (P:=fun bO=>bO=kt s k (l.take (j + 1)) (aA l i)) (.cond (fun hb=> .eq (h2 _ _ (by simp; omega) (by omega)) (.ret (by rw [hw,if_pos hb]))) fun hb=> .ret (by rw [hw,if_neg (by rw [hb]; simp)])) fun bO cM=> .ret ?_
   rw [cM,e3 (by omega)]
  ·subst hs
   refine .cond (fun ar=>by simp at ar) fun _=> .ret ?_
   simp only [List.take_length]
  ·rw [he]
   have Wu:jl s k (kt s k l (aA l i)):=aq.filter _
   have GU:aA l i∈kt s k l (aA l i):=List.mem_filter.2 ⟨hm,by simp⟩
   have Wv:(kt s k l (aA l i)).length≤16:=by have:=List.length_filter_le (fun y=>y.cy ==(aA l i).cy || e0 s k y (aA l i)) l; unfold kt; omega
   refine(Jp h av aq (by omega) hm).bind fun dm cE=>(Jp h av Wu Wv GU).bind fun et dW=> .eq rfl (.cond (fun dR=> ?_) fun _=> .ret (e3 (by omega)))
   exfalso
   rw [J5] at dW
   have heq:dm=et:=by
    cases aS:mf s k with
    | true=>rw [cE.1 aS,dW.1 aS]
    | false=>
      obtain⟨eg,ei⟩:=cE.2 aS
      obtain⟨eu,fF⟩:=dW.2 aS
      exact Prod.ext (by rw [Bool.eq_iff_iff,ei,fF]) (by rw [eg,eu])
   rw [heq] at dR
   simp only [bne_self_eq_false,Bool.false_or,Bool.and_eq_true,beq_iff_eq] at dR
   obtain⟨bk,c8⟩:=dR
   have FA:kt s k l (aA l i)= [aA l i]:=by
    have Cb:(kt s k l (aA l i)).length=1:=by omega
    have J:=yU Cb
    generalize kt s k l (aA l i)=w at *
    rw [J] at GU
    rw [J,← List.mem_singleton.1 GU]
   cases aS:mf s k with
   | true=>rw [dW.1 aS] at c8; cases c8
   | false=>
     have:=(dW.2 aS).2.1 c8
     have Ww:j4 s k l (aA l i)= []:=by
      rw [← J5,FA]
      unfold j4
      rw [show [aA l i].filter (fun c=>e0 s k c (aA l i))= [] from by simp [R9]]; rfl
     rw [Ww] at this
     exact Rv (Ew h av aS (aq.ok _ hm).fp) this
 ·subst hs
  exact .cond (fun ar=>by simp at ar) fun _=> .ret ⟨_,rfl⟩
 obtain⟨a,rfl⟩:=Ws
 simp only [Sum.elim_inl]
 exact .eq P8 (.ret rfl)
theorem OP (aa aj:List (BitVec 8)) (aR:Int):wF [] aa aj aR (fun r=>r.1=true):=(Pj [] aa aj aR).run
end Go.Proofs.YtmnggbjcnoffeaaGreat
