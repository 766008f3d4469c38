/-
  What the programs compute, in plain Lean. Conditions: none.
-/
import Derived.Test.YtmnggbjcnoffeaaGreatMl0
import Derived.Test.YtmnggbjcnoffeaaGreatMl2
import Derived.Test.YtmnggbjcnoffeaaGreatMd
namespace Gv
open Go
theorem LB {σ ε:Type} {body:σ→Option (σ ⊕ ε)} {Q:ε→Prop} {cf:σ} (m:Nat) (fr:Nat→σ→Prop)
 (hm:m < 2 ^ 80) (bP:fr 0 cf)
 (hs:∀ k s,k < m→fr k s→ (∃ b8,body s=some (.inl b8)∧fr (k + 1) b8)∨ (∃ e,body s=some (.inr e)∧Q e))
 (he:∀ s,fr m s→ ∃ e,body s=some (.inr e)∧Q e):∃ e,dn da body cf=some e∧Q e:=by
 have key:∀ n k s,k≤m→m - k < n→fr k s→ ∃ e,dn n body s=some e∧Q e:=by
  intro n
  induction n with
  | zero=>intro k s _ h; omega
  | succ n bO=>
    intro k s aq aO aj
    by_cases An:k=m
    ·subst An
     obtain⟨e,J,ab⟩:=he s aj
     exact⟨e,by simp [dn,J],ab⟩
    ·rcases hs k s (by omega) aj with⟨b8,J,ab⟩ | ⟨e,J,ab⟩
     ·obtain⟨e,aE,aW⟩:=bO (k + 1) b8 (by omega) (by omega) ab
      exact⟨e,by simp [dn,J,aE],aW⟩
     ·exact⟨e,by simp [dn,J],ab⟩
 exact key da 0 cf (by omega) (by unfold da; omega) bP
def a6 {β:Type} (m:Option β) (P:β→Prop):Prop:= ∃ r,m=some r∧P r
theorem a6.ret {β:Type} {P:β→Prop} {r:β} (h:P r):a6 (some r) P:=⟨r,rfl,h⟩
theorem a6.bind {α β:Type} {m:Option α} {f:α→Option β} {P:α→Prop} {Q:β→Prop} (h:a6 m P) (k:∀ a,P a→a6 (f a) Q):a6 (m.bind f) Q:=by
 obtain⟨a,J,ab⟩:=h
 rw [J]; exact k a ab
theorem a6.eq {α β:Type} {m:Option α} {a:α} {f:α→Option β} {Q:β→Prop} (h:m=some a) (k:a6 (f a) Q):a6 (m.bind f) Q:=by
 rw [h]; exact k
theorem a6.mono {β:Type} {m:Option β} {P Q:β→Prop} (h:a6 m P) (k:∀ a,P a→Q a):a6 m Q:=by
 obtain⟨a,J,ab⟩:=h
 exact⟨a,J,k a ab⟩
theorem a6.cond {β:Type} {b:Bool} {m n:Option β} {P:β→Prop} (J:b=true→a6 m P) (ab:b=false→a6 n P):a6 (cond b m n) P:=by
 cases b
 ·exact ab rfl
 ·exact J rfl
theorem a6.cX {α β:Type} [Inhabited α] {b w:Bool} {m:Option α} {f:α→Option β} {P:α→Prop} {Q:β→Prop} (h:b=w→a6 m P) (k:∀ a,(b=w→P a)→a6 (f a) Q):a6 ((cX b w m).bind f) Q:=by
 unfold Gv.cX
 by_cases hb:b=w
 ·rw [if_pos hb]; exact(h hb).bind fun a a9=>k a fun _=>a9
 ·rw [if_neg hb]; exact k default fun h=>absurd h hb
theorem a6.loop {σ ε β:Type} {body:σ→Option (σ ⊕ ε)} {f:ε→Option β} {P:β→Prop} {cf:σ} (m:Nat) (fr:Nat→σ→Prop)
 (hm:m < 2 ^ 80) (bP:fr 0 cf)
 (hs:∀ k s,k < m→fr k s→a6 (body s) (fun x=>match x with | .inl b8=>fr (k + 1) b8 | .inr e=>a6 (f e) P))
 (he:∀ s,fr m s→ ∃ e,body s=some (.inr e)∧a6 (f e) P):a6 ((dn da body cf).bind f) P:=by
 obtain⟨e,J,ab⟩:=LB (Q:=fun e=>a6 (f e) P) m fr hm bP (fun k s aq aj=>by
  obtain⟨r,J,ab⟩:=hs k s aq aj
  cases r with
  | inl b8=>exact .inl ⟨b8,J,ab⟩
  | inr e=>exact .inr ⟨e,J,ab⟩) he
 rw [J]; exact ab
theorem a6.pT {σ ε:Type} {body:σ→Option (σ ⊕ ε)} {P:ε→Prop} {cf:σ} (m:Nat) (fr:Nat→σ→Prop)
 (hm:m < 2 ^ 80) (bP:fr 0 cf)
 (hs:∀ k s,k < m→fr k s→a6 (body s) (fun x=>match x with | .inl b8=>fr (k + 1) b8 | .inr e=>P e))
 (he:∀ s,fr m s→a6 (body s) (fun x=>match x with | .inl _=>False | .inr e=>P e)):a6 (dn da body cf) P:=by
 obtain⟨e,J,ab⟩:=LB (Q:=P) m fr hm bP (fun k s aq aj=>by
  obtain⟨r,J,ab⟩:=hs k s aq aj
  cases r with
  | inl b8=>exact .inl ⟨b8,J,ab⟩
  | inr e=>exact .inr ⟨e,J,ab⟩) fun s aj=>by
  obtain⟨r,J,ab⟩:=he s aj
  cases r with
  | inl b8=>exact ab.elim
  | inr e=>exact⟨e,J,ab⟩
 exact⟨e,J,ab⟩
theorem a6.idx {β:Type} {n:Nat} {i:Int} {k:Nat} {f:Nat→Option β} {Q:β→Prop} (aj:i=k) (aq:k < n) (h:a6 (f k) Q):a6 ((Gv.idx n i).bind f) Q:=by
 subst aj
 have:Gv.idx n (k:Int)=some k:=by unfold Gv.idx; rw [if_pos (by omega)]; simp
 rw [this]; exact h
theorem eK {α:Type} [Inhabited α] {n:Nat} (v:Vector α n) {k:Nat} (x:α) (aq:k < n) (j:Nat):bd (cq v k x) j=if j=k then x else bd v j:=by
 unfold bd cq
 by_cases h:j=k
 ·subst h; simp [aq]
 ·rw [if_neg h,Vector.getElem?_setIfInBounds_ne (by omega)]
theorem Cm {α:Type} [Inhabited α] {n:Nat} {v w:Vector α n} (h:∀ j,j < n→bd v j=bd w j):v=w:=by
 apply Vector.ext
 intro i aj
 have:=h i aj
 simpa [bd,aj] using this
theorem rZ {α:Type} [Inhabited α] {n:Nat} (j:Nat):bd (default:Vector α n) j=default:=by
 show bd (Vector.replicate n default) j=default
 unfold bd
 by_cases h:j < n <;> simp [h]
theorem lD {n k:Nat} (h:k < n):idx n (k:Int)=some k:=by
 unfold idx; rw [if_pos (by omega)]; simp
theorem tM {n:Nat} {i:Int} (h:0≤i) (cR:i < n):idx n i=some i.toNat:=by
 unfold idx; rw [if_pos ⟨h,cR⟩]
theorem dz {k:Nat} (h:k < 2 ^ 62):bm ((k:Int) + 1)=((k + 1:Nat):Int):=by
 rw [gC (by omega) (by omega)]; simp
theorem ml {k:Nat} (h:k < 2 ^ 64):(BitVec.ofInt 64 (k:Int)).toNat=k:=by
 simp; omega
theorem Ma (x:BitVec 64):((x &&& 1#64) ==1#64)=x.getLsbD 0:=by
 rw [BitVec.and_one_eq_setWidth_ofBool_getLsbD]
 cases x.getLsbD 0 <;> rfl
theorem TQ (x:BitVec 64) (n:Nat):(((x >>> n) &&& 1#64) ==1#64)=x.getLsbD n:=by
 rw [Ma]; simp
theorem Lc (k j:Nat):((1#64) <<< k).getLsbD j=(decide (j=k) && decide (j < 64)):=by
 rw [BitVec.getLsbD_shiftLeft]
 by_cases h:j=k
 ·subst h; simp
 ·have:(1#64).getLsbD (j - k)=decide (j - k=0):=by
   rw [BitVec.getLsbD_one]; simp
  rw [this]
  by_cases ab:j < k
  ·simp [ab,h]
  ·have: ¬ (j - k=0):=by omega
   simp [h,this]
theorem qz {α β:Type} [Inhabited α] [Inhabited β] (f:α→β) {l:List α} {k:Nat} (aq:k < l.length):aB (l.map f) k=f (aB l k):=by
 rw [dU l aq,dU _ (by simpa using aq),List.getElem_map]
theorem pD {α:Type} [Inhabited α] (l:List α) {k:Nat} (aq:k < l.length):l.take (k + 1)=l.take k ++ [aB l k]:=by
 rw [List.take_add_one,List.getElem?_eq_getElem aq,dU l aq]; rfl
theorem UF {α:Type} [Inhabited α] {xs:List α} {p:α→Bool} {k:Nat} (aq:k < xs.length) (hp:p (aB xs k)=true) (aF:∀ j,j < k→p (aB xs j)=false):xs.find? p=some (aB xs k):=by
 rw [List.find?_eq_some_iff_getElem]
 refine⟨hp,k,aq,(dU xs aq).symm,fun j gw=> ?_⟩
 have:=aF j gw
 rw [dU xs (by omega)] at this
 simp [this]
theorem UG {α:Type} {xs:List α} {p:α→Bool} (h:∀ x∈xs,p x=false):xs.find? p=none:=
 List.find?_eq_none.2 fun x an=>by simp [h x an]
end Gv
namespace Gv
open Go
set_option linter.unusedVariables false
def eB {α:Type} (m:aK α) (P:α→Prop):Prop:= ∀ Q:α→Prop,(∀ r,P r→Q r)→m Q
theorem eB.run {α:Type} {m:aK α} {P:α→Prop} (h:eB m P):m P:=h P fun _ h=>h
theorem eB.ret {α:Type} {P:α→Prop} {x:α} (h:P x):eB (aK.ret x) P:=fun Q k=>k x h
theorem eB.bind {α β:Type} {m:aK α} {f:α→aK β} {P:α→Prop} {pA:β→Prop} (h:eB m P) (k:∀ r,P r→eB (f r) pA):eB (aK.bind m f) pA:=fun Q hq=>h _ fun r aQ=>k r aQ Q hq
theorem eB.of {α:Type} {o:Option α} {P:α→Prop} (h:a6 o P):eB (aK.of o) P:=fun Q hq=>let⟨r,J,ab⟩:=h; ⟨r,J,hq r ab⟩
theorem eB.ps {α β:Type} {o:Option α} {f:α→aK β} {P:α→Prop} {pA:β→Prop} (h:a6 o P) (k:∀ r,P r→eB (f r) pA):eB (aK.bind (aK.of o) f) pA:= .bind (.of h) k
theorem eB.eq {α β:Type} {o:Option α} {a:α} {f:α→aK β} {pA:β→Prop} (h:o=some a) (k:eB (f a) pA):eB (aK.bind (aK.of o) f) pA:=fun Q hq=>⟨a,h,k Q hq⟩
theorem eB.mono {α:Type} {m:aK α} {P pA:α→Prop} (h:eB m P) (k:∀ r,P r→pA r):eB m pA:=fun Q hq=>h Q fun r aQ=>hq r (k r aQ)
theorem eB.cond {α:Type} {b:Bool} {m n:aK α} {P:α→Prop} (J:b=true→eB m P) (ab:b=false→eB n P):eB (cond b m n) P:=by
 cases b
 ·exact ab rfl
 ·exact J rfl
theorem eB.cX {α β:Type} [Inhabited α] {b w:Bool} {m:Option α} {f:α→aK β} {P:α→Prop} {Q:β→Prop} (h:b=w→a6 m P) (k:∀ a,(b=w→P a)→eB (f a) Q):eB (aK.bind (aK.of (cX b w m)) f) Q:=by
 unfold Gv.cX
 by_cases hb:b=w
 ·rw [if_pos hb]; exact .ps (h hb) fun a a9=>k a fun _=>a9
 ·rw [if_neg hb]; exact .eq rfl (k default fun h=>absurd h hb)
theorem eB.idx {β:Type} {n:Nat} {i:Int} {k:Nat} {f:Nat→aK β} {Q:β→Prop} (aj:i=k) (aq:k < n) (h:eB (f k) Q):eB (aK.bind (aK.of (Gv.idx n i)) f) Q:=by
 subst aj
 exact .eq (lD aq) h
theorem eB.mk {b6 β:Type} {hp:bg b6} {c:b6} {f:Nat × bg b6→aK β} {P:β→Prop} (k:∀ p,p ∉ eG hp→eB (f (p,(p,c) :: hp)) P):eB (aK.bind (aK.mk hp c) f) P:=fun Q hq=>fun a a9=>by
 obtain⟨p,hp'⟩:=a
 obtain⟨J,ab⟩:=a9
 simp only at J ab
 subst ab
 exact k p J Q hq
theorem eB.any {α β:Type} {f:α→aK β} {P:β→Prop} (k:∀ x,eB (f x) P):eB (aK.bind (aK.any α) f) P:=fun Q hq x=>k x Q hq
theorem eB.loop {σ ε:Type} {body:σ→aK (σ ⊕ ε)} {P:ε→Prop} {cf:σ} (m:Nat) (fr:Nat→σ→Prop) (hm:m < 2 ^ 80) (bP:fr 0 cf)
 (hs:∀ k s,k < m→fr k s→eB (body s) (fun x=>match x with | .inl b8=>fr (k + 1) b8 | .inr e=>P e))
 (he:∀ s,fr m s→eB (body s) (fun x=>match x with | .inl _=>False | .inr e=>P e)):eB (o1 da body cf) P:=by
 have key:∀ n k s,k≤m→m - k < n→fr k s→eB (o1 n body s) P:=by
  intro n
  induction n with
  | zero=>intro k s _ h; omega
  | succ n bO=>
    intro k s aq aO aj Q hq
    by_cases An:k=m
    ·subst An
     exact he s aj _ fun r aQ=>by
      cases r with
      | inl b8=>exact aQ.elim
      | inr e=>exact hq e aQ
    ·exact hs k s (by omega) aj _ fun r aQ=>by
      cases r with
      | inl b8=>exact bO (k + 1) b8 (by omega) (by omega) aQ Q hq
      | inr e=>exact hq e aQ
 exact key da 0 cf (by omega) (by unfold da; omega) bP
theorem sd {b6:Type} {hp:bg b6} {p q:Nat} {k:b6} :pat ((p,k) :: hp) q=if p=q then some k else pat hp q:=rfl
theorem TR {b6:Type} {hp:bg b6} {p:Nat} (h:p ∉ eG hp):pat hp p=none:=by
 cases e:pat hp p with
 | none=>rfl
 | some k=>exact absurd (lC e) h
theorem wz {b6:Type} {hp:bg b6} {p:Nat} {k k':b6} (h:pat hp p=some k'):pat (ea hp p k) p=some k:=by rw [yY,if_pos rfl,h]; rfl
theorem r8 {b6:Type} {hp:bg b6} {p q:Nat} {k:b6} (h:p≠q):pat (ea hp p k) q=pat hp q:=by rw [yY,if_neg h]
theorem yG {α β:Type} [DecidableEq α] {l:List (α × β)} {x y:α} {v:β} :e3 (gr l x v) y=if y=x then some v else e3 l y:=by
 induction l with
 | nil=>
   show(if y=x then some v else e3 [] y)=_
   rfl
 | cons a r bO=>
   obtain⟨k,w⟩:=a
   simp only [gr]
   by_cases h:x=k
   ·rw [if_pos h]
    simp only [e3]
    by_cases ab:y=x
    ·simp [ab]
    ·simp [ab,show ¬ y=k from fun e=>ab (by rw [e,h])]
   ·rw [if_neg h]
    simp only [e3]
    by_cases ab:y=k
    ·subst ab; simp [show ¬ y=x from fun e=>h e.symm]
    ·rw [if_neg ab,bO,if_neg ab]
end Gv
namespace Go.Proofs.YtmnggbjcnoffeaaGreat
open Go Gv
set_option linter.unusedVariables false
set_option linter.unusedSimpArgs false
def h7 (b:Bool):Nat:=bif b then 1 else 0
def eb (hp:bg Cell):Ref→List Bool→Ref
 | none,_=>none
 | some p,[]=>some p
 | some p,b :: bK=>match dH hp p with
   | none=>none
   | some c=>eb hp (bd c.fu (h7 b)) bK
theorem iF {hp:bg Cell} {bK:List Bool} :eb hp none bK=none:=by cases bK <;> rfl
theorem tN {hp:bg Cell} {r:Ref} :eb hp r []=r:=by cases r <;> rfl
theorem kE {hp:bg Cell} {p:Nat} {c:eX} {b:Bool} {bK:List Bool} (h:dH hp p=some c):eb hp (some p) (b :: bK)=eb hp (bd c.fu (h7 b)) bK:=by
 show(match dH hp p with | none=>none | some c=>eb hp (bd c.fu (h7 b)) bK)=_
 rw [h]
theorem pL {hp:bg Cell} :∀ {r:Ref} {bK cs:List Bool},eb hp r (bK ++ cs)=eb hp (eb hp r bK) cs
 | none,bK,cs=>by rw [iF,iF,iF]
 | some p,[],cs=>by rw [List.nil_append,tN]
 | some p,b :: bK,cs=>by
   cases e:dH hp p with
   | none=>
     have J:∀ xs,eb hp (some p) (b :: xs)=none:=fun xs=>by
      show(match dH hp p with | none=>none | some c=>eb hp (bd c.fu (h7 b)) xs)=_
      rw [e]
     rw [List.cons_append,J,J,iF]
   | some c=>rw [List.cons_append,kE e,kE e,pL]
theorem Ld {hp hp':bg Cell} :∀ {r:Ref} {bK:List Bool},(∀ p cs,eb hp r cs=some p→dH hp' p=dH hp p)→eb hp' r bK=eb hp r bK
 | none,bK,_=>by rw [iF,iF]
 | some p,[],_=>rfl
 | some p,b :: bK,h=>by
   have bP:=h p [] rfl
   show(match dH hp' p with | none=>none | some c=>eb hp' (bd c.fu (h7 b)) bK)=(match dH hp p with | none=>none | some c=>eb hp (bd c.fu (h7 b)) bK)
   rw [bP]
   cases e:dH hp p with
   | none=>rfl
   | some c=>
     refine Ld fun q cs hq=>h q (b :: cs) ?_
     rw [kE e]; exact hq
structure qP (hp:bg Cell) (root:Ref):Prop where
 reads:∀ bK p,eb hp root bK=some p→ ∃ c,dH hp p=some c
 inj:∀ bK cs p,eb hp root bK=some p→eb hp root cs=some p→bK=cs
 dep:∀ bK p,eb hp root bK=some p→bK.length≤32
def cont (hp:bg Cell) (root:Ref) (bK:List Bool):Option Int:=match eb hp root bK with
 | none=>none
 | some p=>match dH hp p with
   | none=>none
   | some c=>bif c.fv then some c.nA else none
theorem nq {hp:bg Cell} {root:Ref} {bK:List Bool} {p:Nat} {c:eX} (h:eb hp root bK=some p) (ao:dH hp p=some c):cont hp root bK=bif c.fv then some c.nA else none:=by
 unfold cont; rw [h]; simp only [ao]
theorem oT {hp:bg Cell} {root:Ref} {bK:List Bool} (h:eb hp root bK=none):cont hp root bK=none:=by
 unfold cont; rw [h]
theorem qy {hp:bg Cell} {p:Nat} {c:eX} :dH hp p=some c↔pat hp p=some (.hf c):=by
 refine⟨nt,fun h=> ?_⟩
 unfold dH; rw [h]
theorem r9 {hp:bg Cell} {p:Nat} {c:gA} :gM hp p=some c↔pat hp p=some (.jX c):=by
 refine⟨qK,fun h=> ?_⟩
 unfold gM; rw [h]
theorem yw {hp hp':bg Cell} {p:Nat} (h:pat hp' p=pat hp p):dH hp' p=dH hp p:=by unfold dH; rw [h]
theorem E1 {hp hp':bg Cell} {p:Nat} (h:pat hp' p=pat hp p):gM hp' p=gM hp p:=by unfold gM; rw [h]
structure gN (hp hp':bg Cell) (own:Nat→Prop):Prop where
 keys:∀ q,q∈eG hp→q∈eG hp'
 rest:∀ q,q∈eG hp→ ¬ own q→pat hp' q=pat hp q
theorem gN.refl {hp:bg Cell} {own:Nat→Prop} :gN hp hp own:=⟨fun _ h=>h,fun _ _ _=>rfl⟩
theorem gN.mk' {hp:bg Cell} {own:Nat→Prop} {a:Nat} {k:Cell} (a9:a ∉ eG hp):gN hp ((a,k) :: hp) own:=
 ⟨fun q h=>List.mem_cons_of_mem _ h,fun q h _=>by rw [sd,if_neg (fun e:a=q=>a9 (by rw [e]; exact h))]⟩
theorem gN.up {hp:bg Cell} {own:Nat→Prop} {p:Nat} {k:Cell} (hp':own p):gN hp (ea hp p k) own:=
 ⟨fun q h=>by rw [tL]; exact h,fun q h hq=>r8 (fun e:p=q=>hq (by rw [← e]; exact hp'))⟩
theorem gN.trans {J ab aE:bg Cell} {own own':Nat→Prop} (a:gN J ab own) (b:gN ab aE own') (bo:∀ q,q∈eG J→own' q→own q):gN J aE own:=
 ⟨fun q h=>b.keys q (a.keys q h),fun q h hq=>by rw [b.rest q (a.keys q h) fun cR=>hq (bo q h cR),a.rest q h hq]⟩
theorem Tg (b:Bool):bd (default:eX).fu (h7 b)=none:=by cases b <;> rfl
theorem Le {hp:bg Cell} {a:Nat} (h:dH hp a=some (default:eX)):∀ bK,eb hp (some a) bK=if bK= [] then some a else none
 | []=>rfl
 | b :: bK=>by rw [kE h,Tg,iF]; rfl
theorem Fw {hp hp':bg Cell} {root:Ref} {ws:List Bool} {b:Bool} {p a:Nat} {c:eX} (cc:qP hp root) (hw:eb hp root ws=some p) (ao:dH hp p=some c) (aO:bd c.fu (h7 b)=none) (a9:dH hp a=none)
 (dZ:dH hp' p=some { c with fu:=cq c.fu (h7 b) (some a) }) (e1:dH hp' a=some default) (iA:∀ q,q≠p→q≠a→dH hp' q=dH hp q):
 ∀ (bK us:List Bool) (q:Nat),eb hp root us=some q→eb hp' (some q) bK=if us ++ bK=ws ++ [b] then some a else eb hp (some q) bK
 | [],us,q,hu=>by
   have: ¬ us ++ []=ws ++ [b]:=fun e=>by
    rw [List.append_nil] at e
    rw [e,pL,hw,kE ao,aO,iF] at hu; cases hu
   rw [if_neg this]; rfl
 | x :: xs,us,q,hu=>by
   obtain⟨Qe,ta⟩:=cc.reads us q hu
   have tb:q≠a:=fun e=>by rw [e,a9] at ta; cases ta
   by_cases AB:q=p
   ·subst AB
    have ZY:=cc.inj us ws q hu hw
    subst ZY
    rw [ao] at ta; cases ta
    rw [kE dZ,kE ao]
    simp only
    have cv:h7 b < 2:=by cases b <;> decide
    rw [eK _ _ cv]
    by_cases II:x=b
    ·subst II
     rw [if_pos rfl,aO,iF,Le e1]
     by_cases h:xs= []
     ·subst h; rw [if_pos rfl,if_pos rfl]
     ·rw [if_neg h,if_neg fun e=>h ?_]
      have:=List.append_cancel_left e
      simpa using this
    ·have dk: ¬ h7 x=h7 b:=fun e=>II (by cases x <;> cases b <;> first | rfl | cases e)
     have fZ: ¬ us ++ x :: xs=us ++ [b]:=fun e=>II (by have:=List.append_cancel_left e; simpa using (List.cons.inj this).1)
     rw [if_neg dk,if_neg fZ]
     cases e:bd c.fu (h7 x) with
     | none=>rw [iF,iF]
     | some ed=>
       have nP:eb hp root (us ++ [x])=some ed:=by rw [pL,hu,kE ao,e,tN]
       rw [Fw cc hw ao aO a9 dZ e1 iA xs (us ++ [x]) ed nP,List.append_assoc,List.singleton_append,if_neg fZ]
   ·have J:dH hp' q=some Qe:=by rw [iA q AB tb]; exact ta
    rw [kE J,kE ta]
    cases e:bd Qe.fu (h7 x) with
    | none=>
      have fZ: ¬ us ++ x :: xs=ws ++ [b]:=fun aS=>by
       have ZZ:eb hp root (us ++ [x])=none:=by rw [pL,hu,kE ta,e,iF]
       rcases List.eq_nil_or_concat xs with rfl | ⟨ys,y,rfl⟩
       ·have:=(List.append_inj_left' aS rfl)
        subst this
        rw [hu] at hw; cases hw; exact AB rfl
       ·have aE:us ++ x :: ys=ws:=by
         have:(us ++ x :: ys) ++ [y]=ws ++ [b]:=by simpa using aS
         exact List.append_inj_left' this rfl
        rw [← aE,show us ++ x :: ys=(us ++ [x]) ++ ys by simp,pL,ZZ,iF] at hw
        cases hw
      rw [iF,iF,if_neg fZ]
    | some ed=>
      have nP:eb hp root (us ++ [x])=some ed:=by rw [pL,hu,kE ta,e,tN]
      rw [Fw cc hw ao aO a9 dZ e1 iA xs (us ++ [x]) ed nP,List.append_assoc,List.singleton_append]
theorem grow {hp hp':bg Cell} {r:Nat} {ws:List Bool} (hd:ws.length < 32) {b:Bool} {p a:Nat} {c:eX} (cc:qP hp (some r)) (hw:eb hp (some r) ws=some p) (ao:dH hp p=some c) (aO:bd c.fu (h7 b)=none) (a9:dH hp a=none)
 (dZ:dH hp' p=some { c with fu:=cq c.fu (h7 b) (some a) }) (e1:dH hp' a=some default) (iA:∀ q,q≠p→q≠a→dH hp' q=dH hp q):
 qP hp' (some r)∧ (∀ bK,eb hp' (some r) bK=if bK=ws ++ [b] then some a else eb hp (some r) bK)∧ ∀ bK,cont hp' (some r) bK=cont hp (some r) bK:=by
 have a7:∀ bK,eb hp' (some r) bK=if bK=ws ++ [b] then some a else eb hp (some r) bK:=fun bK=>Fw cc hw ao aO a9 dZ e1 iA bK [] r rfl
 have D0:∀ bK,eb hp (some r) bK≠some a:=fun bK h=>by
  obtain⟨c,J⟩:=cc.reads bK a h
  rw [a9] at J; cases J
 have Z0:eb hp (some r) (ws ++ [b])=none:=by rw [pL,hw,kE ao,aO,iF]
 refine⟨⟨fun bK q h=> ?_,fun bK cs q J ab=> ?_,fun bK q h=> ?_⟩,a7,fun bK=> ?_⟩
 ·rw [a7] at h
  split at h
  ·cases h; exact⟨_,e1⟩
  ·obtain⟨jQ,J⟩:=cc.reads bK q h
   by_cases e:q=p
   ·subst e; exact⟨_,dZ⟩
   ·exact⟨jQ,by rw [iA q e fun aS=>D0 bK (aS ▸ h)]; exact J⟩
 ·rw [a7] at J ab
  split at J <;> split at ab
  ·rename_i ay aS; rw [ay,aS]
  ·cases J; exact absurd ab (D0 cs)
  ·cases ab; exact absurd J (D0 bK)
  ·exact cc.inj bK cs q J ab
 ·rw [a7] at h
  split at h
  ·rename_i e; rw [e]; simp; omega
  ·exact cc.dep bK q h
 ·by_cases e:bK=ws ++ [b]
  ·subst e
   rw [oT Z0,nq (by rw [a7,if_pos rfl]) e1]; rfl
  ·have IJ:eb hp' (some r) bK=eb hp (some r) bK:=by rw [a7,if_neg e]
   cases h:eb hp (some r) bK with
   | none=>rw [oT h,oT (IJ.trans h)]
   | some q=>
     obtain⟨jQ,J⟩:=cc.reads bK q h
     by_cases eq:q=p
     ·subst eq
      rw [ao] at J; cases J
      rw [nq h ao,nq (IJ.trans h) dZ]
     ·rw [nq h J,nq (IJ.trans h) (by rw [iA q eq fun aS=>D0 bK (aS ▸ h)]; exact J)]
theorem Cn {hp hp':bg Cell} {p:Nat} {c jQ:eX} (ao:dH hp p=some c) (qb:dH hp' p=some jQ) (he:jQ.fu=c.fu) (h:∀ q,q≠p→dH hp' q=dH hp q):∀ (bK:List Bool) (r:Ref),eb hp' r bK=eb hp r bK
 | bK,none=>by rw [iF,iF]
 | [],some q=>rfl
 | b :: bK,some q=>by
   by_cases e:q=p
   ·subst e
    rw [kE ao,kE qb,he]; exact Cn ao qb he h bK _
   ·cases aS:dH hp q with
    | none=>
      show(match dH hp' q with | none=>none | some c=>eb hp' (bd c.fu (h7 b)) bK)=(match dH hp q with | none=>none | some c=>eb hp (bd c.fu (h7 b)) bK)
      rw [h q e,aS]
    | some d=>rw [kE aS,kE (by rw [h q e]; exact aS)]; exact Cn ao qb he h bK _
theorem Y0 {hp hp':bg Cell} {root:Ref} {ws:List Bool} {p:Nat} {c jQ:eX} (cc:qP hp root) (hw:eb hp root ws=some p) (ao:dH hp p=some c) (qb:dH hp' p=some jQ) (he:jQ.fu=c.fu) (h:∀ q,q≠p→dH hp' q=dH hp q):
 qP hp' root∧ ∀ bK,cont hp' root bK=if bK=ws then(bif jQ.fv then some jQ.nA else none) else cont hp root bK:=by
 have a7:=Cn ao qb he h
 refine⟨⟨fun bK q hq=> ?_,fun bK cs q J ab=>cc.inj bK cs q (by rw [← a7]; exact J) (by rw [← a7]; exact ab),fun bK q hq=>cc.dep bK q (by rw [← a7]; exact hq)⟩,fun bK=> ?_⟩
 ·rw [a7] at hq
  obtain⟨d,J⟩:=cc.reads bK q hq
  by_cases e:q=p
  ·subst e; exact⟨_,qb⟩
  ·exact⟨d,by rw [h q e]; exact J⟩
 ·by_cases e:bK=ws
  ·subst e; rw [if_pos rfl,nq (by rw [a7]; exact hw) qb]
  ·rw [if_neg e]
   cases J:eb hp root bK with
   | none=>rw [oT J,oT (by rw [a7]; exact J)]
   | some q=>
     obtain⟨d,ab⟩:=cc.reads bK q J
     have AB:q≠p:=fun aS=>e (cc.inj bK ws p (aS ▸ J) hw)
     rw [nq J ab,nq (by rw [a7]; exact J) (by rw [h q AB]; exact ab)]
end Go.Proofs.YtmnggbjcnoffeaaGreat
namespace Go.Proofs.YtmnggbjcnoffeaaGreat
open Go Gv
set_option linter.unusedVariables false
set_option linter.unusedSimpArgs false
set_option maxRecDepth 100000
theorem iq {α:Type} {b:Nat} (xs ys:List α) (h:xs.length + ys.length≤1000000) (hb:b≤100000):fP b xs ys=some (xs ++ ys):=by
 unfold fP
 rw [if_pos]
 unfold maxLen
 refine⟨Nat.le_trans (Nat.mul_le_mul h hb) (by omega),by omega⟩
def hF (c:bI):Prop:=0≤c.q6∧c.ef.length≤1000
theorem Mb (l:List (BitVec 8)) (n:Int) (bP:0≤n) (J:n≤1000):a6 (tz l n) hF:=by
 unfold tz
 refine .eq (a:=(l.drop 0).take ((min (l.length:Int) n).toNat - 0)) ?_ (.ret ⟨Int.le_refl 0,?_⟩)
 ·unfold tX; rw [if_pos ⟨by omega,by omega,by omega⟩]; rfl
 ·simp only [List.length_take,List.length_drop]; omega
theorem gB (c:bI) (n:Int) (ao:hF c) (aO:1≤n):a6 (fM c n) (fun r=>hF r.2∧0≤r.1∧r.1 < n∧r.1 < 256):=by
 unfold fM BH
 obtain⟨l,a⟩:=c
 obtain⟨bP,J⟩:=ao
 simp only at bP J
 obtain⟨k,rfl⟩:=Int.eq_ofNat_of_zero_le bP
 refine .eq rfl (.cond (fun _=> .ret ⟨⟨bP,J⟩,by omega,by omega,by omega⟩) fun h=> ?_)
 simp only [Bool.or_eq_false_iff,Bool.not_eq_false',decide_eq_true_eq,decide_eq_false_iff_not] at h
 have ay:bm ((k:Int) + 1)=((k + 1:Nat):Int):=dz (by omega)
 simp only [ay]
 have aS:bm (((k + 1:Nat):Int) - 1)=(k:Int):=by rw [gC (by omega) (by omega)]; omega
 rw [aS]
 refine .idx rfl (by omega) (.eq (by unfold nE; rw [if_neg (by omega)]) (.ret ⟨⟨by simp only; omega,J⟩,?_,?_,?_⟩))
 ·exact Int.tmod_nonneg _ (by omega)
 ·exact Int.tmod_lt_of_pos _ (by omega)
 ·simp only
  have aE:(aB l k).toNat < 256:=(aB l k).isLt
  obtain⟨m,rfl⟩:=Int.eq_ofNat_of_zero_le (show 0≤n by omega)
  have aW:(((aB l k).toNat:Int)).tmod m=(((aB l k).toNat % m:Nat):Int):=(Int.ofNat_tmod _ _).symm
  have aX:=Nat.mod_le (aB l k).toNat m
  omega
theorem mP (c:bI) (ao:hF c):a6 (kW c) (fun r=>hF r.2):=by
 unfold kW
 exact .bind (gB c 2 ao (by omega)) fun y h=> .ret h.1
theorem SL (c:bI) (ao:hF c):a6 (xF c) (fun r=>hF r.2∧r.1.length=3):=by
 unfold xF
 refine .bind (gB c 4 ao (by omega)) fun aD J=> ?_
 refine .eq (tM J.2.1 (by simpa using J.2.2.1)) (.eq rfl (.eq rfl (.bind (mP _ J.1) fun aM ab=> ?_)))
 refine .bind (P:=fun m=>hF m.1) (.cond (fun _=> ?_) (fun _=> .ret ab)) fun bJ cB=> ?_
 ·refine .bind (gB _ 2 ab (by omega)) fun cM bk=> .eq rfl (.bind (gB _ 4 bk.1 (by omega)) fun dv cV=> ?_)
  exact .eq (tM cV.2.1 (by simpa using cV.2.2.1)) (.eq rfl (.eq (iq _ _ (by simp) (by omega)) (.ret cV.1)))
 ·refine .bind (gB _ 4 cB (by omega)) fun a8 aE=> .eq (tM aE.2.1 (by simpa using aE.2.2.1)) (.eq rfl (.eq rfl ?_))
  refine .bind (gB _ 3 aE.1 (by omega)) fun br aW=> ?_
  refine .bind (P:=fun m=>hF m.1) (.cond (fun _=> ?_) (fun _=> .ret aW.1)) fun cy dE=> .ret ⟨dE,rfl⟩
  exact .bind (gB _ 3 aW.1 (by omega)) fun cj aX=> .eq rfl (.ret aX.1)
def o2 (a:dL):Int × List Int:=(a.bU,a.jS.map (·.e7))
def w1:List (Int × List Int):= [(1,[]),(2,[]),(3,[16]),(4,[4]),(5,[4,12]),(6,[])]
theorem TS {α β:Type} [Inhabited α] (f:α→β) (l:List α) (k:Nat) (x:α) (h:f x=f (aB l k)):(et l k x).map f=l.map f:=by
 unfold et
 apply List.ext_getElem
 ·simp
 ·intro i J ab
  simp only [List.length_map,List.length_set] at J
  simp only [List.getElem_map,List.getElem_set]
  split
  ·rename_i e; subst e; rw [h,dU l J]
  ·rfl
theorem Ci {α β:Type} [Inhabited α] (f:α→β) {l:List α} {k:Nat} {x:α} {r:List β} (h:f x=f (aB l k)) (al:l.map f=r):(et l k x).map f=r:=(TS f l k x h).trans al
theorem Ss (c:bI) (ao:hF c):a6 (xC c) (fun r=>hF r.2∧r.1.map o2=w1):=by
 unfold xC
 refine .eq rfl (.eq rfl (.eq rfl (.eq rfl (.eq rfl (.eq rfl (.eq rfl (.eq rfl (.eq rfl (.eq rfl (.eq rfl (.eq rfl (.eq rfl ?_))))))))))))
 refine .bind (gB _ 2 ao (by omega)) fun aD J=> .eq rfl (.bind (gB _ 256 J.1 (by omega)) fun aM ab=> .eq rfl (.eq rfl (.eq rfl ?_)))
 refine .bind (mP _ ab.1) fun a8 aE=> ?_
 refine .bind (P:=fun m=>m.map o2=w1) (.cond (fun _=> ?_) (fun _=> .ret rfl)) fun bJ cB=> ?_
 ·exact .idx (k:=2) rfl (by simp) (.eq rfl (.ret (Ci o2 rfl rfl)))
 ·refine .bind (mP _ aE) fun br aW=> .bind (P:=fun m=>m.map o2=w1) (.cond (fun _=> ?_) (fun _=> .ret cB)) fun cy dE=> .ret ⟨aW,dE⟩
  have al:bJ.length=6:=by rw [← List.length_map (f:=o2),cB]; rfl
  exact .idx (k:=4) rfl (by omega) (.eq rfl (.ret (Ci o2 rfl cB)))
def ti:cJ:= { cm:=ByteArray.mk #[97],gn:=4,cS:=1 }
def vc:cJ:= { cm:=ByteArray.mk #[100],gn:=7,cS:=2 }
def Jo:cJ:= { cm:=ByteArray.mk #[109],gn:=3,cS:=1 }
def A6:cJ:= { cm:=ByteArray.mk #[101],gn:=6,cS:=3 }
def AD:cJ:= { cm:=ByteArray.mk #[97],gn:=4,cS:=3 }
def Jp:cJ:= { cm:=ByteArray.mk #[98],gn:=5,cS:=1 }
def A7:cJ:= { cm:=ByteArray.mk #[102],gn:=8,cS:=4 }
def Jq:cJ:= { cm:=ByteArray.mk #[103],gn:=9,cS:=1 }
def m1 (t:bX):Int × List Int × List cJ:=(t.bU,t.di,t.bQ)
def sC (b:Bool):List cJ:=if b then [vc,Jo] else [vc]
def uv (b:Bool):List cJ:=if b then [A6,AD,Jp] else [A6,AD]
def uw (b:Bool):List cJ:=if b then [A7,Jq,vc] else [A7]
def re (e6 gy hU:Bool):List (Int × List Int × List cJ):=
 [(1,[1,2,4],[ti]),(2,[1,2,3,4],sC e6),(3,[1,2,3,5,6],uv gy),(4,[1,3,5],uw hU)]
theorem SM (c:bI) (ao:hF c):a6 (xH c) (fun r=>hF r.2∧ (∀ x∈r.1.map (·.iv),2≤x∧x≤20)∧ ∃ e6 gy hU,r.1.map m1=re e6 gy hU):=by
 unfold xH
 refine .eq rfl (.bind (gB _ 2 ao (by omega)) fun aD J=> .bind (gB _ 5 J.1 (by omega)) fun aM ab=> .eq rfl (.eq rfl ?_))
 refine .bind (gB _ 6 ab.1 (by omega)) fun a8 aE=> .bind (mP _ aE.1) fun br aW=> ?_
 refine .bind (P:=fun m=>(m.1.bU=2∧m.1.di= [1,2,3,4]∧m.1.iv=bm (3 + a8.1))∧ ∃ b,m.2=sC b) (.cond (fun _=> ?_) (fun _=> .ret ⟨⟨rfl,rfl,rfl⟩,false,rfl⟩)) fun bJ cB=> ?_
 ·exact .eq rfl (.eq (iq _ _ (by simp) (by omega)) (.ret ⟨⟨rfl,rfl,rfl⟩,true,rfl⟩))
 refine .eq rfl (.eq rfl (.bind (gB _ 6 aW (by omega)) fun cj aX=> .bind (mP _ aX.1) fun cM bk=> ?_))
 refine .bind (P:=fun m=>(m.1.bU=3∧m.1.di= [1,2,3,5,6]∧m.1.iv=bm (4 + cj.1))∧ ∃ b,m.2=uv b) (.cond (fun _=> ?_) (fun _=> .ret ⟨⟨rfl,rfl,rfl⟩,false,rfl⟩)) fun cy dE=> ?_
 ·exact .eq rfl (.eq (iq _ _ (by simp) (by omega)) (.ret ⟨⟨rfl,rfl,rfl⟩,true,rfl⟩))
 refine .eq rfl (.bind (gB _ 5 bk (by omega)) fun dv cV=> .bind (mP _ cV.1) fun eU eS=> ?_)
 refine .bind (P:=fun m=>(m.1.bU=4∧m.1.di= [1,3,5]∧m.1.iv=bm (3 + dv.1))∧ ∃ b,m.2=uw b) (.cond (fun _=> ?_) (fun _=> .ret ⟨⟨rfl,rfl,rfl⟩,false,rfl⟩)) fun fm hS=> ?_
 ·exact .eq rfl (.eq rfl (.eq (iq _ _ (by simp) (by omega)) (.ret ⟨⟨rfl,rfl,rfl⟩,true,rfl⟩)))
 refine .eq rfl (.eq rfl (.eq rfl (.eq rfl (.eq rfl ?_))))
 obtain⟨⟨eL,eR,lR⟩,e6,kd⟩:=cB
 obtain⟨⟨cZ,dX,qg⟩,gy,gx⟩:=dE
 obtain⟨⟨d1,d2,d4⟩,hU,d3⟩:=hS
 refine a6.loop 4 (fun k s=>s.1=(k:Int)∧s.2.1.map m1=re e6 gy hU∧hF s.2.2∧s.2.1.map (·.iv)= [bm (2 + aM.1),bm (3 + a8.1),bm (4 + cj.1),bm (3 + dv.1)]) (by omega) ⟨rfl,?_,eS,?_⟩ (fun k s aq aj=> ?_) (fun s aj=> ?_)
 ·simp only [List.map_cons,List.map_nil,m1,eL,eR,kd,cZ,dX,gx,d1,d2,d3,re]; rfl
 ·simp only [List.map_cons,List.map_nil,lR,qg,d4]
 ·obtain⟨i,g8,A8⟩:=s; obtain⟨ay,aS,cW,eh⟩:=aj
  simp only at ay aS cW eh; subst ay
  refine a6.cond (fun _=> ?_) (fun h=>by simp at h; omega)
  have al:g8.length=4:=by rw [← List.length_map (f:=m1),aS]; rfl
  refine .idx rfl (by simpa using aq) (.bind (gB _ 3 cW (by omega)) fun fo fB=> .eq (tM fB.2.1 ?_) (.idx rfl (by simp only; omega) (.eq rfl (.ret ⟨dz (by omega),?_,fB.1,?_⟩))))
  ·have jK:=fB.2.2.1
   have:k=0∨k=1∨k=2∨k=3:=by omega
   rcases this with rfl | rfl | rfl | rfl <;> exact jK
  ·exact Ci m1 rfl aS
  ·exact Ci bX.iv rfl eh
 ·obtain⟨i,g8,A8⟩:=s; obtain⟨ay,aS,cW,eh⟩:=aj
  simp only at ay aS cW eh; subst ay
  refine⟨_,rfl,?_⟩
  refine .ret ⟨cW,fun x an=> ?_,e6,gy,hU,aS⟩
  rw [eh] at an
  have aT:=ab.2; have bq:=aE.2; have gT:=aX.2; have abB:=cV.2
  simp only [List.mem_cons,List.not_mem_nil,or_false] at an
  rcases an with rfl | rfl | rfl | rfl <;> (rw [gC (by omega) (by omega)]; omega)
theorem Mc (n:Nat) (h:n≤1000):rm (α:=Bool) 1 (n:Int)=some (List.replicate n default):=by
 unfold rm; rw [if_pos ⟨by omega,by omega,by omega⟩]; simp
theorem Th (c:bI) (g8:List bX) (ao:hF c) (al:g8.length≤1000) (aq:∀ t∈g8,t.bQ.length≤1000):a6 (xP c g8) (fun r=>hF r.2∧r.1.map (·.bU)= [1,2,7]):=by
 unfold xP
 refine .bind (gB _ 3 ao (by omega)) fun aD J=> .bind (gB _ 6 J.1 (by omega)) fun aM ab=> .bind (gB _ 6 ab.1 (by omega)) fun a8 aE=> .bind (gB _ 4 aE.1 (by omega)) fun br aW=> ?_
 refine a6.loop g8.length (fun k s=>s.1=(k:Int)∧hF s.2.2.2.1∧s.2.2.1.length≤k∧s.2.2.2.2.2.1.length≤k∧s.2.2.2.2.2.2.2.length≤k∧s.2.1.bU=7∧s.2.2.2.2.1.bU=2∧s.2.2.2.2.2.2.1.bU=1) (by omega) ⟨rfl,aW.1,by simp,by simp,by simp,rfl,rfl,rfl⟩ (fun k s ry aj=> ?_) (fun s aj=> ?_)
 ·obtain⟨i,n1,au,A8,jN,aT,va,bq⟩:=s; obtain⟨ay,aS,cW,eh,gS,i1,i2,i3⟩:=aj
  simp only at ay aS cW eh gS i1 i2 i3; subst ay
  refine a6.cond (fun _=> ?_) (fun h=>by simp at h; omega)
  have OV:(aB g8 k).bQ.length≤1000:=aq _ (by rw [dU g8 ry]; exact List.getElem_mem ry)
  refine .idx rfl ry (.eq (Mc _ OV) (.eq (Mc _ OV) ?_))
  refine a6.loop (aB g8 k).bQ.length (fun j s=>s.1=(j:Int)∧s.2.1.length=(aB g8 k).bQ.length∧s.2.2.1.length=(aB g8 k).bQ.length∧hF s.2.2.2) (by omega) ⟨rfl,by simp,by simp,aS⟩ (fun j s aF aj=> ?_) (fun s aj=> ?_)
  ·obtain⟨i,e6,gy,Z1⟩:=s; obtain⟨f1,f2,f3,f4⟩:=aj
   simp only at f1 f2 f3 f4; subst f1
   refine a6.cond (fun _=> ?_) (fun h=>by simp at h; omega)
   exact .bind (gB _ 4 f4 (by omega)) fun dv cV=> .idx rfl (by simp only; omega) (.idx rfl (by simp only; omega) (.ret ⟨dz (by omega),by simp [et,f2],by simp [et,f3],cV.1⟩))
  ·obtain⟨i,e6,gy,Z1⟩:=s; obtain⟨f1,f2,f3,f4⟩:=aj
   simp only at f1 f2 f3 f4; subst f1
   refine⟨_,by simp; rfl,?_⟩
   refine .eq rfl (.eq (iq _ _ (by simp; omega) (by omega)) (.bind (gB _ 4 f4 (by omega)) fun fo fB=> ?_))
   refine .bind (P:=fun m=>hF m.1∧m.2.2.length≤k + 1∧m.2.1.bU=2) (.cond (fun _=> ?_) (fun _=> .ret ⟨fB.1,by simp only; omega,i2⟩)) fun bJ cB=> ?_
   ·exact .bind (gB _ 4 fB.1 (by omega)) fun la D1=> .bind (mP _ D1.1) fun sQ D2=> .eq rfl (.eq (iq _ _ (by simp; omega) (by omega)) (.ret ⟨D2,by simp; omega,i2⟩))
   refine .bind (mP _ cB.1) fun gP jK=> ?_
   refine .bind (P:=fun m=>hF m.1∧m.2.2.length≤k + 1∧m.2.1.bU=7) (.cond (fun _=> ?_) (fun _=> .ret ⟨jK,by simp only; omega,i1⟩)) fun cy dE=> ?_
   ·exact .bind (mP _ jK) fun ik oH=> .bind (mP _ oH) fun iK AE=> .eq rfl (.eq (iq _ _ (by simp; omega) (by omega)) (.ret ⟨AE,by simp; omega,i1⟩))
   exact .ret ⟨dz (by omega),dE.1,dE.2.1,cB.2.1,by simp; omega,dE.2.2,cB.2.2,i3⟩
 ·obtain⟨i,n1,au,A8,jN,aT,va,bq⟩:=s; obtain⟨ay,aS,cW,eh,gS,i1,i2,i3⟩:=aj
  simp only at ay aS cW eh gS i1 i2 i3; subst ay
  refine⟨_,by simp; rfl,?_⟩
  exact .eq rfl (.eq rfl (.ret ⟨aS,by simp only [List.map_cons,List.map_nil,i1,i2,i3]⟩))
def HD:List (Int × Int):= [(1,16),(2,16),(3,8),(4,4),(5,4),(6,8),(7,32),(8,12),(9,4)]
def zw (f:fj):Int × Int:=(f.bU,f.e7)
structure de (s:a0):Prop where
 fields:s.fg.map zw=HD
 headers:s.lA.length=3
 M3:s.lW.length=3
 FW:s.di.map o2=w1
 tables:∃ e6 gy hU,s.bB.map m1=re e6 gy hU
 Of:s.jl.map (·.bU)= [1,2,7]
 Xp:∀ x∈s.bB.map (·.iv),2≤x∧x≤20
theorem de.Y1 {s:a0} (h:de s):s.jl.length=3:=by rw [← List.length_map (f:=(·.bU)),h.Of]; rfl
theorem de.p0 {s:a0} (h:de s):s.fg.length=9:=by rw [← List.length_map (f:=zw),h.fields]; rfl
theorem de.js {s:a0} (h:de s):s.bB.length=4:=by obtain⟨e6,gy,hU,J⟩:=h.tables; rw [← List.length_map (f:=m1),J]; rfl
theorem de.HE {s:a0} (h:de s):s.di.length=6:=by rw [← List.length_map (f:=o2),h.FW]; rfl
theorem SN (c:bI) (ao:hF c):a6 (vr c) (fun r=>de r.1∧hF r.2):=by
 unfold vr
 refine .bind (gB _ 8 ao (by omega)) fun aD J=> .bind (gB _ 30 J.1 (by omega)) fun aM ab=> ?_
 refine .eq rfl (.eq rfl (.eq rfl (.eq rfl (.eq rfl (.eq rfl (.eq rfl (.eq rfl (.eq rfl (.eq rfl (.eq rfl (.eq rfl ?_)))))))))))
 refine .bind (SL _ ab.1) fun a8 aE=> .bind (Ss _ aE.1) fun br aW=> .bind (SM _ aW.1) fun cj aX=> .eq rfl (.eq rfl ?_)
 obtain⟨Z2,eF,e6,gy,hU,aX⟩:=aX
 have al:cj.1.length=4:=by rw [← List.length_map (f:=m1),aX]; rfl
 have Xq:∀ t∈cj.1,t.bQ.length≤1000:=fun t cc=>by
  have bk:m1 t∈re e6 gy hU:=aX ▸ List.mem_map_of_mem cc
  have cV:∀ p∈re e6 gy hU,p.2.2.length≤1000:=by
   intro p hp
   simp only [re,List.mem_cons,List.not_mem_nil,or_false] at hp
   rcases hp with rfl | rfl | rfl | rfl
   ·simp
   ·cases e6 <;> simp [sC]
   ·cases gy <;> simp [uv]
   ·cases hU <;> simp [uw]
  exact cV _ bk
 refine .bind (Th _ _ Z2 (by simp only; omega) Xq) fun cM bk=> .eq rfl (.bind (mP _ bk.1) fun dv cV=> ?_)
 let Inv (s:a0):Prop:=s.fg.map zw=HD∧s.lA.length=3∧s.lW.length=3∧s.di.map o2=w1∧s.bB=cj.1∧s.jl.map (·.bU)= [1,2,7]
 have hinv:∀ (st:List fD) (Qf:List eZ) (s:a0),Inv s→Inv { s with mN:=st,ns:=Qf } :=fun st Qf s h=>h
 refine .bind (P:=fun _=>True) (.cond (fun _=> .eq (iq _ _ (by simp) (by omega)) (.ret trivial)) (fun _=> .ret trivial)) fun bJ _=> ?_
 refine .bind (mP _ cV) fun eU eS=> ?_
 refine .bind (P:=fun m=>Inv m.1∧m.2.length≤10) (.cond (fun _=> .eq rfl (.eq (iq _ _ (by simp) (by omega)) (.ret ⟨⟨rfl,rfl,aE.2,aW.2,rfl,bk.2⟩,by simp⟩))) (fun _=> .ret ⟨⟨rfl,rfl,aE.2,aW.2,rfl,bk.2⟩,by simp⟩)) fun cy dE=> ?_
 refine .bind (mP _ eS) fun fo fB=> ?_
 refine .cX (P:=fun _=>True) (fun _=>⟨2,lD (k:=2) (by rw [dE.1.2.2.2.2.1]; omega),trivial⟩) fun aV _=> ?_
 refine .bind (P:=fun m=>Inv m.1∧m.2.length≤11) (.cond (fun _=> .eq rfl (.eq (iq _ _ (by have:=dE.2; simp; omega) (by omega)) (.ret ⟨dE.1,by have:=dE.2; simp; omega⟩))) (fun _=> .ret ⟨dE.1,by have:=dE.2; simp only; omega⟩)) fun fm hS=> ?_
 refine .bind (mP _ fB) fun gP jK=> ?_
 refine .cX (P:=fun _=>True) (fun _=>⟨3,lD (k:=3) (by rw [hS.1.2.2.2.2.1]; omega),trivial⟩) fun bu _=> ?_
 refine .bind (P:=fun m=>Inv m.1∧m.2.length≤13) (.cond (fun _=> .eq rfl (.eq rfl (.eq (iq _ _ (by have:=hS.2; simp; omega) (by omega)) (.ret ⟨hS.1,by have:=hS.2; simp; omega⟩)))) (fun _=> .ret ⟨hS.1,by have:=hS.2; simp only; omega⟩)) fun oI z3=> ?_
 obtain⟨⟨i1,i2,i3,i4,i5,i6⟩,_⟩:=z3
 exact .eq rfl (.ret ⟨⟨i1,i2,i3,i4,⟨e6,gy,hU,by simp only [i5]; exact aX⟩,i6,by simp only [i5]; exact eF⟩,jK⟩)
theorem de.size {s:a0} (h:de s) {k:Nat} (aq:k < 4):2≤ (aB s.bB k).iv∧ (aB s.bB k).iv≤20:=by
 have al:=h.js
 exact h.Xp _ (List.mem_map.2 ⟨_,by rw [dU _ (by omega)]; exact List.getElem_mem _,rfl⟩)
theorem Md (x:Int) (n:Int) (J:1≤n) (ab:n≤1000000):a6 (r1 x n) (fun r=>0≤r∧r < n):=by
 unfold r1
 refine .cond (fun h=>by simp at h; omega) fun _=> ?_
 have hm:∀ y:Int,nE y n=some (y.tmod n):=fun y=>by unfold nE; rw [if_neg (by omega)]
 refine .eq (hm _) ?_
 have aE:=Int.tmod_lt_of_pos x (show 0 < n by omega)
 have aW: -n < x.tmod n:=by
  have:=Int.tmod_lt_of_pos (-x) (show 0 < n by omega)
  rw [Int.neg_tmod] at this; omega
 rw [gC (by omega) (by omega)]
 exact .eq (hm _) (.ret ⟨Int.tmod_nonneg _ (by omega),Int.tmod_lt_of_pos _ (by omega)⟩)
end Go.Proofs.YtmnggbjcnoffeaaGreat
namespace Go.Proofs.YtmnggbjcnoffeaaGreat
open Go Gv
set_option linter.unusedVariables false
set_option linter.unusedSimpArgs false
def bV (v:aw) (i:Nat):Bool:=if i < 64 then v.b7.getLsbD i else v.dS.getLsbD (i - 64)
theorem Gp {v w:aw} (h:∀ j,j < 128→bV v j=bV w j):v=w:=by
 cases v with | mk aau aav=>cases w with | mk aaw wl=>
 have J:aau=aaw:=by
  apply BitVec.eq_of_getLsbD_eq
  intro i aj
  have:=h (i + 64) (by omega)
  simpa [bV,show ¬ (i + 64 < 64) by omega] using this
 have ab:aav=wl:=by
  apply BitVec.eq_of_getLsbD_eq
  intro i aj
  have:=h i (by omega)
  simpa [bV,aj] using this
 rw [J,ab]
theorem qG (j:Nat):bV default j=false:=by
 unfold bV; split <;> exact BitVec.getLsbD_zero
def zZ (x y:aw):aw:= { dS:=x.dS &&& y.dS,b7:=x.b7 &&& y.b7 }
def D3 (x y:aw):aw:= { dS:=x.dS ||| y.dS,b7:=x.b7 ||| y.b7 }
def HF (x y:aw):aw:= { dS:=x.dS ^^^ y.dS,b7:=x.b7 ^^^ y.b7 }
@[simp] theorem FX (x y:aw) (j:Nat):bV (zZ x y) j=(bV x j && bV y j):=by unfold bV zZ; split <;> simp
@[simp] theorem M4 (x y:aw) (j:Nat):bV (D3 x y) j=(bV x j || bV y j):=by unfold bV D3; split <;> simp
@[simp] theorem UH (x y:aw) (j:Nat):bV (HF x y) j=(bV x j ^^ bV y j):=by unfold bV HF; split <;> simp
theorem and_eq (x y:aw):nk x y=some (zZ x y):=rfl
theorem or_eq (x y:aw):nm x y=some (D3 x y):=rfl
theorem xor_eq (x y:aw):r3 x y=some (HF x y):=rfl
theorem Me (x:aw):a6 (vN x) (fun r=> ∀ j,j < 128→bd r j=bV x j):=by
 unfold vN
 refine a6.loop 64 (fun k s=>s.1=k∧ ∀ j,j < 128→bd s.2 j=(decide (j % 64 < k) && bV x j)) (by omega)
  ⟨rfl,fun j aF=>by simp [rZ]⟩ (fun k s aq aj=> ?_) (fun s aj=> ?_)
 ·obtain⟨i,v⟩:=s; obtain⟨J,ab⟩:=aj
  simp only at J ab; subst J
  have ay:bm ((k:Int) + 64)=((k + 64:Nat):Int):=by rw [gC (by omega) (by omega)]; simp
  refine a6.cond (fun _=> ?_) (fun h=>by simp at h; omega)
  refine a6.idx rfl (show k < 128 by omega) (.eq rfl (.idx ay (show k + 64 < 128 by omega) (.eq rfl (.ret ⟨dz (by omega),fun j aF=> ?_⟩))))
  simp only [eK _ _ (show k < 128 by omega),eK _ _ (show k + 64 < 128 by omega),ml (show k < 2 ^ 64 by omega),TQ,ab j aF]
  by_cases lL:j=k + 64
  ·subst lL
   have J:(k + 64) % 64 < k + 1:=by omega
   have ab: ¬ (k + 64 < 64):=by omega
   simp only [bV,J,ab,if_true,if_false,decide_true,Bool.true_and,Nat.add_sub_cancel]
  ·by_cases ku:j=k
   ·subst ku
    have:j % 64 < j + 1:=by omega
    simp [bV,this,aq]
   ·rw [if_neg lL,if_neg ku]
    congr 1
    rw [decide_eq_decide]; omega
 ·obtain⟨i,v⟩:=s; obtain⟨J,ab⟩:=aj
  simp only at J ab; subst J
  refine⟨_,rfl,.ret fun j aF=> ?_⟩
  have:j % 64 < 64:=by omega
  simp [ab j aF,this]
theorem FY (x:Vector Bool 128):a6 (tw x) (fun r=> ∀ j,j < 128→bV r j=bd x j):=by
 unfold tw
 refine a6.loop 64 (fun k s=>s.1=k∧ ∀ j,j < 128→bV s.2 j=(decide (j % 64 < k) && bd x j)) (by omega)
  ⟨rfl,fun j aF=>by simp [qG]⟩ (fun k s aq aj=> ?_) (fun s aj=> ?_)
 ·obtain⟨i,v⟩:=s; obtain⟨J,ab⟩:=aj
  simp only at J ab; subst J
  have ay:bm ((k:Int) + 64)=((k + 64:Nat):Int):=by rw [gC (by omega) (by omega)]; simp
  refine a6.cond (fun _=> ?_) (fun h=>by simp at h; omega)
  refine a6.idx rfl (show k < 128 by omega) (.bind (P:=fun w=> ∀ j,j < 128→bV w j=(bV v j || (bd x k && decide (j=k)))) (.cond (fun hb=> .ret fun j aF=> ?_) (fun hb=> .ret fun j aF=>by simp [hb])) fun w hw=> ?_)
  ·simp only [bV,ml (show k < 2 ^ 64 by omega),BitVec.getLsbD_or,Lc,hb,Bool.true_and]
   split
   ·rename_i h; simp [h]
   ·have:j≠k:=by omega
    simp [this]
  refine .idx ay (show k + 64 < 128 by omega) (.bind (P:=fun u=> ∀ j,j < 128→bV u j=(bV w j || (bd x (k + 64) && decide (j=k + 64)))) (.cond (fun hb=> .ret fun j aF=> ?_) (fun hb=> .ret fun j aF=>by simp [hb])) fun u hu=> .ret ⟨dz (by omega),fun j aF=> ?_⟩)
  ·simp only [bV,ml (show k < 2 ^ 64 by omega),BitVec.getLsbD_or,Lc,hb,Bool.true_and]
   split
   ·have:j≠k + 64:=by omega
    simp [this]
   ·have:(j - 64=k)↔j=k + 64:=by omega
    have bk:j - 64 < 64:=by omega
    simp [this,bk]
  simp only [hu j aF,hw j aF,ab j aF]
  by_cases lL:j=k + 64
  ·subst lL
   simp [Nat.mod_eq_of_lt aq]
  ·by_cases ku:j=k
   ·subst ku
    have J:j % 64 < j + 1:=by omega
    have ab: ¬ (j % 64 < j):=by omega
    simp [J,ab]
   ·have J:(j % 64 < k + 1)↔j % 64 < k:=by omega
    simp [J,lL,ku]
 ·obtain⟨i,v⟩:=s; obtain⟨J,ab⟩:=aj
  simp only at J ab; subst J
  refine⟨_,rfl,.ret fun j aF=> ?_⟩
  have:j % 64 < 64:=by omega
  simp [ab j aF,this]
end Go.Proofs.YtmnggbjcnoffeaaGreat
namespace Go.Proofs.YtmnggbjcnoffeaaGreat
open Go Gv
set_option linter.unusedVariables false
set_option linter.unusedSimpArgs false
theorem LC (v:aw) (n:Nat) (aO:n < 2 ^ 62):a6 (vM v n) (fun r=> ∀ j,j < 128→bV r j=bV v (j + n)):=by
 unfold vM
 refine .cond (fun h=> .ret fun j aF=> ?_) (fun h=> .cond (fun cR=> .eq rfl (.ret fun j aF=> ?_)) (fun cR=> .eq rfl (.eq rfl (.ret fun j aF=> ?_))))
 ·have:n=0:=by simp at h; omega
  simp [this]
 ·simp only [decide_eq_true_eq] at cR
  have ay:bm ((n:Int) - 64)=((n - 64:Nat):Int):=by rw [gC (by omega) (by omega)]; omega
  rw [ay,ml (by omega)]
  unfold bV
  by_cases aF:j < 64
  ·rw [if_pos aF,if_neg (by omega)]
   simp only [BitVec.getLsbD_ushiftRight]
   congr 1; omega
  ·rw [if_neg aF,if_neg (by omega)]
   rw [show(default:aw).dS=0#64 from rfl,BitVec.getLsbD_zero,BitVec.getLsbD_of_ge _ _ (by omega)]
 ·simp only [decide_eq_false_iff_not] at h cR
  have ay:bm (64 - (n:Int))=((64 - n:Nat):Int):=by rw [gC (by omega) (by omega)]; omega
  rw [ay,ml (by omega),ml (by omega)]
  unfold bV
  by_cases aF:j < 64
  ·rw [if_pos aF]
   simp only [BitVec.getLsbD_or,BitVec.getLsbD_ushiftRight,BitVec.getLsbD_shiftLeft]
   by_cases aE:j + n < 64
   ·rw [if_pos aE]
    have:j < 64 - n:=by omega
    simp [this,Nat.add_comm]
   ·rw [if_neg aE,BitVec.getLsbD_of_ge _ (n + j) (by omega)]
    have: ¬ (j < 64 - n):=by omega
    simp only [aF,this,decide_true,decide_false,Bool.true_and,Bool.not_false,Bool.false_or]
    congr 1; omega
  ·rw [if_neg aF,if_neg (by omega)]
   simp only [BitVec.getLsbD_ushiftRight]
   congr 1; omega
theorem UI (v:aw) (n:Nat) (aO:n < 2 ^ 62):a6 (yp v n) (fun r=> ∀ j,j < 128→bV r j=(decide (n≤j) && bV v (j - n))):=by
 unfold yp
 refine .cond (fun h=> .ret fun j aF=> ?_) (fun h=> .cond (fun cR=> .eq rfl (.ret fun j aF=> ?_)) (fun cR=> .eq rfl (.eq rfl (.ret fun j aF=> ?_))))
 ·have:n=0:=by simp at h; omega
  simp [this]
 ·simp only [decide_eq_true_eq] at cR
  have ay:bm ((n:Int) - 64)=((n - 64:Nat):Int):=by rw [gC (by omega) (by omega)]; omega
  rw [ay,ml (by omega)]
  unfold bV
  by_cases ku:j < 64
  ·rw [if_pos ku,show(default:aw).b7=0#64 from rfl,BitVec.getLsbD_zero]
   have: ¬ (n≤j):=by omega
   simp [this]
  ·rw [if_neg ku]
   simp only [BitVec.getLsbD_shiftLeft]
   by_cases aE:n≤j
   ·rw [if_pos (by omega)]
    have aW: ¬ (j - 64 < n - 64):=by omega
    have aX:j - 64 < 64:=by omega
    simp only [aE,aW,aX,decide_true,decide_false,Bool.true_and,Bool.not_false]
    congr 1; omega
   ·have aW:j - 64 < n - 64:=by omega
    simp [aE,aW]
 ·simp only [decide_eq_false_iff_not] at h cR
  have ay:bm (64 - (n:Int))=((64 - n:Nat):Int):=by rw [gC (by omega) (by omega)]; omega
  rw [ay,ml (by omega),ml (by omega)]
  unfold bV
  by_cases ku:j < 64
  ·rw [if_pos ku]
   simp only [BitVec.getLsbD_shiftLeft]
   by_cases aE:n≤j
   ·rw [if_pos (by omega)]
    have aW: ¬ (j < n):=by omega
    simp [aE,aW,ku]
   ·have aW:j < n:=by omega
    simp [aE,aW]
  ·rw [if_neg ku]
   simp only [BitVec.getLsbD_or,BitVec.getLsbD_ushiftRight,BitVec.getLsbD_shiftLeft]
   have aE:n≤j:=by omega
   by_cases aW:j - 64 < n
   ·rw [if_pos (by omega)]
    simp only [aE,aW,decide_true,Bool.not_true,Bool.and_false,Bool.false_and,Bool.false_or,Bool.true_and]
    congr 1; omega
   ·rw [if_neg (by omega),BitVec.getLsbD_of_ge v.b7 _ (by omega)]
    have aX:j - 64 < 64:=by omega
    simp only [aE,aW,aX,decide_true,decide_false,Bool.not_false,Bool.true_and,Bool.or_false]
    congr 1; omega
theorem Gq (v:aw) (i:Int):a6 (qt v i) (fun r=>r=(decide (0≤i∧i < 128) && bV v i.toNat)):=by
 unfold qt
 refine .cX (P:=fun r=> ∀ j,j < 128→bV r j=bV v (j + i.toNat)) (fun h=> ?_) fun y a4=> .eq rfl (.ret ?_)
 ·simp at h
  obtain⟨n,rfl⟩:=Int.eq_ofNat_of_zero_le h.1
  exact LC v n (by omega)
 ·by_cases h:0≤i∧i < 128
  ·have J:(decide (i≥0) && decide (i < 128))=true:=by simp; omega
   rw [J,Ma]
   have:=a4 J 0 (by omega)
   rw [show bV y 0=y.b7.getLsbD 0 from rfl,Nat.zero_add] at this
   rw [this,decide_eq_true h]
  ·have J:(decide (i≥0) && decide (i < 128))=false:=by simp; omega
   simp [J,h]
def bj (w:Vector aw 4) (i:Nat):Bool:=bV (bd w (i / 128)) (127 - i % 128)
theorem wA {v w:Vector aw 4} (h:∀ i,i < 512→bj v i=bj w i):v=w:=by
 refine Cm fun k aq=>Gp fun j aF=> ?_
 have:=h (128 * k + (127 - j)) (by omega)
 unfold bj at this
 rw [show(128 * k + (127 - j)) / 128=k by omega,show 127 - (128 * k + (127 - j)) % 128=j by omega] at this
 exact this
theorem LD (n:Nat) (aO:n < 512):vO (n:Int)=some (((n / 128:Nat):Int),((127 - n % 128:Nat):Int)):=by
 unfold vO uF nE
 have J:(n:Int).tdiv 128=((n / 128:Nat):Int):=by rw [Int.tdiv_eq_ediv_of_nonneg (by omega)]; omega
 have ab:(n:Int).tmod 128=((n % 128:Nat):Int):=by rw [Int.tmod_eq_emod_of_nonneg (by omega)]; omega
 simp only [J,ab,if_neg (show ¬ ((128:Int)=0) by omega),Option.bind_some]
 rw [gC (by omega) (by omega),gC (by omega) (by omega)]
 congr 2; omega
theorem has_eq (w:Vector aw 4) (n:Nat) (aO:n < 512):a6 (yz w n) (fun r=>r=bj w n):=by
 unfold yz
 refine .eq (LD n aO) (.idx rfl (show n / 128 < 4 by omega) ((Gq _ _).bind fun y a4=> .ret ?_))
 rw [a4]
 have:(0:Int)≤ ((127 - n % 128:Nat):Int)∧ ((127 - n % 128:Nat):Int) < 128:=by omega
 simp [this,bj]
theorem FZ (w:Vector aw 4) {n:Nat} (aO:n < 512) (x:aw) (h:∀ j,j < 128→bV x j=(bV (bd w (n / 128)) j || decide (j=127 - n % 128))) (m:Nat) (hm:m < 512):
 bj (cq w (n / 128) x) m=(bj w m || decide (m=n)):=by
 unfold bj
 rw [eK _ _ (show n / 128 < 4 by omega)]
 by_cases hq:m / 128=n / 128
 ·rw [if_pos hq,h _ (by omega),hq]
  congr 1
  rw [decide_eq_decide]; omega
 ·rw [if_neg hq]
  have:m≠n:=by intro h; subst h; exact hq rfl
  simp [this]
theorem M5 (x:a1) (n:Nat) (aO:n < 512) (b:Bool):a6 (qv x n b) (fun c=>
 (bj x.bR n=true→c=x)∧ (bj x.bR n=false→ (∀ m,m < 512→bj c.bR m=(bj x.bR m || decide (m=n)))∧ (∀ m,m < 512→bj c.bW m=(bj x.bW m || (b && decide (m=n)))))):=by
 unfold qv
 have bP:(decide ((n:Int) < 0) || decide ((n:Int)≥512))=false:=by simp; omega
 rw [bP]
 refine .cX (P:=fun r=>r=bj x.bR n) (fun _=>has_eq _ _ aO) fun y a4=> .cond (fun h=> .ret ⟨fun _=>rfl,fun cR=> ?_⟩) (fun h=> ?_)
 ·rw [a4 rfl,cR] at h; simp at h
 have hm:bj x.bR n=false:=by simpa [a4 rfl] using h
 refine .eq (LD n aO) (.eq rfl ((UI _ (127 - n % 128) (by omega)).bind fun br eW=> ?_))
 have aW:∀ (w:aw) j,j < 128→bV (D3 w br) j=(bV w j || decide (j=127 - n % 128)):=by
  intro w j aF
  rw [M4,eW j aF]
  congr 1
  by_cases hq:j=127 - n % 128
  ·subst hq; simp [bV]
  ·by_cases oE:127 - n % 128≤j
   ·have dh:bV { (default:aw) with b7:=1#64 } (j - (127 - n % 128))=false:=by
     unfold bV
     split
     ·simp only [BitVec.getLsbD_one]; simp; omega
     ·rw [show(default:aw).dS=0#64 from rfl]; exact BitVec.getLsbD_zero
    rw [dh]; simp [hq]
   ·simp [hq,oE]
 have aq:n / 128 < 4:=by omega
 refine .idx rfl aq ?_
 refine .eq (or_eq _ _) ?_
 refine .idx rfl aq ?_
 refine .bind (P:=fun c=>(∀ m,m < 512→bj c.bR m=(bj x.bR m || decide (m=n)))∧ (∀ m,m < 512→bj c.bW m=(bj x.bW m || (b && decide (m=n))))) (.cond (fun hb=> ?_) (fun hb=> ?_)) fun c ao=> ?_
 ·refine .idx rfl aq ?_
  first
  | refine .eq (or_eq _ _) ?_
  | refine .eq rfl (.eq (or_eq _ _) ?_)
  refine .idx rfl aq ?_
  refine .eq rfl ?_
  refine .ret ⟨fun m hm=> ?_,fun m hm=> ?_⟩
  ·exact FZ _ aO _ (aW _) m hm
  ·rw [hb,Bool.true_and]; exact FZ _ aO _ (aW _) m hm
 ·refine .ret ⟨fun m hm=> ?_,fun m hm=> ?_⟩
  ·exact FZ _ aO _ (aW _) m hm
  ·simp [hb]
 ·refine .ret ⟨fun h=> ?_,fun _=>ao⟩
  rw [hm] at h; cases h
def cell (val mask:Vector aw 4) (i:Nat):BitVec 8:=if bj mask i then(if bj val i then 1#8 else 0#8) else 2#8
theorem Ti (val mask:Vector aw 4):a6 (yq val mask) (fun r=> ∀ i,i < 512→bd r i=cell val mask i):=by
 unfold yq
 refine a6.loop 4 (fun k s=>s.1=k∧ ∀ i,i < 512→bd s.2 i=if i < 128 * k then cell val mask i else 0#8) (by omega)
  ⟨rfl,fun j aF=>by rw [rZ]; rfl⟩ (fun k s aq aj=> ?_) (fun s aj=> ?_)
 ·obtain⟨i,v⟩:=s; obtain⟨J,ab⟩:=aj
  simp only at J ab; subst J
  refine a6.cond (fun _=> ?_) (fun h=>by simp at h; omega)
  refine .idx rfl aq ((Me _).bind fun a a9=> .idx rfl aq ((Me _).bind fun b hb=> ?_))
  refine a6.loop 128 (fun q s=>s.1=q∧ ∀ i,i < 512→bd s.2 i=if i < 128 * k then cell val mask i else if i < 128 * k + 128∧128 * k + 127 - i < q then cell val mask i else 0#8) (by omega)
   ⟨rfl,fun i aj=> ?_⟩ (fun q s hq aj=> ?_) (fun s aj=> ?_)
  ·rw [ab i aj]; split
   ·rfl
   ·rw [if_neg (by omega)]
  ·obtain⟨i,u⟩:=s; obtain⟨aE,aW⟩:=aj
   simp only at aE aW; subst aE
   refine a6.cond (fun _=> ?_) (fun h=>by simp at h; omega)
   have hp:bm ((bm ((bm (128 * (k:Int))) + 127)) - (q:Int))=((128 * k + 127 - q:Nat):Int):=by
    rw [gC (x:=128 * (k:Int)) (by omega) (by omega),gC (x:=128 * (k:Int) + 127) (by omega) (by omega),gC (by omega) (by omega)]; omega
   have cv:128 * k + 127 - q < 512:=by omega
   have ao:cell val mask (128 * k + 127 - q)=if bd b q then(if bd a q then 1#8 else 0#8) else 2#8:=by
    unfold cell bj
    rw [a9 q hq,hb q hq,show(128 * k + 127 - q) / 128=k by omega,show 127 - (128 * k + 127 - q) % 128=q by omega]
   have hu:bd u (128 * k + 127 - q)=0#8:=by rw [aW _ cv,if_neg (by omega),if_neg (by omega)]
   refine .idx rfl hq (.bind (P:=fun w=> ∀ i,i < 512→bd w i=if i=128 * k + 127 - q then cell val mask i else bd u i) ?_ fun w hw=> .ret ⟨dz (by omega),fun i aj=> ?_⟩)
   ·refine .cond (fun h=> .idx hp cv (.ret fun i aj=> ?_)) (fun h=> .idx rfl hq (.bind (P:=fun w=> ∀ i,i < 512→bd w i=if i=128 * k + 127 - q then cell val mask i else bd u i) (.cond (fun cR=> .idx hp cv (.ret fun i aj=> ?_)) (fun cR=> .ret fun i aj=> ?_)) fun w hw=> .ret hw))
    ·rw [eK _ _ cv]
     split
     ·rename_i he; subst he; simp at h; simp [ao,h]
     ·rfl
    ·rw [eK _ _ cv]
     split
     ·rename_i he; subst he; simp at h; simp [ao,h,cR]
     ·rfl
    ·split
     ·rename_i he; subst he; simp at h; simp [ao,h,cR,hu]
     ·rfl
   ·rw [hw i aj]
    by_cases he:i=128 * k + 127 - q
    ·rw [if_pos he,if_neg (by omega),if_pos (by omega)]
    ·rw [if_neg he,aW i aj]
     by_cases p7:i < 128 * k
     ·rw [if_pos p7,if_pos p7]
     ·rw [if_neg p7,if_neg p7]
      by_cases Ab:i < 128 * k + 128∧128 * k + 127 - i < q
      ·rw [if_pos Ab,if_pos (by omega)]
      ·rw [if_neg Ab,if_neg (by omega)]
  ·obtain⟨i,u⟩:=s; obtain⟨aE,aW⟩:=aj
   simp only at aE aW; subst aE
   refine⟨_,rfl,.ret ⟨dz (by omega),fun i aj=> ?_⟩⟩
   rw [aW i aj]
   by_cases p7:i < 128 * k
   ·rw [if_pos p7,if_pos (by omega)]
   ·rw [if_neg p7]
    by_cases Ab:i < 128 * k + 128
    ·rw [if_pos (by omega),if_pos (by omega)]
    ·rw [if_neg (by omega),if_neg (by omega)]
 ·obtain⟨i,v⟩:=s; obtain⟨J,ab⟩:=aj
  simp only at J ab; subst J
  refine⟨_,rfl,.ret fun i aj=> ?_⟩
  rw [ab i aj,if_pos (by omega)]
end Go.Proofs.YtmnggbjcnoffeaaGreat
namespace Go.Proofs.YtmnggbjcnoffeaaGreat
open Go Gv
set_option linter.unusedVariables false
set_option linter.unusedSimpArgs false
set_option maxRecDepth 100000
theorem yx {f:aw→aw→Option aw} {g:Bool→Bool→Bool} (a7:∀ x y,a6 (f x y) (fun r=> ∀ j,j < 128→bV r j=g (bV x j) (bV y j))) (a b:Vector aw 4):
 a6 (qp a b f) (fun r=> ∀ i,i < 512→bj r i=g (bj a i) (bj b i)):=by
 unfold qp
 refine a6.loop 4 (fun k s=>s.1=k∧ ∀ j,j < 4→ ∀ i,i < 128→bV (bd s.2 j) i=if j < k then g (bV (bd a j) i) (bV (bd b j) i) else bV (bd a j) i) (by omega)
  ⟨rfl,fun j aF i aj=>by simp⟩ (fun k s aq aj=> ?_) (fun s aj=> ?_)
 ·obtain⟨i,v⟩:=s; obtain⟨J,ab⟩:=aj
  simp only at J ab; subst J
  refine a6.cond (fun _=> ?_) (fun h=>by simp at h; omega)
  refine .idx rfl aq (.idx rfl aq ((a7 _ _).bind fun y a4=> .idx rfl aq (.ret ⟨dz (by omega),fun j aF i aj=> ?_⟩)))
  simp only [eK _ _ aq]
  by_cases lL:j=k
  ·subst lL; rw [if_pos rfl,if_pos (by omega),a4 i aj,ab j aF i aj,if_neg (by omega)]
  ·rw [if_neg lL,ab j aF i aj]
   have aW:(j < k + 1)↔j < k:=by omega
   simp [aW]
 ·obtain⟨i,v⟩:=s; obtain⟨J,ab⟩:=aj
  simp only at J ab; subst J
  refine⟨_,rfl,.ret fun m hm=> ?_⟩
  unfold bj
  rw [ab _ (by omega) _ (by omega),if_pos (by omega)]
theorem tO (x y:aw):a6 (nk x y) (fun r=> ∀ j,j < 128→bV r j=(bV x j && bV y j)):=⟨_,and_eq x y,fun j _=>FX x y j⟩
theorem ua (x y:aw):a6 (nm x y) (fun r=> ∀ j,j < 128→bV r j=(bV x j || bV y j)):=⟨_,or_eq x y,fun j _=>M4 x y j⟩
theorem Cz (x y:aw):a6 (r3 x y) (fun r=> ∀ j,j < 128→bV r j=(bV x j ^^ bV y j)):=⟨_,xor_eq x y,fun j _=>UH x y j⟩
theorem CA (n:Int):a6 (rX n) (fun r=> ∀ j,j < 128→bV r j=decide ((j:Int) < n)):=by
 unfold rX vI
 refine .eq rfl (.eq rfl ?_)
 have hm:bm (128 - min (max 0 n) 128)=((128 - min (max 0 n) 128).toNat:Int):=by rw [gC (by omega) (by omega)]; omega
 rw [hm]
 refine(LC _ _ (by omega)).bind fun r aQ=> .ret fun j aF=> ?_
 rw [aQ j aF]
 have ix:∀ i,bV { dS:=18446744073709551615#64,b7:=18446744073709551615#64 } i=decide (i < 128):=by
  intro i
  have bo:(18446744073709551615#64)=BitVec.allOnes 64:=by rfl
  unfold bV
  simp only [bo,BitVec.getLsbD_allOnes]
  by_cases h:i < 64
  ·simp [h]; omega
  ·simp [h]; omega
 rw [ix,decide_eq_decide]; omega
theorem M6 (x:aw):a6 (vT x 128) (fun r=> ∀ j,j < 128→bV r j= !bV x j):=by
 unfold vT
 refine(CA 128).bind fun a a9=> .eq (and_eq _ _) (.ret fun j aF=> ?_)
 rw [FX,a9 j aF]
 have:((j:Int) < 128):=by omega
 unfold bV
 by_cases h:j < 64
 ·simp [h,this]
 ·simp [h,this]; omega
def can (c:a1):Prop:= ∀ i,i < 512→bj c.bW i=true→bj c.bR i=true
theorem Cc (i:Nat):bj default i=false:=by unfold bj; rw [rZ]; exact qG _
theorem eq_zero_iff {w:Vector aw 4} :w=default↔ ∀ i,i < 512→bj w i=false:=
 ⟨fun h i _=>by rw [h]; exact Cc i,fun h=>wA fun i aj=>by rw [h i aj,Cc]⟩
def q0 (x y:a1):Prop:= ∀ i,i < 512→bj x.bR i=true→bj y.bR i=true→bj x.bW i=bj y.bW i
theorem Mf (x y:a1):a6 (vR x y) (fun r=>(r.2=true↔q0 x y)∧ (r.2=false→r.1=default)∧
 (r.2=true→ (∀ i,i < 512→bj r.1.bW i=(bj x.bW i || bj y.bW i))∧ ∀ i,i < 512→bj r.1.bR i=(bj x.bR i || bj y.bR i))):=by
 unfold vR
 refine(yx tO _ _).bind fun aD J=>(yx Cz _ _).bind fun aM ab=>(yx tO _ _).bind fun a8 aE=> ?_
 have key:a8=default↔q0 x y:=by
  rw [eq_zero_iff]
  constructor
  ·intro h i aj an a4
   have:=h i aj
   rw [aE i aj,J i aj,ab i aj,an,a4] at this
   simpa using this
  ·intro h i aj
   rw [aE i aj,J i aj,ab i aj]
   cases an:bj x.bR i
   ·simp
   ·cases a4:bj y.bR i
    ·simp
    ·simp [h i aj an a4]
 refine .cond (fun h=> .ret ?_) (fun h=> ?_)
 ·have: ¬ q0 x y:=fun a9=>by rw [key.2 a9] at h; simp at h
  simp [this]
 ·have a9:q0 x y:=key.1 (by simpa using h)
  exact(yx ua _ _).bind fun br aW=>(yx ua _ _).bind fun cj aX=> .ret (by simp [a9]; exact⟨aW,aX⟩)
def gQ (c:a1) (q:Vector aw 4):Bool:=decide (∀ i:Fin 512,(bj q i.1 && bj c.bR i.1)=bj c.bW i.1)
theorem F0 {c:a1} {q:Vector aw 4} :gQ c q=true↔ ∀ i,i < 512→ (bj q i && bj c.bR i)=bj c.bW i:=by
 unfold gQ
 rw [decide_eq_true_iff]
 exact⟨fun h i aj=>h ⟨i,aj⟩,fun h i=>h i.1 i.2⟩
theorem Vq {c d:a1} {q:Vector aw 4} {k:Nat} {b:Bool} (aq:k < 512) (J:bj c.bR k=false) (ab:bj c.bW k=false)
 (hm:∀ m,m < 512→bj d.bR m=(bj c.bR m || decide (m=k))) (a3:∀ m,m < 512→bj d.bW m=(bj c.bW m || (b && decide (m=k)))):gQ d q=(gQ c q && (bj q k ==b)):=by
 rw [Bool.eq_iff_iff,Bool.and_eq_true,F0,F0,beq_iff_eq]
 constructor
 ·intro h
  refine⟨fun i aj=> ?_,?_⟩
  ·by_cases e4:i=k
   ·subst e4; simp [J,ab]
   ·have:=h i aj
    rw [hm i aj,a3 i aj] at this
    simpa [e4] using this
  ·have:=h k aq
   rw [hm k aq,a3 k aq] at this
   simpa [J,ab] using this
 ·rintro ⟨h,hq⟩ i aj
  rw [hm i aj,a3 i aj]
  by_cases e4:i=k
  ·subst e4; simp [ab,hq]
  ·simpa [e4] using h i aj
end Go.Proofs.YtmnggbjcnoffeaaGreat
namespace Go.Proofs.YtmnggbjcnoffeaaGreat
open Go Gv
set_option linter.unusedVariables false
set_option linter.unusedSimpArgs false
set_option maxRecDepth 100000
def val (w:Nat):Nat→ (Nat→Nat)→Nat
 | 0,_=>0
 | n + 1,d=>d 0 + 2 ^ w * val w n (fun k=>d (k + 1))
theorem TT {w n:Nat} {d:Nat→Nat} :val w (n + 1) d=val w n d + 2 ^ (w * n) * d n:=by
 induction n generalizing d with
 | zero=>simp [val]
 | succ n bO=>
   rw [val,bO,val,Nat.mul_add,← Nat.mul_assoc,← Nat.pow_add,show w + w * n=w * (n + 1) by rw [Nat.mul_add]; omega]
   omega
def pt (n:Nat) (p:Nat→Bool):Nat:=val 0 n (fun i=>(p i).toNat)
theorem yN {n:Nat} {p:Nat→Bool} :pt (n + 1) p=pt n p + (p n).toNat:=by unfold pt; rw [TT]; simp
theorem Gr {n:Nat} {p:Nat→Bool} :pt n p≤n:=by
 induction n with
 | zero=>simp [pt,val]
 | succ n bO=>rw [yN]; have:=Bool.toNat_le (p n); omega
end Go.Proofs.YtmnggbjcnoffeaaGreat
namespace Go.Proofs.YtmnggbjcnoffeaaGreat
open Go Gv
set_option linter.unusedVariables false
set_option linter.unusedSimpArgs false
set_option maxRecDepth 100000
end Go.Proofs.YtmnggbjcnoffeaaGreat
namespace Go.Proofs.YtmnggbjcnoffeaaGreat
open Go Gv
set_option linter.unusedVariables false
set_option linter.unusedSimpArgs false
set_option maxRecDepth 100000
end Go.Proofs.YtmnggbjcnoffeaaGreat
namespace Go.Proofs.YtmnggbjcnoffeaaGreat
open Go Gv
set_option linter.unusedVariables false
set_option linter.unusedSimpArgs false
set_option maxRecDepth 100000
theorem SO (p r:Vector (BitVec 8) 512):a6 (yo p r) (fun o=>(o.2=true↔ ∀ i,i < 512→bd p i=2#8∨bd r i=2#8∨bd p i=bd r i)∧
 (o.2=true→ ∀ i,i < 512→bd o.1 i=if bd p i=2#8 then bd r i else bd p i)):=by
 unfold yo
 refine a6.loop 512 (fun k s=>s.1=k∧ (∀ i,i < 512→bd s.2 i=if i < k∧bd p i=2#8 then bd r i else bd p i)∧ ∀ i,i < k→bd p i=2#8∨bd r i=2#8∨bd p i=bd r i) (by omega)
  ⟨rfl,fun i aj=>by simp,fun i aj=>by omega⟩ (fun k s aq aj=> ?_) (fun s aj=> ?_)
 ·obtain⟨i,v⟩:=s; obtain⟨J,ab,aE⟩:=aj
  simp only at J ab aE; subst J
  have a3:bd v k=bd p k:=by rw [ab k aq,if_neg (by omega)]
  refine a6.cond (fun _=> ?_) (fun h=>by simp at h; omega)
  refine .idx rfl aq (.cond (fun h=> ?_) (fun h=> ?_))
  ·have hp:bd p k=2#8:=by simpa [a3] using h
   refine .idx rfl aq (.idx rfl aq (.ret ⟨dz (by omega),fun i aj=> ?_,fun i aj=> ?_⟩))
   ·simp only [eK _ _ aq]
    by_cases e4:i=k
    ·subst e4; simp [hp]
    ·rw [if_neg e4,ab i aj]
     have:(i < k + 1)↔i < k:=by omega
     simp [this]
   ·by_cases e4:i=k
    ·subst e4; exact .inl hp
    ·exact aE i (by omega)
  ·have hp:bd p k≠2#8:=by simpa [a3] using h
   refine .idx rfl aq (.cX (P:=fun q=>q=k) (fun _=>⟨k,lD aq,rfl⟩) fun dA aX=> .cX (P:=fun q=>q=k) (fun _=>⟨k,lD aq,rfl⟩) fun eM bk=> .cond (fun h=> .ret (.ret ?_)) (fun h=> .ret ⟨dz (by omega),fun i aj=> ?_,fun i aj=> ?_⟩))
   ·simp only [Bool.and_eq_true] at h
    rw [aX h.1,bk h.1] at h
    have a9:bd r k≠2#8:=by simpa using h.1
    have hb:bd p k≠bd r k:=by simpa [a3] using h.2
    refine⟨⟨fun h=>(by cases h),fun ix=> ?_⟩,fun h=>(by cases h)⟩
    rcases ix k aq with h | h | h
    ·exact absurd h hp
    ·exact absurd h a9
    ·exact absurd h hb
   ·rw [ab i aj]
    by_cases e4:i=k
    ·subst e4; simp [hp]
    ·have:(i < k + 1)↔i < k:=by omega
     simp [this]
   ·by_cases e4:i=k
    ·subst e4
     by_cases aQ:bd r i=2#8
     ·exact .inr (.inl aQ)
     ·refine .inr (.inr ?_)
      have jc:(bd r i !=2#8)=true:=by simpa using aQ
      rw [aX jc,bk jc,jc,a3] at h
      simpa using h
    ·exact aE i (by omega)
 ·obtain⟨i,v⟩:=s; obtain⟨J,ab,aE⟩:=aj
  simp only at J ab aE; subst J
  refine⟨_,rfl,.ret ⟨⟨fun _=>aE,fun _=>rfl⟩,fun _ i aj=> ?_⟩⟩
  rw [ab i aj]; simp [aj]
theorem Sf (p r:Vector (BitVec 8) 512):a6 (ye p r) (fun o=>o=true↔ ∀ i,i < 512→bd r i=2#8∨bd p i=bd r i):=by
 unfold ye
 refine a6.loop 512 (fun k s=>s=k∧ ∀ i,i < k→bd r i=2#8∨bd p i=bd r i) (by omega)
  ⟨rfl,fun i aj=>by omega⟩ (fun k s aq aj=> ?_) (fun s aj=> ?_)
 ·obtain⟨J,aE⟩:=aj
  subst J
  refine a6.cond (fun _=> ?_) (fun h=>by simp at h; omega)
  refine .idx rfl aq (.cX (P:=fun q=>q=k) (fun _=>⟨k,lD aq,rfl⟩) fun dA aX=> .cX (P:=fun q=>q=k) (fun _=>⟨k,lD aq,rfl⟩) fun eM bk=> .cond (fun h=> .ret (.ret ?_)) (fun h=> .ret ⟨dz (by omega),fun i aj=> ?_⟩))
  ·simp only [Bool.and_eq_true] at h
   rw [aX h.1,bk h.1] at h
   have a9:bd r k≠2#8:=by simpa using h.1
   have hb:bd p k≠bd r k:=by simpa using h.2
   refine⟨fun h=>(by cases h),fun ix=> ?_⟩
   rcases ix k aq with h | h
   ·exact absurd h a9
   ·exact absurd h hb
  ·by_cases e4:i=k
   ·subst e4
    by_cases aQ:bd r i=2#8
    ·exact .inl aQ
    ·refine .inr ?_
     have jc:(bd r i !=2#8)=true:=by simpa using aQ
     rw [aX jc,bk jc,jc] at h
     simpa using h
   ·exact aE i (by omega)
 ·obtain⟨J,aE⟩:=aj
  subst J
  exact⟨_,rfl,.ret ⟨fun _=>aE,fun _=>rfl⟩⟩
theorem Tj (x y:a1) (an:can x) (a4:can y):a6 (yl x y) (fun r=>r=true↔ ∀ i,i < 512→bj y.bR i=true→bj x.bR i=true∧bj x.bW i=bj y.bW i):=by
 unfold yl
 refine(Mf x y).bind fun m ⟨J,ab,aE⟩=> .ret ?_
 rw [Bool.and_eq_true,decide_eq_true_iff]
 constructor
 ·rintro ⟨cc,he⟩ i aj hm
  obtain⟨aW,aX⟩:=aE cc
  rw [he] at aW aX
  have AF:bj x.bR i=true:=by rw [aX i aj,hm]; simp
  exact⟨AF,J.1 cc i aj AF hm⟩
 ·intro h
  have a9:q0 x y:=fun i aj _ hm=>(h i aj hm).2
  have cc:=J.2 a9
  obtain⟨aW,aX⟩:=aE cc
  refine⟨cc,?_⟩
  have ay:m.1.bW=x.bW:=wA fun i aj=>by
   rw [aW i aj]
   cases a3:bj y.bW i
   ·simp
   ·simp [(h i aj (a4 i aj a3)).2,a3]
  have aS:m.1.bR=x.bR:=wA fun i aj=>by
   rw [aX i aj]
   cases a3:bj y.bR i
   ·simp
   ·simp [(h i aj a3).1]
  cases hm:m.1; cases x; simp_all
end Go.Proofs.YtmnggbjcnoffeaaGreat
namespace Go.Proofs.YtmnggbjcnoffeaaGreat
open Go Gv
set_option linter.unusedVariables false
set_option linter.unusedSimpArgs false
set_option maxRecDepth 100000
def p1:List Int:= [16,16,8,4,4,8,32,12,4]
theorem de.rA {s:a0} (h:de s) {k:Nat} (aq:k < 9):(aB s.fg k).bU=(k:Int) + 1∧ (aB s.fg k).e7=aB p1 k:=by
 have J:=qz zw (l:=s.fg) (k:=k) (by rw [h.p0]; exact aq)
 rw [h.fields] at J
 have ab:aB HD k=((k:Int) + 1,aB p1 k):=by
  have:k=0∨k=1∨k=2∨k=3∨k=4∨k=5∨k=6∨k=7∨k=8:=by omega
  rcases this with rfl | rfl | rfl | rfl | rfl | rfl | rfl | rfl | rfl <;> rfl
 rw [ab] at J
 simp only [zw,Prod.mk.injEq] at J
 exact⟨J.1.symm,J.2.symm⟩
def sM:List (List Int):= [[],[],[16],[4],[4,12],[]]
theorem de.act {s:a0} (h:de s) {k:Nat} (aq:k < 6):(aB s.di k).bU=(k:Int) + 1∧ (aB s.di k).jS.map (·.e7)=aB sM k:=by
 have J:=qz o2 (l:=s.di) (k:=k) (by rw [h.HE]; exact aq)
 rw [h.FW] at J
 have ab:aB w1 k=((k:Int) + 1,aB sM k):=by
  have:k=0∨k=1∨k=2∨k=3∨k=4∨k=5:=by omega
  rcases this with rfl | rfl | rfl | rfl | rfl | rfl <;> rfl
 rw [ab] at J
 simp only [o2,Prod.mk.injEq] at J
 exact⟨J.1.symm,J.2.symm⟩
def k1 (key:cJ):Prop:= ∃ j:Nat,j < 9∧key.gn=(j:Int) + 1∧1≤key.cS∧key.cS≤4∧4≤aB p1 j∧aB p1 j≤32∧ (key.cS=2→j=6)
def lV (key:cJ):Int:=aB p1 (key.gn - 1).toNat
theorem de.jd {s:a0} (h:de s) {k:Nat} (aq:k < 4):(aB s.bB k).bU=(k:Int) + 1∧
 (1≤ (aB s.bB k).bQ.length∧ (aB s.bB k).bQ.length≤3)∧ (∀ key∈ (aB s.bB k).bQ,k1 key)∧
 (1≤ (aB s.bB k).di.length∧ (aB s.bB k).di.length≤5)∧ (∀ a∈ (aB s.bB k).di,1≤a∧a≤6):=by
 obtain⟨e6,gy,hU,cc⟩:=h.tables
 have J:=qz m1 (l:=s.bB) (k:=k) (by rw [h.js]; exact aq)
 rw [cc] at J
 have ab:∀ p:Int × List Int × List cJ,p=m1 (aB s.bB k)→p.1=(k:Int) + 1→ (1≤p.2.2.length∧p.2.2.length≤3)→ (∀ key∈p.2.2,k1 key)→
  (1≤p.2.1.length∧p.2.1.length≤5)→ (∀ a∈p.2.1,1≤a∧a≤6)→ (aB s.bB k).bU=(k:Int) + 1∧
  (1≤ (aB s.bB k).bQ.length∧ (aB s.bB k).bQ.length≤3)∧ (∀ key∈ (aB s.bB k).bQ,k1 key)∧
  (1≤ (aB s.bB k).di.length∧ (aB s.bB k).di.length≤5)∧ (∀ a∈ (aB s.bB k).di,1≤a∧a≤6):=by
  rintro p rfl a b c d e
  exact⟨a,b,c,d,e⟩
 have fT:(1≤ ([1,2,4]:List Int).length∧ ([1,2,4]:List Int).length≤5)∧ ∀ a∈ ([1,2,4]:List Int),1≤a∧a≤6:=by decide
 have eL:(1≤ ([1,2,3,4]:List Int).length∧ ([1,2,3,4]:List Int).length≤5)∧ ∀ a∈ ([1,2,3,4]:List Int),1≤a∧a≤6:=by decide
 have eR:(1≤ ([1,2,3,5,6]:List Int).length∧ ([1,2,3,5,6]:List Int).length≤5)∧ ∀ a∈ ([1,2,3,5,6]:List Int),1≤a∧a≤6:=by decide
 have kd:(1≤ ([1,3,5]:List Int).length∧ ([1,3,5]:List Int).length≤5)∧ ∀ a∈ ([1,3,5]:List Int),1≤a∧a≤6:=by decide
 have Xr:k1 ti:=⟨3,by decide,rfl,by decide,by decide,by decide,by decide,by decide⟩
 have M7:k1 AD:=⟨3,by decide,rfl,by decide,by decide,by decide,by decide,by decide⟩
 have Xs:k1 Jp:=⟨4,by decide,rfl,by decide,by decide,by decide,by decide,by decide⟩
 have Hc:k1 vc:=⟨6,by decide,rfl,by decide,by decide,by decide,by decide,by decide⟩
 have Xt:k1 Jo:=⟨2,by decide,rfl,by decide,by decide,by decide,by decide,by decide⟩
 have Og:k1 A6:=⟨5,by decide,rfl,by decide,by decide,by decide,by decide,by decide⟩
 have Oh:k1 A7:=⟨7,by decide,rfl,by decide,by decide,by decide,by decide,by decide⟩
 have Xu:k1 Jq:=⟨8,by decide,rfl,by decide,by decide,by decide,by decide,by decide⟩
 have:k=0∨k=1∨k=2∨k=3:=by omega
 rcases this with rfl | rfl | rfl | rfl
 ·refine ab _ J rfl (show 1≤ [ti].length∧ [ti].length≤3 by decide) ?_ fT.1 fT.2
  intro key hG
  rcases List.mem_singleton.1 hG with rfl
  exact Xr
 ·refine ab _ J rfl ?_ ?_ eL.1 eL.2
  ·show 1≤ (sC e6).length∧ (sC e6).length≤3
   cases e6 <;> decide
  ·intro key hG
   replace hG:key∈sC e6:=hG
   cases e6 <;> simp only [sC,List.mem_cons,List.not_mem_nil,or_false,if_true,if_false,Bool.false_eq_true] at hG
   ·subst hG; exact Hc
   ·rcases hG with rfl | rfl; exact Hc; exact Xt
 ·refine ab _ J rfl ?_ ?_ eR.1 eR.2
  ·show 1≤ (uv gy).length∧ (uv gy).length≤3
   cases gy <;> decide
  ·intro key hG
   replace hG:key∈uv gy:=hG
   cases gy <;> simp only [uv,List.mem_cons,List.not_mem_nil,or_false,if_true,if_false,Bool.false_eq_true] at hG
   ·rcases hG with rfl | rfl; exact Og; exact M7
   ·rcases hG with rfl | rfl | rfl; exact Og; exact M7; exact Xs
 ·refine ab _ J rfl ?_ ?_ kd.1 kd.2
  ·show 1≤ (uw hU).length∧ (uw hU).length≤3
   cases hU <;> decide
  ·intro key hG
   replace hG:key∈uw hU:=hG
   cases hU <;> simp only [uw,List.mem_cons,List.not_mem_nil,or_false,if_true,if_false,Bool.false_eq_true] at hG
   ·subst hG; exact Oh
   ·rcases hG with rfl | rfl | rfl; exact Oh; exact Xu; exact Hc
theorem SP {s:a0} (h:de s) {j:Nat} (aF:j < 9):a6 (yf s ((j:Int) + 1)) (fun r=>r=aB p1 j):=by
 unfold yf
 have al:=h.p0
 refine a6.loop j (fun k s=>s=(k:Int)) (by omega) rfl (fun k i aq aj=> ?_) (fun i aj=> ?_)
 ·subst aj
  refine a6.cond (fun _=> ?_) (fun h=>by simp at h; omega)
  refine .idx rfl (by omega) (.cond (fun ao=> ?_) (fun ao=> .ret (dz (by omega))))
  have:=(h.rA (show k < 9 by omega)).1
  simp only [this,beq_iff_eq] at ao
  omega
 ·subst aj
  have J:decide ((j:Int) < (s.fg.length:Int))=true:=by simp; omega
  have ab:((aB s.fg j).bU ==(j:Int) + 1)=true:=by rw [(h.rA aF).1]; simp
  rw [J]
  simp only [cond_true]
  rw [lD (by omega)]
  simp only [Option.bind_some,ab,cond_true]
  exact⟨_,rfl,.ret (h.rA aF).2⟩
theorem St {s:a0} (h:de s) {j:Nat} (aF:j < 6):a6 (x1 s ((j:Int) + 1)) (fun r=>r=aB s.di j):=by
 unfold x1
 have al:=h.HE
 refine a6.loop j (fun k s=>s=(k:Int)) (by omega) rfl (fun k i aq aj=> ?_) (fun i aj=> ?_)
 ·subst aj
  refine a6.cond (fun _=> ?_) (fun h=>by simp at h; omega)
  refine .idx rfl (by omega) (.cond (fun ao=> ?_) (fun ao=> .ret (dz (by omega))))
  have:=(h.act (show k < 6 by omega)).1
  simp only [this,beq_iff_eq] at ao
  omega
 ·subst aj
  have J:decide ((j:Int) < (s.di.length:Int))=true:=by simp; omega
  have ab:((aB s.di j).bU ==(j:Int) + 1)=true:=by rw [(h.act aF).1]; simp
  rw [J]
  simp only [cond_true]
  rw [lD (by omega)]
  simp only [Option.bind_some,ab,cond_true]
  exact⟨_,rfl,.ret rfl⟩
theorem yO {n:Nat} (aO:n < 64) (j:Nat):(((1#64) <<< n) - 1#64).getLsbD j=decide (j < n):=by
 have J:(((1#64) <<< n) - 1#64).toNat=2 ^ n - 1:=by
  have ab:((1#64) <<< n).toNat=2 ^ n:=by
   rw [BitVec.toNat_shiftLeft,BitVec.toNat_ofNat,Nat.shiftLeft_eq]
   have:=Nat.pow_lt_pow_right (show 1 < 2 by omega) aO
   rw [show(1 % 2 ^ 64:Nat)=1 from rfl,Nat.one_mul]
   exact Nat.mod_eq_of_lt this
  have aE:1≤2 ^ n:=Nat.one_le_two_pow
  have aW:=Nat.pow_lt_pow_right (show 1 < 2 by omega) aO
  rw [BitVec.toNat_sub,ab]
  simp only [BitVec.toNat_ofNat]
  omega
 rw [← BitVec.testBit_toNat,J,Nat.testBit_two_pow_sub_one]
theorem Gs (x:aw) (n:Int) (bP:0≤n) (J:n < 1000):a6 (tA x n) (fun r=> ∀ j,j < 128→bV r j=(bV x j && decide ((j:Int) < n))):=by
 unfold tA
 obtain⟨m,rfl⟩:=Int.eq_ofNat_of_zero_le bP
 refine .cond (fun h=> .ret fun j aF=> ?_) fun h=> .cond (fun cR=> .eq rfl (.ret fun j aF=> ?_)) fun cR=> .cond (fun IK=> .ret fun j aF=> ?_) fun IK=> .eq rfl (.eq rfl (.ret fun j aF=> ?_))
 ·simp only [decide_eq_true_eq] at h
  have:decide ((j:Int) < (m:Int))=true:=by simp; omega
  rw [this,Bool.and_true]
 ·simp only [decide_eq_true_eq,decide_eq_false_iff_not] at h cR
  have e:bm ((m:Int) - 64)=((m - 64:Nat):Int):=by rw [gC (by omega) (by omega)]; omega
  simp only [bV,e,ml (show m - 64 < 2 ^ 64 by omega),BitVec.getLsbD_and,yO (show m - 64 < 64 by omega)]
  split
  ·have:decide ((j:Int) < (m:Int))=true:=by simp; omega
   rw [this,Bool.and_true]
  ·congr 1; rw [decide_eq_decide]; omega
 ·simp only [decide_eq_true_eq] at IK
  have:decide ((j:Int) < (m:Int))=false:=by simp; omega
  rw [qG,this,Bool.and_false]
 ·simp only [decide_eq_true_eq,decide_eq_false_iff_not] at h cR IK
  simp only [bV,ml (show m < 2 ^ 64 by omega),BitVec.getLsbD_and,yO (show m < 64 by omega)]
  split
  ·congr 1; rw [decide_eq_decide]; omega
  ·have:decide ((j:Int) < (m:Int))=false:=by simp; omega
   rw [this,Bool.and_false]; exact BitVec.getLsbD_zero
theorem Oi (w:BitVec 64) (j:Nat):bV { (default:aw) with b7:=w } j=w.getLsbD j:=by
 unfold bV
 split
 ·rfl
 ·rw [BitVec.getLsbD_of_ge w j (by omega)]; exact BitVec.getLsbD_zero
structure o3 (kind b:Int) (m:cA):Prop where
 off:m.hV=false→m=default
 PE:kind=1→m.hV=true
 low:kind=1→ ∀ j,j < 128→bV m.bW j=true→ (j:Int) < b
 abc:kind=3→ ∀ j,j < 128→bV m.bR j=true→ (j:Int) < b
 abd:kind=3→ ∀ j,j < 128→bV m.bW j=true→bV m.bR j=true
 pre:0≤m.gV∧m.gV≤32
 PF:kind=2→m.hV=true→1≤m.gV
 PG:kind≠2→m.gV=0
 g7:kind≠3→m.bR=default
 abe:kind=3→m.hV=true→m.bR≠default
 nS:kind=4→m.hV=true→m.bW.dS=m.oX.dS∧m.bW.b7≤m.oX.b7
 IL:kind=2→ ∀ j,j < 128→bV m.bW j=true→32 - m.gV≤ (j:Int)∧j < 32
 D4:kind≠4→m.oX=default
theorem Dy:(0:Int)≤0∧ (0:Int)≤32:=⟨Int.le_refl 0,by decide⟩
theorem Fi {kind b:Int} (h:kind≠1):o3 kind b default:=
 ⟨fun _=>rfl,fun k=>absurd k h,fun k=>absurd k h,fun _ j _ a3=>(by rw [show(default:cA).bR=default from rfl,qG] at a3; cases a3),
  fun _ j _ a3=>(by rw [show(default:cA).bW=default from rfl,qG] at a3; cases a3),
  Dy,fun _ k=>(by cases k),fun _=>rfl,fun _=>rfl,fun _ k=>(by cases k),fun _ k=>(by cases k),
  fun _ j _ a3=>(by rw [show(default:cA).bW=default from rfl,qG] at a3; cases a3),fun _=>rfl⟩
theorem UJ {a x y:BitVec 64} (J:a≤x) (ab:a≤y):a≤uE x y:=by
 unfold uE; split <;> assumption
theorem UK {v:aw} {b c:Int} (hb:0≤b∧b≤32) (ao:0≤c∧c < 256) (a3:∀ j,j < 128→bV v j=true→ (j:Int) < b):
 v.dS=0#64∧v.b7≤uE (v.b7 + BitVec.ofInt 64 c) (((1#64) <<< (BitVec.ofInt 64 b).toNat) - (1#64)):=by
 have eE:v.dS=0#64:=by
  apply BitVec.eq_of_getLsbD_eq
  intro i aj
  have h:=a3 (64 + i) (by omega)
  unfold bV at h
  rw [if_neg (by omega),Nat.add_sub_cancel_left] at h
  rw [BitVec.getLsbD_zero]
  cases an:v.dS.getLsbD i
  ·rfl
  ·have:=h an; omega
 obtain⟨n,rfl⟩:=Int.eq_ofNat_of_zero_le hb.1
 have aO:n≤32:=by omega
 have IF:(BitVec.ofInt 64 (n:Int)).toNat=n:=ml (by omega)
 rw [IF]
 have Oj:v.b7≤ ((1#64) <<< n) - 1#64:=by
  have hand:v.b7 &&& (((1#64) <<< n) - 1#64)=v.b7:=by
   apply BitVec.eq_of_getLsbD_eq
   intro i aj
   rw [BitVec.getLsbD_and,yO (by omega)]
   have h:=a3 i (by omega)
   unfold bV at h
   rw [if_pos aj] at h
   cases an:v.b7.getLsbD i
   ·rfl
   ·have:=h an
    simp; omega
  rw [← hand]
  rw [BitVec.le_def,BitVec.toNat_and]
  exact Nat.and_le_right
 have th:(((1#64) <<< n) - 1#64).toNat < 2 ^ 33:=by
  have D5:(((1#64) <<< n) - 1#64) &&& (((1#64) <<< 32) - 1#64)=(((1#64) <<< n) - 1#64):=by
   apply BitVec.eq_of_getLsbD_eq
   intro i aj
   rw [BitVec.getLsbD_and,yO (by omega),yO (by omega)]
   simp; omega
  rw [← D5,BitVec.toNat_and]
  exact Nat.lt_of_le_of_lt Nat.and_le_right (by decide)
 refine⟨eE,UJ ?_ Oj⟩
 rw [BitVec.le_def] at Oj ⊢
 obtain⟨m,rfl⟩:=Int.eq_ofNat_of_zero_le ao.1
 rw [BitVec.toNat_add,ml (by omega),Nat.mod_eq_of_lt (by omega)]
 omega
theorem TU (x:BitVec 64) {n:Int} (J:1≤n) (ab:n≤32) {i:Nat} (aj:i < 128)
 (a3:bV { (default:aw) with b7:=x &&& ((((1#64) <<< (BitVec.ofInt 64 32).toNat) - (1#64)) - (((1#64) <<< (BitVec.ofInt 64 (bm (32 - n))).toNat) - (1#64))) } i=true):32 - n≤ (i:Int)∧i < 32:=by
 rw [Oi,BitVec.getLsbD_and,Bool.and_eq_true] at a3
 have aE:=a3.2
 obtain⟨k,aq⟩:=Int.eq_ofNat_of_zero_le (show 0≤32 - n by omega)
 have cD:k < 32:=by omega
 have e:bm (32 - n)=(k:Int):=by rw [aq,gC (by omega) (by omega)]
 rw [e,ml (by omega)] at aE
 have IM:i < 64:=by
  rcases Nat.lt_or_ge i 64 with h | h
  ·exact h
  ·rw [BitVec.getLsbD_of_ge _ i h] at aE; cases aE
 have key:∀ (k:Fin 32) (i:Fin 64),((((1#64) <<< (BitVec.ofInt 64 32).toNat) - (1#64)) - (((1#64) <<< k.1) - (1#64))).getLsbD i.1=true→k.1≤i.1∧i.1 < 32:=by decide +kernel
 have:=key ⟨k,cD⟩ ⟨i,IM⟩ aE
 simp only at this
 omega
theorem Tk (c:bI) {s:a0} (key:cJ) (ao:hF c) (h:de s) (aq:k1 key):
 a6 (xW c s key) (fun r=>hF r.2∧o3 key.cS (lV key) r.1):=by
 obtain⟨j,aF,a7,aV,du,Qg,Z3,cD⟩:=aq
 have hb:lV key=aB p1 j:=by unfold lV; rw [a7]; congr 1; omega
 unfold xW
 rw [a7]
 refine(SP h aF).bind fun aD ay=> ?_
 rw [hb]
 subst ay
 generalize g2:aB p1 j=b at *
 refine .bind (gB _ 256 ao (by omega)) fun aM ab=> .bind (gB _ 16 ab.1 (by omega)) fun a8 aE=> .eq rfl (.bind (gB _ 16 aE.1 (by omega)) fun br aW=> .eq rfl ?_)
 refine .bind (Gs _ b (by omega) (by omega)) fun cj aX=> ?_
 refine .cond (fun q=> ?_) fun q=> ?_
 ·have q:key.cS=2:=by simpa using q
  refine .bind (gB _ 5 aW.1 (by omega)) fun cM bk=> .cond (fun _=> ?_) fun _=> .ret ⟨bk.1,Fi (by omega)⟩
  refine .bind (gB _ b bk.1 (by omega)) fun dv cV=> .bind (gB _ 5 cV.1 (by omega)) fun eU eS=> ?_
  refine .eq (tM eS.2.1 (by simpa using eS.2.2.1)) ?_
  have mf:1≤aB [b,8,16,1,bm (1 + dv.1)] eU.1.toNat∧aB [b,8,16,1,bm (1 + dv.1)] eU.1.toNat≤32:=by
   have cv:eU.1.toNat < [b,8,16,1,bm (1 + dv.1)].length:=by have:=eS.2.1; have:=eS.2.2.1; simp; omega
   have hm:=List.getElem_mem cv
   rw [← dU _ cv] at hm
   have hw:bm (1 + dv.1)=1 + dv.1:=gC (by have:=cV.2.1; omega) (by have:=cV.2.2.1; omega)
   have:=cV.2.1; have:=cV.2.2.1
   simp only [List.mem_cons,List.not_mem_nil,or_false] at hm
   rcases hm with hm | hm | hm | hm | hm <;> rw [hm] <;> omega
  unfold BW
  refine .eq rfl (.eq rfl (.eq rfl (.ret ⟨eS.1,fun h=>(by cases h),fun h=>(by omega),fun h=>by omega,fun h=>(by omega),fun h=>(by omega),⟨by have:=mf.1; show 0≤aB _ _; omega,mf.2⟩,fun _ _=>mf.1,fun h=>absurd q h,fun _=>rfl,fun h=>(by omega),fun h=>(by omega),fun _ i aj a3=> ?_,fun _=>rfl⟩)))
  have D5:b=32:=by rw [← g2,cD q]; rfl
  rw [D5] at mf a3
  rw [D5]
  exact TU _ mf.1 mf.2 aj a3
 refine .cond (fun fS=> ?_) fun fS=> ?_
 ·have fS:key.cS=3:=by simpa using fS
  refine .bind (gB _ 256 aW.1 (by omega)) fun gP jK=> .bind (gB _ 5 jK.1 (by omega)) fun ik oH=> ?_
  refine .eq (tM oH.2.1 (by simpa using oH.2.2.1)) (.eq rfl (.bind (Gs _ b (by omega) (by omega)) fun iK AE=> ?_))
  refine .cond (fun IN=> ?_) fun _=> .ret ⟨oH.1,Fi (by omega)⟩
  refine .eq rfl (.eq rfl (.ret ⟨oH.1,fun h=>(by cases h),fun h=>(by omega),fun h=>by omega,fun _ i aj a3=> ?_,fun _ i aj a3=> ?_,Dy,fun h=>(by omega),fun _=>rfl,fun h=>absurd fS h,fun _ _ hd=> ?_,fun h=>(by omega),fun h=>(by omega),fun _=>rfl⟩))
  ·have rB:=AE i aj
   simp only at a3
   rw [a3] at rB
   have:=rB.symm
   simp only [Bool.and_eq_true,decide_eq_true_eq] at this
   exact this.2
  ·simp only at a3 ⊢
   rw [Oi,BitVec.getLsbD_and,Bool.and_eq_true] at a3
   have IM:i < 64:=by
    rcases Nat.lt_or_ge i 64 with h | h
    ·exact h
    ·rw [BitVec.getLsbD_of_ge _ i h] at a3; cases a3.1
   unfold bV; rw [if_pos IM]; exact a3.2
  ·have hd':iK=default:=hd
   rw [hd'] at IN; simp at IN
   exact IN rfl
 refine .cond (fun je=> ?_) fun je=> ?_
 ·have je:key.cS=4:=by simpa using je
  refine .bind (gB _ 256 aW.1 (by omega)) fun j2 rB=> .eq rfl (.bind (gB _ 5 rB.1 (by omega)) fun la D1=> .eq rfl (.cond (fun _=> ?_) fun _=> .ret ⟨D1.1,Fi (by omega)⟩))
  have Z4:=UK (v:=cj) (b:=b) (c:=j2.1) ⟨by omega,Z3⟩ ⟨rB.2.1,rB.2.2.1⟩ fun i aj a3=>by
   have D2:=aX i aj
   rw [a3] at D2
   have:=D2.symm
   simp only [Bool.and_eq_true,decide_eq_true_eq] at this
   exact this.2
  exact .eq rfl (.ret ⟨D1.1,fun h=>(by cases h),fun h=>(by omega),fun h=>by omega,fun h=>(by omega),fun h=>(by omega),Dy,fun h=>(by omega),fun _=>rfl,fun _=>rfl,fun h=>(by omega),fun _ _=>Z4,fun h=>(by omega),fun h=>absurd je h⟩)
 ·have az:key.cS=1:=by
   simp only [beq_eq_false_iff_ne] at q fS je
   omega
  refine .eq rfl (.ret ⟨aW.1,fun h=>(by cases h),fun _=>rfl,fun _ i aj a3=> ?_,fun h=>(by omega),fun h=>(by omega),Dy,fun h=>(by omega),fun _=>rfl,fun _=>rfl,fun h=>(by omega),fun h=>(by omega),fun h=>(by omega),fun _=>rfl⟩)
  have rB:=aX i aj
  simp only at a3
  rw [a3] at rB
  have:=rB.symm
  simp only [Bool.and_eq_true,decide_eq_true_eq] at this
  exact this.2
structure ie (s:a0) (k:Nat) (e:bL):Prop where
 jd:e.dJ=(k:Int) + 1
 len:e.cu.length=(aB s.bB k).bQ.length
 AG:∀ i,i < (aB s.bB k).bQ.length→o3 (aB (aB s.bB k).bQ i).cS (lV (aB (aB s.bB k).bQ i)) (aB e.cu i)
 args:e.mn.length≤10
 pri:(∀ i,i < (aB s.bB k).bQ.length→ (aB (aB s.bB k).bQ i).cS≤2)→e.g9=0
theorem Tl {α:Type} [Inhabited α] (l:List α) (x:α) (i:Nat):aB (l ++ [x]) i=if i=l.length then x else aB l i:=by
 unfold aB
 by_cases h:i=l.length
 ·subst h; simp
 ·rw [if_neg h]
  rcases Nat.lt_or_ge i l.length with J | J
  ·rw [List.getElem?_append_left J]
  ·rw [List.getElem?_eq_none (by simp; omega),List.getElem?_eq_none J]
theorem Tm (c:bI) {s:a0} (x:Int) (ao:hF c) (h:de s):
 a6 (xX c s x) (fun r=>hF r.2∧ ∃ k:Nat,k < 4∧r1 x (s.bB.length:Int)=some (k:Int)∧ie s k r.1):=by
 unfold xX
 obtain⟨aD,ay,bP,J⟩:=Md x (s.bB.length:Int) (by rw [h.js]; omega) (by rw [h.js]; omega)
 obtain⟨k,rfl⟩:=Int.eq_ofNat_of_zero_le bP
 have aq:k < 4:=by have:=h.js; omega
 obtain⟨t1,⟨t2,t3⟩,t4,⟨t5,t6⟩,t7⟩:=h.jd aq
 refine .eq ay (.idx rfl (by have:=h.js; omega) ?_)
 refine a6.loop (aB s.bB k).bQ.length (fun i st=>st.1=(i:Int)∧st.2.1.dJ=(k:Int) + 1∧st.2.2.1.length=i∧hF st.2.2.2∧
  (∀ j,j < i→o3 (aB (aB s.bB k).bQ j).cS (lV (aB (aB s.bB k).bQ j)) (aB st.2.2.1 j))∧ ((∀ j,j < i→ (aB (aB s.bB k).bQ j).cS≤2)→st.2.1.g9=0)) (by omega) ⟨rfl,t1,rfl,ao,fun j aF=>by omega,fun _=>rfl⟩ (fun i st aj hs=> ?_) (fun st hs=> ?_)
 ·obtain⟨pB,e,ms,A8⟩:=st; obtain⟨aS,cW,eh,gS,hC,qj⟩:=hs
  simp only at aS cW eh gS hC qj; subst aS
  refine a6.cond (fun _=> ?_) (fun h=>by simp at h; omega)
  refine .idx rfl aj (.bind (Tk _ _ gS h (t4 _ (by rw [dU _ aj]; exact List.getElem_mem aj))) fun aM ab=> .eq (iq _ _ (by simp; omega) (by omega)) (.eq rfl ?_))
  refine .bind (P:=fun m=>m.1.dJ=(k:Int) + 1∧hF m.2∧ ((aB (aB s.bB k).bQ i).cS≤2→m.1.g9=e.g9)) (.cond (fun dh=> .bind (gB _ 5 ab.1 (by omega)) fun br aW=> .eq rfl (.ret ⟨cW,aW.1,fun h=>by simp at dh; omega⟩)) (fun _=> .ret ⟨cW,ab.1,fun _=>rfl⟩)) fun bJ cB=> ?_
  refine .ret ⟨dz (by omega),cB.1,by simp; omega,cB.2.1,fun j aF=> ?_,fun h=> ?_⟩
  ·simp only [Tl]
   by_cases ku:j=ms.length
   ·rw [if_pos ku]; rw [ku,eh]; exact ab.2
   ·rw [if_neg ku]; exact hC j (by omega)
  ·exact(cB.2.2 (h i (by omega))).trans (qj fun j aF=>h j (by omega))
 ·obtain⟨pB,e,ms,A8⟩:=st; obtain⟨aS,cW,eh,gS,hC,qj⟩:=hs
  simp only at aS cW eh gS hC qj; subst aS
  refine⟨_,by simp; rfl,?_⟩
  refine .bind (gB _ _ gS (by omega)) fun cj aX=> ?_
  refine .eq (tM aX.2.1 aX.2.2.1) (.eq rfl ?_)
  have a9:1≤aB (aB s.bB k).di cj.1.toNat∧aB (aB s.bB k).di cj.1.toNat≤6:=t7 _ (by
   have cv:cj.1.toNat < (aB s.bB k).di.length:=by have:=aX.2.1; have:=aX.2.2.1; omega
   rw [dU _ cv]; exact List.getElem_mem cv)
  obtain⟨a,fL⟩:=Int.eq_ofNat_of_zero_le (show 0≤aB (aB s.bB k).di cj.1.toNat - 1 by omega)
  have Z5:aB (aB s.bB k).di cj.1.toNat=(a:Int) + 1:=by omega
  simp only [Z5]
  refine .bind (St h (show a < 6 by omega)) fun cM bk=> ?_
  obtain⟨bf,bw⟩:=h.act (show a < 6 by omega)
  rw [← bk] at bw
  have hp:cM.jS.length≤10∧ ∀ i,i < cM.jS.length→0≤ (aB cM.jS i).e7∧ (aB cM.jS i).e7 < 1000:=by
   have hq:∀ l∈sM,l.length≤10∧ ∀ b∈l,0≤b∧b < 1000:=by decide
   have hm:aB sM a∈sM:=by rw [dU sM (show a < sM.length by simp [sM]; omega)]; exact List.getElem_mem _
   obtain⟨az,ck⟩:=hq _ hm
   rw [← bw] at az ck
   refine⟨by simpa using az,fun i aj=>ck _ ?_⟩
   rw [dU _ aj]
   exact List.mem_map.2 ⟨_,List.getElem_mem aj,rfl⟩
  refine a6.loop cM.jS.length (fun i st=>st.1=(i:Int)∧st.2.1.dJ=(k:Int) + 1∧st.2.2.1.length=i∧hF st.2.2.2∧st.2.1.g9=e.g9) (by omega) ⟨rfl,cW,rfl,aX.1,rfl⟩ (fun i st aj hs=> ?_) (fun st hs=> ?_)
  ·obtain⟨pB,e',vs,Z6⟩:=st; obtain⟨f2,f3,f4,f5,f6⟩:=hs
   simp only at f2 f3 f4 f5 f6; subst f2
   refine a6.cond (fun _=> ?_) (fun h=>by simp at h; omega)
   refine .idx rfl aj (.bind (gB _ 256 f5 (by omega)) fun dv cV=> .eq rfl (.bind (Gs _ _ (hp.2 i aj).1 (hp.2 i aj).2) fun eU eS=> .eq (iq _ _ (by have:=hp.1; simp; omega) (by omega)) (.ret ⟨dz (by have:=hp.1; omega),f3,by simp; omega,cV.1,f6⟩)))
  ·obtain⟨pB,e',vs,Z6⟩:=st; obtain⟨f2,f3,f4,f5,f6⟩:=hs
   simp only at f2 f3 f4 f5 f6; subst f2
   refine⟨_,by simp; rfl,?_⟩
   exact .eq rfl (.ret ⟨f5,k,aq,ay,f3,eh,hC,by show vs.length≤10; have:=hp.1; omega,fun h=>f6.trans (qj h)⟩)
end Go.Proofs.YtmnggbjcnoffeaaGreat
namespace Go.Proofs.YtmnggbjcnoffeaaGreat
open Go Gv
set_option linter.unusedVariables false
set_option linter.unusedSimpArgs false
set_option maxRecDepth 100000
structure Xv (s:a0) (r:Vector (List Int) 6):Prop where
 fields:bd r 0=s.fg.map (·.bU)
 headers:bd r 1=s.lA.map (·.bU)
 M3:bd r 2=s.lW.map (·.bU)
 FW:bd r 3=s.di.map (·.bU)
 tables:bd r 4=s.bB.map (·.bU)
 Of:bd r 5=s.jl.map (·.bU)
theorem M8 {s:a0} (h:de s):a6 (vS s) (Xv s):=by
 unfold vS
 have xn:=h.p0; have Qc:=h.headers; have abC:=h.M3; have abD:=h.HE; have abE:=h.js; have abF:=h.Y1
 refine a6.loop s.fg.length (fun k st=>st.1=(k:Int)∧st.2.1=(s.fg.take k).map (·.bU)) (by omega) ⟨rfl,rfl⟩ (fun k st aq aj=> ?_) (fun st aj=> ?_)
 ·obtain⟨i,a,v⟩:=st; obtain⟨ay,aS⟩:=aj; simp only at ay aS; subst ay; subst aS
  refine a6.cond (fun _=> ?_) (fun h=>by simp at h; omega)
  exact .idx rfl aq (.eq (iq _ _ (by simp; omega) (by omega)) (.ret ⟨dz (by omega),by rw [pD _ aq,List.map_append]; rfl⟩))
 obtain⟨i,fT,v⟩:=st; obtain⟨ay,aS⟩:=aj; simp only at ay aS; subst ay; subst aS
 refine⟨_,by simp only [show decide ((s.fg.length:Int) < (s.fg.length:Int))=false by simp,cond_false]; rfl,?_⟩
 refine a6.loop s.lA.length (fun k st=>st.1=(k:Int)∧st.2.1=(s.lA.take k).map (·.bU)) (by omega) ⟨rfl,rfl⟩ (fun k st aq aj=> ?_) (fun st aj=> ?_)
 ·obtain⟨i,a,v⟩:=st; obtain⟨ay,aS⟩:=aj; simp only at ay aS; subst ay; subst aS
  refine a6.cond (fun _=> ?_) (fun h=>by simp at h; omega)
  exact .idx rfl aq (.eq (iq _ _ (by simp; omega) (by omega)) (.ret ⟨dz (by omega),by rw [pD _ aq,List.map_append]; rfl⟩))
 obtain⟨i,eL,v⟩:=st; obtain⟨ay,aS⟩:=aj; simp only at ay aS; subst ay; subst aS
 refine⟨_,by simp only [show decide ((s.lA.length:Int) < (s.lA.length:Int))=false by simp,cond_false]; rfl,?_⟩
 refine a6.loop s.lW.length (fun k st=>st.1=(k:Int)∧st.2.1=(s.lW.take k).map (·.bU)) (by omega) ⟨rfl,rfl⟩ (fun k st aq aj=> ?_) (fun st aj=> ?_)
 ·obtain⟨i,a,v⟩:=st; obtain⟨ay,aS⟩:=aj; simp only at ay aS; subst ay; subst aS
  refine a6.cond (fun _=> ?_) (fun h=>by simp at h; omega)
  exact .idx rfl aq (.eq (iq _ _ (by simp; omega) (by omega)) (.ret ⟨dz (by omega),by rw [pD _ aq,List.map_append]; rfl⟩))
 obtain⟨i,eR,v⟩:=st; obtain⟨ay,aS⟩:=aj; simp only at ay aS; subst ay; subst aS
 refine⟨_,by simp only [show decide ((s.lW.length:Int) < (s.lW.length:Int))=false by simp,cond_false]; rfl,?_⟩
 refine a6.loop s.di.length (fun k st=>st.1=(k:Int)∧st.2.1=(s.di.take k).map (·.bU)) (by omega) ⟨rfl,rfl⟩ (fun k st aq aj=> ?_) (fun st aj=> ?_)
 ·obtain⟨i,a,v⟩:=st; obtain⟨ay,aS⟩:=aj; simp only at ay aS; subst ay; subst aS
  refine a6.cond (fun _=> ?_) (fun h=>by simp at h; omega)
  exact .idx rfl aq (.eq (iq _ _ (by simp; omega) (by omega)) (.ret ⟨dz (by omega),by rw [pD _ aq,List.map_append]; rfl⟩))
 obtain⟨i,kd,v⟩:=st; obtain⟨ay,aS⟩:=aj; simp only at ay aS; subst ay; subst aS
 refine⟨_,by simp only [show decide ((s.di.length:Int) < (s.di.length:Int))=false by simp,cond_false]; rfl,?_⟩
 refine a6.loop s.bB.length (fun k st=>st.1=(k:Int)∧st.2.1=(s.bB.take k).map (·.bU)) (by omega) ⟨rfl,rfl⟩ (fun k st aq aj=> ?_) (fun st aj=> ?_)
 ·obtain⟨i,a,v⟩:=st; obtain⟨ay,aS⟩:=aj; simp only at ay aS; subst ay; subst aS
  refine a6.cond (fun _=> ?_) (fun h=>by simp at h; omega)
  exact .idx rfl aq (.eq (iq _ _ (by simp; omega) (by omega)) (.ret ⟨dz (by omega),by rw [pD _ aq,List.map_append]; rfl⟩))
 obtain⟨i,lR,v⟩:=st; obtain⟨ay,aS⟩:=aj; simp only at ay aS; subst ay; subst aS
 refine⟨_,by simp only [show decide ((s.bB.length:Int) < (s.bB.length:Int))=false by simp,cond_false]; rfl,?_⟩
 refine a6.loop s.jl.length (fun k st=>st.1=(k:Int)∧st.2.1=(s.jl.take k).map (·.bU)) (by omega) ⟨rfl,rfl⟩ (fun k st aq aj=> ?_) (fun st aj=> ?_)
 ·obtain⟨i,a,v⟩:=st; obtain⟨ay,aS⟩:=aj; simp only at ay aS; subst ay; subst aS
  refine a6.cond (fun _=> ?_) (fun h=>by simp at h; omega)
  exact .idx rfl aq (.eq (iq _ _ (by simp; omega) (by omega)) (.ret ⟨dz (by omega),by rw [pD _ aq,List.map_append]; rfl⟩))
 obtain⟨i,rL,v⟩:=st; obtain⟨ay,aS⟩:=aj; simp only at ay aS; subst ay; subst aS
 refine⟨_,by simp only [show decide ((s.jl.length:Int) < (s.jl.length:Int))=false by simp,cond_false]; rfl,?_⟩
 refine .eq rfl (.ret ⟨?_,?_,?_,?_,?_,?_⟩)
 ·simp only [List.take_length]
  rw [eK _ _ (by omega),if_neg (by omega),eK _ _ (by omega),if_neg (by omega),eK _ _ (by omega),if_neg (by omega),eK _ _ (by omega),if_neg (by omega),eK _ _ (by omega),if_neg (by omega),eK _ _ (by omega),if_pos rfl]
 ·simp only [List.take_length]
  rw [eK _ _ (by omega),if_neg (by omega),eK _ _ (by omega),if_neg (by omega),eK _ _ (by omega),if_neg (by omega),eK _ _ (by omega),if_neg (by omega),eK _ _ (by omega),if_pos rfl]
 ·simp only [List.take_length]
  rw [eK _ _ (by omega),if_neg (by omega),eK _ _ (by omega),if_neg (by omega),eK _ _ (by omega),if_neg (by omega),eK _ _ (by omega),if_pos rfl]
 ·simp only [List.take_length]
  rw [eK _ _ (by omega),if_neg (by omega),eK _ _ (by omega),if_neg (by omega),eK _ _ (by omega),if_pos rfl]
 ·simp only [List.take_length]
  rw [eK _ _ (by omega),if_neg (by omega),eK _ _ (by omega),if_pos rfl]
 ·simp only [List.take_length]
  rw [eK _ _ (by omega),if_pos rfl]
end Go.Proofs.YtmnggbjcnoffeaaGreat
namespace Go.Proofs.YtmnggbjcnoffeaaGreat
open Go Gv
set_option linter.unusedVariables false
set_option linter.unusedSimpArgs false
theorem Q8 {xs:List bX} {f:bX→Option Bool} {g:bX→Bool} (a7:∀ x∈xs,f x=some (g x)) (al:xs.length < 2 ^ 62):
 a6 (xu xs f) (fun r=>(r= -1∧ ∀ x∈xs,g x=false)∨ ∃ i:Nat,i < xs.length∧r=i∧g (aB xs i)=true∧ ∀ j,j < i→g (aB xs j)=false):=by
 unfold xu
 refine a6.loop xs.length (fun k s=>s=(k:Int)∧ ∀ j,j < k→g (aB xs j)=false) (by omega) ⟨rfl,fun j aF=>by omega⟩ (fun k s aq aj=> ?_) (fun s aj=> ?_)
 ·obtain⟨ay,aS⟩:=aj; subst ay
  refine a6.cond (fun _=> ?_) (fun h=>by simp at h; omega)
  refine .idx rfl aq (.eq (a7 _ (by rw [dU xs aq]; exact List.getElem_mem aq)) (.cond (fun h=> .ret ?_) (fun h=> .ret ⟨dz (by omega),fun j aF=> ?_⟩)))
  ·exact .ret (.inr ⟨k,aq,rfl,h,aS⟩)
  ·by_cases gw:j=k
   ·subst gw; exact h
   ·exact aS j (by omega)
 ·obtain⟨ay,aS⟩:=aj; subst ay
  refine⟨_,by simp; rfl,?_⟩
  refine .ret (.inl ⟨rfl,fun x an=> ?_⟩)
  obtain⟨j,aF,rfl⟩:=List.mem_iff_getElem.1 an
  rw [← dU xs aF]; exact aS j aF
end Go.Proofs.YtmnggbjcnoffeaaGreat
namespace Go.Proofs.YtmnggbjcnoffeaaGreat
open Go Gv
set_option linter.unusedVariables false
set_option linter.unusedSimpArgs false
theorem Q9 {xs:List fj} {f:fj→Option Bool} {g:fj→Bool} (a7:∀ x∈xs,f x=some (g x)) (al:xs.length < 2 ^ 62):
 a6 (xv xs f) (fun r=>(r= -1∧ ∀ x∈xs,g x=false)∨ ∃ i:Nat,i < xs.length∧r=i∧g (aB xs i)=true∧ ∀ j,j < i→g (aB xs j)=false):=by
 unfold xv
 refine a6.loop xs.length (fun k s=>s=(k:Int)∧ ∀ j,j < k→g (aB xs j)=false) (by omega) ⟨rfl,fun j aF=>by omega⟩ (fun k s aq aj=> ?_) (fun s aj=> ?_)
 ·obtain⟨ay,aS⟩:=aj; subst ay
  refine a6.cond (fun _=> ?_) (fun h=>by simp at h; omega)
  refine .idx rfl aq (.eq (a7 _ (by rw [dU xs aq]; exact List.getElem_mem aq)) (.cond (fun h=> .ret ?_) (fun h=> .ret ⟨dz (by omega),fun j aF=> ?_⟩)))
  ·exact .ret (.inr ⟨k,aq,rfl,h,aS⟩)
  ·by_cases gw:j=k
   ·subst gw; exact h
   ·exact aS j (by omega)
 ·obtain⟨ay,aS⟩:=aj; subst ay
  refine⟨_,by simp; rfl,?_⟩
  refine .ret (.inl ⟨rfl,fun x an=> ?_⟩)
  obtain⟨j,aF,rfl⟩:=List.mem_iff_getElem.1 an
  rw [← dU xs aF]; exact aS j aF
end Go.Proofs.YtmnggbjcnoffeaaGreat
namespace Go.Proofs.YtmnggbjcnoffeaaGreat
open Go Gv
set_option linter.unusedVariables false
set_option linter.unusedSimpArgs false
set_option maxRecDepth 100000
theorem B4 {s:a0} (h:de s) {k:Nat} (aq:k < 4):a6 (rT s ((k:Int) + 1)) (fun r=>r=(k:Int)):=by
 unfold rT
 refine(Q8 (g:=fun t=>t.bU ==(k:Int) + 1) (fun x an=>rfl) (by rw [h.js]; omega)).bind fun r aQ=> .ret ?_
 have cD:k < s.bB.length:=by rw [h.js]; exact aq
 rcases aQ with⟨_,aQ⟩ | ⟨i,J,ab,aE,aW⟩
 ·have:=aQ (aB s.bB k) (by rw [dU _ cD]; exact List.getElem_mem cD)
  simp only [(h.jd aq).1,beq_self_eq_true] at this; cases this
 ·have aX:=(h.jd (show i < 4 by have:=h.js; omega)).1
  simp only [aX,beq_iff_eq] at aE; omega
theorem Kv {s:a0} (h:de s) {k:Nat} (aq:k < 9):a6 (vy s ((k:Int) + 1)) (fun r=>r=(k:Int)):=by
 unfold vy
 refine(Q9 (g:=fun t=>t.bU ==(k:Int) + 1) (fun x an=>rfl) (by rw [h.p0]; omega)).bind fun r aQ=> .ret ?_
 have cD:k < s.fg.length:=by rw [h.p0]; exact aq
 rcases aQ with⟨_,aQ⟩ | ⟨i,J,ab,aE,aW⟩
 ·have:=aQ (aB s.fg k) (by rw [dU _ cD]; exact List.getElem_mem cD)
  simp only [(h.rA aq).1,beq_self_eq_true] at this; cases this
 ·have aX:=(h.rA (show i < 9 by have:=h.p0; omega)).1
  simp only [aX,beq_iff_eq] at aE; omega
theorem LF (l:List Int) {k:Nat} (aq:k < l.length) (al:l.length < 2 ^ 30) (h:∀ j,j < l.length→aB l j=(j:Int) + 1):a6 (vL l ((k:Int) + 1)) (fun r=>r=(k:Int)):=by
 unfold vL
 refine a6.loop k (fun j s=>s=(j:Int)) (by omega) rfl (fun j i aF aj=> ?_) (fun i aj=> ?_)
 ·subst aj
  refine a6.cond (fun _=> ?_) (fun h=>by simp at h; omega)
  refine .idx rfl (by omega) (.cond (fun ao=> ?_) (fun ao=> .ret (dz (by omega))))
  rw [h j (by omega),beq_iff_eq] at ao; omega
 ·subst aj
  have J:decide ((k:Int) < (l.length:Int))=true:=by simp; omega
  have ab:(aB l k ==(k:Int) + 1)=true:=by rw [h k aq]; simp
  rw [J]
  simp only [cond_true]
  rw [lD (by omega)]
  simp only [Option.bind_some,ab,cond_true]
  exact⟨_,rfl,.ret rfl⟩
theorem Kw {s:a0} (h:de s) {k:Nat} (aq:k < 4):a6 (vz s ((k:Int) + 1)) (fun r=>r=(k:Int)):=by
 unfold vz
 refine(M8 h).bind fun y a4=> ?_
 have al:=h.js
 rw [a4.tables]
 refine(LF _ (by simp; omega) (by simp; omega) fun j aF=> ?_).bind fun r aQ=> .ret aQ
 rw [qz _ (by simpa using aF)]; exact(h.jd (by simp at aF; omega)).1
theorem Su {s:a0} (h:de s) {k:Nat} (aq:k < 9):a6 (x6 s ((k:Int) + 1)) (fun r=>r=(k:Int)):=by
 unfold x6
 refine(M8 h).bind fun y a4=> ?_
 have al:=h.p0
 rw [a4.fields]
 refine(LF _ (by simp; omega) (by simp; omega) fun j aF=> ?_).bind fun r aQ=> .ret aQ
 rw [qz _ (by simpa using aF)]; exact(h.rA (by simp at aF; omega)).1
theorem Hd {key:cJ} {j:Nat} (h:key.gn=(j:Int) + 1):lV key=aB p1 j:=by unfold lV; rw [h]; congr 1; omega
theorem SQ {s:a0} (h:de s) {t:bX} {i:Nat} (aj:i < t.bQ.length) (aq:k1 (aB t.bQ i)):a6 (x7 s t (i:Int)) (fun r=>r=lV (aB t.bQ i)):=by
 obtain⟨j,aF,a7,_⟩:=aq
 unfold x7 BY
 refine .idx rfl aj ?_
 rw [Hd a7,a7]
 refine .bind (P:=fun r=>r=aB p1 j) ((Su h aF).bind fun y a4=> .idx a4 (by rw [h.p0]; exact aF) (.ret (h.rA aF).2)) fun y a4=> .ret a4
def lead (n k:Int) (j:Nat):Bool:=decide ((j:Int) < n) && decide (n - max 0 (min k n)≤ (j:Int))
theorem KO (n k:Int) (bP:0≤n) (J:n≤128):a6 (vB n k) (fun r=> ∀ j,j < 128→bV r j=lead n k j):=by
 unfold vB vI
 have e:min (max 0 n) 128=n:=by omega
 rw [e]
 have aS:bm (n - min (max 0 k) n)=n - min (max 0 k) n:=gC (by omega) (by omega)
 refine .eq rfl ((CA n).bind fun a a9=> ?_)
 rw [aS]
 refine(CA _).bind fun b hb=>(Cz a b).bind fun r aQ=> .ret fun j aF=> ?_
 rw [aQ j aF,a9 j aF,hb j aF]
 unfold lead
 by_cases p:(j:Int) < n
 ·rw [decide_eq_true p]
  by_cases q:(j:Int) < n - min (max 0 k) n
  ·rw [decide_eq_true q,decide_eq_false (by omega)]; rfl
  ·rw [decide_eq_false q,decide_eq_true (by omega)]; rfl
 ·rw [decide_eq_false p,decide_eq_false (by omega)]; rfl
theorem Sv (n:Int) (bP:0≤n) (J:n≤128):a6 (yr n) (fun r=> ∀ j,j < 128→bV r j=decide ((j:Int) < n)):=by
 unfold yr
 obtain⟨m,rfl⟩:=Int.eq_ofNat_of_zero_le bP
 have jL:rV (m:Int)=some (m:Int):=by unfold rV; rw [show max 0 (min (m:Int) 128)=m by omega]
 refine a6.loop m (fun k s=>s.1=k∧ ∀ j,j < 128→bd s.2 j=decide (j < k)) (by omega)
  ⟨rfl,fun j aF=>by simp [rZ]⟩ (fun k s aq aj=> ?_) (fun s aj=> ?_)
 ·obtain⟨i,v⟩:=s; obtain⟨J,ab⟩:=aj
  simp only at J ab; subst J
  refine .eq jL ?_
  refine a6.cond (fun _=> ?_) (fun h=>by simp at h; omega)
  refine .idx rfl (by omega) (.ret ⟨dz (by omega),fun j aF=> ?_⟩)
  simp only [eK _ _ (show k < 128 by omega)]
  by_cases lL:j=k
  ·rw [if_pos lL]; symm; simp; omega
  ·rw [if_neg lL,ab j aF,decide_eq_decide]; omega
 ·obtain⟨i,v⟩:=s; obtain⟨J,ab⟩:=aj
  simp only at J ab; subst J
  have ao:decide ((m:Int) < (m:Int))=false:=by simp
  rw [jL]
  simp only [Option.bind_some,ao,cond_false]
  refine⟨_,rfl,?_⟩
  refine(FY v).bind fun r aQ=> .ret fun j aF=> ?_
  rw [aQ j aF,ab j aF,decide_eq_decide]; omega
theorem R2 (n k:Int) (bP:0≤n) (J:n≤128):a6 (x5 n k) (fun r=> ∀ j,j < 128→bV r j=lead n k j):=by
 unfold x5
 obtain⟨m,rfl⟩:=Int.eq_ofNat_of_zero_le bP
 have jL:rV (m:Int)=some (m:Int):=by unfold rV; rw [show max 0 (min (m:Int) 128)=m by omega]
 refine .eq jL ?_
 obtain⟨a,a9⟩:=Int.eq_ofNat_of_zero_le (show 0≤ (m:Int) - max 0 (min k m) by omega)
 have aax:bm ((m:Int) - max 0 (min k m))=(a:Int):=by rw [gC (by omega) (by omega),a9]
 rw [aax]
 refine a6.loop (m - a) (fun i s=>s.1=((a + i:Nat):Int)∧ ∀ j,j < 128→bd s.2 j=(decide (a≤j) && decide (j < a + i))) (by omega)
  ⟨rfl,fun j aF=> ?_⟩ (fun i s aq aj=> ?_) (fun s aj=> ?_)
 ·rw [rZ]
  symm
  by_cases q:a≤j
  ·rw [decide_eq_true q,decide_eq_false (by omega)]; rfl
  ·rw [decide_eq_false q]; rfl
 ·obtain⟨pB,v⟩:=s; obtain⟨J,ab⟩:=aj
  simp only at J ab; subst J
  refine a6.cond (fun _=> ?_) (fun h=>by simp at h; omega)
  refine .idx rfl (show a + i < 128 by omega) (.ret ⟨dz (by omega),fun j aF=> ?_⟩)
  simp only [eK _ _ (show a + i < 128 by omega)]
  by_cases lL:j=a + i
  ·rw [if_pos lL]; symm; simp; omega
  ·rw [if_neg lL,ab j aF]; congr 1; rw [decide_eq_decide]; omega
 ·obtain⟨pB,v⟩:=s; obtain⟨J,ab⟩:=aj
  simp only at J ab; subst J
  have ao:decide (((a + (m - a):Nat):Int) < (m:Int))=false:=by simp; omega
  rw [ao]
  refine⟨_,rfl,(FY v).bind fun r aQ=> .ret fun j aF=> ?_⟩
  rw [aQ j aF,ab j aF]
  unfold lead
  rw [Bool.and_comm]
  congr 1
  ·rw [decide_eq_decide]; omega
  ·rw [decide_eq_decide]; omega
def lx (key:cJ) (m:cA) (j:Nat):Bool:=m.hV && (if key.cS=1 then decide ((j:Int) < lV key) else if key.cS=2 then lead (lV key) m.gV j else bV m.bR j)
theorem k1.lV {key:cJ} (h:k1 key):4≤Go.Proofs.YtmnggbjcnoffeaaGreat.lV key∧Go.Proofs.YtmnggbjcnoffeaaGreat.lV key≤32:=by
 obtain⟨j,aF,a7,_,_,J,ab,_⟩:=h
 rw [Hd a7]; exact⟨J,ab⟩
theorem TV {key:cJ} (aq:k1 key) (m:cA):a6 (yt m key.cS (lV key)) (fun r=> ∀ j,j < 128→bV r j=lx key m j):=by
 have hb:=aq.lV
 unfold yt lx
 refine .cond (fun h=> .ret fun j aF=> ?_) fun h=> .cond (fun J=>(CA _).bind fun y a4=> .ret fun j aF=> ?_) fun J=> .cond (fun ab=>(KO _ _ (by omega) (by omega)).bind fun y a4=> .ret fun j aF=> ?_) fun ab=> .ret fun j aF=> ?_
 ·rw [qG]; simp only [Bool.not_eq_true'] at h; rw [h]; rfl
 all_goals (simp only [Bool.not_eq_false'] at h; rw [h,Bool.true_and])
 ·rw [if_pos (by simpa using J)]; exact a4 j aF
 ·rw [if_neg (by simpa using J),if_pos (by simpa using ab)]; exact a4 j aF
 ·rw [if_neg (by simpa using J),if_neg (by simpa using ab)]
theorem UL {s:a0} (h:de s) {k:Nat} (aq:k < 4) {e:bL} (he:ie s k e):a6 (r7 s e) (fun r=>
 (r.2=false∧r.1=default∧ ∃ i,i < (aB s.bB k).bQ.length∧ (aB (aB s.bB k).bQ i).cS=4)∨
 (r.2=true∧ (∀ i,i < (aB s.bB k).bQ.length→ (aB (aB s.bB k).bQ i).cS≠4)∧ ∀ c j,c < 4→j < 128→
   bV (bd r.1.bR c) j=(decide (c < (aB s.bB k).bQ.length) && lx (aB (aB s.bB k).bQ c) (aB e.cu c) j)∧
   bV (bd r.1.bW c) j=(decide (c < (aB s.bB k).bQ.length) && (bV (aB e.cu c).bW j && lx (aB (aB s.bB k).bQ c) (aB e.cu c) j)))):=by
 unfold r7
 obtain⟨t1,⟨t2,t3⟩,t4,_⟩:=h.jd aq
 rw [he.jd]
 refine(B4 h aq).bind fun aD ay=> ?_
 subst ay
 refine .cond (fun h=>by simp at h; omega) fun _=> .idx rfl (by rw [h.js]; exact aq) ?_
 have hm:=he.len
 generalize tf:(aB s.bB k).bQ=K at *
 refine a6.loop K.length (fun i st=>st.1=(i:Int)∧ (∀ c,c < i→ (aB K c).cS≠4)∧ ∀ c j,c < 4→j < 128→
  bV (bd st.2.bR c) j=(decide (c < i) && lx (aB K c) (aB e.cu c) j)∧
  bV (bd st.2.bW c) j=(decide (c < i) && (bV (aB e.cu c).bW j && lx (aB K c) (aB e.cu c) j))) (by omega)
  ⟨rfl,fun c ao=>by omega,fun c j ao aF=> ?_⟩ (fun i st aj hs=> ?_) (fun st hs=> ?_)
 ·rw [show(default:a1).bR=default from rfl,show(default:a1).bW=default from rfl,rZ,qG]; simp
 ·obtain⟨pB,x⟩:=st; obtain⟨aS,cW,eh⟩:=hs
  simp only at aS cW eh; subst aS
  refine a6.cond (fun _=> ?_) (fun h=>by simp at h; omega)
  have hG:k1 (aB K i):=t4 _ (by rw [dU _ aj]; exact List.getElem_mem aj)
  have Xw:=hG
  obtain⟨j,aF,a7,_⟩:=Xw
  refine .idx rfl aj ?_
  rw [a7]
  refine(Kv h aF).bind fun aM aS=> ?_
  subst aS
  refine .eq rfl (.eq rfl (.cond (fun dh=> ?_) fun dh=> ?_))
  ·refine .ret (.ret (.inl ⟨rfl,rfl,i,aj,?_⟩))
   simp only [Bool.or_eq_true,beq_iff_eq,decide_eq_true_eq] at dh
   omega
  ·simp only [Bool.or_eq_false_iff,beq_eq_false_iff_ne,decide_eq_false_iff_not] at dh
   refine .idx rfl (by omega) (.idx rfl (by rw [h.p0]; exact aF) ?_)
   rw [(h.rA aF).2,← Hd a7]
   have nS:i < 4:=by omega
   refine(TV hG _).bind fun a8 aE=> .idx rfl nS (.idx rfl (by omega) (.idx rfl nS ((tO _ _).bind fun br aW=> .idx rfl nS (.eq rfl (.ret ⟨dz (by omega),fun c ao=> ?_,fun c j ao aF=> ?_⟩)))))
   ·by_cases lk:c=i
    ·subst lk; exact dh.1.1.1
    ·exact cW c (by omega)
   ·simp only [eK _ _ nS]
    by_cases lk:c=i
    ·subst lk
     rw [if_pos rfl,if_pos rfl]
     have u4:=aW j aF
     simp only [eK _ _ nS,if_true] at u4
     rw [aE j aF,u4,aE j aF,decide_eq_true (show c < c + 1 by omega)]
     exact⟨rfl,rfl⟩
    ·rw [if_neg lk,if_neg lk,(eh c j ao aF).1,(eh c j ao aF).2]
     have:decide (c < i + 1)=decide (c < i):=by rw [decide_eq_decide]; omega
     rw [this]; exact⟨rfl,rfl⟩
 ·obtain⟨pB,x⟩:=st; obtain⟨aS,cW,eh⟩:=hs
  simp only at aS cW eh; subst aS
  have ao:decide ((K.length:Int) < (K.length:Int))=false:=by simp
  rw [ao]
  refine⟨_,rfl,?_⟩
  exact .ret (.inr ⟨rfl,cW,eh⟩)
end Go.Proofs.YtmnggbjcnoffeaaGreat
namespace Go.Proofs.YtmnggbjcnoffeaaGreat
open Go Gv
set_option linter.unusedVariables false
set_option linter.unusedSimpArgs false
set_option maxRecDepth 100000
theorem Mg {s:a0} (h:de s) {k:Nat} (aq:k < 4) {e:bL} (he:ie s k e):a6 (qw s e) (fun r=>
 (r.2=false∧ ∃ i,i < (aB s.bB k).bQ.length∧ (aB (aB s.bB k).bQ i).cS=4)∨
 (r.2=true∧ (∀ i,i < (aB s.bB k).bQ.length→ (aB (aB s.bB k).bQ i).cS≠4)∧ ∃ V M:Vector aw 4,(∀ i,i < 512→bd r.1 i=cell V M i)∧ ∀ c j,c < 4→j < 128→
   bV (bd M c) j=(decide (c < (aB s.bB k).bQ.length) && lx (aB (aB s.bB k).bQ c) (aB e.cu c) j)∧
   bV (bd V c) j=(decide (c < (aB s.bB k).bQ.length) && ((aB e.cu c).hV && bV (aB e.cu c).bW j)))):=by
 unfold qw
 obtain⟨t1,⟨t2,t3⟩,t4,_⟩:=h.jd aq
 rw [he.jd]
 refine(Kw h aq).bind fun aD ay=> ?_
 subst ay
 refine .cond (fun h=>by simp at h; omega) fun _=> .idx rfl (by rw [h.js]; exact aq) ?_
 have hm:=he.len
 refine a6.loop (aB s.bB k).bQ.length (fun i st=>st.1=(i:Int)∧ (∀ c,c < i→ (aB (aB s.bB k).bQ c).cS≠4)∧ ∀ c j,c < 4→j < 128→
  bV (bd st.2.1 c) j=(decide (c < i) && lx (aB (aB s.bB k).bQ c) (aB e.cu c) j)∧
  bV (bd st.2.2 c) j=(decide (c < i) && ((aB e.cu c).hV && bV (aB e.cu c).bW j))) (by omega)
  ⟨rfl,fun c ao=>by omega,fun c j ao aF=> ?_⟩ (fun i st aj hs=> ?_) (fun st hs=> ?_)
 ·rw [rZ,qG]; simp
 ·obtain⟨pB,M,V⟩:=st; obtain⟨aS,cW,eh⟩:=hs
  simp only at aS cW eh; subst aS
  refine a6.cond (fun _=> ?_) (fun h=>by simp at h; omega)
  have hG:k1 (aB (aB s.bB k).bQ i):=t4 _ (by rw [dU _ aj]; exact List.getElem_mem aj)
  have hb:=hG.lV
  have nS:i < 4:=by omega
  refine .idx rfl aj (.idx rfl (by omega) (.idx rfl (by rw [h.js]; exact aq) ((SQ h aj hG).bind fun aM aS=> ?_)))
  subst aS
  refine .cond (fun dh=> ?_) fun dh=> ?_
  ·exact .ret (.ret (.inl ⟨rfl,i,aj,by simpa using dh⟩))
  have k8:∀ c,c < i + 1→ (aB (aB s.bB k).bQ c).cS≠4:=fun c ao=>by
   by_cases lk:c=i
   ·subst lk; simpa using dh
   ·exact cW c (by omega)
  have cv:∀ c,c≠i→decide (c < i + 1)=decide (c < i):=fun c ao=>by rw [decide_eq_decide]; omega
  refine .cond (fun hp=> .ret ⟨dz (by omega),k8,fun c j ao aF=> ?_⟩) fun hp=> ?_
  ·simp only [Bool.not_eq_true'] at hp
   rw [(eh c j ao aF).1,(eh c j ao aF).2]
   by_cases lk:c=i
   ·subst lk; unfold lx; rw [hp]; simp
   ·rw [cv c lk]; exact⟨rfl,rfl⟩
  simp only [Bool.not_eq_false'] at hp
  refine .bind (P:=fun N=> ∀ c j,c < 4→j < 128→bV (bd N c) j=(decide (c < i + 1) && lx (aB (aB s.bB k).bQ c) (aB e.cu c) j)) ?_ fun N jC=> ?_
  ·have key:∀ y:aw,(∀ j,j < 128→bV y j=lx (aB (aB s.bB k).bQ i) (aB e.cu i) j)→ ∀ c j,c < 4→j < 128→bV (bd (cq M i y) c) j=(decide (c < i + 1) && lx (aB (aB s.bB k).bQ c) (aB e.cu c) j):=by
    intro y a4 c j ao aF
    rw [eK _ _ nS]
    by_cases lk:c=i
    ·subst lk; rw [if_pos rfl,a4 j aF,decide_eq_true (show c < c + 1 by omega)]; rfl
    ·rw [if_neg lk,(eh c j ao aF).1,cv c lk]
   refine .cond (fun J=>(Sv _ (by omega) (by omega)).bind fun y a4=> .idx rfl nS (.ret (key y fun j aF=> ?_))) fun J=> .bind (P:=fun N=> ∀ c j,c < 4→j < 128→bV (bd N c) j=(decide (c < i + 1) && lx (aB (aB s.bB k).bQ c) (aB e.cu c) j)) (.cond (fun ab=>(R2 _ _ (by omega) (by omega)).bind fun y a4=> .idx rfl nS (.ret (key y fun j aF=> ?_))) fun ab=> .idx rfl nS (.ret (key _ fun j aF=> ?_))) fun N jC=> .ret jC
   all_goals (unfold lx; rw [hp,Bool.true_and])
   ·rw [if_pos (by simpa using J)]; exact a4 j aF
   ·rw [if_neg (by simpa using J),if_pos (by simpa using ab)]; exact a4 j aF
   ·rw [if_neg (by simpa using J),if_neg (by simpa using ab)]
  ·refine .idx rfl nS (.ret ⟨dz (by omega),k8,fun c j ao aF=>⟨jC c j ao aF,?_⟩⟩)
   simp only [eK _ _ nS]
   by_cases lk:c=i
   ·subst lk; rw [if_pos rfl,hp,decide_eq_true (show c < c + 1 by omega)]; simp
   ·rw [if_neg lk,(eh c j ao aF).2,cv c lk]
 ·obtain⟨pB,M,V⟩:=st; obtain⟨aS,cW,eh⟩:=hs
  simp only at aS cW eh; subst aS
  have ao:decide (((aB s.bB k).bQ.length:Int) < ((aB s.bB k).bQ.length:Int))=false:=by simp
  rw [ao]
  refine⟨_,rfl,?_⟩
  simp only [Sum.elim_inl]
  exact(Ti V M).bind fun y a4=> .ret (.inr ⟨rfl,cW,V,M,a4,eh⟩)
end Go.Proofs.YtmnggbjcnoffeaaGreat
namespace Go.Proofs.YtmnggbjcnoffeaaGreat
open Go Gv
set_option linter.unusedVariables false
set_option linter.unusedSimpArgs false
set_option maxRecDepth 100000
def PH (a b:aw):Bool:=decide (a.dS < b.dS) || (a.dS ==b.dS && decide (a.b7 < b.b7))
end Go.Proofs.YtmnggbjcnoffeaaGreat
namespace Gv
set_option linter.unusedVariables false
structure u5 {α:Type} (b:α→α→Bool):Prop where
 asymm:∀ x y,b x y=true→b y x=false
 trans:∀ x y z,b x y=true→b y z=true→b x z=true
def ins {α:Type} (b:α→α→Bool):List α→α→List α
 | [],x=> [x]
 | a :: l,x=>if b a x=true then a :: ins b l x else x :: a :: l
def iE {α:Type} (b:α→α→Bool) (l:List α):List α:=l.foldl (ins b) []
def jw {α:Type} (b:α→α→Bool):List α→α→Nat
 | [],_=>0
 | a :: l,x=>if b a x=true then jw b l x + 1 else 0
def tc {α:Type} (b:α→α→Bool) (x y:α):Prop:=b x y=true∨b y x=true
variable {α:Type} {b:α→α→Bool}
theorem Gt:∀ {l:List α} {x:α},jw b l x≤l.length
 | [],_=>Nat.le_refl _
 | a :: l,x=>by
   have:=Gt (l:=l) (x:=x)
   unfold jw; split <;> simp <;> omega
theorem M9:∀ (l:List α) (x:α),ins b l x=l.take (jw b l x) ++ x :: l.drop (jw b l x)
 | [],x=>rfl
 | a :: l,x=>by
   unfold ins jw
   split
   ·rw [M9 l x]; rfl
   ·rfl
theorem Fx:∀ (l:List α) (x:α),(ins b l x).Perm (x :: l)
 | [],x=>List.Perm.refl _
 | a :: l,x=>by
   unfold ins
   split
   ·exact((Fx l x).cons a).trans (List.Perm.swap x a l)
   ·exact List.Perm.refl _
theorem UM {l:List α} {x y:α} :y∈ins b l x↔y=x∨y∈l:=by
 rw [(Fx l x).mem_iff]; simp
theorem Mh (l:List α) (x:α):iE b (l ++ [x])=ins b (iE b l) x:=by
 simp [iE,List.foldl_append]
theorem Mi (l:List α):(iE b l).Perm l:=by
 have key:∀ (l m:List α),(l.foldl (ins b) m).Perm (m ++ l):=by
  intro l
  induction l with
  | nil=>intro m; simp
  | cons a l bO=>
    intro m
    refine(bO (ins b m a)).trans ?_
    refine((Fx m a).append_right l).trans ?_
    exact(List.perm_middle (a:=a) (l₁:=m) (l₂:=l)).symm
 exact key l []
theorem ub {l:List α} {y:α} :y∈iE b l↔y∈l:=(Mi l).mem_iff
theorem Vr {l:List α} :(iE b l).length=l.length:=(Mi l).length_eq
theorem KP (hb:u5 b):∀ {l:List α} {x:α},l.Pairwise (fun x y=>b x y=true)→ (∀ a∈l,tc b a x)→ (ins b l x).Pairwise (fun x y=>b x y=true)
 | [],x,_,_=>by simp [ins]
 | a :: l,x,hs,cc=>by
   obtain⟨J,ab⟩:=List.pairwise_cons.1 hs
   unfold ins
   split
   ·rename_i AH
    refine List.pairwise_cons.2 ⟨fun c ao=> ?_,KP hb ab fun a a9=>cc a (by simp [a9])⟩
    rcases UM.1 ao with rfl | ao
    ·exact AH
    ·exact J c ao
   ·rename_i AH
    have PI:b x a=true:=(cc a (by simp)).resolve_left AH
    refine List.pairwise_cons.2 ⟨fun c ao=> ?_,hs⟩
    rcases List.mem_cons.1 ao with rfl | ao
    ·exact PI
    ·exact hb.trans _ _ _ PI (J c ao)
def p2 (b:α→α→Bool) (l:List α):Prop:=l.Pairwise (tc b)
theorem tc.symm {x y:α} (h:tc b x y):tc b y x:=h.elim .inr .inl
theorem p2.snoc {l:List α} {x:α} (h:p2 b (l ++ [x])):p2 b l∧ ∀ a∈l,tc b a x:=by
 unfold p2 at *
 rw [List.pairwise_append] at h
 exact⟨h.1,fun a a9=>h.2.2 a a9 x (by simp)⟩
theorem p2.perm {l m:List α} (h:p2 b l) (p:l.Perm m):p2 b m:=(p.pairwise_iff fun h=>h.symm).1 h
theorem TW {P:List α→Prop} (bP:P []) (J:∀ l x,P l→P (l ++ [x])) (l:List α):P l:=by
 have:∀ r:List α,P r.reverse:=by
  intro r
  induction r with
  | nil=>exact bP
  | cons a r bO=>rw [List.reverse_cons]; exact J _ _ bO
 have:=this l.reverse
 rwa [List.reverse_reverse] at this
theorem Lf (hb:u5 b) {l:List α} (h:p2 b l):(iE b l).Pairwise (fun x y=>b x y=true):=by
 induction l using TW with
 | bP=>exact List.Pairwise.nil
 | J l x bO=>
   obtain⟨J,ab⟩:=h.snoc
   rw [Mh]
   exact KP hb (bO J) fun a a9=>ab a (ub.1 a9)
theorem Gu [Inhabited α] (hb:u5 b):∀ {l:List α} {x:α} {k:Nat},l.Pairwise (fun x y=>b x y=true)→k < l.length→ (b (aB l k) x=true↔k < jw b l x)
 | [],x,k,_,aq=>by simp at aq
 | a :: l,x,k,hs,aq=>by
   obtain⟨J,ab⟩:=List.pairwise_cons.1 hs
   unfold jw
   cases k with
   | zero=>
     have:aB (a :: l) 0=a:=rfl
     rw [this]
     split <;> simp_all
   | succ k=>
     have j5:k < l.length:=by simpa using aq
     have he:aB (a :: l) (k + 1)=aB l k:=by rw [dU _ aq,dU _ j5]; rfl
     rw [he,Gu hb ab j5]
     split
     ·omega
     ·rename_i AH
      constructor
      ·intro cv
       have aX:=(Gu hb ab j5).2 cv
       have bk:=J (aB l k) (by rw [dU _ j5]; exact List.getElem_mem _)
       exact absurd (hb.trans _ _ _ bk aX) AH
      ·intro h; omega
end Gv
namespace Go.Proofs.YtmnggbjcnoffeaaGreat
open Go Gv
set_option linter.unusedVariables false
set_option linter.unusedSimpArgs false
theorem JM {xs:List cJ} {f:cJ→Option Bool} {g:cJ→Bool} (a7:∀ x∈xs,f x=some (g x)) (al:xs.length < 2 ^ 62):
 a6 (vj xs f) (fun r=>(r= -1∧ ∀ x∈xs,g x=false)∨ ∃ i:Nat,i < xs.length∧r=i∧g (aB xs i)=true∧ ∀ j,j < i→g (aB xs j)=false):=by
 unfold vj
 refine a6.loop xs.length (fun k s=>s=(k:Int)∧ ∀ j,j < k→g (aB xs j)=false) (by omega) ⟨rfl,fun j aF=>by omega⟩ (fun k s aq aj=> ?_) (fun s aj=> ?_)
 ·obtain⟨ay,aS⟩:=aj; subst ay
  refine a6.cond (fun _=> ?_) (fun h=>by simp at h; omega)
  refine .idx rfl aq (.eq (a7 _ (by rw [dU xs aq]; exact List.getElem_mem aq)) (.cond (fun h=> .ret ?_) (fun h=> .ret ⟨dz (by omega),fun j aF=> ?_⟩)))
  ·exact .ret (.inr ⟨k,aq,rfl,h,aS⟩)
  ·by_cases gw:j=k
   ·subst gw; exact h
   ·exact aS j (by omega)
 ·obtain⟨ay,aS⟩:=aj; subst ay
  refine⟨_,by simp; rfl,?_⟩
  refine .ret (.inl ⟨rfl,fun x an=> ?_⟩)
  obtain⟨j,aF,rfl⟩:=List.mem_iff_getElem.1 an
  rw [← dU xs aF]; exact aS j aF
end Go.Proofs.YtmnggbjcnoffeaaGreat
namespace Go.Proofs.YtmnggbjcnoffeaaGreat
open Go Gv
set_option linter.unusedVariables false
set_option linter.unusedSimpArgs false
set_option maxRecDepth 100000
theorem _root_.Gv.a6.get {β:Type} {m:Option β} {v:β} (h:a6 m (fun r=>r=v)):m=some v:=by
 obtain⟨r,J,rfl⟩:=h; exact J
def Z7 (kind b:Int) (m:cA) (x:aw):Bool:=
 if m.hV=false then true
 else if kind=1 then decide (x=m.bW)
 else if kind=2 then(List.range 128).all fun j=> !lead b m.gV j || (bV x j ==bV m.bW j)
 else if kind=3 then decide (zZ x m.bR=m.bW)
 else !PH x m.bW && !PH m.oX x
def mt (s:a0) (k:Nat) (p:Vector aw 4) (e:bL):Bool:=
 (List.range (aB s.bB k).bQ.length).all fun i=>Z7 (aB (aB s.bB k).bQ i).cS (lV (aB (aB s.bB k).bQ i)) (aB e.cu i) (bd p i)
theorem Tn {s:a0} (h:de s) {k:Nat} (aq:k < 4) {e:bL} (he:e.dJ=(k:Int) + 1):yk s e=some (aB s.bB k,true):=by
 refine a6.get ?_
 unfold yk
 rw [he]
 refine(B4 h aq).bind fun r aQ=> ?_
 subst aQ
 rw [show decide ((k:Int) < 0)=false from decide_eq_false (by omega),cond_false]
 exact .idx rfl (by have:=h.js; omega) (.ret rfl)
def rC:List cJ→List cA→Int
 | key :: aP,m :: ms=>if key.cS=2 then m.gV else rC aP ms
 | _,_=>0
theorem Gw:∀ {aP:List cJ} {ms:List cA} {i:Nat},ms.length=aP.length→i < aP.length→ (aB aP i).cS=2→ (∀ j,j < i→ (aB aP j).cS≠2)→rC aP ms=(aB ms i).gV
 | [],_,i,_,aj,_,_=>by simp at aj
 | key :: aP,[],i,al,_,_,_=>by simp at al
 | key :: aP,m :: ms,0,_,_,ab,_=>by
   have:(aB (key :: aP) 0)=key:=rfl
   rw [this] at ab
   unfold rC; rw [if_pos ab]; rfl
 | key :: aP,m :: ms,i + 1,al,aj,ab,aO=>by
   have bP:=aO 0 (by omega)
   have:(aB (key :: aP) 0)=key:=rfl
   rw [this] at bP
   unfold rC; rw [if_neg bP]
   have bZ:∀ {β:Type} [Inhabited β] (x:β) (l:List β) (n:Nat),aB (x :: l) (n + 1)=aB l n:=fun x l n=>by simp [aB]
   rw [bZ] at ab ⊢
   exact Gw (by simpa using al) (by simpa using aj) ab fun j aF=>by have:=aO (j + 1) (by omega); rwa [bZ] at this
theorem Gx:∀ {aP:List cJ} {ms:List cA},(∀ key∈aP,key.cS≠2)→rC aP ms=0
 | [],_,_=>by unfold rC; rfl
 | key :: aP,[],_=>by unfold rC; rfl
 | key :: aP,m :: ms,aO=>by
   unfold rC; rw [if_neg (aO key (by simp))]
   exact Gx fun k aq=>aO k (by simp [aq])
def tj (s:a0) (k:Nat) (e:bL):Int:=rC (aB s.bB k).bQ e.cu
theorem KQ {s:a0} (h:de s) {k:Nat} (aq:k < 4) {e:bL} (he:ie s k e):vK s e=some (tj s k e):=by
 obtain⟨t1,⟨t2,t3⟩,t4,_⟩:=h.jd aq
 have hm:=he.len
 refine a6.get ?_
 unfold vK tj
 refine .eq (Tn h aq he.jd) ?_
 simp only
 refine(JM (g:=fun key=>key.cS ==2) (fun x an=>rfl) (by omega)).bind fun r aQ=> .eq rfl ?_
 rcases aQ with⟨rfl,aQ⟩ | ⟨i,J,rfl,aE,aW⟩
 ·refine .cond (fun _=> .ret ?_) (fun h=>by simp at h)
  rw [Gx fun key hG=>by simpa using aQ key hG]
 ·have dh:(!true || decide ((i:Int) < 0) || decide ((i:Int)≥ (e.cu.length:Int)))=false:=by simp; omega
  rw [dh,cond_false]
  refine .idx rfl (by omega) (.ret ?_)
  rw [Gw hm J (by simpa using aE) fun j aF=>by simpa using aW j aF]
theorem KR {s:a0} (h:de s) {k:Nat} (aq:k < 4) {e:bL} (he:ie s k e):vJ s e=some (tj s k e):=by
 obtain⟨t1,⟨t2,t3⟩,t4,_⟩:=h.jd aq
 have hm:=he.len
 refine a6.get ?_
 unfold vJ tj
 rw [he.jd]
 refine(Kw h aq).bind fun r aQ=> ?_
 subst aQ
 rw [show decide ((k:Int) < 0)=false from decide_eq_false (by omega),cond_false]
 refine .idx rfl (by have:=h.js; omega) ?_
 refine a6.loop (aB s.bB k).bQ.length (fun i st=>st=(i:Int)∧ ∀ j,j < i→ (aB (aB s.bB k).bQ j).cS≠2) (by omega) ⟨rfl,fun j aF=>by omega⟩ (fun i st aj hs=> ?_) (fun st hs=> ?_)
 ·obtain⟨rfl,hs⟩:=hs
  refine .cond (fun _=> ?_) (fun h=>by simp at h; omega)
  refine .idx rfl aj (.eq rfl (.cond (fun ao=> ?_) fun ao=> .ret ⟨dz (by omega),fun j aF=> ?_⟩))
  ·simp only [Bool.and_eq_true,beq_iff_eq] at ao
   refine .idx rfl (by omega) (.ret ?_)
   simp only [Sum.elim_inr]
   exact .ret (Gw hm aj ao.1 hs).symm
  ·by_cases jb:j=i
   ·subst jb
    have hd:decide ((j:Int) < (e.cu.length:Int))=true:=by simp; omega
    rw [hd,Bool.and_true] at ao
    simpa using ao
   ·exact hs j (by omega)
 ·obtain⟨rfl,hs⟩:=hs
  rw [show decide (((aB s.bB k).bQ.length:Int) < ((aB s.bB k).bQ.length:Int))=false by simp]
  refine⟨_,rfl,?_⟩
  simp only [Sum.elim_inl]
  refine .ret (Gx fun key hG=> ?_).symm
  obtain⟨j,aF,rfl⟩:=List.mem_iff_getElem.1 hG
  rw [← dU _ aF]; exact hs j aF
def fG (s:a0) (k:Nat) (a c:aU):Bool:=
 decide (c.cr.g9 < a.cr.g9∨ (a.cr.g9=c.cr.g9∧ (tj s k c.cr < tj s k a.cr∨ (tj s k a.cr=tj s k c.cr∧c.cg < a.cg))))
theorem CO (s:a0) (k:Nat):u5 (fG s k) where
 asymm x y h:=by
  unfold fG at *
  rw [decide_eq_true_eq] at h
  rw [decide_eq_false_iff_not]; omega
 trans x y z h cR:=by
  unfold fG at *
  rw [decide_eq_true_eq] at *
  omega
theorem Vs {s:a0} {k:Nat} {a c:aU} (h:a.cg≠c.cg):tc (fG s k) a c:=by
 unfold tc fG
 rw [decide_eq_true_eq,decide_eq_true_eq]; omega
def A9 (x y:Int):Int:=if x < y then -1 else if y < x then 1 else 0
theorem CP (x y:Int):rQ x y=some (A9 x y):=by
 unfold rQ x2 A9
 have:∀ z:Int,(z !=z)=false:=fun z=>by simp
 rw [this,this]
 simp only [Option.bind_some,cond_false]
 by_cases J:x < y
 ·simp [J]
 ·by_cases ab:y < x
  ·simp [J,ab]
  ·simp [J,ab]
theorem TX (a c d:Int):yn [a,c,d]=some (if a≠0 then a else if c≠0 then c else d):=by
 refine a6.get ?_
 unfold yn
 refine a6.loop 3 (fun i st=>st=(i:Int)∧ ∀ j,j < i→aB [a,c,d] j=0) (by omega) ⟨rfl,fun j aF=>by omega⟩ (fun i st aj hs=> ?_) (fun st hs=> ?_)
 ·obtain⟨rfl,hs⟩:=hs
  refine .cond (fun _=> ?_) (fun h=>by simp at h; omega)
  refine .idx rfl (by simpa using aj) (.cond (fun ao=> .ret ?_) fun ao=> .ret ⟨dz (by omega),fun j aF=> ?_⟩)
  ·simp only [Sum.elim_inr]
   refine .ret ?_
   have bP:=hs 0
   have J:=hs 1
   rcases (show i=0∨i=1∨i=2 by omega) with rfl | rfl | rfl
   ·have:a≠0:=by simpa [aB] using ao
    rw [if_pos this]; rfl
   ·have:c≠0:=by simpa [aB] using ao
    have IP:a=0:=by simpa [aB] using bP (by omega)
    rw [if_neg (by simpa using IP),if_pos this]; rfl
   ·have IP:a=0:=by simpa [aB] using bP (by omega)
    have Z8:c=0:=by simpa [aB] using J (by omega)
    rw [if_neg (by simpa using IP),if_neg (by simpa using Z8)]; rfl
  ·by_cases jb:j=i
   ·subst jb; simpa using ao
   ·exact hs j (by omega)
 ·obtain⟨rfl,hs⟩:=hs
  refine⟨_,rfl,?_⟩
  simp only [Sum.elim_inl]
  refine .ret ?_
  have bP:a=0:=by simpa [aB] using hs 0 (by omega)
  have J:c=0:=by simpa [aB] using hs 1 (by omega)
  have ab:d=0:=by simpa [aB] using hs 2 (by omega)
  simp [bP,J,ab]
theorem Fj {s:a0} (h:de s) {k:Nat} (aq:k < 4) {a c:aU} (a9:ie s k a.cr) (ao:ie s k c.cr):tu s a c=some (fG s k a c):=by
 unfold tu fG
 rw [CP,Option.bind_some,KQ h aq a9,Option.bind_some,KQ h aq ao,Option.bind_some,CP,Option.bind_some,CP,Option.bind_some,TX,Option.bind_some]
 congr 1
 rw [decide_eq_decide]
 unfold A9
 split <;> split <;> (repeat' split) <;> omega
theorem To {s:a0} (h:de s) {k:Nat} (aq:k < 4) {a c:aU} (a9:ie s k a.cr) (ao:ie s k c.cr):ym s a c=some (fG s k a c):=by
 refine a6.get ?_
 unfold ym fG
 refine .cond (fun J=> .ret ?_) fun J=> .eq (KR h aq a9) (.eq (KR h aq ao) (.cond (fun ab=> .ret ?_) fun ab=> .ret ?_))
 ·rw [decide_eq_decide]; simp at J; omega
 ·rw [decide_eq_decide]; simp at J ab; omega
 ·rw [decide_eq_decide]; simp at J ab; omega
end Go.Proofs.YtmnggbjcnoffeaaGreat
namespace Go.Proofs.YtmnggbjcnoffeaaGreat
open Go Gv
set_option linter.unusedVariables false
set_option linter.unusedSimpArgs false
theorem Es {xs:List aU} {f:aU→Option Bool} {g:aU→Bool} (a7:∀ x∈xs,f x=some (g x)) (al:xs.length < 2 ^ 62):
 a6 (vg xs f) (fun r=>(r= -1∧ ∀ x∈xs,g x=false)∨ ∃ i:Nat,i < xs.length∧r=i∧g (aB xs i)=true∧ ∀ j,j < i→g (aB xs j)=false):=by
 unfold vg
 refine a6.loop xs.length (fun k s=>s=(k:Int)∧ ∀ j,j < k→g (aB xs j)=false) (by omega) ⟨rfl,fun j aF=>by omega⟩ (fun k s aq aj=> ?_) (fun s aj=> ?_)
 ·obtain⟨ay,aS⟩:=aj; subst ay
  refine a6.cond (fun _=> ?_) (fun h=>by simp at h; omega)
  refine .idx rfl aq (.eq (a7 _ (by rw [dU xs aq]; exact List.getElem_mem aq)) (.cond (fun h=> .ret ?_) (fun h=> .ret ⟨dz (by omega),fun j aF=> ?_⟩)))
  ·exact .ret (.inr ⟨k,aq,rfl,h,aS⟩)
  ·by_cases gw:j=k
   ·subst gw; exact h
   ·exact aS j (by omega)
 ·obtain⟨ay,aS⟩:=aj; subst ay
  refine⟨_,by simp; rfl,?_⟩
  refine .ret (.inl ⟨rfl,fun x an=> ?_⟩)
  obtain⟨j,aF,rfl⟩:=List.mem_iff_getElem.1 an
  rw [← dU xs aF]; exact aS j aF
end Go.Proofs.YtmnggbjcnoffeaaGreat
namespace Go.Proofs.YtmnggbjcnoffeaaGreat
open Go Gv
set_option linter.unusedVariables false
set_option linter.unusedSimpArgs false
set_option maxRecDepth 100000
structure ll (s:a0) (k:Nat) (i:aU):Prop where
 fl:ie s k i.cr
theorem UN {i:aU} (J:i.cr.cu.length≤1000) (ab:i.cr.mn.length≤1000):rU i=some i:=by
 unfold rU B3 Bh Bi
 rw [iq _ _ (by simp; omega) (by omega),iq _ _ (by simp; omega) (by omega)]
 rfl
theorem Gy {s:a0} (h:de s) {k:Nat} (aq:k < 4) {i:aU} (aj:ll s k i):rU i=some i:=by
 have J:=aj.fl.len
 have ab:=aj.fl.args
 have aE:=(h.jd aq).2.1.2
 exact UN (by omega) (by omega)
def kr (l:List aU) (n:Int):Bool:=l.any fun c=>c.cg ==n
theorem find_eq (x:dM) (n:Int) (al:x.ef.length≤1000):a6 (xD x n) (fun r=>(r= -1∧kr x.ef n=false)∨ ∃ i:Nat,i < x.ef.length∧r=i∧ (aB x.ef i).cg=n∧kr x.ef n=true∧ ∀ j,j < i→ (aB x.ef j).cg≠n):=by
 unfold xD
 refine(Es (g:=fun c=>c.cg ==n) (fun c ao=>rfl) (by omega)).bind fun r aQ=> .ret ?_
 rcases aQ with⟨J,ab⟩ | ⟨i,J,ab,aE,aW⟩
 ·exact .inl ⟨J,by unfold kr; rw [List.any_eq_false]; exact fun c ao=>by simp [ab c ao]⟩
 ·refine .inr ⟨i,J,ab,by simpa using aE,?_,fun j aF=>by simpa using aW j aF⟩
  unfold kr; rw [List.any_eq_true]
  exact⟨aB x.ef i,by rw [dU _ J]; exact List.getElem_mem _,aE⟩
theorem TY {s:a0} (h:de s) {k:Nat} (aq:k < 4) {x:dM} (an:x.oR=s) {a c:aU} (a9:ll s k a) (ao:ll s k c):
 a6 (vo x a c) (fun r=>r < 0↔fG s k a c=true):=by
 unfold vo
 rw [an]
 refine .eq (Fj h aq a9.fl ao.fl) (.cond (fun hb=> .ret ⟨fun _=>hb,fun _=>by omega⟩) fun hb=> .eq (Fj h aq ao.fl a9.fl) (.cond (fun _=> .ret ?_) fun _=> .ret ?_))
 ·rw [hb]; simp
 ·rw [hb]; simp
theorem Vt {i j:Nat} (h:i + j < 2 ^ 62):bm ((BitVec.ofInt 64 (bm ((i:Int) + (j:Int)))) >>> (1#64).toNat).toNat=(((i + j) / 2:Nat):Int):=by
 rw [show(i:Int) + (j:Int)=((i + j:Nat):Int) by omega,gC (x:=((i + j:Nat):Int)) (by omega) (by omega)]
 have:((BitVec.ofInt 64 ((i + j:Nat):Int)) >>> (1#64).toNat).toNat=(i + j) / 2:=by
  rw [BitVec.toNat_ushiftRight,ml (by omega)]
  rw [show(1#64).toNat=1 from rfl,Nat.shiftRight_eq_div_pow,Nat.pow_one]
 rw [this,gC (by omega) (by omega)]
theorem Tp {l:List aU} {x:aU} {b:aU→aU→Bool} (hb:u5 b) (hs:l.Pairwise (fun x y=>b x y=true)) (al:l.length≤1000)
 {f:aU→aU→Option Int} (a7:∀ a∈l,a6 (f a x) (fun r=>r < 0↔b a x=true)):
 a6 (xp l x f) (fun r=>r.1=(jw b l x:Int)):=by
 unfold xp
 have fL:=Gt (b:=b) (l:=l) (x:=x)
 have wX:∀ h,h < l.length→aB l h∈l:=fun h cE=>by rw [dU _ cE]; exact List.getElem_mem _
 have m6:∀ q:Bool,a6 ((cX (decide (((jw b l x:Nat):Int) < (l.length:Int))) true (idx l.length ((jw b l x:Nat):Int))).bind fun bu=>
  (cX (decide (((jw b l x:Nat):Int) < (l.length:Int))) true (f (aB l bu) x)).bind fun aM=>some (((jw b l x:Nat):Int),(decide (((jw b l x:Nat):Int) < (l.length:Int))) && (aM ==0))) (fun r=>r.1=(jw b l x:Int)):=fun _=>by
  refine .cX (P:=fun c=>c=jw b l x) (fun h=>⟨_,lD (by simpa using h),rfl⟩) fun bu ab=> .cX (P:=fun _=>True) (fun h=> ?_) fun aM _=> .ret rfl
  rw [ab h]
  exact(a7 _ (wX _ (by simpa using h))).mono fun _ _=>trivial
 refine a6.loop l.length (fun r st=> ∃ i j:Nat,st=((i:Int),(j:Int))∧i≤jw b l x∧jw b l x≤j∧j≤l.length∧j - i≤l.length - r) (by omega) ⟨0,l.length,rfl,by omega,by omega,by omega,by omega⟩ (fun r st aQ kQ=> ?_) (fun st kQ=> ?_)
 ·obtain⟨i,j,rfl,J,ab,aE,aW⟩:=kQ
  refine .cond (fun ao=> ?_) fun ao=> .ret ?_
  ·have e9:i < j:=by simpa using ao
   rw [Vt (by omega)]
   have hm:(i + j) / 2 < l.length:=by omega
   refine .idx rfl hm ((a7 _ (wX _ hm)).bind fun aD bp=> ?_)
   have cv:=Gu hb (x:=x) hs hm
   refine .bind (P:=fun m=> ∃ i j:Nat,m=((i:Int),(j:Int))∧i≤jw b l x∧jw b l x≤j∧j≤l.length∧j - i≤l.length - (r + 1)) (.cond (fun a4=> .eq rfl (.ret ?_)) fun a4=> .ret ?_) fun m hm=> .ret ?_
   ·have:=cv.1 (bp.1 (by simpa using a4))
    refine⟨(i + j) / 2 + 1,j,?_,by omega,ab,aE,by omega⟩
    simp only [dz (show(i + j) / 2 < 2 ^ 62 by omega)]
   ·have: ¬ (i + j) / 2 < jw b l x:=fun cE=>by
     have:=bp.2 (cv.2 cE)
     simp at a4; omega
    exact⟨i,(i + j) / 2,rfl,J,by omega,by omega,by omega⟩
   ·obtain⟨pB,PZ,rfl,aX⟩:=hm
    exact⟨pB,PZ,rfl,aX⟩
  ·have e9: ¬ i < j:=by simpa using ao
   have:i=jw b l x:=by omega
   subst this
   exact m6 true
 ·obtain⟨i,j,rfl,J,ab,aE,aW⟩:=kQ
  have e9:i=jw b l x:=by omega
  have ao:decide ((i:Int) < (j:Int))=false:=by simp; omega
  simp only [ao,cond_false]
  refine⟨_,rfl,?_⟩
  subst e9
  exact m6 true
structure iC (s:a0) (k:Nat) (l:List aU):Prop where
 ok:∀ i∈l,ll s k i
 num:l.Pairwise fun a c=>a.cg≠c.cg
 len:l.length≤900
theorem iC.PJ {s:a0} {k:Nat} {l:List aU} (h:iC s k l):p2 (fG s k) l:=h.num.imp fun cE=>Vs cE
theorem iC.iE {s:a0} {k:Nat} {l:List aU} (h:iC s k l):(∀ i∈iE (fG s k) l,ll s k i)∧ (iE (fG s k) l).length≤900:=
 ⟨fun i aj=>h.ok i (ub.1 aj),by rw [Vr]; exact h.len⟩
theorem Mj {s:a0} {k:Nat} {l:List aU} {n:Int} :kr (iE (fG s k) l) n=kr l n:=by
 unfold kr
 rw [Bool.eq_iff_iff,List.any_eq_true,List.any_eq_true]
 exact⟨fun⟨c,J,ab⟩=>⟨c,ub.1 J,ab⟩,fun⟨c,J,ab⟩=>⟨c,ub.2 J,ab⟩⟩
theorem UO {l:List aU} {n:Int} (h:kr l n=false):∀ c∈l,c.cg≠n:=fun c ao=>by
 unfold kr at h
 rw [List.any_eq_false] at h
 simpa using h c ao
theorem iC.snoc {s:a0} {k:Nat} {l:List aU} (h:iC s k l) {i:aU} (aj:ll s k i) (aO:kr l i.cg=false) (al:l.length < 900):iC s k (l ++ [i]) where
 ok c ao:=by
  rcases List.mem_append.1 ao with ao | ao
  ·exact h.ok c ao
  ·rw [List.mem_singleton.1 ao]; exact aj
 num:=by
  rw [List.pairwise_append]
  exact⟨h.num,by simp,fun a a9 c ao=>by rw [List.mem_singleton.1 ao]; exact UO aO a a9⟩
 len:=by simp; omega
def wO (s:a0) (k:Nat) (l:List aU):dM:= { oR:=s,ef:=iE (fG s k) l }
theorem Vu {s:a0} (h:de s) {k:Nat} (aq:k < 4) {l:List aU} (al:iC s k l) {i:aU} (aj:ll s k i) (hlen:l.length < 900):
 xB (wO s k l) i=some (!kr l i.cg,if kr l i.cg=true then wO s k l else wO s k (l ++ [i])):=by
 refine a6.get ?_
 unfold xB
 obtain⟨n1,jN⟩:=al.iE
 refine .cX (fun _=>find_eq (wO s k l) _ (by show(iE _ l).length≤1000; omega)) fun aD J=> ?_
 have J:=J rfl
 rw [Bool.false_or]
 rcases J with⟨rfl,ab⟩ | ⟨j,ab,rfl,aE,aW,aX⟩
 ·have lj:kr l i.cg=false:=by rw [← ab]; exact Mj.symm
  refine .cond (fun ao=>by simp at ao) fun _=> ?_
  refine(Tp (b:=fG s k) (CO s k) (Lf (CO s k) al.PJ) (by omega) fun a a9=>TY h aq rfl (n1 a a9) aj).bind fun aM b9=> .eq (Gy h aq aj) ?_
  rw [b9]
  unfold Bf
  have fL:=Gt (b:=fG s k) (l:=iE (fG s k) l) (x:=i)
  refine .eq (a:=iE (fG s k) (l ++ [i])) ?_ (.ret ?_)
  ·show zP 88 (iE (fG s k) l) _ _=_
   unfold zP
   have pd:maxLen=9223372036854775807:=rfl
   rw [if_pos ⟨by omega,by omega,by simp,by simp <;> omega,by simp <;> omega⟩,Mh,M9]
   simp
  ·rw [lj]; rfl
 ·have u4:kr l i.cg=true:=by rw [← aW]; exact Mj.symm
  refine .cond (fun _=> .ret ?_) fun ao=>by simp at ao <;> omega
  rw [u4]; rfl
theorem SR {s:a0} (h:de s) {k:Nat} (aq:k < 4) {l:List aU} (al:∀ i∈l,ll s k i) (aO:l.length≤1000):vP l=some l:=by
 refine a6.get ?_
 unfold vP
 refine a6.loop l.length (fun i st=>st=((i:Int),l.take i)) (by omega) rfl (fun i st aj hs=> ?_) (fun st hs=> ?_)
 ·subst hs
  refine .cond (fun _=> ?_) (fun ao=>by simp at ao; omega)
  refine .idx rfl aj (.eq (Gy h aq (al _ (by rw [dU _ aj]; exact List.getElem_mem _))) (.eq (iq _ _ (by simp; omega) (by omega)) (.ret ?_)))
  rw [dz (by omega),pD l aj]
 ·subst hs
  refine⟨_,by simp; rfl,.ret ?_⟩
  simp
theorem Vv {s:a0} (h:de s) {k:Nat} (aq:k < 4) {l:List aU} (al:iC s k l):xA (wO s k l)=some (iE (fG s k) l):=by
 unfold xA
 obtain⟨n1,jN⟩:=al.iE
 show Option.bind (vP (iE (fG s k) l)) _=_
 rw [SR h aq n1 (by omega)]; rfl
theorem ll.small {s:a0} (h:de s) {k:Nat} (aq:k < 4) {i:aU} (aj:ll s k i):i.cr.cu.length≤1000∧i.cr.mn.length≤1000:=by
 have J:=aj.fl.len
 have ab:=aj.fl.args
 have aE:=(h.jd aq).2.1.2
 exact⟨by omega,by omega⟩
theorem TZ (c:bI):a6 (xJ c) (fun _=>True):=by
 unfold xJ
 first | exact .ret trivial | exact .eq rfl (.ret trivial)
end Go.Proofs.YtmnggbjcnoffeaaGreat
namespace Go.Proofs.YtmnggbjcnoffeaaGreat
open Go Gv
set_option linter.unusedVariables false
set_option linter.unusedSimpArgs false
set_option maxRecDepth 100000
structure kZ (hp:bg Cell) (t:Nat) (g:List Bool→Option Int):Prop where
 ok:∃ c,gM hp t=some c∧c.fU=32∧qP hp c.dr∧ ∀ bK,cont hp c.dr bK=g bK
def Own (hp:bg Cell) (t q:Nat):Prop:=q=t∨ ∃ c bK,gM hp t=some c∧eb hp c.dr bK=some q
def g5 (v:aw) (n:Nat):List Bool:=(List.range n).map fun i=>bV v (31 - i)
theorem KS (v:aw) (n:Nat):g5 v (n + 1)=g5 v n ++ [bV v (31 - n)]:=by simp [g5,List.range_succ]
theorem Lg {hp:bg Cell} {t:Nat} {c:gA} (ao:gM hp t=some c) (hb:c.fU=32) {n:Nat} (aO:n≤32) {v:aw} (a3:∀ j,j < 128→bV v j=true→lead 32 n j=true):
 vu hp (some t) v n=some true:=by
 refine a6.get ?_
 unfold vu
 have ay:(Option.isSome (some t) && decide ((n:Int)≥0))=true:=by simp
 have aS:decide ((n:Int)≤c.fU)=true:=by rw [hb]; simp; omega
 refine .cX (P:=fun r=>r=t) (fun _=>⟨t,rfl,rfl⟩) fun dT J=> ?_
 rw [J ay]
 refine .cX (P:=fun r=>r=c) (fun _=>⟨c,ao,rfl⟩) fun cZ ab=> ?_
 rw [ab ay]
 rw [ay,aS]
 refine .cX (P:=fun r=>r=t) (fun _=>⟨t,rfl,rfl⟩) fun cT aE=> ?_
 rw [aE rfl]
 refine .cX (P:=fun r=>r=c) (fun _=>⟨c,ao,rfl⟩) fun dX aW=> ?_
 rw [aW rfl,hb]
 refine .cX (fun _=>KO 32 n (by decide) (by decide)) fun aD aX=> ?_
 refine .cX (P:=fun r=>r=zZ v aD) (fun _=>⟨_,and_eq v aD,rfl⟩) fun aM bk=> ?_
 refine .eq rfl (.ret ?_)
 have:aM=v:=by
  rw [bk rfl]
  refine Gp fun j aF=> ?_
  rw [FX,aX rfl j aF]
  cases e:bV v j with
  | false=>rfl
  | true=>rw [a3 j aF e]; rfl
 rw [this]; simp
theorem Na {v:aw} {i:Nat} (aj:i < 32):a6 (qt v (bm ((bm ((32:Int) - 1)) - (i:Int)))) (fun r=>r=bV v (31 - i)):=by
 have e:bm ((bm ((32:Int) - 1)) - (i:Int))=((31 - i:Nat):Int):=by
  rw [show bm ((32:Int) - 1)=31 from by rw [gC (by decide) (by decide)]; rfl,gC (by omega) (by omega)]; omega
 rw [e]
 refine(Gq v _).mono fun r aQ=> ?_
 rw [aQ]
 have:decide (0≤ ((31 - i:Nat):Int)∧ ((31 - i:Nat):Int) < 128)=true:=by rw [decide_eq_true_eq]; omega
 rw [this,Bool.true_and]; rfl
theorem Nb (b:Bool):(cond b (some (1:Int)) (some 0))=some ((h7 b:Nat):Int):=by cases b <;> rfl
theorem Xx {σ ε:Type} {hp:bg Cell} {t:Nat} {c:gA} (ao:gM hp t=some c) (hb:c.fU=32) (v:aw) {n:Nat} (aO:n≤32) {step:Int→σ→Option (σ ⊕ ε)} {cf:σ} {P:σ ⊕ ε→Prop} (fr:Nat→σ→Prop) (bP:fr 0 cf)
 (hs:∀ i s,i < n→fr i s→a6 (step ((h7 (bV v (31 - i)):Nat):Int) s) (fun r=>match r with | .inl b8=>fr (i + 1) b8 | .inr e=>P (.inr e))) (he:∀ s,fr n s→P (.inl s)):a6 (tm hp n v (some t) step cf) P:=by
 unfold tm
 refine a6.loop n (fun i s=>s.1=(i:Int)∧fr i s.2) (by omega) ⟨rfl,bP⟩ (fun i s aj fe=> ?_) (fun s fe=> ?_)
 ·obtain⟨j,s⟩:=s; obtain⟨ay,aS⟩:=fe
  simp only at ay aS; subst ay
  refine a6.cond (fun _=> ?_) (fun h=>by simp at h; omega)
  refine .eq rfl (.eq ao ?_)
  rw [hb]
  refine(Na (by omega)).bind fun aD J=> .eq (Nb aD) ?_
  rw [J]
  refine(hs i s aj aS).bind fun r aQ=> ?_
  cases r with
  | inl b8=>exact .ret ⟨dz (by omega),aQ⟩
  | inr e=>exact .ret (.ret aQ)
 ·obtain⟨j,s⟩:=s; obtain⟨ay,aS⟩:=fe
  simp only at ay aS; subst ay
  refine⟨_,by simp; rfl,?_⟩
  exact .ret (he s aS)
theorem Xy {σ ε:Type} {t:Nat} (v:aw) {n:Nat} (aO:n≤32) {hq:σ→bg Cell} {step:Int→σ→aK (σ ⊕ ε)} {cf:σ} {P:σ ⊕ ε→Prop} (fr:Nat→σ→Prop) (bP:fr 0 cf) (ky:∀ i s,fr i s→ ∃ c,gM (hq s) t=some c∧c.fU=32)
 (hs:∀ i s,i < n→fr i s→eB (step ((h7 (bV v (31 - i)):Nat):Int) s) (fun r=>match r with | .inl b8=>fr (i + 1) b8 | .inr e=>P (.inr e))) (he:∀ s,fr n s→P (.inl s)):eB (tn n v (some t) hq step cf) P:=by
 unfold tn
 refine .bind (P:=fun e=>match e with | .inl e=>P (.inl e.2.2) | .inr e=>P (.inr e.2.2.2.2.2.2)) (eB.loop n (fun i s=>s.1=(i:Int)∧fr i s.2) (by omega) ⟨rfl,bP⟩ (fun i s aj fe=> ?_) (fun s fe=> ?_)) fun e h=> ?_
 ·obtain⟨j,s⟩:=s; obtain⟨ay,aS⟩:=fe
  simp only at ay aS; subst ay
  refine eB.cond (fun _=> ?_) (fun h=>by simp at h; omega)
  obtain⟨c,ao,hb⟩:=ky i s aS
  refine .eq rfl (.eq ao ?_)
  rw [hb]
  refine .ps (Na (by omega)) fun aD J=> .eq (Nb aD) ?_
  rw [J]
  refine .bind (hs i s aj aS) fun r aQ=> ?_
  cases r with
  | inl b8=>exact .ret ⟨dz (by omega),aQ⟩
  | inr e=>exact .ret aQ
 ·obtain⟨j,s⟩:=s; obtain⟨ay,aS⟩:=fe
  simp only at ay aS; subst ay
  refine eB.cond (fun h=>by simp at h) fun _=> .ret (he s aS)
 ·cases e with
  | inl e=>exact .ret h
  | inr e=>exact .ret h
theorem LG {hp:bg Cell} {t:Nat} {c:gA} (ao:gM hp t=some c) (hb:c.fU=32) (cc:qP hp c.dr) {n:Nat} (aO:n≤32) {v:aw} (a3:∀ j,j < 128→bV v j=true→lead 32 n j=true):
 vx hp (some t) v n=some (eb hp c.dr (g5 v n)):=by
 refine a6.get ?_
 unfold vx
 refine .eq (Lg ao hb aO a3) (.cond (fun h=>by cases h) fun _=> .eq rfl (.eq ao (.eq rfl ?_)))
 show a6 (Option.bind (tm hp (n:Int) v (some t) _ _) _) _
 refine a6.bind (P:=fun e:Ref ⊕ (Ref × Ref)=>e.elim (fun s=>s=eb hp c.dr (g5 v n)) (fun q=>q.2=eb hp c.dr (g5 v n))) (Xx ao hb v aO (fun i s=>s=eb hp c.dr (g5 v i)) tN.symm (fun i s aj hs=> ?_) (fun s hs=>hs)) fun e he=> ?_
 ·refine .cond (fun h=> .ret ?_) fun h=> ?_
  ·rw [Option.isNone_iff_eq_none] at h
   have ay:g5 v n=g5 v i ++ (g5 v n).drop i:=by
    have:g5 v i=(g5 v n).take i:=by unfold g5; rw [← List.map_take,List.take_range]; congr 2; omega
    rw [this,List.take_append_drop]
   show(none:Ref)=_
   rw [ay,pL,← hs,h,iF]
  ·cases s with
   | none=>simp at h
   | some p=>
     obtain⟨cZ,J⟩:=cc.reads _ _ hs.symm
     refine .eq rfl (.idx rfl (by cases bV v (31 - i) <;> decide) (.eq J (.ret ?_)))
     show bd cZ.fu _=_
     rw [KS,pL,← hs,kE J,tN]
 ·cases e with
  | inl s=>exact .ret he
  | inr q=>exact .ret he
theorem Vw {hp:bg Cell} {t:Nat} {g:List Bool→Option Int} (h:kZ hp t g) {n:Nat} (aO:n≤32) {v:aw} (a3:∀ j,j < 128→bV v j=true→lead 32 n j=true):
 vC hp (some t) v n=some (match g (g5 v n) with | none=>(0,false) | some id=>(id,true)):=by
 obtain⟨c,ao,hb,cc,bZ⟩:=h.ok
 refine a6.get ?_
 unfold vC
 refine .eq (LG ao hb cc aO a3) ?_
 rw [← bZ]
 cases e:eb hp c.dr (g5 v n) with
 | none=>
   rw [oT e]
   refine .cX (P:=fun _=>True) (fun h=>by cases h) fun o _=> .cX (P:=fun _=>True) (fun h=>by cases h) fun o _=> .cond (fun _=> .ret rfl) fun h=>by cases h
 | some p=>
   obtain⟨d,hd⟩:=cc.reads _ _ e
   rw [nq e hd]
   refine .cX (P:=fun r=>r=p) (fun _=>⟨p,rfl,rfl⟩) fun o J=> ?_
   rw [J rfl]
   refine .cX (P:=fun r=>r=d) (fun _=>⟨d,hd,rfl⟩) fun cZ ab=> ?_
   rw [ab rfl]
   refine .cond (fun h=> ?_) fun h=> ?_
   ·have:d.fv=false:=by simpa using h
    rw [this]; exact .ret rfl
   ·have:d.fv=true:=by simpa using h
    rw [this]; exact .eq rfl (.eq hd (.ret rfl))
end Go.Proofs.YtmnggbjcnoffeaaGreat
namespace Go.Proofs.YtmnggbjcnoffeaaGreat
open Go Gv
set_option linter.unusedVariables false
set_option linter.unusedSimpArgs false
set_option maxRecDepth 100000
structure Dz (na hp:bg Cell) (t:Nat) (g:List Bool→Option Int) (r:Nat):Prop where
 cell:∃ c,gM hp t=some c∧c.fU=32∧c.dr=some r
 tree:qP hp (some r)
 cont:∀ bK,cont hp (some r) bK=g bK
 keeps:gN na hp (Own na t)
 own:∀ bK q,eb hp (some r) bK=some q→Own na t q∨q ∉ eG na
theorem yH {hp:bg Cell} {a t:Nat} {k:Cell} (a9:a ∉ eG hp) (h:pat hp t=some k):a≠t:=fun e=>a9 (e ▸ lC h)
theorem LH {hp:bg Cell} {a:Nat} {x:eX} :dH ((a,.hf x) :: hp) a=some x:=by rw [qy,sd,if_pos rfl]
theorem SS {hp:bg Cell} {a:Nat} (a9:a ∉ eG hp):dH hp a=none:=by unfold dH; rw [TR a9]
theorem Fy {hp:bg Cell} {p:Nat} {k:Cell} {x:eX} (h:pat hp p=some k):dH (ea hp p (.hf x)) p=some x:=by rw [qy,wz h]
theorem tC {hp:bg Cell} {p q:Nat} {k:Cell} (h:p≠q):dH (ea hp p k) q=dH hp q:=yw (r8 h)
theorem Kx {hp:bg Cell} {a q:Nat} {k:Cell} (h:a≠q):dH ((a,k) :: hp) q=dH hp q:=yw (by rw [sd,if_neg h])
theorem T0 {hp:bg Cell} {p:Nat} {k:Cell} {x:gA} (h:pat hp p=some k):gM (ea hp p (.jX x)) p=some x:=by rw [r9,wz h]
theorem E2 {hp:bg Cell} {p q:Nat} {k:Cell} (h:p≠q):gM (ea hp p k) q=gM hp q:=E1 (r8 h)
theorem Ky {hp:bg Cell} {a q:Nat} {k:Cell} (h:a≠q):gM ((a,k) :: hp) q=gM hp q:=E1 (by rw [sd,if_neg h])
theorem Ok {hp:bg Cell} {p t:Nat} {x:eX} {c:gA} (J:dH hp p=some x) (ab:gM hp t=some c):p≠t:=fun e=>by
 subst e
 rw [qy] at J; rw [r9,J] at ab; cases ab
theorem Vx {hp:bg Cell} {t:Nat} {g:List Bool→Option Int} {c:gA} (ao:gM hp t=some c) (hb:c.fU=32) (cc:qP hp c.dr) (bZ:∀ bK,cont hp c.dr bK=g bK):
 eB (cond c.dr.isNone (
     aK.bind (aK.mk hp (Cell.hf (default:eX))) fun eR=>
     aK.bind (aK.of (gM eR.2 t)) fun AT=>
     aK.bind (aK.of (some (ea eR.2 t (Cell.jX ({ AT with dr:=(some eR.1:Ref) } :gA))))) fun z7=>
     aK.ret z7) (aK.ret hp)) (fun dZ=> ∃ r,Dz hp dZ t g r):=by
 have kv:=r9.1 ao
 refine .cond (fun h=> .mk fun a a9=> ?_) fun h=> ?_
 ·have aQ:c.dr=none:=by rw [Option.isNone_iff_eq_none] at h; exact h
  have PK:=yH a9 kv
  have DI:gM ((a,Cell.hf default) :: hp) t=some c:=by rw [Ky PK]; exact ao
  refine .eq DI (.eq rfl (.ret ⟨a,?_⟩))
  have aO:dH (ea ((a,Cell.hf default) :: hp) t (.jX { c with dr:=some a })) a=some default:=by
   rw [tC PK.symm,LH]
  have a7:=Le aO
  refine⟨⟨_,T0 (r9.1 DI),hb,rfl⟩,⟨fun bK p J=> ?_,fun bK cs p J ab=> ?_,fun bK p J=> ?_⟩,fun bK=> ?_,?_,fun bK q J=> ?_⟩
  ·rw [a7] at J
   split at J
   ·cases J; exact⟨_,aO⟩
   ·cases J
  ·rw [a7] at J ab
   split at J <;> split at ab
   ·rename_i ay aS; rw [ay,aS]
   ·cases ab
   ·cases J
   ·cases J
  ·rw [a7] at J
   split at J
   ·rename_i e; rw [e]; exact Nat.zero_le _
   ·cases J
  ·rw [← bZ,aQ,oT iF]
   by_cases e:bK= []
   ·rw [nq (by rw [a7,if_pos e]) aO]; rfl
   ·rw [oT (by rw [a7,if_neg e])]
  ·exact(gN.mk' a9).trans (own':=fun q=>q=t) (gN.up (own:=fun q=>q=t) rfl) fun q _ J=> .inl J
  ·rw [a7] at J
   split at J
   ·cases J; exact .inr a9
   ·cases J
 ·cases aQ:c.dr with
  | none=>rw [aQ] at h; cases h
  | some r=>
    rw [aQ] at cc bZ
    exact .ret ⟨r,⟨c,ao,hb,aQ⟩,cc,bZ,.refl,fun bK q J=> .inl (.inr ⟨c,bK,ao,by rw [aQ]; exact J⟩)⟩
theorem Xz {hp:bg Cell} {t:Nat} {g:List Bool→Option Int} (h:kZ hp t g) {n:Nat} (aO:n≤32) {v:aw} (a3:∀ j,j < 128→bV v j=true→lead 32 n j=true) (id:Int) (fZ:g (g5 v n)=none):
 eB (vF hp (some t) v n id) (fun r=>r.1=true∧kZ r.2 t (fun bK=>if bK=g5 v n then some id else g bK)∧gN hp r.2 (Own hp t)∧ ∀ q,Own r.2 t q→Own hp t q∨q ∉ eG hp):=by
 obtain⟨c,ao,hb,cc,bZ⟩:=h.ok
 unfold vF
 refine .eq (Lg ao hb aO a3) (.cond (fun h=>by cases h) fun _=> .eq (LG ao hb cc aO a3) ?_)
 refine .cX (P:=fun o=>eb hp c.dr (g5 v n)=some o) (fun J=> ?_) fun dT J=> ?_
 ·cases e:eb hp c.dr (g5 v n) with
  | none=>rw [e] at J; cases J
  | some p=>exact⟨p,rfl,rfl⟩
 refine .cX (P:=fun d=>dH hp dT=some d) (fun ab=> ?_) fun cZ ab=> ?_
 ·obtain⟨d,hd⟩:=cc.reads _ _ (J ab)
  exact⟨d,hd,hd⟩
 refine .cond (fun aE=> ?_) fun _=> ?_
 ·simp only [Bool.and_eq_true] at aE
  rw [← bZ,nq (J aE.1) (ab aE.1),aE.2] at fZ
  cases fZ
 refine .eq rfl (.eq ao (.bind (Vx ao hb cc bZ) fun bJ cB=> ?_))
 obtain⟨r,cB⟩:=cB
 obtain⟨gx,mz,AI,Z9⟩:=cB.cell
 refine .eq mz (.eq rfl ?_)
 show eB (aK.bind (tn (n:Int) v (some t) _ _ _) _) _
 refine .bind (P:=fun e:(Ref × bg Cell) ⊕ Empty=> ∃ p e1,e= .inl (some p,e1)∧eb e1 (some r) (g5 v n)=some p∧Dz hp e1 t g r) (Xy v aO (fun i s=> ∃ p,s.1=some p∧eb s.2 (some r) (g5 v i)=some p∧Dz hp s.2 t g r) ⟨r,Z9,tN,cB⟩ (fun i s aj=> ?_) (fun i s aj hs=> ?_) (fun s hs=> ?_)) fun e he=> ?_
 ·obtain⟨p,_,_,hm⟩:=aj
  obtain⟨d,aW,aX,_⟩:=hm.cell
  exact⟨d,aW,aX⟩
 ·obtain⟨aaa,e1⟩:=s
  obtain⟨p,ay,aS,hm⟩:=hs
  simp only at ay aS hm
  subst ay
  obtain⟨d,hd⟩:=hm.tree.reads _ _ aS
  have cv:h7 (bV v (31 - i)) < 2:=by cases bV v (31 - i) <;> decide
  refine .eq rfl (.idx rfl cv (.eq hd ?_))
  refine .bind (P:=fun iA=> ∃ q Jr,dH iA p=some Jr∧bd Jr.fu (h7 (bV v (31 - i)))=some q∧eb iA (some r) (g5 v i)=some p∧Dz hp iA t g r) (.cond (fun bk=> .mk fun a a9=> ?_) fun bk=> .ret ?_) fun iA cV=> ?_
  ·have D6:bd d.fu (h7 (bV v (31 - i)))=none:=by rw [Option.isNone_iff_eq_none] at bk; exact bk
   have PL:=yH a9 (qy.1 hd)
   have j3:dH ((a,Cell.hf default) :: e1) p=some d:=by rw [Kx PL]; exact hd
   refine .idx rfl cv (.eq j3 (.eq rfl (.ret ?_)))
   have fL:dH (ea ((a,Cell.hf default) :: e1) p (.hf { d with fu:=cq d.fu (h7 (bV v (31 - i))) (some a) })) a=some default:=by
    rw [tC PL.symm,LH]
   have fp:dH (ea ((a,Cell.hf default) :: e1) p (.hf { d with fu:=cq d.fu (h7 (bV v (31 - i))) (some a) })) p=some { d with fu:=cq d.fu (h7 (bV v (31 - i))) (some a) } :=Fy (qy.1 j3)
   obtain⟨au,aT,bq⟩:=grow (by unfold g5; simp; omega) hm.tree aS hd D6 (SS a9) fp fL fun q pr oE=>by rw [tC pr.symm,Kx oE.symm]
   have z0:Own hp t p∨p ∉ eG hp:=hm.own _ _ aS
   refine⟨a,_,fp,by rw [eK _ _ cv,if_pos rfl],by rw [aT,if_neg (fun e=>by have:=congrArg List.length e; simp at this)]; exact aS,?_,au,fun bK=>by rw [bq,hm.cont],?_,fun bK q hq=> ?_⟩
   ·obtain⟨d4,aW,aX,eS⟩:=hm.cell
    have kv:=Ok hd aW
    exact⟨d4,by rw [E2 kv,Ky (yH a9 (r9.1 aW))]; exact aW,aX,eS⟩
   ·refine hm.keeps.trans (own':=fun q=>q=p) ((gN.mk' a9).trans (own':=fun q=>q=p) (gN.up (own:=fun q=>q=p) rfl) fun q _ fB=>fB) fun q hq fB=> ?_
    subst fB
    exact z0.resolve_right fun jK=>jK hq
   ·rw [aT] at hq
    split at hq
    ·cases hq; exact .inr fun fB=>a9 (hm.keeps.keys _ fB)
    ·exact hm.own _ _ hq
  ·cases D6:bd d.fu (h7 (bV v (31 - i))) with
   | none=>rw [D6] at bk; cases bk
   | some q=>exact⟨q,d,hd,D6,aS,hm⟩
  ·obtain⟨q,Jr,eS,fB,jK,oH⟩:=cV
   refine .idx rfl cv (.eq eS (.ret ⟨q,fB,?_,oH⟩))
   show eb iA (some r) (g5 v (i + 1))=some q
   rw [KS,pL,jK,kE eS,fB,tN]
 ·obtain⟨aaa,e1⟩:=s
  obtain⟨p,ay,aS,hm⟩:=hs
  simp only at ay aS hm
  subst ay
  exact⟨p,e1,rfl,aS,hm⟩
 ·obtain⟨p,e1,rfl,aS,hm⟩:=he
  obtain⟨d,hd⟩:=hm.tree.reads _ _ aS
  have aab:=qy.1 hd
  refine .eq rfl (.eq hd (.eq rfl (.eq rfl ?_)))
  have j3:dH (ea e1 p (.hf { d with fv:=true })) p=some { d with fv:=true } :=Fy aab
  refine .eq j3 (.eq rfl (.ret ?_))
  have nM:dH (ea (ea e1 p (.hf { d with fv:=true })) p (.hf { d with fv:=true,nA:=id })) p=some { d with fv:=true,nA:=id } :=Fy (qy.1 j3)
  obtain⟨s1,s2⟩:=Y0 hm.tree aS hd nM rfl fun q hq=>by rw [tC hq.symm,tC hq.symm]
  obtain⟨d4,aW,aX,eS⟩:=hm.cell
  have kv:=Ok hd aW
  have u4:gM (ea (ea e1 p (.hf { d with fv:=true })) p (.hf { d with fv:=true,nA:=id })) t=some d4:=by rw [E2 kv,E2 kv]; exact aW
  have z0:Own hp t p∨p ∉ eG hp:=hm.own _ _ aS
  refine⟨rfl,⟨d4,u4,aX,by rw [eS]; exact s1,fun bK=> ?_⟩,?_,fun q hq=> ?_⟩
  ·rw [eS,s2,hm.cont]; rfl
  ·refine hm.keeps.trans (own':=fun q=>q=p) ((gN.up (own:=fun q=>q=p) rfl).trans (own':=fun q=>q=p) (gN.up (own:=fun q=>q=p) rfl) fun q _ fB=>fB) fun q hq fB=> ?_
   subst fB
   exact z0.resolve_right fun jK=>jK hq
  ·rcases hq with rfl | ⟨jQ,bK,J,ab⟩
   ·exact .inl (.inl rfl)
   ·rw [u4] at J; cases J
    rw [eS,Cn hd nM rfl (fun q hq=>by rw [tC hq.symm,tC hq.symm])] at ab
    exact hm.own _ _ ab
end Go.Proofs.YtmnggbjcnoffeaaGreat
namespace Go.Proofs.YtmnggbjcnoffeaaGreat
open Go Gv
set_option linter.unusedVariables false
set_option linter.unusedSimpArgs false
set_option maxRecDepth 100000
def enc:Option (Nat × Int)→Int × Int × Bool
 | none=>(0,0,false)
 | some (n,id)=>((n:Int),id,true)
end Go.Proofs.YtmnggbjcnoffeaaGreat
namespace Go.Proofs.YtmnggbjcnoffeaaGreat
open Go Gv
set_option linter.unusedVariables false
set_option linter.unusedSimpArgs false
set_option maxRecDepth 100000
theorem de.D7 {s:a0} (h:de s):∃ e6 gy hU,∀ k,k < 4→m1 (aB s.bB k)=aB (re e6 gy hU) k:=by
 obtain⟨e6,gy,hU,e⟩:=h.tables
 refine⟨e6,gy,hU,fun k aq=> ?_⟩
 rw [← e,qz m1 (by rw [h.js]; exact aq)]
theorem tE (t:bX) {r:Int × Int} (aP:List cJ) (aq:t.bQ=aP) (h:vH { (default:bX) with bQ:=aP } =some r):vH t=some r:=by
 subst aq
 exact h
def n2 (k:Nat):Int:=aB [1,2,3,3] k
theorem Tq {s:a0} (h:de s) {k:Nat} (aq:k < 4):a6 (vH (aB s.bB k)) (fun r=>r.1=n2 k∧ (k=1→r.2=0)):=by
 obtain⟨e6,gy,hU,e⟩:=h.D7
 have e:=e k aq
 have g1:(aB s.bB k).bQ=(aB (re e6 gy hU) k).2.2:=congrArg (·.2.2) e
 have:k=0∨k=1∨k=2∨k=3:=by omega
 rcases this with rfl | rfl | rfl | rfl
 ·exact⟨_,tE _ [ti] g1 rfl,rfl,fun h=>by simp at h⟩
 ·cases e6
  ·exact⟨_,tE _ [vc] g1 rfl,rfl,fun _=>rfl⟩
  ·exact⟨_,tE _ [vc,Jo] g1 rfl,rfl,fun _=>rfl⟩
 ·cases gy
  ·exact⟨_,tE _ [A6,AD] g1 rfl,rfl,fun h=>by simp at h⟩
  ·exact⟨_,tE _ [A6,AD,Jp] g1 rfl,rfl,fun h=>by simp at h⟩
 ·cases hU
  ·exact⟨_,tE _ [A7] g1 rfl,rfl,fun h=>by simp at h⟩
  ·exact⟨_,tE _ [A7,Jq,vc] g1 rfl,rfl,fun h=>by simp at h⟩
structure w2 (s:a0) (k:Nat) (na hp:bg Cell) (p:Nat):Prop where
 cell:∃ c m,jF hp p=some c∧c.qM=n2 k∧c.qN=((aB s.bB k).bQ.length:Int)∧c.mL=⟨some m⟩∧ny hp m=some []∧
  (k=0→ ∃ q cy,c.kj= .nB ⟨some q⟩∧ou hp q=some ⟨⟨some cy⟩⟩∧mZ hp cy=some []∧q ∉ eG na∧cy ∉ eG na)∧
  (k=1→ ∃ fm,c.kj= .nC ⟨0,32,⟨some fm⟩⟩∧kp hp fm=some []∧fm ∉ eG na)∧
  (2≤k→ ∃ q key cap,c.kj= .nD ⟨some q⟩∧ov hp q=some (({ oR:=s,ef:= [] } :dM),key,cap)∧q ∉ eG na)∧
  p ∉ eG na∧m ∉ eG na∧ (∀ q,q∈eG na→q∈eG hp)∧ ∀ q,q∈eG na→pat hp q=pat na q
theorem XA {s:a0} (h:de s) {k:Nat} (aq:k < 4) (hp:bg Cell):eB (vV hp s ((k:Int) + 1)) (fun r=> ∃ p,r.1=some p∧w2 s k hp r.2 p):=by
 unfold vV
 refine .ps (B4 h aq) fun aD ay=> ?_
 subst ay
 refine .cond (fun ao=>by simp at ao; omega) fun _=> ?_
 refine .idx rfl (by rw [h.js]; exact aq) (.ps (Tq h aq) fun aM ab=> .mk fun m hm=> .eq rfl (.mk fun p dZ=> ?_))
 obtain⟨aay,key⟩:=aM
 obtain⟨ab,aE⟩:=ab
 simp only at ab aE dZ
 subst ab
 have m8:p≠m:=fun e=>by subst e; simp [eG] at dZ
 have:k=0∨k=1∨2≤k:=by omega
 rcases this with rfl | rfl | cD
 ·have e:(n2 0 ==1)=true:=rfl
  simp only [e,cond_true]
  unfold B0
  refine .bind (P:=fun e1=>w2 s 0 hp e1 p) (.bind (P:=fun r=> ∃ q cy,r=((some q:Ref),(q,Cell.wP ⟨⟨some cy⟩⟩) :: (cy,Cell.o4 []) :: (p,_) :: (m,Cell.l6 []) :: hp)∧cy ∉ eG ((p,_) :: (m,Cell.l6 []) :: hp)∧q ∉ eG ((cy,Cell.o4 []) :: (p,_) :: (m,Cell.l6 []) :: hp)) (.mk fun cy dE=> .mk fun q hq=> .ret ⟨q,cy,rfl,dE,hq⟩) fun a8 aW=> ?_) fun e1 aX=> .ret ⟨p,rfl,aX⟩
  obtain⟨q,cy,rfl,dE,hq⟩:=aW
  simp only [eG,List.map_cons,List.mem_cons,not_or] at dE hq dZ
  refine .eq (by simp [jF,pat,hq.1,hq.2,dE.1,hq.2.2.1,Ne.symm]; rfl) (.eq rfl (.ret ?_))
  refine⟨{ qM:=n2 0,qN:=((aB s.bB 0).bQ.length:Int),kj:= .nB ⟨some q⟩,mL:=⟨some m⟩ },m,?_,rfl,rfl,rfl,?_,?_,fun ao=>by simp at ao,fun ao=>by simp at ao,dZ.2,hm,fun x an=>by rw [tL]; exact List.mem_cons_of_mem _ (List.mem_cons_of_mem _ (List.mem_cons_of_mem _ (List.mem_cons_of_mem _ an))),fun x an=> ?_⟩
  ·simp [jF,pat,ea,hq.1,hq.2,dE.1,hq.2.2.1]
  ·simp [ny,pat,ea,hq.1,hq.2,dE.1,hq.2.2.1,dE.2.1,dZ.1]
  ·intro _
   refine⟨q,cy,rfl,?_,?_,hq.2.2.2,dE.2.2⟩
   ·simp [ou,pat,ea,hq.1,hq.2,dE.1,hq.2.2.1,dE.2.1,dZ.1]
   ·simp [mZ,pat,ea,hq.1,hq.2,dE.1,hq.2.2.1,dE.2.1,dZ.1]
  ·have vd:q≠x:=fun e=>hq.2.2.2 (by rw [e]; exact an)
   have Js:cy≠x:=fun e=>dE.2.2 (by rw [e]; exact an)
   have Ba:p≠x:=fun e=>dZ.2 (by rw [e]; exact an)
   have Bb:m≠x:=fun e=>hm (by rw [e]; exact an)
   simp [yY,pat,vd,Js,Ba,Bb]
 ·have e:(n2 1 ==1)=false:=rfl
  have aS:(n2 1 ==2)=true:=rfl
  simp only [e,aS,cond_true,cond_false]
  have aE:=aE rfl
  subst aE
  obtain⟨t1,⟨t2,t3⟩,t4,_⟩:=h.jd aq
  have a7:(aB (aB s.bB 1).bQ 0).gn=((6:Nat):Int) + 1:=by
   obtain⟨e6,gy,hU,e⟩:=h.D7
   have e:=congrArg (·.2.2) (e 1 aq)
   show(aB (m1 (aB s.bB 1)).2.2 0).gn=_
   rw [e]
   cases e6 <;> rfl
  refine .bind (P:=fun e1=>w2 s 1 hp e1 p) (.bind (P:=fun e1=>w2 s 1 hp e1 p) ?_ fun _ bk=> .ret bk) fun e1 aX=> .ret ⟨p,rfl,aX⟩
  refine .idx (k:=0) rfl (by omega) ?_
  simp only [a7]
  refine .ps (Kv h (show 6 < 9 by decide)) fun br eh=> ?_
  subst eh
  refine .ps (P:=fun r=>r=32) (.cond (fun _=> .idx rfl (by rw [h.p0]; decide) (.ret (h.rA (show 6 < 9 by decide)).2)) (fun ao=>by simp at ao)) fun b hb=> ?_
  subst hb
  refine .mk fun fm hS=> ?_
  simp only [eG,List.map_cons,List.mem_cons,not_or] at hS dZ
  refine .eq rfl (.eq (by simp [jF,pat,hS.1]; rfl) (.eq rfl (.ret ?_)))
  refine⟨{ qM:=n2 1,qN:=((aB s.bB 1).bQ.length:Int),kj:= .nC ⟨0,32,⟨some fm⟩⟩,mL:=⟨some m⟩ },m,?_,rfl,rfl,rfl,?_,fun ao=>by simp at ao,?_,fun ao=>by simp at ao,dZ.2,hm,fun x an=>by rw [tL]; exact List.mem_cons_of_mem _ (List.mem_cons_of_mem _ (List.mem_cons_of_mem _ an)),fun x an=> ?_⟩
  ·simp [jF,pat,ea,hS.1]
  ·simp [ny,pat,ea,hS.1,hS.2.1,dZ.1]
  ·intro _
   refine⟨fm,rfl,?_,hS.2.2⟩
   simp [kp,pat,ea,hS.1,hS.2.1,dZ.1]
  ·have vd:fm≠x:=fun e=>hS.2.2 (by rw [e]; exact an)
   have Ba:p≠x:=fun e=>dZ.2 (by rw [e]; exact an)
   have Bb:m≠x:=fun e=>hm (by rw [e]; exact an)
   simp [yY,pat,vd,Ba,Bb]
 ·have e:(n2 k ==1)=false:=by
   have:k=2∨k=3:=by omega
   rcases this with rfl | rfl <;> rfl
  have aS:(n2 k ==2)=false:=by
   have:k=2∨k=3:=by omega
   rcases this with rfl | rfl <;> rfl
  simp only [e,aS,cond_true,cond_false]
  refine .bind (P:=fun e1=>w2 s k hp e1 p) (.bind (P:=fun e1=>w2 s k hp e1 p) ?_ fun _ bk=> .ret bk) fun e1 aX=> .ret ⟨p,rfl,aX⟩
  refine .eq rfl (.any fun fS=> .mk fun q hq=> ?_)
  simp only [eG,List.map_cons,List.mem_cons,not_or] at hq dZ
  refine .eq (by simp [jF,pat,hq.1]; rfl) (.eq rfl (.ret ?_))
  refine⟨{ qM:=n2 k,qN:=((aB s.bB k).bQ.length:Int),kj:= .nD ⟨some q⟩,mL:=⟨some m⟩ },m,?_,rfl,rfl,rfl,?_,fun ao=>by omega,fun ao=>by omega,fun _=>⟨q,fS.1,fS.2,rfl,?_,hq.2.2⟩,dZ.2,hm,fun x an=>by rw [tL]; exact List.mem_cons_of_mem _ (List.mem_cons_of_mem _ (List.mem_cons_of_mem _ an)),fun x an=> ?_⟩
  ·simp [jF,pat,ea,hq.1]
  ·simp [ny,pat,ea,hq.1,hq.2.1,dZ.1]
  ·simp [ov,pat,ea,hq.1]
  ·have vd:q≠x:=fun e=>hq.2.2 (by rw [e]; exact an)
   have Ba:p≠x:=fun e=>dZ.2 (by rw [e]; exact an)
   have Bb:m≠x:=fun e=>hm (by rw [e]; exact an)
   simp [yY,pat,vd,Ba,Bb]
end Go.Proofs.YtmnggbjcnoffeaaGreat
namespace Go.Proofs.YtmnggbjcnoffeaaGreat
open Go Gv
set_option linter.unusedVariables false
set_option linter.unusedSimpArgs false
set_option maxRecDepth 100000
theorem LI {α:Type} {b:α→α→Bool} (hb:u5 b) {q:α→Bool} :∀ {l:List α} {c:α},l.Pairwise (fun x y=>b x y=true)→c∈l→q c=true→ (∀ d∈l,q d=true→d=c∨b c d=true)→l.find? q=some c
 | [],c,_,ao,_,_=>by cases ao
 | a :: l,c,hs,ao,hq,hd=>by
   obtain⟨J,ab⟩:=List.pairwise_cons.1 hs
   by_cases tb:q a=true
   ·rw [List.find?_cons_of_pos tb]
    rcases hd a (by simp) tb with h | h
    ·rw [h]
    ·rcases List.mem_cons.1 ao with aE | aE
     ·rw [aE]
     ·have:=hb.asymm _ _ (J c aE)
      rw [this] at h; cases h
   ·rw [List.find?_cons_of_neg tb]
    rcases List.mem_cons.1 ao with aE | aE
    ·rw [aE] at hq; exact absurd hq tb
    ·exact LI hb ab aE hq fun d hd' aac=>hd d (by simp [hd']) aac
theorem UP {α:Type} {b:α→α→Bool} (hb:u5 b) {q:α→Bool} {l:List α} {c:α} (h:p2 b l) (ao:c∈l) (hq:q c=true) (hd:∀ d∈l,q d=true→d=c∨b c d=true):(iE b l).find? q=some c:=
 LI hb (Lf hb h) (ub.2 ao) hq fun d hd'=>hd d (ub.1 hd')
theorem iC.uniq {s:a0} {k:Nat} :∀ {l:List aU},iC s k l→ ∀ {a c:aU},a∈l→c∈l→a.cg=c.cg→a=c:=fun {l} h {a c} a9 ao e=>by
 have aO:=h.num
 clear h
 induction l with
 | nil=>cases a9
 | cons x l bO=>
   obtain⟨J,ab⟩:=List.pairwise_cons.1 aO
   rcases List.mem_cons.1 a9 with au | au <;> rcases List.mem_cons.1 ao with aT | aT
   ·rw [au,aT]
   ·rw [au] at e; exact absurd e (J c aT)
   ·rw [aT] at e; exact absurd e.symm (J a au)
   ·exact bO au aT ab
theorem de.XB {s:a0} (h:de s):(aB s.bB 0).bQ= [ti]:=by
 obtain⟨e6,gy,hU,e⟩:=h.D7
 exact congrArg (·.2.2) (e 0 (by decide))
theorem de.He {s:a0} (h:de s):∃ b,(aB s.bB 1).bQ=sC b:=by
 obtain⟨e6,gy,hU,e⟩:=h.D7
 exact⟨e6,congrArg (·.2.2) (e 1 (by decide))⟩
def Jt (s:a0) (k:Nat):Nat:=(aB s.bB k).bQ.length
theorem UQ {α:Type} [Inhabited α] {n:Nat} {f:Fin n→α} {j:Nat} (h:j < n):bd (Vector.ofFn f) j=f ⟨j,h⟩:=by unfold bd; simp [h]
def gR (e:bL):Vector aw 4:=Vector.ofFn fun i=>if i.1 < e.cu.length then(aB e.cu i.1).bW else default
def kg (p:Vector aw 4):Vector aw 4:=cq p 0 default
theorem v8 {e:bL} {j:Nat} (h:j < 4):bd (gR e) j=if j < e.cu.length then(aB e.cu j).bW else default:=UQ h
theorem Mk {p:Vector aw 4} {j:Nat} :bd (kg p) j=if j=0 then default else bd p j:=by unfold kg; rw [eK _ _ (by decide)]
theorem OW {v w:Vector aw 4} :v=w↔bd v 0=bd w 0∧bd v 1=bd w 1∧bd v 2=bd w 2∧bd v 3=bd w 3:=by
 refine⟨fun h=>by rw [h]; exact⟨rfl,rfl,rfl,rfl⟩,fun⟨bP,J,ab,aE⟩=>Cm fun j aF=> ?_⟩
 rcases (show j=0∨j=1∨j=2∨j=3 by omega) with rfl | rfl | rfl | rfl <;> assumption
theorem T1 {v w:aw} {n m:Nat} :g5 v n=g5 w m↔n=m∧ ∀ i,i < n→bV v (31 - i)=bV w (31 - i):=by
 unfold g5
 constructor
 ·intro h
  have al:=congrArg List.length h
  simp only [List.length_map,List.length_range] at al
  subst al
  refine⟨rfl,fun i aj=> ?_⟩
  have:=congrArg (·[i]?) h
  simpa [aj] using this
 ·rintro ⟨rfl,h⟩
  exact List.map_congr_left fun i aj=>h i (List.mem_range.1 aj)
def mF (e:bL):List Bool:=g5 (aB e.cu 0).bW (aB e.cu 0).gV.toNat
theorem DA {s:a0} (h:de s) {e:bL} (he:ie s 1 e):o3 2 32 (aB e.cu 0):=by
 have hm:=he.AG 0
 obtain⟨b,hb⟩:=h.He
 rw [hb] at hm
 cases b
 ·exact hm (by decide)
 ·exact hm (by decide)
theorem zb {k:Int} (bP:0≤k) (J:k≤32) {j:Nat} :lead 32 k j=true↔32 - k≤ (j:Int)∧j < 32:=by
 unfold lead; rw [Bool.and_eq_true,decide_eq_true_eq,decide_eq_true_eq]; omega
theorem UR {m:cA} (hm:o3 2 32 m) {v:aw} {n:Nat} (aO:n≤32):g5 m.bW m.gV.toNat=g5 v n↔m.gV=n∧ ∀ j,j < 128→lead 32 m.gV j=true→bV v j=bV m.bW j:=by
 have hp:=hm.pre
 rw [T1]
 constructor
 ·rintro ⟨J,ab⟩
  refine⟨by omega,fun j aF al=> ?_⟩
  rw [zb hp.1 hp.2] at al
  have:=ab (31 - j) (by omega)
  rw [show 31 - (31 - j)=j by omega] at this
  exact this.symm
 ·rintro ⟨J,ab⟩
  refine⟨by omega,fun i aj=> ?_⟩
  exact(ab (31 - i) (by omega) ((zb hp.1 hp.2).2 (by omega))).symm
theorem OX {s:a0} (h:de s) {e:bL} (he:ie s 1 e):e.g9=0:=by
 refine he.pri fun i aj=> ?_
 obtain⟨b,hb⟩:=h.He
 rw [hb] at aj ⊢
 cases b
 ·have:i=0:=by have:i < 1:=aj; omega
  subst this; decide
 ·have:i=0∨i=1:=by have:i < 2:=aj; omega
  rcases this with rfl | rfl <;> decide
end Go.Proofs.YtmnggbjcnoffeaaGreat
namespace Go.Proofs.YtmnggbjcnoffeaaGreat
open Go Gv
set_option linter.unusedVariables false
set_option linter.unusedSimpArgs false
set_option maxRecDepth 100000
end Go.Proofs.YtmnggbjcnoffeaaGreat
namespace Go.Proofs.YtmnggbjcnoffeaaGreat
open Go Gv
set_option linter.unusedVariables false
set_option linter.unusedSimpArgs false
set_option maxRecDepth 100000
def iJ {α β:Type} (R:α→β→Prop) (xs:List α) (ys:List β):Prop:=xs.length=ys.length∧ ∀ t (h:t < xs.length) (cR:t < ys.length),R xs[t] ys[t]
theorem iJ.nil {α β:Type} {R:α→β→Prop} :iJ R [] []:=⟨rfl,fun t h=>by cases h⟩
theorem iJ.snoc {α β:Type} {R:α→β→Prop} {xs:List α} {ys:List β} {x:α} {y:β} (h:iJ R xs ys) (aQ:R x y):iJ R (xs ++ [x]) (ys ++ [y]):=by
 obtain⟨J,ab⟩:=h
 refine⟨by simp [J],fun t cc nb=> ?_⟩
 by_cases cv:t < xs.length
 ·rw [List.getElem_append_left cv,List.getElem_append_left (by omega)]
  exact ab t cv (by omega)
 ·have e:t=xs.length:=by simp at cc; omega
  subst e
  simp only [List.getElem_append_right (Nat.le_refl _),Nat.sub_self,List.getElem_cons_zero]
  rw [List.getElem_append_right (by omega)]
  simpa [J] using aQ
def aaz (a b:a1) (i:Nat):Bool:=bj b.bR i && !bj a.bR i
def part (a b:a1) (i:Nat) (c:a1):Prop:=
 (∀ j,j < 512→bj c.bR j=(bj a.bR j || (decide (j≤i) && bj b.bR j)))∧
 (∀ j,j < 512→bj c.bW j=(bj a.bW j || (decide (j < i) && (aaz a b j && bj b.bW j)) || (decide (j=i) && !bj b.bW i)))
end Go.Proofs.YtmnggbjcnoffeaaGreat
namespace Go.Proofs.YtmnggbjcnoffeaaGreat
open Go Gv
set_option linter.unusedVariables false
set_option linter.unusedSimpArgs false
theorem JH {xs:List a1} {f:a1→Option Bool} {g:a1→Bool} (a7:∀ x∈xs,f x=some (g x)) (al:xs.length < 2 ^ 62):
 a6 (vi xs f) (fun r=>(r= -1∧ ∀ x∈xs,g x=false)∨ ∃ i:Nat,i < xs.length∧r=i∧g (aB xs i)=true∧ ∀ j,j < i→g (aB xs j)=false):=by
 unfold vi
 refine a6.loop xs.length (fun k s=>s=(k:Int)∧ ∀ j,j < k→g (aB xs j)=false) (by omega) ⟨rfl,fun j aF=>by omega⟩ (fun k s aq aj=> ?_) (fun s aj=> ?_)
 ·obtain⟨ay,aS⟩:=aj; subst ay
  refine a6.cond (fun _=> ?_) (fun h=>by simp at h; omega)
  refine .idx rfl aq (.eq (a7 _ (by rw [dU xs aq]; exact List.getElem_mem aq)) (.cond (fun h=> .ret ?_) (fun h=> .ret ⟨dz (by omega),fun j aF=> ?_⟩)))
  ·exact .ret (.inr ⟨k,aq,rfl,h,aS⟩)
  ·by_cases gw:j=k
   ·subst gw; exact h
   ·exact aS j (by omega)
 ·obtain⟨ay,aS⟩:=aj; subst ay
  refine⟨_,by simp; rfl,?_⟩
  refine .ret (.inl ⟨rfl,fun x an=> ?_⟩)
  obtain⟨j,aF,rfl⟩:=List.mem_iff_getElem.1 an
  rw [← dU xs aF]; exact aS j aF
theorem QF {xs:List a1} {f:a1→Option Bool} {g:a1→Bool} (a7:∀ x∈xs,f x=some (g x)) (al:xs.length < 2 ^ 62):
 a6 (xr xs f) (fun r=>r=xs.any g):=by
 unfold xr
 refine(JH a7 al).bind fun r aQ=> .ret ?_
 rcases aQ with⟨J,ab⟩ | ⟨i,J,ab,aE,aW⟩
 ·subst J
  symm
  rw [List.any_eq_false.2 (fun x an=>by rw [ab x an]; simp)]
  rfl
 ·subst ab
  symm
  rw [List.any_eq_true.2 ⟨aB xs i,by rw [dU xs J]; exact List.getElem_mem J,aE⟩]
  simp
theorem QW {xs:List a1} {f:a1→Option Bool} {g:a1→Bool} (a7:∀ x∈xs,f x=some (g x)) (al:xs.length < 2 ^ 62):
 a6 (vh xs f) (fun r=>r=xs.filter (fun x=> !g x)):=by
 unfold vh
 refine(JH a7 al).bind fun r aQ=> ?_
 rcases aQ with⟨J,ab⟩ | ⟨i0,J,ab,aE,aW⟩
 ·subst J
  exact .cond (fun _=> .ret (List.filter_eq_self.2 fun x an=>by rw [ab x an]; rfl).symm) (fun h=>by simp at h)
 ·subst ab
  refine .cond (fun h=>absurd h (by simp <;> omega)) (fun _=> ?_)
  refine a6.loop (xs.length - (i0 + 1)) (fun k s=>s.2.1=((i0 + 1 + k:Nat):Int)∧s.2.2.length=xs.length∧ ∃ i:Nat,s.1=i∧i < i0 + 1 + k∧s.2.2.take i=(xs.take (i0 + 1 + k)).filter (fun x=> !g x)∧s.2.2.drop (i0 + 1 + k)=xs.drop (i0 + 1 + k)) (by omega)
   ⟨dz (by omega),rfl,i0,rfl,by omega,?_,rfl⟩ (fun k s aq aj=> ?_) (fun s aj=> ?_)
  ·show xs.take i0=_
   rw [Nat.add_zero,List.take_add_one,List.getElem?_eq_getElem J,List.filter_append]
   rw [dU xs J] at aE
   simp only [Option.toList_some,List.filter_cons,aE,Bool.not_true,Bool.false_eq_true,if_false,List.filter_nil,List.append_nil]
   symm
   refine List.filter_eq_self.2 fun x an=> ?_
   obtain⟨j,aF,rfl⟩:=List.mem_iff_getElem.1 an
   have Iy:j < i0:=by rw [List.length_take] at aF; omega
   rw [List.getElem_take,← dU xs (by omega),aW j Iy]; rfl
  ·obtain⟨aaA,aaB,ys⟩:=s; obtain⟨ay,aS,i,cW,eh,gS,hC⟩:=aj
   simp only at ay aS cW gS hC
   subst ay; subst cW
   have aF:i0 + 1 + k < xs.length:=by omega
   have a3:aB ys (i0 + 1 + k)=aB xs (i0 + 1 + k):=by
    unfold aB
    have:=congrArg (fun l=>l[0]?) hC
    simp only [List.getElem?_drop,Nat.add_zero] at this
    rw [this]
   refine a6.cond (fun _=> ?_) (fun h=>by simp only [decide_eq_false_iff_not] at h; omega)
   refine .idx rfl (show i0 + 1 + k < ys.length by omega) ?_
   show a6 ((f (aB ys (i0 + 1 + k))).bind _) _
   rw [a3]
   refine .eq (a7 _ (by rw [dU xs aF]; exact List.getElem_mem aF)) ?_
   have uo:bm ((i0 + 1 + k:Nat) + 1:Int)=((i0 + 1 + (k + 1):Nat):Int):=by rw [dz (by omega)]; rfl
   have mb:xs.take (i0 + 1 + (k + 1))=xs.take (i0 + 1 + k) ++ [aB xs (i0 + 1 + k)]:=by
    rw [← Nat.add_assoc,List.take_add_one,List.getElem?_eq_getElem aF,dU xs aF]; rfl
   refine .bind (P:=fun m:Int × List a1=>m.2.length=xs.length∧ ∃ i:Nat,m.1=i∧i < i0 + 1 + (k + 1)∧m.2.take i=(xs.take (i0 + 1 + (k + 1))).filter (fun x=> !g x)∧m.2.drop (i0 + 1 + (k + 1))=xs.drop (i0 + 1 + (k + 1))) (.cond (fun h=> ?_) (fun h=> .ret ?_)) fun m hm=> .ret ⟨uo,hm⟩
   ·refine .idx rfl (show i < ys.length by omega) (.ret ⟨by simp [et]; exact aS,i + 1,dz (by omega),by omega,?_,?_⟩)
    ·rw [mb,List.filter_append,← gS,et,List.take_add_one,List.take_set,List.set_eq_of_length_le (by rw [List.length_take]; omega),List.getElem?_set_self (show i < ys.length by omega)]
     simp only [List.filter_cons,List.filter_nil,h,if_true,Option.toList_some]
    ·have:(ys.drop (i0 + 1 + k)).drop 1=(xs.drop (i0 + 1 + k)).drop 1:=by rw [hC]
     rw [List.drop_drop,List.drop_drop] at this
     rw [et,List.drop_set_of_lt (by omega)]
     exact this
   ·refine⟨aS,i,rfl,by omega,?_,?_⟩
    ·rw [mb,List.filter_append,← gS]
     simp only [List.filter_cons,List.filter_nil,h,Bool.false_eq_true,if_false,List.append_nil]
    ·have:(ys.drop (i0 + 1 + k)).drop 1=(xs.drop (i0 + 1 + k)).drop 1:=by rw [hC]
     rw [List.drop_drop,List.drop_drop] at this
     exact this
  ·obtain⟨aaA,aaB,ys⟩:=s; obtain⟨ay,aS,i,cW,eh,gS,hC⟩:=aj
   simp only at ay aS cW gS hC
   subst ay; subst cW
   refine⟨_,by simp only [aS,show ¬ (((i0 + 1 + (xs.length - (i0 + 1)):Nat):Int) < (xs.length:Int)) by omega,decide_false,cond_false]; rfl,?_⟩
   have Ap:i≤ys.length:=by omega
   refine .eq (a:=(i,ys.length)) (show zQ ys.length (i:Int) (ys.length:Int)=some (i,ys.length) by unfold zQ; rw [if_pos (by omega)]; simp) (.eq rfl (.idx rfl (by simp [nv]; omega) (.eq rfl (.ret ?_))))
   rw [show i0 + 1 + (xs.length - (i0 + 1))=xs.length by omega,List.take_length] at gS
   rw [← gS]
   show(nv ys i (ys.length - i)).take i=_
   unfold nv
   rw [List.append_assoc,List.take_append_of_le_length (by rw [List.length_take]; omega),List.take_take,Nat.min_self]
theorem RG {xs:List a1} (al:xs.length < 2 ^ 30):xw xs=some xs:=by
 unfold xw
 rw [show fP 128 [] xs=some xs from by unfold fP maxLen; rw [if_pos (by simp only [List.length_nil]; omega)]; rfl]
 rfl
end Go.Proofs.YtmnggbjcnoffeaaGreat
namespace Go.Proofs.YtmnggbjcnoffeaaGreat
open Go Gv
set_option linter.unusedVariables false
set_option linter.unusedSimpArgs false
set_option maxRecDepth 100000
theorem a6.DB {β:Type} {m:Option β} {v:β} (h:a6 m (fun r=>r=v)):m=some v:=by
 obtain⟨r,J,ab⟩:=h
 rw [J,ab]
theorem Ml (b:Nat→Bool):∀ n,n≤64→ ∃ w:BitVec 64,∀ i,i < 64→w.getLsbD i=(decide (i < n) && b i):=by
 intro n
 induction n with
 | zero=>exact fun _=>⟨0#64,fun i aj=>by simp⟩
 | succ n bO=>
   intro aO
   obtain⟨w,hw⟩:=bO (by omega)
   refine⟨w ||| (if b n=true then BitVec.twoPow 64 n else 0#64),fun i aj=> ?_⟩
   rw [BitVec.getLsbD_or,hw i aj]
   by_cases hb:b n=true
   ·rw [if_pos hb,BitVec.getLsbD_twoPow]
    by_cases e:i=n
    ·subst e; simp [aj,hb]
    ·have:(decide (i < n + 1))=decide (i < n):=by
      rw [Bool.eq_iff_iff]; simp; omega
     rw [this]
     have:decide (n=i)=false:=by simp; omega
     simp [this]
   ·rw [if_neg hb]
    by_cases e:i=n
    ·subst e; simp [hb]
    ·have:(decide (i < n + 1))=decide (i < n):=by
      rw [Bool.eq_iff_iff]; simp; omega
     rw [this]; simp
theorem Fz (b:Nat→Bool):∃ q:Vector aw 4,∀ i,i < 512→bj q i=b i:=by
 have a3:∀ c:Nat→Bool,∃ v:aw,∀ i,i < 128→bV v i=c i:=fun c=>by
  obtain⟨lo,g6⟩:=Ml c 64 (by omega)
  obtain⟨aj,eE⟩:=Ml (fun i=>c (64 + i)) 64 (by omega)
  refine⟨⟨aj,lo⟩,fun i hZ=> ?_⟩
  unfold bV
  split
  ·rename_i h
   show lo.getLsbD i=c i
   rw [g6 i h]; simp [h]
  ·rename_i h
   show aj.getLsbD (i - 64)=c i
   rw [eE (i - 64) (by omega)]
   have:64 + (i - 64)=i:=by omega
   simp only [this]
   have:i - 64 < 64:=by omega
   simp [this]
 have ix:∀ k,k≤4→ ∃ q:Vector aw 4,∀ i,i < 128 * k→bj q i=b i:=by
  intro k
  induction k with
  | zero=>exact fun _=>⟨default,fun i aj=>by omega⟩
  | succ k bO=>
    intro aq
    obtain⟨q,hq⟩:=bO (by omega)
    obtain⟨v,a3⟩:=a3 fun j=>b (128 * k + (127 - j))
    refine⟨cq q k v,fun i aj=> ?_⟩
    unfold bj
    rw [eK q v (by omega)]
    by_cases e:i / 128=k
    ·rw [if_pos e,a3 _ (by omega)]
     have:128 * k + (127 - (127 - i % 128))=i:=by omega
     rw [this]
    ·rw [if_neg e]
     exact hq i (by omega)
 obtain⟨q,hq⟩:=ix 4 (by omega)
 exact⟨q,fun i aj=>hq i (by omega)⟩
theorem mU {c:a1} (ao:can c) {q:Vector aw 4} :gQ c q=true↔ ∀ i,i < 512→bj c.bR i=true→bj q i=bj c.bW i:=by
 rw [F0]
 constructor
 ·intro h i aj hm
  have:=h i aj
  rw [hm,Bool.and_true] at this; exact this
 ·intro h i aj
  cases hm:bj c.bR i
  ·rw [Bool.and_false]
   cases a3:bj c.bW i
   ·rfl
   ·rw [ao i aj a3] at hm; cases hm
  ·rw [Bool.and_true]; exact h i aj hm
def iL (c:a1) (l:List a1):Prop:= ∀ q,gQ c q=true→ ∃ x∈l,gQ x q=true
theorem Nc {c:a1} (ao:can c):gQ c c.bW=true:=(mU ao).2 fun i _ _=>rfl
theorem Kz {c x:a1} (ao:can c) (an:can x) {q:Vector aw 4} (h:gQ c q=true) (cR:gQ x q=true):q0 c x:=fun i aj J ab=>by
 rw [← (mU ao).1 h i aj J,← (mU an).1 cR i aj ab]
noncomputable def ka (c x:a1):Bool:= @decide (q0 c x) (Classical.propDecidable _)
theorem CB {c x:a1} :ka c x=true↔q0 c x:=by unfold ka; simp
theorem y0 (c:a1) (l:List a1) (al:l.length < 2 ^ 30):qq c l=some (l.filter (ka c)):=by
 unfold qq
 rw [RG al]
 have:vh l (fun fT=>vw fT c)=some (l.filter (fun x=> !(!ka c x))):=by
  refine a6.DB (QW (g:=fun x=> !ka c x) (fun x _=>a6.DB ?_) (by omega))
  unfold vw
  refine(Mf c x).bind fun y a4=> .ret ?_
  congr 1
  rw [Bool.eq_iff_iff,CB]; exact a4.1
 simp only [Option.bind_some,this,Bool.not_not]
theorem LJ {c:a1} {l:List a1} (ao:can c) (al:∀ x∈l,can x):iL c (l.filter (ka c))↔iL c l:=by
 constructor
 ·intro h q hq
  obtain⟨x,an,J⟩:=h q hq
  exact⟨x,(List.mem_filter.1 an).1,J⟩
 ·intro h q hq
  obtain⟨x,an,J⟩:=h q hq
  exact⟨x,List.mem_filter.2 ⟨an,CB.2 (Kz ao (al x an) hq J)⟩,J⟩
def DC (c x:a1):Prop:= ∀ i,i < 512→bj x.bR i=true→bj c.bR i=true∧bj c.bW i=bj x.bW i
noncomputable def HG (c x:a1):Bool:= @decide (DC c x) (Classical.propDecidable _)
theorem FA {c x:a1} :HG c x=true↔DC c x:=by unfold HG; simp
theorem US {c x:a1} (ao:can c) (an:can x) (h:DC c x) {q:Vector aw 4} (hq:gQ c q=true):gQ x q=true:=
 (mU an).2 fun i aj hm=>by rw [(mU ao).1 hq i aj (h i aj hm).1,(h i aj hm).2]
def uc (c:a1) (k:Nat) (b:Bool) (d:a1):Prop:=
 (∀ m,m < 512→bj d.bR m=(bj c.bR m || decide (m=k)))∧ (∀ m,m < 512→bj d.bW m=(bj c.bW m || (b && decide (m=k))))
theorem Cd {c d:a1} {k:Nat} {b:Bool} (ao:can c) (h:uc c k b d):can d:=fun i aj a3=>by
 rw [h.2 i aj] at a3
 rw [h.1 i aj]
 simp only [Bool.or_eq_true,Bool.and_eq_true] at a3 ⊢
 rcases a3 with a3 | a3
 ·exact .inl (ao i aj a3)
 ·exact .inr a3.2
theorem Co {c:a1} (ao:can c) {k:Nat} (aq:k < 512) (h:bj c.bR k=false):bj c.bW k=false:=by
 cases a3:bj c.bW k
 ·rfl
 ·rw [ao k aq a3] at h; cases h
theorem vZ {c d:a1} {k:Nat} {b:Bool} (ao:can c) (aq:k < 512) (a7:bj c.bR k=false) (h:uc c k b d) (q:Vector aw 4):gQ d q=(gQ c q && (bj q k ==b)):=
 Vq aq a7 (Co ao aq a7) h.1 h.2
theorem yI {c d e:a1} {l:List a1} {k:Nat} (ao:can c) (aq:k < 512) (a7:bj c.bR k=false) (bP:uc c k false d) (J:uc c k true e):iL c l↔iL d l∧iL e l:=by
 constructor
 ·intro h
  refine⟨fun q hq=>h q ?_,fun q hq=>h q ?_⟩
  ·rw [vZ ao aq a7 bP,Bool.and_eq_true] at hq; exact hq.1
  ·rw [vZ ao aq a7 J,Bool.and_eq_true] at hq; exact hq.1
 ·rintro ⟨a9,hb⟩ q hq
  cases a3:bj q k
  ·exact a9 q (by rw [vZ ao aq a7 bP,hq,a3]; rfl)
  ·exact hb q (by rw [vZ ao aq a7 J,hq,a3]; rfl)
def nfree (c:a1):Nat:=pt 512 (fun i=> !bj c.bR i)
theorem T2 {n:Nat} {p q:Nat→Bool} (h:∀ i,i < n→p i=true→q i=true):pt n p≤pt n q:=by
 induction n with
 | zero=>exact Nat.le_refl _
 | succ n bO=>
   rw [yN,yN]
   have:=bO fun i aj=>h i (by omega)
   have ab:(p n).toNat≤ (q n).toNat:=by
    cases hp:p n
    ·simp
    ·rw [h n (by omega) hp]; simp
   omega
theorem Lh {n:Nat} {p q:Nat→Bool} {k:Nat} (aq:k < n) (h:∀ i,i < n→p i=true→q i=true) (hp:p k=false) (hq:q k=true):pt n p < pt n q:=by
 induction n with
 | zero=>omega
 | succ n bO=>
   rw [yN,yN]
   by_cases l9:k=n
   ·subst l9
    have:=T2 (n:=k) fun i aj=>h i (by omega)
    rw [hp,hq]; simp; omega
   ·have:=bO (by omega) fun i aj=>h i (by omega)
    have ab:(p n).toNat≤ (q n).toNat:=by
     cases hp:p n
     ·simp
     ·rw [h n (by omega) hp]; simp
    omega
theorem LK {c d:a1} {k:Nat} (aq:k < 512) (h:∀ m,m < 512→bj c.bR m=true→bj d.bR m=true) (bP:bj c.bR k=false) (J:bj d.bR k=true):nfree d < nfree c:=
 Lh aq (fun i aj hd=>by
  cases hm:bj c.bR i
  ·rfl
  ·rw [h i aj hm] at hd; exact hd) (by rw [J]; rfl) (by rw [bP]; rfl)
theorem T3 (c:a1):nfree c≤512:=Gr
theorem Li {c d:a1} {k:Nat} {b:Bool} (aq:k < 512) (a7:bj c.bR k=false) (h:uc c k b d):nfree d < nfree c:=
 LK aq (fun m hm J=>by rw [h.1 m hm,J]; rfl) a7 (by rw [h.1 k aq]; simp)
theorem Cp {c:a1} {k:Nat} (aq:k < 512) (a7:bj c.bR k=false) (b:Bool):a6 (qv c k b) (uc c k b):=(M5 c k aq b).mono fun d hd=>hd.2 a7
theorem Mm (w:Vector aw 4) (n:Nat) (aO:n < 512):a6 (vU w n) (fun r=>r=bj w n):=by
 unfold vU
 have J:uF (n:Int) 128=some ((n / 128:Nat):Int):=by
  unfold uF
  rw [if_neg (by omega)]
  have J:(n:Int).tdiv 128=((n / 128:Nat):Int):=by rw [Int.tdiv_eq_ediv_of_nonneg (by omega)]; omega
  rw [J,gC (by omega) (by omega)]
 have ab:nE (n:Int) 128=some ((n % 128:Nat):Int):=by
  unfold nE
  rw [if_neg (by omega)]
  have ab:(n:Int).tmod 128=((n % 128:Nat):Int):=by rw [Int.tmod_eq_emod_of_nonneg (by omega)]; omega
  rw [ab]
 refine .eq J (.idx rfl (show n / 128 < 4 by omega) (.eq ab ((Gq _ _).bind fun y a4=> .ret ?_)))
 rw [a4,gC (by omega) (by omega)]
 have:(0:Int)≤127 - ((n % 128:Nat):Int)∧127 - ((n % 128:Nat):Int) < 128:=by omega
 rw [decide_eq_true this,Bool.true_and]
 unfold bj
 congr 1; omega
def jG (c:a1) (l:List a1) (b:Bool) (i:Nat):Bool:= !bj c.bR i && l.any (fun x=>bj x.bR i && (bj x.bW i ==b))
set_option maxHeartbeats 2000000 in
theorem Tr (c:a1) (l:List a1) (al:l.length < 2 ^ 30):a6 (yh c l) (fun r=>(∀ i,i < 512→bj r.1 i=jG c l false i)∧ (∀ i,i < 512→bj r.2 i=jG c l true i)):=by
 unfold yh
 have Ol:∀ k (aq:k < l.length) b i,jG c (l.take (k + 1)) b i=(jG c (l.take k) b i || (!bj c.bR i && (bj (aB l k).bR i && (bj (aB l k).bW i ==b)))):=fun k aq b i=>by
  unfold jG
  rw [List.take_add_one,List.getElem?_eq_getElem aq,List.any_append,dU l aq,Bool.and_or_distrib_left]
  simp
 refine a6.loop l.length (fun k s=>s.1=k∧ (∀ i,i < 512→bj s.2.1 i=jG c (l.take k) true i)∧ (∀ i,i < 512→bj s.2.2 i=jG c (l.take k) false i)) (by omega)
  ⟨rfl,fun i aj=>by rw [Cc]; simp [jG],fun i aj=>by rw [Cc]; simp [jG]⟩ (fun k s aq aj=> ?_) (fun s aj=> ?_)
 ·obtain⟨n,o,z⟩:=s; obtain⟨ay,aS,cW⟩:=aj
  simp only at ay aS cW; subst ay
  refine a6.cond (fun _=> ?_) (fun h=>by simp at h; omega)
  refine .idx rfl aq ?_
  have sX:=Ol k aq true
  have ja:=Ol k aq false
  generalize aB l k=x at sX ja ⊢
  refine a6.loop 4 (fun j s=>s.1=j∧ (∀ i,i < 512→bj s.2.1 i=if i / 128 < j then jG c (l.take (k + 1)) true i else jG c (l.take k) true i)∧
   (∀ i,i < 512→bj s.2.2 i=if i / 128 < j then jG c (l.take (k + 1)) false i else jG c (l.take k) false i)) (by omega)
   ⟨rfl,fun i aj=>by rw [if_neg (by omega)]; exact aS i aj,fun i aj=>by rw [if_neg (by omega)]; exact cW i aj⟩ (fun j s aF aj=> ?_) (fun s aj=> ?_)
  ·obtain⟨n,o,z⟩:=s; obtain⟨au,aT,bq⟩:=aj
   simp only at au aT bq; subst au
   refine a6.cond (fun _=> ?_) (fun h=>by simp at h; omega)
   refine .idx rfl aF (.idx rfl aF ((M6 _).bind fun aD J=>(tO _ _).bind fun aM ab=> .idx rfl aF (.idx rfl aF ((tO _ _).bind fun a8 aE=>(ua _ _).bind fun br aW=> .idx rfl aF (.idx rfl aF (.idx rfl aF ((M6 _).bind fun cj aX=>(tO _ _).bind fun cM bk=>(ua _ _).bind fun dv cV=> .idx rfl aF (.ret ⟨dz (by omega),fun i aj=> ?_,fun i aj=> ?_⟩))))))))
   ·have g:=aT i aj
    unfold bj at g ⊢
    simp only [eK _ _ aF]
    by_cases hq:i / 128=j
    ·rw [if_pos hq,if_pos (by omega),aW _ (by omega),aE _ (by omega),ab _ (by omega),J _ (by omega),sX]
     rw [if_neg (by omega)] at g
     rw [hq] at g
     rw [g]
     unfold bj
     rw [hq]
     cases bV (bd x.bR j) (127 - i % 128) <;> cases bV (bd c.bR j) (127 - i % 128) <;> cases bV (bd x.bW j) (127 - i % 128) <;> simp
    ·rw [if_neg hq,g]
     have:(i / 128 < j + 1)↔i / 128 < j:=by omega
     simp [this]
   ·have g:=bq i aj
    unfold bj at g ⊢
    simp only [eK _ _ aF]
    by_cases hq:i / 128=j
    ·rw [if_pos hq,if_pos (by omega),cV _ (by omega),bk _ (by omega),aX _ (by omega),ab _ (by omega),J _ (by omega),ja]
     rw [if_neg (by omega)] at g
     rw [hq] at g
     rw [g]
     unfold bj
     rw [hq]
     cases bV (bd x.bR j) (127 - i % 128) <;> cases bV (bd c.bR j) (127 - i % 128) <;> cases bV (bd x.bW j) (127 - i % 128) <;> simp
    ·rw [if_neg hq,g]
     have:(i / 128 < j + 1)↔i / 128 < j:=by omega
     simp [this]
  ·obtain⟨n,o,z⟩:=s; obtain⟨au,aT,bq⟩:=aj
   simp only at au aT bq; subst au
   refine⟨_,rfl,?_⟩
   refine .ret ⟨dz (by omega),fun i aj=> ?_,fun i aj=> ?_⟩
   ·rw [aT i aj,if_pos (by omega)]
   ·rw [bq i aj,if_pos (by omega)]
 ·obtain⟨n,o,z⟩:=s; obtain⟨ay,aS,cW⟩:=aj
  simp only at ay aS cW; subst ay
  rw [List.take_length] at aS cW
  refine⟨_,by simp; rfl,?_⟩
  exact .ret ⟨cW,aS⟩
set_option maxHeartbeats 2000000 in
theorem Ts (c:a1) (z o:Vector aw 4):a6 (yg c z o) (fun r=>(∀ i,i < 512→bj r.bR i=(bj c.bR i || (bj z i ^^ bj o i)))∧ (∀ i,i < 512→bj r.bW i=(bj c.bW i || (bj z i && !bj o i)))):=by
 unfold yg
 refine a6.loop 4 (fun j s=>s.1=j∧ (∀ i,i < 512→bj s.2.bR i=if i / 128 < j then(bj c.bR i || (bj z i ^^ bj o i)) else bj c.bR i)∧
  (∀ i,i < 512→bj s.2.bW i=if i / 128 < j then(bj c.bW i || (bj z i && !bj o i)) else bj c.bW i)) (by omega)
  ⟨rfl,fun i aj=>(if_neg (Nat.not_lt_zero _)).symm,fun i aj=>(if_neg (Nat.not_lt_zero _)).symm⟩ (fun j s aF aj=> ?_) (fun s aj=> ?_)
 ·obtain⟨n,d⟩:=s; obtain⟨au,aT,bq⟩:=aj
  simp only at au aT bq; subst au
  refine a6.cond (fun _=> ?_) (fun h=>by simp at h; omega)
  refine .idx rfl aF (.idx rfl aF ((tO _ _).bind fun aD J=> .idx rfl aF (.idx rfl aF (.idx rfl aF ((ua _ _).bind fun aM ab=>(Cz _ _).bind fun a8 aE=>(ua _ _).bind fun br aW=> .idx rfl aF (.idx rfl aF (.idx rfl aF ((Cz _ _).bind fun cj aX=>(ua _ _).bind fun cM bk=> ?_))))))))
  refine .idx rfl aF ?_
  refine .eq rfl ?_
  refine .ret ?_
  refine⟨dz (by omega),fun i aj=> ?_,fun i aj=> ?_⟩
  ·have g:=aT i aj
   unfold bj at g ⊢
   simp only [eK _ _ aF]
   by_cases hq:i / 128=j
   ·rw [if_pos hq,if_pos (by omega),aW _ (by omega),aE _ (by omega),ab _ (by omega),J _ (by omega),hq]
    rw [if_neg (by omega)] at g
    rw [hq] at g
    rw [g]
    cases bV (bd z j) (127 - i % 128) <;> cases bV (bd o j) (127 - i % 128) <;> simp
   ·rw [if_neg hq,g]
    have:(i / 128 < j + 1)↔i / 128 < j:=by omega
    simp [this]
  ·have g:=bq i aj
   unfold bj at g ⊢
   simp only [eK _ _ aF]
   by_cases hq:i / 128=j
   ·rw [if_pos hq,if_pos (by omega),bk _ (by omega),aX _ (by omega),J _ (by omega),hq]
    rw [if_neg (by omega)] at g
    rw [hq] at g
    rw [g]
    cases bV (bd z j) (127 - i % 128) <;> cases bV (bd o j) (127 - i % 128) <;> simp
   ·rw [if_neg hq,g]
    have:(i / 128 < j + 1)↔i / 128 < j:=by omega
    simp [this]
 ·obtain⟨n,d⟩:=s; obtain⟨au,aT,bq⟩:=aj
  simp only at au aT bq; subst au
  refine⟨_,rfl,?_⟩
  refine .ret ⟨fun i aj=> ?_,fun i aj=> ?_⟩
  ·rw [aT i aj,if_pos (by omega)]
  ·rw [bq i aj,if_pos (by omega)]
set_option maxHeartbeats 2000000 in
theorem SU (p:Vector aw 4) (l:List a1) (al:l.length < 2 ^ 30):a6 (x8 p l) (fun r=> ∃ b:Nat,r=b∧b < 512∧ ((∃ i,i < 512∧bj p i=true∧ ∃ x∈l,bj x.bR i=true)→bj p b=true)):=by
 unfold x8
 refine a6.loop 512 (fun k s=>s.2.2=(k:Int)∧ (∃ b:Nat,s.1=b∧b < 512∧ ∃ m:Nat,s.2.1=m∧m≤l.length∧ (0 < m→bj p b=true)∧ (m=0→ ∀ i,i < k→bj p i=true→ ∀ x∈l,bj x.bR i=false))) (by omega)
  ⟨rfl,0,rfl,by omega,0,rfl,by omega,by omega,fun _ i aj=>by omega⟩ (fun k s aq aj=> ?_) (fun s aj=> ?_)
 ·obtain⟨aaC,aaD,n⟩:=s; obtain⟨ay,b,aS,cW,m,eh,gS,hC,qj⟩:=aj
  simp only at ay aS eh; subst ay; subst aS; subst eh
  refine a6.cond (fun _=> ?_) (fun h=>by simp at h; omega)
  refine(Mm p k aq).bind fun aD J=> .cond (fun h=> .ret ⟨dz (by omega),b,rfl,cW,m,rfl,gS,hC,fun hm i aj hp=> ?_⟩) (fun h=> ?_)
  ·by_cases e4:i=k
   ·subst e4; rw [J,hp] at h; simp at h
   ·exact qj hm i (by omega) hp
  ·have td:bj p k=true:=by rw [J] at h; simpa using h
   refine a6.loop l.length (fun j s=>s.2=(j:Int)∧s.1=(((l.take j).countP (fun x=>bj x.bR k):Nat):Int)) (by omega) ⟨rfl,by simp⟩ (fun j s aF aj=> ?_) (fun s aj=> ?_)
   ·obtain⟨c,i⟩:=s; obtain⟨au,aT⟩:=aj
    simp only at au aT; subst au; subst aT
    refine a6.cond (fun _=> ?_) (fun h=>by simp at h; omega)
    have hle:(l.take j).countP (fun x=>bj x.bR k)≤j:=Nat.le_trans List.countP_le_length (by rw [List.length_take]; omega)
    have mb:(l.take (j + 1)).countP (fun x=>bj x.bR k)=(l.take j).countP (fun x=>bj x.bR k) + (bj (aB l j).bR k).toNat:=by
     rw [List.take_add_one,List.getElem?_eq_getElem aF,List.countP_append,dU l aF]
     simp [List.countP_cons,List.countP_nil]
     cases bj l[j].bR k <;> rfl
    refine .idx rfl aF ((Mm _ k aq).bind fun aM ab=> .bind (P:=fun r=>r=(((l.take (j + 1)).countP (fun x=>bj x.bR k):Nat):Int)) (.cond (fun h=> .ret ?_) (fun h=> .ret ?_)) fun r aQ=> .ret ⟨dz (by omega),aQ⟩)
    ·rw [mb,← ab,h,dz (by omega)]; rfl
    ·rw [mb,← ab,h]; rfl
   ·obtain⟨c,i⟩:=s; obtain⟨au,aT⟩:=aj
    simp only at au aT; subst au; subst aT
    rw [List.take_length]
    refine⟨_,by simp; rfl,?_⟩
    simp only
    refine .bind (P:=fun r:Int × Int=> ∃ b:Nat,r.1=b∧b < 512∧ ∃ m:Nat,r.2=m∧m≤l.length∧ (0 < m→bj p b=true)∧ (m=0→ ∀ i,i < k + 1→bj p i=true→ ∀ x∈l,bj x.bR i=false)) (.cond (fun h=> .ret ?_) (fun h=> .ret ?_)) fun r aQ=> .ret ⟨dz (by omega),aQ⟩
    ·simp only [gt_iff_lt,decide_eq_true_eq] at h
     exact⟨k,rfl,aq,_,rfl,List.countP_le_length,fun _=>td,fun bP=>by omega⟩
    ·simp only [gt_iff_lt,decide_eq_false_iff_not] at h
     refine⟨b,rfl,cW,m,rfl,gS,hC,fun hm i aj hp=> ?_⟩
     by_cases e4:i=k
     ·subst e4
      have bP:l.countP (fun x=>bj x.bR i)=0:=by omega
      intro x an
      have:=List.countP_eq_zero.1 bP x an
      simpa using this
     ·exact qj hm i (by omega) hp
 ·obtain⟨aaC,aaD,n⟩:=s; obtain⟨ay,b,aS,cW,m,eh,gS,hC,qj⟩:=aj
  simp only at ay aS eh; subst ay; subst aS; subst eh
  refine⟨_,rfl,?_⟩
  refine .ret ⟨b,rfl,cW,fun⟨i,aj,hp,x,an,hm⟩=> ?_⟩
  rcases Nat.eq_zero_or_pos m with bP | bP
  ·have:=qj bP i aj hp x an
   rw [hm] at this; cases this
  ·exact hC bP
set_option maxHeartbeats 2000000 in
theorem Sg:∀ (n:Nat) (c:a1) (l:List a1),can c→ (∀ x∈l,can x)→l.length < 2 ^ 30→nfree c < n→a6 (qo n c l) (fun r=>r=true↔iL c l):=by
 intro n
 induction n with
 | zero=>intro c l _ _ _ h; omega
 | succ n bO=>
   intro c kf ao D8 hlen aO
   unfold qo
   refine .eq (y0 c kf hlen) ?_
   have al:∀ x∈kf.filter (ka c),can x:=fun x an=>D8 x (List.mem_filter.1 an).1
   have PM:∀ x∈kf.filter (ka c),q0 c x:=fun x an=>CB.1 (List.mem_filter.1 an).2
   have jq:(kf.filter (ka c)).length < 2 ^ 30:=Nat.lt_of_le_of_lt (List.length_filter_le _ _) hlen
   rw [← LJ ao D8]
   generalize kf.filter (ka c)=l at al PM jq
   refine(QF (g:=HG c) (fun x an=>a6.DB ?_) (by omega)).bind fun aM ab=> .cond (fun h=> .ret ?_) (fun h=> ?_)
   ·unfold xU
    refine(Tj c x ao (al x an)).bind fun r aQ=> .ret ?_
    rw [Bool.eq_iff_iff,FA]; exact aQ
   ·rw [ab,List.any_eq_true] at h
    obtain⟨x,an,aj⟩:=h
    have aj:=FA.1 aj
    exact⟨fun _ q hq=>⟨x,an,US ao (al x an) aj hq⟩,fun _=>rfl⟩
   ·rw [ab,List.any_eq_false] at h
    have HH:∀ x∈l,¬ DC c x:=fun x an aj=>h x an (FA.2 aj)
    refine .cond (fun bP=> .ret ?_) (fun bP=> ?_)
    ·have:l= []:=by
      simp only [beq_iff_eq] at bP
      exact List.length_eq_zero_iff.1 (by omega)
     subst this
     refine⟨fun h=>(by cases h),fun uJ=> ?_⟩
     obtain⟨x,an,_⟩:=uJ _ (Nc ao)
     cases an
    ·refine(Tr c l jq).bind fun a8 aE=>(Ts c a8.1 a8.2).bind fun br aW=> ?_
     have Hf:∀ m,m < 512→bj c.bR m=true→bj br.bR m=true:=fun m hm J=>by rw [aW.1 m hm,J]; rfl
     have z1:∀ m,m < 512→bj c.bR m=true→bj br.bW m=bj c.bW m:=fun m hm J=>by
      rw [aW.2 m hm,aE.1 m hm]; unfold jG; rw [J]; simp
     have Dd:can br:=fun i aj a3=>by
      rw [aW.2 i aj] at a3
      rw [aW.1 i aj]
      simp only [Bool.or_eq_true,Bool.and_eq_true,Bool.not_eq_true'] at a3
      rcases a3 with a3 | a3
      ·rw [ao i aj a3]; rfl
      ·rw [a3.1,a3.2]; simp
     have XC:iL br l↔iL c l:=by
      constructor
      ·intro uJ q hq
       obtain⟨ed,gv⟩:=Fz fun i=>if bj c.bR i=false∧bj br.bR i=true then bj br.bW i else bj q i
       have eJ:gQ br ed=true:=(mU Dd).2 fun i aj hm=>by
        rw [gv i aj]
        cases oD:bj c.bR i
        ·rw [if_pos ⟨rfl,hm⟩]
        ·rw [if_neg (by simp),(mU ao).1 hq i aj oD,z1 i aj oD]
       obtain⟨x,an,H4⟩:=uJ ed eJ
       refine⟨x,an,(mU (al x an)).2 fun i aj hm=> ?_⟩
       have aX:=(mU (al x an)).1 H4 i aj hm
       rw [gv i aj] at aX
       by_cases aL:bj c.bR i=false∧bj br.bR i=true
       ·exfalso
        rw [if_pos aL] at aX
        have AJ:=aL.2
        rw [aW.1 i aj,aL.1,aE.1 i aj,aE.2 i aj] at AJ
        rw [aW.2 i aj,aE.1 i aj,aE.2 i aj,Co ao aj aL.1] at aX
        have hw:jG c l (bj x.bW i) i=true:=by
         unfold jG
         rw [aL.1,Bool.not_false,Bool.true_and,List.any_eq_true]
         exact⟨x,an,by rw [hm]; simp⟩
        cases AK:bj x.bW i
        ·rw [AK] at hw aX
         rw [hw] at AJ aX
         cases bk:jG c l true i <;> simp [bk] at AJ aX
        ·rw [AK] at hw aX
         rw [hw] at AJ aX
         cases bk:jG c l false i <;> simp [bk] at AJ aX
       ·rw [if_neg aL] at aX; exact aX
      ·intro uJ q hq
       exact uJ q ((mU ao).2 fun i aj hm=>by rw [(mU Dd).1 hq i aj (Hf i aj hm),z1 i aj hm])
     refine .cond (fun dk=> ?_) (fun he=> ?_)
     ·have dk:br≠c:=by simpa using dk
      have cv:nfree br < nfree c:=by
       have:∃ k,k < 512∧bj c.bR k=false∧bj br.bR k=true:=by
        false_or_by_contra
        rename_i fZ
        have hm:∀ i,i < 512→bj br.bR i=bj c.bR i:=fun i aj=>by
         cases aX:bj c.bR i
         ·cases bk:bj br.bR i
          ·rfl
          ·exact absurd ⟨i,aj,aX,bk⟩ fZ
         ·exact Hf i aj aX
        have a3:∀ i,i < 512→bj br.bW i=bj c.bW i:=fun i aj=>by
         cases aX:bj c.bR i
         ·rw [Co ao aj aX]
          exact Co Dd aj (by rw [hm i aj,aX])
         ·exact z1 i aj aX
        apply dk
        obtain⟨a,b⟩:=br; obtain⟨gI,b'⟩:=c
        simp only at hm a3
        rw [wA hm,wA a3]
       obtain⟨k,aX,bk,cV⟩:=this
       exact LK aX Hf bk cV
      refine(bO br l Dd al jq (by omega)).bind fun cj aX=> .ret ?_
      rw [aX,XC]
     ·have he:br=c:=by simpa using he
      have Y2:∃ i,i < 512∧bj a8.1 i=true∧ ∃ x∈l,bj x.bR i=true:=by
       have dk:l≠ []:=fun e=>by subst e; simp at bP
       obtain⟨x,r,Ia⟩:=List.exists_cons_of_ne_nil dk
       have an:x∈l:=by rw [Ia]; simp
       have:∃ i,i < 512∧bj x.bR i=true∧bj c.bR i=false:=by
        false_or_by_contra
        rename_i fZ
        refine HH x an fun i aj hm=> ?_
        cases aX:bj c.bR i
        ·exact absurd ⟨i,aj,hm,aX⟩ fZ
        ·exact⟨rfl,PM x an i aj aX hm⟩
       obtain⟨i,aj,AF,oD⟩:=this
       refine⟨i,aj,?_,x,an,AF⟩
       have aX:=aW.1 i aj
       rw [he,oD] at aX
       simp only [Bool.false_or] at aX
       have hw:jG c l (bj x.bW i) i=true:=by
        unfold jG
        rw [oD,Bool.not_false,Bool.true_and,List.any_eq_true]
        exact⟨x,an,by rw [AF]; simp⟩
       rw [aE.1 i aj,aE.2 i aj] at aX
       rw [aE.1 i aj]
       cases AK:bj x.bW i
       ·rw [AK] at hw; exact hw
       ·rw [AK] at hw
        rw [hw] at aX
        cases bk:jG c l false i
        ·rw [bk] at aX; simp at aX
        ·rfl
      refine(SU a8.1 l jq).bind fun cM bk=> ?_
      obtain⟨b,rfl,hb,mA⟩:=bk
      have AI:=mA Y2
      have pU:bj c.bR b=false:=by
       rw [aE.1 b hb] at AI
       unfold jG at AI
       simp only [Bool.and_eq_true,Bool.not_eq_true'] at AI
       exact AI.1
      refine(Cp hb pU false).bind fun dv cV=>(bO dv l (Cd ao cV) al jq (by have:=Li hb pU cV; omega)).bind fun eU eS=> ?_
      refine .cX (P:=uc c b true) (fun _=>Cp hb pU true) fun fo fB=> ?_
      refine .cX (P:=fun r=>r=true↔iL fo l) (fun k9=>bO fo l (Cd ao (fB k9)) al jq (by have:=Li hb pU (fB k9); omega)) fun gP jK=> .ret ?_
      rw [Bool.and_eq_true]
      obtain⟨abf,_,AL⟩:=Cp hb pU true
      rw [yI ao hb pU cV AL]
      constructor
      ·rintro ⟨a9,p8⟩
       refine⟨eS.1 a9,?_⟩
       have:=(yI (l:=l) ao hb pU cV (fB a9)).2 ⟨eS.1 a9,(jK a9).1 p8⟩
       exact((yI (l:=l) ao hb pU cV AL).1 this).2
      ·rintro ⟨a9,p8⟩
       have AM:=eS.2 a9
       refine⟨AM,(jK AM).2 ?_⟩
       have:=(yI (l:=l) ao hb pU cV AL).2 ⟨a9,p8⟩
       exact((yI (l:=l) ao hb pU cV (fB AM)).1 this).2
theorem E3 (c:a1) (l:List a1) (ao:can c) (al:∀ x∈l,can x) (hlen:l.length < 2 ^ 30):a6 (x9 c l) (fun r=>r=true↔iL c l):=
 Sg da c l ao al hlen (by have:=T3 c; unfold da; omega)
theorem Sw (c:a1) (l:List a1) (ao:can c) (al:∀ x∈l,can x) (hlen:l.length < 2 ^ 30):
 a6 (vD c l) (fun r=>if (l.filter (ka c)).length > 16 then r=(false,26) else(r.2=0∧ (r.1=true↔iL c l))):=by
 unfold vD
 refine .eq (y0 c l hlen) (.cond (fun h=> .ret ?_) (fun h=> ?_))
 ·rw [if_pos (by have:=of_decide_eq_true h; omega)]
 ·have rD:∀ x∈l.filter (ka c),can x:=fun x an=>al x (List.mem_filter.1 an).1
  have jq:(l.filter (ka c)).length < 2 ^ 30:=Nat.lt_of_le_of_lt (List.length_filter_le _ _) hlen
  refine(E3 c _ ao rD jq).bind fun y a4=> .ret ?_
  rw [if_neg (by have:=of_decide_eq_false h; omega)]
  exact⟨rfl,by rw [a4,LJ ao al]⟩
end Go.Proofs.YtmnggbjcnoffeaaGreat
namespace Go.Proofs.YtmnggbjcnoffeaaGreat
open Go Gv
set_option linter.unusedVariables false
set_option linter.unusedSimpArgs false
set_option maxRecDepth 100000
theorem iJ.cons_inv {α β:Type} {R:α→β→Prop} {x:α} {xs:List α} {ys:List β} (h:iJ R (x :: xs) ys):∃ y r,ys=y :: r∧R x y∧iJ R xs r:=by
 obtain⟨J,ab⟩:=h
 cases ys with
 | nil=>simp at J
 | cons y r=>
   refine⟨y,r,rfl,ab 0 (by simp) (by simp),by simpa using J,fun t cc nb=> ?_⟩
   have:=ab (t + 1) (by simp; omega) (by simp; omega)
   simpa using this
theorem iJ.UT {α β:Type} {R:α→β→Prop} {ys:List β} (h:iJ R [] ys):ys= []:=by
 have:=h.1
 cases ys with
 | nil=>rfl
 | cons y r=>simp at this
theorem iJ.cons {α β:Type} {R:α→β→Prop} {x:α} {y:β} :∀ {xs:List α} {ys:List β},R x y→iJ R xs ys→iJ R (x :: xs) (y :: ys):=fun {xs ys} h k=>
 ⟨by simp [k.1],fun t cc nb=>by
  cases t with
  | zero=>exact h
  | succ t=>simpa using k.2 t (by simpa using cc) (by simpa using nb)⟩
theorem iJ.filter {α β:Type} {R:α→β→Prop} {f:α→Bool} {g:β→Bool} :∀ {xs:List α} {ys:List β},iJ R xs ys→ (∀ x∈xs,∀ y,R x y→f x=g y)→iJ R (xs.filter f) (ys.filter g)
 | [],ys,h,_=>by rw [h.UT]; exact .nil
 | x :: xs,ys,h,a7=>by
   obtain⟨y,r,rfl,J,ab⟩:=h.cons_inv
   have bO:=iJ.filter ab (fun x an=>a7 x (by simp [an]))
   have:=a7 x (by simp) y J
   simp only [List.filter_cons,this]
   cases g y
   ·exact bO
   ·exact .cons J bO
theorem iJ.ex {α β:Type} {R:α→β→Prop} {xs:List α} {ys:List β} (h:iJ R xs ys) {P:α→Prop} {Q:β→Prop} (hp:∀ x∈xs,∀ y,R x y→ (P x↔Q y)):(∃ x∈xs,P x)↔ ∃ y∈ys,Q y:=by
 constructor
 ·rintro ⟨x,an,J⟩
  obtain⟨t,cc,rfl⟩:=List.mem_iff_getElem.1 an
  have nb:t < ys.length:=by rw [← h.1]; exact cc
  exact⟨ys[t],List.getElem_mem nb,(hp _ (List.getElem_mem cc) _ (h.2 t cc nb)).1 J⟩
 ·rintro ⟨y,a4,J⟩
  obtain⟨t,nb,rfl⟩:=List.mem_iff_getElem.1 a4
  have cc:t < xs.length:=by rw [h.1]; exact nb
  exact⟨xs[t],List.getElem_mem cc,(hp _ (List.getElem_mem cc) _ (h.2 t cc nb)).2 J⟩
abbrev hg:=Vector (BitVec 8) 512
abbrev lO:=Vector aw 4
def ln (p:hg) (q:lO):Prop:= ∀ i,i < 512→bd p i=2#8∨bd p i=if bj q i=true then 1#8 else 0#8
def lP (p:hg):Prop:= ∀ i,i < 512→bd p i=0#8∨bd p i=1#8∨bd p i=2#8
def nF (p:hg) (l:List hg):Prop:= ∀ q,ln p q→ ∃ x∈l,ln x q
def rel (c:a1) (p:hg):Prop:= ∀ i,i < 512→bd p i=cell c.bW c.bR i
def De (p x:hg):Prop:= ∀ i,i < 512→bd p i=2#8∨bd x i=2#8∨bd p i=bd x i
noncomputable def iM (p x:hg):Bool:= @decide (De p x) (Classical.propDecidable _)
theorem CC {p x:hg} :iM p x=true↔De p x:=by unfold iM; simp
theorem CD {c:a1} {p:hg} (h:rel c p):lP p:=fun i aj=>by
 rw [h i aj]; unfold cell
 cases bj c.bR i <;> cases bj c.bW i <;> simp
theorem ud {c:a1} {p:hg} (ao:can c) (h:rel c p) (q:lO):ln p q↔gQ c q=true:=by
 rw [mU ao]
 constructor
 ·intro g i aj hm
  have:=g i aj
  rw [h i aj] at this
  unfold cell at this
  rw [hm] at this
  cases J:bj c.bW i <;> cases ab:bj q i <;> simp [J,ab] at this ⊢
 ·intro g i aj
  rw [h i aj]
  unfold cell
  cases hm:bj c.bR i
  ·simp
  ·rw [g i aj hm]
   cases J:bj c.bW i <;> simp
theorem Mn {c:a1} {p:hg} {l:List a1} {m:List hg} (ao:can c) (al:∀ x∈l,can x) (h:rel c p) (hm:iJ rel l m):nF p m↔iL c l:=by
 constructor
 ·intro g q hq
  exact(hm.ex fun x an y a4=>(ud (al x an) a4 q).symm).2 (g q ((ud ao h q).2 hq))
 ·intro g q hq
  exact(hm.ex fun x an y a4=>(ud (al x an) a4 q).symm).1 (g q ((ud ao h q).1 hq))
theorem E8 (p:hg) (l:List hg) (al:l.length < 2 ^ 30):tx p l=some (l.filter (iM p)):=by
 refine a6.DB ?_
 unfold tx
 refine a6.loop l.length (fun k s=>s.1=k∧s.2=(l.take k).filter (iM p)) (by omega) ⟨rfl,by simp⟩ (fun k s aq aj=> ?_) (fun s aj=> ?_)
 ·obtain⟨n,o⟩:=s; obtain⟨ay,aS⟩:=aj
  simp only at ay aS; subst ay; subst aS
  refine a6.cond (fun _=> ?_) (fun h=>by simp at h; omega)
  have hle:((l.take k).filter (iM p)).length≤k:=Nat.le_trans (List.length_filter_le _ _) (by rw [List.length_take]; omega)
  have mb:(l.take (k + 1)).filter (iM p)=(l.take k).filter (iM p) ++ if iM p (aB l k)=true then [aB l k] else []:=by
   rw [List.take_add_one,List.getElem?_eq_getElem aq,List.filter_append,dU l aq]
   simp only [Option.toList_some,List.filter_cons,List.filter_nil]
  refine .idx rfl aq ((SO p _).bind fun aD J=> ?_)
  have a4:aD.2=iM p (aB l k):=by rw [Bool.eq_iff_iff,CC]; exact J.1
  refine .bind (P:=fun o=>o=(l.take (k + 1)).filter (iM p)) (.cond (fun h=> ?_) (fun h=> .ret ?_)) fun o bo=> .ret ⟨dz (by omega),bo⟩
  ·refine .eq (a:=(l.take k).filter (iM p) ++ [aB l k]) (by unfold fP; rw [if_pos]; unfold maxLen; simp only [List.length_cons,List.length_nil]; omega) (.ret ?_)
   rw [mb,← a4,h]; rfl
  ·rw [mb,← a4,h]; simp
 ·obtain⟨n,o⟩:=s; obtain⟨ay,aS⟩:=aj
  simp only at ay aS; subst ay; subst aS
  rw [List.take_length]
  refine⟨_,by simp; rfl,?_⟩
  exact .ret rfl
theorem Tt {p:hg} {l:List hg} :nF p (l.filter (iM p))↔nF p l:=by
 constructor
 ·intro h q hq
  obtain⟨x,an,J⟩:=h q hq
  exact⟨x,(List.mem_filter.1 an).1,J⟩
 ·intro h q hq
  obtain⟨x,an,J⟩:=h q hq
  refine⟨x,List.mem_filter.2 ⟨an,CC.2 fun i aj=> ?_⟩,J⟩
  rcases hq i aj with ab | ab
  ·exact .inl ab
  ·rcases J i aj with aE | aE
   ·exact .inr (.inl aE)
   ·exact .inr (.inr (by rw [ab,aE]))
def ue (p:hg):Nat:=pt 512 (fun i=>bd p i ==2#8)
theorem UU {p:hg} (hp:lP p):∃ q,ln p q:=by
 obtain⟨q,hq⟩:=Fz fun i=>bd p i ==1#8
 refine⟨q,fun i aj=> ?_⟩
 rw [hq i aj]
 rcases hp i aj with h | h | h <;> rw [h] <;> simp
theorem y1 {p:hg} {k:Nat} (aq:k < 512) (a7:bd p k=2#8) (b:Bool) (q:lO):ln (cq p k (if b=true then 1#8 else 0#8)) q↔ln p q∧bj q k=b:=by
 constructor
 ·intro h
  refine⟨fun i aj=> ?_,?_⟩
  ·by_cases e4:i=k
   ·subst e4; exact .inl a7
   ·have:=h i aj
    rw [eK _ _ aq,if_neg e4] at this; exact this
  ·have:=h k aq
   rw [eK _ _ aq,if_pos rfl] at this
   cases b <;> cases ab:bj q k <;> simp [ab] at this ⊢
 ·rintro ⟨h,ab⟩ i aj
  rw [eK _ _ aq]
  by_cases e4:i=k
  ·subst e4; rw [if_pos rfl,ab]; right; rfl
  ·rw [if_neg e4]; exact h i aj
theorem F1 {p:hg} {k:Nat} (aq:k < 512) (hp:lP p) (b:Bool):lP (cq p k (if b=true then 1#8 else 0#8)):=fun i aj=>by
 rw [eK _ _ aq]
 by_cases e4:i=k
 ·rw [if_pos e4]; cases b <;> simp
 ·rw [if_neg e4]; exact hp i aj
theorem KT {p:hg} {k:Nat} (aq:k < 512) (a7:bd p k=2#8) (b:Bool):ue (cq p k (if b=true then 1#8 else 0#8)) < ue p:=by
 refine Lh aq (fun i aj h=> ?_) ?_ (by rw [a7]; rfl)
 ·rw [eK _ _ aq] at h
  by_cases e4:i=k
  ·subst e4; rw [a7]; rfl
  ·rw [if_neg e4] at h; exact h
 ·rw [eK _ _ aq,if_pos rfl]; cases b <;> rfl
set_option maxHeartbeats 2000000 in
theorem JZ:∀ (n:Nat) (p:hg) (l:List hg),lP p→ (∀ x∈l,lP x)→l.length < 2 ^ 30→ue p < n→a6 (rS n p l) (fun r=>r=true↔nF p l):=by
 intro n
 induction n with
 | zero=>intro p l _ _ _ h; omega
 | succ n bO=>
   intro p kf hp D8 hlen aO
   unfold rS
   refine .eq (E8 p kf hlen) ?_
   have al:∀ x∈kf.filter (iM p),lP x:=fun x an=>D8 x (List.mem_filter.1 an).1
   have D9:∀ x∈kf.filter (iM p),De p x:=fun x an=>CC.1 (List.mem_filter.1 an).2
   have jq:(kf.filter (iM p)).length < 2 ^ 30:=Nat.lt_of_le_of_lt (List.length_filter_le _ _) hlen
   rw [← Tt (l:=kf)]
   generalize kf.filter (iM p)=l at al D9 jq
   refine .cond (fun bP=> .ret ?_) (fun bP=> ?_)
   ·have:l= []:=by
     simp only [beq_iff_eq] at bP
     exact List.length_eq_zero_iff.1 (by omega)
    subst this
    refine⟨fun h=>(by cases h),fun uJ=> ?_⟩
    obtain⟨q,hq⟩:=UU hp
    obtain⟨x,an,_⟩:=uJ q hq
    cases an
   have sN:0 < l.length:=by
    rcases Nat.eq_zero_or_pos l.length with h | h
    ·rw [h] at bP; simp at bP
    ·exact h
   refine a6.loop l.length (fun k s=>s=(k:Int)∧ ∀ j,j < k→ ¬ ∀ i,i < 512→bd (aB l j) i=2#8∨bd p i=bd (aB l j) i) (by omega) ⟨rfl,fun j aF=>by omega⟩ (fun k s aq aj=> ?_) (fun s aj=> ?_)
   ·obtain⟨ay,aS⟩:=aj; subst ay
    refine a6.cond (fun _=> ?_) (fun h=>by simp at h; omega)
    refine .idx rfl aq ((Sf p _).bind fun aM ab=> .cond (fun h=> ?_) (fun h=> ?_))
    ·refine .ret ?_
     refine .ret ?_
     refine⟨fun _ q hq=>⟨aB l k,by rw [dU l aq]; exact List.getElem_mem aq,fun i aj=> ?_⟩,fun _=>rfl⟩
     rcases ab.1 h i aj with aE | aE
     ·exact .inl aE
     ·rw [← aE]; exact hq i aj
    ·refine .ret ⟨dz (by omega),fun j aF=> ?_⟩
     by_cases gw:j=k
     ·subst gw; intro hw; rw [ab.2 hw] at h; cases h
     ·exact aS j (by omega)
   ·obtain⟨ay,HH⟩:=aj; subst ay
    refine⟨_,by simp; rfl,?_⟩
    simp only [Sum.elim_inl]
    have PN:=HH 0 sN
    have hJ:De p (aB l 0):=D9 _ (by rw [dU l sN]; exact List.getElem_mem sN)
    have PO:lP (aB l 0):=al _ (by rw [dU l sN]; exact List.getElem_mem sN)
    obtain⟨x,an⟩:∃ x,aB l 0=x:=⟨_,rfl⟩
    rw [an] at PN hJ PO
    refine a6.loop 512 (fun k s=>s=(k:Int)∧ ∀ j,j < k→ ¬ (bd p j=2#8∧bd x j≠2#8)) (by omega) ⟨rfl,fun j aF=>by omega⟩ (fun k s aq aj=> ?_) (fun s aj=> ?_)
    ·obtain⟨ay,aS⟩:=aj; subst ay
     refine a6.cond (fun _=> ?_) (fun h=>by simp at h; omega)
     refine .idx rfl aq ?_
     refine .cX (P:=fun r=>r=0) (fun _=>⟨0,lD (k:=0) sN,rfl⟩) fun cb aE=> ?_
     refine .cX (P:=fun r=>r=k) (fun _=>⟨k,lD aq,rfl⟩) fun du aW=> ?_
     refine .cond (fun h=> ?_) (fun h=> ?_)
     ·refine .ret ⟨dz (by omega),fun j aF=> ?_⟩
      by_cases gw:j=k
      ·subst gw
       rintro ⟨a9,hb⟩
       have dk:(bd p j !=2#8)=false:=by rw [a9]; rfl
       rw [aE dk,aW dk,an,dk,Bool.false_or,beq_iff_eq] at h
       exact hb h
      ·exact aS j (by omega)
     ·rw [Bool.or_eq_false_iff] at h
      rw [aE h.1,aW h.1,an] at h
      have td:bd p k=2#8:=by simpa using h.1
      have AA:bd x k≠2#8:=by simpa using h.2
      obtain⟨b,hb⟩:∃ b:Bool,bd x k=if b=true then 1#8 else 0#8:=by
       rcases PO k aq with aX | aX | aX
       ·exact⟨false,aX⟩
       ·exact⟨true,aX⟩
       ·exact absurd aX AA
      refine .idx (k:=0) rfl sN (.idx rfl aq (.idx (k:=0) rfl sN (.idx rfl aq (.idx rfl aq (.idx rfl aq ?_)))))
      rw [an,hb,show 1#8 - (if b=true then 1#8 else 0#8)=(if (!b)=true then 1#8 else 0#8) from by cases b <;> rfl]
      refine(bO _ l (F1 aq hp (!b)) al jq (by have:=KT aq td (!b); omega)).bind fun a8 bq=> ?_
      refine .cX (P:=fun r=>r=true↔nF (cq p k (if b=true then 1#8 else 0#8)) l) (fun _=>bO _ l (F1 aq hp b) al jq (by have:=KT aq td b; omega)) fun br cx=> ?_
      refine .ret ?_
      refine .ret ?_
      rw [Bool.and_eq_true]
      constructor
      ·rintro ⟨a9,p8⟩ q hq
       by_cases IQ:bj q k=b
       ·exact(cx a9).1 p8 q ((y1 aq td b q).2 ⟨hq,IQ⟩)
       ·exact bq.1 a9 q ((y1 aq td (!b) q).2 ⟨hq,by cases b <;> simp at IQ ⊢ <;> exact IQ⟩)
      ·intro ao
       have a9:=bq.2 fun q hq=>ao q ((y1 aq td (!b) q).1 hq).1
       exact⟨a9,(cx a9).2 fun q hq=>ao q ((y1 aq td b q).1 hq).1⟩
    ·obtain⟨ay,aS⟩:=aj
     exfalso
     refine PN fun i aj=> ?_
     rcases hJ i aj with aX | aX | aX
     ·left
      false_or_by_contra
      rename_i bk
      exact aS i aj ⟨aX,bk⟩
     ·exact .inl aX
     ·exact .inr aX
theorem J7 (p:hg) (l:List hg) (hp:lP p) (al:∀ x∈l,lP x) (hlen:l.length < 2 ^ 30):
 a6 (vA p l) (fun r=>if (l.filter (iM p)).length > 16 then r=(false,26) else(r.2=0∧ (r.1=true↔nF p l))):=by
 unfold vA
 refine .eq (E8 p l hlen) (.cond (fun h=> .ret ?_) (fun h=> ?_))
 ·rw [if_pos (by have:=of_decide_eq_true h; omega)]
 ·have aO:ue p < da:=by have:ue p≤512:=Gr; unfold da; omega
  refine(JZ da p l hp al hlen aO).bind fun y a4=> .ret ?_
  rw [if_neg (by have:=of_decide_eq_false h; omega)]
  exact⟨rfl,a4⟩
end Go.Proofs.YtmnggbjcnoffeaaGreat
namespace Go.Proofs.YtmnggbjcnoffeaaGreat
open Go Gv
set_option linter.unusedVariables false
set_option linter.unusedSimpArgs false
set_option maxRecDepth 100000
theorem R3 (c:a1) (l:List a1) (ao:can c) (al:∀ x∈l,can x) (hlen:l.length≤16):a6 (vD c l) (fun r=>r.2=0∧ (r.1=true↔iL c l)):=
 (Sw c l ao al (by omega)).mono fun r h=>by
  rw [if_neg (by have:=List.length_filter_le (ka c) l; omega)] at h; exact h
end Go.Proofs.YtmnggbjcnoffeaaGreat
namespace Go.Proofs.YtmnggbjcnoffeaaGreat
open Go Gv
set_option linter.unusedVariables false
set_option linter.unusedSimpArgs false
set_option maxRecDepth 100000
structure lF (C U:lO→Prop) (k:Nat) (S:lO→Prop):Prop where
 some_:∃ q,S q∧U q
 sub:∀ q,S q→C q
 same:∀ q ed,S q→S ed→ ∀ j,j < k→bj q j=bj ed j
 least:∀ ed,C ed→U ed→S ed∨ ∀ q,S q→ ∃ i,i < k∧bj q i=false∧bj ed i=true∧ ∀ j,j < i→bj q j=bj ed j
theorem lF.skip {C U S:lO→Prop} {k:Nat} (g:lF C U k S) (h:∀ q ed,S q→S ed→bj q k=bj ed k):lF C U (k + 1) S where
 some_:=g.some_
 sub:=g.sub
 same q ed hq gv j aF:=by
  by_cases gw:j=k
  ·subst gw; exact h q ed hq gv
  ·exact g.same q ed hq gv j (by omega)
 least ed ao hu:=by
  rcases g.least ed ao hu with J | J
  ·exact .inl J
  ·refine .inr fun q hq=> ?_
   obtain⟨i,ab,aE⟩:=J q hq
   exact⟨i,by omega,aE⟩
theorem lF.zero {C U S:lO→Prop} {k:Nat} (g:lF C U k S) (h:∃ q,(S q∧bj q k=false)∧U q):lF C U (k + 1) (fun q=>S q∧bj q k=false) where
 some_:=h
 sub q hq:=g.sub q hq.1
 same q ed hq gv j aF:=by
  by_cases gw:j=k
  ·subst gw; rw [hq.2,gv.2]
  ·exact g.same q ed hq.1 gv.1 j (by omega)
 least ed ao hu:=by
  rcases g.least ed ao hu with J | J
  ·cases ab:bj ed k
   ·exact .inl ⟨J,rfl⟩
   ·exact .inr fun q hq=>⟨k,by omega,hq.2,ab,fun j aF=>g.same q ed hq.1 J j aF⟩
  ·refine .inr fun q hq=> ?_
   obtain⟨i,ab,aE⟩:=J q hq.1
   exact⟨i,by omega,aE⟩
theorem lF.one {C U S:lO→Prop} {k:Nat} (g:lF C U k S) (h: ¬ ∃ q,(S q∧bj q k=false)∧U q):lF C U (k + 1) (fun q=>S q∧bj q k=true) where
 some_:=by
  obtain⟨q,J,ab⟩:=g.some_
  refine⟨q,⟨J,?_⟩,ab⟩
  cases aE:bj q k
  ·exact absurd ⟨q,⟨J,aE⟩,ab⟩ h
  ·rfl
 sub q hq:=g.sub q hq.1
 same q ed hq gv j aF:=by
  by_cases gw:j=k
  ·subst gw; rw [hq.2,gv.2]
  ·exact g.same q ed hq.1 gv.1 j (by omega)
 least ed ao hu:=by
  rcases g.least ed ao hu with J | J
  ·cases ab:bj ed k
   ·exact absurd ⟨ed,⟨J,ab⟩,hu⟩ h
   ·exact .inl ⟨J,rfl⟩
  ·refine .inr fun q hq=> ?_
   obtain⟨i,ab,aE⟩:=J q hq.1
   exact⟨i,by omega,aE⟩
theorem lF.congr {C U S Ju:lO→Prop} {k:Nat} (g:lF C U k S) (h:∀ q,Ju q↔S q):lF C U k Ju:=by
 have:Ju=S:=funext fun q=>propext (h q)
 rw [this]; exact g
def tP (C U:lO→Prop) (q:lO):Prop:=C q∧U q∧ ∀ ed,C ed→U ed→ed=q∨ ∃ i,i < 512∧bj q i=false∧bj ed i=true∧ ∀ j,j < i→bj q j=bj ed j
theorem tP.uniq {C U:lO→Prop} {q ed:lO} (h:tP C U q) (cR:tP C U ed):q=ed:=by
 rcases h.2.2 ed cR.1 cR.2.1 with J | ⟨i,_,ab,aE,aW⟩
 ·exact J.symm
 rcases cR.2.2 q h.1 h.2.1 with J | ⟨j,_,aT,bq,cx⟩
 ·exact J
 exfalso
 rcases Nat.lt_trichotomy i j with al | al | al
 ·have:=cx i al; rw [ab,aE] at this; cases this
 ·subst al; rw [ab] at bq; cases bq
 ·have:=aW j al; rw [aT,bq] at this; cases this
theorem lF.done {C U S:lO→Prop} (g:lF C U 512 S) {q:lO} (hq:S q):tP C U q:=by
 have ix:∀ ed,S ed→ed=q:=fun ed gv=>wA fun i aj=>g.same ed q gv hq i aj
 obtain⟨w,J,ab⟩:=g.some_
 rw [ix w J] at ab
 refine⟨g.sub q hq,ab,fun ed ao hu=> ?_⟩
 rcases g.least ed ao hu with aE | aE
 ·exact .inl (ix ed aE)
 ·exact .inr (aE q hq)
def out (l:List a1) (q:lO):Prop:= ∀ x∈l,¬ gQ x q=true
theorem wi {c:a1} {l:List a1} : ¬ iL c l↔ ∃ q,gQ c q=true∧out l q:=by
 constructor
 ·intro h
  false_or_by_contra
  rename_i J
  refine h fun q hq=> ?_
  false_or_by_contra
  rename_i ab
  exact J ⟨q,hq,fun x an aj=>ab ⟨x,an,aj⟩⟩
 ·rintro ⟨q,J,ab⟩ ao
  obtain⟨x,an,aj⟩:=ao q J
  exact ab x an aj
def asks (c:a1) (n l:List a1):Prop:= ∀ q,gQ c q=true→ (out n q↔out l q)
theorem Fk {c d:a1} {n l:List a1} (hd:can d) (aO:∀ x∈n,can x) (h:asks c n l) (kJ:∀ q,gQ d q=true→gQ c q=true):asks d (n.filter (ka d)) l:=fun q hq=>by
 rw [← h q (kJ q hq)]
 constructor
 ·intro J x an aj
  exact J x (List.mem_filter.2 ⟨an,CB.2 (Kz hd (aO x an) hq aj)⟩) aj
 ·intro J x an aj
  exact J x (List.mem_filter.1 an).1 aj
theorem LL {c:a1} {n l:List a1} (h:asks c n l):iL c n↔iL c l:=by
 constructor
 ·intro J
  false_or_by_contra
  rename_i ab
  obtain⟨q,aE,aW⟩:=wi.1 ab
  exact wi.2 ⟨q,aE,(h q aE).2 aW⟩ J
 ·intro J
  false_or_by_contra
  rename_i ab
  obtain⟨q,aE,aW⟩:=wi.1 ab
  exact wi.2 ⟨q,aE,(h q aE).1 aW⟩ J
set_option maxHeartbeats 2000000 in
theorem Sx (c:a1) (l:List a1) (ao:can c) (al:∀ x∈l,can x) (hlen:l.length < 2 ^ 30):
 a6 (yb c l) (fun r=>if (l.filter (ka c)).length > 16 then r=(default,false,26) else((iL c l→r=(default,false,0))∧ (¬ iL c l→ ∃ q,r=(q,true,0)∧tP (fun q=>gQ c q=true) (out l) q))):=by
 unfold yb
 refine .eq (y0 c l hlen) (.cond (fun h=> .ret ?_) (fun h=> ?_))
 ·rw [if_pos (by have:=of_decide_eq_true h; omega)]
 have rp: ¬ (l.filter (ka c)).length > 16:=by have:=of_decide_eq_false h; omega
 simp only [if_neg rp]
 have rD:∀ x∈l.filter (ka c),can x:=fun x an=>al x (List.mem_filter.1 an).1
 have jq:(l.filter (ka c)).length < 2 ^ 30:=Nat.lt_of_le_of_lt (List.length_filter_le _ _) hlen
 have uK:asks c (l.filter (ka c)) l:=Fk ao al (fun q _=>Iff.rfl) fun q hq=>hq
 refine(E3 c _ ao rD jq).bind fun aM ab=> ?_
 rw [LL uK] at ab
 refine .cond (fun aE=> .ret ⟨fun _=>rfl,fun aO=>absurd (ab.1 aE) aO⟩) (fun aE=> ?_)
 have AN: ¬ iL c l:=fun lp=>by rw [ab.2 lp] at aE; cases aE
 refine a6.loop 512 (fun k s=>s.2.1=(k:Int)∧can s.2.2∧ (∀ x∈s.1,can x)∧s.1.length < 2 ^ 30∧asks s.2.2 s.1 l∧ (∀ j,j < k→bj s.2.2.bR j=true)∧lF (fun q=>gQ c q=true) (out l) k (fun q=>gQ s.2.2 q=true)) (by omega)
  ⟨rfl,ao,rD,jq,uK,fun j aF=>by omega,⟨wi.1 AN,fun q hq=>hq,fun _ _ _ _ j aF=>by omega,fun ed J _=> .inl J⟩⟩ (fun k s aq aj=> ?_) (fun s aj=> ?_)
 ·obtain⟨n,mH,d⟩:=s; obtain⟨ay,hd,aO,lM,xd,nT,bZ⟩:=aj
  simp only at ay hd aO lM xd nT bZ; subst ay
  refine a6.cond (fun _=> ?_) (fun h=>by simp at h; omega)
  refine(M5 d k aq false).bind fun a8 bq=> .cond (fun h=> .ret ?_) (fun h=> ?_)
  ·have he:a8=d:=by simpa using h
   have hm:bj d.bR k=true:=by
    cases hm:bj d.bR k
    ·have:=(bq.2 hm).1 k aq
     rw [he,hm] at this; simp at this
    ·rfl
   refine⟨dz (by omega),hd,aO,lM,xd,fun j aF=> ?_,bZ.skip fun q ed hq gv=> ?_⟩
   ·by_cases gw:j=k
    ·subst gw; exact hm
    ·exact nT j (by omega)
   ·rw [(mU hd).1 hq k aq hm,(mU hd).1 gv k aq hm]
  ·have hm:bj d.bR k=false:=by
    cases hm:bj d.bR k
    ·rfl
    ·rw [bq.1 hm] at h; simp at h
   have bq:=bq.2 hm
   have nM:can a8:=Cd hd bq
   have HI:=vZ hd aq hm bq
   have XD:∀ q,gQ a8 q=true→gQ d q=true:=fun q hq=>by rw [HI,Bool.and_eq_true] at hq; exact hq.1
   refine .eq (y0 a8 n lM) ((E3 a8 _ nM (fun x an=>aO x (List.mem_filter.1 an).1) (Nat.lt_of_le_of_lt (List.length_filter_le _ _) lM)).bind fun cj gT=> ?_)
   have OY:=Fk nM aO xd XD
   rw [LL OY] at gT
   refine .cond (fun aX=> .ret ?_) (fun aX=> ?_)
   ·have Y3: ¬ iL a8 l:=fun lp=>by rw [gT.2 lp] at aX; cases aX
    obtain⟨w,uQ,sV⟩:=wi.1 Y3
    have hs:∀ q,gQ a8 q=true↔gQ d q=true∧bj q k=false:=fun q=>by rw [HI,Bool.and_eq_true,beq_iff_eq]
    refine⟨dz (by omega),nM,fun x an=>aO x (List.mem_filter.1 an).1,Nat.lt_of_le_of_lt (List.length_filter_le _ _) lM,OY,fun j aF=> ?_,(bZ.zero ⟨w,(hs w).1 uQ,sV⟩).congr hs⟩
    rw [bq.1 j (by omega)]
    by_cases gw:j=k
    ·subst gw; simp
    ·rw [nT j (by omega)]; rfl
   ·have mz:iL a8 l:=gT.1 (by simpa using aX)
    refine(Cp aq hm true).bind fun cM kU=> ?_
    have PQ:can cM:=Cd hd kU
    have OZ:=vZ hd aq hm kU
    have XE:∀ q,gQ cM q=true→gQ d q=true:=fun q hq=>by rw [OZ,Bool.and_eq_true] at hq; exact hq.1
    refine .eq (y0 cM n lM) (.ret ?_)
    have hs:∀ q,gQ cM q=true↔gQ d q=true∧bj q k=true:=fun q=>by rw [OZ,Bool.and_eq_true,beq_iff_eq]
    refine⟨dz (by omega),PQ,fun x an=>aO x (List.mem_filter.1 an).1,Nat.lt_of_le_of_lt (List.length_filter_le _ _) lM,Fk PQ aO xd XE,fun j aF=> ?_,(bZ.one ?_).congr hs⟩
    ·rw [kU.1 j (by omega)]
     by_cases gw:j=k
     ·subst gw; simp
     ·rw [nT j (by omega)]; rfl
    ·rintro ⟨q,⟨J,ab⟩,aE⟩
     obtain⟨x,an,aj⟩:=mz q (by rw [HI,J,ab]; rfl)
     exact aE x an aj
 ·obtain⟨n,mH,d⟩:=s; obtain⟨ay,hd,aO,lM,xd,nT,bZ⟩:=aj
  simp only at ay hd aO lM xd nT bZ; subst ay
  refine⟨_,by simp; rfl,?_⟩
  exact .ret ⟨fun lp=>absurd lp AN,fun _=>⟨d.bW,rfl,bZ.done (Nc hd)⟩⟩
theorem T4 (p:hg):a6 (yj p) (fun r=> ∀ i,i < 512→bj r i=(bd p i ==1#8)):=by
 unfold yj
 refine a6.loop 4 (fun k s=>s.1=(k:Int)∧ ∀ i,i < 512→i / 128 < k→bj s.2 i=(bd p i ==1#8)) (by omega) ⟨rfl,fun i _ h=>by omega⟩ (fun k s aq aj=> ?_) (fun s aj=> ?_)
 ·obtain⟨mH,v⟩:=s; obtain⟨ay,aS⟩:=aj
  simp only at ay aS; subst ay
  refine a6.cond (fun _=> ?_) (fun h=>by simp at h; omega)
  refine a6.loop 128 (fun j s=>s.1=(j:Int)∧ ∀ i,i < j→bd s.2 i=(bd p (128 * k + 127 - i) ==1#8)) (by omega) ⟨rfl,fun i aj=>by omega⟩ (fun j s aF aj=> ?_) (fun s aj=> ?_)
  ·obtain⟨Jv,b⟩:=s; obtain⟨au,aT⟩:=aj
   simp only at au aT; subst au
   refine a6.cond (fun _=> ?_) (fun h=>by simp at h; omega)
   have hw:bm (bm (bm (128 * (k:Int)) + 127) - (j:Int))=((128 * k + 127 - j:Nat):Int):=by
    rw [gC (x:=128 * (k:Int)) (by omega) (by omega),gC (x:=128 * (k:Int) + 127) (by omega) (by omega),gC (by omega) (by omega)]; omega
   refine .idx hw (by omega) (.idx rfl aF (.ret ⟨dz (by omega),fun i aj=> ?_⟩))
   show bd (cq b j _) i=_
   rw [eK _ _ aF]
   by_cases e9:i=j
   ·subst e9; rw [if_pos rfl]
   ·rw [if_neg e9]; exact aT i (by omega)
  ·obtain⟨Jv,b⟩:=s; obtain⟨au,aT⟩:=aj
   simp only at au aT; subst au
   refine⟨_,rfl,?_⟩
   refine(FY b).bind fun aD J=> .idx rfl aq (.ret ⟨dz (by omega),fun i aj e4=> ?_⟩)
   by_cases hq:i / 128=k
   ·unfold bj
    show bV (bd (cq v k aD) (i / 128)) _=_
    rw [eK _ _ aq,if_pos hq,J _ (by omega),aT _ (by omega)]
    congr 2; omega
   ·have:=aS i aj (by omega)
    unfold bj at this ⊢
    show bV (bd (cq v k aD) (i / 128)) _=_
    rw [eK _ _ aq,if_neg hq]; exact this
 ·obtain⟨mH,v⟩:=s; obtain⟨ay,aS⟩:=aj
  simp only at ay aS; subst ay
  refine⟨_,rfl,?_⟩
  exact .ret fun i aj=>aS i aj (by omega)
def sO (l:List hg) (q:lO):Prop:= ∀ x∈l,¬ ln x q
theorem FB {p:hg} {l:List hg} : ¬ nF p l↔ ∃ q,ln p q∧sO l q:=by
 constructor
 ·intro h
  false_or_by_contra
  rename_i J
  refine h fun q hq=> ?_
  false_or_by_contra
  rename_i ab
  exact J ⟨q,hq,fun x an aj=>ab ⟨x,an,aj⟩⟩
 ·rintro ⟨q,J,ab⟩ ao
  obtain⟨x,an,aj⟩:=ao q J
  exact ab x an aj
set_option maxHeartbeats 2000000 in
theorem RT (p:hg) (l:List hg) (hp:lP p) (al:∀ x∈l,lP x) (hlen:l.length < 2 ^ 30):
 a6 (ya p l) (fun r=>if (l.filter (iM p)).length > 16 then r=(default,false,26) else((nF p l→r=(default,false,0))∧ (¬ nF p l→ ∃ q,r=(q,true,0)∧tP (ln p) (sO l) q))):=by
 unfold ya
 refine(J7 p l hp al hlen).bind fun aD J=> ?_
 by_cases bZ:(l.filter (iM p)).length > 16
 ·rw [if_pos bZ] at J
  simp only [if_pos bZ]
  subst J
  exact .cond (fun _=> .ret rfl) (fun h=>by cases h)
 rw [if_neg bZ] at J
 simp only [if_neg bZ]
 refine .cond (fun h=> .ret ?_) (fun h=> ?_)
 ·rw [J.1] at h ⊢
  have ao:nF p l:=J.2.1 (by simpa using h)
  exact⟨fun _=>rfl,fun aO=>absurd ao aO⟩
 have AN: ¬ nF p l:=fun lp=>by rw [J.2.2 lp] at h; simp at h
 refine .eq (E8 p l hlen) ?_
 have rD:∀ x∈l.filter (iM p),lP x:=fun x an=>al x (List.mem_filter.1 an).1
 have jq:(l.filter (iM p)).length < 2 ^ 30:=Nat.lt_of_le_of_lt (List.length_filter_le _ _) hlen
 have uK:∀ q,ln p q→ (sO (l.filter (iM p)) q↔sO l q):=fun q hq=>by
  constructor
  ·intro J x an aj
   refine J x (List.mem_filter.2 ⟨an,CC.2 fun i hZ=> ?_⟩) aj
   rcases hq i hZ with ab | ab
   ·exact .inl ab
   ·rcases aj i hZ with aE | aE
    ·exact .inr (.inl aE)
    ·exact .inr (.inr (by rw [ab,aE]))
  ·intro J x an aj
   exact J x (List.mem_filter.1 an).1 aj
 generalize l.filter (iM p)=m at rD jq uK
 refine a6.loop 512 (fun k s=>s.1=(k:Int)∧lP s.2∧ (∀ j,j < k→bd s.2 j≠2#8)∧lF (ln p) (sO l) k (ln s.2)) (by omega)
  ⟨rfl,hp,fun j aF=>by omega,⟨FB.1 AN,fun q hq=>hq,fun _ _ _ _ j aF=>by omega,fun ed J _=> .inl J⟩⟩ (fun k s aq aj=> ?_) (fun s aj=> ?_)
 ·obtain⟨mH,d⟩:=s; obtain⟨ay,hd,nT,pv⟩:=aj
  simp only at ay hd nT pv; subst ay
  refine a6.cond (fun _=> ?_) (fun h=>by simp at h; omega)
  refine .idx rfl aq (.cond (fun h=> .ret ?_) (fun h=> ?_))
  ·have dk:bd d k≠2#8:=by simpa using h
   refine⟨dz (by omega),hd,fun j aF=> ?_,pv.skip fun q ed hq gv=> ?_⟩
   ·by_cases gw:j=k
    ·subst gw; exact dk
    ·exact nT j (by omega)
   ·have ay:=(hq k aq).resolve_left dk
    have aS:=(gv k aq).resolve_left dk
    rw [ay] at aS
    cases J:bj q k <;> cases ab:bj ed k <;> simp [J,ab] at aS ⊢
  ·have a7:bd d k=2#8:=by simpa using h
   refine .idx rfl aq ?_
   have jY:=y1 aq a7
   have g2:=F1 aq hd
   refine a6.loop m.length (fun j s=>s.2=(j:Int)∧s.1=(m.take j).any (fun x=>bd x k !=2#8)) (by omega) ⟨rfl,rfl⟩ (fun j s aF aj=> ?_) (fun s aj=> ?_)
   ·obtain⟨f,Jv⟩:=s; obtain⟨au,aT⟩:=aj
    simp only at au aT; subst au
    refine a6.cond (fun _=> ?_) (fun h=>by simp at h; omega)
    refine .idx rfl aF (.cX (P:=fun r=>r=k) (fun _=>⟨k,lD aq,rfl⟩) fun du aW=> .ret ⟨dz (by omega),?_⟩)
    rw [List.take_add_one,List.getElem?_eq_getElem aF,List.any_append,← aT,dU m aF]
    cases a7:f
    ·rw [aW a7]; simp
    ·simp
   ·obtain⟨f,Jv⟩:=s; obtain⟨au,aT⟩:=aj
    simp only at au aT; subst au
    rw [List.take_length] at aT
    refine⟨_,by simp; rfl,?_⟩
    simp only
    have aO:ue (cq d k 0#8) < da:=by have:ue (cq d k 0#8)≤512:=Gr; unfold da; omega
    refine .cX (P:=fun r=>r=true↔nF (cq d k 0#8) m) (fun _=>JZ da _ m (g2 false) rD jq aO) fun a8 aE=> ?_
    have dh:(∃ q,(ln d q∧bj q k=false)∧sO l q)↔ ¬ nF (cq d k 0#8) m:=by
     rw [FB]
     constructor
     ·rintro ⟨q,aX,bk⟩
      exact⟨q,(jY false q).2 aX,(uK q (pv.sub q aX.1)).2 bk⟩
     ·rintro ⟨q,aX,bk⟩
      have cV:=(jY false q).1 aX
      exact⟨q,cV,(uK q (pv.sub q cV.1)).1 bk⟩
    have uo:∀ (b:Bool) j,j < k + 1→bd (cq d k (if b=true then 1#8 else 0#8)) j≠2#8:=fun b j aF=>by
     rw [eK _ _ aq]
     by_cases gw:j=k
     ·rw [if_pos gw]; cases b <;> simp
     ·rw [if_neg gw]; exact nT j (by omega)
    refine .bind (P:=fun v=>lP v∧ (∀ j,j < k + 1→bd v j≠2#8)∧lF (ln p) (sO l) (k + 1) (ln v)) (.cond (fun aX=> ?_) (fun aX=> .ret ?_)) fun v a3=> .ret ⟨dz (by omega),a3⟩
    ·simp only [Bool.and_eq_true] at aX
     have lp:=(aE aX.1).1 aX.2
     refine .idx rfl aq (.ret ?_)
     have e:cq (cq d k 0#8) k 1#8=cq d k 1#8:=Cm fun j aF=>by
      rw [eK _ _ aq,eK _ _ aq,eK _ _ aq]
      by_cases gw:j=k
      ·rw [if_pos gw,if_pos gw]
      ·rw [if_neg gw,if_neg gw,if_neg gw]
     rw [e]
     exact⟨g2 true,uo true,(pv.one fun an=>dh.1 an lp).congr (jY true)⟩
    ·refine⟨g2 false,uo false,(pv.zero (dh.2 ?_)).congr (jY false)⟩
     cases PR:f
     ·
      rw [PR] at aT
      have fZ:∀ x∈m,bd x k=2#8:=fun x an=>by
       have:=List.any_eq_false.1 aT.symm x an
       simpa using this
      obtain⟨w,uQ,sV⟩:=pv.some_
      obtain⟨oJ,s0⟩:=Fz fun i=>if i=k then false else bj w i
      refine FB.2 ⟨oJ,(jY false oJ).2 ⟨fun i aj=> ?_,by rw [s0 k aq,if_pos rfl]⟩,fun x an aj=> ?_⟩
      ·by_cases e4:i=k
       ·subst e4; exact .inl a7
       ·rw [s0 i aj,if_neg e4]; exact uQ i aj
      ·refine(uK w (pv.sub w uQ)).2 sV x an fun i hZ=> ?_
       by_cases e4:i=k
       ·subst e4; exact .inl (fZ x an)
       ·have:=aj i hZ
        rw [s0 i hZ,if_neg e4] at this; exact this
     ·intro lp
      rw [PR] at aX aE
      rw [(aE rfl).2 lp] at aX
      cases aX
 ·obtain⟨mH,d⟩:=s; obtain⟨ay,hd,nT,pv⟩:=aj
  simp only at ay hd nT pv; subst ay
  refine⟨_,by simp; rfl,?_⟩
  refine(T4 d).bind fun q hq=> .ret ⟨fun lp=>absurd lp AN,fun _=>⟨q,rfl,pv.done fun i aj=> ?_⟩⟩
  rw [hq i aj]
  rcases hd i aj with aX | aX | aX
  ·rw [aX]; right; rfl
  ·rw [aX]; right; rfl
  ·exact absurd aX (nT i aj)
end Go.Proofs.YtmnggbjcnoffeaaGreat
namespace Go.Proofs.YtmnggbjcnoffeaaGreat
open Go Gv
set_option linter.unusedVariables false
set_option linter.unusedSimpArgs false
set_option maxRecDepth 100000
def iX (s:a0) (k:Nat):Bool:=(aB s.bB k).bQ.any fun key=>key.cS ==4
def jP (s:a0) (e:bL):a1:=((r7 s e).getD default).1
theorem Mo {s:a0} {k:Nat} (h:iX s k=false):∀ i,i < (aB s.bB k).bQ.length→ (aB (aB s.bB k).bQ i).cS≠4:=fun i aj=>by
 unfold iX at h
 rw [List.any_eq_false] at h
 have:=h (aB (aB s.bB k).bQ i) (by rw [dU _ aj]; exact List.getElem_mem _)
 simpa using this
theorem Df {s:a0} (h:de s) {k:Nat} (aq:k < 4) (aQ:iX s k=false) {e:bL} (he:ie s k e):r7 s e=some (jP s e,true)∧ ∀ c j,c < 4→j < 128→
 bV (bd (jP s e).bR c) j=(decide (c < (aB s.bB k).bQ.length) && lx (aB (aB s.bB k).bQ c) (aB e.cu c) j)∧
 bV (bd (jP s e).bW c) j=(decide (c < (aB s.bB k).bQ.length) && (bV (aB e.cu c).bW j && lx (aB (aB s.bB k).bQ c) (aB e.cu c) j)):=by
 obtain⟨r,J,ab⟩:=UL h aq he
 rcases ab with⟨_,_,i,aj,aW⟩ | ⟨ab,_,aE⟩
 ·exact absurd aW (Mo aQ i aj)
 ·obtain⟨a,b⟩:=r
  simp only at ab aE
  subst ab
  have:jP s e=a:=by unfold jP; rw [J]; rfl
  rw [this]
  exact⟨J,aE⟩
theorem zc {s:a0} (h:de s) {k:Nat} (aq:k < 4) (aQ:iX s k=false) {e:bL} (he:ie s k e):can (jP s e):=fun i aj a3=>by
 obtain⟨_,ab⟩:=Df h aq aQ he
 have aE:=ab (i / 128) (127 - i % 128) (by omega) (by omega)
 unfold bj at a3 ⊢
 rw [aE.2] at a3
 rw [aE.1]
 simp only [Bool.and_eq_true] at a3 ⊢
 exact⟨a3.1,a3.2.2⟩
def kb (s:a0) (k:Nat) (l:List aU) (i:aU):List a1:=(l.filter fun c=>fG s k c i).map fun c=>jP s c.cr
theorem CE {s:a0} (h:de s) {k:Nat} (aq:k < 4) (aQ:iX s k=false) {l:List aU} (al:iC s k l) (i:aU):∀ x∈kb s k l i,can x:=fun x an=>by
 obtain⟨c,ao,rfl⟩:=List.mem_map.1 an
 exact zc h aq aQ (al.ok c (List.mem_filter.1 ao).1).fl
theorem y2 {s:a0} {k:Nat} {l:List aU} {i:aU} :(kb s k l i).length≤l.length:=by
 unfold kb; rw [List.length_map]; exact List.length_filter_le _ _
theorem XF {s:a0} (h:de s) {k:Nat} (aq:k < 4):xt (aB s.bB k).bQ Br=some (iX s k):=by
 refine a6.get ?_
 unfold xt
 have al:=(h.jd aq).2.1
 refine(JM (g:=fun key=>key.cS ==4) (fun x an=>rfl) (by omega)).bind fun r aQ=> .ret ?_
 unfold iX
 rcases aQ with⟨rfl,aQ⟩ | ⟨i,J,rfl,aE,aW⟩
 ·rw [List.any_eq_false.2 fun x an=>by simp [aQ x an]]; rfl
 ·rw [List.any_eq_true.2 ⟨aB (aB s.bB k).bQ i,by rw [dU _ J]; exact List.getElem_mem _,aE⟩]
  simp
theorem E4 {s:a0} (h:de s) {k:Nat} (aq:k < 4) {l:List aU} (al:iC s k l) {i:aU} (aj:i∈l):
 rR s l i.cg=some (if iX s k=true then(default,[],13) else(jP s i.cr,kb s k l i,0)):=by
 refine a6.get ?_
 unfold rR
 have hlen:=al.len
 have dW:=(al.ok i aj).fl
 refine(Es (g:=fun c=>c.cg ==i.cg) (fun x an=>rfl) (by omega)).bind fun r aQ=> ?_
 rcases aQ with⟨_,aQ⟩ | ⟨a,J,rfl,aE,_⟩
 ·have:=aQ i aj; simp at this
 have hm:aB l a∈l:=by rw [dU _ J]; exact List.getElem_mem _
 have IS:aB l a=i:=al.uniq hm aj (by simpa using aE)
 refine .cond (fun ao=>by simp at ao; omega) fun _=> .idx rfl J ?_
 rw [IS,dW.jd]
 refine(B4 h aq).bind fun aM aS=> ?_
 subst aS
 have P7:decide ((k:Int)≥0)=true:=by rw [decide_eq_true_eq]; omega
 rw [P7]
 refine .cX (P:=fun c=>c=k) (fun _=>⟨k,lD (by rw [h.js]; exact aq),rfl⟩) fun bu cW=> ?_
 rw [cW rfl]
 refine .cX (P:=fun c=>c=iX s k) (fun _=>⟨_,XF h aq,rfl⟩) fun a8 eh=> ?_
 rw [eh rfl,Bool.true_and]
 refine .cond (fun aQ=> .ret (by rw [if_pos aQ])) fun aQ=> .idx rfl J ?_
 rw [IS]
 refine .eq (Df h aq aQ dW).1 (.idx rfl J ?_)
 rw [IS]
 refine .eq rfl ?_
 rw [if_neg (by simp [aQ])]
 unfold xK
 simp only
 refine .bind (P:=fun e:(List a1 × List a1) ⊕ Empty=>e= .inl (kb s k l i,[])) (.bind (P:=fun e=> ∃ a b,e= .inl (a,b,kb s k l i,[])) (a6.pT l.length (fun j st=>st=((j:Int),(kb s k (l.take j) i,[]))) (by omega) rfl (fun j st aF hs=> ?_) (fun st hs=> ?_)) fun e he=>by obtain⟨a,b,rfl⟩:=he; exact .ret rfl) fun e he=>by subst he; exact .ret rfl
 ·subst hs
  refine .cond (fun _=> ?_) (fun ao=>by simp at ao; omega)
  have an:aB l j∈l:=by rw [dU _ aF]; exact List.getElem_mem _
  have AO:=(al.ok _ an).fl
  have hw:kb s k (l.take (j + 1)) i=if fG s k (aB l j) i=true then kb s k (l.take j) i ++ [jP s (aB l j).cr] else kb s k (l.take j) i:=by
   unfold kb
   rw [pD l aF,List.filter_append]
   by_cases hb:fG s k (aB l j) i=true
   ·rw [if_pos hb,show [aB l j].filter (fun c=>fG s k c i)= [aB l j] from by simp [hb],List.map_append]; rfl
   ·rw [if_neg hb,show [aB l j].filter (fun c=>fG s k c i)= [] from by simp [hb],List.append_nil]
  refine .idx rfl aF (.eq (Fj h aq AO dW) (.cond (fun aO=> .ret ?_) fun hb=> .eq (Df h aq aQ AO).1 (.cond (fun _=> ?_) fun ao=>by cases ao)))
  ·rw [Bool.not_eq_true'] at aO
   rw [hw,aO,dz (by omega)]; rfl
  ·rw [Bool.not_eq_false'] at hb
   have hle:=y2 (s:=s) (k:=k) (l:=l.take j) (i:=i)
   rw [List.length_take] at hle
   refine .eq (a:=(Sum.inl (kb s k (l.take j) i ++ [jP s (aB l j).cr],[]):(List a1 × List a1) ⊕ Empty)) ?_ ?_
   ·show(fP 128 (kb s k (l.take j) i) [jP s (aB l j).cr]).bind _=_
    rw [iq _ _ (by simp; omega) (by omega)]; rfl
   ·simp only [Sum.elim_inl]
    refine .ret ?_
    rw [hw,if_pos hb,dz (by omega)]
 ·subst hs
  refine .cond (fun ao=>by simp at ao) fun _=> .ret ?_
  rw [List.take_length]
  exact⟨_,_,rfl⟩
theorem T5 {s:a0} (h:de s) {k:Nat} (aq:k < 4) {l:List aU} (al:iC s k l) (hlen:l.length≤16) {i:aU} (aj:i∈l):
 a6 (oO s l i.cg) (fun r=>(iX s k=true→r=(false,13))∧ (iX s k=false→r.2=0∧ (r.1=true↔iL (jP s i.cr) (kb s k l i)))):=by
 unfold oO
 refine .eq (E4 h aq al aj) ?_
 cases aQ:iX s k with
 | true=>
   refine .cond (fun _=> .ret ⟨fun _=>rfl,fun ao=>by cases ao⟩) fun ao=>by simp at ao
 | false=>
   refine .cond (fun ao=>by simp at ao) fun _=> ?_
   simp only [Bool.false_eq_true,if_false]
   have hw:=y2 (s:=s) (k:=k) (l:=l) (i:=i)
   refine(R3 _ _ (zc h aq aQ (al.ok i aj).fl) (CE h aq aQ al i) (by omega)).bind fun y a4=> .ret ⟨fun ao=>(by cases ao),fun _=>a4⟩
theorem Vy {s:a0} (h:de s) {k:Nat} (aq:k < 4) {l:List aU} (al:iC s k l) (hlen:l.length≤16) {i:aU} (aj:i∈l) (aQ:iX s k=false):
 a6 (tq s l i.cg) (fun r=>(iL (jP s i.cr) (kb s k l i)→r=(default,false,0))∧ (¬ iL (jP s i.cr) (kb s k l i)→ ∃ q,r=(q,true,0)∧tP (fun q=>gQ (jP s i.cr) q=true) (out (kb s k l i)) q)):=by
 unfold tq
 refine .eq (E4 h aq al aj) ?_
 simp only [aQ,Bool.false_eq_true,if_false]
 refine .cond (fun ao=>by simp at ao) fun _=> ?_
 have hw:=y2 (s:=s) (k:=k) (l:=l) (i:=i)
 refine(Sx _ _ (zc h aq aQ (al.ok i aj).fl) (CE h aq aQ al i) (by omega)).bind fun y a4=> .ret ?_
 rw [if_neg (by have:=List.length_filter_le (ka (jP s i.cr)) (kb s k l i); omega)] at a4
 exact a4
end Go.Proofs.YtmnggbjcnoffeaaGreat
namespace Go.Proofs.YtmnggbjcnoffeaaGreat
open Go Gv
set_option linter.unusedVariables false
set_option linter.unusedSimpArgs false
set_option maxRecDepth 100000
theorem Own.iff {hp hp':bg Cell} {t:Nat} {c:gA} (ao:gM hp t=some c) (h:∀ q,Own hp t q→pat hp' q=pat hp q):gM hp' t=some c∧ (∀ bK,eb hp' c.dr bK=eb hp c.dr bK)∧ ∀ q,Own hp' t q↔Own hp t q:=by
 have J:gM hp' t=some c:=by rw [E1 (h t (.inl rfl))]; exact ao
 have ab:∀ bK,eb hp' c.dr bK=eb hp c.dr bK:=fun bK=>Ld fun p cs hp=>yw (h p (.inr ⟨c,cs,ao,hp⟩))
 refine⟨J,ab,fun q=>⟨fun hq=> ?_,fun hq=> ?_⟩⟩
 ·rcases hq with rfl | ⟨jQ,bK,au,aT⟩
  ·exact .inl rfl
  ·rw [J] at au; cases au
   rw [ab] at aT
   exact .inr ⟨c,bK,ao,aT⟩
 ·rcases hq with rfl | ⟨jQ,bK,au,aT⟩
  ·exact .inl rfl
  ·rw [ao] at au; cases au
   exact .inr ⟨c,bK,J,by rw [ab]; exact aT⟩
theorem kZ.congr {hp hp':bg Cell} {t:Nat} {g:List Bool→Option Int} (h:kZ hp t g) (a9:∀ q,Own hp t q→pat hp' q=pat hp q):kZ hp' t g∧ ∀ q,Own hp' t q↔Own hp t q:=by
 obtain⟨c,ao,hb,cc,bZ⟩:=h.ok
 obtain⟨J,ab,aE⟩:=Own.iff ao a9
 refine⟨⟨⟨c,J,hb,⟨fun bK p hp=> ?_,fun bK cs p au aT=> ?_,fun bK p au=>cc.dep bK p (by rw [← ab]; exact au)⟩,fun bK=> ?_⟩⟩,aE⟩
 ·rw [ab] at hp
  obtain⟨d,hd⟩:=cc.reads bK p hp
  exact⟨d,by rw [yw (a9 p (.inr ⟨c,bK,ao,hp⟩))]; exact hd⟩
 ·rw [ab] at au aT
  exact cc.inj bK cs p au aT
 ·rw [← bZ]
  cases e:eb hp c.dr bK with
  | none=>rw [oT e,oT (by rw [ab]; exact e)]
  | some p=>
    obtain⟨d,hd⟩:=cc.reads bK p e
    rw [nq e hd,nq (by rw [ab]; exact e) (by rw [yw (a9 p (.inr ⟨c,bK,ao,e⟩))]; exact hd)]
theorem kZ.wB {hp:bg Cell} {t:Nat} {g:List Bool→Option Int} (h:kZ hp t g) {q:Nat} (hq:Own hp t q):q∈eG hp:=by
 obtain⟨c,ao,hb,cc,bZ⟩:=h.ok
 rcases hq with rfl | ⟨jQ,bK,au,aT⟩
 ·exact lC (r9.1 ao)
 ·rw [ao] at au; cases au
  obtain⟨d,hd⟩:=cc.reads bK q aT
  exact lC (qy.1 hd)
theorem kZ.Nd {hp:bg Cell} {t:Nat} {g:List Bool→Option Int} (h:kZ hp t g) {q:Nat} (hq:Own hp t q):(∃ c,pat hp q=some (.jX c))∨ ∃ c,pat hp q=some (.hf c):=by
 obtain⟨c,ao,hb,cc,bZ⟩:=h.ok
 rcases hq with rfl | ⟨jQ,bK,au,aT⟩
 ·exact .inl ⟨c,r9.1 ao⟩
 ·rw [ao] at au; cases au
  obtain⟨d,hd⟩:=cc.reads bK q aT
  exact .inr ⟨d,qy.1 hd⟩
def kV (a c:bL):Bool:=decide (a.dJ=c.dJ∧a.cu=c.cu∧a.g9=c.g9)
theorem zd {a c:bL} :kV a c=true↔a.dJ=c.dJ∧a.cu=c.cu∧a.g9=c.g9:=by unfold kV; rw [decide_eq_true_eq]
theorem Mp (a c:bL):kV a c=kV c a:=by
 rw [Bool.eq_iff_iff,zd,zd]
 exact⟨fun⟨x,y,z⟩=>⟨x.symm,y.symm,z.symm⟩,fun⟨x,y,z⟩=>⟨x.symm,y.symm,z.symm⟩⟩
theorem T6 {a c d:bL} (J:kV a c=true) (ab:kV c d=true):kV a d=true:=by
 rw [zd] at *
 exact⟨J.1.trans ab.1,J.2.1.trans ab.2.1,J.2.2.trans ab.2.2⟩
theorem Mq {a c:cA} (J:a.hV=c.hV) (ab:a.bW=c.bW) (aE:a.bR=c.bR) (aW:a.gV=c.gV) (aX:a.oX=c.oX):a=c:=by
 cases a; cases c; simp_all
theorem Mr {b:Int} {m oL:cA} (h:o3 1 b m) (cR:o3 1 b oL) (e:m.bW=oL.bW):m=oL:=
 Mq (by rw [h.PE rfl,cR.PE rfl]) e (by rw [h.g7 (by decide),cR.g7 (by decide)]) (by rw [h.PG (by decide),cR.PG (by decide)]) (by rw [h.D4 (by decide),cR.D4 (by decide)])
theorem UW {m oL:cA} (h:o3 2 32 m) (cR:o3 2 32 oL) (e:g5 m.bW m.gV.toNat=g5 oL.bW oL.gV.toNat):m=oL:=by
 have hp:=h.pre
 have hp':=cR.pre
 obtain⟨n,aO⟩:=Int.eq_ofNat_of_zero_le hp'.1
 rw [aO,Int.toNat_natCast] at e
 obtain⟨ay,aS⟩:=(UR h (by omega)).1 e
 have cW:m.gV=oL.gV:=by omega
 have aad:m.hV=oL.hV:=by
  cases au:m.hV <;> cases aT:oL.hV
  ·rfl
  ·have:=cR.PF rfl aT
   have:=h.off au
   have bP:(default:cA).gV=0:=rfl
   rw [this,bP] at cW; omega
  ·have:=h.PF rfl au
   have:=cR.off aT
   have bP:(default:cA).gV=0:=rfl
   rw [this,bP] at cW; omega
  ·rfl
 refine Mq aad (Gp fun j aF=> ?_) (by rw [h.g7 (by decide),cR.g7 (by decide)]) cW (by rw [h.D4 (by decide),cR.D4 (by decide)])
 cases al:lead 32 m.gV j with
 | true=>exact(aS j aF al).symm
 | false=>
   have mD:bV m.bW j=false:=by
    rw [Bool.eq_false_iff]; intro a3
    have:=h.IL rfl j aF a3
    rw [(zb hp.1 hp.2).2 this] at al; cases al
   have nQ:bV oL.bW j=false:=by
    rw [Bool.eq_false_iff]; intro a3
    have:=cR.IL rfl j aF a3
    rw [cW,(zb hp'.1 hp'.2).2 this] at al; cases al
   rw [mD,nQ]
theorem DD {α:Type} [Inhabited α] {l:List α} (h:l.length=1):l= [aB l 0]:=by
 match l,h with
 | [x],_=>rfl
theorem O0 {α:Type} [Inhabited α] {l:List α} (h:l.length=2):l= [aB l 0,aB l 1]:=by
 match l,h with
 | [x,y],_=>rfl
theorem IT {s:a0} (h:de s) {a c:bL} (a9:ie s 0 a) (ao:ie s 0 c):kV a c=true↔gR a=gR c:=by
 rw [zd]
 have py:=a9.len; have lc:=ao.len
 have Bc:=a9.AG 0; have Bd:=ao.AG 0
 have El:=a9.pri; have Em:=ao.pri
 rw [h.XB] at py lc Bc Bd El Em
 have aq:∀ i,i < [ti].length→ (aB [ti] i).cS≤2:=by decide
 refine⟨fun⟨J,ab,aE⟩=>by unfold gR; rw [ab],fun e=>⟨by rw [a9.jd,ao.jd],?_,by rw [El aq,Em aq]⟩⟩
 have lS:=(OW.1 e).1
 rw [v8 (by decide),v8 (by decide),py,lc] at lS
 have lS:(aB a.cu 0).bW=(aB c.cu 0).bW:=lS
 rw [DD (l:=a.cu) py,DD (l:=c.cu) lc,Mr (Bc (by decide)) (Bd (by decide)) lS]
theorem Ea {s:a0} (h:de s) {a c:bL} (a9:ie s 1 a) (ao:ie s 1 c):kV a c=true↔kg (gR a)=kg (gR c)∧mF a=mF c:=by
 rw [zd]
 have py:=a9.len; have lc:=ao.len
 have Bc:=a9.AG 1; have Bd:=ao.AG 1
 have El:=OX h a9; have Em:=OX h ao
 have aaE:=DA h a9; have aae:=DA h ao
 obtain⟨b,hb⟩:=h.He
 rw [hb] at py lc Bc Bd
 refine⟨fun⟨J,ab,aE⟩=>by unfold gR mF; rw [ab]; exact⟨rfl,rfl⟩,fun⟨e,e'⟩=>⟨by rw [a9.jd,ao.jd],?_,by rw [El,Em]⟩⟩
 have bP:=UW aaE aae e'
 cases b
 ·rw [DD (l:=a.cu) py,DD (l:=c.cu) lc,bP]
 ·have ay:=(OW.1 e).2.1
  rw [Mk,Mk,if_neg (by decide),if_neg (by decide),v8 (by decide),v8 (by decide),py,lc] at ay
  have ay:(aB a.cu 1).bW=(aB c.cu 1).bW:=ay
  rw [O0 (l:=a.cu) py,O0 (l:=c.cu) lc,bP,Mr (Bc (by decide)) (Bd (by decide)) ay]
end Go.Proofs.YtmnggbjcnoffeaaGreat
