/-
  What the programs compute, in plain Lean. Conditions: none.
-/
import Derived.Test.YtmnggbjcnoffeaaGreatMl0
import Derived.Test.YtmnggbjcnoffeaaGreatMl2
import Derived.Test.YtmnggbjcnoffeaaGreatMd
namespace Gv
open Go
theorem Jz {σ ε:Type} {body:σ→Option (σ ⊕ ε)} {Q:ε→Prop} {b0:σ} (m:Nat) (fa:Nat→σ→Prop)
 (hm:m < 2 ^ 80) (bB:fa 0 b0)
 (hs:∀ k s,k < m→fa k s→ (∃ bW,body s=some (.inl bW)∧fa (k + 1) bW)∨ (∃ e,body s=some (.inr e)∧Q e))
 (he:∀ s,fa m s→ ∃ e,body s=some (.inr e)∧Q e):∃ e,gz gu body b0=some e∧Q e:=by
 have key:∀ n k s,k≤m→m - k < n→fa k s→ ∃ e,gz n body s=some e∧Q e:=by
  intro n
  induction n with
  | zero=>intro k s _ h; omega
  | succ n bz=>
    intro k s au aL aq
    by_cases uD:k=m
    ·subst uD
     obtain⟨e,J,ad⟩:=he s aq
     exact⟨e,by simp [gz,J],ad⟩
    ·rcases hs k s (by omega) aq with⟨bW,J,ad⟩ | ⟨e,J,ad⟩
     ·obtain⟨e,ax,aR⟩:=bz (k + 1) bW (by omega) (by omega) ad
      exact⟨e,by simp [gz,J,ax],aR⟩
     ·exact⟨e,by simp [gz,J],ad⟩
 exact key gu 0 b0 (by omega) (by unfold gu; omega) bB
def bK {β:Type} (m:Option β) (P:β→Prop):Prop:= ∃ r,m=some r∧P r
theorem bK.ret {β:Type} {P:β→Prop} {r:β} (h:P r):bK (some r) P:=⟨r,rfl,h⟩
theorem bK.bind {α β:Type} {m:Option α} {f:α→Option β} {P:α→Prop} {Q:β→Prop} (h:bK m P) (k:∀ a,P a→bK (f a) Q):bK (m.bind f) Q:=by
 obtain⟨a,J,ad⟩:=h
 rw [J]; exact k a ad
theorem bK.eq {α β:Type} {m:Option α} {a:α} {f:α→Option β} {Q:β→Prop} (h:m=some a) (k:bK (f a) Q):bK (m.bind f) Q:=by
 rw [h]; exact k
theorem bK.mono {β:Type} {m:Option β} {P Q:β→Prop} (h:bK m P) (k:∀ a,P a→Q a):bK m Q:=by
 obtain⟨a,J,ad⟩:=h
 exact⟨a,J,k a ad⟩
theorem bK.cond {β:Type} {b:Bool} {m n:Option β} {P:β→Prop} (J:b=true→bK m P) (ad:b=false→bK n P):bK (cond b m n) P:=by
 cases b
 ·exact ad rfl
 ·exact J rfl
theorem bK.c5 {α β:Type} [Inhabited α] {b w:Bool} {m:Option α} {f:α→Option β} {P:α→Prop} {Q:β→Prop} (h:b=w→bK m P) (k:∀ a,(b=w→P a)→bK (f a) Q):bK ((c5 b w m).bind f) Q:=by
 unfold Gv.c5
 by_cases hb:b=w
 ·rw [if_pos hb]; exact(h hb).bind fun a bg=>k a fun _=>bg
 ·rw [if_neg hb]; exact k default fun h=>absurd h hb
theorem bK.loop {σ ε β:Type} {body:σ→Option (σ ⊕ ε)} {f:ε→Option β} {P:β→Prop} {b0:σ} (m:Nat) (fa:Nat→σ→Prop)
 (hm:m < 2 ^ 80) (bB:fa 0 b0)
 (hs:∀ k s,k < m→fa k s→bK (body s) (fun x=>match x with | .inl bW=>fa (k + 1) bW | .inr e=>bK (f e) P))
 (he:∀ s,fa m s→ ∃ e,body s=some (.inr e)∧bK (f e) P):bK ((gz gu body b0).bind f) P:=by
 obtain⟨e,J,ad⟩:=Jz (Q:=fun e=>bK (f e) P) m fa hm bB (fun k s au aq=>by
  obtain⟨r,J,ad⟩:=hs k s au aq
  cases r with
  | inl bW=>exact .inl ⟨bW,J,ad⟩
  | inr e=>exact .inr ⟨e,J,ad⟩) he
 rw [J]; exact ad
theorem bK.Us {σ ε:Type} {body:σ→Option (σ ⊕ ε)} {P:ε→Prop} {b0:σ} (m:Nat) (fa:Nat→σ→Prop)
 (hm:m < 2 ^ 80) (bB:fa 0 b0)
 (hs:∀ k s,k < m→fa k s→bK (body s) (fun x=>match x with | .inl bW=>fa (k + 1) bW | .inr e=>P e))
 (he:∀ s,fa m s→bK (body s) (fun x=>match x with | .inl _=>False | .inr e=>P e)):bK (gz gu body b0) P:=by
 obtain⟨e,J,ad⟩:=Jz (Q:=P) m fa hm bB (fun k s au aq=>by
  obtain⟨r,J,ad⟩:=hs k s au aq
  cases r with
  | inl bW=>exact .inl ⟨bW,J,ad⟩
  | inr e=>exact .inr ⟨e,J,ad⟩) fun s aq=>by
  obtain⟨r,J,ad⟩:=he s aq
  cases r with
  | inl bW=>exact ad.elim
  | inr e=>exact⟨e,J,ad⟩
 exact⟨e,J,ad⟩
theorem bK.idx {β:Type} {n:Nat} {i:Int} {k:Nat} {f:Nat→Option β} {Q:β→Prop} (aq:i=k) (au:k < n) (h:bK (f k) Q):bK ((Gv.idx n i).bind f) Q:=by
 subst aq
 have:Gv.idx n (k:Int)=some k:=by unfold Gv.idx; rw [if_pos (by omega)]; simp
 rw [this]; exact h
theorem x3 {α:Type} [Inhabited α] {n:Nat} (v:Vector α n) {k:Nat} (x:α) (au:k < n) (j:Nat):cg (iJ v k x) j=if j=k then x else cg v j:=by
 unfold cg iJ
 by_cases h:j=k
 ·subst h; simp [au]
 ·rw [if_neg h,Vector.getElem?_setIfInBounds_ne (by omega)]
theorem JA {α:Type} [Inhabited α] {n:Nat} {v w:Vector α n} (h:∀ j,j < n→cg v j=cg w j):v=w:=by
 apply Vector.ext
 intro i aq
 have:=h i aq
 simpa [cg,aq] using this
theorem D5 {α:Type} [Inhabited α] {n:Nat} (j:Nat):cg (default:Vector α n) j=default:=by
 show cg (Vector.replicate n default) j=default
 unfold cg
 by_cases h:j < n <;> simp [h]
theorem tp {n k:Nat} (h:k < n):idx n (k:Int)=some k:=by
 unfold idx; rw [if_pos (by omega)]; simp
theorem tq {n:Nat} {i:Int} (h:0≤i) (cV:i < n):idx n i=some i.toNat:=by
 unfold idx; rw [if_pos ⟨h,cV⟩]
theorem iG {k:Nat} (h:k < 2 ^ 62):bu ((k:Int) + 1)=((k + 1:Nat):Int):=by
 rw [hO (by omega) (by omega)]; simp
theorem qo {k:Nat} (h:k < 2 ^ 64):(BitVec.ofInt 64 (k:Int)).toNat=k:=by
 simp; omega
theorem RT (x:BitVec 64):((x &&& 1#64) ==1#64)=x.getLsbD 0:=by
 rw [BitVec.and_one_eq_setWidth_ofBool_getLsbD]
 cases x.getLsbD 0 <;> rfl
theorem Bt {α β:Type} [Inhabited α] [Inhabited β] (f:α→β) {l:List α} {k:Nat} (au:k < l.length):aN (l.map f) k=f (aN l k):=by
 rw [gf l au,gf _ (by simpa using au),List.getElem_map]
theorem Pq {α:Type} [Inhabited α] (l:List α) {k:Nat} (au:k < l.length):l.take (k + 1)=l.take k ++ [aN l k]:=by
 rw [List.take_add_one,List.getElem?_eq_getElem au,gf l au]; rfl
theorem RU {α:Type} [Inhabited α] {xs:List α} {p:α→Bool} {k:Nat} (au:k < xs.length) (hp:p (aN xs k)=true) (aC:∀ j,j < k→p (aN xs j)=false):xs.find? p=some (aN xs k):=by
 rw [List.find?_eq_some_iff_getElem]
 refine⟨hp,k,au,(gf xs au).symm,fun j ra=> ?_⟩
 have:=aC j ra
 rw [gf xs (by omega)] at this
 simp [this]
theorem RV {α:Type} {xs:List α} {p:α→Bool} (h:∀ x∈xs,p x=false):xs.find? p=none:=
 List.find?_eq_none.2 fun x ak=>by simp [h x ak]
end Gv
namespace Gv
open Go
set_option linter.unusedVariables false
def dh {α:Type} (m:ao α) (P:α→Prop):Prop:= ∀ Q:α→Prop,(∀ r,P r→Q r)→m Q
theorem dh.run {α:Type} {m:ao α} {P:α→Prop} (h:dh m P):m P:=h P fun _ h=>h
theorem dh.ret {α:Type} {P:α→Prop} {x:α} (h:P x):dh (ao.ret x) P:=fun Q k=>k x h
theorem dh.bind {α β:Type} {m:ao α} {f:α→ao β} {P:α→Prop} {ps:β→Prop} (h:dh m P) (k:∀ r,P r→dh (f r) ps):dh (ao.bind m f) ps:=fun Q hq=>h _ fun r aQ=>k r aQ Q hq
theorem dh.of {α:Type} {o:Option α} {P:α→Prop} (h:bK o P):dh (ao.of o) P:=fun Q hq=>let⟨r,J,ad⟩:=h; ⟨r,J,hq r ad⟩
theorem dh.kU {α β:Type} {o:Option α} {f:α→ao β} {P:α→Prop} {ps:β→Prop} (h:bK o P) (k:∀ r,P r→dh (f r) ps):dh (ao.bind (ao.of o) f) ps:= .bind (.of h) k
theorem dh.eq {α β:Type} {o:Option α} {a:α} {f:α→ao β} {ps:β→Prop} (h:o=some a) (k:dh (f a) ps):dh (ao.bind (ao.of o) f) ps:=fun Q hq=>⟨a,h,k Q hq⟩
theorem dh.mono {α:Type} {m:ao α} {P ps:α→Prop} (h:dh m P) (k:∀ r,P r→ps r):dh m ps:=fun Q hq=>h Q fun r aQ=>hq r (k r aQ)
theorem dh.cond {α:Type} {b:Bool} {m n:ao α} {P:α→Prop} (J:b=true→dh m P) (ad:b=false→dh n P):dh (cond b m n) P:=by
 cases b
 ·exact ad rfl
 ·exact J rfl
theorem dh.c5 {α β:Type} [Inhabited α] {b w:Bool} {m:Option α} {f:α→ao β} {P:α→Prop} {Q:β→Prop} (h:b=w→bK m P) (k:∀ a,(b=w→P a)→dh (f a) Q):dh (ao.bind (ao.of (c5 b w m)) f) Q:=by
 unfold Gv.c5
 by_cases hb:b=w
 ·rw [if_pos hb]; exact .kU (h hb) fun a bg=>k a fun _=>bg
 ·rw [if_neg hb]; exact .eq rfl (k default fun h=>absurd h hb)
theorem dh.idx {β:Type} {n:Nat} {i:Int} {k:Nat} {f:Nat→ao β} {Q:β→Prop} (aq:i=k) (au:k < n) (h:dh (f k) Q):dh (ao.bind (ao.of (Gv.idx n i)) f) Q:=by
 subst aq
 exact .eq (tp au) h
theorem dh.mk {bN β:Type} {hp:aI bN} {c:bN} {f:Nat × aI bN→ao β} {P:β→Prop} (k:∀ p,p ∉ dQ hp→dh (f (p,(p,c) :: hp)) P):dh (ao.bind (ao.mk hp c) f) P:=fun Q hq=>fun a bg=>by
 obtain⟨p,hp'⟩:=a
 obtain⟨J,ad⟩:=bg
 simp only at J ad
 subst ad
 exact k p J Q hq
theorem dh.any {α β:Type} {f:α→ao β} {P:β→Prop} (k:∀ x,dh (f x) P):dh (ao.bind (ao.any α) f) P:=fun Q hq x=>k x Q hq
theorem dh.loop {σ ε:Type} {body:σ→ao (σ ⊕ ε)} {P:ε→Prop} {b0:σ} (m:Nat) (fa:Nat→σ→Prop) (hm:m < 2 ^ 80) (bB:fa 0 b0)
 (hs:∀ k s,k < m→fa k s→dh (body s) (fun x=>match x with | .inl bW=>fa (k + 1) bW | .inr e=>P e))
 (he:∀ s,fa m s→dh (body s) (fun x=>match x with | .inl _=>False | .inr e=>P e)):dh (nh gu body b0) P:=by
 have key:∀ n k s,k≤m→m - k < n→fa k s→dh (nh n body s) P:=by
  intro n
  induction n with
  | zero=>intro k s _ h; omega
  | succ n bz=>
    intro k s au aL aq Q hq
    by_cases uD:k=m
    ·subst uD
     exact he s aq _ fun r aQ=>by
      cases r with
      | inl bW=>exact aQ.elim
      | inr e=>exact hq e aQ
    ·exact hs k s (by omega) aq _ fun r aQ=>by
      cases r with
      | inl bW=>exact bz (k + 1) bW (by omega) (by omega) aQ Q hq
      | inr e=>exact hq e aQ
 exact key gu 0 b0 (by omega) (by unfold gu; omega) bB
theorem oA {bN:Type} {hp:aI bN} {p q:Nat} {k:bN} :pat ((p,k) :: hp) q=if p=q then some k else pat hp q:=rfl
theorem Rg {bN:Type} {hp:aI bN} {p:Nat} (h:p ∉ dQ hp):pat hp p=none:=by
 cases e:pat hp p with
 | none=>rfl
 | some k=>exact absurd (hU e) h
theorem qv {bN:Type} {hp:aI bN} {p:Nat} {k k':bN} (h:pat hp p=some k'):pat (cx hp p k) p=some k:=by rw [yl,if_pos rfl,h]; rfl
theorem k0 {bN:Type} {hp:aI bN} {p q:Nat} {k:bN} (h:p≠q):pat (cx hp p k) q=pat hp q:=by rw [yl,if_neg h]
theorem rJ {α β:Type} [DecidableEq α] {l:List (α × β)} {x y:α} {v:β} :dt (fo l x v) y=if y=x then some v else dt l y:=by
 induction l with
 | nil=>
   show(if y=x then some v else dt [] y)=_
   rfl
 | cons a r bz=>
   obtain⟨k,w⟩:=a
   simp only [fo]
   by_cases h:x=k
   ·rw [if_pos h]
    simp only [dt]
    by_cases ad:y=x
    ·simp [ad]
    ·simp [ad,show ¬ y=k from fun e=>ad (by rw [e,h])]
   ·rw [if_neg h]
    simp only [dt]
    by_cases ad:y=k
    ·subst ad; simp [show ¬ y=x from fun e=>h e.symm]
    ·rw [if_neg ad,bz,if_neg ad]
end Gv
namespace Go.Proofs.YtmnggbjcnoffeaaGreat
open Go Gv
set_option linter.unusedVariables false
set_option linter.unusedSimpArgs false
def eS (b:Bool):Nat:=bif b then 1 else 0
def cr (hp:aI Cell):Ref→List Bool→Ref
 | none,_=>none
 | some p,[]=>some p
 | some p,b :: aU=>match cf hp p with
   | none=>none
   | some c=>cr hp (cg c.cJ (eS b)) aU
theorem fN {hp:aI Cell} {aU:List Bool} :cr hp none aU=none:=by cases aU <;> rfl
theorem mz {hp:aI Cell} {r:Ref} :cr hp r []=r:=by cases r <;> rfl
theorem gM {hp:aI Cell} {p:Nat} {c:di} {b:Bool} {aU:List Bool} (h:cf hp p=some c):cr hp (some p) (b :: aU)=cr hp (cg c.cJ (eS b)) aU:=by
 show(match cf hp p with | none=>none | some c=>cr hp (cg c.cJ (eS b)) aU)=_
 rw [h]
theorem ly {hp:aI Cell} :∀ {r:Ref} {aU cs:List Bool},cr hp r (aU ++ cs)=cr hp (cr hp r aU) cs
 | none,aU,cs=>by rw [fN,fN,fN]
 | some p,[],cs=>by rw [List.nil_append,mz]
 | some p,b :: aU,cs=>by
   cases e:cf hp p with
   | none=>
     have J:∀ xs,cr hp (some p) (b :: xs)=none:=fun xs=>by
      show(match cf hp p with | none=>none | some c=>cr hp (cg c.cJ (eS b)) xs)=_
      rw [e]
     rw [List.cons_append,J,J,fN]
   | some c=>rw [List.cons_append,gM e,gM e,ly]
theorem Jg {hp hp':aI Cell} :∀ {r:Ref} {aU:List Bool},(∀ p cs,cr hp r cs=some p→cf hp' p=cf hp p)→cr hp' r aU=cr hp r aU
 | none,aU,_=>by rw [fN,fN]
 | some p,[],_=>rfl
 | some p,b :: aU,h=>by
   have bB:=h p [] rfl
   show(match cf hp' p with | none=>none | some c=>cr hp' (cg c.cJ (eS b)) aU)=(match cf hp p with | none=>none | some c=>cr hp (cg c.cJ (eS b)) aU)
   rw [bB]
   cases e:cf hp p with
   | none=>rfl
   | some c=>
     refine Jg fun q cs hq=>h q (b :: cs) ?_
     rw [gM e]; exact hq
structure nf (hp:aI Cell) (root:Ref):Prop where
 reads:∀ aU p,cr hp root aU=some p→ ∃ c,cf hp p=some c
 inj:∀ aU cs p,cr hp root aU=some p→cr hp root cs=some p→aU=cs
 dep:∀ aU p,cr hp root aU=some p→aU.length≤32
def cont (hp:aI Cell) (root:Ref) (aU:List Bool):Option Int:=match cr hp root aU with
 | none=>none
 | some p=>match cf hp p with
   | none=>none
   | some c=>bif c.dr then some c.hW else none
theorem jv {hp:aI Cell} {root:Ref} {aU:List Bool} {p:Nat} {c:di} (h:cr hp root aU=some p) (aj:cf hp p=some c):cont hp root aU=bif c.dr then some c.hW else none:=by
 unfold cont; rw [h]; simp only [aj]
theorem jZ {hp:aI Cell} {root:Ref} {aU:List Bool} (h:cr hp root aU=none):cont hp root aU=none:=by
 unfold cont; rw [h]
theorem nN {hp:aI Cell} {p:Nat} {c:di} :cf hp p=some c↔pat hp p=some (.fp c):=by
 refine⟨ja,fun h=> ?_⟩
 unfold cf; rw [h]
theorem qe {hp:aI Cell} {p:Nat} {c:fb} :fg hp p=some c↔pat hp p=some (.iK c):=by
 refine⟨mB,fun h=> ?_⟩
 unfold fg; rw [h]
theorem s6 {hp hp':aI Cell} {p:Nat} (h:pat hp' p=pat hp p):cf hp' p=cf hp p:=by unfold cf; rw [h]
theorem Bd {hp hp':aI Cell} {p:Nat} (h:pat hp' p=pat hp p):fg hp' p=fg hp p:=by unfold fg; rw [h]
structure eh (hp hp':aI Cell) (own:Nat→Prop):Prop where
 keys:∀ q,q∈dQ hp→q∈dQ hp'
 rest:∀ q,q∈dQ hp→ ¬ own q→pat hp' q=pat hp q
theorem eh.refl {hp:aI Cell} {own:Nat→Prop} :eh hp hp own:=⟨fun _ h=>h,fun _ _ _=>rfl⟩
theorem eh.mk' {hp:aI Cell} {own:Nat→Prop} {a:Nat} {k:Cell} (bg:a ∉ dQ hp):eh hp ((a,k) :: hp) own:=
 ⟨fun q h=>List.mem_cons_of_mem _ h,fun q h _=>by rw [oA,if_neg (fun e:a=q=>bg (by rw [e]; exact h))]⟩
theorem eh.up {hp:aI Cell} {own:Nat→Prop} {p:Nat} {k:Cell} (hp':own p):eh hp (cx hp p k) own:=
 ⟨fun q h=>by rw [pB]; exact h,fun q h hq=>k0 (fun e:p=q=>hq (by rw [← e]; exact hp'))⟩
theorem eh.trans {J ad ax:aI Cell} {own own':Nat→Prop} (a:eh J ad own) (b:eh ad ax own') (a6:∀ q,q∈dQ J→own' q→own q):eh J ax own:=
 ⟨fun q h=>b.keys q (a.keys q h),fun q h hq=>by rw [b.rest q (a.keys q h) fun cV=>hq (a6 q h cV),a.rest q h hq]⟩
theorem QI (b:Bool):cg (default:di).cJ (eS b)=none:=by cases b <;> rfl
theorem Jh {hp:aI Cell} {a:Nat} (h:cf hp a=some (default:di)):∀ aU,cr hp (some a) aU=if aU= [] then some a else none
 | []=>rfl
 | b :: aU=>by rw [gM h,QI,fN]; rfl
theorem EK {hp hp':aI Cell} {root:Ref} {ws:List Bool} {b:Bool} {p a:Nat} {c:di} (bI:nf hp root) (hw:cr hp root ws=some p) (aj:cf hp p=some c) (aL:cg c.cJ (eS b)=none) (bg:cf hp a=none)
 (cd:cf hp' p=some { c with cJ:=iJ c.cJ (eS b) (some a) }) (cq:cf hp' a=some default) (fT:∀ q,q≠p→q≠a→cf hp' q=cf hp q):
 ∀ (aU us:List Bool) (q:Nat),cr hp root us=some q→cr hp' (some q) aU=if us ++ aU=ws ++ [b] then some a else cr hp (some q) aU
 | [],us,q,hu=>by
   have: ¬ us ++ []=ws ++ [b]:=fun e=>by
    rw [List.append_nil] at e
    rw [e,ly,hw,gM aj,aL,fN] at hu; cases hu
   rw [if_neg this]; rfl
 | x :: xs,us,q,hu=>by
   obtain⟨ry,mh⟩:=bI.reads us q hu
   have nA:q≠a:=fun e=>by rw [e,bg] at mh; cases mh
   by_cases z5:q=p
   ·subst z5
    have Hc:=bI.inj us ws q hu hw
    subst Hc
    rw [aj] at mh; cases mh
    rw [gM cd,gM aj]
    simp only
    have b5:eS b < 2:=by cases b <;> decide
    rw [x3 _ _ b5]
    by_cases uJ:x=b
    ·subst uJ
     rw [if_pos rfl,aL,fN,Jh cq]
     by_cases h:xs= []
     ·subst h; rw [if_pos rfl,if_pos rfl]
     ·rw [if_neg h,if_neg fun e=>h ?_]
      have:=List.append_cancel_left e
      simpa using this
    ·have cQ: ¬ eS x=eS b:=fun e=>uJ (by cases x <;> cases b <;> first | rfl | cases e)
     have eX: ¬ us ++ x :: xs=us ++ [b]:=fun e=>uJ (by have:=List.append_cancel_left e; simpa using (List.cons.inj this).1)
     rw [if_neg cQ,if_neg eX]
     cases e:cg c.cJ (eS x) with
     | none=>rw [fN,fN]
     | some kZ=>
       have ll:cr hp root (us ++ [x])=some kZ:=by rw [ly,hu,gM aj,e,mz]
       rw [EK bI hw aj aL bg cd cq fT xs (us ++ [x]) kZ ll,List.append_assoc,List.singleton_append,if_neg eX]
   ·have J:cf hp' q=some ry:=by rw [fT q z5 nA]; exact mh
    rw [gM J,gM mh]
    cases e:cg ry.cJ (eS x) with
    | none=>
      have eX: ¬ us ++ x :: xs=ws ++ [b]:=fun bd=>by
       have W7:cr hp root (us ++ [x])=none:=by rw [ly,hu,gM mh,e,fN]
       rcases List.eq_nil_or_concat xs with rfl | ⟨ys,y,rfl⟩
       ·have:=(List.append_inj_left' bd rfl)
        subst this
        rw [hu] at hw; cases hw; exact z5 rfl
       ·have ax:us ++ x :: ys=ws:=by
         have:(us ++ x :: ys) ++ [y]=ws ++ [b]:=by simpa using bd
         exact List.append_inj_left' this rfl
        rw [← ax,show us ++ x :: ys=(us ++ [x]) ++ ys by simp,ly,W7,fN] at hw
        cases hw
      rw [fN,fN,if_neg eX]
    | some kZ=>
      have ll:cr hp root (us ++ [x])=some kZ:=by rw [ly,hu,gM mh,e,mz]
      rw [EK bI hw aj aL bg cd cq fT xs (us ++ [x]) kZ ll,List.append_assoc,List.singleton_append]
theorem grow {hp hp':aI Cell} {r:Nat} {ws:List Bool} (hd:ws.length < 32) {b:Bool} {p a:Nat} {c:di} (bI:nf hp (some r)) (hw:cr hp (some r) ws=some p) (aj:cf hp p=some c) (aL:cg c.cJ (eS b)=none) (bg:cf hp a=none)
 (cd:cf hp' p=some { c with cJ:=iJ c.cJ (eS b) (some a) }) (cq:cf hp' a=some default) (fT:∀ q,q≠p→q≠a→cf hp' q=cf hp q):
 nf hp' (some r)∧ (∀ aU,cr hp' (some r) aU=if aU=ws ++ [b] then some a else cr hp (some r) aU)∧ ∀ aU,cont hp' (some r) aU=cont hp (some r) aU:=by
 have a0:∀ aU,cr hp' (some r) aU=if aU=ws ++ [b] then some a else cr hp (some r) aU:=fun aU=>EK bI hw aj aL bg cd cq fT aU [] r rfl
 have C4:∀ aU,cr hp (some r) aU≠some a:=fun aU h=>by
  obtain⟨c,J⟩:=bI.reads aU a h
  rw [bg] at J; cases J
 have Hd:cr hp (some r) (ws ++ [b])=none:=by rw [ly,hw,gM aj,aL,fN]
 refine⟨⟨fun aU q h=> ?_,fun aU cs q J ad=> ?_,fun aU q h=> ?_⟩,a0,fun aU=> ?_⟩
 ·rw [a0] at h
  split at h
  ·cases h; exact⟨_,cq⟩
  ·obtain⟨iV,J⟩:=bI.reads aU q h
   by_cases e:q=p
   ·subst e; exact⟨_,cd⟩
   ·exact⟨iV,by rw [fT q e fun bd=>C4 aU (bd ▸ h)]; exact J⟩
 ·rw [a0] at J ad
  split at J <;> split at ad
  ·rename_i aE bd; rw [aE,bd]
  ·cases J; exact absurd ad (C4 cs)
  ·cases ad; exact absurd J (C4 aU)
  ·exact bI.inj aU cs q J ad
 ·rw [a0] at h
  split at h
  ·rename_i e; rw [e]; simp; omega
  ·exact bI.dep aU q h
 ·by_cases e:aU=ws ++ [b]
  ·subst e
   rw [jZ Hd,jv (by rw [a0,if_pos rfl]) cq]; rfl
  ·have uK:cr hp' (some r) aU=cr hp (some r) aU:=by rw [a0,if_neg e]
   cases h:cr hp (some r) aU with
   | none=>rw [jZ h,jZ (uK.trans h)]
   | some q=>
     obtain⟨iV,J⟩:=bI.reads aU q h
     by_cases eq:q=p
     ·subst eq
      rw [aj] at J; cases J
      rw [jv h aj,jv (uK.trans h) cd]
     ·rw [jv h J,jv (uK.trans h) (by rw [fT q eq fun bd=>C4 aU (bd ▸ h)]; exact J)]
theorem yb {hp hp':aI Cell} {p:Nat} {c iV:di} (aj:cf hp p=some c) (mi:cf hp' p=some iV) (he:iV.cJ=c.cJ) (h:∀ q,q≠p→cf hp' q=cf hp q):∀ (aU:List Bool) (r:Ref),cr hp' r aU=cr hp r aU
 | aU,none=>by rw [fN,fN]
 | [],some q=>rfl
 | b :: aU,some q=>by
   by_cases e:q=p
   ·subst e
    rw [gM aj,gM mi,he]; exact yb aj mi he h aU _
   ·cases bd:cf hp q with
    | none=>
      show(match cf hp' q with | none=>none | some c=>cr hp' (cg c.cJ (eS b)) aU)=(match cf hp q with | none=>none | some c=>cr hp (cg c.cJ (eS b)) aU)
      rw [h q e,bd]
    | some d=>rw [gM bd,gM (by rw [h q e]; exact bd)]; exact yb aj mi he h aU _
theorem ME {hp hp':aI Cell} {root:Ref} {ws:List Bool} {p:Nat} {c iV:di} (bI:nf hp root) (hw:cr hp root ws=some p) (aj:cf hp p=some c) (mi:cf hp' p=some iV) (he:iV.cJ=c.cJ) (h:∀ q,q≠p→cf hp' q=cf hp q):
 nf hp' root∧ ∀ aU,cont hp' root aU=if aU=ws then(bif iV.dr then some iV.hW else none) else cont hp root aU:=by
 have a0:=yb aj mi he h
 refine⟨⟨fun aU q hq=> ?_,fun aU cs q J ad=>bI.inj aU cs q (by rw [← a0]; exact J) (by rw [← a0]; exact ad),fun aU q hq=>bI.dep aU q (by rw [← a0]; exact hq)⟩,fun aU=> ?_⟩
 ·rw [a0] at hq
  obtain⟨d,J⟩:=bI.reads aU q hq
  by_cases e:q=p
  ·subst e; exact⟨_,mi⟩
  ·exact⟨d,by rw [h q e]; exact J⟩
 ·by_cases e:aU=ws
  ·subst e; rw [if_pos rfl,jv (by rw [a0]; exact hw) mi]
  ·rw [if_neg e]
   cases J:cr hp root aU with
   | none=>rw [jZ J,jZ (by rw [a0]; exact J)]
   | some q=>
     obtain⟨d,ad⟩:=bI.reads aU q J
     have z5:q≠p:=fun bd=>e (bI.inj aU ws p (bd ▸ J) hw)
     rw [jv J ad,jv (by rw [a0]; exact J) (by rw [h q z5]; exact ad)]
end Go.Proofs.YtmnggbjcnoffeaaGreat
namespace Go.Proofs.YtmnggbjcnoffeaaGreat
open Go Gv
set_option linter.unusedVariables false
set_option linter.unusedSimpArgs false
set_option maxRecDepth 100000
theorem kh {α:Type} {b:Nat} (xs ys:List α) (h:xs.length + ys.length≤1000000) (hb:b≤100000):hQ b xs ys=some (xs ++ ys):=by
 unfold hQ
 rw [if_pos]
 unfold maxLen
 refine⟨Nat.le_trans (Nat.mul_le_mul h hb) (by omega),by omega⟩
def g6 (c:bm):Prop:=0≤c.qJ∧c.cK.length≤1000
theorem ym (l:List (BitVec 8)) (n:Int) (bB:0≤n) (J:n≤1000):bK (qd l n) g6:=by
 unfold qd
 refine .eq (a:=(l.drop 0).take ((min (l.length:Int) n).toNat - 0)) ?_ (.ret ⟨Int.le_refl 0,?_⟩)
 ·unfold tt; rw [if_pos ⟨by omega,by omega,by omega⟩]; rfl
 ·simp only [List.length_take,List.length_drop]; omega
theorem fO (c:bm) (n:Int) (aj:g6 c) (aL:1≤n):bK (fl c n) (fun r=>g6 r.2∧0≤r.1∧r.1 < n∧r.1 < 256):=by
 unfold fl A0
 obtain⟨l,a⟩:=c
 obtain⟨bB,J⟩:=aj
 simp only at bB J
 obtain⟨k,rfl⟩:=Int.eq_ofNat_of_zero_le bB
 refine .eq rfl (.cond (fun _=> .ret ⟨⟨bB,J⟩,by omega,by omega,by omega⟩) fun h=> ?_)
 simp only [Bool.or_eq_false_iff,Bool.not_eq_false',decide_eq_true_eq,decide_eq_false_iff_not] at h
 have aE:bu ((k:Int) + 1)=((k + 1:Nat):Int):=iG (by omega)
 simp only [aE]
 have bd:bu (((k + 1:Nat):Int) - 1)=(k:Int):=by rw [hO (by omega) (by omega)]; omega
 rw [bd]
 refine .idx rfl (by omega) (.eq (by unfold se; rw [if_neg (by omega)]) (.ret ⟨⟨by simp only; omega,J⟩,?_,?_,?_⟩))
 ·exact Int.tmod_nonneg _ (by omega)
 ·exact Int.tmod_lt_of_pos _ (by omega)
 ·simp only
  have ax:(aN l k).toNat < 256:=(aN l k).isLt
  obtain⟨m,rfl⟩:=Int.eq_ofNat_of_zero_le (show 0≤n by omega)
  have aR:(((aN l k).toNat:Int)).tmod m=(((aN l k).toNat % m:Nat):Int):=(Int.ofNat_tmod _ _).symm
  have aW:=Nat.mod_le (aN l k).toNat m
  omega
theorem mv (c:bm) (aj:g6 c):bK (kH c) (fun r=>g6 r.2):=by
 unfold kH
 exact .bind (fO c 2 aj (by omega)) fun y h=> .ret h.1
theorem Qe (c:bm) (aj:g6 c):bK (xh c) (fun r=>g6 r.2∧r.1.length=3):=by
 unfold xh
 refine .bind (fO c 4 aj (by omega)) fun aB J=> ?_
 refine .eq (tq J.2.1 (by simpa using J.2.2.1)) (.eq rfl (.eq rfl (.bind (mv _ J.1) fun aK ad=> ?_)))
 refine .bind (P:=fun m=>g6 m.1) (.cond (fun _=> ?_) (fun _=> .ret ad)) fun bH cM=> ?_
 ·refine .bind (fO _ 2 ad (by omega)) fun cD bc=> .eq rfl (.bind (fO _ 4 bc.1 (by omega)) fun ct cn=> ?_)
  exact .eq (tq cn.2.1 (by simpa using cn.2.2.1)) (.eq rfl (.eq (kh _ _ (by simp) (by omega)) (.ret cn.1)))
 ·refine .bind (fO _ 4 cM (by omega)) fun bk ax=> .eq (tq ax.2.1 (by simpa using ax.2.2.1)) (.eq rfl (.eq rfl ?_))
  refine .bind (fO _ 3 ax.1 (by omega)) fun b1 aR=> ?_
  refine .bind (P:=fun m=>g6 m.1) (.cond (fun _=> ?_) (fun _=> .ret aR.1)) fun cI ek=> .ret ⟨ek,rfl⟩
  exact .bind (fO _ 3 aR.1 (by omega)) fun cm aW=> .eq rfl (.ret aW.1)
def oL (a:dB):Int × List Int:=(a.bC,a.jI.map (·.e2))
def wq:List (Int × List Int):= [(1,[]),(2,[]),(3,[16]),(4,[4]),(5,[4,12]),(6,[])]
theorem Rh {α β:Type} [Inhabited α] (f:α→β) (l:List α) (k:Nat) (x:α) (h:f x=f (aN l k)):(iL l k x).map f=l.map f:=by
 unfold iL
 apply List.ext_getElem
 ·simp
 ·intro i J ad
  simp only [List.length_map,List.length_set] at J
  simp only [List.getElem_map,List.getElem_set]
  split
  ·rename_i e; subst e; rw [h,gf l J]
  ·rfl
theorem Bm {α β:Type} [Inhabited α] (f:α→β) {l:List α} {k:Nat} {x:α} {r:List β} (h:f x=f (aN l k)) (ar:l.map f=r):(iL l k x).map f=r:=(Rh f l k x h).trans ar
theorem PX (c:bm) (aj:g6 c):bK (xb c) (fun r=>g6 r.2∧r.1.map oL=wq):=by
 unfold xb
 refine .eq rfl (.eq rfl (.eq rfl (.eq rfl (.eq rfl (.eq rfl (.eq rfl (.eq rfl (.eq rfl (.eq rfl (.eq rfl (.eq rfl (.eq rfl ?_))))))))))))
 refine .bind (fO _ 2 aj (by omega)) fun aB J=> .eq rfl (.bind (fO _ 256 J.1 (by omega)) fun aK ad=> .eq rfl (.eq rfl (.eq rfl ?_)))
 refine .bind (mv _ ad.1) fun bk ax=> ?_
 refine .bind (P:=fun m=>m.map oL=wq) (.cond (fun _=> ?_) (fun _=> .ret rfl)) fun bH cM=> ?_
 ·exact .idx (k:=2) rfl (by simp) (.eq rfl (.ret (Bm oL rfl rfl)))
 ·refine .bind (mv _ ax) fun b1 aR=> .bind (P:=fun m=>m.map oL=wq) (.cond (fun _=> ?_) (fun _=> .ret cM)) fun cI ek=> .ret ⟨aR,ek⟩
  have ar:bH.length=6:=by rw [← List.length_map (f:=oL),cM]; rfl
  exact .idx (k:=4) rfl (by omega) (.eq rfl (.ret (Bm oL rfl cM)))
def rz:cu:= { bZ:=ByteArray.mk #[97],gq:=4,c9:=1 }
def uX:cu:= { bZ:=ByteArray.mk #[100],gq:=7,c9:=2 }
def HR:cu:= { bZ:=ByteArray.mk #[109],gq:=3,c9:=1 }
def An:cu:= { bZ:=ByteArray.mk #[101],gq:=6,c9:=3 }
def z6:cu:= { bZ:=ByteArray.mk #[97],gq:=4,c9:=3 }
def HS:cu:= { bZ:=ByteArray.mk #[98],gq:=5,c9:=1 }
def Ao:cu:= { bZ:=ByteArray.mk #[102],gq:=8,c9:=4 }
def HT:cu:= { bZ:=ByteArray.mk #[103],gq:=9,c9:=1 }
def mI (t:bw):Int × List Int × List cu:=(t.bC,t.dC,t.cv)
def r7 (b:Bool):List cu:=if b then [uX,HR] else [uX]
def tP (b:Bool):List cu:=if b then [An,z6,HS] else [An,z6]
def tQ (b:Bool):List cu:=if b then [Ao,HT,uX] else [Ao]
def qM (dH dR hh:Bool):List (Int × List Int × List cu):=
 [(1,[1,2,4],[rz]),(2,[1,2,3,4],r7 dH),(3,[1,2,3,5,6],tP dR),(4,[1,3,5],tQ hh)]
theorem Qf (c:bm) (aj:g6 c):bK (xj c) (fun r=>g6 r.2∧ (∀ x∈r.1.map (·.fv),2≤x∧x≤20)∧ ∃ dH dR hh,r.1.map mI=qM dH dR hh):=by
 unfold xj
 refine .eq rfl (.bind (fO _ 2 aj (by omega)) fun aB J=> .bind (fO _ 5 J.1 (by omega)) fun aK ad=> .eq rfl (.eq rfl ?_))
 refine .bind (fO _ 6 ad.1 (by omega)) fun bk ax=> .bind (mv _ ax.1) fun b1 aR=> ?_
 refine .bind (P:=fun m=>(m.1.bC=2∧m.1.dC= [1,2,3,4]∧m.1.fv=bu (3 + bk.1))∧ ∃ b,m.2=r7 b) (.cond (fun _=> ?_) (fun _=> .ret ⟨⟨rfl,rfl,rfl⟩,false,rfl⟩)) fun bH cM=> ?_
 ·exact .eq rfl (.eq (kh _ _ (by simp) (by omega)) (.ret ⟨⟨rfl,rfl,rfl⟩,true,rfl⟩))
 refine .eq rfl (.eq rfl (.bind (fO _ 6 aR (by omega)) fun cm aW=> .bind (mv _ aW.1) fun cD bc=> ?_))
 refine .bind (P:=fun m=>(m.1.bC=3∧m.1.dC= [1,2,3,5,6]∧m.1.fv=bu (4 + cm.1))∧ ∃ b,m.2=tP b) (.cond (fun _=> ?_) (fun _=> .ret ⟨⟨rfl,rfl,rfl⟩,false,rfl⟩)) fun cI ek=> ?_
 ·exact .eq rfl (.eq (kh _ _ (by simp) (by omega)) (.ret ⟨⟨rfl,rfl,rfl⟩,true,rfl⟩))
 refine .eq rfl (.bind (fO _ 5 bc (by omega)) fun ct cn=> .bind (mv _ cn.1) fun dy eo=> ?_)
 refine .bind (P:=fun m=>(m.1.bC=4∧m.1.dC= [1,3,5]∧m.1.fv=bu (3 + ct.1))∧ ∃ b,m.2=tQ b) (.cond (fun _=> ?_) (fun _=> .ret ⟨⟨rfl,rfl,rfl⟩,false,rfl⟩)) fun ft ht=> ?_
 ·exact .eq rfl (.eq rfl (.eq (kh _ _ (by simp) (by omega)) (.ret ⟨⟨rfl,rfl,rfl⟩,true,rfl⟩)))
 refine .eq rfl (.eq rfl (.eq rfl (.eq rfl (.eq rfl ?_))))
 obtain⟨⟨cR,cy,iR⟩,dH,gb⟩:=cM
 obtain⟨⟨bl,b7,jD⟩,dR,e0⟩:=ek
 obtain⟨⟨d1,d2,d4⟩,hh,d3⟩:=ht
 refine bK.loop 4 (fun k s=>s.1=(k:Int)∧s.2.1.map mI=qM dH dR hh∧g6 s.2.2∧s.2.1.map (·.fv)= [bu (2 + aK.1),bu (3 + bk.1),bu (4 + cm.1),bu (3 + ct.1)]) (by omega) ⟨rfl,?_,eo,?_⟩ (fun k s au aq=> ?_) (fun s aq=> ?_)
 ·simp only [List.map_cons,List.map_nil,mI,cR,cy,gb,bl,b7,e0,d1,d2,d3,qM]; rfl
 ·simp only [List.map_cons,List.map_nil,iR,jD,d4]
 ·obtain⟨i,gK,Ap⟩:=s; obtain⟨aE,bd,ej,hS⟩:=aq
  simp only at aE bd ej hS; subst aE
  refine bK.cond (fun _=> ?_) (fun h=>by simp at h; omega)
  have ar:gK.length=4:=by rw [← List.length_map (f:=mI),bd]; rfl
  refine .idx rfl (by simpa using au) (.bind (fO _ 3 ej (by omega)) fun e1 fx=> .eq (tq fx.2.1 ?_) (.idx rfl (by simp only; omega) (.eq rfl (.ret ⟨iG (by omega),?_,fx.1,?_⟩))))
  ·have gC:=fx.2.2.1
   have:k=0∨k=1∨k=2∨k=3:=by omega
   rcases this with rfl | rfl | rfl | rfl <;> exact gC
  ·exact Bm mI rfl bd
  ·exact Bm bw.fv rfl hS
 ·obtain⟨i,gK,Ap⟩:=s; obtain⟨aE,bd,ej,hS⟩:=aq
  simp only at aE bd ej hS; subst aE
  refine⟨_,rfl,?_⟩
  refine .ret ⟨ej,fun x ak=> ?_,dH,dR,hh,bd⟩
  rw [hS] at ak
  have bf:=ad.2; have bJ:=ax.2; have oo:=aW.2; have YA:=cn.2
  simp only [List.mem_cons,List.not_mem_nil,or_false] at ak
  rcases ak with rfl | rfl | rfl | rfl <;> (rw [hO (by omega) (by omega)]; omega)
theorem Kb (n:Nat) (h:n≤1000):ur (α:=Bool) 1 (n:Int)=some (List.replicate n default):=by
 unfold ur; rw [if_pos ⟨by omega,by omega,by omega⟩]; simp
theorem QJ (c:bm) (gK:List bw) (aj:g6 c) (ar:gK.length≤1000) (au:∀ t∈gK,t.cv.length≤1000):bK (xt c gK) (fun r=>g6 r.2∧r.1.map (·.bC)= [1,2,7]):=by
 unfold xt
 refine .bind (fO _ 3 aj (by omega)) fun aB J=> .bind (fO _ 6 J.1 (by omega)) fun aK ad=> .bind (fO _ 6 ad.1 (by omega)) fun bk ax=> .bind (fO _ 4 ax.1 (by omega)) fun b1 aR=> ?_
 refine bK.loop gK.length (fun k s=>s.1=(k:Int)∧g6 s.2.2.2.1∧s.2.2.1.length≤k∧s.2.2.2.2.2.1.length≤k∧s.2.2.2.2.2.2.2.length≤k∧s.2.1.bC=7∧s.2.2.2.2.1.bC=2∧s.2.2.2.2.2.2.1.bC=1) (by omega) ⟨rfl,aR.1,by simp,by simp,by simp,rfl,rfl,rfl⟩ (fun k s oc aq=> ?_) (fun s aq=> ?_)
 ·obtain⟨i,iW,ay,Ap,gJ,bf,pj,bJ⟩:=s; obtain⟨aE,bd,ej,hS,lQ,i1,i2,i3⟩:=aq
  simp only at aE bd ej hS lQ i1 i2 i3; subst aE
  refine bK.cond (fun _=> ?_) (fun h=>by simp at h; omega)
  have MF:(aN gK k).cv.length≤1000:=au _ (by rw [gf gK oc]; exact List.getElem_mem oc)
  refine .idx rfl oc (.eq (Kb _ MF) (.eq (Kb _ MF) ?_))
  refine bK.loop (aN gK k).cv.length (fun j s=>s.1=(j:Int)∧s.2.1.length=(aN gK k).cv.length∧s.2.2.1.length=(aN gK k).cv.length∧g6 s.2.2.2) (by omega) ⟨rfl,by simp,by simp,bd⟩ (fun j s aC aq=> ?_) (fun s aq=> ?_)
  ·obtain⟨i,dH,dR,W8⟩:=s; obtain⟨f1,f2,f3,f4⟩:=aq
   simp only at f1 f2 f3 f4; subst f1
   refine bK.cond (fun _=> ?_) (fun h=>by simp at h; omega)
   exact .bind (fO _ 4 f4 (by omega)) fun ct cn=> .idx rfl (by simp only; omega) (.idx rfl (by simp only; omega) (.ret ⟨iG (by omega),by simp [iL,f2],by simp [iL,f3],cn.1⟩))
  ·obtain⟨i,dH,dR,W8⟩:=s; obtain⟨f1,f2,f3,f4⟩:=aq
   simp only at f1 f2 f3 f4; subst f1
   refine⟨_,by simp; rfl,?_⟩
   refine .eq rfl (.eq (kh _ _ (by simp; omega) (by omega)) (.bind (fO _ 4 f4 (by omega)) fun e1 fx=> ?_))
   refine .bind (P:=fun m=>g6 m.1∧m.2.2.length≤k + 1∧m.2.1.bC=2) (.cond (fun _=> ?_) (fun _=> .ret ⟨fx.1,by simp only; omega,i2⟩)) fun bH cM=> ?_
   ·exact .bind (fO _ 4 fx.1 (by omega)) fun kR C5=> .bind (mv _ C5.1) fun sl C6=> .eq rfl (.eq (kh _ _ (by simp; omega) (by omega)) (.ret ⟨C6,by simp; omega,i2⟩))
   refine .bind (mv _ cM.1) fun dJ gC=> ?_
   refine .bind (P:=fun m=>g6 m.1∧m.2.2.length≤k + 1∧m.2.1.bC=7) (.cond (fun _=> ?_) (fun _=> .ret ⟨gC,by simp only; omega,i1⟩)) fun cI ek=> ?_
   ·exact .bind (mv _ gC) fun gv oi=> .bind (mv _ oi) fun gH uL=> .eq rfl (.eq (kh _ _ (by simp; omega) (by omega)) (.ret ⟨uL,by simp; omega,i1⟩))
   exact .ret ⟨iG (by omega),ek.1,ek.2.1,cM.2.1,by simp; omega,ek.2.2,cM.2.2,i3⟩
 ·obtain⟨i,iW,ay,Ap,gJ,bf,pj,bJ⟩:=s; obtain⟨aE,bd,ej,hS,lQ,i1,i2,i3⟩:=aq
  simp only at aE bd ej hS lQ i1 i2 i3; subst aE
  refine⟨_,by simp; rfl,?_⟩
  exact .eq rfl (.eq rfl (.ret ⟨bd,by simp only [List.map_cons,List.map_nil,i1,i2,i3]⟩))
def Gm:List (Int × Int):= [(1,16),(2,16),(3,8),(4,4),(5,4),(6,8),(7,32),(8,12),(9,4)]
def yT (f:e3):Int × Int:=(f.bC,f.e2)
structure dK (s:aZ):Prop where
 fields:s.gy.map yT=Gm
 headers:s.rI.length=3
 SF:s.td.length=3
 E4:s.dC.map oL=wq
 tables:∃ dH dR hh,s.bA.map mI=qM dH dR hh
 Ut:s.m9.map (·.bC)= [1,2,7]
 Uu:∀ x∈s.bA.map (·.fv),2≤x∧x≤20
theorem dK.wu {s:aZ} (h:dK s):s.gy.length=9:=by rw [← List.length_map (f:=yT),h.fields]; rfl
theorem dK.j6 {s:aZ} (h:dK s):s.bA.length=4:=by obtain⟨dH,dR,hh,J⟩:=h.tables; rw [← List.length_map (f:=mI),J]; rfl
theorem dK.MG {s:aZ} (h:dK s):s.dC.length=6:=by rw [← List.length_map (f:=oL),h.E4]; rfl
theorem El (c:bm) (aj:g6 c):bK (sM c) (fun r=>dK r.1∧g6 r.2):=by
 unfold sM
 refine .bind (fO _ 8 aj (by omega)) fun aB J=> .bind (fO _ 30 J.1 (by omega)) fun aK ad=> ?_
 refine .eq rfl (.eq rfl (.eq rfl (.eq rfl (.eq rfl (.eq rfl (.eq rfl (.eq rfl (.eq rfl (.eq rfl (.eq rfl (.eq rfl ?_)))))))))))
 refine .bind (Qe _ ad.1) fun bk ax=> .bind (PX _ ax.1) fun b1 aR=> .bind (Qf _ aR.1) fun cm aW=> .eq rfl (.eq rfl ?_)
 obtain⟨W9,dL,dH,dR,hh,aW⟩:=aW
 have ar:cm.1.length=4:=by rw [← List.length_map (f:=mI),aW]; rfl
 have Uv:∀ t∈cm.1,t.cv.length≤1000:=fun t bI=>by
  have bc:mI t∈qM dH dR hh:=aW ▸ List.mem_map_of_mem bI
  have cn:∀ p∈qM dH dR hh,p.2.2.length≤1000:=by
   intro p hp
   simp only [qM,List.mem_cons,List.not_mem_nil,or_false] at hp
   rcases hp with rfl | rfl | rfl | rfl
   ·simp
   ·cases dH <;> simp [r7]
   ·cases dR <;> simp [tP]
   ·cases hh <;> simp [tQ]
  exact cn _ bc
 refine .bind (QJ _ _ W9 (by simp only; omega) Uv) fun cD bc=> .eq rfl (.bind (mv _ bc.1) fun ct cn=> ?_)
 let Inv (s:aZ):Prop:=s.gy.map yT=Gm∧s.rI.length=3∧s.td.length=3∧s.dC.map oL=wq∧s.bA=cm.1∧s.m9.map (·.bC)= [1,2,7]
 have hinv:∀ (st:List fe) (NN:List eE) (s:aZ),Inv s→Inv { s with mr:=st,nc:=NN } :=fun st NN s h=>h
 refine .bind (P:=fun _=>True) (.cond (fun _=> .eq (kh _ _ (by simp) (by omega)) (.ret trivial)) (fun _=> .ret trivial)) fun bH _=> ?_
 refine .bind (mv _ cn) fun dy eo=> ?_
 refine .bind (P:=fun m=>Inv m.1∧m.2.length≤10) (.cond (fun _=> .eq rfl (.eq (kh _ _ (by simp) (by omega)) (.ret ⟨⟨rfl,rfl,ax.2,aR.2,rfl,bc.2⟩,by simp⟩))) (fun _=> .ret ⟨⟨rfl,rfl,ax.2,aR.2,rfl,bc.2⟩,by simp⟩)) fun cI ek=> ?_
 refine .bind (mv _ eo) fun e1 fx=> ?_
 refine .c5 (P:=fun _=>True) (fun _=>⟨2,tp (k:=2) (by rw [ek.1.2.2.2.2.1]; omega),trivial⟩) fun bh _=> ?_
 refine .bind (P:=fun m=>Inv m.1∧m.2.length≤11) (.cond (fun _=> .eq rfl (.eq (kh _ _ (by have:=ek.2; simp; omega) (by omega)) (.ret ⟨ek.1,by have:=ek.2; simp; omega⟩))) (fun _=> .ret ⟨ek.1,by have:=ek.2; simp only; omega⟩)) fun ft ht=> ?_
 refine .bind (mv _ fx) fun dJ gC=> ?_
 refine .c5 (P:=fun _=>True) (fun _=>⟨3,tp (k:=3) (by rw [ht.1.2.2.2.2.1]; omega),trivial⟩) fun cC _=> ?_
 refine .bind (P:=fun m=>Inv m.1∧m.2.length≤13) (.cond (fun _=> .eq rfl (.eq rfl (.eq (kh _ _ (by have:=ht.2; simp; omega) (by omega)) (.ret ⟨ht.1,by have:=ht.2; simp; omega⟩)))) (fun _=> .ret ⟨ht.1,by have:=ht.2; simp only; omega⟩)) fun om zs=> ?_
 obtain⟨⟨i1,i2,i3,i4,i5,i6⟩,_⟩:=zs
 exact .eq rfl (.ret ⟨⟨i1,i2,i3,i4,⟨dH,dR,hh,by simp only [i5]; exact aW⟩,i6,by simp only [i5]; exact dL⟩,gC⟩)
theorem dK.size {s:aZ} (h:dK s) {k:Nat} (au:k < 4):2≤ (aN s.bA k).fv∧ (aN s.bA k).fv≤20:=by
 have ar:=h.j6
 exact h.Uu _ (List.mem_map.2 ⟨_,by rw [gf _ (by omega)]; exact List.getElem_mem _,rfl⟩)
theorem Kc (x:Int) (n:Int) (J:1≤n) (ad:n≤1000000):bK (sZ x n) (fun r=>0≤r∧r < n):=by
 unfold sZ
 refine .cond (fun h=>by simp at h; omega) fun _=> ?_
 have hm:∀ y:Int,se y n=some (y.tmod n):=fun y=>by unfold se; rw [if_neg (by omega)]
 refine .eq (hm _) ?_
 have ax:=Int.tmod_lt_of_pos x (show 0 < n by omega)
 have aR: -n < x.tmod n:=by
  have:=Int.tmod_lt_of_pos (-x) (show 0 < n by omega)
  rw [Int.neg_tmod] at this; omega
 rw [hO (by omega) (by omega)]
 exact .eq (hm _) (.ret ⟨Int.tmod_nonneg _ (by omega),Int.tmod_lt_of_pos _ (by omega)⟩)
end Go.Proofs.YtmnggbjcnoffeaaGreat
namespace Go.Proofs.YtmnggbjcnoffeaaGreat
open Go Gv
set_option linter.unusedVariables false
set_option linter.unusedSimpArgs false
def cH (v:az) (i:Nat):Bool:=if i < 64 then v.bV.getLsbD i else v.eb.getLsbD (i - 64)
theorem KQ {v w:az} (h:∀ j,j < 128→cH v j=cH w j):v=w:=by
 cases v with | mk XO XP=>cases w with | mk XQ wl=>
 have J:XO=XQ:=by
  apply BitVec.eq_of_getLsbD_eq
  intro i aq
  have:=h (i + 64) (by omega)
  simpa [cH,show ¬ (i + 64 < 64) by omega] using this
 have ad:XP=wl:=by
  apply BitVec.eq_of_getLsbD_eq
  intro i aq
  have:=h i (by omega)
  simpa [cH,aq] using this
 rw [J,ad]
theorem yn (j:Nat):cH default j=false:=by
 unfold cH; split <;> exact BitVec.getLsbD_zero
def zl (x y:az):az:= { eb:=x.eb &&& y.eb,bV:=x.bV &&& y.bV }
def Nm (x y:az):az:= { eb:=x.eb ||| y.eb,bV:=x.bV ||| y.bV }
def Gn (x y:az):az:= { eb:=x.eb ^^^ y.eb,bV:=x.bV ^^^ y.bV }
@[simp] theorem RW (x y:az) (j:Nat):cH (zl x y) j=(cH x j && cH y j):=by unfold cH zl; split <;> simp
@[simp] theorem XX (x y:az) (j:Nat):cH (Nm x y) j=(cH x j || cH y j):=by unfold cH Nm; split <;> simp
@[simp] theorem RX (x y:az) (j:Nat):cH (Gn x y) j=(cH x j ^^ cH y j):=by unfold cH Gn; split <;> simp
theorem and_eq (x y:az):Bb x y=some (zl x y):=rfl
theorem xor_eq (x y:az):xR x y=some (Gn x y):=rfl
end Go.Proofs.YtmnggbjcnoffeaaGreat
namespace Go.Proofs.YtmnggbjcnoffeaaGreat
open Go Gv
set_option linter.unusedVariables false
set_option linter.unusedSimpArgs false
theorem JB (v:az) (n:Nat) (aL:n < 2 ^ 62):bK (vp v n) (fun r=> ∀ j,j < 128→cH r j=cH v (j + n)):=by
 unfold vp
 refine .cond (fun h=> .ret fun j aC=> ?_) (fun h=> .cond (fun cV=> .eq rfl (.ret fun j aC=> ?_)) (fun cV=> .eq rfl (.eq rfl (.ret fun j aC=> ?_))))
 ·have:n=0:=by simp at h; omega
  simp [this]
 ·simp only [decide_eq_true_eq] at cV
  have aE:bu ((n:Int) - 64)=((n - 64:Nat):Int):=by rw [hO (by omega) (by omega)]; omega
  rw [aE,qo (by omega)]
  unfold cH
  by_cases aC:j < 64
  ·rw [if_pos aC,if_neg (by omega)]
   simp only [BitVec.getLsbD_ushiftRight]
   congr 1; omega
  ·rw [if_neg aC,if_neg (by omega)]
   rw [show(default:az).eb=0#64 from rfl,BitVec.getLsbD_zero,BitVec.getLsbD_of_ge _ _ (by omega)]
 ·simp only [decide_eq_false_iff_not] at h cV
  have aE:bu (64 - (n:Int))=((64 - n:Nat):Int):=by rw [hO (by omega) (by omega)]; omega
  rw [aE,qo (by omega),qo (by omega)]
  unfold cH
  by_cases aC:j < 64
  ·rw [if_pos aC]
   simp only [BitVec.getLsbD_or,BitVec.getLsbD_ushiftRight,BitVec.getLsbD_shiftLeft]
   by_cases ax:j + n < 64
   ·rw [if_pos ax]
    have:j < 64 - n:=by omega
    simp [this,Nat.add_comm]
   ·rw [if_neg ax,BitVec.getLsbD_of_ge _ (n + j) (by omega)]
    have: ¬ (j < 64 - n):=by omega
    simp only [aC,this,decide_true,decide_false,Bool.true_and,Bool.not_false,Bool.false_or]
    congr 1; omega
  ·rw [if_neg aC,if_neg (by omega)]
   simp only [BitVec.getLsbD_ushiftRight]
   congr 1; omega
theorem SG (v:az) (i:Int):bK (s3 v i) (fun r=>r=(decide (0≤i∧i < 128) && cH v i.toNat)):=by
 unfold s3
 refine .c5 (P:=fun r=> ∀ j,j < 128→cH r j=cH v (j + i.toNat)) (fun h=> ?_) fun y a7=> .eq rfl (.ret ?_)
 ·simp at h
  obtain⟨n,rfl⟩:=Int.eq_ofNat_of_zero_le h.1
  exact JB v n (by omega)
 ·by_cases h:0≤i∧i < 128
  ·have J:(decide (i≥0) && decide (i < 128))=true:=by simp; omega
   rw [J,RT]
   have:=a7 J 0 (by omega)
   rw [show cH y 0=y.bV.getLsbD 0 from rfl,Nat.zero_add] at this
   rw [this,decide_eq_true h]
  ·have J:(decide (i≥0) && decide (i < 128))=false:=by simp; omega
   simp [J,h]
def NO (w:Vector az 4) (i:Nat):Bool:=cH (cg w (i / 128)) (127 - i % 128)
def cell (val mask:Vector az 4) (i:Nat):BitVec 8:=if NO mask i then(if NO val i then 1#8 else 0#8) else 2#8
end Go.Proofs.YtmnggbjcnoffeaaGreat
namespace Go.Proofs.YtmnggbjcnoffeaaGreat
open Go Gv
set_option linter.unusedVariables false
set_option linter.unusedSimpArgs false
set_option maxRecDepth 100000
theorem RY (x y:az):bK (xR x y) (fun r=> ∀ j,j < 128→cH r j=(cH x j ^^ cH y j)):=⟨_,xor_eq x y,fun j _=>RX x y j⟩
theorem Kd (n:Int):bK (vt n) (fun r=> ∀ j,j < 128→cH r j=decide ((j:Int) < n)):=by
 unfold vt vn
 refine .eq rfl (.eq rfl ?_)
 have hm:bu (128 - min (max 0 n) 128)=((128 - min (max 0 n) 128).toNat:Int):=by rw [hO (by omega) (by omega)]; omega
 rw [hm]
 refine(JB _ _ (by omega)).bind fun r aQ=> .ret fun j aC=> ?_
 rw [aQ j aC]
 have jN:∀ i,cH { eb:=18446744073709551615#64,bV:=18446744073709551615#64 } i=decide (i < 128):=by
  intro i
  have a6:(18446744073709551615#64)=BitVec.allOnes 64:=by rfl
  unfold cH
  simp only [a6,BitVec.getLsbD_allOnes]
  by_cases h:i < 64
  ·simp [h]; omega
  ·simp [h]; omega
 rw [jN,decide_eq_decide]; omega
end Go.Proofs.YtmnggbjcnoffeaaGreat
namespace Go.Proofs.YtmnggbjcnoffeaaGreat
open Go Gv
set_option linter.unusedVariables false
set_option linter.unusedSimpArgs false
set_option maxRecDepth 100000
def val (w:Nat):Nat→ (Nat→Nat)→Nat
 | 0,_=>0
 | n + 1,d=>d 0 + 2 ^ w * val w n (fun k=>d (k + 1))
end Go.Proofs.YtmnggbjcnoffeaaGreat
namespace Go.Proofs.YtmnggbjcnoffeaaGreat
open Go Gv
set_option linter.unusedVariables false
set_option linter.unusedSimpArgs false
set_option maxRecDepth 100000
end Go.Proofs.YtmnggbjcnoffeaaGreat
namespace Go.Proofs.YtmnggbjcnoffeaaGreat
open Go Gv
set_option linter.unusedVariables false
set_option linter.unusedSimpArgs false
set_option maxRecDepth 100000
end Go.Proofs.YtmnggbjcnoffeaaGreat
namespace Go.Proofs.YtmnggbjcnoffeaaGreat
open Go Gv
set_option linter.unusedVariables false
set_option linter.unusedSimpArgs false
set_option maxRecDepth 100000
end Go.Proofs.YtmnggbjcnoffeaaGreat
namespace Go.Proofs.YtmnggbjcnoffeaaGreat
open Go Gv
set_option linter.unusedVariables false
set_option linter.unusedSimpArgs false
set_option maxRecDepth 100000
def qN:List Int:= [16,16,8,4,4,8,32,12,4]
theorem dK.wN {s:aZ} (h:dK s) {k:Nat} (au:k < 9):(aN s.gy k).bC=(k:Int) + 1∧ (aN s.gy k).e2=aN qN k:=by
 have J:=Bt yT (l:=s.gy) (k:=k) (by rw [h.wu]; exact au)
 rw [h.fields] at J
 have ad:aN Gm k=((k:Int) + 1,aN qN k):=by
  have:k=0∨k=1∨k=2∨k=3∨k=4∨k=5∨k=6∨k=7∨k=8:=by omega
  rcases this with rfl | rfl | rfl | rfl | rfl | rfl | rfl | rfl | rfl <;> rfl
 rw [ad] at J
 simp only [yT,Prod.mk.injEq] at J
 exact⟨J.1.symm,J.2.symm⟩
def sj:List (List Int):= [[],[],[16],[4],[4,12],[]]
theorem dK.act {s:aZ} (h:dK s) {k:Nat} (au:k < 6):(aN s.dC k).bC=(k:Int) + 1∧ (aN s.dC k).jI.map (·.e2)=aN sj k:=by
 have J:=Bt oL (l:=s.dC) (k:=k) (by rw [h.MG]; exact au)
 rw [h.E4] at J
 have ad:aN wq k=((k:Int) + 1,aN sj k):=by
  have:k=0∨k=1∨k=2∨k=3∨k=4∨k=5:=by omega
  rcases this with rfl | rfl | rfl | rfl | rfl | rfl <;> rfl
 rw [ad] at J
 simp only [oL,Prod.mk.injEq] at J
 exact⟨J.1.symm,J.2.symm⟩
def mJ (key:cu):Prop:= ∃ j:Nat,j < 9∧key.gq=(j:Int) + 1∧1≤key.c9∧key.c9≤4∧4≤aN qN j∧aN qN j≤32∧ (key.c9=2→j=6)
def ot (key:cu):Int:=aN qN (key.gq - 1).toNat
theorem dK.kB {s:aZ} (h:dK s) {k:Nat} (au:k < 4):(aN s.bA k).bC=(k:Int) + 1∧
 (1≤ (aN s.bA k).cv.length∧ (aN s.bA k).cv.length≤3)∧ (∀ key∈ (aN s.bA k).cv,mJ key)∧
 (1≤ (aN s.bA k).dC.length∧ (aN s.bA k).dC.length≤5)∧ (∀ a∈ (aN s.bA k).dC,1≤a∧a≤6):=by
 obtain⟨dH,dR,hh,bI⟩:=h.tables
 have J:=Bt mI (l:=s.bA) (k:=k) (by rw [h.j6]; exact au)
 rw [bI] at J
 have ad:∀ p:Int × List Int × List cu,p=mI (aN s.bA k)→p.1=(k:Int) + 1→ (1≤p.2.2.length∧p.2.2.length≤3)→ (∀ key∈p.2.2,mJ key)→
  (1≤p.2.1.length∧p.2.1.length≤5)→ (∀ a∈p.2.1,1≤a∧a≤6)→ (aN s.bA k).bC=(k:Int) + 1∧
  (1≤ (aN s.bA k).cv.length∧ (aN s.bA k).cv.length≤3)∧ (∀ key∈ (aN s.bA k).cv,mJ key)∧
  (1≤ (aN s.bA k).dC.length∧ (aN s.bA k).dC.length≤5)∧ (∀ a∈ (aN s.bA k).dC,1≤a∧a≤6):=by
  rintro p rfl a b c d e
  exact⟨a,b,c,d,e⟩
 have hy:(1≤ ([1,2,4]:List Int).length∧ ([1,2,4]:List Int).length≤5)∧ ∀ a∈ ([1,2,4]:List Int),1≤a∧a≤6:=by decide
 have cR:(1≤ ([1,2,3,4]:List Int).length∧ ([1,2,3,4]:List Int).length≤5)∧ ∀ a∈ ([1,2,3,4]:List Int),1≤a∧a≤6:=by decide
 have cy:(1≤ ([1,2,3,5,6]:List Int).length∧ ([1,2,3,5,6]:List Int).length≤5)∧ ∀ a∈ ([1,2,3,5,6]:List Int),1≤a∧a≤6:=by decide
 have gb:(1≤ ([1,3,5]:List Int).length∧ ([1,3,5]:List Int).length≤5)∧ ∀ a∈ ([1,3,5]:List Int),1≤a∧a≤6:=by decide
 have Uw:mJ rz:=⟨3,by decide,rfl,by decide,by decide,by decide,by decide,by decide⟩
 have KR:mJ z6:=⟨3,by decide,rfl,by decide,by decide,by decide,by decide,by decide⟩
 have Ux:mJ HS:=⟨4,by decide,rfl,by decide,by decide,by decide,by decide,by decide⟩
 have FV:mJ uX:=⟨6,by decide,rfl,by decide,by decide,by decide,by decide,by decide⟩
 have Uy:mJ HR:=⟨2,by decide,rfl,by decide,by decide,by decide,by decide,by decide⟩
 have LX:mJ An:=⟨5,by decide,rfl,by decide,by decide,by decide,by decide,by decide⟩
 have LY:mJ Ao:=⟨7,by decide,rfl,by decide,by decide,by decide,by decide,by decide⟩
 have Uz:mJ HT:=⟨8,by decide,rfl,by decide,by decide,by decide,by decide,by decide⟩
 have:k=0∨k=1∨k=2∨k=3:=by omega
 rcases this with rfl | rfl | rfl | rfl
 ·refine ad _ J rfl (show 1≤ [rz].length∧ [rz].length≤3 by decide) ?_ hy.1 hy.2
  intro key jP
  rcases List.mem_singleton.1 jP with rfl
  exact Uw
 ·refine ad _ J rfl ?_ ?_ cR.1 cR.2
  ·show 1≤ (r7 dH).length∧ (r7 dH).length≤3
   cases dH <;> decide
  ·intro key jP
   replace jP:key∈r7 dH:=jP
   cases dH <;> simp only [r7,List.mem_cons,List.not_mem_nil,or_false,if_true,if_false,Bool.false_eq_true] at jP
   ·subst jP; exact FV
   ·rcases jP with rfl | rfl; exact FV; exact Uy
 ·refine ad _ J rfl ?_ ?_ cy.1 cy.2
  ·show 1≤ (tP dR).length∧ (tP dR).length≤3
   cases dR <;> decide
  ·intro key jP
   replace jP:key∈tP dR:=jP
   cases dR <;> simp only [tP,List.mem_cons,List.not_mem_nil,or_false,if_true,if_false,Bool.false_eq_true] at jP
   ·rcases jP with rfl | rfl; exact LX; exact KR
   ·rcases jP with rfl | rfl | rfl; exact LX; exact KR; exact Ux
 ·refine ad _ J rfl ?_ ?_ gb.1 gb.2
  ·show 1≤ (tQ hh).length∧ (tQ hh).length≤3
   cases hh <;> decide
  ·intro key jP
   replace jP:key∈tQ hh:=jP
   cases hh <;> simp only [tQ,List.mem_cons,List.not_mem_nil,or_false,if_true,if_false,Bool.false_eq_true] at jP
   ·subst jP; exact LY
   ·rcases jP with rfl | rfl | rfl; exact LY; exact Uz; exact FV
theorem Qg {s:aZ} (h:dK s) {j:Nat} (aC:j < 9):bK (xJ s ((j:Int) + 1)) (fun r=>r=aN qN j):=by
 unfold xJ
 have ar:=h.wu
 refine bK.loop j (fun k s=>s=(k:Int)) (by omega) rfl (fun k i au aq=> ?_) (fun i aq=> ?_)
 ·subst aq
  refine bK.cond (fun _=> ?_) (fun h=>by simp at h; omega)
  refine .idx rfl (by omega) (.cond (fun aj=> ?_) (fun aj=> .ret (iG (by omega))))
  have:=(h.wN (show k < 9 by omega)).1
  simp only [this,beq_iff_eq] at aj
  omega
 ·subst aq
  have J:decide ((j:Int) < (s.gy.length:Int))=true:=by simp; omega
  have ad:((aN s.gy j).bC ==(j:Int) + 1)=true:=by rw [(h.wN aC).1]; simp
  rw [J]
  simp only [cond_true]
  rw [tp (by omega)]
  simp only [Option.bind_some,ad,cond_true]
  exact⟨_,rfl,.ret (h.wN aC).2⟩
theorem PY {s:aZ} (h:dK s) {j:Nat} (aC:j < 6):bK (xC s ((j:Int) + 1)) (fun r=>r=aN s.dC j):=by
 unfold xC
 have ar:=h.MG
 refine bK.loop j (fun k s=>s=(k:Int)) (by omega) rfl (fun k i au aq=> ?_) (fun i aq=> ?_)
 ·subst aq
  refine bK.cond (fun _=> ?_) (fun h=>by simp at h; omega)
  refine .idx rfl (by omega) (.cond (fun aj=> ?_) (fun aj=> .ret (iG (by omega))))
  have:=(h.act (show k < 6 by omega)).1
  simp only [this,beq_iff_eq] at aj
  omega
 ·subst aq
  have J:decide ((j:Int) < (s.dC.length:Int))=true:=by simp; omega
  have ad:((aN s.dC j).bC ==(j:Int) + 1)=true:=by rw [(h.act aC).1]; simp
  rw [J]
  simp only [cond_true]
  rw [tp (by omega)]
  simp only [Option.bind_some,ad,cond_true]
  exact⟨_,rfl,.ret rfl⟩
theorem yc {n:Nat} (aL:n < 64) (j:Nat):(((1#64) <<< n) - 1#64).getLsbD j=decide (j < n):=by
 have J:(((1#64) <<< n) - 1#64).toNat=2 ^ n - 1:=by
  have ad:((1#64) <<< n).toNat=2 ^ n:=by
   rw [BitVec.toNat_shiftLeft,BitVec.toNat_ofNat,Nat.shiftLeft_eq]
   have:=Nat.pow_lt_pow_right (show 1 < 2 by omega) aL
   rw [show(1 % 2 ^ 64:Nat)=1 from rfl,Nat.one_mul]
   exact Nat.mod_eq_of_lt this
  have ax:1≤2 ^ n:=Nat.one_le_two_pow
  have aR:=Nat.pow_lt_pow_right (show 1 < 2 by omega) aL
  rw [BitVec.toNat_sub,ad]
  simp only [BitVec.toNat_ofNat]
  omega
 rw [← BitVec.testBit_toNat,J,Nat.testBit_two_pow_sub_one]
theorem Fo (x:az) (n:Int) (bB:0≤n) (J:n < 1000):bK (s0 x n) (fun r=> ∀ j,j < 128→cH r j=(cH x j && decide ((j:Int) < n))):=by
 unfold s0
 obtain⟨m,rfl⟩:=Int.eq_ofNat_of_zero_le bB
 refine .cond (fun h=> .ret fun j aC=> ?_) fun h=> .cond (fun cV=> .eq rfl (.ret fun j aC=> ?_)) fun cV=> .cond (fun He=> .ret fun j aC=> ?_) fun He=> .eq rfl (.eq rfl (.ret fun j aC=> ?_))
 ·simp only [decide_eq_true_eq] at h
  have:decide ((j:Int) < (m:Int))=true:=by simp; omega
  rw [this,Bool.and_true]
 ·simp only [decide_eq_true_eq,decide_eq_false_iff_not] at h cV
  have e:bu ((m:Int) - 64)=((m - 64:Nat):Int):=by rw [hO (by omega) (by omega)]; omega
  simp only [cH,e,qo (show m - 64 < 2 ^ 64 by omega),BitVec.getLsbD_and,yc (show m - 64 < 64 by omega)]
  split
  ·have:decide ((j:Int) < (m:Int))=true:=by simp; omega
   rw [this,Bool.and_true]
  ·congr 1; rw [decide_eq_decide]; omega
 ·simp only [decide_eq_true_eq] at He
  have:decide ((j:Int) < (m:Int))=false:=by simp; omega
  rw [yn,this,Bool.and_false]
 ·simp only [decide_eq_true_eq,decide_eq_false_iff_not] at h cV He
  simp only [cH,qo (show m < 2 ^ 64 by omega),BitVec.getLsbD_and,yc (show m < 64 by omega)]
  split
  ·congr 1; rw [decide_eq_decide]; omega
  ·have:decide ((j:Int) < (m:Int))=false:=by simp; omega
   rw [this,Bool.and_false]; exact BitVec.getLsbD_zero
theorem LZ (w:BitVec 64) (j:Nat):cH { (default:az) with bV:=w } j=w.getLsbD j:=by
 unfold cH
 split
 ·rfl
 ·rw [BitVec.getLsbD_of_ge w j (by omega)]; exact BitVec.getLsbD_zero
structure n2 (kind b:Int) (m:b6):Prop where
 off:m.hi=false→m=default
 Nn:kind=1→m.hi=true
 low:kind=1→ ∀ j,j < 128→cH m.db j=true→ (j:Int) < b
 Yk:kind=3→ ∀ j,j < 128→cH m.il j=true→ (j:Int) < b
 Yl:kind=3→ ∀ j,j < 128→cH m.db j=true→cH m.il j=true
 pre:0≤m.gY∧m.gY≤32
 No:kind=2→m.hi=true→1≤m.gY
 Np:kind≠2→m.gY=0
 fJ:kind≠3→m.il=default
 Ym:kind=3→m.hi=true→m.il≠default
 Yn:kind=4→m.hi=true→m.db.eb=m.oC.eb∧m.db.bV≤m.oC.bV
 Hf:kind=2→ ∀ j,j < 128→cH m.db j=true→32 - m.gY≤ (j:Int)∧j < 32
 C7:kind≠4→m.oC=default
theorem zm:(0:Int)≤0∧ (0:Int)≤32:=⟨Int.le_refl 0,by decide⟩
theorem Ew {kind b:Int} (h:kind≠1):n2 kind b default:=
 ⟨fun _=>rfl,fun k=>absurd k h,fun k=>absurd k h,fun _ j _ a3=>(by rw [show(default:b6).il=default from rfl,yn] at a3; cases a3),
  fun _ j _ a3=>(by rw [show(default:b6).db=default from rfl,yn] at a3; cases a3),
  zm,fun _ k=>(by cases k),fun _=>rfl,fun _=>rfl,fun _ k=>(by cases k),fun _ k=>(by cases k),
  fun _ j _ a3=>(by rw [show(default:b6).db=default from rfl,yn] at a3; cases a3),fun _=>rfl⟩
theorem RZ {a x y:BitVec 64} (J:a≤x) (ad:a≤y):a≤ub x y:=by
 unfold ub; split <;> assumption
theorem R0 {v:az} {b c:Int} (hb:0≤b∧b≤32) (aj:0≤c∧c < 256) (a3:∀ j,j < 128→cH v j=true→ (j:Int) < b):
 v.eb=0#64∧v.bV≤ub (v.bV + BitVec.ofInt 64 c) (((1#64) <<< (BitVec.ofInt 64 b).toNat) - (1#64)):=by
 have c6:v.eb=0#64:=by
  apply BitVec.eq_of_getLsbD_eq
  intro i aq
  have h:=a3 (64 + i) (by omega)
  unfold cH at h
  rw [if_neg (by omega),Nat.add_sub_cancel_left] at h
  rw [BitVec.getLsbD_zero]
  cases ak:v.eb.getLsbD i
  ·rfl
  ·have:=h ak; omega
 obtain⟨n,rfl⟩:=Int.eq_ofNat_of_zero_le hb.1
 have aL:n≤32:=by omega
 have G7:(BitVec.ofInt 64 (n:Int)).toNat=n:=qo (by omega)
 rw [G7]
 have L0:v.bV≤ ((1#64) <<< n) - 1#64:=by
  have hand:v.bV &&& (((1#64) <<< n) - 1#64)=v.bV:=by
   apply BitVec.eq_of_getLsbD_eq
   intro i aq
   rw [BitVec.getLsbD_and,yc (by omega)]
   have h:=a3 i (by omega)
   unfold cH at h
   rw [if_pos aq] at h
   cases ak:v.bV.getLsbD i
   ·rfl
   ·have:=h ak
    simp; omega
  rw [← hand]
  rw [BitVec.le_def,BitVec.toNat_and]
  exact Nat.and_le_right
 have sD:(((1#64) <<< n) - 1#64).toNat < 2 ^ 33:=by
  have C8:(((1#64) <<< n) - 1#64) &&& (((1#64) <<< 32) - 1#64)=(((1#64) <<< n) - 1#64):=by
   apply BitVec.eq_of_getLsbD_eq
   intro i aq
   rw [BitVec.getLsbD_and,yc (by omega),yc (by omega)]
   simp; omega
  rw [← C8,BitVec.toNat_and]
  exact Nat.lt_of_le_of_lt Nat.and_le_right (by decide)
 refine⟨c6,RZ ?_ L0⟩
 rw [BitVec.le_def] at L0 ⊢
 obtain⟨m,rfl⟩:=Int.eq_ofNat_of_zero_le aj.1
 rw [BitVec.toNat_add,qo (by omega),Nat.mod_eq_of_lt (by omega)]
 omega
theorem Ri (x:BitVec 64) {n:Int} (J:1≤n) (ad:n≤32) {i:Nat} (aq:i < 128)
 (a3:cH { (default:az) with bV:=x &&& ((((1#64) <<< (BitVec.ofInt 64 32).toNat) - (1#64)) - (((1#64) <<< (BitVec.ofInt 64 (bu (32 - n))).toNat) - (1#64))) } i=true):32 - n≤ (i:Int)∧i < 32:=by
 rw [LZ,BitVec.getLsbD_and,Bool.and_eq_true] at a3
 have ax:=a3.2
 obtain⟨k,au⟩:=Int.eq_ofNat_of_zero_le (show 0≤32 - n by omega)
 have dV:k < 32:=by omega
 have e:bu (32 - n)=(k:Int):=by rw [au,hO (by omega) (by omega)]
 rw [e,qo (by omega)] at ax
 have Hg:i < 64:=by
  rcases Nat.lt_or_ge i 64 with h | h
  ·exact h
  ·rw [BitVec.getLsbD_of_ge _ i h] at ax; cases ax
 have key:∀ (k:Fin 32) (i:Fin 64),((((1#64) <<< (BitVec.ofInt 64 32).toNat) - (1#64)) - (((1#64) <<< k.1) - (1#64))).getLsbD i.1=true→k.1≤i.1∧i.1 < 32:=by decide +kernel
 have:=key ⟨k,dV⟩ ⟨i,Hg⟩ ax
 simp only at this
 omega
theorem QK (c:bm) {s:aZ} (key:cu) (aj:g6 c) (h:dK s) (au:mJ key):
 bK (xq c s key) (fun r=>g6 r.2∧n2 key.c9 (ot key) r.1):=by
 obtain⟨j,aC,a0,bh,lO,Dp,Xa,dV⟩:=au
 have hb:ot key=aN qN j:=by unfold ot; rw [a0]; congr 1; omega
 unfold xq
 rw [a0]
 refine(Qg h aC).bind fun aB aE=> ?_
 rw [hb]
 subst aE
 generalize gI:aN qN j=b at *
 refine .bind (fO _ 256 aj (by omega)) fun aK ad=> .bind (fO _ 16 ad.1 (by omega)) fun bk ax=> .eq rfl (.bind (fO _ 16 ax.1 (by omega)) fun b1 aR=> .eq rfl ?_)
 refine .bind (Fo _ b (by omega) (by omega)) fun cm aW=> ?_
 refine .cond (fun q=> ?_) fun q=> ?_
 ·have q:key.c9=2:=by simpa using q
  refine .bind (fO _ 5 aR.1 (by omega)) fun cD bc=> .cond (fun _=> ?_) fun _=> .ret ⟨bc.1,Ew (by omega)⟩
  refine .bind (fO _ b bc.1 (by omega)) fun ct cn=> .bind (fO _ 5 cn.1 (by omega)) fun dy eo=> ?_
  refine .eq (tq eo.2.1 (by simpa using eo.2.2.1)) ?_
  have h8:1≤aN [b,8,16,1,bu (1 + ct.1)] dy.1.toNat∧aN [b,8,16,1,bu (1 + ct.1)] dy.1.toNat≤32:=by
   have b5:dy.1.toNat < [b,8,16,1,bu (1 + ct.1)].length:=by have:=eo.2.1; have:=eo.2.2.1; simp; omega
   have hm:=List.getElem_mem b5
   rw [← gf _ b5] at hm
   have hw:bu (1 + ct.1)=1 + ct.1:=hO (by have:=cn.2.1; omega) (by have:=cn.2.2.1; omega)
   have:=cn.2.1; have:=cn.2.2.1
   simp only [List.mem_cons,List.not_mem_nil,or_false] at hm
   rcases hm with hm | hm | hm | hm | hm <;> rw [hm] <;> omega
  unfold A9
  refine .eq rfl (.eq rfl (.eq rfl (.ret ⟨eo.1,fun h=>(by cases h),fun h=>(by omega),fun h=>by omega,fun h=>(by omega),fun h=>(by omega),⟨by have:=h8.1; show 0≤aN _ _; omega,h8.2⟩,fun _ _=>h8.1,fun h=>absurd q h,fun _=>rfl,fun h=>(by omega),fun h=>(by omega),fun _ i aq a3=> ?_,fun _=>rfl⟩)))
  have C8:b=32:=by rw [← gI,dV q]; rfl
  rw [C8] at h8 a3
  rw [C8]
  exact Ri _ h8.1 h8.2 aq a3
 refine .cond (fun eu=> ?_) fun eu=> ?_
 ·have eu:key.c9=3:=by simpa using eu
  refine .bind (fO _ 256 aR.1 (by omega)) fun dJ gC=> .bind (fO _ 5 gC.1 (by omega)) fun gv oi=> ?_
  refine .eq (tq oi.2.1 (by simpa using oi.2.2.1)) (.eq rfl (.bind (Fo _ b (by omega) (by omega)) fun gH uL=> ?_))
  refine .cond (fun Hh=> ?_) fun _=> .ret ⟨oi.1,Ew (by omega)⟩
  refine .eq rfl (.eq rfl (.ret ⟨oi.1,fun h=>(by cases h),fun h=>(by omega),fun h=>by omega,fun _ i aq a3=> ?_,fun _ i aq a3=> ?_,zm,fun h=>(by omega),fun _=>rfl,fun h=>absurd eu h,fun _ _ hd=> ?_,fun h=>(by omega),fun h=>(by omega),fun _=>rfl⟩))
  ·have nB:=uL i aq
   simp only at a3
   rw [a3] at nB
   have:=nB.symm
   simp only [Bool.and_eq_true,decide_eq_true_eq] at this
   exact this.2
  ·simp only at a3 ⊢
   rw [LZ,BitVec.getLsbD_and,Bool.and_eq_true] at a3
   have Hg:i < 64:=by
    rcases Nat.lt_or_ge i 64 with h | h
    ·exact h
    ·rw [BitVec.getLsbD_of_ge _ i h] at a3; cases a3.1
   unfold cH; rw [if_pos Hg]; exact a3.2
  ·have hd':gH=default:=hd
   rw [hd'] at Hh; simp at Hh
   exact Hh rfl
 refine .cond (fun lr=> ?_) fun lr=> ?_
 ·have lr:key.c9=4:=by simpa using lr
  refine .bind (fO _ 256 aR.1 (by omega)) fun gj nB=> .eq rfl (.bind (fO _ 5 nB.1 (by omega)) fun kR C5=> .eq rfl (.cond (fun _=> ?_) fun _=> .ret ⟨C5.1,Ew (by omega)⟩))
  have C9:=R0 (v:=cm) (b:=b) (c:=gj.1) ⟨by omega,Xa⟩ ⟨nB.2.1,nB.2.2.1⟩ fun i aq a3=>by
   have C6:=aW i aq
   rw [a3] at C6
   have:=C6.symm
   simp only [Bool.and_eq_true,decide_eq_true_eq] at this
   exact this.2
  exact .eq rfl (.ret ⟨C5.1,fun h=>(by cases h),fun h=>(by omega),fun h=>by omega,fun h=>(by omega),fun h=>(by omega),zm,fun h=>(by omega),fun _=>rfl,fun _=>rfl,fun h=>(by omega),fun _ _=>C9,fun h=>(by omega),fun h=>absurd lr h⟩)
 ·have aM:key.c9=1:=by
   simp only [beq_eq_false_iff_ne] at q eu lr
   omega
  refine .eq rfl (.ret ⟨aR.1,fun h=>(by cases h),fun _=>rfl,fun _ i aq a3=> ?_,fun h=>(by omega),fun h=>(by omega),zm,fun h=>(by omega),fun _=>rfl,fun _=>rfl,fun h=>(by omega),fun h=>(by omega),fun h=>(by omega),fun _=>rfl⟩)
  have nB:=aW i aq
  simp only at a3
  rw [a3] at nB
  have:=nB.symm
  simp only [Bool.and_eq_true,decide_eq_true_eq] at this
  exact this.2
structure iI (s:aZ) (k:Nat) (e:bo):Prop where
 kB:e.dD=(k:Int) + 1
 len:e.c8.length=(aN s.bA k).cv.length
 z7:∀ i,i < (aN s.bA k).cv.length→n2 (aN (aN s.bA k).cv i).c9 (ot (aN (aN s.bA k).cv i)) (aN e.c8 i)
 args:e.lZ.length≤10
 pri:(∀ i,i < (aN s.bA k).cv.length→ (aN (aN s.bA k).cv i).c9≤2)→e.ic=0
theorem Ex {α:Type} [Inhabited α] (l:List α) (x:α) (i:Nat):aN (l ++ [x]) i=if i=l.length then x else aN l i:=by
 unfold aN
 by_cases h:i=l.length
 ·subst h; simp
 ·rw [if_neg h]
  rcases Nat.lt_or_ge i l.length with J | J
  ·rw [List.getElem?_append_left J]
  ·rw [List.getElem?_eq_none (by simp; omega),List.getElem?_eq_none J]
theorem Ji (c:bm) {s:aZ} (x:Int) (aj:g6 c) (h:dK s):
 bK (u9 c s x) (fun r=>g6 r.2∧ ∃ k:Nat,k < 4∧sZ x (s.bA.length:Int)=some (k:Int)∧iI s k r.1):=by
 unfold u9
 obtain⟨aB,aE,bB,J⟩:=Kc x (s.bA.length:Int) (by rw [h.j6]; omega) (by rw [h.j6]; omega)
 obtain⟨k,rfl⟩:=Int.eq_ofNat_of_zero_le bB
 have au:k < 4:=by have:=h.j6; omega
 obtain⟨t1,⟨t2,t3⟩,t4,⟨t5,t6⟩,t7⟩:=h.kB au
 refine .eq aE (.idx rfl (by have:=h.j6; omega) ?_)
 refine bK.loop (aN s.bA k).cv.length (fun i st=>st.1=(i:Int)∧st.2.1.dD=(k:Int) + 1∧st.2.2.1.length=i∧g6 st.2.2.2∧
  (∀ j,j < i→n2 (aN (aN s.bA k).cv j).c9 (ot (aN (aN s.bA k).cv j)) (aN st.2.2.1 j))∧ ((∀ j,j < i→ (aN (aN s.bA k).cv j).c9≤2)→st.2.1.ic=0)) (by omega) ⟨rfl,t1,rfl,aj,fun j aC=>by omega,fun _=>rfl⟩ (fun i st aq hs=> ?_) (fun st hs=> ?_)
 ·obtain⟨Aq,e,ms,Ap⟩:=st; obtain⟨bd,ej,hS,lQ,uW,Ar⟩:=hs
  simp only at bd ej hS lQ uW Ar; subst bd
  refine bK.cond (fun _=> ?_) (fun h=>by simp at h; omega)
  refine .idx rfl aq (.bind (QK _ _ lQ h (t4 _ (by rw [gf _ aq]; exact List.getElem_mem aq))) fun aK ad=> .eq (kh _ _ (by simp; omega) (by omega)) (.eq rfl ?_))
  refine .bind (P:=fun m=>m.1.dD=(k:Int) + 1∧g6 m.2∧ ((aN (aN s.bA k).cv i).c9≤2→m.1.ic=e.ic)) (.cond (fun dg=> .bind (fO _ 5 ad.1 (by omega)) fun b1 aR=> .eq rfl (.ret ⟨ej,aR.1,fun h=>by simp at dg; omega⟩)) (fun _=> .ret ⟨ej,ad.1,fun _=>rfl⟩)) fun bH cM=> ?_
  refine .ret ⟨iG (by omega),cM.1,by simp; omega,cM.2.1,fun j aC=> ?_,fun h=> ?_⟩
  ·simp only [Ex]
   by_cases zC:j=ms.length
   ·rw [if_pos zC]; rw [zC,hS]; exact ad.2
   ·rw [if_neg zC]; exact uW j (by omega)
  ·exact(cM.2.2 (h i (by omega))).trans (Ar fun j aC=>h j (by omega))
 ·obtain⟨Aq,e,ms,Ap⟩:=st; obtain⟨bd,ej,hS,lQ,uW,Ar⟩:=hs
  simp only at bd ej hS lQ uW Ar; subst bd
  refine⟨_,by simp; rfl,?_⟩
  refine .bind (fO _ _ lQ (by omega)) fun cm aW=> ?_
  refine .eq (tq aW.2.1 aW.2.2.1) (.eq rfl ?_)
  have bg:1≤aN (aN s.bA k).dC cm.1.toNat∧aN (aN s.bA k).dC cm.1.toNat≤6:=t7 _ (by
   have b5:cm.1.toNat < (aN s.bA k).dC.length:=by have:=aW.2.1; have:=aW.2.2.1; omega
   rw [gf _ b5]; exact List.getElem_mem b5)
  obtain⟨a,fk⟩:=Int.eq_ofNat_of_zero_le (show 0≤aN (aN s.bA k).dC cm.1.toNat - 1 by omega)
  have Xb:aN (aN s.bA k).dC cm.1.toNat=(a:Int) + 1:=by omega
  simp only [Xb]
  refine .bind (PY h (show a < 6 by omega)) fun cD bc=> ?_
  obtain⟨a8,bn⟩:=h.act (show a < 6 by omega)
  rw [← bc] at bn
  have hp:cD.jI.length≤10∧ ∀ i,i < cD.jI.length→0≤ (aN cD.jI i).e2∧ (aN cD.jI i).e2 < 1000:=by
   have hq:∀ l∈sj,l.length≤10∧ ∀ b∈l,0≤b∧b < 1000:=by decide
   have hm:aN sj a∈sj:=by rw [gf sj (show a < sj.length by simp [sj]; omega)]; exact List.getElem_mem _
   obtain⟨aM,eK⟩:=hq _ hm
   rw [← bn] at aM eK
   refine⟨by simpa using aM,fun i aq=>eK _ ?_⟩
   rw [gf _ aq]
   exact List.mem_map.2 ⟨_,List.getElem_mem aq,rfl⟩
  refine bK.loop cD.jI.length (fun i st=>st.1=(i:Int)∧st.2.1.dD=(k:Int) + 1∧st.2.2.1.length=i∧g6 st.2.2.2∧st.2.1.ic=e.ic) (by omega) ⟨rfl,ej,rfl,aW.1,rfl⟩ (fun i st aq hs=> ?_) (fun st hs=> ?_)
  ·obtain⟨Aq,e',vs,Xc⟩:=st; obtain⟨f2,f3,f4,f5,f6⟩:=hs
   simp only at f2 f3 f4 f5 f6; subst f2
   refine bK.cond (fun _=> ?_) (fun h=>by simp at h; omega)
   refine .idx rfl aq (.bind (fO _ 256 f5 (by omega)) fun ct cn=> .eq rfl (.bind (Fo _ _ (hp.2 i aq).1 (hp.2 i aq).2) fun dy eo=> .eq (kh _ _ (by have:=hp.1; simp; omega) (by omega)) (.ret ⟨iG (by have:=hp.1; omega),f3,by simp; omega,cn.1,f6⟩)))
  ·obtain⟨Aq,e',vs,Xc⟩:=st; obtain⟨f2,f3,f4,f5,f6⟩:=hs
   simp only at f2 f3 f4 f5 f6; subst f2
   refine⟨_,by simp; rfl,?_⟩
   exact .eq rfl (.ret ⟨f5,k,au,aE,f3,hS,uW,by show vs.length≤10; have:=hp.1; omega,fun h=>f6.trans (Ar h)⟩)
end Go.Proofs.YtmnggbjcnoffeaaGreat
namespace Go.Proofs.YtmnggbjcnoffeaaGreat
open Go Gv
set_option linter.unusedVariables false
set_option linter.unusedSimpArgs false
set_option maxRecDepth 100000
structure X0 (s:aZ) (r:Vector (List Int) 6):Prop where
 fields:cg r 0=s.gy.map (·.bC)
 headers:cg r 1=s.rI.map (·.bC)
 SF:cg r 2=s.td.map (·.bC)
 E4:cg r 3=s.dC.map (·.bC)
 tables:cg r 4=s.bA.map (·.bC)
 Ut:cg r 5=s.m9.map (·.bC)
end Go.Proofs.YtmnggbjcnoffeaaGreat
namespace Go.Proofs.YtmnggbjcnoffeaaGreat
open Go Gv
set_option linter.unusedVariables false
set_option linter.unusedSimpArgs false
theorem ON {xs:List bw} {f:bw→Option Bool} {g:bw→Bool} (a0:∀ x∈xs,f x=some (g x)) (ar:xs.length < 2 ^ 62):
 bK (wZ xs f) (fun r=>(r= -1∧ ∀ x∈xs,g x=false)∨ ∃ i:Nat,i < xs.length∧r=i∧g (aN xs i)=true∧ ∀ j,j < i→g (aN xs j)=false):=by
 unfold wZ
 refine bK.loop xs.length (fun k s=>s=(k:Int)∧ ∀ j,j < k→g (aN xs j)=false) (by omega) ⟨rfl,fun j aC=>by omega⟩ (fun k s au aq=> ?_) (fun s aq=> ?_)
 ·obtain⟨aE,bd⟩:=aq; subst aE
  refine bK.cond (fun _=> ?_) (fun h=>by simp at h; omega)
  refine .idx rfl au (.eq (a0 _ (by rw [gf xs au]; exact List.getElem_mem au)) (.cond (fun h=> .ret ?_) (fun h=> .ret ⟨iG (by omega),fun j aC=> ?_⟩)))
  ·exact .ret (.inr ⟨k,au,rfl,h,bd⟩)
  ·by_cases ra:j=k
   ·subst ra; exact h
   ·exact bd j (by omega)
 ·obtain⟨aE,bd⟩:=aq; subst aE
  refine⟨_,by simp; rfl,?_⟩
  refine .ret (.inl ⟨rfl,fun x ak=> ?_⟩)
  obtain⟨j,aC,rfl⟩:=List.mem_iff_getElem.1 ak
  rw [← gf xs aC]; exact bd j aC
end Go.Proofs.YtmnggbjcnoffeaaGreat
namespace Go.Proofs.YtmnggbjcnoffeaaGreat
open Go Gv
set_option linter.unusedVariables false
set_option linter.unusedSimpArgs false
theorem OO {xs:List e3} {f:e3→Option Bool} {g:e3→Bool} (a0:∀ x∈xs,f x=some (g x)) (ar:xs.length < 2 ^ 62):
 bK (w0 xs f) (fun r=>(r= -1∧ ∀ x∈xs,g x=false)∨ ∃ i:Nat,i < xs.length∧r=i∧g (aN xs i)=true∧ ∀ j,j < i→g (aN xs j)=false):=by
 unfold w0
 refine bK.loop xs.length (fun k s=>s=(k:Int)∧ ∀ j,j < k→g (aN xs j)=false) (by omega) ⟨rfl,fun j aC=>by omega⟩ (fun k s au aq=> ?_) (fun s aq=> ?_)
 ·obtain⟨aE,bd⟩:=aq; subst aE
  refine bK.cond (fun _=> ?_) (fun h=>by simp at h; omega)
  refine .idx rfl au (.eq (a0 _ (by rw [gf xs au]; exact List.getElem_mem au)) (.cond (fun h=> .ret ?_) (fun h=> .ret ⟨iG (by omega),fun j aC=> ?_⟩)))
  ·exact .ret (.inr ⟨k,au,rfl,h,bd⟩)
  ·by_cases ra:j=k
   ·subst ra; exact h
   ·exact bd j (by omega)
 ·obtain⟨aE,bd⟩:=aq; subst aE
  refine⟨_,by simp; rfl,?_⟩
  refine .ret (.inl ⟨rfl,fun x ak=> ?_⟩)
  obtain⟨j,aC,rfl⟩:=List.mem_iff_getElem.1 ak
  rw [← gf xs aC]; exact bd j aC
end Go.Proofs.YtmnggbjcnoffeaaGreat
namespace Go.Proofs.YtmnggbjcnoffeaaGreat
open Go Gv
set_option linter.unusedVariables false
set_option linter.unusedSimpArgs false
set_option maxRecDepth 100000
theorem Ea {s:aZ} (h:dK s) {k:Nat} (au:k < 4):bK (sU s ((k:Int) + 1)) (fun r=>r=(k:Int)):=by
 unfold sU
 refine(ON (g:=fun t=>t.bC ==(k:Int) + 1) (fun x ak=>rfl) (by rw [h.j6]; omega)).bind fun r aQ=> .ret ?_
 have dV:k < s.bA.length:=by rw [h.j6]; exact au
 rcases aQ with⟨_,aQ⟩ | ⟨i,J,ad,ax,aR⟩
 ·have:=aQ (aN s.bA k) (by rw [gf _ dV]; exact List.getElem_mem dV)
  simp only [(h.kB au).1,beq_self_eq_true] at this; cases this
 ·have aW:=(h.kB (show i < 4 by have:=h.j6; omega)).1
  simp only [aW,beq_iff_eq] at ax; omega
theorem PZ {s:aZ} (h:dK s) {k:Nat} (au:k < 9):bK (xF s ((k:Int) + 1)) (fun r=>r=(k:Int)):=by
 unfold xF
 refine(OO (g:=fun t=>t.bC ==(k:Int) + 1) (fun x ak=>rfl) (by rw [h.wu]; omega)).bind fun r aQ=> .ret ?_
 have dV:k < s.gy.length:=by rw [h.wu]; exact au
 rcases aQ with⟨_,aQ⟩ | ⟨i,J,ad,ax,aR⟩
 ·have:=aQ (aN s.gy k) (by rw [gf _ dV]; exact List.getElem_mem dV)
  simp only [(h.wN au).1,beq_self_eq_true] at this; cases this
 ·have aW:=(h.wN (show i < 9 by have:=h.wu; omega)).1
  simp only [aW,beq_iff_eq] at ax; omega
theorem UA {key:cu} {j:Nat} (h:key.gq=(j:Int) + 1):ot key=aN qN j:=by unfold ot; rw [h]; congr 1; omega
def lead (n k:Int) (j:Nat):Bool:=decide ((j:Int) < n) && decide (n - max 0 (min k n)≤ (j:Int))
theorem Qh (n k:Int) (bB:0≤n) (J:n≤128):bK (xH n k) (fun r=> ∀ j,j < 128→cH r j=lead n k j):=by
 unfold xH vn
 have e:min (max 0 n) 128=n:=by omega
 rw [e]
 have bd:bu (n - min (max 0 k) n)=n - min (max 0 k) n:=hO (by omega) (by omega)
 refine .eq rfl ((Kd n).bind fun a bg=> ?_)
 rw [bd]
 refine(Kd _).bind fun b hb=>(RY a b).bind fun r aQ=> .ret fun j aC=> ?_
 rw [aQ j aC,bg j aC,hb j aC]
 unfold lead
 by_cases p:(j:Int) < n
 ·rw [decide_eq_true p]
  by_cases q:(j:Int) < n - min (max 0 k) n
  ·rw [decide_eq_true q,decide_eq_false (by omega)]; rfl
  ·rw [decide_eq_false q,decide_eq_true (by omega)]; rfl
 ·rw [decide_eq_false p,decide_eq_false (by omega)]; rfl
theorem mJ.ot {key:cu} (h:mJ key):4≤Go.Proofs.YtmnggbjcnoffeaaGreat.ot key∧Go.Proofs.YtmnggbjcnoffeaaGreat.ot key≤32:=by
 obtain⟨j,aC,a0,_,_,J,ad,_⟩:=h
 rw [UA a0]; exact⟨J,ad⟩
end Go.Proofs.YtmnggbjcnoffeaaGreat
namespace Go.Proofs.YtmnggbjcnoffeaaGreat
open Go Gv
set_option linter.unusedVariables false
set_option linter.unusedSimpArgs false
set_option maxRecDepth 100000
end Go.Proofs.YtmnggbjcnoffeaaGreat
namespace Go.Proofs.YtmnggbjcnoffeaaGreat
open Go Gv
set_option linter.unusedVariables false
set_option linter.unusedSimpArgs false
set_option maxRecDepth 100000
def Nq (a b:az):Bool:=decide (a.eb < b.eb) || (a.eb ==b.eb && decide (a.bV < b.bV))
end Go.Proofs.YtmnggbjcnoffeaaGreat
namespace Gv
set_option linter.unusedVariables false
structure rb {α:Type} (b:α→α→Bool):Prop where
 asymm:∀ x y,b x y=true→b y x=false
 trans:∀ x y z,b x y=true→b y z=true→b x z=true
def ins {α:Type} (b:α→α→Bool):List α→α→List α
 | [],x=> [x]
 | a :: l,x=>if b a x=true then a :: ins b l x else x :: a :: l
def gL {α:Type} (b:α→α→Bool) (l:List α):List α:=l.foldl (ins b) []
def jj {α:Type} (b:α→α→Bool):List α→α→Nat
 | [],_=>0
 | a :: l,x=>if b a x=true then jj b l x + 1 else 0
def re {α:Type} (b:α→α→Bool) (x y:α):Prop:=b x y=true∨b y x=true
variable {α:Type} {b:α→α→Bool}
theorem JC (a:α) (l:List α) (x:α):ins b (a :: l) x=if b a x=true then a :: ins b l x else x :: a :: l:=rfl
theorem Fp:∀ {l:List α} {x:α},jj b l x≤l.length
 | [],_=>Nat.le_refl _
 | a :: l,x=>by
   have:=Fp (l:=l) (x:=x)
   unfold jj; split <;> simp <;> omega
theorem KS:∀ (l:List α) (x:α),ins b l x=l.take (jj b l x) ++ x :: l.drop (jj b l x)
 | [],x=>rfl
 | a :: l,x=>by
   unfold ins jj
   split
   ·rw [KS l x]; rfl
   ·rfl
theorem EL:∀ (l:List α) (x:α),(ins b l x).Perm (x :: l)
 | [],x=>List.Perm.refl _
 | a :: l,x=>by
   unfold ins
   split
   ·exact((EL l x).cons a).trans (List.Perm.swap x a l)
   ·exact List.Perm.refl _
theorem R1 {l:List α} {x y:α} :y∈ins b l x↔y=x∨y∈l:=by
 rw [(EL l x).mem_iff]; simp
theorem BD (l:List α) (x:α):gL b (l ++ [x])=ins b (gL b l) x:=by
 simp [gL,List.foldl_append]
theorem E5 (l:List α):(gL b l).Perm l:=by
 have key:∀ (l m:List α),(l.foldl (ins b) m).Perm (m ++ l):=by
  intro l
  induction l with
  | nil=>intro m; simp
  | cons a l bz=>
    intro m
    refine(bz (ins b m a)).trans ?_
    refine((EL m a).append_right l).trans ?_
    exact(List.perm_middle (a:=a) (l₁:=m) (l₂:=l)).symm
 exact key l []
theorem rX {l:List α} {y:α} :y∈gL b l↔y∈l:=(E5 l).mem_iff
theorem SH {l:List α} :(gL b l).length=l.length:=(E5 l).length_eq
theorem IY (hb:rb b):∀ {l:List α} {x:α},l.Pairwise (fun x y=>b x y=true)→ (∀ a∈l,re b a x)→ (ins b l x).Pairwise (fun x y=>b x y=true)
 | [],x,_,_=>by simp [ins]
 | a :: l,x,hs,bI=>by
   obtain⟨J,ad⟩:=List.pairwise_cons.1 hs
   unfold ins
   split
   ·rename_i p1
    refine List.pairwise_cons.2 ⟨fun c aj=> ?_,IY hb ad fun a bg=>bI a (by simp [bg])⟩
    rcases R1.1 aj with rfl | aj
    ·exact p1
    ·exact J c aj
   ·rename_i p1
    have z8:b x a=true:=(bI a (by simp)).resolve_left p1
    refine List.pairwise_cons.2 ⟨fun c aj=> ?_,hs⟩
    rcases List.mem_cons.1 aj with rfl | aj
    ·exact z8
    ·exact hb.trans _ _ _ z8 (J c aj)
theorem QL {l:List α} {x:α} (h:∀ c∈l,b c x=false):ins b l x=x :: l:=by
 cases l with
 | nil=>rfl
 | cons a l=>unfold ins; rw [if_neg (by simp [h a (by simp)])]
theorem IZ (hb:rb b) {q:α→Bool} :∀ {l:List α} {x:α},l.Pairwise (fun x y=>b x y=true)→ (∀ a∈l,re b a x)→
 (ins b l x).filter q=if q x=true then ins b (l.filter q) x else l.filter q
 | [],x,_,_=>by
   show [x].filter q=if q x=true then [x] else []
   by_cases hp:q x=true
   ·simp [hp]
   ·simp only [Bool.not_eq_true] at hp; simp [hp]
 | a :: l,x,hs,bI=>by
   obtain⟨J,ad⟩:=List.pairwise_cons.1 hs
   have bz:=IZ hb (q:=q) (x:=x) ad fun a bg=>bI a (by simp [bg])
   rw [JC]
   by_cases p1:b a x=true
   ·rw [if_pos p1]
    by_cases nA:q a=true
    ·rw [List.filter_cons_of_pos nA,List.filter_cons_of_pos nA,bz]
     by_cases hq:q x=true
     ·rw [if_pos hq,if_pos hq,JC,if_pos p1]
     ·rw [if_neg hq,if_neg hq]
    ·rw [List.filter_cons_of_neg nA,List.filter_cons_of_neg nA,bz]
   ·rw [if_neg p1]
    have z8:b x a=true:=(bI a (by simp)).resolve_left p1
    by_cases hq:q x=true
    ·rw [List.filter_cons_of_pos hq,if_pos hq,QL]
     intro c aj
     have mi:=(List.mem_filter.1 aj).1
     refine hb.asymm _ _ ?_
     rcases List.mem_cons.1 mi with rfl | mi
     ·exact z8
     ·exact hb.trans _ _ _ z8 (J c mi)
    ·rw [List.filter_cons_of_neg hq,if_neg hq]
def oZ (b:α→α→Bool) (l:List α):Prop:=l.Pairwise (re b)
theorem re.symm {x y:α} (h:re b x y):re b y x:=h.elim .inr .inl
theorem oZ.snoc {l:List α} {x:α} (h:oZ b (l ++ [x])):oZ b l∧ ∀ a∈l,re b a x:=by
 unfold oZ at *
 rw [List.pairwise_append] at h
 exact⟨h.1,fun a bg=>h.2.2 a bg x (by simp)⟩
theorem oZ.perm {l m:List α} (h:oZ b l) (p:l.Perm m):oZ b m:=(p.pairwise_iff fun h=>h.symm).1 h
theorem JD {P:List α→Prop} (bB:P []) (J:∀ l x,P l→P (l ++ [x])) (l:List α):P l:=by
 have:∀ r:List α,P r.reverse:=by
  intro r
  induction r with
  | nil=>exact bB
  | cons a r bz=>rw [List.reverse_cons]; exact J _ _ bz
 have:=this l.reverse
 rwa [List.reverse_reverse] at this
theorem Ey (hb:rb b) {l:List α} (h:oZ b l):(gL b l).Pairwise (fun x y=>b x y=true):=by
 induction l using JD with
 | bB=>exact List.Pairwise.nil
 | J l x bz=>
   obtain⟨J,ad⟩:=h.snoc
   rw [BD]
   exact IY hb (bz J) fun a bg=>ad a (rX.1 bg)
theorem QM (hb:rb b) {q:α→Bool} {l:List α} (h:oZ b l):(gL b l).filter q=gL b (l.filter q):=by
 induction l using JD with
 | bB=>rfl
 | J l x bz=>
   obtain⟨J,ad⟩:=h.snoc
   rw [BD,IZ hb (Ey hb J) fun a bg=>ad a (rX.1 bg),bz J,List.filter_append]
   by_cases hq:q x=true
   ·rw [if_pos hq,List.filter_cons_of_pos hq,List.filter_nil,BD]
   ·rw [if_neg hq,List.filter_cons_of_neg hq,List.filter_nil,List.append_nil]
theorem Fq [Inhabited α] (hb:rb b):∀ {l:List α} {x:α} {k:Nat},l.Pairwise (fun x y=>b x y=true)→k < l.length→ (b (aN l k) x=true↔k < jj b l x)
 | [],x,k,_,au=>by simp at au
 | a :: l,x,k,hs,au=>by
   obtain⟨J,ad⟩:=List.pairwise_cons.1 hs
   unfold jj
   cases k with
   | zero=>
     have:aN (a :: l) 0=a:=rfl
     rw [this]
     split <;> simp_all
   | succ k=>
     have iy:k < l.length:=by simpa using au
     have he:aN (a :: l) (k + 1)=aN l k:=by rw [gf _ au,gf _ iy]; rfl
     rw [he,Fq hb ad iy]
     split
     ·omega
     ·rename_i p1
      constructor
      ·intro b5
       have aW:=(Fq hb ad iy).2 b5
       have bc:=J (aN l k) (by rw [gf _ iy]; exact List.getElem_mem _)
       exact absurd (hb.trans _ _ _ bc aW) p1
      ·intro h; omega
end Gv
namespace Go.Proofs.YtmnggbjcnoffeaaGreat
open Go Gv
set_option linter.unusedVariables false
set_option linter.unusedSimpArgs false
theorem O2 {xs:List cu} {f:cu→Option Bool} {g:cu→Bool} (a0:∀ x∈xs,f x=some (g x)) (ar:xs.length < 2 ^ 62):
 bK (w1 xs f) (fun r=>(r= -1∧ ∀ x∈xs,g x=false)∨ ∃ i:Nat,i < xs.length∧r=i∧g (aN xs i)=true∧ ∀ j,j < i→g (aN xs j)=false):=by
 unfold w1
 refine bK.loop xs.length (fun k s=>s=(k:Int)∧ ∀ j,j < k→g (aN xs j)=false) (by omega) ⟨rfl,fun j aC=>by omega⟩ (fun k s au aq=> ?_) (fun s aq=> ?_)
 ·obtain⟨aE,bd⟩:=aq; subst aE
  refine bK.cond (fun _=> ?_) (fun h=>by simp at h; omega)
  refine .idx rfl au (.eq (a0 _ (by rw [gf xs au]; exact List.getElem_mem au)) (.cond (fun h=> .ret ?_) (fun h=> .ret ⟨iG (by omega),fun j aC=> ?_⟩)))
  ·exact .ret (.inr ⟨k,au,rfl,h,bd⟩)
  ·by_cases ra:j=k
   ·subst ra; exact h
   ·exact bd j (by omega)
 ·obtain⟨aE,bd⟩:=aq; subst aE
  refine⟨_,by simp; rfl,?_⟩
  refine .ret (.inl ⟨rfl,fun x ak=> ?_⟩)
  obtain⟨j,aC,rfl⟩:=List.mem_iff_getElem.1 ak
  rw [← gf xs aC]; exact bd j aC
end Go.Proofs.YtmnggbjcnoffeaaGreat
namespace Go.Proofs.YtmnggbjcnoffeaaGreat
open Go Gv
set_option linter.unusedVariables false
set_option linter.unusedSimpArgs false
set_option maxRecDepth 100000
theorem _root_.Gv.bK.get {β:Type} {m:Option β} {v:β} (h:bK m (fun r=>r=v)):m=some v:=by
 obtain⟨r,J,rfl⟩:=h; exact J
def Xd (kind b:Int) (m:b6) (x:az):Bool:=
 if m.hi=false then true
 else if kind=1 then decide (x=m.db)
 else if kind=2 then(List.range 128).all fun j=> !lead b m.gY j || (cH x j ==cH m.db j)
 else if kind=3 then decide (zl x m.il=m.db)
 else !Nq x m.db && !Nq m.oC x
def mt (s:aZ) (k:Nat) (p:Vector az 4) (e:bo):Bool:=
 (List.range (aN s.bA k).cv.length).all fun i=>Xd (aN (aN s.bA k).cv i).c9 (ot (aN (aN s.bA k).cv i)) (aN e.c8 i) (cg p i)
theorem QN {s:aZ} (h:dK s) {k:Nat} (au:k < 4) {e:bo} (he:e.dD=(k:Int) + 1):xL s e=some (aN s.bA k,true):=by
 refine bK.get ?_
 unfold xL
 rw [he]
 refine(Ea h au).bind fun r aQ=> ?_
 subst aQ
 rw [show decide ((k:Int) < 0)=false from decide_eq_false (by omega),cond_false]
 exact .idx rfl (by have:=h.j6; omega) (.ret rfl)
def rf:List cu→List b6→Int
 | key :: aJ,m :: ms=>if key.c9=2 then m.gY else rf aJ ms
 | _,_=>0
theorem KT:∀ {aJ:List cu} {ms:List b6} {i:Nat},ms.length=aJ.length→i < aJ.length→ (aN aJ i).c9=2→ (∀ j,j < i→ (aN aJ j).c9≠2)→rf aJ ms=(aN ms i).gY
 | [],_,i,_,aq,_,_=>by simp at aq
 | key :: aJ,[],i,ar,_,_,_=>by simp at ar
 | key :: aJ,m :: ms,0,_,_,ad,_=>by
   have:(aN (key :: aJ) 0)=key:=rfl
   rw [this] at ad
   unfold rf; rw [if_pos ad]; rfl
 | key :: aJ,m :: ms,i + 1,ar,aq,ad,aL=>by
   have bB:=aL 0 (by omega)
   have:(aN (key :: aJ) 0)=key:=rfl
   rw [this] at bB
   unfold rf; rw [if_neg bB]
   have bx:∀ {β:Type} [Inhabited β] (x:β) (l:List β) (n:Nat),aN (x :: l) (n + 1)=aN l n:=fun x l n=>by simp [aN]
   rw [bx] at ad ⊢
   exact KT (by simpa using ar) (by simpa using aq) ad fun j aC=>by have:=aL (j + 1) (by omega); rwa [bx] at this
theorem KU:∀ {aJ:List cu} {ms:List b6},(∀ key∈aJ,key.c9≠2)→rf aJ ms=0
 | [],_,_=>by unfold rf; rfl
 | key :: aJ,[],_=>by unfold rf; rfl
 | key :: aJ,m :: ms,aL=>by
   unfold rf; rw [if_neg (aL key (by simp))]
   exact KU fun k au=>aL k (by simp [au])
def wX (s:aZ) (k:Nat) (e:bo):Int:=rf (aN s.bA k).cv e.c8
theorem I0 {s:aZ} (h:dK s) {k:Nat} (au:k < 4) {e:bo} (he:iI s k e):vo s e=some (wX s k e):=by
 obtain⟨t1,⟨t2,t3⟩,t4,_⟩:=h.kB au
 have hm:=he.len
 refine bK.get ?_
 unfold vo wX
 refine .eq (QN h au he.kB) ?_
 simp only
 refine(O2 (g:=fun key=>key.c9 ==2) (fun x ak=>rfl) (by omega)).bind fun r aQ=> .eq rfl ?_
 rcases aQ with⟨rfl,aQ⟩ | ⟨i,J,rfl,ax,aR⟩
 ·refine .cond (fun _=> .ret ?_) (fun h=>by simp at h)
  rw [KU fun key jP=>by simpa using aQ key jP]
 ·have dg:(!true || decide ((i:Int) < 0) || decide ((i:Int)≥ (e.c8.length:Int)))=false:=by simp; omega
  rw [dg,cond_false]
  refine .idx rfl (by omega) (.ret ?_)
  rw [KT hm J (by simpa using ax) fun j aC=>by simpa using aR j aC]
def hc (s:aZ) (k:Nat) (a c:aH):Bool:=
 decide (c.bQ.ic < a.bQ.ic∨ (a.bQ.ic=c.bQ.ic∧ (wX s k c.bQ < wX s k a.bQ∨ (wX s k a.bQ=wX s k c.bQ∧c.b8 < a.b8))))
theorem BS (s:aZ) (k:Nat):rb (hc s k) where
 asymm x y h:=by
  unfold hc at *
  rw [decide_eq_true_eq] at h
  rw [decide_eq_false_iff_not]; omega
 trans x y z h cV:=by
  unfold hc at *
  rw [decide_eq_true_eq] at *
  omega
theorem SI {s:aZ} {k:Nat} {a c:aH} (h:a.b8≠c.b8):re (hc s k) a c:=by
 unfold re hc
 rw [decide_eq_true_eq,decide_eq_true_eq]; omega
def HU (x y:Int):Int:=if x < y then -1 else if y < x then 1 else 0
theorem Fs (x y:Int):sT x y=some (HU x y):=by
 unfold sT xG HU
 have:∀ z:Int,(z !=z)=false:=fun z=>by simp
 rw [this,this]
 simp only [Option.bind_some,cond_false]
 by_cases J:x < y
 ·simp [J]
 ·by_cases ad:y < x
  ·simp [J,ad]
  ·simp [J,ad]
theorem Rj (a c d:Int):xM [a,c,d]=some (if a≠0 then a else if c≠0 then c else d):=by
 refine bK.get ?_
 unfold xM
 refine bK.loop 3 (fun i st=>st=(i:Int)∧ ∀ j,j < i→aN [a,c,d] j=0) (by omega) ⟨rfl,fun j aC=>by omega⟩ (fun i st aq hs=> ?_) (fun st hs=> ?_)
 ·obtain⟨rfl,hs⟩:=hs
  refine .cond (fun _=> ?_) (fun h=>by simp at h; omega)
  refine .idx rfl (by simpa using aq) (.cond (fun aj=> .ret ?_) fun aj=> .ret ⟨iG (by omega),fun j aC=> ?_⟩)
  ·simp only [Sum.elim_inr]
   refine .ret ?_
   have bB:=hs 0
   have J:=hs 1
   rcases (show i=0∨i=1∨i=2 by omega) with rfl | rfl | rfl
   ·have:a≠0:=by simpa [aN] using aj
    rw [if_pos this]; rfl
   ·have:c≠0:=by simpa [aN] using aj
    have Hi:a=0:=by simpa [aN] using bB (by omega)
    rw [if_neg (by simpa using Hi),if_pos this]; rfl
   ·have Hi:a=0:=by simpa [aN] using bB (by omega)
    have Xe:c=0:=by simpa [aN] using J (by omega)
    rw [if_neg (by simpa using Hi),if_neg (by simpa using Xe)]; rfl
  ·by_cases hx:j=i
   ·subst hx; simpa using aj
   ·exact hs j (by omega)
 ·obtain⟨rfl,hs⟩:=hs
  refine⟨_,rfl,?_⟩
  simp only [Sum.elim_inl]
  refine .ret ?_
  have bB:a=0:=by simpa [aN] using hs 0 (by omega)
  have J:c=0:=by simpa [aN] using hs 1 (by omega)
  have ad:d=0:=by simpa [aN] using hs 2 (by omega)
  simp [bB,J,ad]
theorem Jj {s:aZ} (h:dK s) {k:Nat} (au:k < 4) {a c:aH} (bg:iI s k a.bQ) (aj:iI s k c.bQ):vq s a c=some (hc s k a c):=by
 unfold vq hc
 rw [Fs,Option.bind_some,I0 h au bg,Option.bind_some,I0 h au aj,Option.bind_some,Fs,Option.bind_some,Fs,Option.bind_some,Rj,Option.bind_some]
 congr 1
 rw [decide_eq_decide]
 unfold HU
 split <;> split <;> (repeat' split) <;> omega
end Go.Proofs.YtmnggbjcnoffeaaGreat
namespace Go.Proofs.YtmnggbjcnoffeaaGreat
open Go Gv
set_option linter.unusedVariables false
set_option linter.unusedSimpArgs false
theorem Oa {xs:List aH} {f:aH→Option Bool} {g:aH→Bool} (a0:∀ x∈xs,f x=some (g x)) (ar:xs.length < 2 ^ 62):
 bK (uZ xs f) (fun r=>(r= -1∧ ∀ x∈xs,g x=false)∨ ∃ i:Nat,i < xs.length∧r=i∧g (aN xs i)=true∧ ∀ j,j < i→g (aN xs j)=false):=by
 unfold uZ
 refine bK.loop xs.length (fun k s=>s=(k:Int)∧ ∀ j,j < k→g (aN xs j)=false) (by omega) ⟨rfl,fun j aC=>by omega⟩ (fun k s au aq=> ?_) (fun s aq=> ?_)
 ·obtain⟨aE,bd⟩:=aq; subst aE
  refine bK.cond (fun _=> ?_) (fun h=>by simp at h; omega)
  refine .idx rfl au (.eq (a0 _ (by rw [gf xs au]; exact List.getElem_mem au)) (.cond (fun h=> .ret ?_) (fun h=> .ret ⟨iG (by omega),fun j aC=> ?_⟩)))
  ·exact .ret (.inr ⟨k,au,rfl,h,bd⟩)
  ·by_cases ra:j=k
   ·subst ra; exact h
   ·exact bd j (by omega)
 ·obtain⟨aE,bd⟩:=aq; subst aE
  refine⟨_,by simp; rfl,?_⟩
  refine .ret (.inl ⟨rfl,fun x ak=> ?_⟩)
  obtain⟨j,aC,rfl⟩:=List.mem_iff_getElem.1 ak
  rw [← gf xs aC]; exact bd j aC
end Go.Proofs.YtmnggbjcnoffeaaGreat
namespace Go.Proofs.YtmnggbjcnoffeaaGreat
open Go Gv
set_option linter.unusedVariables false
set_option linter.unusedSimpArgs false
set_option maxRecDepth 100000
structure kV (s:aZ) (k:Nat) (i:aH):Prop where
 fh:iI s k i.bQ
theorem R2 {i:aH} (J:i.bQ.c8.length≤1000) (ad:i.bQ.lZ.length≤1000):pv i=some i:=by
 unfold pv Bc Ay Az
 rw [kh _ _ (by simp; omega) (by omega),kh _ _ (by simp; omega) (by omega)]
 rfl
theorem BT {s:aZ} (h:dK s) {k:Nat} (au:k < 4) {i:aH} (aq:kV s k i):pv i=some i:=by
 have J:=aq.fh.len
 have ad:=aq.fh.args
 have ax:=(h.kB au).2.1.2
 exact R2 (by omega) (by omega)
def hX (l:List aH) (n:Int):Bool:=l.any fun c=>c.b8 ==n
theorem find_eq (x:cG) (n:Int) (ar:x.cK.length≤1000):bK (xc x n) (fun r=>(r= -1∧hX x.cK n=false)∨ ∃ i:Nat,i < x.cK.length∧r=i∧ (aN x.cK i).b8=n∧hX x.cK n=true∧ ∀ j,j < i→ (aN x.cK j).b8≠n):=by
 unfold xc
 refine(Oa (g:=fun c=>c.b8 ==n) (fun c aj=>rfl) (by omega)).bind fun r aQ=> .ret ?_
 rcases aQ with⟨J,ad⟩ | ⟨i,J,ad,ax,aR⟩
 ·exact .inl ⟨J,by unfold hX; rw [List.any_eq_false]; exact fun c aj=>by simp [ad c aj]⟩
 ·refine .inr ⟨i,J,ad,by simpa using ax,?_,fun j aC=>by simpa using aR j aC⟩
  unfold hX; rw [List.any_eq_true]
  exact⟨aN x.cK i,by rw [gf _ J]; exact List.getElem_mem _,ax⟩
theorem Rk {s:aZ} (h:dK s) {k:Nat} (au:k < 4) {x:cG} (ak:x.oy=s) {a c:aH} (bg:kV s k a) (aj:kV s k c):
 bK (u3 x a c) (fun r=>r < 0↔hc s k a c=true):=by
 unfold u3
 rw [ak]
 refine .eq (Jj h au bg.fh aj.fh) (.cond (fun hb=> .ret ⟨fun _=>hb,fun _=>by omega⟩) fun hb=> .eq (Jj h au aj.fh bg.fh) (.cond (fun _=> .ret ?_) fun _=> .ret ?_))
 ·rw [hb]; simp
 ·rw [hb]; simp
theorem SJ {i j:Nat} (h:i + j < 2 ^ 62):bu ((BitVec.ofInt 64 (bu ((i:Int) + (j:Int)))) >>> (1#64).toNat).toNat=(((i + j) / 2:Nat):Int):=by
 rw [show(i:Int) + (j:Int)=((i + j:Nat):Int) by omega,hO (x:=((i + j:Nat):Int)) (by omega) (by omega)]
 have:((BitVec.ofInt 64 ((i + j:Nat):Int)) >>> (1#64).toNat).toNat=(i + j) / 2:=by
  rw [BitVec.toNat_ushiftRight,qo (by omega)]
  rw [show(1#64).toNat=1 from rfl,Nat.shiftRight_eq_div_pow,Nat.pow_one]
 rw [this,hO (by omega) (by omega)]
theorem QO {l:List aH} {x:aH} {b:aH→aH→Bool} (hb:rb b) (hs:l.Pairwise (fun x y=>b x y=true)) (ar:l.length≤1000)
 {f:aH→aH→Option Int} (a0:∀ a∈l,bK (f a x) (fun r=>r < 0↔b a x=true)):
 bK (wY l x f) (fun r=>r.1=(jj b l x:Int)):=by
 unfold wY
 have fk:=Fp (b:=b) (l:=l) (x:=x)
 have sh:∀ h,h < l.length→aN l h∈l:=fun h b3=>by rw [gf _ b3]; exact List.getElem_mem _
 have mO:∀ q:Bool,bK ((c5 (decide (((jj b l x:Nat):Int) < (l.length:Int))) true (idx l.length ((jj b l x:Nat):Int))).bind fun cC=>
  (c5 (decide (((jj b l x:Nat):Int) < (l.length:Int))) true (f (aN l cC) x)).bind fun aK=>some (((jj b l x:Nat):Int),(decide (((jj b l x:Nat):Int) < (l.length:Int))) && (aK ==0))) (fun r=>r.1=(jj b l x:Int)):=fun _=>by
  refine .c5 (P:=fun c=>c=jj b l x) (fun h=>⟨_,tp (by simpa using h),rfl⟩) fun cC ad=> .c5 (P:=fun _=>True) (fun h=> ?_) fun aK _=> .ret rfl
  rw [ad h]
  exact(a0 _ (sh _ (by simpa using h))).mono fun _ _=>trivial
 refine bK.loop l.length (fun r st=> ∃ i j:Nat,st=((i:Int),(j:Int))∧i≤jj b l x∧jj b l x≤j∧j≤l.length∧j - i≤l.length - r) (by omega) ⟨0,l.length,rfl,by omega,by omega,by omega,by omega⟩ (fun r st aQ eY=> ?_) (fun st eY=> ?_)
 ·obtain⟨i,j,rfl,J,ad,ax,aR⟩:=eY
  refine .cond (fun aj=> ?_) fun aj=> .ret ?_
  ·have e5:i < j:=by simpa using aj
   rw [SJ (by omega)]
   have hm:(i + j) / 2 < l.length:=by omega
   refine .idx rfl hm ((a0 _ (sh _ hm)).bind fun aB bG=> ?_)
   have b5:=Fq hb (x:=x) hs hm
   refine .bind (P:=fun m=> ∃ i j:Nat,m=((i:Int),(j:Int))∧i≤jj b l x∧jj b l x≤j∧j≤l.length∧j - i≤l.length - (r + 1)) (.cond (fun a7=> .eq rfl (.ret ?_)) fun a7=> .ret ?_) fun m hm=> .ret ?_
   ·have:=b5.1 (bG.1 (by simpa using a7))
    refine⟨(i + j) / 2 + 1,j,?_,by omega,ad,ax,by omega⟩
    simp only [iG (show(i + j) / 2 < 2 ^ 62 by omega)]
   ·have: ¬ (i + j) / 2 < jj b l x:=fun b3=>by
     have:=bG.2 (b5.2 b3)
     simp at a7; omega
    exact⟨i,(i + j) / 2,rfl,J,by omega,by omega,by omega⟩
   ·obtain⟨Aq,p3,rfl,aW⟩:=hm
    exact⟨Aq,p3,rfl,aW⟩
  ·have e5: ¬ i < j:=by simpa using aj
   have:i=jj b l x:=by omega
   subst this
   exact mO true
 ·obtain⟨i,j,rfl,J,ad,ax,aR⟩:=eY
  have e5:i=jj b l x:=by omega
  have aj:decide ((i:Int) < (j:Int))=false:=by simp; omega
  simp only [aj,cond_false]
  refine⟨_,rfl,?_⟩
  subst e5
  exact mO true
structure kC (s:aZ) (k:Nat) (l:List aH):Prop where
 ok:∀ i∈l,kV s k i
 num:l.Pairwise fun a c=>a.b8≠c.b8
 len:l.length≤900
theorem kC.Hj {s:aZ} {k:Nat} {l:List aH} (h:kC s k l):oZ (hc s k) l:=h.num.imp fun b3=>SI b3
theorem kC.gL {s:aZ} {k:Nat} {l:List aH} (h:kC s k l):(∀ i∈gL (hc s k) l,kV s k i)∧ (gL (hc s k) l).length≤900:=
 ⟨fun i aq=>h.ok i (rX.1 aq),by rw [SH]; exact h.len⟩
theorem BE {s:aZ} {k:Nat} {l:List aH} {n:Int} :hX (gL (hc s k) l) n=hX l n:=by
 unfold hX
 rw [Bool.eq_iff_iff,List.any_eq_true,List.any_eq_true]
 exact⟨fun⟨c,J,ad⟩=>⟨c,rX.1 J,ad⟩,fun⟨c,J,ad⟩=>⟨c,rX.2 J,ad⟩⟩
theorem Ke {l:List aH} {n:Int} (h:hX l n=false):∀ c∈l,c.b8≠n:=fun c aj=>by
 unfold hX at h
 rw [List.any_eq_false] at h
 simpa using h c aj
theorem kC.snoc {s:aZ} {k:Nat} {l:List aH} (h:kC s k l) {i:aH} (aq:kV s k i) (aL:hX l i.b8=false) (ar:l.length < 900):kC s k (l ++ [i]) where
 ok c aj:=by
  rcases List.mem_append.1 aj with aj | aj
  ·exact h.ok c aj
  ·rw [List.mem_singleton.1 aj]; exact aq
 num:=by
  rw [List.pairwise_append]
  exact⟨h.num,by simp,fun a bg c aj=>by rw [List.mem_singleton.1 aj]; exact Ke aL a bg⟩
 len:=by simp; omega
def qF (s:aZ) (k:Nat) (l:List aH):cG:= { oy:=s,cK:=gL (hc s k) l }
theorem SK {s:aZ} (h:dK s) {k:Nat} (au:k < 4) {l:List aH} (ar:kC s k l) {i:aH} (aq:kV s k i) (hlen:l.length < 900):
 w8 (qF s k l) i=some (!hX l i.b8,if hX l i.b8=true then qF s k l else qF s k (l ++ [i])):=by
 refine bK.get ?_
 unfold w8
 obtain⟨iW,gJ⟩:=ar.gL
 refine .c5 (fun _=>find_eq (qF s k l) _ (by show(gL _ l).length≤1000; omega)) fun aB J=> ?_
 have J:=J rfl
 rw [Bool.false_or]
 rcases J with⟨rfl,ad⟩ | ⟨j,ad,rfl,ax,aR,aW⟩
 ·have kT:hX l i.b8=false:=by rw [← ad]; exact BE.symm
  refine .cond (fun aj=>by simp at aj) fun _=> ?_
  refine(QO (b:=hc s k) (BS s k) (Ey (BS s k) ar.Hj) (by omega) fun a bg=>Rk h au rfl (iW a bg) aq).bind fun aK cF=> .eq (BT h au aq) ?_
  rw [cF]
  unfold Aw
  have fk:=Fp (b:=hc s k) (l:=gL (hc s k) l) (x:=i)
  refine .eq (a:=gL (hc s k) (l ++ [i])) ?_ (.ret ?_)
  ·show zb 88 (gL (hc s k) l) _ _=_
   unfold zb
   have lJ:maxLen=9223372036854775807:=rfl
   rw [if_pos ⟨by omega,by omega,by simp,by simp <;> omega,by simp <;> omega⟩,BD,KS]
   simp
  ·rw [kT]; rfl
 ·have wO:hX l i.b8=true:=by rw [← aR]; exact BE.symm
  refine .cond (fun _=> .ret ?_) fun aj=>by simp at aj <;> omega
  rw [wO]; rfl
theorem Qi {s:aZ} (h:dK s) {k:Nat} (au:k < 4) {l:List aH} (ar:∀ i∈l,kV s k i) (aL:l.length≤1000):vu l=some l:=by
 refine bK.get ?_
 unfold vu
 refine bK.loop l.length (fun i st=>st=((i:Int),l.take i)) (by omega) rfl (fun i st aq hs=> ?_) (fun st hs=> ?_)
 ·subst hs
  refine .cond (fun _=> ?_) (fun aj=>by simp at aj; omega)
  refine .idx rfl aq (.eq (BT h au (ar _ (by rw [gf _ aq]; exact List.getElem_mem _))) (.eq (kh _ _ (by simp; omega) (by omega)) (.ret ?_)))
  rw [iG (by omega),Pq l aq]
 ·subst hs
  refine⟨_,by simp; rfl,.ret ?_⟩
  simp
theorem SL {s:aZ} (h:dK s) {k:Nat} (au:k < 4) {l:List aH} (ar:kC s k l):w7 (qF s k l)=some (gL (hc s k) l):=by
 unfold w7
 obtain⟨iW,gJ⟩:=ar.gL
 show Option.bind (vu (gL (hc s k) l)) _=_
 rw [Qi h au iW (by omega)]; rfl
theorem kV.small {s:aZ} (h:dK s) {k:Nat} (au:k < 4) {i:aH} (aq:kV s k i):i.bQ.c8.length≤1000∧i.bQ.lZ.length≤1000:=by
 have J:=aq.fh.len
 have ad:=aq.fh.args
 have ax:=(h.kB au).2.1.2
 exact⟨by omega,by omega⟩
def pd (o:Option aH):aH × Bool:=match o with | some c=>(c,true) | none=>(default,false)
theorem JE (c:bm):bK (u4 c) (fun _=>True):=by
 unfold u4
 first | exact .ret trivial | exact .eq rfl (.ret trivial)
end Go.Proofs.YtmnggbjcnoffeaaGreat
namespace Go.Proofs.YtmnggbjcnoffeaaGreat
open Go Gv
set_option linter.unusedVariables false
set_option linter.unusedSimpArgs false
set_option maxRecDepth 100000
structure h3 (hp:aI Cell) (t:Nat) (g:List Bool→Option Int):Prop where
 ok:∃ c,fg hp t=some c∧c.fm=32∧nf hp c.ck∧ ∀ aU,cont hp c.ck aU=g aU
def Own (hp:aI Cell) (t q:Nat):Prop:=q=t∨ ∃ c aU,fg hp t=some c∧cr hp c.ck aU=some q
def dU (v:az) (n:Nat):List Bool:=(List.range n).map fun i=>cH v (31 - i)
theorem Bi (v:az) (n:Nat):dU v (n + 1)=dU v n ++ [cH v (31 - n)]:=by simp [dU,List.range_succ]
theorem I1 (v:az):dU v 0= []:=rfl
theorem Jk {hp:aI Cell} {t:Nat} {c:fb} (aj:fg hp t=some c) (hb:c.fm=32) {n:Nat} (aL:n≤32) {v:az} (a3:∀ j,j < 128→cH v j=true→lead 32 n j=true):
 vb hp (some t) v n=some true:=by
 refine bK.get ?_
 unfold vb
 have aE:(Option.isSome (some t) && decide ((n:Int)≥0))=true:=by simp
 have bd:decide ((n:Int)≤c.fm)=true:=by rw [hb]; simp; omega
 refine .c5 (P:=fun r=>r=t) (fun _=>⟨t,rfl,rfl⟩) fun bS J=> ?_
 rw [J aE]
 refine .c5 (P:=fun r=>r=c) (fun _=>⟨c,aj,rfl⟩) fun bl ad=> ?_
 rw [ad aE]
 rw [aE,bd]
 refine .c5 (P:=fun r=>r=t) (fun _=>⟨t,rfl,rfl⟩) fun bT ax=> ?_
 rw [ax rfl]
 refine .c5 (P:=fun r=>r=c) (fun _=>⟨c,aj,rfl⟩) fun b7 aR=> ?_
 rw [aR rfl,hb]
 refine .c5 (fun _=>Qh 32 n (by decide) (by decide)) fun aB aW=> ?_
 refine .c5 (P:=fun r=>r=zl v aB) (fun _=>⟨_,and_eq v aB,rfl⟩) fun aK bc=> ?_
 refine .eq rfl (.ret ?_)
 have:aK=v:=by
  rw [bc rfl]
  refine KQ fun j aC=> ?_
  rw [RW,aW rfl j aC]
  cases e:cH v j with
  | false=>rfl
  | true=>rw [a3 j aC e]; rfl
 rw [this]; simp
theorem KV {v:az} {i:Nat} (aq:i < 32):bK (s3 v (bu ((bu ((32:Int) - 1)) - (i:Int)))) (fun r=>r=cH v (31 - i)):=by
 have e:bu ((bu ((32:Int) - 1)) - (i:Int))=((31 - i:Nat):Int):=by
  rw [show bu ((32:Int) - 1)=31 from by rw [hO (by decide) (by decide)]; rfl,hO (by omega) (by omega)]; omega
 rw [e]
 refine(SG v _).mono fun r aQ=> ?_
 rw [aQ]
 have:decide (0≤ ((31 - i:Nat):Int)∧ ((31 - i:Nat):Int) < 128)=true:=by rw [decide_eq_true_eq]; omega
 rw [this,Bool.true_and]; rfl
theorem KW (b:Bool):(cond b (some (1:Int)) (some 0))=some ((eS b:Nat):Int):=by cases b <;> rfl
theorem L1 {σ ε:Type} {hp:aI Cell} {t:Nat} {c:fb} (aj:fg hp t=some c) (hb:c.fm=32) (v:az) {n:Nat} (aL:n≤32) {step:Int→σ→Option (σ ⊕ ε)} {b0:σ} {P:σ ⊕ ε→Prop} (fa:Nat→σ→Prop) (bB:fa 0 b0)
 (hs:∀ i s,i < n→fa i s→bK (step ((eS (cH v (31 - i)):Nat):Int) s) (fun r=>match r with | .inl bW=>fa (i + 1) bW | .inr e=>P (.inr e))) (he:∀ s,fa n s→P (.inl s)):bK (p7 hp n v (some t) step b0) P:=by
 unfold p7
 refine bK.loop n (fun i s=>s.1=(i:Int)∧fa i s.2) (by omega) ⟨rfl,bB⟩ (fun i s aq ev=> ?_) (fun s ev=> ?_)
 ·obtain⟨j,s⟩:=s; obtain⟨aE,bd⟩:=ev
  simp only at aE bd; subst aE
  refine bK.cond (fun _=> ?_) (fun h=>by simp at h; omega)
  refine .eq rfl (.eq aj ?_)
  rw [hb]
  refine(KV (by omega)).bind fun aB J=> .eq (KW aB) ?_
  rw [J]
  refine(hs i s aq bd).bind fun r aQ=> ?_
  cases r with
  | inl bW=>exact .ret ⟨iG (by omega),aQ⟩
  | inr e=>exact .ret (.ret aQ)
 ·obtain⟨j,s⟩:=s; obtain⟨aE,bd⟩:=ev
  simp only at aE bd; subst aE
  refine⟨_,by simp; rfl,?_⟩
  exact .ret (he s bd)
theorem UB {σ ε:Type} {t:Nat} (v:az) {n:Nat} (aL:n≤32) {hq:σ→aI Cell} {step:Int→σ→ao (σ ⊕ ε)} {b0:σ} {P:σ ⊕ ε→Prop} (fa:Nat→σ→Prop) (bB:fa 0 b0) (kY:∀ i s,fa i s→ ∃ c,fg (hq s) t=some c∧c.fm=32)
 (hs:∀ i s,i < n→fa i s→dh (step ((eS (cH v (31 - i)):Nat):Int) s) (fun r=>match r with | .inl bW=>fa (i + 1) bW | .inr e=>P (.inr e))) (he:∀ s,fa n s→P (.inl s)):dh (sN n v (some t) hq step b0) P:=by
 unfold sN
 refine .bind (P:=fun e=>match e with | .inl e=>P (.inl e.2.2) | .inr e=>P (.inr e.2.2.2.2.2.2)) (dh.loop n (fun i s=>s.1=(i:Int)∧fa i s.2) (by omega) ⟨rfl,bB⟩ (fun i s aq ev=> ?_) (fun s ev=> ?_)) fun e h=> ?_
 ·obtain⟨j,s⟩:=s; obtain⟨aE,bd⟩:=ev
  simp only at aE bd; subst aE
  refine dh.cond (fun _=> ?_) (fun h=>by simp at h; omega)
  obtain⟨c,aj,hb⟩:=kY i s bd
  refine .eq rfl (.eq aj ?_)
  rw [hb]
  refine .kU (KV (by omega)) fun aB J=> .eq (KW aB) ?_
  rw [J]
  refine .bind (hs i s aq bd) fun r aQ=> ?_
  cases r with
  | inl bW=>exact .ret ⟨iG (by omega),aQ⟩
  | inr e=>exact .ret aQ
 ·obtain⟨j,s⟩:=s; obtain⟨aE,bd⟩:=ev
  simp only at aE bd; subst aE
  refine dh.cond (fun h=>by simp at h) fun _=> .ret (he s bd)
 ·cases e with
  | inl e=>exact .ret h
  | inr e=>exact .ret h
theorem JF {hp:aI Cell} {t:Nat} {c:fb} (aj:fg hp t=some c) (hb:c.fm=32) (bI:nf hp c.ck) {n:Nat} (aL:n≤32) {v:az} (a3:∀ j,j < 128→cH v j=true→lead 32 n j=true):
 vi hp (some t) v n=some (cr hp c.ck (dU v n)):=by
 refine bK.get ?_
 unfold vi
 refine .eq (Jk aj hb aL a3) (.cond (fun h=>by cases h) fun _=> .eq rfl (.eq aj (.eq rfl ?_)))
 show bK (Option.bind (p7 hp (n:Int) v (some t) _ _) _) _
 refine bK.bind (P:=fun e:Ref ⊕ (Ref × Ref)=>e.elim (fun s=>s=cr hp c.ck (dU v n)) (fun q=>q.2=cr hp c.ck (dU v n))) (L1 aj hb v aL (fun i s=>s=cr hp c.ck (dU v i)) mz.symm (fun i s aq hs=> ?_) (fun s hs=>hs)) fun e he=> ?_
 ·refine .cond (fun h=> .ret ?_) fun h=> ?_
  ·rw [Option.isNone_iff_eq_none] at h
   have aE:dU v n=dU v i ++ (dU v n).drop i:=by
    have:dU v i=(dU v n).take i:=by unfold dU; rw [← List.map_take,List.take_range]; congr 2; omega
    rw [this,List.take_append_drop]
   show(none:Ref)=_
   rw [aE,ly,← hs,h,fN]
  ·cases s with
   | none=>simp at h
   | some p=>
     obtain⟨bl,J⟩:=bI.reads _ _ hs.symm
     refine .eq rfl (.idx rfl (by cases cH v (31 - i) <;> decide) (.eq J (.ret ?_)))
     show cg bl.cJ _=_
     rw [Bi,ly,← hs,gM J,mz]
 ·cases e with
  | inl s=>exact .ret he
  | inr q=>exact .ret he
theorem KX {hp:aI Cell} {t:Nat} {g:List Bool→Option Int} (h:h3 hp t g) {n:Nat} (aL:n≤32) {v:az} (a3:∀ j,j < 128→cH v j=true→lead 32 n j=true):
 sV hp (some t) v n=some (match g (dU v n) with | none=>(0,false) | some id=>(id,true)):=by
 obtain⟨c,aj,hb,bI,bx⟩:=h.ok
 refine bK.get ?_
 unfold sV
 refine .eq (JF aj hb bI aL a3) ?_
 rw [← bx]
 cases e:cr hp c.ck (dU v n) with
 | none=>
   rw [jZ e]
   refine .c5 (P:=fun _=>True) (fun h=>by cases h) fun o _=> .c5 (P:=fun _=>True) (fun h=>by cases h) fun o _=> .cond (fun _=> .ret rfl) fun h=>by cases h
 | some p=>
   obtain⟨d,hd⟩:=bI.reads _ _ e
   rw [jv e hd]
   refine .c5 (P:=fun r=>r=p) (fun _=>⟨p,rfl,rfl⟩) fun o J=> ?_
   rw [J rfl]
   refine .c5 (P:=fun r=>r=d) (fun _=>⟨d,hd,rfl⟩) fun bl ad=> ?_
   rw [ad rfl]
   refine .cond (fun h=> ?_) fun h=> ?_
   ·have:d.dr=false:=by simpa using h
    rw [this]; exact .ret rfl
   ·have:d.dr=true:=by simpa using h
    rw [this]; exact .eq rfl (.eq hd (.ret rfl))
end Go.Proofs.YtmnggbjcnoffeaaGreat
namespace Go.Proofs.YtmnggbjcnoffeaaGreat
open Go Gv
set_option linter.unusedVariables false
set_option linter.unusedSimpArgs false
set_option maxRecDepth 100000
structure CA (jk hp:aI Cell) (t:Nat) (g:List Bool→Option Int) (r:Nat):Prop where
 cell:∃ c,fg hp t=some c∧c.fm=32∧c.ck=some r
 tree:nf hp (some r)
 cont:∀ aU,cont hp (some r) aU=g aU
 keeps:eh jk hp (Own jk t)
 own:∀ aU q,cr hp (some r) aU=some q→Own jk t q∨q ∉ dQ jk
theorem x4 {hp:aI Cell} {a t:Nat} {k:Cell} (bg:a ∉ dQ hp) (h:pat hp t=some k):a≠t:=fun e=>bg (e ▸ hU h)
theorem JG {hp:aI Cell} {a:Nat} {x:di} :cf ((a,.fp x) :: hp) a=some x:=by rw [nN,oA,if_pos rfl]
theorem Qj {hp:aI Cell} {a:Nat} (bg:a ∉ dQ hp):cf hp a=none:=by unfold cf; rw [Rg bg]
theorem vA {hp:aI Cell} {p:Nat} {k:Cell} {x:di} (h:pat hp p=some k):cf (cx hp p (.fp x)) p=some x:=by rw [nN,qv h]
theorem rG {hp:aI Cell} {p q:Nat} {k:Cell} (h:p≠q):cf (cx hp p k) q=cf hp q:=s6 (k0 h)
theorem IK {hp:aI Cell} {a q:Nat} {k:Cell} (h:a≠q):cf ((a,k) :: hp) q=cf hp q:=s6 (by rw [oA,if_neg h])
theorem JH {hp:aI Cell} {p:Nat} {k:Cell} {x:fb} (h:pat hp p=some k):fg (cx hp p (.iK x)) p=some x:=by rw [qe,qv h]
theorem Be {hp:aI Cell} {p q:Nat} {k:Cell} (h:p≠q):fg (cx hp p k) q=fg hp q:=Bd (k0 h)
theorem IL {hp:aI Cell} {a q:Nat} {k:Cell} (h:a≠q):fg ((a,k) :: hp) q=fg hp q:=Bd (by rw [oA,if_neg h])
theorem Ci {hp:aI Cell} {p t:Nat} {x:di} {c:fb} (J:cf hp p=some x) (ad:fg hp t=some c):p≠t:=fun e=>by
 subst e
 rw [nN] at J; rw [qe,J] at ad; cases ad
theorem SM {hp:aI Cell} {t:Nat} {g:List Bool→Option Int} {c:fb} (aj:fg hp t=some c) (hb:c.fm=32) (bI:nf hp c.ck) (bx:∀ aU,cont hp c.ck aU=g aU):
 dh (cond c.ck.isNone (
     ao.bind (ao.mk hp (Cell.fp (default:di))) fun cy=>
     ao.bind (ao.of (fg cy.2 t)) fun Ad=>
     ao.bind (ao.of (some (cx cy.2 t (Cell.iK ({ Ad with ck:=(some cy.1:Ref) } :fb))))) fun so=>
     ao.ret so) (ao.ret hp)) (fun cd=> ∃ r,CA hp cd t g r):=by
 have fZ:=qe.1 aj
 refine .cond (fun h=> .mk fun a bg=> ?_) fun h=> ?_
 ·have aQ:c.ck=none:=by rw [Option.isNone_iff_eq_none] at h; exact h
  have Nr:=x4 bg fZ
  have CK:fg ((a,Cell.fp default) :: hp) t=some c:=by rw [IL Nr]; exact aj
  refine .eq CK (.eq rfl (.ret ⟨a,?_⟩))
  have aL:cf (cx ((a,Cell.fp default) :: hp) t (.iK { c with ck:=some a })) a=some default:=by
   rw [rG Nr.symm,JG]
  have a0:=Jh aL
  refine⟨⟨_,JH (qe.1 CK),hb,rfl⟩,⟨fun aU p J=> ?_,fun aU cs p J ad=> ?_,fun aU p J=> ?_⟩,fun aU=> ?_,?_,fun aU q J=> ?_⟩
  ·rw [a0] at J
   split at J
   ·cases J; exact⟨_,aL⟩
   ·cases J
  ·rw [a0] at J ad
   split at J <;> split at ad
   ·rename_i aE bd; rw [aE,bd]
   ·cases ad
   ·cases J
   ·cases J
  ·rw [a0] at J
   split at J
   ·rename_i e; rw [e]; exact Nat.zero_le _
   ·cases J
  ·rw [← bx,aQ,jZ fN]
   by_cases e:aU= []
   ·rw [jv (by rw [a0,if_pos e]) aL]; rfl
   ·rw [jZ (by rw [a0,if_neg e])]
  ·exact(eh.mk' bg).trans (own':=fun q=>q=t) (eh.up (own:=fun q=>q=t) rfl) fun q _ J=> .inl J
  ·rw [a0] at J
   split at J
   ·cases J; exact .inr bg
   ·cases J
 ·cases aQ:c.ck with
  | none=>rw [aQ] at h; cases h
  | some r=>
    rw [aQ] at bI bx
    exact .ret ⟨r,⟨c,aj,hb,aQ⟩,bI,bx,.refl,fun aU q J=> .inl (.inr ⟨c,aU,aj,by rw [aQ]; exact J⟩)⟩
theorem UC {hp:aI Cell} {t:Nat} {g:List Bool→Option Int} (h:h3 hp t g) {n:Nat} (aL:n≤32) {v:az} (a3:∀ j,j < 128→cH v j=true→lead 32 n j=true) (id:Int) (eX:g (dU v n)=none):
 dh (vk hp (some t) v n id) (fun r=>r.1=true∧h3 r.2 t (fun aU=>if aU=dU v n then some id else g aU)∧eh hp r.2 (Own hp t)∧ ∀ q,Own r.2 t q→Own hp t q∨q ∉ dQ hp):=by
 obtain⟨c,aj,hb,bI,bx⟩:=h.ok
 unfold vk
 refine .eq (Jk aj hb aL a3) (.cond (fun h=>by cases h) fun _=> .eq (JF aj hb bI aL a3) ?_)
 refine .c5 (P:=fun o=>cr hp c.ck (dU v n)=some o) (fun J=> ?_) fun bS J=> ?_
 ·cases e:cr hp c.ck (dU v n) with
  | none=>rw [e] at J; cases J
  | some p=>exact⟨p,rfl,rfl⟩
 refine .c5 (P:=fun d=>cf hp bS=some d) (fun ad=> ?_) fun bl ad=> ?_
 ·obtain⟨d,hd⟩:=bI.reads _ _ (J ad)
  exact⟨d,hd,hd⟩
 refine .cond (fun ax=> ?_) fun _=> ?_
 ·simp only [Bool.and_eq_true] at ax
  rw [← bx,jv (J ax.1) (ad ax.1),ax.2] at eX
  cases eX
 refine .eq rfl (.eq aj (.bind (SM aj hb bI bx) fun bH cM=> ?_))
 obtain⟨r,cM⟩:=cM
 obtain⟨e0,lf,Yo,Xf⟩:=cM.cell
 refine .eq lf (.eq rfl ?_)
 show dh (ao.bind (sN (n:Int) v (some t) _ _ _) _) _
 refine .bind (P:=fun e:(Ref × aI Cell) ⊕ Empty=> ∃ p cq,e= .inl (some p,cq)∧cr cq (some r) (dU v n)=some p∧CA hp cq t g r) (UB v aL (fun i s=> ∃ p,s.1=some p∧cr s.2 (some r) (dU v i)=some p∧CA hp s.2 t g r) ⟨r,Xf,mz,cM⟩ (fun i s aq=> ?_) (fun i s aq hs=> ?_) (fun s hs=> ?_)) fun e he=> ?_
 ·obtain⟨p,_,_,hm⟩:=aq
  obtain⟨d,aR,aW,_⟩:=hm.cell
  exact⟨d,aR,aW⟩
 ·obtain⟨Xg,cq⟩:=s
  obtain⟨p,aE,bd,hm⟩:=hs
  simp only at aE bd hm
  subst aE
  obtain⟨d,hd⟩:=hm.tree.reads _ _ bd
  have b5:eS (cH v (31 - i)) < 2:=by cases cH v (31 - i) <;> decide
  refine .eq rfl (.idx rfl b5 (.eq hd ?_))
  refine .bind (P:=fun fT=> ∃ q HV,cf fT p=some HV∧cg HV.cJ (eS (cH v (31 - i)))=some q∧cr fT (some r) (dU v i)=some p∧CA hp fT t g r) (.cond (fun bc=> .mk fun a bg=> ?_) fun bc=> .ret ?_) fun fT cn=> ?_
  ·have pe:cg d.cJ (eS (cH v (31 - i)))=none:=by rw [Option.isNone_iff_eq_none] at bc; exact bc
   have Ns:=x4 bg (nN.1 hd)
   have ix:cf ((a,Cell.fp default) :: cq) p=some d:=by rw [IK Ns]; exact hd
   refine .idx rfl b5 (.eq ix (.eq rfl (.ret ?_)))
   have fk:cf (cx ((a,Cell.fp default) :: cq) p (.fp { d with cJ:=iJ d.cJ (eS (cH v (31 - i))) (some a) })) a=some default:=by
    rw [rG Ns.symm,JG]
   have cX:cf (cx ((a,Cell.fp default) :: cq) p (.fp { d with cJ:=iJ d.cJ (eS (cH v (31 - i))) (some a) })) p=some { d with cJ:=iJ d.cJ (eS (cH v (31 - i))) (some a) } :=vA (nN.1 ix)
   obtain⟨ay,bf,bJ⟩:=grow (by unfold dU; simp; omega) hm.tree bd hd pe (Qj bg) cX fk fun q iA mT=>by rw [rG iA.symm,IK mT.symm]
   have zn:Own hp t p∨p ∉ dQ hp:=hm.own _ _ bd
   refine⟨a,_,cX,by rw [x3 _ _ b5,if_pos rfl],by rw [bf,if_neg (fun e=>by have:=congrArg List.length e; simp at this)]; exact bd,?_,ay,fun aU=>by rw [bJ,hm.cont],?_,fun aU q hq=> ?_⟩
   ·obtain⟨d4,aR,aW,eo⟩:=hm.cell
    have fZ:=Ci hd aR
    exact⟨d4,by rw [Be fZ,IL (x4 bg (qe.1 aR))]; exact aR,aW,eo⟩
   ·refine hm.keeps.trans (own':=fun q=>q=p) ((eh.mk' bg).trans (own':=fun q=>q=p) (eh.up (own:=fun q=>q=p) rfl) fun q _ fx=>fx) fun q hq fx=> ?_
    subst fx
    exact zn.resolve_right fun gC=>gC hq
   ·rw [bf] at hq
    split at hq
    ·cases hq; exact .inr fun fx=>bg (hm.keeps.keys _ fx)
    ·exact hm.own _ _ hq
  ·cases pe:cg d.cJ (eS (cH v (31 - i))) with
   | none=>rw [pe] at bc; cases bc
   | some q=>exact⟨q,d,hd,pe,bd,hm⟩
  ·obtain⟨q,HV,eo,fx,gC,oi⟩:=cn
   refine .idx rfl b5 (.eq eo (.ret ⟨q,fx,?_,oi⟩))
   show cr fT (some r) (dU v (i + 1))=some q
   rw [Bi,ly,gC,gM eo,fx,mz]
 ·obtain⟨Xg,cq⟩:=s
  obtain⟨p,aE,bd,hm⟩:=hs
  simp only at aE bd hm
  subst aE
  exact⟨p,cq,rfl,bd,hm⟩
 ·obtain⟨p,cq,rfl,bd,hm⟩:=he
  obtain⟨d,hd⟩:=hm.tree.reads _ _ bd
  have Hk:=nN.1 hd
  refine .eq rfl (.eq hd (.eq rfl (.eq rfl ?_)))
  have ix:cf (cx cq p (.fp { d with dr:=true })) p=some { d with dr:=true } :=vA Hk
  refine .eq ix (.eq rfl (.ret ?_))
  have n9:cf (cx (cx cq p (.fp { d with dr:=true })) p (.fp { d with dr:=true,hW:=id })) p=some { d with dr:=true,hW:=id } :=vA (nN.1 ix)
  obtain⟨s1,s2⟩:=ME hm.tree bd hd n9 rfl fun q hq=>by rw [rG hq.symm,rG hq.symm]
  obtain⟨d4,aR,aW,eo⟩:=hm.cell
  have fZ:=Ci hd aR
  have wO:fg (cx (cx cq p (.fp { d with dr:=true })) p (.fp { d with dr:=true,hW:=id })) t=some d4:=by rw [Be fZ,Be fZ]; exact aR
  have zn:Own hp t p∨p ∉ dQ hp:=hm.own _ _ bd
  refine⟨rfl,⟨d4,wO,aW,by rw [eo]; exact s1,fun aU=> ?_⟩,?_,fun q hq=> ?_⟩
  ·rw [eo,s2,hm.cont]; rfl
  ·refine hm.keeps.trans (own':=fun q=>q=p) ((eh.up (own:=fun q=>q=p) rfl).trans (own':=fun q=>q=p) (eh.up (own:=fun q=>q=p) rfl) fun q _ fx=>fx) fun q hq fx=> ?_
   subst fx
   exact zn.resolve_right fun gC=>gC hq
  ·rcases hq with rfl | ⟨iV,aU,J,ad⟩
   ·exact .inl (.inl rfl)
   ·rw [wO] at J; cases J
    rw [eo,yb hd n9 rfl (fun q hq=>by rw [rG hq.symm,rG hq.symm])] at ad
    exact hm.own _ _ ad
end Go.Proofs.YtmnggbjcnoffeaaGreat
namespace Go.Proofs.YtmnggbjcnoffeaaGreat
open Go Gv
set_option linter.unusedVariables false
set_option linter.unusedSimpArgs false
set_option maxRecDepth 100000
def enc:Option (Nat × Int)→Int × Int × Bool
 | none=>(0,0,false)
 | some (n,id)=>((n:Int),id,true)
end Go.Proofs.YtmnggbjcnoffeaaGreat
namespace Go.Proofs.YtmnggbjcnoffeaaGreat
open Go Gv
set_option linter.unusedVariables false
set_option linter.unusedSimpArgs false
set_option maxRecDepth 100000
theorem dK.Da {s:aZ} (h:dK s):∃ dH dR hh,∀ k,k < 4→mI (aN s.bA k)=aN (qM dH dR hh) k:=by
 obtain⟨dH,dR,hh,e⟩:=h.tables
 refine⟨dH,dR,hh,fun k au=> ?_⟩
 rw [← e,Bt mI (by rw [h.j6]; exact au)]
theorem ta (t:bw) {r:Int × Int} (aJ:List cu) (au:t.cv=aJ) (h:vm { (default:bw) with cv:=aJ } =some r):vm t=some r:=by
 subst au
 exact h
def m1 (k:Nat):Int:=aN [1,2,3,3] k
theorem QP {s:aZ} (h:dK s) {k:Nat} (au:k < 4):bK (vm (aN s.bA k)) (fun r=>r.1=m1 k∧ (k=1→r.2=0)):=by
 obtain⟨dH,dR,hh,e⟩:=h.Da
 have e:=e k au
 have gB:(aN s.bA k).cv=(aN (qM dH dR hh) k).2.2:=congrArg (·.2.2) e
 have:k=0∨k=1∨k=2∨k=3:=by omega
 rcases this with rfl | rfl | rfl | rfl
 ·exact⟨_,ta _ [rz] gB rfl,rfl,fun h=>by simp at h⟩
 ·cases dH
  ·exact⟨_,ta _ [uX] gB rfl,rfl,fun _=>rfl⟩
  ·exact⟨_,ta _ [uX,HR] gB rfl,rfl,fun _=>rfl⟩
 ·cases dR
  ·exact⟨_,ta _ [An,z6] gB rfl,rfl,fun h=>by simp at h⟩
  ·exact⟨_,ta _ [An,z6,HS] gB rfl,rfl,fun h=>by simp at h⟩
 ·cases hh
  ·exact⟨_,ta _ [Ao] gB rfl,rfl,fun h=>by simp at h⟩
  ·exact⟨_,ta _ [Ao,HT,uX] gB rfl,rfl,fun h=>by simp at h⟩
structure wv (s:aZ) (k:Nat) (jk hp:aI Cell) (p:Nat):Prop where
 cell:∃ c m,hk hp p=some c∧c.qp=m1 k∧c.qq=((aN s.bA k).cv.length:Int)∧c.jH=⟨some m⟩∧j3 hp m=some []∧
  (k=0→ ∃ q cI,c.ie= .l3 ⟨some q⟩∧l0 hp q=some ⟨⟨some cI⟩⟩∧k4 hp cI=some []∧q ∉ dQ jk∧cI ∉ dQ jk)∧
  (k=1→ ∃ ft,c.ie= .l4 ⟨0,32,⟨some ft⟩⟩∧jd hp ft=some []∧ft ∉ dQ jk)∧
  (2≤k→ ∃ q key cap,c.ie= .l5 ⟨some q⟩∧ni hp q=some (({ oy:=s,cK:= [] } :cG),key,cap)∧q ∉ dQ jk)∧
  p ∉ dQ jk∧m ∉ dQ jk∧ (∀ q,q∈dQ jk→q∈dQ hp)∧ ∀ q,q∈dQ jk→pat hp q=pat jk q
theorem UD {s:aZ} (h:dK s) {k:Nat} (au:k < 4) (hp:aI Cell):dh (vw hp s ((k:Int) + 1)) (fun r=> ∃ p,r.1=some p∧wv s k hp r.2 p):=by
 unfold vw
 refine .kU (Ea h au) fun aB aE=> ?_
 subst aE
 refine .cond (fun aj=>by simp at aj; omega) fun _=> ?_
 refine .idx rfl (by rw [h.j6]; exact au) (.kU (QP h au) fun aK ad=> .mk fun m hm=> .eq rfl (.mk fun p cd=> ?_))
 obtain⟨XR,key⟩:=aK
 obtain⟨ad,ax⟩:=ad
 simp only at ad ax cd
 subst ad
 have jC:p≠m:=fun e=>by subst e; simp [dQ] at cd
 have:k=0∨k=1∨2≤k:=by omega
 rcases this with rfl | rfl | dV
 ·have e:(m1 0 ==1)=true:=rfl
  simp only [e,cond_true]
  unfold Ba
  refine .bind (P:=fun cq=>wv s 0 hp cq p) (.bind (P:=fun r=> ∃ q cI,r=((some q:Ref),(q,Cell.wc ⟨⟨some cI⟩⟩) :: (cI,Cell.mK []) :: (p,_) :: (m,Cell.jy []) :: hp)∧cI ∉ dQ ((p,_) :: (m,Cell.jy []) :: hp)∧q ∉ dQ ((cI,Cell.mK []) :: (p,_) :: (m,Cell.jy []) :: hp)) (.mk fun cI ek=> .mk fun q hq=> .ret ⟨q,cI,rfl,ek,hq⟩) fun bk aR=> ?_) fun cq aW=> .ret ⟨p,rfl,aW⟩
  obtain⟨q,cI,rfl,ek,hq⟩:=aR
  simp only [dQ,List.map_cons,List.mem_cons,not_or] at ek hq cd
  refine .eq (by simp [hk,pat,hq.1,hq.2,ek.1,hq.2.2.1,Ne.symm]; rfl) (.eq rfl (.ret ?_))
  refine⟨{ qp:=m1 0,qq:=((aN s.bA 0).cv.length:Int),ie:= .l3 ⟨some q⟩,jH:=⟨some m⟩ },m,?_,rfl,rfl,rfl,?_,?_,fun aj=>by simp at aj,fun aj=>by simp at aj,cd.2,hm,fun x ak=>by rw [pB]; exact List.mem_cons_of_mem _ (List.mem_cons_of_mem _ (List.mem_cons_of_mem _ (List.mem_cons_of_mem _ ak))),fun x ak=> ?_⟩
  ·simp [hk,pat,cx,hq.1,hq.2,ek.1,hq.2.2.1]
  ·simp [j3,pat,cx,hq.1,hq.2,ek.1,hq.2.2.1,ek.2.1,cd.1]
  ·intro _
   refine⟨q,cI,rfl,?_,?_,hq.2.2.2,ek.2.2⟩
   ·simp [l0,pat,cx,hq.1,hq.2,ek.1,hq.2.2.1,ek.2.1,cd.1]
   ·simp [k4,pat,cx,hq.1,hq.2,ek.1,hq.2.2.1,ek.2.1,cd.1]
  ·have uY:q≠x:=fun e=>hq.2.2.2 (by rw [e]; exact ak)
   have HW:cI≠x:=fun e=>ek.2.2 (by rw [e]; exact ak)
   have As:p≠x:=fun e=>cd.2 (by rw [e]; exact ak)
   have At:m≠x:=fun e=>hm (by rw [e]; exact ak)
   simp [yl,pat,uY,HW,As,At]
 ·have e:(m1 1 ==1)=false:=rfl
  have bd:(m1 1 ==2)=true:=rfl
  simp only [e,bd,cond_true,cond_false]
  have ax:=ax rfl
  subst ax
  obtain⟨t1,⟨t2,t3⟩,t4,_⟩:=h.kB au
  have a0:(aN (aN s.bA 1).cv 0).gq=((6:Nat):Int) + 1:=by
   obtain⟨dH,dR,hh,e⟩:=h.Da
   have e:=congrArg (·.2.2) (e 1 au)
   show(aN (mI (aN s.bA 1)).2.2 0).gq=_
   rw [e]
   cases dH <;> rfl
  refine .bind (P:=fun cq=>wv s 1 hp cq p) (.bind (P:=fun cq=>wv s 1 hp cq p) ?_ fun _ bc=> .ret bc) fun cq aW=> .ret ⟨p,rfl,aW⟩
  refine .idx (k:=0) rfl (by omega) ?_
  simp only [a0]
  refine .kU (PZ h (show 6 < 9 by decide)) fun b1 hS=> ?_
  subst hS
  refine .kU (P:=fun r=>r=32) (.cond (fun _=> .idx rfl (by rw [h.wu]; decide) (.ret (h.wN (show 6 < 9 by decide)).2)) (fun aj=>by simp at aj)) fun b hb=> ?_
  subst hb
  refine .mk fun ft ht=> ?_
  simp only [dQ,List.map_cons,List.mem_cons,not_or] at ht cd
  refine .eq rfl (.eq (by simp [hk,pat,ht.1]; rfl) (.eq rfl (.ret ?_)))
  refine⟨{ qp:=m1 1,qq:=((aN s.bA 1).cv.length:Int),ie:= .l4 ⟨0,32,⟨some ft⟩⟩,jH:=⟨some m⟩ },m,?_,rfl,rfl,rfl,?_,fun aj=>by simp at aj,?_,fun aj=>by simp at aj,cd.2,hm,fun x ak=>by rw [pB]; exact List.mem_cons_of_mem _ (List.mem_cons_of_mem _ (List.mem_cons_of_mem _ ak)),fun x ak=> ?_⟩
  ·simp [hk,pat,cx,ht.1]
  ·simp [j3,pat,cx,ht.1,ht.2.1,cd.1]
  ·intro _
   refine⟨ft,rfl,?_,ht.2.2⟩
   simp [jd,pat,cx,ht.1,ht.2.1,cd.1]
  ·have uY:ft≠x:=fun e=>ht.2.2 (by rw [e]; exact ak)
   have As:p≠x:=fun e=>cd.2 (by rw [e]; exact ak)
   have At:m≠x:=fun e=>hm (by rw [e]; exact ak)
   simp [yl,pat,uY,As,At]
 ·have e:(m1 k ==1)=false:=by
   have:k=2∨k=3:=by omega
   rcases this with rfl | rfl <;> rfl
  have bd:(m1 k ==2)=false:=by
   have:k=2∨k=3:=by omega
   rcases this with rfl | rfl <;> rfl
  simp only [e,bd,cond_true,cond_false]
  refine .bind (P:=fun cq=>wv s k hp cq p) (.bind (P:=fun cq=>wv s k hp cq p) ?_ fun _ bc=> .ret bc) fun cq aW=> .ret ⟨p,rfl,aW⟩
  refine .eq rfl (.any fun eu=> .mk fun q hq=> ?_)
  simp only [dQ,List.map_cons,List.mem_cons,not_or] at hq cd
  refine .eq (by simp [hk,pat,hq.1]; rfl) (.eq rfl (.ret ?_))
  refine⟨{ qp:=m1 k,qq:=((aN s.bA k).cv.length:Int),ie:= .l5 ⟨some q⟩,jH:=⟨some m⟩ },m,?_,rfl,rfl,rfl,?_,fun aj=>by omega,fun aj=>by omega,fun _=>⟨q,eu.1,eu.2,rfl,?_,hq.2.2⟩,cd.2,hm,fun x ak=>by rw [pB]; exact List.mem_cons_of_mem _ (List.mem_cons_of_mem _ (List.mem_cons_of_mem _ ak)),fun x ak=> ?_⟩
  ·simp [hk,pat,cx,hq.1]
  ·simp [j3,pat,cx,hq.1,hq.2.1,cd.1]
  ·simp [ni,pat,cx,hq.1]
  ·have uY:q≠x:=fun e=>hq.2.2 (by rw [e]; exact ak)
   have As:p≠x:=fun e=>cd.2 (by rw [e]; exact ak)
   have At:m≠x:=fun e=>hm (by rw [e]; exact ak)
   simp [yl,pat,uY,As,At]
end Go.Proofs.YtmnggbjcnoffeaaGreat
namespace Go.Proofs.YtmnggbjcnoffeaaGreat
open Go Gv
set_option linter.unusedVariables false
set_option linter.unusedSimpArgs false
set_option maxRecDepth 100000
theorem JI {α:Type} {b:α→α→Bool} (hb:rb b) {q:α→Bool} :∀ {l:List α} {c:α},l.Pairwise (fun x y=>b x y=true)→c∈l→q c=true→ (∀ d∈l,q d=true→d=c∨b c d=true)→l.find? q=some c
 | [],c,_,aj,_,_=>by cases aj
 | a :: l,c,hs,aj,hq,hd=>by
   obtain⟨J,ad⟩:=List.pairwise_cons.1 hs
   by_cases nA:q a=true
   ·rw [List.find?_cons_of_pos nA]
    rcases hd a (by simp) nA with h | h
    ·rw [h]
    ·rcases List.mem_cons.1 aj with ax | ax
     ·rw [ax]
     ·have:=hb.asymm _ _ (J c ax)
      rw [this] at h; cases h
   ·rw [List.find?_cons_of_neg nA]
    rcases List.mem_cons.1 aj with ax | ax
    ·rw [ax] at hq; exact absurd hq nA
    ·exact JI hb ad ax hq fun d hd' Xh=>hd d (by simp [hd']) Xh
theorem R3 {α:Type} {b:α→α→Bool} (hb:rb b) {q:α→Bool} {l:List α} {c:α} (h:oZ b l) (aj:c∈l) (hq:q c=true) (hd:∀ d∈l,q d=true→d=c∨b c d=true):(gL b l).find? q=some c:=
 JI hb (Ey hb h) (rX.2 aj) hq fun d hd'=>hd d (rX.1 hd')
theorem kC.uniq {s:aZ} {k:Nat} :∀ {l:List aH},kC s k l→ ∀ {a c:aH},a∈l→c∈l→a.b8=c.b8→a=c:=fun {l} h {a c} bg aj e=>by
 have aL:=h.num
 clear h
 induction l with
 | nil=>cases bg
 | cons x l bz=>
   obtain⟨J,ad⟩:=List.pairwise_cons.1 aL
   rcases List.mem_cons.1 bg with ay | ay <;> rcases List.mem_cons.1 aj with bf | bf
   ·rw [ay,bf]
   ·rw [ay] at e; exact absurd e (J c bf)
   ·rw [bf] at e; exact absurd e.symm (J a ay)
   ·exact bz ay bf ad
theorem dK.FW {s:aZ} (h:dK s):(aN s.bA 0).cv= [rz]:=by
 obtain⟨dH,dR,hh,e⟩:=h.Da
 exact congrArg (·.2.2) (e 0 (by decide))
theorem dK.FX {s:aZ} (h:dK s):∃ b,(aN s.bA 1).cv=r7 b:=by
 obtain⟨dH,dR,hh,e⟩:=h.Da
 exact⟨dH,congrArg (·.2.2) (e 1 (by decide))⟩
def Dq (s:aZ) (k:Nat):Nat:=(aN s.bA k).cv.length
theorem R4 {α:Type} [Inhabited α] {n:Nat} {f:Fin n→α} {j:Nat} (h:j < n):cg (Vector.ofFn f) j=f ⟨j,h⟩:=by unfold cg; simp [h]
def ey (e:bo):Vector az 4:=Vector.ofFn fun i=>if i.1 < e.c8.length then(aN e.c8 i.1).db else default
def gE (p:Vector az 4):Vector az 4:=iJ p 0 default
theorem vB {e:bo} {j:Nat} (h:j < 4):cg (ey e) j=if j < e.c8.length then(aN e.c8 j).db else default:=R4 h
theorem Kf {p:Vector az 4} {j:Nat} :cg (gE p) j=if j=0 then default else cg p j:=by unfold gE; rw [x3 _ _ (by decide)]
theorem MH {v w:Vector az 4} :v=w↔cg v 0=cg w 0∧cg v 1=cg w 1∧cg v 2=cg w 2∧cg v 3=cg w 3:=by
 refine⟨fun h=>by rw [h]; exact⟨rfl,rfl,rfl,rfl⟩,fun⟨bB,J,ad,ax⟩=>JA fun j aC=> ?_⟩
 rcases (show j=0∨j=1∨j=2∨j=3 by omega) with rfl | rfl | rfl | rfl <;> assumption
theorem Rl {v w:az} {n m:Nat} :dU v n=dU w m↔n=m∧ ∀ i,i < n→cH v (31 - i)=cH w (31 - i):=by
 unfold dU
 constructor
 ·intro h
  have ar:=congrArg List.length h
  simp only [List.length_map,List.length_range] at ar
  subst ar
  refine⟨rfl,fun i aq=> ?_⟩
  have:=congrArg (·[i]?) h
  simpa [aq] using this
 ·rintro ⟨rfl,h⟩
  exact List.map_congr_left fun i aq=>h i (List.mem_range.1 aq)
def iP (e:bo):List Bool:=dU (aN e.c8 0).db (aN e.c8 0).gY.toNat
theorem zo {s:aZ} (h:dK s) {e:bo} (he:iI s 1 e):n2 2 32 (aN e.c8 0):=by
 have hm:=he.z7 0
 obtain⟨b,hb⟩:=h.FX
 rw [hb] at hm
 cases b
 ·exact hm (by decide)
 ·exact hm (by decide)
theorem yD {k:Int} (bB:0≤k) (J:k≤32) {j:Nat} :lead 32 k j=true↔32 - k≤ (j:Int)∧j < 32:=by
 unfold lead; rw [Bool.and_eq_true,decide_eq_true_eq,decide_eq_true_eq]; omega
theorem R5 {m:b6} (hm:n2 2 32 m) {v:az} {n:Nat} (aL:n≤32):dU m.db m.gY.toNat=dU v n↔m.gY=n∧ ∀ j,j < 128→lead 32 m.gY j=true→cH v j=cH m.db j:=by
 have hp:=hm.pre
 rw [Rl]
 constructor
 ·rintro ⟨J,ad⟩
  refine⟨by omega,fun j aC ar=> ?_⟩
  rw [yD hp.1 hp.2] at ar
  have:=ad (31 - j) (by omega)
  rw [show 31 - (31 - j)=j by omega] at this
  exact this.symm
 ·rintro ⟨J,ad⟩
  refine⟨by omega,fun i aq=> ?_⟩
  exact(ad (31 - i) (by omega) ((yD hp.1 hp.2).2 (by omega))).symm
theorem MI {s:aZ} (h:dK s) {e:bo} (he:iI s 1 e):e.ic=0:=by
 refine he.pri fun i aq=> ?_
 obtain⟨b,hb⟩:=h.FX
 rw [hb] at aq ⊢
 cases b
 ·have:i=0:=by have:i < 1:=aq; omega
  subst this; decide
 ·have:i=0∨i=1:=by have:i < 2:=aq; omega
  rcases this with rfl | rfl <;> decide
end Go.Proofs.YtmnggbjcnoffeaaGreat
namespace Go.Proofs.YtmnggbjcnoffeaaGreat
open Go Gv
set_option linter.unusedVariables false
set_option linter.unusedSimpArgs false
set_option maxRecDepth 100000
theorem Own.iff {hp hp':aI Cell} {t:Nat} {c:fb} (aj:fg hp t=some c) (h:∀ q,Own hp t q→pat hp' q=pat hp q):fg hp' t=some c∧ (∀ aU,cr hp' c.ck aU=cr hp c.ck aU)∧ ∀ q,Own hp' t q↔Own hp t q:=by
 have J:fg hp' t=some c:=by rw [Bd (h t (.inl rfl))]; exact aj
 have ad:∀ aU,cr hp' c.ck aU=cr hp c.ck aU:=fun aU=>Jg fun p cs hp=>s6 (h p (.inr ⟨c,cs,aj,hp⟩))
 refine⟨J,ad,fun q=>⟨fun hq=> ?_,fun hq=> ?_⟩⟩
 ·rcases hq with rfl | ⟨iV,aU,ay,bf⟩
  ·exact .inl rfl
  ·rw [J] at ay; cases ay
   rw [ad] at bf
   exact .inr ⟨c,aU,aj,bf⟩
 ·rcases hq with rfl | ⟨iV,aU,ay,bf⟩
  ·exact .inl rfl
  ·rw [aj] at ay; cases ay
   exact .inr ⟨c,aU,J,by rw [ad]; exact bf⟩
theorem h3.congr {hp hp':aI Cell} {t:Nat} {g:List Bool→Option Int} (h:h3 hp t g) (bg:∀ q,Own hp t q→pat hp' q=pat hp q):h3 hp' t g∧ ∀ q,Own hp' t q↔Own hp t q:=by
 obtain⟨c,aj,hb,bI,bx⟩:=h.ok
 obtain⟨J,ad,ax⟩:=Own.iff aj bg
 refine⟨⟨⟨c,J,hb,⟨fun aU p hp=> ?_,fun aU cs p ay bf=> ?_,fun aU p ay=>bI.dep aU p (by rw [← ad]; exact ay)⟩,fun aU=> ?_⟩⟩,ax⟩
 ·rw [ad] at hp
  obtain⟨d,hd⟩:=bI.reads aU p hp
  exact⟨d,by rw [s6 (bg p (.inr ⟨c,aU,aj,hp⟩))]; exact hd⟩
 ·rw [ad] at ay bf
  exact bI.inj aU cs p ay bf
 ·rw [← bx]
  cases e:cr hp c.ck aU with
  | none=>rw [jZ e,jZ (by rw [ad]; exact e)]
  | some p=>
    obtain⟨d,hd⟩:=bI.reads aU p e
    rw [jv e hd,jv (by rw [ad]; exact e) (by rw [s6 (bg p (.inr ⟨c,aU,aj,e⟩))]; exact hd)]
theorem h3.tx {hp:aI Cell} {t:Nat} {g:List Bool→Option Int} (h:h3 hp t g) {q:Nat} (hq:Own hp t q):q∈dQ hp:=by
 obtain⟨c,aj,hb,bI,bx⟩:=h.ok
 rcases hq with rfl | ⟨iV,aU,ay,bf⟩
 ·exact hU (qe.1 aj)
 ·rw [aj] at ay; cases ay
  obtain⟨d,hd⟩:=bI.reads aU q bf
  exact hU (nN.1 hd)
theorem h3.BU {hp:aI Cell} {t:Nat} {g:List Bool→Option Int} (h:h3 hp t g) {q:Nat} (hq:Own hp t q):(∃ c,pat hp q=some (.iK c))∨ ∃ c,pat hp q=some (.fp c):=by
 obtain⟨c,aj,hb,bI,bx⟩:=h.ok
 rcases hq with rfl | ⟨iV,aU,ay,bf⟩
 ·exact .inl ⟨c,qe.1 aj⟩
 ·rw [aj] at ay; cases ay
  obtain⟨d,hd⟩:=bI.reads aU q bf
  exact .inr ⟨d,nN.1 hd⟩
def h1 (a c:bo):Bool:=decide (a.dD=c.dD∧a.c8=c.c8∧a.ic=c.ic)
theorem vS {a c:bo} :h1 a c=true↔a.dD=c.dD∧a.c8=c.c8∧a.ic=c.ic:=by unfold h1; rw [decide_eq_true_eq]
theorem yo (a:bo):h1 a a=true:=vS.2 ⟨rfl,rfl,rfl⟩
theorem E6 (a c:bo):h1 a c=h1 c a:=by
 rw [Bool.eq_iff_iff,vS,vS]
 exact⟨fun⟨x,y,z⟩=>⟨x.symm,y.symm,z.symm⟩,fun⟨x,y,z⟩=>⟨x.symm,y.symm,z.symm⟩⟩
theorem JJ {a c d:bo} (J:h1 a c=true) (ad:h1 c d=true):h1 a d=true:=by
 rw [vS] at *
 exact⟨J.1.trans ad.1,J.2.1.trans ad.2.1,J.2.2.trans ad.2.2⟩
theorem Kg {a c:b6} (J:a.hi=c.hi) (ad:a.db=c.db) (ax:a.il=c.il) (aR:a.gY=c.gY) (aW:a.oC=c.oC):a=c:=by
 cases a; cases c; simp_all
theorem Kh {b:Int} {m nI:b6} (h:n2 1 b m) (cV:n2 1 b nI) (e:m.db=nI.db):m=nI:=
 Kg (by rw [h.Nn rfl,cV.Nn rfl]) e (by rw [h.fJ (by decide),cV.fJ (by decide)]) (by rw [h.Np (by decide),cV.Np (by decide)]) (by rw [h.C7 (by decide),cV.C7 (by decide)])
theorem R6 {m nI:b6} (h:n2 2 32 m) (cV:n2 2 32 nI) (e:dU m.db m.gY.toNat=dU nI.db nI.gY.toNat):m=nI:=by
 have hp:=h.pre
 have hp':=cV.pre
 obtain⟨n,aL⟩:=Int.eq_ofNat_of_zero_le hp'.1
 rw [aL,Int.toNat_natCast] at e
 obtain⟨aE,bd⟩:=(R5 h (by omega)).1 e
 have ej:m.gY=nI.gY:=by omega
 have Xi:m.hi=nI.hi:=by
  cases ay:m.hi <;> cases bf:nI.hi
  ·rfl
  ·have:=cV.No rfl bf
   have:=h.off ay
   have bB:(default:b6).gY=0:=rfl
   rw [this,bB] at ej; omega
  ·have:=h.No rfl ay
   have:=cV.off bf
   have bB:(default:b6).gY=0:=rfl
   rw [this,bB] at ej; omega
  ·rfl
 refine Kg Xi (KQ fun j aC=> ?_) (by rw [h.fJ (by decide),cV.fJ (by decide)]) ej (by rw [h.C7 (by decide),cV.C7 (by decide)])
 cases ar:lead 32 m.gY j with
 | true=>exact(bd j aC ar).symm
 | false=>
   have iO:cH m.db j=false:=by
    rw [Bool.eq_false_iff]; intro a3
    have:=h.Hf rfl j aC a3
    rw [(yD hp.1 hp.2).2 this] at ar; cases ar
   have ln:cH nI.db j=false:=by
    rw [Bool.eq_false_iff]; intro a3
    have:=cV.Hf rfl j aC a3
    rw [ej,(yD hp'.1 hp'.2).2 this] at ar; cases ar
   rw [iO,ln]
theorem CB {α:Type} [Inhabited α] {l:List α} (h:l.length=1):l= [aN l 0]:=by
 match l,h with
 | [x],_=>rfl
theorem MJ {α:Type} [Inhabited α] {l:List α} (h:l.length=2):l= [aN l 0,aN l 1]:=by
 match l,h with
 | [x,y],_=>rfl
theorem z9 {s:aZ} (h:dK s) {a c:bo} (bg:iI s 0 a) (aj:iI s 0 c):h1 a c=true↔ey a=ey c:=by
 rw [vS]
 have pq:=bg.len; have lc:=aj.len
 have Au:=bg.z7 0; have Av:=aj.z7 0
 have Dr:=bg.pri; have Ds:=aj.pri
 rw [h.FW] at pq lc Au Av Dr Ds
 have au:∀ i,i < [rz].length→ (aN [rz] i).c9≤2:=by decide
 refine⟨fun⟨J,ad,ax⟩=>by unfold ey; rw [ad],fun e=>⟨by rw [bg.kB,aj.kB],?_,by rw [Dr au,Ds au]⟩⟩
 have kF:=(MH.1 e).1
 rw [vB (by decide),vB (by decide),pq,lc] at kF
 have kF:(aN a.c8 0).db=(aN c.c8 0).db:=kF
 rw [CB (l:=a.c8) pq,CB (l:=c.c8) lc,Kh (Au (by decide)) (Av (by decide)) kF]
theorem wP {s:aZ} (h:dK s) {a c:bo} (bg:iI s 1 a) (aj:iI s 1 c):h1 a c=true↔gE (ey a)=gE (ey c)∧iP a=iP c:=by
 rw [vS]
 have pq:=bg.len; have lc:=aj.len
 have Au:=bg.z7 1; have Av:=aj.z7 1
 have Dr:=MI h bg; have Ds:=MI h aj
 have HX:=zo h bg; have Xj:=zo h aj
 obtain⟨b,hb⟩:=h.FX
 rw [hb] at pq lc Au Av
 refine⟨fun⟨J,ad,ax⟩=>by unfold ey iP; rw [ad]; exact⟨rfl,rfl⟩,fun⟨e,e'⟩=>⟨by rw [bg.kB,aj.kB],?_,by rw [Dr,Ds]⟩⟩
 have bB:=R6 HX Xj e'
 cases b
 ·rw [CB (l:=a.c8) pq,CB (l:=c.c8) lc,bB]
 ·have aE:=(MH.1 e).2.1
  rw [Kf,Kf,if_neg (by decide),if_neg (by decide),vB (by decide),vB (by decide),pq,lc] at aE
  have aE:(aN a.c8 1).db=(aN c.c8 1).db:=aE
  rw [MJ (l:=a.c8) pq,MJ (l:=c.c8) lc,bB,Kh (Au (by decide)) (Av (by decide)) aE]
end Go.Proofs.YtmnggbjcnoffeaaGreat
namespace Go.Proofs.YtmnggbjcnoffeaaGreat
open Go Gv
set_option linter.unusedVariables false
set_option linter.unusedSimpArgs false
set_option maxRecDepth 100000
structure ib (s:aZ) (k:Nat) (l:List aH):Prop where
 ok:kC s k l
 key:l.Pairwise fun a c=>h1 a.bQ c.bQ=false
theorem ib.uniq {s:aZ} {k:Nat} {l:List aH} (h:ib s k l) {a c:aH} (bg:a∈l) (aj:c∈l) (e:h1 a.bQ c.bQ=true):a=c:=by
 have aL:=h.key
 clear h
 induction l with
 | nil=>cases bg
 | cons x l bz=>
   obtain⟨J,ad⟩:=List.pairwise_cons.1 aL
   rcases List.mem_cons.1 bg with ay | ay <;> rcases List.mem_cons.1 aj with bf | bf
   ·rw [ay,bf]
   ·rw [ay,J c bf] at e; cases e
   ·rw [bf,E6,J a ay] at e; cases e
   ·exact bz ay bf ad
def eZ (l:List aH) (e:bo):Option aH:=l.find? fun i=>h1 i.bQ e
theorem vC {l:List aH} {e:bo} {i:aH} (h:eZ l e=some i):i∈l∧h1 i.bQ e=true:=by
 unfold eZ at h
 have ad:=List.find?_some h
 exact⟨List.mem_of_find?_eq_some h,ad⟩
theorem tg {l:List aH} {e:bo} (h:eZ l e=none):∀ i∈l,h1 i.bQ e=false:=fun i aq=>by
 have:=List.find?_eq_none.1 h i aq
 simpa using this
def rA (o:Option aH):Int × Bool:=match o with | some i=>(i.b8,true) | none=>(0,false)
def ml {α β:Type} (l:List (α × β)):Prop:=l.Pairwise fun a c=>a.1≠c.1
theorem JK {α β:Type} [DecidableEq α]:∀ {l:List (α × β)} {x:α} {v:β} {a:α × β},a∈fo l x v→a.1=x∨a∈l
 | [],x,v,a,h=>by
   have:a=(x,v):=by simpa [fo] using h
   rw [this]; exact .inl rfl
 | (k,w) :: r,x,v,a,h=>by
   unfold fo at h
   split at h
   ·rcases List.mem_cons.1 h with h | h
    ·rw [h]; exact .inl rfl
    ·exact .inr (by simp [h])
   ·rcases List.mem_cons.1 h with h | h
    ·exact .inr (by simp [h])
    ·exact(JK h).imp id fun h=>List.mem_cons_of_mem _ h
theorem ml.put {α β:Type} [DecidableEq α]:∀ {l:List (α × β)} {x:α} {v:β},ml l→ml (fo l x v)
 | [],x,v,_=>by unfold fo ml; simp
 | (k,w) :: r,x,v,h=>by
   obtain⟨J,ad⟩:=List.pairwise_cons.1 h
   unfold fo
   split
   ·rename_i e
    refine List.pairwise_cons.2 ⟨fun a bg=> ?_,ad⟩
    have:=J a bg
    rw [e]; exact this
   ·rename_i e
    refine List.pairwise_cons.2 ⟨fun a bg=> ?_,ml.put ad⟩
    rcases JK bg with g | g
    ·rw [g]; exact fun e'=>e e'.symm
    ·exact J a g
theorem JL {α β:Type} [DecidableEq α]:∀ {l:List (α × β)} {x:α} {a:α × β},a∈g3 l x→a∈l
 | [],x,a,h=>by cases h
 | (k,w) :: r,x,a,h=>by
   unfold g3 at h
   split at h
   ·exact List.mem_cons_of_mem _ h
   ·rcases List.mem_cons.1 h with h | h
    ·simp [h]
    ·exact List.mem_cons_of_mem _ (JL h)
theorem ml.del {α β:Type} [DecidableEq α]:∀ {l:List (α × β)} {x:α},ml l→ml (g3 l x)
 | [],x,_=>by unfold g3 ml; exact .nil
 | (k,w) :: r,x,h=>by
   obtain⟨J,ad⟩:=List.pairwise_cons.1 h
   unfold g3
   split
   ·exact ad
   ·exact List.pairwise_cons.2 ⟨fun a bg=>J a (JL bg),ml.del ad⟩
theorem Ki {α β:Type} [DecidableEq α]:∀ {l:List (α × β)} {x:α},(∀ a∈l,a.1≠x)→dt l x=none
 | [],_,_=>rfl
 | (k,w) :: r,x,h=>by
   unfold dt
   rw [if_neg fun e=>h (k,w) (by simp) e.symm,Ki fun a bg=>h a (by simp [bg])]
theorem x5 {α β:Type} [DecidableEq α]:∀ {l:List (α × β)} {x y:α},ml l→dt (g3 l x) y=if y=x then none else dt l y
 | [],x,y,_=>by
   show none=if y=x then none else none
   split <;> rfl
 | (k,w) :: r,x,y,h=>by
   obtain⟨J,ad⟩:=List.pairwise_cons.1 h
   unfold g3
   by_cases e:x=k
   ·rw [if_pos e]
    by_cases bd:y=x
    ·rw [if_pos bd,bd,e]; exact Ki fun a bg=>(J a bg).symm
    ·rw [if_neg bd]; show _=if y=k then _ else _; rw [if_neg (by rw [← e]; exact bd)]
   ·rw [if_neg e]
    show(if y=k then some w else dt (g3 r x) y)=_
    by_cases bd:y=k
    ·rw [if_pos bd,if_neg (by rw [bd]; exact fun ej=>e ej.symm)]; show _=if y=k then _ else _; rw [if_pos bd]
    ·rw [if_neg bd,x5 ad]
     show _=if y=x then none else if y=k then _ else _
     rw [if_neg bd]
structure vT (s:aZ) (hp:aI Cell) (q:Nat) (l:List aH) (own:Nat→Prop):Prop where
 ok:∃ m em,l0 hp q=some ⟨⟨some m⟩⟩∧k4 hp m=some em∧own q∧own m∧ (∀ cz n,dt em cz=some n↔ ∃ i∈l,ey i.bQ=cz∧i.b8=n)∧ml em
structure lB (s:aZ) (hp:aI Cell) (m:Nat) (l:List aH) (own:Nat→Prop):Prop where
 ok:∃ em,jd hp m=some em∧own m∧
  (∀ cz r,dt em cz=some r→ ∃ t g,r=some t∧h3 hp t g∧ (∀ q,Own hp t q→own q)∧ ∀ aU n,g aU=some n↔ ∃ i∈l,gE (ey i.bQ)=cz∧iP i.bQ=aU∧i.b8=n)∧
  (∀ cz,dt em cz=none→ ∀ i∈l,gE (ey i.bQ)≠cz)∧
  (∀ cz iQ t eT,dt em cz=some (some t)→dt em iQ=some (some eT)→cz≠iQ→ ∀ q,Own hp t q→ ¬ Own hp eT q)∧ml em
structure vU (s:aZ) (k:Nat) (hp:aI Cell) (q:Nat) (l:List aH) (own:Nat→Prop):Prop where
 ok:∃ key cap,ni hp q=some (qF s k l,key,cap)∧own q
def oM (s:aZ) (k:Nat) (hp:aI Cell) (f:gd) (l:List aH) (own:Nat→Prop):Prop:=
 (k=0∧ ∃ q,f= .l3 ⟨some q⟩∧vT s hp q l own)∨ (k=1∧ ∃ m,f= .l4 ⟨0,32,⟨some m⟩⟩∧lB s hp m l own)∨ (2≤k∧ ∃ q,f= .l5 ⟨some q⟩∧vU s k hp q l own)
theorem Eb {hp hp':aI Cell} {p:Nat} (h:pat hp' p=pat hp p):l0 hp' p=l0 hp p:=by unfold l0; rw [h]
theorem P0 {hp hp':aI Cell} {p:Nat} (h:pat hp' p=pat hp p):k4 hp' p=k4 hp p:=by unfold k4; rw [h]
theorem Bf {hp hp':aI Cell} {p:Nat} (h:pat hp' p=pat hp p):jd hp' p=jd hp p:=by unfold jd; rw [h]
theorem P1 {hp hp':aI Cell} {p:Nat} (h:pat hp' p=pat hp p):ni hp' p=ni hp p:=by unfold ni; rw [h]
theorem P2 {hp hp':aI Cell} {p:Nat} (h:pat hp' p=pat hp p):hk hp' p=hk hp p:=by unfold hk; rw [h]
theorem P3 {hp hp':aI Cell} {p:Nat} (h:pat hp' p=pat hp p):j3 hp' p=j3 hp p:=by unfold j3; rw [h]
theorem oM.congr {s:aZ} {k:Nat} {hp hp':aI Cell} {f:gd} {l:List aH} {own:Nat→Prop} (h:oM s k hp f l own) {own':Nat→Prop} (a6:∀ q,q∈dQ hp→own q→own' q) (bg:∀ q,own q→pat hp' q=pat hp q):oM s k hp' f l own':=by
 rcases h with⟨rfl,q,rfl,h⟩ | ⟨rfl,m,rfl,h⟩ | ⟨au,q,rfl,h⟩
 ·obtain⟨m,em,J,ad,ax,aR,aW,h6⟩:=h.ok
  refine .inl ⟨rfl,q,rfl,⟨m,em,by rw [Eb (bg q ax)]; exact J,by rw [P0 (bg m aR)]; exact ad,a6 q (hU (rP J)) ax,a6 m (hU (pC ad)) aR,aW,h6⟩⟩
 ·obtain⟨em,J,ad,ax,aR,aW,h6⟩:=h.ok
  have key:∀ cz r,dt em cz=some r→ ∃ t g,r=some t∧h3 hp t g∧h3 hp' t g∧ (∀ q,Own hp t q→own q)∧ (∀ q,Own hp' t q↔Own hp t q)∧ ∀ aU n,g aU=some n↔ ∃ i∈l,gE (ey i.bQ)=cz∧iP i.bQ=aU∧i.b8=n:=fun cz r aQ=>by
   obtain⟨t,g,rfl,ay,bf,bJ⟩:=ax cz r aQ
   obtain⟨dz,oo⟩:=ay.congr fun q hq=>bg q (bf q hq)
   exact⟨t,g,rfl,ay,dz,bf,oo,bJ⟩
  refine .inr (.inl ⟨rfl,m,rfl,⟨em,by rw [Bf (bg m ad)]; exact J,a6 m (hU (lA J)) ad,fun cz r aQ=> ?_,aR,fun cz iQ t eT bI uM cQ q hq=> ?_,h6⟩⟩)
  ·obtain⟨t,g,rfl,g0,ay,bf,bJ,dz⟩:=key cz r aQ
   exact⟨t,g,rfl,ay,fun q hq=>a6 q (g0.tx ((bJ q).1 hq)) (bf q ((bJ q).1 hq)),dz⟩
  ·obtain⟨_,g,e,g0,ay,bf,bJ,dz⟩:=key cz _ bI
   obtain⟨_,eH,e',Yp,Xk,Xl,Xm,Yq⟩:=key iQ _ uM
   cases e; cases e'
   rw [Xm]
   exact aW cz iQ t eT bI uM cQ q ((bJ q).1 hq)
 ·obtain⟨key,cap,J,ad⟩:=h.ok
  exact .inr (.inr ⟨au,q,rfl,⟨key,cap,by rw [P1 (bg q ad)]; exact J,a6 q (hU (ts J)) ad⟩⟩)
theorem BF {e:bo} (ar:e.c8.length≤4):rE e=some (ey e):=by
 refine bK.get ?_
 unfold rE
 refine .eq (a:=e.c8) (by unfold tt; rw [if_pos ⟨by omega,by omega,by omega⟩,Int.toNat_zero,List.drop_zero,Nat.sub_zero,List.take_of_length_le (by omega)]) ?_
 refine bK.loop e.c8.length (fun i st=>st.1=(i:Int)∧ ∀ j,j < 4→cg st.2 j=if j < i then(aN e.c8 j).db else default) (by omega) ⟨rfl,fun j aC=>by rw [D5]; rfl⟩ (fun i st aq hs=> ?_) (fun st hs=> ?_)
 ·obtain⟨j,v⟩:=st
  obtain⟨aE,bd⟩:=hs
  simp only at aE bd; subst aE
  refine .cond (fun _=> ?_) (fun aj=>by simp at aj; omega)
  refine .idx rfl aq (.idx rfl (by omega) (.ret ⟨iG (by omega),fun j aC=> ?_⟩))
  rw [x3 _ _ (by omega)]
  by_cases hx:j=i
  ·rw [if_pos hx,if_pos (by omega),hx]
  ·rw [if_neg hx,bd j aC]
   by_cases h:j < i
   ·rw [if_pos h,if_pos (by omega)]
   ·rw [if_neg h,if_neg (by omega)]
 ·obtain⟨j,v⟩:=st
  obtain⟨aE,bd⟩:=hs
  simp only at aE bd; subst aE
  refine⟨_,by simp; rfl,.ret ?_⟩
  exact JA fun j aC=>by rw [bd j aC,vB aC]
theorem iI.CC {s:aZ} (h:dK s) {k:Nat} (au:k < 4) {e:bo} (he:iI s k e):e.c8.length≤4∧1≤e.c8.length:=by
 have:=(h.kB au).2.1
 rw [he.len]; omega
theorem Rm {a c:List b6} (ar:a.length≤1000):w3 a c=some (decide (a=c)):=by
 refine bK.get ?_
 unfold w3
 refine .cond (fun h=> .ret ?_) fun h=> ?_
 ·have:a≠c:=fun e=>by rw [e] at h; simp at h
  simp [this]
 have CZ:c.length=a.length:=by
  have:(a.length:Int)=c.length:=by simpa using h
  omega
 refine bK.loop a.length (fun i st=>st=(i:Int)∧ ∀ j,j < i→aN a j=aN c j) (by omega) ⟨rfl,fun j aC=>by omega⟩ (fun i st aq hs=> ?_) (fun st hs=> ?_)
 ·obtain⟨rfl,hs⟩:=hs
  refine .cond (fun _=> ?_) (fun aj=>by simp at aj; omega)
  refine .idx rfl aq (.idx rfl (by omega) (.cond (fun cQ=> .ret ?_) fun he=> .ret ⟨iG (by omega),fun j aC=> ?_⟩))
  ·simp only [Sum.elim_inr]
   refine .ret ?_
   have:a≠c:=fun e=>by rw [e] at cQ; simp at cQ
   simp [this]
  ·by_cases hx:j=i
   ·subst hx; simpa using he
   ·exact hs j (by omega)
 ·obtain⟨rfl,hs⟩:=hs
  refine⟨_,by simp; rfl,?_⟩
  simp only [Sum.elim_inl]
  refine .ret ?_
  have:a=c:=List.ext_getElem CZ.symm fun j J ad=>by
   have:=hs j J
   rwa [gf _ J,gf _ ad] at this
  simp [this]
theorem Qk {a c:bo} (ar:a.c8.length≤1000):xE a c=some (h1 a c):=by
 refine bK.get ?_
 unfold xE h1
 refine .c5 (P:=fun r=>r=decide (a.c8=c.c8)) (fun _=>⟨_,Rm ar,rfl⟩) fun y a7=> .ret ?_
 by_cases h:a.dD=c.dD
 ·rw [a7 (by simpa using h)]
  rw [Bool.eq_iff_iff]
  simp [h]
 ·simp [h]
theorem UE {s:aZ} (h:dK s) {hp:aI Cell} {q:Nat} {l:List aH} {own:Nat→Prop} (hq:vT s hp q l own) (ar:ib s 0 l) {e:bo} (he:iI s 0 e):xp hp ⟨some q⟩ e=some (rA (eZ l e)):=by
 obtain⟨m,em,J,ad,_,_,aW,_⟩:=hq.ok
 refine bK.get ?_
 unfold xp ve
 refine .eq (BF (he.CC h (by decide)).1) ?_
 have hm:dt em (ey e)=(eZ l e).map (·.b8):=by
  cases a0:eZ l e with
  | none=>
    cases bx:dt em (ey e) with
    | none=>rfl
    | some n=>
      obtain⟨i,aq,bc,_⟩:=(aW _ _).1 bx
      have:=tg a0 i aq
      rw [(z9 h (ar.ok.ok i aq).fh he).2 bc] at this; cases this
  | some i=>
    obtain⟨aq,au⟩:=vC a0
    exact(aW _ _).2 ⟨i,aq,(z9 h (ar.ok.ok i aq).fh he).1 au,rfl⟩
 refine .eq (a:=rA (eZ l e)) ?_ (.ret rfl)
 show(l0 hp q).bind _=_
 rw [J]
 show(k4 hp m).bind _=_
 rw [ad]
 show some ((dt em (ey e)).getD default,(dt em (ey e)).isSome)=_
 rw [hm]
 cases eZ l e <;> rfl
theorem E7 {s:aZ} (h:dK s) {e:bo} (he:iI s 1 e) (m:eV):sI ⟨0,32,m⟩ e=some (gE (ey e),(aN e.c8 0).db,(aN e.c8 0).gY):=by
 have ar:=he.CC h (by decide)
 refine bK.get ?_
 unfold sI AF
 refine .eq (BF ar.1) (.eq (a:=(gE (ey e),cg (ey e) 0)) rfl (.cond (fun aj=>by have aj:(0:Int)≥ (e.c8.length:Int):=of_decide_eq_true aj; omega) fun _=> .idx (k:=0) rfl (by omega) (.ret ?_)))
 rw [vB (by decide),if_pos (by omega)]
theorem EM {m:b6} (h:n2 2 32 m):∀ j,j < 128→cH m.db j=true→lead 32 m.gY j=true:=fun j aC a3=>
 (yD h.pre.1 h.pre.2).2 (h.Hf rfl j aC a3)
theorem UF {s:aZ} (h:dK s) {hp:aI Cell} {m:Nat} {l:List aH} {own:Nat→Prop} (hq:lB s hp m l own) (ar:ib s 1 l) {e:bo} (he:iI s 1 e):xf hp ⟨0,32,⟨some m⟩⟩ e=some (rA (eZ l e)):=by
 obtain⟨em,J,_,ax,aR,_⟩:=hq.ok
 have gk:=zo h he
 refine bK.get ?_
 unfold xf
 refine .eq (E7 h he _) (.eq rfl (.eq J (.eq rfl ?_)))
 obtain⟨n,aL⟩:=Int.eq_ofNat_of_zero_le gk.pre.1
 have zp:n≤32:=by have:=gk.pre.2; omega
 have r8:=EM gk
 refine .eq (a:=rA (eZ l e)) ?_ (.ret rfl)
 simp only
 cases aQ:dt em (gE (ey e)) with
 | none=>
   have a0:eZ l e=none:=by
    cases a0:eZ l e with
    | none=>rfl
    | some i=>
      obtain⟨aq,au⟩:=vC a0
      exact absurd ((wP h (ar.ok.ok i aq).fh he).1 au).1 (aR _ aQ i aq)
   rw [a0]; rfl
 | some r=>
   obtain⟨t,g,rfl,ay,_,bJ⟩:=ax _ _ aQ
   have bx:g (iP e)=(eZ l e).map (·.b8):=by
    cases a0:eZ l e with
    | none=>
      cases Hl:g (iP e) with
      | none=>rfl
      | some n=>
        obtain⟨i,aq,bc,cn,_⟩:=(bJ _ _).1 Hl
        have:=tg a0 i aq
        rw [(wP h (ar.ok.ok i aq).fh he).2 ⟨bc,cn⟩] at this; cases this
    | some i=>
      obtain⟨aq,au⟩:=vC a0
      obtain⟨bc,cn⟩:=(wP h (ar.ok.ok i aq).fh he).1 au
      exact(bJ _ _).2 ⟨i,aq,bc,cn,rfl⟩
   rw [aL] at r8 ⊢
   show sV hp (some t) _ (n:Int)=_
   rw [KX ay zp r8]
   have hp':dU (aN e.c8 0).db n=iP e:=by unfold iP; rw [aL]; rfl
   rw [hp',bx]
   cases eZ l e <;> rfl
theorem UG {s:aZ} (h:dK s) {k:Nat} (au:k < 4) {hp:aI Cell} {q:Nat} {l:List aH} {own:Nat→Prop} (hq:vU s k hp q l own) (ar:ib s k l) {e:bo} (he:iI s k e):xv hp ⟨some q⟩ e=some (rA (eZ l e)):=by
 obtain⟨key,cap,J,_⟩:=hq.ok
 refine bK.get ?_
 unfold xv
 refine .eq rfl (.eq J (.eq (SL h au ar.ok) ?_))
 obtain⟨iW,gJ⟩:=ar.ok.gL
 have a0:eZ l e=(gL (hc s k) l).find? fun i=>h1 i.bQ e:=by
  cases a0:eZ l e with
  | none=>
    symm
    rw [List.find?_eq_none]
    intro x ak
    rw [tg a0 x (rX.1 ak)]; simp
  | some i=>
    obtain⟨aq,od⟩:=vC a0
    exact(R3 (BS s k) ar.ok.Hj aq od fun d hd Xn=> .inl (ar.uniq hd aq (JJ Xn (by rw [E6]; exact od)))).symm
 rw [a0]
 refine bK.loop (gL (hc s k) l).length (fun i st=>st=(i:Int)∧ ∀ j,j < i→h1 (aN (gL (hc s k) l) j).bQ e=false) (by omega) ⟨rfl,fun j aC=>by omega⟩ (fun i st aq hs=> ?_) (fun st hs=> ?_)
 ·obtain⟨rfl,hs⟩:=hs
  refine .cond (fun _=> ?_) (fun aj=>by simp at aj; omega)
  have hm:=iW (aN (gL (hc s k) l) i) (by rw [gf _ aq]; exact List.getElem_mem _)
  refine .idx rfl aq (.eq (Qk (hm.small h au).1) (.cond (fun aj=> .ret ?_) fun aj=> .ret ⟨iG (by omega),fun j aC=> ?_⟩))
  ·simp only [Sum.elim_inr]
   refine .ret ?_
   rw [RU (p:=fun i=>h1 i.bQ e) aq aj hs]; rfl
  ·by_cases hx:j=i
   ·subst hx; exact aj
   ·exact hs j (by omega)
 ·obtain⟨rfl,hs⟩:=hs
  refine⟨_,by simp; rfl,?_⟩
  simp only [Sum.elim_inl]
  refine .ret ?_
  rw [RV fun c aj=> ?_]
  ·rfl
  ·obtain⟨j,aC,rfl⟩:=List.mem_iff_getElem.1 aj
   rw [← gf _ aC]; exact hs j aC
theorem L3 {s:aZ} (h:dK s) {k:Nat} (au:k < 4) {hp:aI Cell} {f:gd} {l:List aH} {own:Nat→Prop} (hq:oM s k hp f l own) (ar:ib s k l) {e:bo} (he:iI s k e):AO hp f e=some (rA (eZ l e)):=by
 rcases hq with⟨rfl,q,rfl,hq⟩ | ⟨rfl,m,rfl,hq⟩ | ⟨dV,q,rfl,hq⟩
 ·exact UE h hq ar he
 ·exact UF h hq ar he
 ·exact UG h au hq ar he
end Go.Proofs.YtmnggbjcnoffeaaGreat
namespace Go.Proofs.YtmnggbjcnoffeaaGreat
open Go Gv
set_option linter.unusedVariables false
set_option linter.unusedSimpArgs false
set_option maxRecDepth 100000
def kq (own:Nat→Prop) (hp hp':aI Cell) (q:Nat):Prop:=own q∨ (q ∉ dQ hp∧q∈dQ hp')
theorem JM {hp:aI Cell} {p:Nat} {k:Cell} {x:List (Vector az 4 × Int)} (h:pat hp p=some k):k4 (cx hp p (.mK x)) p=some x:=by unfold k4; rw [qv h]
theorem JN {hp:aI Cell} {p:Nat} {k:Cell} {x:List (Vector az 4 × Ref)} (h:pat hp p=some k):jd (cx hp p (.kL x)) p=some x:=by unfold jd; rw [qv h]
theorem VX {s:aZ} (h:dK s) {hp:aI Cell} {q:Nat} {l:List aH} {own:Nat→Prop} (hq:vT s hp q l own) (ar:ib s 0 l) {i:aH} (aq:kV s 0 i) (a0:eZ l i.bQ=none):
 bK (xx hp ⟨some q⟩ i) (fun hp'=>vT s hp' q (l ++ [i]) (kq own hp hp')∧eh hp hp' own):=by
 obtain⟨m,em,J,ad,ax,aR,aW,h6⟩:=hq.ok
 have eX:dt em (ey i.bQ)=none:=by
  cases bx:dt em (ey i.bQ) with
  | none=>rfl
  | some n=>
    obtain⟨c,aj,bc,_⟩:=(aW _ _).1 bx
    have:=tg a0 c aj
    rw [(z9 h (ar.ok.ok c aj).fh aq.fh).2 bc] at this; cases this
 unfold xx A4
 refine .eq (BF (aq.fh.CC h (by decide)).1) ?_
 refine .eq (a:=(true,cx hp m (Cell.mK (fo em (ey i.bQ) i.b8)))) ?_ (.ret ?_)
 ·show(l0 hp q).bind _=_
  rw [J]
  show(k4 hp m).bind _=_
  rw [ad]
  show cond (dt em (ey i.bQ)).isSome _ _=_
  rw [eX]; rfl
 have Aa:q≠m:=fun e=>by
  subst e
  have:=rP J
  rw [pC ad] at this; cases this
 refine⟨⟨m,_,by rw [Eb (k0 Aa.symm)]; exact J,JM (pC ad),.inl ax,.inl aR,fun cz n=> ?_,h6.put⟩,.up aR⟩
 rw [rJ]
 by_cases fZ:cz=ey i.bQ
 ·rw [if_pos fZ]
  constructor
  ·intro e
   cases e
   exact⟨i,by simp,fZ.symm,rfl⟩
  ·rintro ⟨c,aj,bc,cn⟩
   rcases List.mem_append.1 aj with aj | aj
   ·have:=(aW _ _).2 ⟨c,aj,bc,cn⟩
    rw [fZ,eX] at this; cases this
   ·rw [List.mem_singleton.1 aj] at cn; rw [cn]
 ·rw [if_neg fZ,aW]
  constructor
  ·rintro ⟨c,aj,bc⟩; exact⟨c,by simp [aj],bc⟩
  ·rintro ⟨c,aj,bc,cn⟩
   rcases List.mem_append.1 aj with aj | aj
   ·exact⟨c,aj,bc,cn⟩
   ·rw [List.mem_singleton.1 aj] at bc; exact absurd bc.symm fZ
theorem VY {s:aZ} (h:dK s) {hp:aI Cell} {m:Nat} {l:List aH} {own:Nat→Prop} (hq:lB s hp m l own) (ec:∀ q,own q→q∈dQ hp) (ar:ib s 1 l) {i:aH} (aq:kV s 1 i) (a0:eZ l i.bQ=none)
 {em:List (Vector az 4 × Ref)} (kW:jd hp m=some em) {t:Nat} (bI:dt em (gE (ey i.bQ))=some (some t)):
 dh (vk hp (some t) (aN i.bQ.c8 0).db (aN i.bQ.c8 0).gY i.b8) (fun r=>lB s r.2 m (l ++ [i]) (kq own hp r.2)∧eh hp r.2 own):=by
 obtain⟨Xo,J,ad,ax,aR,aW,h6⟩:=hq.ok
 rw [kW] at J; cases J
 have gk:=zo h aq.fh
 obtain⟨eT,g,e,ay,bf,bJ⟩:=ax _ _ bI
 cases e
 obtain⟨n,aL⟩:=Int.eq_ofNat_of_zero_le gk.pre.1
 have zp:n≤32:=by have:=gk.pre.2; omega
 have r8:=EM gk
 have hp':dU (aN i.bQ.c8 0).db n=iP i.bQ:=by unfold iP; rw [aL]; rfl
 have eX:g (iP i.bQ)=none:=by
  cases Hl:g (iP i.bQ) with
  | none=>rfl
  | some n=>
    obtain⟨c,aj,bc,cn,_⟩:=(bJ _ _).1 Hl
    have:=tg a0 c aj
    rw [(wP h (ar.ok.ok c aj).fh aq.fh).2 ⟨bc,cn⟩] at this; cases this
 rw [aL] at r8 ⊢
 refine(UC ay zp r8 i.b8 (by rw [hp']; exact eX)).mono fun r aQ=> ?_
 obtain⟨_,iW,gJ,pj⟩:=aQ
 rw [hp'] at iW
 have Hm:∀ q,Own hp t q→q≠m:=fun q Hn e=>by
  have:=lA kW
  rw [← e] at this
  rcases ay.BU Hn with⟨c,aj⟩ | ⟨c,aj⟩ <;> rw [aj] at this <;> cases this
 have jC:pat r.2 m=pat hp m:=gJ.rest m (hU (lA kW)) fun hq=>Hm m hq rfl
 have pG:∀ cz eT,cz≠gE (ey i.bQ)→dt em cz=some (some eT)→ ∃ eH,h3 hp eT eH∧h3 r.2 eT eH∧ (∀ q,Own hp eT q→own q)∧ (∀ q,Own r.2 eT q↔Own hp eT q)∧ ∀ aU n,eH aU=some n↔ ∃ i∈l,gE (ey i.bQ)=cz∧iP i.bQ=aU∧i.b8=n:=fun cz eT cQ aQ=>by
  obtain⟨Xp,eH,e,cR,cy,gb⟩:=ax cz _ aQ
  cases e
  obtain⟨dH,dR⟩:=cR.congr (hp':=r.2) fun q hq=>gJ.rest q (cR.tx hq) fun iN=>aW _ _ _ _ bI aQ cQ.symm q iN hq
  exact⟨eH,cR,dH,cy,dR,gb⟩
 have zn:∀ q,Own r.2 t q→kq own hp r.2 q:=fun q hq=>by
  rcases pj q hq with bc | bc
  ·exact .inl (bf q bc)
  ·exact .inr ⟨bc,iW.tx hq⟩
 refine⟨⟨em,by rw [Bf jC]; exact kW,.inl ad,fun cz kG hZ=> ?_,fun cz fZ c aj=> ?_,fun cz iQ t1 t2 h9 jl cQ q iA mT=> ?_,h6⟩,⟨gJ.keys,fun q hq eX=>gJ.rest q hq fun iN=>eX (bf q iN)⟩⟩
 ·by_cases fZ:cz=gE (ey i.bQ)
  ·subst fZ
   rw [bI] at hZ; cases hZ
   refine⟨t,_,rfl,iW,zn,fun aU rq=> ?_⟩
   by_cases jV:aU=iP i.bQ
   ·simp only [if_pos jV]
    constructor
    ·intro e; cases e
     exact⟨i,by simp,rfl,jV.symm,rfl⟩
    ·rintro ⟨c,aj,bc,cn,eo⟩
     rcases List.mem_append.1 aj with aj | aj
     ·have:=(bJ _ _).2 ⟨c,aj,bc,cn,eo⟩
      rw [jV,eX] at this; cases this
     ·rw [List.mem_singleton.1 aj] at eo; rw [eo]
   ·simp only [if_neg jV]
    rw [bJ]
    constructor
    ·rintro ⟨c,aj,bc⟩; exact⟨c,by simp [aj],bc⟩
    ·rintro ⟨c,aj,bc,cn,eo⟩
     rcases List.mem_append.1 aj with aj | aj
     ·exact⟨c,aj,bc,cn,eo⟩
     ·rw [List.mem_singleton.1 aj] at cn; exact absurd cn.symm jV
  ·obtain⟨eT,eH,e,_⟩:=ax cz kG hZ
   subst e
   obtain⟨uN,cR,cy,gb,iR,oq⟩:=pG cz eT fZ hZ
   refine⟨eT,uN,rfl,cy,fun q hq=> .inl (gb q ((iR q).1 hq)),fun aU rq=> ?_⟩
   rw [oq]
   constructor
   ·rintro ⟨c,aj,bc⟩; exact⟨c,by simp [aj],bc⟩
   ·rintro ⟨c,aj,bc,cn⟩
    rcases List.mem_append.1 aj with aj | aj
    ·exact⟨c,aj,bc,cn⟩
    ·rw [List.mem_singleton.1 aj] at bc; exact absurd bc.symm fZ
 ·rcases List.mem_append.1 aj with aj | aj
  ·exact aR cz fZ c aj
  ·rw [List.mem_singleton.1 aj]
   intro e
   rw [← e,bI] at fZ; cases fZ
 ·
  have KY:∀ cz eT,cz≠gE (ey i.bQ)→dt em cz=some (some eT)→ ∀ q,Own r.2 t q→ ¬ Own r.2 eT q:=fun cz eT cQ aQ q hq iN=>by
   obtain⟨uN,cR,cy,gb,iR,oq⟩:=pG cz eT cQ aQ
   have iN:=(iR q).1 iN
   rcases pj q hq with bc | bc
   ·exact aW _ _ _ _ bI aQ cQ.symm q bc iN
   ·exact bc (cR.tx iN)
  by_cases aE:cz=gE (ey i.bQ)
  ·subst aE
   rw [bI] at h9; cases h9
   exact KY iQ t2 cQ.symm jl q iA mT
  ·by_cases bd:iQ=gE (ey i.bQ)
   ·subst bd
    rw [bI] at jl; cases jl
    exact KY cz t1 aE h9 q mT iA
   ·obtain⟨_,_,_,_,iR,_⟩:=pG cz t1 aE h9
    obtain⟨_,_,_,_,Dp,_⟩:=pG iQ t2 bd jl
    exact aW _ _ _ _ h9 jl cQ q ((iR q).1 iA) ((Dp q).1 mT)
end Go.Proofs.YtmnggbjcnoffeaaGreat
namespace Go.Proofs.YtmnggbjcnoffeaaGreat
open Go Gv
set_option linter.unusedVariables false
set_option linter.unusedSimpArgs false
set_option maxRecDepth 100000
theorem Pw {own:Nat→Prop} {bB J ad:aI Cell} {q:Nat} (au:∀ q,q∈dQ bB→q∈dQ J) (dV:∀ q,q∈dQ J→q∈dQ ad) (h:kq (kq own bB J) J ad q):kq own bB ad q:=by
 rcases h with(h | ⟨h,cV⟩) | ⟨h,cV⟩
 ·exact .inl h
 ·exact .inr ⟨h,dV q cV⟩
 ·exact .inr ⟨fun ax=>h (au q ax),cV⟩
theorem lB.mono {s:aZ} {hp:aI Cell} {m:Nat} {l:List aH} {own own':Nat→Prop} (h:lB s hp m l own) (a6:∀ q,own q→own' q):lB s hp m l own':=by
 obtain⟨em,J,ad,ax,aR,aW,h6⟩:=h.ok
 exact⟨em,J,a6 m ad,fun cz r aQ=>by obtain⟨t,g,e,a,b,c⟩:=ax cz r aQ; exact⟨t,g,e,a,fun q hq=>a6 q (b q hq),c⟩,aR,aW,h6⟩
theorem eh.grow {bB J ad:aI Cell} {own:Nat→Prop} (a:eh bB J own) (b:eh J ad (kq own bB J)):eh bB ad own:=
 a.trans b fun q hq h=>h.elim (fun h=>h) fun h=>absurd hq h.1
theorem VZ {s:aZ} {hp:aI Cell} {m:Nat} {l:List aH} {own:Nat→Prop} (hq:lB s hp m l own)
 {em:List (Vector az 4 × Ref)} (kW:jd hp m=some em) {cz:Vector az 4} (eX:dt em cz=none) {a:Nat} (bg:a ∉ dQ hp) {z:fb} (dg:z.fm=32) (aQ:z.ck=none):
 lB s (cx ((a,Cell.iK z) :: hp) m (.kL (fo em cz (some a)))) m l (kq own hp (cx ((a,Cell.iK z) :: hp) m (.kL (fo em cz (some a)))))∧eh hp (cx ((a,Cell.iK z) :: hp) m (.kL (fo em cz (some a)))) own∧
  jd (cx ((a,Cell.iK z) :: hp) m (.kL (fo em cz (some a)))) m=some (fo em cz (some a)):=by
 obtain⟨Xo,J,ad,ax,aR,aW,h6⟩:=hq.ok
 rw [kW] at J; cases J
 have jC:=lA kW
 have Nt:=x4 bg jC
 have cM:pat ((a,Cell.iK z) :: hp) m=some (.kL em):=by rw [oA,if_neg Nt]; exact jC
 generalize cX:cx ((a,Cell.iK z) :: hp) m (.kL (fo em cz (some a)))=cd
 have ay:jd cd m=some (fo em cz (some a)):=by rw [← cX]; exact JN cM
 have bf:pat cd a=some (.iK z):=by rw [← cX,k0 Nt.symm,oA,if_pos rfl]
 have bJ:∀ q,q≠m→q≠a→pat cd q=pat hp q:=fun q Aa nA=>by rw [← cX,k0 Aa.symm,oA,if_neg nA.symm]
 have au:eh hp cd own:=by
  rw [← cX]
  exact(eh.mk' (own:=own) bg).trans (eh.up ad) fun q _ h=>h
 have Nu:fg cd a=some z:=qe.2 bf
 have UH:h3 cd a (fun _=>none):=⟨z,Nu,dg,by rw [aQ]; exact⟨fun aU p h=>(by rw [fN] at h; cases h),fun aU cs p h _=>(by rw [fN] at h; cases h),fun aU p h=>(by rw [fN] at h; cases h)⟩,fun aU=>by rw [aQ]; exact jZ fN⟩
 have FY:∀ q,Own cd a q→q=a:=fun q oj=>by
  rcases oj with h | ⟨c,aU,bc,cn⟩
  ·exact h
  ·rw [Nu] at bc; cases bc
   rw [aQ,fN] at cn; cases cn
 have hold:∀ t g,h3 hp t g→h3 cd t g∧ ∀ q,Own cd t q↔Own hp t q:=fun t g bI=>bI.congr fun q oj=>by
  refine bJ q (fun e=> ?_) fun e=>bg (by rw [← e]; exact bI.tx oj)
  rw [← e] at jC
  rcases bI.BU oj with⟨c,aj⟩ | ⟨c,aj⟩ <;> rw [aj] at jC <;> cases jC
 refine⟨⟨_,ay,.inl ad,fun iQ r hZ=> ?_,fun iQ hZ=> ?_,fun Ho Db t1 t2 h9 jl cQ q iA mT=> ?_,h6.put⟩,au,ay⟩
 ·rw [rJ] at hZ
  by_cases e:iQ=cz
  ·rw [if_pos e] at hZ; cases hZ
   exact⟨a,_,rfl,UH,fun q oj=>by rw [FY q oj]; exact .inr ⟨bg,hU bf⟩,fun aU n=>⟨fun h=>(by cases h),fun⟨i,aq,bc,_⟩=>absurd (bc.trans e) (aR cz eX i aq)⟩⟩
  ·rw [if_neg e] at hZ
   obtain⟨t,g,rfl,cR,cy,gb⟩:=ax iQ r hZ
   obtain⟨dH,dR⟩:=hold t g cR
   exact⟨t,g,rfl,dH,fun q oj=> .inl (cy q ((dR q).1 oj)),gb⟩
 ·rw [rJ] at hZ
  by_cases e:iQ=cz
  ·rw [if_pos e] at hZ; cases hZ
  ·rw [if_neg e] at hZ; exact aR iQ hZ
 ·rw [rJ] at h9 jl
  have ak:∀ iQ eT,dt em iQ=some (some eT)→ ∀ q,q=a→ ¬ Own cd eT q:=fun iQ eT uM q e oj=>by
   obtain⟨t,g,e',cR,_⟩:=ax iQ _ uM
   cases e'
   have:=(hold eT g cR).2 q |>.1 oj
   exact bg (by rw [← e]; exact cR.tx this)
  by_cases aE:Ho=cz
  ·rw [if_pos aE] at h9; cases h9
   by_cases bd:Db=cz
   ·exact cQ (aE.trans bd.symm)
   ·rw [if_neg bd] at jl
    exact ak Db t2 jl q (FY q iA) mT
  ·rw [if_neg aE] at h9
   by_cases bd:Db=cz
   ·rw [if_pos bd] at jl; cases jl
    exact ak Ho t1 h9 q (FY q mT) iA
   ·rw [if_neg bd] at jl
    obtain⟨t,g,e',cR,_⟩:=ax Ho _ h9
    cases e'
    obtain⟨eT,eH,G3,Xq,_⟩:=ax Db _ jl
    cases G3
    exact aW _ _ _ _ h9 jl cQ q (((hold _ _ cR).2 q).1 iA) (((hold _ _ Xq).2 q).1 mT)
theorem UI {s:aZ} (h:dK s) {hp:aI Cell} {m:Nat} {l:List aH} {own:Nat→Prop} (hq:lB s hp m l own) (ec:∀ q,own q→q∈dQ hp) (ar:ib s 1 l) {i:aH} (aq:kV s 1 i) (a0:eZ l i.bQ=none):
 dh (xl hp ⟨0,32,⟨some m⟩⟩ i) (fun hp'=>lB s hp' m (l ++ [i]) (kq own hp hp')∧eh hp hp' own):=by
 obtain⟨em,kW,ad,ax,aR,aW,_⟩:=hq.ok
 unfold xl
 refine .eq (E7 h aq.fh _) (.eq rfl (.eq kW (.eq rfl ?_)))
 simp only
 refine .bind (P:=fun bH=>lB s bH m l (kq own hp bH)∧eh hp bH own∧ ∃ Hp t,jd bH m=some Hp∧dt Hp (gE (ey i.bQ))=some (some t)) (.cond (fun aj=> ?_) fun aj=> .ret ?_) fun bH cM=> ?_
 ·have eX:dt em (gE (ey i.bQ))=none:=by
   cases bx:dt em (gE (ey i.bQ)) with
   | none=>rfl
   | some r=>
     obtain⟨t,_,rfl,_⟩:=ax _ _ bx
     rw [bx] at aj; cases aj
  unfold Bg
  refine .bind (P:=fun r=> ∃ a,a ∉ dQ hp∧r=((some a:Ref),(a,Cell.iK ({ (default:fb) with fm:=32 })) :: hp)) (.eq rfl (.mk fun a bg=> .ret ⟨a,bg,rfl⟩)) fun bk bc=> ?_
  obtain⟨a,bg,rfl⟩:=bc
  have lf:jd ((a,Cell.iK ({ (default:fb) with fm:=32 })) :: hp) m=some em:=(Bf (hp:=hp) (by rw [oA,if_neg (x4 bg (lA kW))])).trans kW
  obtain⟨ay,bf,bJ⟩:=VZ hq kW eX bg (z:= { (default:fb) with fm:=32 }) rfl rfl
  refine .eq lf (.eq rfl (.ret ⟨ay,bf,_,a,bJ,by rw [rJ,if_pos rfl]⟩))
 ·cases bx:dt em (gE (ey i.bQ)) with
  | none=>rw [bx] at aj; cases aj
  | some r=>
    obtain⟨t,_,rfl,_⟩:=ax _ _ bx
    exact⟨hq.mono fun q hq=> .inl hq,.refl,em,t,kW,bx⟩
 ·obtain⟨ay,bf,Hp,t,bJ,dz⟩:=cM
  refine .eq bJ (.eq rfl ?_)
  simp only [dz]
  refine .bind (VY h ay (fun q hq=>hq.elim (fun hq=>bf.keys q (ec q hq)) fun hq=>hq.2) ar aq a0 bJ dz) fun r aQ=> .ret ?_
  exact⟨aQ.1.mono fun q hq=>Pw bf.keys aQ.2.keys hq,bf.grow aQ.2⟩
theorem JO {hp:aI Cell} {p:Nat} {k:Cell} {x:cG} {y:Option Nat} {n:Nat} (h:pat hp p=some k):ni (cx hp p (.pO x y n)) p=some (x,y,n):=by unfold ni; rw [qv h]
theorem UJ {s:aZ} (h:dK s) {k:Nat} (au:k < 4) {hp:aI Cell} {q:Nat} {l:List aH} {own:Nat→Prop} (hq:vU s k hp q l own) (ar:ib s k l) {i:aH} (aq:kV s k i) (jr:hX l i.b8=false) (hlen:l.length < 900):
 dh (xz hp ⟨some q⟩ i) (fun hp'=>vU s k hp' q (l ++ [i]) (kq own hp hp')∧eh hp hp' own):=by
 obtain⟨key,cap,J,ad⟩:=hq.ok
 unfold xz
 refine .eq rfl (.eq J (.eq (SK h au ar.ok aq hlen) (.any fun aM=> .eq rfl (.ret ?_))))
 rw [jr]
 exact⟨⟨aM.1,aM.2,JO (ts J),.inl ad⟩,.up ad⟩
theorem UK {s:aZ} (h:dK s) {k:Nat} (au:k < 4) {hp:aI Cell} {f:gd} {l:List aH} {own:Nat→Prop} (hq:oM s k hp f l own) (ec:∀ q,own q→q∈dQ hp) (ar:ib s k l) {i:aH} (aq:kV s k i) (a0:eZ l i.bQ=none) (jr:hX l i.b8=false) (hlen:l.length < 900):
 dh (DP hp f i) (fun hp'=>oM s k hp' f (l ++ [i]) (kq own hp hp')∧eh hp hp' own):=by
 rcases hq with⟨rfl,q,rfl,hq⟩ | ⟨rfl,m,rfl,hq⟩ | ⟨dV,q,rfl,hq⟩
 ·exact dh.of ((VX h hq ar aq a0).mono fun hp' aQ=>⟨.inl ⟨rfl,q,rfl,aQ.1⟩,aQ.2⟩)
 ·exact(UI h hq ec ar aq a0).mono fun hp' aQ=>⟨.inr (.inl ⟨rfl,m,rfl,aQ.1⟩),aQ.2⟩
 ·exact(UJ h au hq ar aq jr hlen).mono fun hp' aQ=>⟨.inr (.inr ⟨dV,q,rfl,aQ.1⟩),aQ.2⟩
theorem JP {α β:Type} [DecidableEq α]:∀ {l:List (α × β)} {x:α} {v:β},dt l x=some v→ (x,v)∈l
 | [],_,_,h=>by cases h
 | (k,w) :: r,x,v,h=>by
   unfold dt at h
   split at h
   ·rename_i e; cases h; rw [e]; simp
   ·exact List.mem_cons_of_mem _ (JP h)
theorem Kj {α β:Type} [DecidableEq α]:∀ {l:List (α × β)} {x:α} {v:β},l.Pairwise (fun a c=>a.1≠c.1)→ (x,v)∈l→dt l x=some v
 | [],_,_,_,h=>by cases h
 | (k,w) :: r,x,v,aL,h=>by
   obtain⟨J,ad⟩:=List.pairwise_cons.1 aL
   unfold dt
   rcases List.mem_cons.1 h with h | h
   ·cases h; rw [if_pos rfl]
   ·rw [if_neg (fun e=>J _ h e.symm),Kj ad h]
theorem JQ {α β:Type} [DecidableEq α]:∀ {l:List (α × β)} {x:α} {v:β},dt l x=none→fo l x v=l ++ [(x,v)]
 | [],_,_,_=>rfl
 | (k,w) :: r,x,v,h=>by
   unfold dt at h
   split at h
   ·cases h
   ·rename_i e
    show(if x=k then _ else _)=_
    rw [if_neg e,JQ h]; rfl
def qO (em:List (Int × aH)) (l:List aH):Prop:=em.Perm (l.map fun i=>(i.b8,i))
theorem qO.get {s:aZ} {k:Nat} {em:List (Int × aH)} {l:List aH} (h:qO em l) (ar:kC s k l) (n:Int) (i:aH):dt em n=some i↔i∈l∧i.b8=n:=by
 have hd:em.Pairwise (fun a c=>a.1≠c.1):=by
  refine(h.pairwise_iff fun b3=>Ne.symm b3).2 ?_
  rw [List.pairwise_map]
  exact ar.num.imp fun b3=>b3
 have hm:(n,i)∈em↔i∈l∧i.b8=n:=by
  rw [h.mem_iff,List.mem_map]
  constructor
  ·rintro ⟨c,aj,e⟩
   cases e; exact⟨aj,rfl⟩
  ·rintro ⟨aq,rfl⟩
   exact⟨i,aq,rfl⟩
 rw [← hm]
 exact⟨JP,Kj hd⟩
theorem qO.no {s:aZ} {k:Nat} {em:List (Int × aH)} {l:List aH} (h:qO em l) (ar:kC s k l) (n:Int):(dt em n).isSome=hX l n:=by
 rw [Bool.eq_iff_iff,Option.isSome_iff_exists]
 unfold hX
 rw [List.any_eq_true]
 constructor
 ·rintro ⟨i,aq⟩
  obtain⟨J,ad⟩:=(h.get ar n i).1 aq
  exact⟨i,J,by simpa using ad⟩
 ·rintro ⟨i,aq,ad⟩
  exact⟨i,(h.get ar n i).2 ⟨aq,by simpa using ad⟩⟩
structure jQ (s:aZ) (k:Nat) (hp:aI Cell) (p:Nat) (l:List aH) (own:Nat→Prop):Prop where
 mm:ib s k l
 cell:∃ f m em,hk hp p=some ⟨m1 k,(Dq s k:Int),f,⟨some m⟩⟩∧j3 hp m=some em∧own p∧own m∧qO em l∧oM s k hp f l (fun q=>own q∧q≠m∧q≠p)
 rh:∀ q,own q→q∈dQ hp
theorem jQ.congr {s:aZ} {k:Nat} {hp hp':aI Cell} {p:Nat} {l:List aH} {own:Nat→Prop} (h:jQ s k hp p l own) (au:∀ q,q∈dQ hp→q∈dQ hp') (bg:∀ q,own q→pat hp' q=pat hp q):jQ s k hp' p l own:=by
 obtain⟨f,m,em,J,ad,ax,aR,aW,bc⟩:=h.cell
 exact⟨h.mm,⟨f,m,em,by rw [P2 (bg p ax)]; exact J,by rw [P3 (bg m aR)]; exact ad,ax,aR,aW,bc.congr (fun q _ hq=>hq) fun q hq=>bg q hq.1⟩,fun q hq=>au q (h.rh q hq)⟩
theorem jQ.pP {s:aZ} {k:Nat} {hp hp':aI Cell} {p:Nat} {l:List aH} {own own':Nat→Prop} (h:jQ s k hp p l own) (au:eh hp hp' own') (hd:∀ q,own q→ ¬ own' q):jQ s k hp' p l own:=
 h.congr au.keys fun q hq=>au.rest q (h.rh q hq) (hd q hq)
theorem entry_eq {s:aZ} (h:dK s) {k:Nat} (au:k < 4) {hp:aI Cell} {p:Nat} {l:List aH} {own:Nat→Prop} (ak:jQ s k hp p l own) {o:Option aH} (a6:∀ i,o=some i→i∈l):xu hp (some p) (rA o).1 (rA o).2=some (pd o):=by
 obtain⟨f,m,em,J,ad,ax,aR,aW,bc⟩:=ak.cell
 refine bK.get ?_
 unfold xu
 cases o with
 | none=>exact .cond (fun _=> .ret rfl) fun aj=>by cases aj
 | some i=>
   have aq:=a6 i rfl
   refine .cond (fun aj=>by cases aj) fun _=> .eq rfl (.eq J (.eq rfl (.eq ad (.eq rfl ?_))))
   have bx:dt em i.b8=some i:=(aW.get ak.mm.ok _ _).2 ⟨aq,rfl⟩
   show bK (Option.bind (pv ((dt em i.b8).getD default)) _) _
   rw [bx]
   exact .eq (BT h au (ak.mm.ok.ok i aq)) (.ret rfl)
theorem E8 {s:aZ} (h:dK s) {k:Nat} (au:k < 4) {hp:aI Cell} {p:Nat} {l:List aH} {own:Nat→Prop} (ak:jQ s k hp p l own) {e:bo} (he:iI s k e):sQ hp (some p) e=some (pd (eZ l e)):=by
 obtain⟨f,m,em,J,ad,ax,aR,aW,bc⟩:=ak.cell
 refine bK.get ?_
 unfold sQ
 refine .cond (fun aj=>by cases aj) fun _=> .eq rfl (.eq J (.eq (L3 h au bc ak.mm he) (.eq (entry_eq h au ak fun i aq=>(vC aq).1) (.ret rfl))))
theorem KZ {s:aZ} {k:Nat} {hp:aI Cell} {p:Nat} {l:List aH} {own:Nat→Prop} (ak:jQ s k hp p l own):vf hp (some p)=some (l.length:Int):=by
 obtain⟨f,m,em,J,ad,ax,aR,aW,bc⟩:=ak.cell
 have ar:em.length=l.length:=by rw [aW.length_eq,List.length_map]
 refine bK.get ?_
 unfold vf
 refine .cond (fun aj=>by cases aj) fun _=> .eq rfl (.eq J (.eq rfl (.eq ad ?_)))
 rw [ar]
 first | exact .ret rfl | exact .eq rfl (.ret rfl)
end Go.Proofs.YtmnggbjcnoffeaaGreat
namespace Go.Proofs.YtmnggbjcnoffeaaGreat
open Go Gv
set_option linter.unusedVariables false
set_option linter.unusedSimpArgs false
set_option maxRecDepth 100000
theorem jQ.mono {s:aZ} {k:Nat} {hp:aI Cell} {p:Nat} {l:List aH} {own own':Nat→Prop} (h:jQ s k hp p l own) (a6:∀ q,own q→own' q) (aq:∀ q,own' q→q∈dQ hp):jQ s k hp p l own':=by
 obtain⟨f,m,em,J,ad,ax,aR,aW,bc⟩:=h.cell
 exact⟨h.mm,⟨f,m,em,J,ad,a6 p ax,a6 m aR,aW,bc.congr (fun q _ hq=>⟨a6 q hq.1,hq.2⟩) fun q hq=>rfl⟩,aq⟩
theorem ib.nil {s:aZ} {k:Nat} :ib s k []:=⟨⟨fun i aq=>by(cases aq),.nil,by simp⟩,.nil⟩
def wQ:Nat→Prop:=fun _=>False
theorem SN {s:aZ} (h:dK s) {k:Nat} (au:k < 4) (hp:aI Cell):dh (vw hp s ((k:Int) + 1)) (fun r=> ∃ p,r.1=some p∧jQ s k r.2 p [] (kq wQ hp r.2)∧eh hp r.2 wQ):=by
 refine(UD h au hp).mono fun r aQ=> ?_
 obtain⟨p,e,aQ⟩:=aQ
 obtain⟨c,m,J,ad,ax,aR,aW,bc,cn,eo,fx,gC,oi,uL⟩:=aQ.cell
 obtain⟨XR,aJ,f,ea⟩:=c
 simp only at ad ax aR bc cn eo
 subst ad ax aR
 have hm:=rQ aW
 have hp':=lX J
 refine⟨p,e,⟨ib.nil,⟨f,m,[],J,aW,.inr ⟨fx,hU hp'⟩,.inr ⟨gC,hU hm⟩,List.Perm.refl _,?_⟩,fun q hq=>hq.elim (fun h=>h.elim) fun h=>h.2⟩,⟨oi,fun q hq _=>uL q hq⟩⟩
 have key:∀ q c,pat r.2 q=some c→ (∀ x,c≠ .jy x)→ (∀ x,c≠ .l2 x)→q ∉ dQ hp→kq wQ hp r.2 q∧q≠m∧q≠p:=fun q c aj uY HW aL=>
  ⟨.inr ⟨aL,hU aj⟩,fun e=>by rw [e,hm] at aj; cases aj; exact uY _ rfl,fun e=>by rw [e,hp'] at aj; cases aj; exact HW _ rfl⟩
 have:k=0∨k=1∨2≤k:=by omega
 rcases this with rfl | rfl | dV
 ·obtain⟨q,cI,rfl,ay,bf,bJ,dz⟩:=bc rfl
  exact .inl ⟨rfl,q,rfl,⟨cI,[],ay,bf,key q _ (rP ay) (fun _ h=>by cases h) (fun _ h=>by cases h) bJ,key cI _ (pC bf) (fun _ h=>by cases h) (fun _ h=>by cases h) dz,fun cz n=>⟨fun h=>(by cases h),fun⟨i,aq,_⟩=>(by cases aq)⟩,.nil⟩⟩
 ·obtain⟨ft,rfl,ay,bf⟩:=cn rfl
  exact .inr (.inl ⟨rfl,ft,rfl,⟨[],ay,key ft _ (lA ay) (fun _ h=>by cases h) (fun _ h=>by cases h) bf,fun cz r h=>(by cases h),fun cz _ i aq=>(by cases aq),fun cz iQ t eT h=>(by cases h),.nil⟩⟩)
 ·obtain⟨q,XS,cap,rfl,ay,bf⟩:=eo dV
  exact .inr (.inr ⟨dV,q,rfl,⟨XS,cap,ay,key q _ (ts ay) (fun _ h=>by cases h) (fun _ h=>by cases h) bf⟩⟩)
theorem ib.snoc {s:aZ} {k:Nat} {l:List aH} (h:ib s k l) {i:aH} (aq:kV s k i) (a0:eZ l i.bQ=none) (aL:hX l i.b8=false) (ar:l.length < 900):ib s k (l ++ [i]) where
 ok:=h.ok.snoc aq aL ar
 key:=by
  rw [List.pairwise_append]
  exact⟨h.key,by simp,fun a bg c aj=>by rw [List.mem_singleton.1 aj]; exact tg a0 a bg⟩
theorem Rn {hp:aI Cell} {p:Nat} {k:Cell} {x:List (Int × aH)} (h:pat hp p=some k):j3 (cx hp p (.jy x)) p=some x:=by unfold j3; rw [qv h]
theorem K0 (o:Option aH):(rA o).2=o.isSome:=by cases o <;> rfl
def sy (l:List aH) (i:aH):Bool:=(eZ l i.bQ).isNone && !hX l i.b8
def added (l:List aH) (i:aH):List aH:=if sy l i=true then l ++ [i] else l
theorem SO {s:aZ} (h:dK s) {k:Nat} (au:k < 4) {hp:aI Cell} {p:Nat} {l:List aH} {own:Nat→Prop} (ak:jQ s k hp p l own) {i:aH} (aq:kV s k i) (hlen:l.length < 900):
 dh (xB hp (some p) i) (fun r=>r.1=sy l i∧jQ s k r.2 p (added l i) (kq own hp r.2)∧eh hp r.2 own):=by
 obtain⟨f,m,em,J,ad,ax,aR,aW,bc⟩:=ak.cell
 have hm:=rQ ad
 have hp':=lX J
 have jC:p≠m:=fun e=>by rw [e,hm] at hp'; cases hp'
 have eX:=aW.no ak.mm.ok i.b8
 unfold xB
 refine .cond (fun aj=>by cases aj) fun _=> .eq rfl (.eq J (.eq rfl (.eq ad (.eq rfl (.eq rfl (.eq J (.eq (L3 h au bc ak.mm aq.fh) (.cond (fun aj=> .ret ?_) fun aj=> ?_))))))))
 ·rw [eX,K0,Bool.or_eq_true] at aj
  have bI:sy l i=false:=by
   unfold sy
   rcases aj with aj | aj
   ·cases a0:eZ l i.bQ with
    | none=>rw [a0] at aj; cases aj
    | some _=>rfl
   ·rw [aj]; simp
  refine⟨bI.symm,?_,.refl⟩
  unfold added
  rw [bI]
  exact ak.mono (fun q hq=> .inl hq) fun q hq=>hq.elim (ak.rh q) fun hq=>absurd hq.2 hq.1
 ·rw [eX,K0,Bool.or_eq_false_iff] at aj
  obtain⟨bl,b7⟩:=aj
  have a0:eZ l i.bQ=none:=by
   cases a0:eZ l i.bQ with
   | none=>rfl
   | some _=>rw [a0] at bl; cases bl
  have bI:sy l i=true:=by unfold sy; rw [a0,b7]; rfl
  have bx:dt em i.b8=none:=by
   cases bx:dt em i.b8 with
   | none=>rfl
   | some _=>rw [bx,b7] at eX; cases eX
  have aM:pat (cx hp m (Cell.jy (fo em i.b8 i))) p=some (.l2 ⟨m1 k,(Dq s k:Int),f,⟨some m⟩⟩):=by rw [k0 jC.symm]; exact hp'
  have f1:oM s k (cx hp m (Cell.jy (fo em i.b8 i))) f l (fun q=>own q∧q≠m∧q≠p):=bc.congr (fun q _ hq=>hq) fun q hq=>k0 hq.2.1.symm
  refine .eq rfl (.eq J (.eq (BT h au aq) (.eq rfl (.eq ad (.eq rfl (.eq (by unfold hk; rw [aM]) (.bind (UK h au f1 (fun q hq=>by rw [pB]; exact ak.rh q hq.1) ak.mm aq a0 b7 hlen) fun fT aQ=> .ret ⟨bI.symm,?_,?_⟩)))))))
  ·obtain⟨iW,gJ⟩:=aQ
   have cR:pat fT p=some (.l2 ⟨m1 k,(Dq s k:Int),f,⟨some m⟩⟩):=by rw [gJ.rest p (hU aM) (fun hq=>hq.2.2 rfl)]; exact aM
   have cy:pat fT m=some (.jy (fo em i.b8 i)):=by
    have:pat (cx hp m (Cell.jy (fo em i.b8 i))) m=some (.jy (fo em i.b8 i)):=qv hm
    rw [gJ.rest m (hU this) (fun hq=>hq.2.1 rfl)]; exact this
   unfold added
   rw [if_pos bI]
   refine⟨ak.mm.snoc aq a0 b7 hlen,⟨f,m,_,by unfold hk; rw [cR],by unfold j3; rw [cy],.inl ax,.inl aR,?_,iW.congr (fun q _ hq=> ?_) fun q _=>rfl⟩,fun q hq=> ?_⟩
   ·unfold qO
    rw [JQ bx,List.map_append]
    exact List.Perm.append_right _ aW
   ·rcases hq with hq | ⟨ay,bf⟩
    ·exact⟨.inl hq.1,hq.2⟩
    ·rw [pB] at ay
     exact⟨.inr ⟨ay,bf⟩,fun e=>ay (e ▸ hU hm),fun e=>ay (e ▸ hU hp')⟩
   ·rcases hq with hq | hq
    ·exact gJ.keys q (by rw [pB]; exact ak.rh q hq)
    ·exact hq.2
  ·exact(eh.up (own:=own) aR).trans aQ.2 fun q _ hq=>hq.1
end Go.Proofs.YtmnggbjcnoffeaaGreat
namespace Go.Proofs.YtmnggbjcnoffeaaGreat
open Go Gv
set_option linter.unusedVariables false
set_option linter.unusedSimpArgs false
set_option maxRecDepth 100000
theorem E9 {hp hp':aI Cell} {root:Ref} {ws:List Bool} {b:Bool} {p q:Nat} {c ry:di} (bI:nf hp root) (hw:cr hp root ws=some p) (aj:cf hp p=some c) (hq:cg c.cJ (eS b)=some q) (mh:cf hp q=some ry) (ar:∀ x,cg ry.cJ (eS x)=none)
 (cd:cf hp' p=some { c with cJ:=iJ c.cJ (eS b) none }) (fT:∀ x,x≠p→cf hp' x=cf hp x):
 ∀ (aU us:List Bool) (r:Nat),cr hp root us=some r→us≠ws ++ [b]→cr hp' (some r) aU=if us ++ aU=ws ++ [b] then none else cr hp (some r) aU
 | [],us,r,hu,cQ=>by
   rw [List.append_nil,if_neg cQ]; rfl
 | x :: xs,us,r,hu,cQ=>by
   obtain⟨HY,ri⟩:=bI.reads us r hu
   by_cases nw:r=p
   ·subst nw
    have Hc:=bI.inj us ws r hu hw
    subst Hc
    rw [aj] at ri; cases ri
    rw [gM cd,gM aj]
    simp only
    have b5:eS b < 2:=by cases b <;> decide
    rw [x3 _ _ b5]
    by_cases uJ:x=b
    ·subst uJ
     rw [if_pos rfl,hq,fN]
     by_cases h:xs= []
     ·subst h; rw [if_pos rfl]
     ·have eX: ¬ us ++ x :: xs=us ++ [x]:=fun e=>h (by have:=List.append_cancel_left e; simpa using this)
      rw [if_neg eX]
      cases xs with
      | nil=>exact absurd rfl h
      | cons y ys=>rw [gM mh,ar,fN]
    ·have Xr: ¬ eS x=eS b:=fun e=>uJ (by cases x <;> cases b <;> first | rfl | cases e)
     have eX:∀ ys,¬ us ++ x :: ys=us ++ [b]:=fun ys e=>uJ (by have:=List.append_cancel_left e; simpa using (List.cons.inj this).1)
     rw [if_neg Xr,if_neg (eX xs)]
     cases e:cg c.cJ (eS x) with
     | none=>rw [fN,fN]
     | some kG=>
       have ll:cr hp root (us ++ [x])=some kG:=by rw [ly,hu,gM aj,e,mz]
       rw [E9 bI hw aj hq mh ar cd fT xs (us ++ [x]) kG ll (eX []),List.append_assoc,List.singleton_append,if_neg (eX xs)]
   ·have J:cf hp' r=some HY:=by rw [fT r nw]; exact ri
    rw [gM J,gM ri]
    have V0:us ++ [x]≠ws ++ [b]:=fun e=>by
     have:=List.append_inj_left' e rfl
     subst this
     rw [hu] at hw; cases hw; exact nw rfl
    cases e:cg HY.cJ (eS x) with
    | none=>rw [fN,fN]; split <;> rfl
    | some kG=>
      have ll:cr hp root (us ++ [x])=some kG:=by rw [ly,hu,gM ri,e,mz]
      rw [E9 bI hw aj hq mh ar cd fT xs (us ++ [x]) kG ll V0,List.append_assoc,List.singleton_append]
theorem cut {hp hp':aI Cell} {r:Nat} {ws:List Bool} {b:Bool} {p q:Nat} {c ry:di} (bI:nf hp (some r)) (hw:cr hp (some r) ws=some p) (aj:cf hp p=some c) (hq:cg c.cJ (eS b)=some q) (mh:cf hp q=some ry) (ar:∀ x,cg ry.cJ (eS x)=none) (hu:ry.dr=false)
 (cd:cf hp' p=some { c with cJ:=iJ c.cJ (eS b) none }) (fT:∀ x,x≠p→cf hp' x=cf hp x):
 nf hp' (some r)∧ (∀ aU,cr hp' (some r) aU=if aU=ws ++ [b] then none else cr hp (some r) aU)∧ ∀ aU,cont hp' (some r) aU=cont hp (some r) aU:=by
 have a0:∀ aU,cr hp' (some r) aU=if aU=ws ++ [b] then none else cr hp (some r) aU:=fun aU=>E9 bI hw aj hq mh ar cd fT aU [] r rfl (by simp)
 have Hd:cr hp (some r) (ws ++ [b])=some q:=by rw [ly,hw,gM aj,hq,mz]
 refine⟨⟨fun aU x h=> ?_,fun aU cs x J ad=> ?_,fun aU x h=> ?_⟩,a0,fun aU=> ?_⟩
 ·rw [a0] at h
  split at h
  ·cases h
  ·obtain⟨iV,J⟩:=bI.reads aU x h
   by_cases e:x=p
   ·subst e; exact⟨_,cd⟩
   ·exact⟨iV,by rw [fT x e]; exact J⟩
 ·rw [a0] at J ad
  split at J <;> split at ad
  ·cases J
  ·cases J
  ·cases ad
  ·exact bI.inj aU cs x J ad
 ·rw [a0] at h
  split at h
  ·cases h
  ·exact bI.dep aU x h
 ·by_cases e:aU=ws ++ [b]
  ·subst e
   rw [jZ (by rw [a0,if_pos rfl]),jv Hd mh,hu]; rfl
  ·have uK:cr hp' (some r) aU=cr hp (some r) aU:=by rw [a0,if_neg e]
   cases h:cr hp (some r) aU with
   | none=>rw [jZ h,jZ (uK.trans h)]
   | some x=>
     obtain⟨iV,J⟩:=bI.reads aU x h
     by_cases eq:x=p
     ·subst eq
      rw [aj] at J; cases J
      rw [jv h aj,jv (uK.trans h) cd]
     ·rw [jv h J,jv (uK.trans h) (by rw [fT x eq]; exact J)]
end Go.Proofs.YtmnggbjcnoffeaaGreat
namespace Go.Proofs.YtmnggbjcnoffeaaGreat
open Go Gv
set_option linter.unusedVariables false
set_option linter.unusedSimpArgs false
set_option maxRecDepth 100000
structure Gp (jk hp:aI Cell) (t:Nat) (g:List Bool→Option Int) (r:Nat):Prop where
 cell:∃ c,fg hp t=some c∧c.fm=32∧c.ck=some r
 tree:nf hp (some r)
 cont:∀ aU,cont hp (some r) aU=g aU
 keeps:eh jk hp (Own jk t)
 own:∀ aU q,cr hp (some r) aU=some q→Own jk t q
theorem empty_eq {hp:aI Cell} {p:Nat} {c:di} (h:cf hp p=some c):vg hp (some p)=some (!c.dr && decide (c.cJ=default)):=by
 refine bK.get ?_
 unfold vg
 refine .eq rfl (.eq h ?_)
 refine .c5 (P:=fun r=>r=p) (fun _=>⟨p,rfl,rfl⟩) fun o J=> ?_
 refine .c5 (P:=fun r=>r=c) (fun ad=>⟨c,by rw [J ad]; exact h,rfl⟩) fun b7 ad=> .ret ?_
 cases hu:c.dr with
 | true=>rfl
 | false=>rw [ad (by rw [hu]; rfl)]
theorem QQ (v:az) (n:Nat):(dU v n).length=n:=by unfold dU; simp
theorem QR (v:az) {i n:Nat} (h:i≤n):dU v n=dU v i ++ (dU v n).drop i:=by
 have:dU v i=(dU v n).take i:=by unfold dU; rw [← List.map_take,List.take_range]; congr 2; omega
 rw [this,List.take_append_drop]
theorem BG {hp:aI Cell} {r:Ref} {v:az} {i n:Nat} (h:i≤n) {p:Nat} (hp':cr hp r (dU v n)=some p):∃ q,cr hp r (dU v i)=some q:=by
 rw [QR v h,ly] at hp'
 cases e:cr hp r (dU v i) with
 | none=>rw [e,fN] at hp'; cases hp'
 | some q=>exact⟨q,rfl⟩
theorem QS {hp:aI Cell} {t:Nat} {g:List Bool→Option Int} (h:h3 hp t g) {n:Nat} (aL:n≤32) {v:az} (a3:∀ j,j < 128→cH v j=true→lead 32 n j=true) {id:Int} (bx:g (dU v n)=some id):
 bK (vc hp (some t) v n) (fun r=>r.1=true∧h3 r.2 t (fun aU=>if aU=dU v n then none else g aU)∧eh hp r.2 (Own hp t)∧ ∀ q,Own r.2 t q→Own hp t q):=by
 obtain⟨c,aj,hb,bI,Hq⟩:=h.ok
 have V1:∃ p,cr hp c.ck (dU v n)=some p:=by
  cases e:cr hp c.ck (dU v n) with
  | none=>rw [← Hq,jZ e] at bx; cases bx
  | some p=>exact⟨p,rfl⟩
 obtain⟨sG,h8⟩:=V1
 have UL:∃ r,c.ck=some r:=by
  obtain⟨q,hq⟩:=BG (Nat.zero_le n) h8
  rw [I1,mz] at hq
  exact⟨q,hq⟩
 obtain⟨r,aQ⟩:=UL
 rw [aQ] at bI Hq h8
 unfold vc
 refine .eq (KX h aL a3) ?_
 rw [bx]
 refine .cond (fun aj=>by cases aj) fun _=> .eq rfl (.eq aj (.eq rfl ?_))
 rw [aQ]
 show bK (Option.bind (p7 hp (n:Int) v (some t) _ _) _) _
 refine bK.bind (P:=fun e:(List Int × List Ref) ⊕ Empty=> ∃ bits lM,e= .inl (bits,lM)∧lM.length=n + 1∧bits.length=n∧ (∀ j,j≤n→aN lM j=cr hp (some r) (dU v j))∧ ∀ j,j < n→aN bits j=((eS (cH v (31 - j)):Nat):Int))
  (L1 aj hb v aL (fun i s=> ∃ bits lM,s=(bits,lM)∧lM.length=i + 1∧bits.length=i∧ (∀ j,j≤i→aN lM j=cr hp (some r) (dU v j))∧ ∀ j,j < i→aN bits j=((eS (cH v (31 - j)):Nat):Int)) ⟨[],[some r],rfl,rfl,rfl,fun j aC=> ?_,fun j aC=>by omega⟩ (fun i s aq hs=> ?_) (fun s hs=> ?_)) fun e he=> ?_
 ·have:j=0:=by omega
  subst this
  rw [I1,mz]; rfl
 ·obtain⟨bits,lM,rfl,J,ad,ax,aR⟩:=hs
  obtain⟨q,hq⟩:=BG (show i≤n by omega) h8
  obtain⟨d,hd⟩:=bI.reads _ _ hq
  have hw:bu ((lM.length:Int) - 1)=(i:Int):=by rw [hO (by omega) (by omega)]; omega
  simp only [hw]
  have b5:eS (cH v (31 - i)) < 2:=by cases cH v (31 - i) <;> decide
  refine .idx rfl (by omega) (.eq (a:=q) (by rw [ax i (Nat.le_refl _)]; exact hq) (.idx rfl b5 (.eq hd (.eq (kh _ _ (by simp; omega) (by omega)) (.eq (kh _ _ (by simp; omega) (by omega)) (.ret ⟨_,_,rfl,by simp; omega,by simp; omega,fun j aC=> ?_,fun j aC=> ?_⟩))))))
  ·rw [Ex]
   by_cases hx:j=lM.length
   ·rw [if_pos hx,show j=i + 1 by omega,Bi,ly,hq,gM hd,mz]
   ·rw [if_neg hx]; exact ax j (by omega)
  ·rw [Ex]
   by_cases hx:j=bits.length
   ·rw [if_pos hx,show j=i by omega]
   ·rw [if_neg hx]; exact aR j (by omega)
 ·exact⟨s.1,s.2,by obtain⟨bits,lM,rfl,_⟩:=hs; rfl,by obtain⟨bits,lM,rfl,h⟩:=hs; exact h⟩
 obtain⟨bits,lM,rfl,J,ad,ax,aR⟩:=he
 simp only [Sum.elim_inl]
 obtain⟨d,hd⟩:=bI.reads _ _ h8
 have Hk:=nN.1 hd
 have ix:cf (cx hp sG (.fp { d with dr:=false })) sG=some { d with dr:=false } :=vA Hk
 refine .idx rfl (by omega) (.eq (a:=sG) (by rw [ax n (Nat.le_refl _)]; exact h8) (.eq hd (.eq rfl (.eq ix (.eq rfl ?_)))))
 generalize cX:cx (cx hp sG (.fp { d with dr:=false })) sG (.fp { d with dr:=false,hW:=0 })=cq
 have fZ:=Ci hd aj
 have n9:cf cq sG=some { d with dr:=false,hW:=0 } :=by rw [← cX]; exact vA (nN.1 ix)
 have Gq:∀ q,q≠sG→pat cq q=pat hp q:=fun q hq=>by rw [← cX,k0 hq.symm,k0 hq.symm]
 obtain⟨s1,s2⟩:=ME bI h8 hd n9 rfl fun q hq=>s6 (Gq q hq)
 have NP:=yb hd n9 rfl fun q hq=>s6 (Gq q hq)
 have Xs:fg cq t=some c:=by rw [Bd (Gq t fZ.symm)]; exact aj
 have L4:Own hp t sG:= .inr ⟨c,_,aj,by rw [aQ]; exact h8⟩
 have dV:eh hp cq (Own hp t):=by
  rw [← cX]
  exact(eh.up (own:=Own hp t) L4).trans (eh.up L4) fun q _ h=>h
 have HX:Gp hp cq t (fun aU=>if aU=dU v n then none else g aU) r:=⟨⟨c,Xs,hb,aQ⟩,s1,fun aU=>by
  rw [s2]
  by_cases e:aU=dU v n
  ·rw [if_pos e]; simp only [if_pos e]; rfl
  ·rw [if_neg e]; simp only [if_neg e]; exact Hq aU,dV,fun aU q hq=> .inr ⟨c,aU,aj,by rw [aQ,← NP]; exact hq⟩⟩
 have ob:bu ((n:Int) - 1)=(n:Int) - 1:=hO (by omega) (by omega)
 rw [ob]
 refine bK.bind (P:=fun bd=>Gp hp bd.2.2 t (fun aU=>if aU=dU v n then none else g aU) r) (bK.Us n (fun i st=> ∃ hq,st=((n:Int) - 1 - (i:Int),hq)∧Gp hp hq t (fun aU=>if aU=dU v n then none else g aU) r∧ ∀ j,j + i≤n→cr hq (some r) (dU v j)=aN lM j) (by omega) ⟨cq,by simp,HX,fun j aC=>by rw [NP,ax j (by omega)]⟩ (fun i st aq hs=> ?_) (fun st hs=> ?_)) fun bd sA=> ?_
 ·obtain⟨hq,rfl,hm,Gr⟩:=hs
  have aE:(n:Int) - 1 - (i:Int)=((n - 1 - i:Nat):Int):=by omega
  have bd:bu ((n:Int) - 1 - (i:Int) + 1)=((n - i:Nat):Int):=by rw [hO (by omega) (by omega)]; omega
  have ej:bu ((n:Int) - 1 - (i:Int) - 1)=(n:Int) - 1 - ((i + 1:Nat):Int):=by rw [hO (by omega) (by omega)]; omega
  simp only [bd,ej]
  have q6:decide ((n:Int) - 1 - (i:Int)≥0)=true:=by rw [decide_eq_true_eq]; omega
  simp only [q6]
  have iA:=Gr (n - i) (by omega)
  have q1:=Gr (n - 1 - i) (by omega)
  obtain⟨al,kb⟩:=BG (show n - i≤n by omega) h8
  obtain⟨ab,CQ⟩:=BG (show n - 1 - i≤n by omega) h8
  rw [ax _ (by omega),kb] at iA
  rw [ax _ (by omega),CQ] at q1
  obtain⟨bl,dw⟩:=hm.tree.reads _ _ iA
  obtain⟨rB,uA⟩:=hm.tree.reads _ _ q1
  refine .c5 (P:=fun lO=>lO=n - i) (fun _=>⟨_,tp (by omega),rfl⟩) fun lO wC=> ?_
  rw [wC rfl]
  have CL:aN lM (n - i)=some al:=by rw [ax _ (by omega)]; exact kb
  have G8:aN lM (n - 1 - i)=some ab:=by rw [ax _ (by omega)]; exact CQ
  refine .c5 (P:=fun y=>y=(!bl.dr && decide (bl.cJ=default))) (fun _=>⟨_,by rw [CL]; exact empty_eq dw,rfl⟩) fun cm iv=> .cond (fun dg=> ?_) fun dg=> .ret hm
  rw [Bool.true_and,iv rfl,Bool.and_eq_true,Bool.not_eq_true',decide_eq_true_eq] at dg
  obtain⟨bD,dp⟩:=dg
  have b5:eS (cH v (31 - (n - 1 - i))) < 2:=by cases cH v (31 - (n - 1 - i)) <;> decide
  have UM:dU v (n - i)=dU v (n - 1 - i) ++ [cH v (31 - (n - 1 - i))]:=by rw [← Bi,show n - 1 - i + 1=n - i by omega]
  have pe:cg rB.cJ (eS (cH v (31 - (n - 1 - i))))=some al:=by
   rw [UM,ly,q1,gM uA,mz] at iA; exact iA
  have jk:=nN.1 uA
  refine .idx aE (by omega) (.idx aE (by omega) (.eq G8 (.idx (aR _ (by omega)) b5 (.eq uA (.eq rfl (.ret ?_))))))
  obtain⟨ay,bf,bJ⟩:=cut (hp':=cx hq ab (.fp { rB with cJ:=iJ rB.cJ (eS (cH v (31 - (n - 1 - i)))) none })) hm.tree q1 uA pe dw (fun x=>by rw [dp,D5]; rfl) bD (vA jk) fun x ak=>rG ak.symm
  obtain⟨iV,cR,cy,gb⟩:=hm.cell
  have UN:=hm.own _ _ q1
  refine⟨_,rfl,⟨⟨iV,by rw [Be (Ci uA cR)]; exact cR,cy,gb⟩,ay,fun aU=>by rw [bJ]; exact hm.cont aU,hm.keeps.trans (eh.up UN) fun q _ h=>h,fun aU q jV=> ?_⟩,fun j aC=> ?_⟩
  ·rw [bf] at jV
   split at jV
   ·cases jV
   ·exact hm.own aU q jV
  ·rw [bf,if_neg (fun e=>by have:=congrArg List.length e; simp only [List.length_append,QQ,List.length_singleton] at this; omega)]
   exact Gr j (by omega)
 ·obtain⟨hq,rfl,hm,_⟩:=hs
  have q6:decide ((n:Int) - 1 - (n:Int)≥0)=false:=by rw [decide_eq_false_iff_not]; omega
  simp only [q6]
  refine .c5 (P:=fun _=>True) (fun aj=>by cases aj) fun _ _=> .c5 (P:=fun _=>True) (fun aj=>by cases aj) fun _ _=> .cond (fun aj=>by cases aj) fun _=> .ret hm
 ·obtain⟨kE,cR,cy,gb⟩:=sA.cell
  refine .eq cR ?_
  rw [gb]
  obtain⟨HY,ri⟩:=sA.tree.reads [] r rfl
  refine .eq (empty_eq ri) (.bind (P:=fun bH=>h3 bH t (fun aU=>if aU=dU v n then none else g aU)∧eh hp bH (Own hp t)∧ ∀ q,Own bH t q→Own hp t q) (.cond (fun dg=> .eq rfl (.ret ?_)) fun _=> .ret ?_) fun bH cM=> .ret ⟨rfl,cM⟩)
  ·rw [Bool.and_eq_true,Bool.not_eq_true',decide_eq_true_eq] at dg
   obtain⟨bD,dp⟩:=dg
   have Nv:fg (cx bd.2.2 t (.iK { kE with ck:=none })) t=some { kE with ck:=none } :=JH (qe.1 cR)
   refine⟨⟨_,Nv,cy,⟨fun aU p h=>(by rw [fN] at h; cases h),fun aU cs p h=>(by rw [fN] at h; cases h),fun aU p h=>(by rw [fN] at h; cases h)⟩,fun aU=> ?_⟩,sA.keeps.trans (eh.up (own:=Own hp t) (.inl rfl)) fun q _ h=>h,fun q hq=> ?_⟩
   ·rw [jZ fN,← sA.cont]
    cases aU with
    | nil=>rw [jv (p:=r) rfl ri,bD]; rfl
    | cons b aU=>rw [jZ]; rw [gM ri,dp,D5]; exact fN
   ·rcases hq with rfl | ⟨iV,aU,dH,dR⟩
    ·exact .inl rfl
    ·rw [Nv] at dH; cases dH
     rw [fN] at dR; cases dR
  ·refine⟨⟨kE,cR,cy,by rw [gb]; exact sA.tree,fun aU=>by rw [gb]; exact sA.cont aU⟩,sA.keeps,fun q hq=> ?_⟩
   rcases hq with rfl | ⟨iV,aU,dH,dR⟩
   ·exact .inl rfl
   ·rw [cR] at dH; cases dH
    rw [gb] at dR
    exact sA.own aU q dR
end Go.Proofs.YtmnggbjcnoffeaaGreat
namespace Go.Proofs.YtmnggbjcnoffeaaGreat
open Go Gv
set_option linter.unusedVariables false
set_option linter.unusedSimpArgs false
set_option maxRecDepth 100000
def jm (hp:aI Cell):Nat→Ref→List Int
 | 0,_=> []
 | _ + 1,none=> []
 | n + 1,some p=>match cf hp p with
   | none=> []
   | some c=>(bif c.dr then [c.hW] else []) ++ (jm hp n (cg c.cJ 0) ++ jm hp n (cg c.cJ 1))
theorem BV {hp:aI Cell} {n p:Nat} {c:di} (h:cf hp p=some c):jm hp (n + 1) (some p)=(bif c.dr then [c.hW] else []) ++ (jm hp n (cg c.cJ 0) ++ jm hp n (cg c.cJ 1)):=by
 show(match cf hp p with | none=> [] | some c=>_)=_
 rw [h]
theorem qf {hp:aI Cell} {p:Nat} {c:di} (h:cf hp p=some c) (b:Bool) (aU:List Bool):cont hp (some p) (b :: aU)=cont hp (cg c.cJ (eS b)) aU:=by
 unfold cont; rw [gM h]
theorem th {hp:aI Cell} :∀ {n:Nat} {r:Ref} {id:Int},id∈jm hp n r→ ∃ aU,cont hp r aU=some id
 | 0,_,_,h=>by cases h
 | _ + 1,none,_,h=>by cases h
 | n + 1,some p,id,h=>by
   cases aj:cf hp p with
   | none=>
     have:jm hp (n + 1) (some p)= []:=by
      show(match cf hp p with | none=> [] | some c=>_)=_
      rw [aj]
     rw [this] at h; cases h
   | some c=>
     rw [BV aj] at h
     rcases List.mem_append.1 h with h | h
     ·refine⟨[],?_⟩
      rw [jv (p:=p) rfl aj]
      cases hu:c.dr with
      | true=>rw [hu] at h; rw [List.mem_singleton.1 h]; rfl
      | false=>rw [hu] at h; cases h
     ·rcases List.mem_append.1 h with h | h
      ·obtain⟨aU,jV⟩:=th h
       exact⟨false :: aU,by rw [qf aj]; exact jV⟩
      ·obtain⟨aU,jV⟩:=th h
       exact⟨true :: aU,by rw [qf aj]; exact jV⟩
theorem JR {hp:aI Cell} :∀ {n:Nat} {r:Ref} {id:Int} {aU:List Bool},aU.length < n→cont hp r aU=some id→id∈jm hp n r
 | 0,_,_,_,ar,_=>by omega
 | n + 1,none,id,aU,_,h=>by rw [jZ fN] at h; cases h
 | n + 1,some p,id,aU,ar,h=>by
   cases aj:cf hp p with
   | none=>
     exfalso
     cases aU with
     | nil=>
       unfold cont at h
       have:cr hp (some p) []=some p:=rfl
       rw [this] at h
       simp only [aj] at h; cases h
     | cons b aU=>
       have:cr hp (some p) (b :: aU)=none:=by
        show(match cf hp p with | none=>none | some c=>cr hp (cg c.cJ (eS b)) aU)=none
        rw [aj]
       rw [jZ this] at h; cases h
   | some c=>
     rw [BV aj]
     cases aU with
     | nil=>
       rw [jv (p:=p) rfl aj] at h
       cases hu:c.dr with
       | true=>
         rw [hu] at h
         have:c.hW=id:=by simpa using h
         rw [this]; simp
       | false=>rw [hu] at h; cases h
     | cons b aU=>
       rw [qf aj] at h
       have ka:aU.length < n:=by simp at ar; omega
       have:=JR ka h
       cases b
       ·exact List.mem_append_right _ (List.mem_append_left _ this)
       ·exact List.mem_append_right _ (List.mem_append_right _ this)
theorem Jl {hp:aI Cell} :∀ {n:Nat} {r:Ref},(∀ aU cs id,cont hp r aU=some id→cont hp r cs=some id→aU=cs)→ (jm hp n r).Nodup
 | 0,_,_=>List.nodup_nil
 | _ + 1,none,_=>List.nodup_nil
 | n + 1,some p,h=>by
   cases aj:cf hp p with
   | none=>
     have:jm hp (n + 1) (some p)= []:=by
      show(match cf hp p with | none=> [] | some c=>_)=_
      rw [aj]
     rw [this]; exact List.nodup_nil
   | some c=>
     rw [BV aj]
     have hb:∀ b,(jm hp n (cg c.cJ (eS b))).Nodup:=fun b=>Jl fun aU cs id J ad=>by
      have:=h (b :: aU) (b :: cs) id (by rw [qf aj]; exact J) (by rw [qf aj]; exact ad)
      simpa using this
     rw [List.nodup_append,List.nodup_append]
     refine⟨by cases c.dr <;> simp,⟨hb false,hb true,fun a bg iV mi e=> ?_⟩,fun a bg iV mi e=> ?_⟩
     ·subst e
      obtain⟨aU,J⟩:=th bg
      obtain⟨cs,ad⟩:=th mi
      have:=h (false :: aU) (true :: cs) a (by rw [qf aj]; exact J) (by rw [qf aj]; exact ad)
      simp at this
     ·subst e
      cases hu:c.dr with
      | false=>rw [hu] at bg; cases bg
      | true=>
        rw [hu] at bg
        have bg:a=c.hW:=List.mem_singleton.1 bg
        have bB:cont hp (some p) []=some a:=by rw [jv (p:=p) rfl aj,hu,bg]; rfl
        rcases List.mem_append.1 mi with J | J
        ·obtain⟨aU,J⟩:=th J
         have:=h [] (false :: aU) a bB (by rw [qf aj]; exact J)
         cases this
        ·obtain⟨aU,J⟩:=th J
         have:=h [] (true :: aU) a bB (by rw [qf aj]; exact J)
         cases this
theorem JS:∀ {l m:List Int},l.Nodup→ (∀ x∈l,x∈m)→l.length≤m.length
 | [],m,_,_=>Nat.zero_le _
 | x :: l,m,aL,h=>by
   obtain⟨J,ad⟩:=List.nodup_cons.1 aL
   have ak:=h x (by simp)
   have:=JS (m:=m.erase x) ad fun y a7=>(List.mem_erase_of_ne fun e=>J (by rw [← e]; exact a7)).2 (h y (by simp [a7]))
   rw [List.length_erase_of_mem ak] at this
   have hp:=List.length_pos_of_mem ak
   simp only [List.length_cons]; omega
theorem QT (v:az) (n:Int):bK (xN v n) (fun _=>True):=by
 unfold xN
 exact .cond (fun _=> .ret trivial) fun _=> .cond (fun _=> .eq rfl (.ret trivial)) fun _=> .eq rfl (.eq rfl (.ret trivial))
theorem Fa {hp:aI Cell} {t:Nat} {c:fb} (aj:fg hp t=some c):∀ (d f:Nat) (r:Ref) (aP:az) (cE:Int) (hz:List cW),d < f→ (∀ aU p,cr hp r aU=some p→aU.length < d)→ (∀ aU p,cr hp r aU=some p→ ∃ c,cf hp p=some c)→hz.length + (jm hp d r).length≤20000→
 bK (sH f hp (some t) r aP cE hz) (fun o=>o.length=hz.length + (jm hp d r).length)
 | d,0,r,aP,cE,hz,a0,_,_,_=>by omega
 | 0,f + 1,none,aP,cE,hz,a0,hd,aQ,ar=>⟨hz,rfl,rfl⟩
 | 0,f + 1,some p,aP,cE,hz,a0,hd,aQ,ar=>by have:=hd [] p rfl; simp at this
 | d + 1,f + 1,none,aP,cE,hz,a0,hd,aQ,ar=>⟨hz,rfl,rfl⟩
 | d + 1,f + 1,some p,aP,cE,hz,a0,hd,aQ,ar=>by
   obtain⟨e,he⟩:=aQ [] p rfl
   rw [BV he] at ar ⊢
   simp only [List.length_append] at ar ⊢
   have pe:∀ b,(∀ aU q,cr hp (cg e.cJ (eS b)) aU=some q→aU.length < d)∧ ∀ aU q,cr hp (cg e.cJ (eS b)) aU=some q→ ∃ c,cf hp q=some c:=fun b=>⟨fun aU q hq=>by
    have:=hd (b :: aU) q (by rw [gM he]; exact hq)
    simp at this; omega,fun aU q hq=>aQ (b :: aU) q (by rw [gM he]; exact hq)⟩
   show bK (cond (some p:Ref).isNone (some hz) _) _
   refine .cond (fun aj=>by cases aj) fun _=> ?_
   refine .bind (P:=fun y=>y.length=hz.length + (bif e.dr then [e.hW] else []).length) ?_ fun aB bG=> ?_
   ·unfold AH
    refine .eq rfl (.eq he ?_)
    cases hu:e.dr with
    | true=>
      rw [hu] at ar
      simp only [cond_true,List.length_singleton] at ar
      refine .eq (a:=hz ++ [{ db:=aP,tb:=cE,bC:=e.hW }]) ?_ (.ret (by simp))
      show(hQ 32 hz _).bind _=_
      rw [kh _ _ (by simp; omega) (by omega)]; rfl
    | false=>exact .eq rfl (.ret (by simp))
   ·refine .eq rfl (.eq he (.bind (Fa aj d f _ aP (bu (cE + 1)) aB (by omega) (pe false).1 (pe false).2 (by rw [bG]; show _ + _ + (jm hp d (cg e.cJ 0)).length≤_; omega)) fun aK cF=> ?_))
    have cF:aK.length=aB.length + (jm hp d (cg e.cJ 0)).length:=cF
    refine .eq rfl (.eq rfl (.eq aj (.bind (QT _ _) fun b1 _=> .eq rfl (.bind (Fa aj d f _ _ (bu (cE + 1)) aK (by omega) (pe true).1 (pe true).2 (by rw [cF,bG]; show _ + _ + _ + (jm hp d (cg e.cJ 1)).length≤_; omega)) fun cD iw=> .ret ?_))))
    have iw:cD.length=aK.length + (jm hp d (cg e.cJ 1)).length:=iw
    rw [iw,cF,bG]; omega
theorem SP {hp:aI Cell} {t:Nat} {g:List Bool→Option Int} (h:h3 hp t g) (aq:∀ aU cs id,g aU=some id→g cs=some id→aU=cs) (m:List Int) (hm:∀ aU id,g aU=some id→id∈m) (ar:m.length≤20000):bK (vj hp (some t)) (fun r=>r=0→ ∀ aU,g aU=none):=by
 obtain⟨c,aj,hb,bI,bx⟩:=h.ok
 have aL:(jm hp 33 c.ck).Nodup:=Jl fun aU cs id J ad=>aq aU cs id (by rw [← bx]; exact J) (by rw [← bx]; exact ad)
 have hle:(jm hp 33 c.ck).length≤m.length:=JS aL fun x ak=>by
  obtain⟨aU,jV⟩:=th ak
  exact hm aU x (by rw [← bx]; exact jV)
 unfold vj A7 Ax
 refine .bind (P:=fun y=>y.length=(jm hp 33 c.ck).length) (.bind (P:=fun y=>y.length=(jm hp 33 c.ck).length) (.bind (P:=fun y=>y.length=(jm hp 33 c.ck).length) (.cond (fun _=> .eq rfl (.eq aj ((show bK (Du hp (some t) c.ck default 0 []) _ from Fa aj 33 gu c.ck default 0 [] (by unfold gu; omega) (fun aU p hp=>by have:=bI.dep aU p hp; omega) bI.reads (by simp; omega)).bind fun y a7=> .ret (by simpa using a7)))) fun aj=>by cases aj) fun y a7=> .ret a7) fun y a7=> .ret a7) fun y a7=> .ret fun bB aU=> ?_
 have bB:(jm hp 33 c.ck).length=0:=by rw [← a7]; have:(y.length:Int)=0:=bB; omega
 cases Xt:g aU with
 | none=>rfl
 | some id=>
   have Hr:cont hp c.ck aU=some id:=by rw [bx]; exact Xt
   have hlen:aU.length < 33:=by
    cases a0:cr hp c.ck aU with
    | none=>rw [jZ a0] at Hr; cases Hr
    | some p=>have:=bI.dep aU p a0; omega
   have:=JR hlen Hr
   rw [List.eq_nil_of_length_eq_zero bB] at this; cases this
end Go.Proofs.YtmnggbjcnoffeaaGreat
namespace Go.Proofs.YtmnggbjcnoffeaaGreat
open Go Gv
set_option linter.unusedVariables false
set_option linter.unusedSimpArgs false
set_option maxRecDepth 100000
end Go.Proofs.YtmnggbjcnoffeaaGreat
namespace Go.Proofs.YtmnggbjcnoffeaaGreat
open Go Gv
set_option linter.unusedVariables false
set_option linter.unusedSimpArgs false
set_option maxRecDepth 100000
theorem Ro (x:cG) (n:Int) (ar:x.cK.length≤1000):bK (AD x n) (fun r=>(r= -1∧hX x.cK n=false)∨ ∃ i:Nat,i < x.cK.length∧r=i∧ (aN x.cK i).b8=n∧hX x.cK n=true∧ ∀ j,j < i→ (aN x.cK j).b8≠n):=find_eq x n ar
theorem R7 {l:List aH} {n:Int} {i:Nat} (aL:l.Pairwise fun a c=>a.b8≠c.b8) (aq:i < l.length) (h:(aN l i).b8=n):
 l.take i ++ l.drop (i + 1)=l.filter (fun c=>c.b8 !=n):=by
 rw [gf _ aq] at h
 have C9:l=l.take i ++ l[i] :: l.drop (i + 1):=by rw [List.getElem_cons_drop,List.take_append_drop]
 rw [C9,List.pairwise_append] at aL
 obtain⟨J,ad,ax⟩:=aL
 obtain⟨aR,aW⟩:=List.pairwise_cons.1 ad
 conv=>rhs; rw [C9]
 rw [List.filter_append,List.filter_cons_of_neg (by simp [h])]
 congr 1
 ·exact(List.filter_eq_self.2 fun c aj=>by have:=ax c aj l[i] List.mem_cons_self; rw [h] at this; simpa using this).symm
 ·exact(List.filter_eq_self.2 fun c aj=>by have:=aR c aj; rw [h] at this; simp; exact fun e=>this e.symm).symm
theorem kC.filter {s:aZ} {k:Nat} {l:List aH} (h:kC s k l) (q:aH→Bool):kC s k (l.filter q) where
 ok i aq:=h.ok i (List.mem_filter.1 aq).1
 num:=h.num.sublist List.filter_sublist
 len:=Nat.le_trans (List.length_filter_le _ _) h.len
theorem QU {s:aZ} {k:Nat} {l:List aH} (ar:kC s k l) (n:Int):
 w2 (qF s k l) n=some (hX l n,qF s k (l.filter fun c=>c.b8 !=n)):=by
 refine bK.get ?_
 unfold w2
 obtain⟨iW,gJ⟩:=ar.gL
 refine(Ro (qF s k l) n (by show(gL _ l).length≤1000; omega)).bind fun aB J=> ?_
 rcases J with⟨rfl,ad⟩ | ⟨j,ad,rfl,ax,aR,aW⟩
 ·have kT:hX l n=false:=by rw [← ad]; exact BE.symm
  refine .cond (fun _=> .ret ?_) fun aj=>by simp at aj
  rw [kT,List.filter_eq_self.2 fun c aj=>by simpa using Ke kT c aj]
 ·have wO:hX l n=true:=by rw [← aR]; exact BE.symm
  refine .cond (fun aj=>by simp at aj; omega) fun _=> ?_
  have aC:j < (gL (hc s k) l).length:=ad
  refine .eq (a:=gL (hc s k) (l.filter fun c=>c.b8 !=n)) ?_ (.ret ?_)
  ·show zc (gL (hc s k) l) _ _=_
   unfold zc
   rw [iG (by omega),if_pos ⟨by omega,by omega,by omega⟩]
   have Xu:(gL (hc s k) l).Pairwise fun a c=>a.b8≠c.b8:=((E5 l).symm.pairwise_iff fun b3=>fun e=>b3 e.symm).1 ar.num
   rw [← QM (BS s k) ar.Hj,← R7 Xu aC ax]
   simp
  ·rw [wO]; rfl
end Go.Proofs.YtmnggbjcnoffeaaGreat
namespace Go.Proofs.YtmnggbjcnoffeaaGreat
open Go Gv
set_option linter.unusedVariables false
set_option linter.unusedSimpArgs false
set_option maxRecDepth 100000
def h5 (l:List aH) (e:bo):List aH:=l.filter fun c=> !h1 c.bQ e
theorem mw {l:List aH} {e:bo} {c:aH} :c∈h5 l e↔c∈l∧h1 c.bQ e=false:=by
 unfold h5; rw [List.mem_filter]; simp
theorem ib.h5 {s:aZ} {k:Nat} {l:List aH} (h:ib s k l) (e:bo):ib s k (Go.Proofs.YtmnggbjcnoffeaaGreat.h5 l e):=
 ⟨h.ok.filter _,h.key.sublist List.filter_sublist⟩
theorem Bu {s:aZ} {k:Nat} {l:List aH} (h:ib s k l) {e:bo} {i:aH} (aq:i∈l) (au:h1 i.bQ e=true):h5 l e=l.filter fun c=>c.b8 !=i.b8:=by
 unfold h5
 refine List.filter_congr fun c aj=> ?_
 by_cases aE:c=i
 ·rw [aE,au]; simp
 ·have J:h1 c.bQ e=false:=by
   rw [Bool.eq_false_iff]; intro ad
   exact aE (h.uniq aj aq (JJ ad (by rw [E6]; exact au)))
  have ad:c.b8≠i.b8:=fun ad=>aE (h.ok.uniq aj aq ad)
  rw [J]; simp [ad]
theorem V2 {s:aZ} (h:dK s) {hp:aI Cell} {q:Nat} {l:List aH} {own:Nat→Prop} (hq:vT s hp q l own) (ar:ib s 0 l) {i:aH} (aq:i∈l):
 bK (xd hp ⟨some q⟩ i) (fun hp'=>vT s hp' q (h5 l i.bQ) own∧eh hp hp' own):=by
 obtain⟨m,em,J,ad,ax,aR,aW,h6⟩:=hq.ok
 have fY:=(ar.ok.ok i aq).fh
 have bx:dt em (ey i.bQ)=some i.b8:=(aW _ _).2 ⟨i,aq,rfl,rfl⟩
 unfold xd AN ve
 refine .eq (BF (fY.CC h (by decide)).1) ?_
 refine .eq (a:=(true,cx hp m (Cell.mK (g3 em (ey i.bQ))))) ?_ (.ret ?_)
 ·show((l0 hp q).bind _).bind _=_
  rw [J]
  show((k4 hp m).bind _).bind _=_
  rw [ad]
  show cond (!(dt em (ey i.bQ)).isSome) _ _=_
  rw [bx]
  show(l0 hp q).bind _=_
  rw [J]
  show(k4 hp m).bind _=_
  rw [ad]; rfl
 have Aa:q≠m:=fun e=>by
  subst e
  have:=rP J
  rw [pC ad] at this; cases this
 refine⟨⟨m,_,by rw [Eb (k0 Aa.symm)]; exact J,JM (pC ad),ax,aR,fun cz n=> ?_,h6.del⟩,.up aR⟩
 rw [x5 h6]
 by_cases fZ:cz=ey i.bQ
 ·rw [if_pos fZ]
  refine⟨fun e=>(by cases e),fun⟨c,aj,bc,cn⟩=> ?_⟩
  obtain⟨ay,bf⟩:=mw.1 aj
  rw [(z9 h (ar.ok.ok c ay).fh fY).2 (bc.trans fZ)] at bf; cases bf
 ·rw [if_neg fZ,aW]
  constructor
  ·rintro ⟨c,aj,bc,cn⟩
   refine⟨c,mw.2 ⟨aj,?_⟩,bc,cn⟩
   rw [Bool.eq_false_iff]; intro eo
   exact fZ (by rw [← bc]; exact(z9 h (ar.ok.ok c aj).fh fY).1 eo)
  ·rintro ⟨c,aj,bc⟩
   exact⟨c,(mw.1 aj).1,bc⟩
theorem V3 {s:aZ} (h:dK s) {hp:aI Cell} {m:Nat} {l:List aH} {own:Nat→Prop} (hq:lB s hp m l own) (ar:ib s 1 l) {i:aH} (aq:i∈l):
 bK (w6 hp ⟨0,32,⟨some m⟩⟩ i) (fun hp'=>lB s hp' m (h5 l i.bQ) own∧eh hp hp' own):=by
 obtain⟨em,kW,ad,ax,aR,aW,h6⟩:=hq.ok
 have fY:=(ar.ok.ok i aq).fh
 have gk:=zo h fY
 have bI:∃ t,dt em (gE (ey i.bQ))=some (some t):=by
  cases bx:dt em (gE (ey i.bQ)) with
  | none=>exact absurd rfl (aR _ bx i aq)
  | some r=>obtain⟨t,g,rfl,_⟩:=ax _ _ bx; exact⟨t,rfl⟩
 obtain⟨t,bI⟩:=bI
 obtain⟨eT,g,e,ay,bf,bJ⟩:=ax _ _ bI
 cases e
 obtain⟨n,aL⟩:=Int.eq_ofNat_of_zero_le gk.pre.1
 have zp:n≤32:=by have:=gk.pre.2; omega
 have r8:=EM gk
 have hp':dU (aN i.bQ.c8 0).db n=iP i.bQ:=by unfold iP; rw [aL]; rfl
 have Xv:g (iP i.bQ)=some i.b8:=(bJ _ _).2 ⟨i,aq,rfl,rfl,rfl⟩
 have Nw:∀ c∈l,gE (ey c.bQ)=gE (ey i.bQ)→ (h1 c.bQ i.bQ=false↔iP c.bQ≠iP i.bQ):=fun c aj ak=>by
  rw [Bool.eq_false_iff,ne_eq,wP h (ar.ok.ok c aj).fh fY]
  exact⟨fun J ad=>J ⟨ak,ad⟩,fun J ad=>J ad.2⟩
 have lK:∀ c∈l,gE (ey c.bQ)≠gE (ey i.bQ)→h1 c.bQ i.bQ=false:=fun c aj ak=>by
  rw [Bool.eq_false_iff,ne_eq,wP h (ar.ok.ok c aj).fh fY]
  exact fun J=>ak J.1
 unfold w6
 refine .eq (E7 h fY _) (.eq rfl (.eq kW (.eq rfl ?_)))
 simp only [bI]
 rw [aL] at r8 ⊢
 refine(show bK (vc hp (some t) (aN i.bQ.c8 0).db (n:Int)) _ from QS ay zp r8 (by rw [hp']; exact Xv)).bind fun aK aQ=> ?_
 obtain⟨_,iW,gJ,pj⟩:=aQ
 rw [hp'] at iW
 obtain⟨Yr,cq⟩:=aK
 simp only at iW gJ pj ⊢
 have Hm:∀ q,Own hp t q→q≠m:=fun q Hn e=>by
  have:=lA kW
  rw [← e] at this
  rcases ay.BU Hn with⟨c,aj⟩ | ⟨c,aj⟩ <;> rw [aj] at this <;> cases this
 have jC:pat cq m=pat hp m:=gJ.rest m (hU (lA kW)) fun hq=>Hm m hq rfl
 have Gs:jd cq m=some em:=by rw [Bf jC]; exact kW
 have zq:∀ aU rq,(if aU=iP i.bQ then none else g aU)=some rq↔ ∃ c∈h5 l i.bQ,gE (ey c.bQ)=gE (ey i.bQ)∧iP c.bQ=aU∧c.b8=rq:=fun aU rq=>by
  by_cases jV:aU=iP i.bQ
  ·rw [if_pos jV]
   refine⟨fun e=>(by cases e),fun⟨c,aj,bc,cn,_⟩=> ?_⟩
   obtain⟨cR,cy⟩:=mw.1 aj
   exact absurd (cn.trans jV) ((Nw c cR bc).1 cy)
  ·rw [if_neg jV,bJ]
   constructor
   ·rintro ⟨c,aj,bc,cn,eo⟩
    exact⟨c,mw.2 ⟨aj,(Nw c aj bc).2 fun e=>jV (cn.symm.trans e)⟩,bc,cn,eo⟩
   ·rintro ⟨c,aj,bc⟩
    exact⟨c,(mw.1 aj).1,bc⟩
 have pG:∀ cz eT,cz≠gE (ey i.bQ)→dt em cz=some (some eT)→ ∃ eH,h3 hp eT eH∧h3 cq eT eH∧ (∀ q,Own hp eT q→own q)∧ (∀ q,Own cq eT q↔Own hp eT q)∧ ∀ aU n,eH aU=some n↔ ∃ c∈h5 l i.bQ,gE (ey c.bQ)=cz∧iP c.bQ=aU∧c.b8=n:=fun cz eT cQ aQ=>by
  obtain⟨Xp,eH,e,cR,cy,gb⟩:=ax cz _ aQ
  cases e
  obtain⟨dH,dR⟩:=cR.congr (hp':=cq) fun q hq=>gJ.rest q (cR.tx hq) fun iN=>aW _ _ _ _ bI aQ cQ.symm q iN hq
  refine⟨eH,cR,dH,cy,dR,fun aU n=> ?_⟩
  rw [gb]
  constructor
  ·rintro ⟨c,aj,bc,cn⟩
   exact⟨c,mw.2 ⟨aj,lK c aj (by rw [bc]; exact cQ)⟩,bc,cn⟩
  ·rintro ⟨c,aj,bc⟩
   exact⟨c,(mw.1 aj).1,bc⟩
 have dV:eh hp cq own:=⟨gJ.keys,fun q hq eX=>gJ.rest q hq fun iN=>eX (bf q iN)⟩
 have cX:lB s cq m (h5 l i.bQ) own:=by
  refine⟨em,Gs,ad,fun cz kG hZ=> ?_,fun cz fZ c aj=>aR cz fZ c (mw.1 aj).1,fun cz iQ t1 t2 h9 jl cQ q iA mT=> ?_,h6⟩
  ·by_cases fZ:cz=gE (ey i.bQ)
   ·subst fZ
    rw [bI] at hZ; cases hZ
    exact⟨t,_,rfl,iW,fun q hq=>bf q (pj q hq),zq⟩
   ·obtain⟨eT,eH,e,_⟩:=ax cz kG hZ
    subst e
    obtain⟨uN,cR,cy,gb,iR,oq⟩:=pG cz eT fZ hZ
    exact⟨eT,uN,rfl,cy,fun q hq=>gb q ((iR q).1 hq),oq⟩
  ·have ec:∀ cz t1,dt em cz=some (some t1)→ ∀ q,Own cq t1 q→Own hp t1 q:=fun cz t1 h9 q iA=>by
    by_cases aE:cz=gE (ey i.bQ)
    ·subst aE
     rw [bI] at h9; cases h9
     exact pj q iA
    ·obtain⟨_,_,_,_,iR,_⟩:=pG cz t1 aE h9
     exact(iR q).1 iA
   exact aW _ _ _ _ h9 jl cQ q (ec cz t1 h9 q iA) (ec iQ t2 jl q mT)
 refine .eq Gs (.eq rfl ?_)
 simp only [bI]
 refine(show bK (vj cq (some t)) _ from SP iW (fun aU cs id J ad=> ?_) (l.map (·.b8)) (fun aU id J=> ?_) (by rw [List.length_map]; have:=ar.ok.len; omega)).bind fun bk bc=> ?_
 ·obtain⟨c,aj,_,dH,dR⟩:=(zq _ _).1 J
  obtain⟨d,hd,_,d1,d2⟩:=(zq _ _).1 ad
  have:=ar.ok.uniq (mw.1 aj).1 (mw.1 hd).1 (dR.trans d2.symm)
  rw [← dH,← d1,this]
 ·obtain⟨c,aj,_,dH,dR⟩:=(zq _ _).1 J
  exact List.mem_map.2 ⟨c,(mw.1 aj).1,dR⟩
 refine .bind (P:=fun hp'=>lB s hp' m (h5 l i.bQ) own∧eh hp hp' own) (.cond (fun dg=> .eq rfl (.ret ?_)) fun _=> .ret ⟨cX,dV⟩) fun bH cM=> .ret cM
 have bc:=bc (by simpa using dg)
 have wx:=lA Gs
 have Gt:∀ eT eH,h3 cq eT eH→h3 (cx cq m (Cell.kL (g3 em (gE (ey i.bQ))))) eT eH∧ ∀ q,Own (cx cq m (Cell.kL (g3 em (gE (ey i.bQ))))) eT q↔Own cq eT q:=fun eT eH uM=>uM.congr fun q oj=>k0 fun e=>by
  rw [e] at wx
  rcases uM.BU oj with⟨c,aj⟩ | ⟨c,aj⟩ <;> rw [aj] at wx <;> cases wx
 refine⟨⟨_,JN wx,ad,fun cz kG hZ=> ?_,fun cz fZ c aj=> ?_,fun cz iQ t1 t2 h9 jl cQ q iA mT=> ?_,h6.del⟩,dV.trans (eh.up ad) fun q _ hq=>hq⟩
 ·rw [x5 h6] at hZ
  split at hZ
  ·cases hZ
  ·rename_i fZ
   obtain⟨eT,eH,e,_⟩:=ax cz kG hZ
   subst e
   obtain⟨uN,cR,cy,gb,iR,oq⟩:=pG cz eT fZ hZ
   obtain⟨dH,dR⟩:=Gt eT uN cy
   exact⟨eT,uN,rfl,dH,fun q hq=>gb q ((iR q).1 ((dR q).1 hq)),oq⟩
 ·rw [x5 h6] at fZ
  split at fZ
  ·rename_i e
   intro ak
   have:=(zq _ _).2 ⟨c,aj,ak.trans e,rfl,rfl⟩
   rw [bc] at this; cases this
  ·exact aR cz fZ c (mw.1 aj).1
 ·rw [x5 h6] at h9 jl
  split at h9
  ·cases h9
  split at jl
  ·cases jl
  rename_i aE bd
  obtain⟨Xk,cR,cy,gb,iR,_⟩:=pG cz t1 aE h9
  obtain⟨Xl,dH,dR,hh,Dp,_⟩:=pG iQ t2 bd jl
  exact aW _ _ _ _ h9 jl cQ q ((iR q).1 (((Gt t1 _ cy).2 q).1 iA)) ((Dp q).1 (((Gt t2 _ dR).2 q).1 mT))
theorem srem {s:aZ} {k:Nat} {hp:aI Cell} {q:Nat} {l:List aH} {own:Nat→Prop} (hq:vU s k hp q l own) (ar:ib s k l) {i:aH} (aq:i∈l):
 dh (xe hp ⟨some q⟩ i) (fun hp'=>vU s k hp' q (h5 l i.bQ) own∧eh hp hp' own):=by
 obtain⟨key,cap,J,ad⟩:=hq.ok
 unfold xe
 refine .eq rfl (.eq J (.eq (QU ar.ok _) (.any fun aM=> .eq rfl (.ret ?_))))
 rw [Bu ar aq (yo _)]
 exact⟨⟨aM.1,aM.2,JO (ts J),ad⟩,.up ad⟩
theorem V4 {s:aZ} (h:dK s) {k:Nat} {hp:aI Cell} {f:gd} {l:List aH} {own:Nat→Prop} (hq:oM s k hp f l own) (ar:ib s k l) {i:aH} (aq:i∈l):
 dh (DB hp f i) (fun hp'=>oM s k hp' f (h5 l i.bQ) own∧eh hp hp' own):=by
 rcases hq with⟨rfl,q,rfl,hq⟩ | ⟨rfl,m,rfl,hq⟩ | ⟨dV,q,rfl,hq⟩
 ·exact dh.of ((V2 h hq ar aq).mono fun hp' aQ=>⟨.inl ⟨rfl,q,rfl,aQ.1⟩,aQ.2⟩)
 ·exact dh.of ((V3 h hq ar aq).mono fun hp' aQ=>⟨.inr (.inl ⟨rfl,m,rfl,aQ.1⟩),aQ.2⟩)
 ·exact(srem hq ar aq).mono fun hp' aQ=>⟨.inr (.inr ⟨dV,q,rfl,aQ.1⟩),aQ.2⟩
theorem IM {α β:Type} [DecidableEq α]:∀ {l:List (α × β)} {x:α},ml l→g3 l x=l.filter fun a=>decide (a.1≠x)
 | [],_,_=>rfl
 | (k,w) :: r,x,h=>by
   obtain⟨J,ad⟩:=List.pairwise_cons.1 h
   unfold g3
   by_cases e:x=k
   ·rw [if_pos e,List.filter_cons_of_neg (by simp [e])]
    exact(List.filter_eq_self.2 fun a bg=>by simpa using fun e'=>J a bg (by rw [← e,e'])).symm
   ·rw [if_neg e,List.filter_cons_of_pos (by simpa using fun e'=>e e'.symm),IM ad]
theorem qO.Dh {s:aZ} {k:Nat} {em:List (Int × aH)} {l:List aH} (h:qO em l) (ar:kC s k l):ml em:=by
 refine(h.pairwise_iff fun b3=>Ne.symm b3).2 ?_
 rw [List.pairwise_map]
 exact ar.num.imp fun b3=>b3
theorem QV {s:aZ} (h:dK s) {k:Nat} (au:k < 4) {hp:aI Cell} {p:Nat} {l:List aH} {own:Nat→Prop} (ak:jQ s k hp p l own) {e:bo} (he:iI s k e):
 dh (xm hp (some p) e) (fun r=>(r.1,r.2.1)=pd (eZ l e)∧jQ s k r.2.2 p (h5 l e) own∧eh hp r.2.2 own):=by
 obtain⟨f,m,em,J,ad,ax,aR,aW,bc⟩:=ak.cell
 have hm:=rQ ad
 have hp':=lX J
 have jC:p≠m:=fun e=>by rw [e,hm] at hp'; cases hp'
 unfold xm
 refine .eq (E8 h au ak he) ?_
 refine .bind (P:=fun bH=>jQ s k bH p (h5 l e) own∧eh hp bH own) (.cond (fun aj=> ?_) fun aj=> .ret ?_) fun bH cM=> .ret ⟨rfl,cM⟩
 ·cases a0:eZ l e with
  | none=>rw [a0] at aj; cases aj
  | some i=>
    obtain⟨aq,od⟩:=vC a0
    have Xw:h5 l i.bQ=h5 l e:=by
     rw [Bu ak.mm aq (yo _),Bu ak.mm aq od]
    refine .eq rfl (.eq J (.bind (V4 h bc ak.mm aq) fun cq aQ=> ?_))
    obtain⟨iW,gJ⟩:=aQ
    have iW:oM s k cq f (h5 l i.bQ) (fun q=>own q∧q≠m∧q≠p):=iW
    rw [Xw] at iW
    show dh (ao.bind (ao.of (hk cq p)) fun b7=>ao.bind (ao.of b7.jH.p) fun bT=>ao.bind (ao.of (j3 cq bT)) fun e0=>ao.bind (ao.of (some (cx cq bT (Cell.jy (g3 e0 i.b8))))) fun cd=>ao.ret cd) _
    have cR:pat cq p=some (.l2 ⟨m1 k,(Dq s k:Int),f,⟨some m⟩⟩):=by rw [gJ.rest p (hU hp') (fun hq=>hq.2.2 rfl)]; exact hp'
    have cy:pat cq m=some (.jy em):=by rw [gJ.rest m (hU hm) (fun hq=>hq.2.1 rfl)]; exact hm
    refine .eq (by unfold hk; rw [cR]) (.eq rfl (.eq (by unfold j3; rw [cy]) (.eq rfl (.ret ?_))))
    have Xx:eh hp cq own:=⟨gJ.keys,fun q hq eX=>gJ.rest q hq fun h=>eX h.1⟩
    have oc:eh hp (cx cq m (Cell.jy (g3 em i.b8))) own:=Xx.trans (eh.up (own:=own) aR) fun q _ hq=>hq
    refine⟨⟨ak.mm.h5 e,⟨f,m,_,by unfold hk; rw [k0 jC.symm,cR],Rn cy,ax,aR,?_,iW.congr (fun q _ hq=>hq) fun q hq=>k0 hq.2.1.symm⟩,fun q hq=>oc.keys q (ak.rh q hq)⟩,oc⟩
    unfold qO
    rw [IM (aW.Dh ak.mm.ok),Bu ak.mm aq od]
    refine(aW.filter _).trans ?_
    rw [List.filter_map]
    have:((fun a:Int × aH=>decide (a.1≠i.b8)) ∘ fun c:aH=>(c.b8,c))=fun c=>c.b8 !=i.b8:=by
     funext c
     show decide (c.b8≠i.b8)=_
     by_cases e:c.b8=i.b8 <;> simp [e]
    rw [this]
 ·have a0:eZ l e=none:=by
   cases a0:eZ l e with
   | none=>rfl
   | some i=>rw [a0] at aj; cases aj
  have:h5 l e=l:=by
   unfold h5
   exact List.filter_eq_self.2 fun c aj=>by rw [tg a0 c aj]; rfl
  rw [this]
  exact⟨ak,.refl⟩
end Go.Proofs.YtmnggbjcnoffeaaGreat
namespace Go.Proofs.YtmnggbjcnoffeaaGreat
open Go Gv
set_option linter.unusedVariables false
set_option linter.unusedSimpArgs false
set_option maxRecDepth 100000
theorem Ec {hp hp':aI Cell} {p:Nat} (h:pat hp' p=pat hp p):jc hp' p=jc hp p:=by unfold jc; rw [h]
theorem Ed {hp hp':aI Cell} {p:Nat} (h:pat hp' p=pat hp p):lD hp' p=lD hp p:=by unfold lD; rw [h]
theorem Rp {hp:aI Cell} {p:Nat} {k:Cell} {x:hL} (h:pat hp p=some k):jc (cx hp p (.oO x)) p=some x:=by unfold jc; rw [qv h]
theorem Rq {hp:aI Cell} {p:Nat} {k:Cell} {x:List (Int × Ref)} (h:pat hp p=some k):lD (cx hp p (.n3 x)) p=some x:=by unfold lD; rw [qv h]
structure tz (s:aZ) (hp:aI Cell) (p m:Nat) (gF:List (Int × Ref)) (n:Nat) (ls:Nat→List aH) (own:Nat→Nat→Prop):Prop where
 has:∀ k,k < n→ ∃ q,dt gF ((k:Int) + 1)=some (some q)∧jQ s k hp q (ls k) (own k)
 no:∀ x:Int,x < 1∨ (n:Int) < x→dt gF x=none
 Ab:∀ k k',k < n→k' < n→k≠k'→ ∀ q,own k q→ ¬ own k' q
 out:∀ k,k < n→ ¬ own k p∧ ¬ own k m
theorem tz.congr {s:aZ} {hp hp':aI Cell} {p m:Nat} {gF:List (Int × Ref)} {n:Nat} {ls:Nat→List aH} {own:Nat→Nat→Prop} (h:tz s hp p m gF n ls own) (au:∀ q,q∈dQ hp→q∈dQ hp') (bg:∀ k,k < n→ ∀ q,own k q→pat hp' q=pat hp q):tz s hp' p m gF n ls own:=
 ⟨fun k h6=>by obtain⟨q,J,ad⟩:=h.has k h6; exact⟨q,J,ad.congr au (bg k h6)⟩,h.no,h.Ab,h.out⟩
structure ks (s:aZ) (hp:aI Cell) (p:Nat) (ls:Nat→List aH) (next:Int):Prop where
 cell:∃ m gF own,jc hp p=some ⟨s,⟨some m⟩,next⟩∧lD hp m=some gF∧tz s hp p m gF 4 ls own
def qP (ls:Nat→List aH) (k:Nat) (l:List aH):Nat→List aH:=fun j=>if j=k then l else ls j
theorem JT {s:aZ} {hp:aI Cell} {p:Nat} {ls:Nat→List aH} {next:Int} (h:ks s hp p ls next) {k:Nat} (au:k < 4):∃ q own,nJ hp (some p) ((k:Int) + 1)=some (some q)∧jQ s k hp q (ls k) own:=by
 obtain⟨m,gF,own,J,ad,ax⟩:=h.cell
 obtain⟨q,aR,aW⟩:=ax.has k au
 refine⟨q,own k,?_,aW⟩
 refine bK.get ?_
 unfold nJ
 refine .cond (fun aj=>by cases aj) fun _=> .eq rfl (.eq J (.eq rfl (.eq ad (.eq rfl (.ret ?_)))))
 rw [aR]; rfl
theorem Kk {s:aZ} (hs:dK s) {hp:aI Cell} {p:Nat} {ls:Nat→List aH} {next:Int} (h:ks s hp p ls next) {k:Nat} (au:k < 4) {e:bo} (he:iI s k e):vd hp (some p) e=some (pd (eZ (ls k) e)):=by
 obtain⟨q,own,J,ad⟩:=JT h au
 refine bK.get ?_
 unfold vd
 rw [he.kB]
 exact .eq J (.eq (E8 hs au ad he) (.ret rfl))
theorem BW {s:aZ} {hp:aI Cell} {p:Nat} {ls:Nat→List aH} {next:Int} (h:ks s hp p ls next) {k:Nat} (au:k < 4):sR hp (some p) ((k:Int) + 1)=some ((ls k).length:Int):=by
 obtain⟨q,own,J,ad⟩:=JT h au
 refine bK.get ?_
 unfold sR
 exact .eq J (.eq (KZ ad) (.ret rfl))
theorem R8 {s:aZ} (hs:dK s) {hp:aI Cell} {p:Nat} {ls:Nat→List aH} {next:Int} (h:ks s hp p ls next) {k:Nat} (au:k < 4):xy hp (some p) ((k:Int) + 1)=some (aN s.bA k).fv:=by
 obtain⟨m,gF,own,J,ad,ax⟩:=h.cell
 refine bK.get ?_
 unfold xy
 refine .eq rfl (.eq J ((Ea hs au).bind fun aB aE=> ?_))
 subst aE
 exact .idx rfl (by rw [hs.j6]; exact au) (.ret rfl)
theorem R9 {s:aZ} {hp:aI Cell} {p:Nat} {ls:Nat→List aH} {next:Int} (h:ks s hp p ls next):xw hp (some p)=some next:=by
 obtain⟨m,gF,own,J,ad,ax⟩:=h.cell
 refine bK.get ?_
 unfold xw
 exact .cond (fun aj=>by cases aj) fun _=> .eq rfl (.eq J (.ret rfl))
theorem Kl (o:Option aH):(pd o).2=o.isSome:=by cases o <;> rfl
theorem ks.change {s:aZ} {hp hp':aI Cell} {p:Nat} {ls:Nat→List aH} {next:Int} {m:Nat} {gF:List (Int × Ref)} {own:Nat→Nat→Prop} (J:jc hp p=some ⟨s,⟨some m⟩,next⟩) (ad:lD hp m=some gF) (ax:tz s hp p m gF 4 ls own) {k:Nat} (au:k < 4) {q:Nat} (hq:dt gF ((k:Int) + 1)=some (some q)) {l:List aH} {own':Nat→Prop}
 (ak:jQ s k hp' q l own') (a6:∀ x,own' x→own k x∨x ∉ dQ hp) (uH:eh hp hp' (own k)):ks s hp' p (qP ls k l) next:=by
 have jk:=hU (mA J)
 have gk:=hU (vJ ad)
 have bS:=(ax.out k au).1
 have bT:=(ax.out k au).2
 refine⟨m,gF,fun j=>if j=k then own' else own j,by rw [Ec (uH.rest p jk bS)]; exact J,by rw [Ed (uH.rest m gk bT)]; exact ad,⟨fun j aC=> ?_,ax.no,fun j p3 aC z1 cQ x kb mf=> ?_,fun j aC=> ?_⟩⟩
 ·by_cases e:j=k
  ·subst e
   refine⟨q,hq,?_⟩
   unfold qP
   rw [if_pos rfl,if_pos rfl]; exact ak
  ·obtain⟨kZ,ay,bf⟩:=ax.has j aC
   refine⟨kZ,ay,?_⟩
   unfold qP
   rw [if_neg e,if_neg e]
   exact bf.pP uH fun x ak=>ax.Ab j k aC au e x ak
 ·have key:∀ j,j < 4→j≠k→own' x→ ¬ own j x:=fun j aC cQ aR aW=>by
   obtain⟨kZ,ay,bf⟩:=ax.has j aC
   rcases a6 x aR with bc | bc
   ·exact ax.Ab j k aC au cQ x aW bc
   ·exact bc (bf.rh x aW)
  by_cases e:j=k
  ·rw [if_pos e] at kb
   rw [if_neg (fun e'=>cQ (e.trans e'.symm))] at mf
   exact key p3 z1 (fun e'=>cQ (e.trans e'.symm)) kb mf
  ·rw [if_neg e] at kb
   by_cases e':p3=k
   ·rw [if_pos e'] at mf; exact key j aC e mf kb
   ·rw [if_neg e'] at mf; exact ax.Ab j p3 aC z1 cQ x kb mf
 ·by_cases e:j=k
  ·rw [if_pos e]
   refine⟨fun h=> ?_,fun h=> ?_⟩
   ·rcases a6 p h with aR | aR
    ·exact bS aR
    ·exact aR jk
   ·rcases a6 m h with aR | aR
    ·exact bT aR
    ·exact aR gk
  ·rw [if_neg e]; exact ax.out j aC
theorem ks.next' {s:aZ} {hp:aI Cell} {p:Nat} {ls:Nat→List aH} {next:Int} (h:ks s hp p ls next) (n:Int) {c:hL} (aj:jc hp p=some c):ks s (cx hp p (Cell.oO { c with kl:=n })) p ls n:=by
 obtain⟨m,gF,own,J,ad,ax⟩:=h.cell
 rw [J] at aj; cases aj
 have sx:=mA J
 have jC:p≠m:=fun e=>by rw [e,vJ ad] at sx; cases sx
 exact⟨m,gF,own,Rp sx,by rw [Ed (k0 jC)]; exact ad,ax.congr (fun q hq=>by rw [pB]; exact hq) fun k au q hq=>k0 fun e=>(ax.out k au).1 (e ▸ hq)⟩
theorem Bn {s:aZ} (hs:dK s) {hp:aI Cell} {p:Nat} {ls:Nat→List aH} {next:Int} (h:ks s hp p ls next) {k:Nat} (au:k < 4) {e:bo} (he:iI s k e) (sF:Int) (jR:∀ i∈ls k,i.b8 < next) (hlen:(ls k).length < 900) (aL:0≤next∧next < 1000000):
 dh (pt hp (some p) e sF) (fun r=>
  if (eZ (ls k) e).isSome=true then r=(0,17,hp) else if (aN s.bA k).fv≤ ((ls k).length:Int) then r=(0,18,hp)
  else r.1=next∧r.2.1=0∧ks s r.2.2 p (qP ls k (ls k ++ [{ bQ:=e,b8:=next,kJ:=sF }])) (next + 1)):=by
 obtain⟨m,gF,own,J,ad,ax⟩:=h.cell
 obtain⟨q,aR,aW⟩:=ax.has k au
 have Hs:nJ hp (some p) ((k:Int) + 1)=some (some q):=by
  refine bK.get ?_
  unfold nJ
  refine .cond (fun aj=>by cases aj) fun _=> .eq rfl (.eq J (.eq rfl (.eq ad (.eq rfl (.ret ?_)))))
  rw [aR]; rfl
 unfold pt
 rw [he.kB]
 refine .eq Hs (.cond (fun aj=>by cases aj) fun _=> .eq (E8 hs au aW he) ?_)
 rw [Kl]
 refine .cond (fun aj=> .ret (by rw [if_pos aj])) fun aj=> .eq (KZ aW) (.eq (R8 hs h au) (.cond (fun dL=> .ret ?_) fun dL=> ?_))
 ·rw [if_neg (by rw [aj]; simp),if_pos (by simpa using dL)]
 ·have dL: ¬ (aN s.bA k).fv≤ ((ls k).length:Int):=by simpa using dL
  have a0:eZ (ls k) e=none:=by
   cases a0:eZ (ls k) e with
   | none=>rfl
   | some _=>rw [a0] at aj; cases aj
  have aq:kV s k ({ bQ:=e,b8:=next,kJ:=sF } :aH):=⟨he⟩
  have jr:hX (ls k) next=false:=by
   unfold hX; rw [List.any_eq_false]
   intro c kz
   have:=jR c kz
   simp; omega
  have bI:sy (ls k) ({ bQ:=e,b8:=next,kJ:=sF } :aH)=true:=by
   unfold sy; simp only [a0,jr]; rfl
  refine .eq rfl (.eq J (.eq rfl (.bind (SO hs au aW aq hlen) fun cm bc=> ?_)))
  obtain⟨_,bf,bJ⟩:=bc
  have a6:∀ x,kq (own k) hp cm.2 x→own k x∨x ∉ dQ hp:=fun x ak=>ak.imp id fun h=>h.1
  have eY:=ks.change J ad ax au aR bf a6 bJ
  unfold added at eY
  rw [if_pos bI] at eY
  obtain⟨nI,Ys,own',cR,_⟩:=eY.cell
  refine .eq cR (.eq rfl (.ret ?_))
  rw [if_neg (by rw [aj]; simp),if_neg dL]
  have hw:bu (next + 1)=next + 1:=hO (by omega) (by omega)
  refine⟨rfl,rfl,?_⟩
  have:=eY.next' (next + 1) cR
  simp only [hw]
  exact this
theorem Jm {s:aZ} (hs:dK s) {hp:aI Cell} {p:Nat} {ls:Nat→List aH} {next:Int} (h:ks s hp p ls next) {k:Nat} (au:k < 4) {e:bo} (he:iI s k e):
 dh (sO hp (some p) e) (fun r=>(match eZ (ls k) e with | some i=>(r.1,r.2.1)=(i,0) | none=>(r.1,r.2.1)=(default,16))∧ks s r.2.2 p (qP ls k (h5 (ls k) e)) next):=by
 obtain⟨m,gF,own,J,ad,ax⟩:=h.cell
 obtain⟨q,aR,aW⟩:=ax.has k au
 have Hs:nJ hp (some p) ((k:Int) + 1)=some (some q):=by
  refine bK.get ?_
  unfold nJ
  refine .cond (fun aj=>by cases aj) fun _=> .eq rfl (.eq J (.eq rfl (.eq ad (.eq rfl (.ret ?_)))))
  rw [aR]; rfl
 unfold sO
 rw [he.kB]
 refine .eq Hs (.cond (fun aj=>by cases aj) fun _=> .bind (QV hs au aW he) fun aK bc=> ?_)
 obtain⟨ay,bf,bJ⟩:=bc
 have eY:=ks.change J ad ax au aR bf (fun x ak=> .inl ak) bJ
 have aE:aK.1=(pd (eZ (ls k) e)).1:=congrArg Prod.fst ay
 have bd:aK.2.1=(pd (eZ (ls k) e)).2:=congrArg Prod.snd ay
 cases a0:eZ (ls k) e with
 | none=>
   rw [a0] at aE bd
   refine .cond (fun _=> .ret ⟨rfl,eY⟩) fun aj=>by rw [bd] at aj; cases aj
 | some i=>
   rw [a0] at aE bd
   refine .cond (fun aj=>by rw [bd] at aj; cases aj) fun _=> .ret ⟨?_,eY⟩
   rw [aE]; rfl
theorem Ft {s:aZ} (hs:dK s) (hp:aI Cell):dh (s4 hp s) (fun r=> ∃ p,r.1=some p∧ks s r.2 p (fun _=> []) 1):=by
 unfold s4
 refine .mk fun m hm=> .eq rfl (.mk fun p cd=> ?_)
 simp only at cd ⊢
 have jC:p≠m:=fun e=>cd (by rw [e]; exact List.mem_cons_self)
 have rB:jc ((p,Cell.oO ⟨s,⟨some m⟩,1⟩) :: (m,Cell.n3 []) :: hp) p=some ⟨s,⟨some m⟩,1⟩:=by unfold jc; rw [oA,if_pos rfl]
 have d0:lD ((p,Cell.oO ⟨s,⟨some m⟩,1⟩) :: (m,Cell.n3 []) :: hp) m=some []:=by unfold lD; rw [oA,if_neg jC,oA,if_pos rfl]
 refine .eq rB ?_
 simp only
 refine .bind (P:=fun aE=> ∃ gF own,jc aE.2.2 p=some ⟨s,⟨some m⟩,1⟩∧lD aE.2.2 m=some gF∧tz s aE.2.2 p m gF 4 (fun _=> []) own)
  (dh.loop 4 (fun i st=> ∃ hp' gF own,st=((i:Int),hp')∧jc hp' p=some ⟨s,⟨some m⟩,1⟩∧lD hp' m=some gF∧tz s hp' p m gF i (fun _=> []) own) (by omega) ⟨_,[],fun _ _=>False,rfl,rB,d0,⟨fun k au=>by omega,fun _ _=>rfl,fun k k' au=>by omega,fun k au=>by omega⟩⟩ (fun i st aq eY=> ?_) (fun st eY=> ?_)) fun aE J=> .ret ⟨p,rfl,?_⟩
 ·obtain⟨hp',gF,own,rfl,ay,bf,bJ⟩:=eY
  have sx:=mA ay
  have z4:=vJ bf
  refine .cond (fun _=> .idx rfl (by rw [hs.j6]; exact aq) (.eq ay ?_)) fun aj=>by have:=hs.j6; simp at aj; omega
  rw [(hs.kB aq).1]
  refine .bind (SN hs aq hp') fun aB J=> ?_
  obtain⟨q,e,ak,au⟩:=J
  obtain⟨Yt,cq⟩:=aB
  simp only at e ak au
  subst e
  have bh:jc cq p=some ⟨s,⟨some m⟩,1⟩:=by rw [Ec (au.rest p (hU sx) id)]; exact ay
  have cC:lD cq m=some gF:=by rw [Ed (au.rest m (hU z4) id)]; exact bf
  have CD:=vJ cC
  refine .eq (a:=()) (by unfold zx; rw [if_pos bh]) (.eq rfl (.eq cC (.eq rfl (.ret ?_))))
  have wx:m≠p:=fun e=>by rw [e] at CD; rw [mA bh] at CD; cases CD
  have ny:∀ x,x≠m→pat (cx cq m (Cell.n3 (fo gF ((i:Int) + 1) (some q)))) x=pat cq x:=fun x ak=>k0 ak.symm
  have hold:∀ j,j < i→ ∀ x,own j x→pat (cx cq m (Cell.n3 (fo gF ((i:Int) + 1) (some q)))) x=pat hp' x:=fun j aC x ak=>by
   obtain⟨kZ,_,dR⟩:=bJ.has j aC
   rw [ny x fun e=>(bJ.out j aC).2 (e ▸ ak)]
   exact au.rest x (dR.rh x ak) id
  have n4:∀ x,kq wQ hp' cq x→x ∉ dQ hp':=fun x ak=>ak.elim (fun h=>h.elim) fun h=>h.1
  refine⟨_,fo gF ((i:Int) + 1) (some q),fun j=>if j=i then kq wQ hp' cq else own j,by simp only [iG (show i < 2 ^ 62 by omega)],by rw [Ec (ny p wx.symm)]; exact bh,Rq CD,⟨fun j aC=> ?_,fun x ak=> ?_,fun j p3 aC z1 cQ x kb mf=> ?_,fun j aC=> ?_⟩⟩
  ·by_cases e:j=i
   ·subst e
    refine⟨q,by rw [rJ,if_pos rfl],?_⟩
    rw [if_pos rfl]
    exact ak.congr (fun x ak=>by rw [pB]; exact ak) fun x kb=>ny x fun e=>n4 x kb (e ▸ hU z4)
   ·obtain⟨kZ,dH,dR⟩:=bJ.has j (by omega)
    refine⟨kZ,by rw [rJ,if_neg (by omega)]; exact dH,?_⟩
    rw [if_neg e]
    exact dR.congr (fun x ak=>by rw [pB]; exact au.keys x ak) (hold j (by omega))
  ·rw [rJ,if_neg (by omega)]
   exact bJ.no x (by omega)
  ·have key:∀ j,j < i→kq wQ hp' cq x→ ¬ own j x:=fun j aC J ad=>by
    obtain⟨kZ,_,dR⟩:=bJ.has j aC
    exact n4 x J (dR.rh x ad)
   by_cases e:j=i
   ·rw [if_pos e] at kb
    rw [if_neg (fun e'=>cQ (e.trans e'.symm))] at mf
    exact key p3 (by omega) kb mf
   ·rw [if_neg e] at kb
    by_cases e':p3=i
    ·rw [if_pos e'] at mf; exact key j (by omega) mf kb
    ·rw [if_neg e'] at mf; exact bJ.Ab j p3 (by omega) (by omega) cQ x kb mf
  ·by_cases e:j=i
   ·rw [if_pos e]
    exact⟨fun h=>n4 p h (hU sx),fun h=>n4 m h (hU z4)⟩
   ·rw [if_neg e]; exact bJ.out j (by omega)
 ·obtain⟨hp',gF,own,rfl,ay,bf,bJ⟩:=eY
  refine .cond (fun aj=>by have:=hs.j6; simp at aj; omega) fun _=> .ret ⟨gF,own,ay,bf,bJ⟩
 ·obtain⟨gF,own,cR,cy,gb⟩:=J
  exact⟨m,gF,own,cR,cy,gb⟩
end Go.Proofs.YtmnggbjcnoffeaaGreat
namespace Go.Proofs.YtmnggbjcnoffeaaGreat
open Go Gv
set_option linter.unusedVariables false
set_option linter.unusedSimpArgs false
set_option maxRecDepth 100000
theorem JU {l:List aH} {e:bo} {i:aH} (h:eZ l e=none) (aq:h1 i.bQ e=true):eZ (l ++ [i]) e=some i:=by
 unfold eZ at h ⊢
 rw [List.find?_append,h,Option.none_or]
 simp [aq]
def rj:bo:= { (default:bo) with dD:=1,c8:= [({ (default:b6) with hi:=true } :b6)],lx:=1 }
theorem SQ {s:aZ} (h:dK s):iI s 0 rj:=by
 refine⟨rfl,by rw [h.FW]; rfl,fun i aq=> ?_,by decide,fun _=>rfl⟩
 rw [h.FW] at aq ⊢
 have:i=0:=by have:i < 1:=aq; omega
 subst this
 show n2 1 (ot rz) { (default:b6) with hi:=true }
 have bB:∀ j,cH ({ (default:b6) with hi:=true } :b6).db j=false:=fun j=>yn j
 exact⟨fun h=>(by cases h),fun _=>rfl,fun _ j _ a3=>(by rw [bB] at a3; cases a3),fun h=>(by cases h),fun h=>(by cases h),zm,fun h=>(by cases h),fun _=>rfl,fun _=>rfl,fun h=>(by cases h),fun h=>(by cases h),fun h=>(by cases h),fun _=>rfl⟩
theorem py {ls:Nat→List aH} {k:Nat} {l:List aH} :qP ls k l k=l:=by unfold qP; rw [if_pos rfl]
theorem Km {ls:Nat→List aH} {k j:Nat} {l:List aH} (h:j≠k):qP ls k l j=ls j:=by unfold qP; rw [if_neg h]
theorem Jn (hp:aI Cell):dh (vr hp) (fun r=>r.1=true):=by
 unfold vr
 refine .kU (ym [] 0 (by decide) (by decide)) fun aB J=> .kU (El _ J) fun aK ad=> ?_
 obtain⟨s,rB⟩:=aK
 obtain⟨h,_⟩:=ad
 simp only at h ⊢
 have he:=SQ h
 have dg:=h.size (show 0 < 4 by decide)
 refine .bind (Ft h hp) fun bk ax=> ?_
 obtain⟨p,ej,ax⟩:=ax
 obtain⟨Yu,cd⟩:=bk
 simp only at ej ax
 subst ej
 refine .eq rfl ?_
 show dh (ao.bind (pt cd (some p) rj 1) fun b1=>_) _
 refine .bind (Bn h ax (k:=0) (by decide) he 1 (fun i aq=>by cases aq) (by decide) (by decide)) fun b1 aR=> ?_
 rw [if_neg (by decide),if_neg (by simp; omega)] at aR
 obtain⟨cR,cy,gb⟩:=aR
 refine .bind (show dh (sO b1.2.2 (some p) rj) _ from Jm h gb (k:=0) (by decide) he) fun cm aW=> ?_
 rw [py] at aW
 have a0:eZ ([] ++ [({ bQ:=rj,b8:=1,kJ:=1 } :aH)]) rj=some { bQ:=rj,b8:=1,kJ:=1 } :=JU rfl (yo _)
 rw [a0] at aW
 obtain⟨dH,dR⟩:=aW
 have aQ:h5 ([] ++ [({ bQ:=rj,b8:=1,kJ:=1 } :aH)]) rj= []:=by
  unfold h5
  rw [List.nil_append,List.filter_cons_of_neg (by simp [yo])]; rfl
 rw [aQ] at dR
 refine .bind (show dh (pt cm.2.2 (some p) rj 1) _ from Bn h dR (k:=0) (by decide) he 1 (fun i aq=>by rw [py] at aq; cases aq) (by rw [py]; decide) (by decide)) fun cD bc=> ?_
 rw [py,if_neg (by decide),if_neg (by simp; omega)] at bc
 obtain⟨bl,b7,e0⟩:=bc
 refine .eq rfl (.ret ?_)
 have lQ:cm.2.1=0:=congrArg Prod.snd dH
 simp only [cR,cy,lQ,bl,b7]
 rfl
theorem PI (hp:aI Cell) (ab al:List (BitVec 8)) (aP:Int):dh (xA hp ab al aP) (fun r=>r.1=true):=by
 unfold xA
 refine .kU (ym ab 120 (by omega) (by omega)) fun aB J=> .kU (El aB J) fun aK ad=> .kU (ym al 220 (by omega) (by omega)) fun bk ax=> ?_
 obtain⟨s,rB⟩:=aK
 obtain⟨h,_⟩:=ad
 simp only at h ⊢
 refine .bind (Ft h hp) fun b1 aR=> ?_
 obtain⟨p,hS,aR⟩:=aR
 obtain⟨Xy,cd⟩:=b1
 simp only at hS aR
 subst hS
 obtain⟨m,em,gk,cM⟩:=Kc aP (s.bA.length:Int) (by rw [h.j6]; omega) (by rw [h.j6]; omega)
 obtain⟨k,rfl⟩:=Int.eq_ofNat_of_zero_le gk
 have au:k < 4:=by have:=h.j6; omega
 refine .eq em (.idx rfl (by rw [h.j6]; exact au) ?_)
 have dL:=h.size au
 rw [(h.kB au).1]
 refine .bind (P:=fun e=> ∃ a,e= .inl a) (dh.loop 20 (fun i st=> ∃ c hp' ls next,st=((i:Int),c,hp')∧g6 c∧ks s hp' p ls next∧ (∀ i∈ls k,i.b8 < next)∧1≤next∧next≤1 + i∧ ((ls k).length:Int)≤ (aN s.bA k).fv) (by omega) ⟨bk,cd,_,_,rfl,ax,aR,fun i aq=>(by cases aq),by omega,by omega,by simp; omega⟩ (fun i st aq hs=> ?_) (fun st hs=> ?_)) fun aE Ht=> ?_
 ·obtain⟨c,hp',ls,next,rfl,aj,eY,jR,iO,ln,ar⟩:=hs
  refine .c5 (P:=fun _=>True) (fun _=>JE _) fun cD _=> .cond (fun _=> ?_) fun _=> .ret ⟨_,rfl⟩
  refine .kU (Ji c aP aj h) fun ct ⟨cn,k',iy,q5,he⟩=> ?_
  have oc:k'=k:=by rw [em] at q5; simp only [Option.some.injEq] at q5; omega
  subst oc
  refine .eq (Kk h eY au he) (.eq (BW eY au) (.bind (Bn h eY au he 1 jR (by omega) (by omega)) fun dJ gC=> ?_))
  have hw:bu ((i:Int) + 1)=((i + 1:Nat):Int):=iG (by omega)
  rw [Kl]
  cases a0:(eZ (ls k') ct.1).isSome with
  | true=>
    rw [if_pos a0] at gC
    subst gC
    refine .cond (fun aj=>by simp at aj) fun _=> .eq rfl (.cond (fun aj=>by simp at aj) fun _=> ?_)
    refine .c5 (P:=fun _=>True) (fun aj=>by simp at aj) fun gv _=> .eq rfl (.cond (fun aj=>by simp at aj) fun _=> .eq (BW eY au) (.cond (fun aj=>by simp at aj; omega) fun _=> .ret ?_))
    exact⟨ct.2,hp',ls,next,by rw [hw],cn,eY,jR,iO,by omega,ar⟩
  | false=>
    rw [if_neg (by rw [a0]; simp)] at gC
    by_cases yU:(aN s.bA k').fv≤ ((ls k').length:Int)
    ·rw [if_pos yU] at gC
     subst gC
     have b5:decide (((ls k').length:Int) < (aN s.bA k').fv)=false:=by rw [decide_eq_false_iff_not]; omega
     simp only [b5]
     refine .cond (fun aj=>by simp at aj) fun _=> .eq rfl (.cond (fun aj=>by simp at aj) fun _=> ?_)
     refine .c5 (P:=fun _=>True) (fun aj=>by simp at aj) fun gv _=> .eq rfl (.cond (fun aj=>by simp at aj) fun _=> .eq (BW eY au) (.cond (fun aj=>by simp at aj; omega) fun _=> .ret ?_))
     exact⟨ct.2,hp',ls,next,by rw [hw],cn,eY,jR,iO,by omega,ar⟩
    ·rw [if_neg yU] at gC
     obtain⟨n7,V5,fT⟩:=dJ
     obtain⟨ay,bf,bJ⟩:=gC
     simp only at ay bf bJ
     subst ay bf
     have cQ:(((ls k').length:Int) ==(aN s.bA k').fv)=false:=by rw [beq_eq_false_iff_ne]; omega
     have b5:decide (((ls k').length:Int) < (aN s.bA k').fv)=true:=by rw [decide_eq_true_eq]; omega
     have hlen:=BW bJ au
     rw [py] at hlen
     have Nx:((ls k' ++ [({ bQ:=ct.1,b8:=n7,kJ:=1 } :aH)]).length:Int)=(ls k').length + 1:=by simp
     rw [Nx] at hlen
     have ob:bu (((ls k').length:Int) + 1)=(ls k').length + 1:=hO (by omega) (by omega)
     refine .cond (fun aj=>by simp at aj) fun _=> .eq rfl (.cond (fun aj=>by rw [cQ] at aj; simp at aj) fun _=> ?_)
     refine .c5 (P:=fun y=>y=((ls k').length:Int) + 1) (fun _=>⟨_,hlen,rfl⟩) fun gv oi=> .eq rfl (.cond (fun aj=> ?_) fun _=> .eq hlen (.cond (fun aj=>by simp at aj; omega) fun _=> .ret ?_))
     ·rw [oi (by simp [b5]),ob] at aj
      simp at aj
     ·refine⟨ct.2,fT,_,_,by rw [hw],cn,bJ,fun j aC=> ?_,by omega,by omega,by rw [py,Nx]; omega⟩
      rw [py] at aC
      rcases List.mem_append.1 aC with aC | aC
      ·have:=jR j aC; omega
      ·rw [List.mem_singleton.1 aC]; simp only; omega
 ·obtain⟨c,hp',ls,next,rfl,aj,eY,jR,iO,ln,ar⟩:=hs
  refine .c5 (P:=fun _=>True) (fun aj=>by simp at aj) fun cD _=> .cond (fun aj=>by simp at aj) fun _=> .ret ⟨_,rfl⟩
 obtain⟨a,rfl⟩:=Ht
 simp only [Sum.elim_inl]
 exact .bind (Jn _) fun gj nB=> .ret nB
theorem Px (ab al:List (BitVec 8)) (aP:Int):xA [] ab al aP (fun r=>r.1=true):=(PI [] ab al aP).run
theorem Rr (l:List aH) (e:bo):(h5 l e).length≤l.length:=List.length_filter_le _ _
theorem Pr (hp:aI Cell) (ab al:List (BitVec 8)):dh (xn hp ab al) (fun r=>r.1=true):=by
 unfold xn
 refine .kU (ym ab 120 (by omega) (by omega)) fun aB J=> .kU (El aB J) fun aK ad=> .kU (ym al 200 (by omega) (by omega)) fun bk ax=> ?_
 obtain⟨s,rB⟩:=aK
 obtain⟨h,_⟩:=ad
 simp only at h ⊢
 refine .bind (Ft h hp) fun b1 aR=> ?_
 obtain⟨p,hS,aR⟩:=aR
 obtain⟨Xy,cd⟩:=b1
 simp only at hS aR
 subst hS
 refine .bind (P:=fun e=> ∃ a,e= .inl a) (dh.loop 24 (fun i st=> ∃ last c hp' ls next,st=(last,(i:Int),c,hp')∧g6 c∧ks s hp' p ls next∧ (∀ k,k < 4→ (∀ i∈ls k,i.b8 < next)∧ (ls k).length≤i)∧1≤next∧next≤1 + i∧last < next) (by omega) ⟨0,bk,cd,_,_,rfl,ax,aR,fun k au=>⟨fun i aq=>(by cases aq),by simp⟩,by omega,by omega,by omega⟩ (fun i st aq hs=> ?_) (fun st hs=> ?_)) fun aE Ht=> ?_
 ·obtain⟨last,c,hp',ls,next,rfl,aj,eY,jR,iO,ln,Dc⟩:=hs
  have hw:bu ((i:Int) + 1)=((i + 1:Nat):Int):=iG (by omega)
  refine .c5 (P:=fun _=>True) (fun _=>JE _) fun cm _=> .cond (fun _=> ?_) fun _=> .ret ⟨_,rfl⟩
  refine .kU (fO _ 4 aj (by omega)) fun cD bc=> .kU (Ji cD.2 cD.1 bc.1 h) fun ct ⟨cn,k,au,_,he⟩=> .kU (fO _ 3 cn (by omega)) fun dy eo=> ?_
  refine .cond (fun _=> .bind (Jm h eY au he) fun e1 fx=> .ret ?_) fun _=> .bind (Bn h eY au he 5 (jR k au).1 (by have:=(jR k au).2; omega) (by omega)) fun dJ gC=> ?_
  ·refine⟨last,dy.2,e1.2.2,_,next,by rw [hw],eo.1,fx.2,fun j aC=> ?_,iO,by omega,Dc⟩
   by_cases e:j=k
   ·subst e
    rw [py]
    exact⟨fun i aq=>(jR j aC).1 i (mw.1 aq).1,by have:=Rr (ls j) ct.1; have:=(jR j aC).2; omega⟩
   ·rw [Km e]; exact⟨(jR j aC).1,by have:=(jR j aC).2; omega⟩
  ·have L5:∀ j,j < 4→ (∀ i∈ls j,i.b8 < next)∧ (ls j).length≤i + 1:=fun j aC=>⟨(jR j aC).1,by have:=(jR j aC).2; omega⟩
   by_cases a0:(eZ (ls k) ct.1).isSome=true
   ·rw [if_pos a0] at gC
    subst gC
    exact .cond (fun _=> .ret ⟨last,dy.2,hp',ls,next,by rw [hw],eo.1,eY,L5,iO,by omega,Dc⟩) fun aj=>by simp at aj
   rw [if_neg a0] at gC
   by_cases yU:(aN s.bA k).fv≤ ((ls k).length:Int)
   ·rw [if_pos yU] at gC
    subst gC
    exact .cond (fun _=> .ret ⟨last,dy.2,hp',ls,next,by rw [hw],eo.1,eY,L5,iO,by omega,Dc⟩) fun aj=>by simp at aj
   rw [if_neg yU] at gC
   obtain⟨n7,V5,fT⟩:=dJ
   obtain⟨ay,bf,bJ⟩:=gC
   simp only at ay bf bJ
   subst ay bf
   have GY:eZ (ls k) ct.1=none:=by
    cases hq:eZ (ls k) ct.1 with
    | none=>rfl
    | some _=>rw [hq] at a0; simp at a0
   have C1:=Kk h bJ au he
   rw [py,JU GY (yo _)] at C1
   have ob:bu (n7 + 1)=n7 + 1:=hO (by omega) (by omega)
   refine .cond (fun aj=>by simp at aj) fun _=> .eq C1 (.eq rfl ?_)
   have dg:(((decide (n7≤last)) || (!(pd (some ({ bQ:=ct.1,b8:=n7,kJ:=5 } :aH))).2)) || ((pd (some ({ bQ:=ct.1,b8:=n7,kJ:=5 } :aH))).1.b8 !=n7) || ((pd (some ({ bQ:=ct.1,b8:=n7,kJ:=5 } :aH))).1.kJ !=5))=false:=by
    have:decide (n7≤last)=false:=by rw [decide_eq_false_iff_not]; omega
    rw [this]; simp [pd]
   rw [dg]
   refine .c5 (P:=fun y=>y=n7 + 1) (fun _=>⟨_,R9 bJ,rfl⟩) fun gH uL=> ?_
   rw [uL rfl,ob]
   refine .cond (fun aj=>by simp at aj) fun _=> .ret ⟨n7,dy.2,fT,_,_,by rw [hw],eo.1,bJ,fun j aC=> ?_,by omega,by omega,by omega⟩
   by_cases e:j=k
   ·subst e
    rw [py]
    refine⟨fun x ak=> ?_,by have:=(jR j aC).2; simp; omega⟩
    rcases List.mem_append.1 ak with ak | ak
    ·have:=(jR j aC).1 x ak; omega
    ·rw [List.mem_singleton.1 ak]; simp only; omega
   ·rw [Km e]; exact⟨fun x ak=>by have:=(jR j aC).1 x ak; omega,by have:=(jR j aC).2; omega⟩
 ·obtain⟨last,c,hp',ls,next,rfl,aj,eY,jR,iO,ln,Dc⟩:=hs
  refine .c5 (P:=fun _=>True) (fun aj=>by simp at aj) fun cD _=> .cond (fun aj=>by simp at aj) fun _=> .ret ⟨_,rfl⟩
 obtain⟨a,rfl⟩:=Ht
 simp only [Sum.elim_inl]
 exact .bind (Jn _) fun gj nB=> .ret nB
theorem Pg (ab al:List (BitVec 8)):xn [] ab al (fun r=>r.1=true):=(Pr [] ab al).run
end Go.Proofs.YtmnggbjcnoffeaaGreat
