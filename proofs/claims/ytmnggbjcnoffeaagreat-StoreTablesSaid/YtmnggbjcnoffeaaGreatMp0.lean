/-
  What the programs compute, in plain Lean. Conditions: none.
-/
import Derived.Test.YtmnggbjcnoffeaaGreatMl0
import Derived.Test.YtmnggbjcnoffeaaGreatMl2
import Derived.Test.YtmnggbjcnoffeaaGreatMd
set_option linter.unusedVariables false
set_option linter.unusedSimpArgs false
set_option maxRecDepth 100000
namespace Gv
open Go
theorem LF {σ ε:Type} {body:σ→Option (σ ⊕ ε)} {Q:ε→Prop} {cd:σ} (m:Nat) (fl:Nat→σ→Prop)
 (hm:m < 2 ^ 80) (bG:fl 0 cd)
 (hs:∀ k s,k < m→fl k s→ (∃ b9,body s=some (.inl b9)∧fl (k + 1) b9)∨ (∃ e,body s=some (.inr e)∧Q e))
 (he:∀ s,fl m s→ ∃ e,body s=some (.inr e)∧Q e):∃ e,fj fa body cd=some e∧Q e:=by
 have key:∀ n k s,k≤m→m - k < n→fl k s→ ∃ e,fj n body s=some e∧Q e:=by
  intro n
  induction n with
  | zero=>intro k s _ h; omega
  | succ n bH=>
    intro k s au aP ar
    by_cases vF:k=m
    ·subst vF
     obtain⟨e,J,ad⟩:=he s ar
     exact⟨e,by simp [fj,J],ad⟩
    ·rcases hs k s (by omega) ar with⟨b9,J,ad⟩ | ⟨e,J,ad⟩
     ·obtain⟨e,ay,aU⟩:=bH (k + 1) b9 (by omega) (by omega) ad
      exact⟨e,by simp [fj,J,ay],aU⟩
     ·exact⟨e,by simp [fj,J],ad⟩
 exact key fa 0 cd (by omega) (by unfold fa; omega) bG
def bC {β:Type} (m:Option β) (P:β→Prop):Prop:= ∃ r,m=some r∧P r
theorem bC.ret {β:Type} {P:β→Prop} {r:β} (h:P r):bC (some r) P:=⟨r,rfl,h⟩
theorem bC.bind {α β:Type} {m:Option α} {f:α→Option β} {P:α→Prop} {Q:β→Prop} (h:bC m P) (k:∀ a,P a→bC (f a) Q):bC (m.bind f) Q:=by
 obtain⟨a,J,ad⟩:=h
 rw [J]; exact k a ad
theorem bC.eq {α β:Type} {m:Option α} {a:α} {f:α→Option β} {Q:β→Prop} (h:m=some a) (k:bC (f a) Q):bC (m.bind f) Q:=by
 rw [h]; exact k
theorem bC.mono {β:Type} {m:Option β} {P Q:β→Prop} (h:bC m P) (k:∀ a,P a→Q a):bC m Q:=by
 obtain⟨a,J,ad⟩:=h
 exact⟨a,J,k a ad⟩
theorem bC.cond {β:Type} {b:Bool} {m n:Option β} {P:β→Prop} (J:b=true→bC m P) (ad:b=false→bC n P):bC (cond b m n) P:=by
 cases b
 ·exact ad rfl
 ·exact J rfl
theorem bC.dd {α β:Type} [Inhabited α] {b w:Bool} {m:Option α} {f:α→Option β} {P:α→Prop} {Q:β→Prop} (h:b=w→bC m P) (k:∀ a,(b=w→P a)→bC (f a) Q):bC ((dd b w m).bind f) Q:=by
 unfold Gv.dd
 by_cases hb:b=w
 ·rw [if_pos hb]; exact(h hb).bind fun a bd=>k a fun _=>bd
 ·rw [if_neg hb]; exact k default fun h=>absurd h hb
theorem bC.loop {σ ε β:Type} {body:σ→Option (σ ⊕ ε)} {f:ε→Option β} {P:β→Prop} {cd:σ} (m:Nat) (fl:Nat→σ→Prop)
 (hm:m < 2 ^ 80) (bG:fl 0 cd)
 (hs:∀ k s,k < m→fl k s→bC (body s) (fun x=>match x with | .inl b9=>fl (k + 1) b9 | .inr e=>bC (f e) P))
 (he:∀ s,fl m s→ ∃ e,body s=some (.inr e)∧bC (f e) P):bC ((fj fa body cd).bind f) P:=by
 obtain⟨e,J,ad⟩:=LF (Q:=fun e=>bC (f e) P) m fl hm bG (fun k s au ar=>by
  obtain⟨r,J,ad⟩:=hs k s au ar
  cases r with
  | inl b9=>exact .inl ⟨b9,J,ad⟩
  | inr e=>exact .inr ⟨e,J,ad⟩) he
 rw [J]; exact ad
theorem bC.u0 {σ ε:Type} {body:σ→Option (σ ⊕ ε)} {P:ε→Prop} {cd:σ} (m:Nat) (fl:Nat→σ→Prop)
 (hm:m < 2 ^ 80) (bG:fl 0 cd)
 (hs:∀ k s,k < m→fl k s→bC (body s) (fun x=>match x with | .inl b9=>fl (k + 1) b9 | .inr e=>P e))
 (he:∀ s,fl m s→bC (body s) (fun x=>match x with | .inl _=>False | .inr e=>P e)):bC (fj fa body cd) P:=by
 obtain⟨e,J,ad⟩:=LF (Q:=P) m fl hm bG (fun k s au ar=>by
  obtain⟨r,J,ad⟩:=hs k s au ar
  cases r with
  | inl b9=>exact .inl ⟨b9,J,ad⟩
  | inr e=>exact .inr ⟨e,J,ad⟩) fun s ar=>by
  obtain⟨r,J,ad⟩:=he s ar
  cases r with
  | inl b9=>exact ad.elim
  | inr e=>exact⟨e,J,ad⟩
 exact⟨e,J,ad⟩
theorem bC.idx {β:Type} {n:Nat} {i:Int} {k:Nat} {f:Nat→Option β} {Q:β→Prop} (ar:i=k) (au:k < n) (h:bC (f k) Q):bC ((Gv.idx n i).bind f) Q:=by
 subst ar
 have:Gv.idx n (k:Int)=some k:=by unfold Gv.idx; rw [if_pos (by omega)]; simp
 rw [this]; exact h
theorem sw {α:Type} [Inhabited α] {n:Nat} (v:Vector α n) {k:Nat} (x:α) (au:k < n) (j:Nat):b7 (h2 v k x) j=if j=k then x else b7 v j:=by
 unfold b7 h2
 by_cases h:j=k
 ·subst h; simp [au]
 ·rw [if_neg h,Vector.getElem?_setIfInBounds_ne (by omega)]
theorem LG {α:Type} [Inhabited α] {n:Nat} {v w:Vector α n} (h:∀ j,j < n→b7 v j=b7 w j):v=w:=by
 apply Vector.ext
 intro i ar
 have:=h i ar
 simpa [b7,ar] using this
theorem C0 {α:Type} [Inhabited α] {n:Nat} (j:Nat):b7 (default:Vector α n) j=default:=by
 show b7 (Vector.replicate n default) j=default
 unfold b7
 by_cases h:j < n <;> simp [h]
theorem ox {n k:Nat} (h:k < n):idx n (k:Int)=some k:=by
 unfold idx; rw [if_pos (by omega)]; simp
theorem uu {n:Nat} {i:Int} (h:0≤i) (cX:i < n):idx n i=some i.toNat:=by
 unfold idx; rw [if_pos ⟨h,cX⟩]
theorem gT {k:Nat} (h:k < 2 ^ 62):bA ((k:Int) + 1)=((k + 1:Nat):Int):=by
 rw [hA (by omega) (by omega)]; simp
theorem p8 {k:Nat} (h:k < 2 ^ 64):(BitVec.ofInt 64 (k:Int)).toNat=k:=by
 simp; omega
theorem Ml (x:BitVec 64):((x &&& 1#64) ==1#64)=x.getLsbD 0:=by
 rw [BitVec.and_one_eq_setWidth_ofBool_getLsbD]
 cases x.getLsbD 0 <;> rfl
theorem TO (x:BitVec 64) (n:Nat):(((x >>> n) &&& 1#64) ==1#64)=x.getLsbD n:=by
 rw [Ml]; simp
theorem Dm {α β:Type} [Inhabited α] [Inhabited β] (f:α→β) {l:List α} {k:Nat} (au:k < l.length):aI (l.map f) k=f (aI l k):=by
 rw [eV l au,eV _ (by simpa using au),List.getElem_map]
theorem RD {α:Type} [Inhabited α] (l:List α) {k:Nat} (au:k < l.length):l.take (k + 1)=l.take k ++ [aI l k]:=by
 rw [List.take_add_one,List.getElem?_eq_getElem au,eV l au]; rfl
theorem Ux {α:Type} [Inhabited α] {xs:List α} {p:α→Bool} {k:Nat} (au:k < xs.length) (hp:p (aI xs k)=true) (aG:∀ j,j < k→p (aI xs j)=false):xs.find? p=some (aI xs k):=by
 rw [List.find?_eq_some_iff_getElem]
 refine⟨hp,k,au,(eV xs au).symm,fun j qx=> ?_⟩
 have:=aG j qx
 rw [eV xs (by omega)] at this
 simp [this]
theorem Uy {α:Type} {xs:List α} {p:α→Bool} (h:∀ x∈xs,p x=false):xs.find? p=none:=
 List.find?_eq_none.2 fun x al=>by simp [h x al]
def dg {α:Type} (m:aq α) (P:α→Prop):Prop:= ∀ Q:α→Prop,(∀ r,P r→Q r)→m Q
theorem dg.run {α:Type} {m:aq α} {P:α→Prop} (h:dg m P):m P:=h P fun _ h=>h
theorem dg.ret {α:Type} {P:α→Prop} {x:α} (h:P x):dg (aq.ret x) P:=fun Q k=>k x h
theorem dg.bind {α β:Type} {m:aq α} {f:α→aq β} {P:α→Prop} {pX:β→Prop} (h:dg m P) (k:∀ r,P r→dg (f r) pX):dg (aq.bind m f) pX:=fun Q hq=>h _ fun r aS=>k r aS Q hq
theorem dg.of {α:Type} {o:Option α} {P:α→Prop} (h:bC o P):dg (aq.of o) P:=fun Q hq=>let⟨r,J,ad⟩:=h; ⟨r,J,hq r ad⟩
theorem dg.mP {α β:Type} {o:Option α} {f:α→aq β} {P:α→Prop} {pX:β→Prop} (h:bC o P) (k:∀ r,P r→dg (f r) pX):dg (aq.bind (aq.of o) f) pX:= .bind (.of h) k
theorem dg.eq {α β:Type} {o:Option α} {a:α} {f:α→aq β} {pX:β→Prop} (h:o=some a) (k:dg (f a) pX):dg (aq.bind (aq.of o) f) pX:=fun Q hq=>⟨a,h,k Q hq⟩
theorem dg.mono {α:Type} {m:aq α} {P pX:α→Prop} (h:dg m P) (k:∀ r,P r→pX r):dg m pX:=fun Q hq=>h Q fun r aS=>hq r (k r aS)
theorem dg.cond {α:Type} {b:Bool} {m n:aq α} {P:α→Prop} (J:b=true→dg m P) (ad:b=false→dg n P):dg (cond b m n) P:=by
 cases b
 ·exact ad rfl
 ·exact J rfl
theorem dg.dd {α β:Type} [Inhabited α] {b w:Bool} {m:Option α} {f:α→aq β} {P:α→Prop} {Q:β→Prop} (h:b=w→bC m P) (k:∀ a,(b=w→P a)→dg (f a) Q):dg (aq.bind (aq.of (dd b w m)) f) Q:=by
 unfold Gv.dd
 by_cases hb:b=w
 ·rw [if_pos hb]; exact .mP (h hb) fun a bd=>k a fun _=>bd
 ·rw [if_neg hb]; exact .eq rfl (k default fun h=>absurd h hb)
theorem dg.idx {β:Type} {n:Nat} {i:Int} {k:Nat} {f:Nat→aq β} {Q:β→Prop} (ar:i=k) (au:k < n) (h:dg (f k) Q):dg (aq.bind (aq.of (Gv.idx n i)) f) Q:=by
 subst ar
 exact .eq (ox au) h
theorem dg.mk {bT β:Type} {hp:aN bT} {c:bT} {f:Nat × aN bT→aq β} {P:β→Prop} (k:∀ p,p ∉ ec hp→dg (f (p,(p,c) :: hp)) P):dg (aq.bind (aq.mk hp c) f) P:=fun Q hq=>fun a bd=>by
 obtain⟨p,hp'⟩:=a
 obtain⟨J,ad⟩:=bd
 simp only at J ad
 subst ad
 exact k p J Q hq
theorem dg.any {α β:Type} {f:α→aq β} {P:β→Prop} (k:∀ x,dg (f x) P):dg (aq.bind (aq.any α) f) P:=fun Q hq x=>k x Q hq
theorem dg.loop {σ ε:Type} {body:σ→aq (σ ⊕ ε)} {P:ε→Prop} {cd:σ} (m:Nat) (fl:Nat→σ→Prop) (hm:m < 2 ^ 80) (bG:fl 0 cd)
 (hs:∀ k s,k < m→fl k s→dg (body s) (fun x=>match x with | .inl b9=>fl (k + 1) b9 | .inr e=>P e))
 (he:∀ s,fl m s→dg (body s) (fun x=>match x with | .inl _=>False | .inr e=>P e)):dg (my fa body cd) P:=by
 have key:∀ n k s,k≤m→m - k < n→fl k s→dg (my n body s) P:=by
  intro n
  induction n with
  | zero=>intro k s _ h; omega
  | succ n bH=>
    intro k s au aP ar Q hq
    by_cases vF:k=m
    ·subst vF
     exact he s ar _ fun r aS=>by
      cases r with
      | inl b9=>exact aS.elim
      | inr e=>exact hq e aS
    ·exact hs k s (by omega) ar _ fun r aS=>by
      cases r with
      | inl b9=>exact bH (k + 1) b9 (by omega) (by omega) aS Q hq
      | inr e=>exact hq e aS
 exact key fa 0 cd (by omega) (by unfold fa; omega) bG
theorem o6 {bT:Type} {hp:aN bT} {p q:Nat} {k:bT} :pat ((p,k) :: hp) q=if p=q then some k else pat hp q:=rfl
theorem TP {bT:Type} {hp:aN bT} {p:Nat} (h:p ∉ ec hp):pat hp p=none:=by
 cases e:pat hp p with
 | none=>rfl
 | some k=>exact absurd (ie e) h
theorem rf {bT:Type} {hp:aN bT} {p:Nat} {k k':bT} (h:pat hp p=some k'):pat (cT hp p k) p=some k:=by rw [zL,if_pos rfl,h]; rfl
theorem lv {bT:Type} {hp:aN bT} {p q:Nat} {k:bT} (h:p≠q):pat (cT hp p k) q=pat hp q:=by rw [zL,if_neg h]
theorem sx {α β:Type} [DecidableEq α] {l:List (α × β)} {x y:α} {v:β} :dI (fB l x v) y=if y=x then some v else dI l y:=by
 induction l with
 | nil=>
   show(if y=x then some v else dI [] y)=_
   rfl
 | cons a r bH=>
   obtain⟨k,w⟩:=a
   simp only [fB]
   by_cases h:x=k
   ·rw [if_pos h]
    simp only [dI]
    by_cases ad:y=x
    ·simp [ad]
    ·simp [ad,show ¬ y=k from fun e=>ad (by rw [e,h])]
   ·rw [if_neg h]
    simp only [dI]
    by_cases ad:y=k
    ·subst ad; simp [show ¬ y=x from fun e=>h e.symm]
    ·rw [if_neg ad,bH,if_neg ad]
end Gv
namespace Go.Proofs.YtmnggbjcnoffeaaGreat
open Go Gv
def e7 (b:Bool):Nat:=bif b then 1 else 0
def cK (hp:aN Cell):Ref→List Bool→Ref
 | none,_=>none
 | some p,[]=>some p
 | some p,b :: aY=>match cy hp p with
   | none=>none
   | some c=>cK hp (b7 c.c1 (e7 b)) aY
theorem gd {hp:aN Cell} {aY:List Bool} :cK hp none aY=none:=by cases aY <;> rfl
theorem m5 {hp:aN Cell} {r:Ref} :cK hp r []=r:=by cases r <;> rfl
theorem g2 {hp:aN Cell} {p:Nat} {c:dz} {b:Bool} {aY:List Bool} (h:cy hp p=some c):cK hp (some p) (b :: aY)=cK hp (b7 c.c1 (e7 b)) aY:=by
 show(match cy hp p with | none=>none | some c=>cK hp (b7 c.c1 (e7 b)) aY)=_
 rw [h]
theorem lV {hp:aN Cell} :∀ {r:Ref} {aY cs:List Bool},cK hp r (aY ++ cs)=cK hp (cK hp r aY) cs
 | none,aY,cs=>by rw [gd,gd,gd]
 | some p,[],cs=>by rw [List.nil_append,m5]
 | some p,b :: aY,cs=>by
   cases e:cy hp p with
   | none=>
     have J:∀ xs,cK hp (some p) (b :: xs)=none:=fun xs=>by
      show(match cy hp p with | none=>none | some c=>cK hp (b7 c.c1 (e7 b)) xs)=_
      rw [e]
     rw [List.cons_append,J,J,gd]
   | some c=>rw [List.cons_append,g2 e,g2 e,lV]
theorem Lh {hp hp':aN Cell} :∀ {r:Ref} {aY:List Bool},(∀ p cs,cK hp r cs=some p→cy hp' p=cy hp p)→cK hp' r aY=cK hp r aY
 | none,aY,_=>by rw [gd,gd]
 | some p,[],_=>rfl
 | some p,b :: aY,h=>by
   have bG:=h p [] rfl
   show(match cy hp' p with | none=>none | some c=>cK hp' (b7 c.c1 (e7 b)) aY)=(match cy hp p with | none=>none | some c=>cK hp (b7 c.c1 (e7 b)) aY)
   rw [bG]
   cases e:cy hp p with
   | none=>rfl
   | some c=>
     refine Lh fun q cs hq=>h q (b :: cs) ?_
     rw [g2 e]; exact hq
structure nP (hp:aN Cell) (root:Ref):Prop where
 reads:∀ aY p,cK hp root aY=some p→ ∃ c,cy hp p=some c
 inj:∀ aY cs p,cK hp root aY=some p→cK hp root cs=some p→aY=cs
 dep:∀ aY p,cK hp root aY=some p→aY.length≤32
def cont (hp:aN Cell) (root:Ref) (aY:List Bool):Option Int:=match cK hp root aY with
 | none=>none
 | some p=>match cy hp p with
   | none=>none
   | some c=>bif c.dG then some c.ih else none
theorem jD {hp:aN Cell} {root:Ref} {aY:List Bool} {p:Nat} {c:dz} (h:cK hp root aY=some p) (ak:cy hp p=some c):cont hp root aY=bif c.dG then some c.ih else none:=by
 unfold cont; rw [h]; simp only [ak]
theorem ki {hp:aN Cell} {root:Ref} {aY:List Bool} (h:cK hp root aY=none):cont hp root aY=none:=by
 unfold cont; rw [h]
theorem oq {hp:aN Cell} {p:Nat} {c:dz} :cy hp p=some c↔pat hp p=some (.fC c):=by
 refine⟨jn,fun h=> ?_⟩
 unfold cy; rw [h]
theorem qT {hp:aN Cell} {p:Nat} {c:fm} :fu hp p=some c↔pat hp p=some (.iV c):=by
 refine⟨m6,fun h=> ?_⟩
 unfold fu; rw [h]
theorem tW {hp hp':aN Cell} {p:Nat} (h:pat hp' p=pat hp p):cy hp' p=cy hp p:=by unfold cy; rw [h]
theorem C4 {hp hp':aN Cell} {p:Nat} (h:pat hp' p=pat hp p):fu hp' p=fu hp p:=by unfold fu; rw [h]
structure ez (hp hp':aN Cell) (own:Nat→Prop):Prop where
 keys:∀ q,q∈ec hp→q∈ec hp'
 rest:∀ q,q∈ec hp→ ¬ own q→pat hp' q=pat hp q
theorem ez.refl {hp:aN Cell} {own:Nat→Prop} :ez hp hp own:=⟨fun _ h=>h,fun _ _ _=>rfl⟩
theorem ez.mk' {hp:aN Cell} {own:Nat→Prop} {a:Nat} {k:Cell} (bd:a ∉ ec hp):ez hp ((a,k) :: hp) own:=
 ⟨fun q h=>List.mem_cons_of_mem _ h,fun q h _=>by rw [o6,if_neg (fun e:a=q=>bd (by rw [e]; exact h))]⟩
theorem ez.up {hp:aN Cell} {own:Nat→Prop} {p:Nat} {k:Cell} (hp':own p):ez hp (cT hp p k) own:=
 ⟨fun q h=>by rw [p7]; exact h,fun q h hq=>lv (fun e:p=q=>hq (by rw [← e]; exact hp'))⟩
theorem ez.trans {J ad ay:aN Cell} {own own':Nat→Prop} (a:ez J ad own) (b:ez ad ay own') (a9:∀ q,q∈ec J→own' q→own q):ez J ay own:=
 ⟨fun q h=>b.keys q (a.keys q h),fun q h hq=>by rw [b.rest q (a.keys q h) fun cX=>hq (a9 q h cX),a.rest q h hq]⟩
theorem S6 (b:Bool):b7 (default:dz).c1 (e7 b)=none:=by cases b <;> rfl
theorem Li {hp:aN Cell} {a:Nat} (h:cy hp a=some (default:dz)):∀ aY,cK hp (some a) aY=if aY= [] then some a else none
 | []=>rfl
 | b :: aY=>by rw [g2 h,S6,gd]; rfl
theorem GQ {hp hp':aN Cell} {root:Ref} {ws:List Bool} {b:Bool} {p a:Nat} {c:dz} (bJ:nP hp root) (hw:cK hp root ws=some p) (ak:cy hp p=some c) (aP:b7 c.c1 (e7 b)=none) (bd:cy hp a=none)
 (cw:cy hp' p=some { c with c1:=h2 c.c1 (e7 b) (some a) }) (cJ:cy hp' a=some default) (gM:∀ q,q≠p→q≠a→cy hp' q=cy hp q):
 ∀ (aY us:List Bool) (q:Nat),cK hp root us=some q→cK hp' (some q) aY=if us ++ aY=ws ++ [b] then some a else cK hp (some q) aY
 | [],us,q,hu=>by
   have: ¬ us ++ []=ws ++ [b]:=fun e=>by
    rw [List.append_nil] at e
    rw [e,lV,hw,g2 ak,aP,gd] at hu; cases hu
   rw [if_neg this]; rfl
 | x :: xs,us,q,hu=>by
   obtain⟨si,mQ⟩:=bJ.reads us q hu
   have n8:q≠a:=fun e=>by rw [e,bd] at mQ; cases mQ
   by_cases BV:q=p
   ·subst BV
    have Jn:=bJ.inj us ws q hu hw
    subst Jn
    rw [ak] at mQ; cases mQ
    rw [g2 cw,g2 ak]
    simp only
    have cb:e7 b < 2:=by cases b <;> decide
    rw [sw _ _ cb]
    by_cases vO:x=b
    ·subst vO
     rw [if_pos rfl,aP,gd,Li cJ]
     by_cases h:xs= []
     ·subst h; rw [if_pos rfl,if_pos rfl]
     ·rw [if_neg h,if_neg fun e=>h ?_]
      have:=List.append_cancel_left e
      simpa using this
    ·have cH: ¬ e7 x=e7 b:=fun e=>vO (by cases x <;> cases b <;> first | rfl | cases e)
     have eO: ¬ us ++ x :: xs=us ++ [b]:=fun e=>vO (by have:=List.append_cancel_left e; simpa using (List.cons.inj this).1)
     rw [if_neg cH,if_neg eO]
     cases e:b7 c.c1 (e7 x) with
     | none=>rw [gd,gd]
     | some lq=>
       have lQ:cK hp root (us ++ [x])=some lq:=by rw [lV,hu,g2 ak,e,m5]
       rw [GQ bJ hw ak aP bd cw cJ gM xs (us ++ [x]) lq lQ,List.append_assoc,List.singleton_append,if_neg eO]
   ·have J:cy hp' q=some si:=by rw [gM q BV n8]; exact mQ
    rw [g2 J,g2 mQ]
    cases e:b7 si.c1 (e7 x) with
    | none=>
      have eO: ¬ us ++ x :: xs=ws ++ [b]:=fun aR=>by
       have Z5:cK hp root (us ++ [x])=none:=by rw [lV,hu,g2 mQ,e,gd]
       rcases List.eq_nil_or_concat xs with rfl | ⟨ys,y,rfl⟩
       ·have:=(List.append_inj_left' aR rfl)
        subst this
        rw [hu] at hw; cases hw; exact BV rfl
       ·have ay:us ++ x :: ys=ws:=by
         have:(us ++ x :: ys) ++ [y]=ws ++ [b]:=by simpa using aR
         exact List.append_inj_left' this rfl
        rw [← ay,show us ++ x :: ys=(us ++ [x]) ++ ys by simp,lV,Z5,gd] at hw
        cases hw
      rw [gd,gd,if_neg eO]
    | some lq=>
      have lQ:cK hp root (us ++ [x])=some lq:=by rw [lV,hu,g2 mQ,e,m5]
      rw [GQ bJ hw ak aP bd cw cJ gM xs (us ++ [x]) lq lQ,List.append_assoc,List.singleton_append]
theorem grow {hp hp':aN Cell} {r:Nat} {ws:List Bool} (hd:ws.length < 32) {b:Bool} {p a:Nat} {c:dz} (bJ:nP hp (some r)) (hw:cK hp (some r) ws=some p) (ak:cy hp p=some c) (aP:b7 c.c1 (e7 b)=none) (bd:cy hp a=none)
 (cw:cy hp' p=some { c with c1:=h2 c.c1 (e7 b) (some a) }) (cJ:cy hp' a=some default) (gM:∀ q,q≠p→q≠a→cy hp' q=cy hp q):
 nP hp' (some r)∧ (∀ aY,cK hp' (some r) aY=if aY=ws ++ [b] then some a else cK hp (some r) aY)∧ ∀ aY,cont hp' (some r) aY=cont hp (some r) aY:=by
 have a8:∀ aY,cK hp' (some r) aY=if aY=ws ++ [b] then some a else cK hp (some r) aY:=fun aY=>GQ bJ hw ak aP bd cw cJ gM aY [] r rfl
 have E8:∀ aY,cK hp (some r) aY≠some a:=fun aY h=>by
  obtain⟨c,J⟩:=bJ.reads aY a h
  rw [bd] at J; cases J
 have Jo:cK hp (some r) (ws ++ [b])=none:=by rw [lV,hw,g2 ak,aP,gd]
 refine⟨⟨fun aY q h=> ?_,fun aY cs q J ad=> ?_,fun aY q h=> ?_⟩,a8,fun aY=> ?_⟩
 ·rw [a8] at h
  split at h
  ·cases h; exact⟨_,cJ⟩
  ·obtain⟨jf,J⟩:=bJ.reads aY q h
   by_cases e:q=p
   ·subst e; exact⟨_,cw⟩
   ·exact⟨jf,by rw [gM q e fun aR=>E8 aY (aR ▸ h)]; exact J⟩
 ·rw [a8] at J ad
  split at J <;> split at ad
  ·rename_i aF aR; rw [aF,aR]
  ·cases J; exact absurd ad (E8 cs)
  ·cases ad; exact absurd J (E8 aY)
  ·exact bJ.inj aY cs q J ad
 ·rw [a8] at h
  split at h
  ·rename_i e; rw [e]; simp; omega
  ·exact bJ.dep aY q h
 ·by_cases e:aY=ws ++ [b]
  ·subst e
   rw [ki Jo,jD (by rw [a8,if_pos rfl]) cJ]; rfl
  ·have vP:cK hp' (some r) aY=cK hp (some r) aY:=by rw [a8,if_neg e]
   cases h:cK hp (some r) aY with
   | none=>rw [ki h,ki (vP.trans h)]
   | some q=>
     obtain⟨jf,J⟩:=bJ.reads aY q h
     by_cases eq:q=p
     ·subst eq
      rw [ak] at J; cases J
      rw [jD h ak,jD (vP.trans h) cw]
     ·rw [jD h J,jD (vP.trans h) (by rw [gM q eq fun aR=>E8 aY (aR ▸ h)]; exact J)]
theorem zD {hp hp':aN Cell} {p:Nat} {c jf:dz} (ak:cy hp p=some c) (mR:cy hp' p=some jf) (he:jf.c1=c.c1) (h:∀ q,q≠p→cy hp' q=cy hp q):∀ (aY:List Bool) (r:Ref),cK hp' r aY=cK hp r aY
 | aY,none=>by rw [gd,gd]
 | [],some q=>rfl
 | b :: aY,some q=>by
   by_cases e:q=p
   ·subst e
    rw [g2 ak,g2 mR,he]; exact zD ak mR he h aY _
   ·cases aR:cy hp q with
    | none=>
      show(match cy hp' q with | none=>none | some c=>cK hp' (b7 c.c1 (e7 b)) aY)=(match cy hp q with | none=>none | some c=>cK hp (b7 c.c1 (e7 b)) aY)
      rw [h q e,aR]
    | some d=>rw [g2 aR,g2 (by rw [h q e]; exact aR)]; exact zD ak mR he h aY _
theorem OG {hp hp':aN Cell} {root:Ref} {ws:List Bool} {p:Nat} {c jf:dz} (bJ:nP hp root) (hw:cK hp root ws=some p) (ak:cy hp p=some c) (mR:cy hp' p=some jf) (he:jf.c1=c.c1) (h:∀ q,q≠p→cy hp' q=cy hp q):
 nP hp' root∧ ∀ aY,cont hp' root aY=if aY=ws then(bif jf.dG then some jf.ih else none) else cont hp root aY:=by
 have a8:=zD ak mR he h
 refine⟨⟨fun aY q hq=> ?_,fun aY cs q J ad=>bJ.inj aY cs q (by rw [← a8]; exact J) (by rw [← a8]; exact ad),fun aY q hq=>bJ.dep aY q (by rw [← a8]; exact hq)⟩,fun aY=> ?_⟩
 ·rw [a8] at hq
  obtain⟨d,J⟩:=bJ.reads aY q hq
  by_cases e:q=p
  ·subst e; exact⟨_,mR⟩
  ·exact⟨d,by rw [h q e]; exact J⟩
 ·by_cases e:aY=ws
  ·subst e; rw [if_pos rfl,jD (by rw [a8]; exact hw) mR]
  ·rw [if_neg e]
   cases J:cK hp root aY with
   | none=>rw [ki J,ki (by rw [a8]; exact J)]
   | some q=>
     obtain⟨d,ad⟩:=bJ.reads aY q J
     have BV:q≠p:=fun aR=>e (bJ.inj aY ws p (aR ▸ J) hw)
     rw [jD J ad,jD (by rw [a8]; exact J) (by rw [h q BV]; exact ad)]
theorem kh {α:Type} {b:Nat} (xs ys:List α) (h:xs.length + ys.length≤1000000) (hb:b≤100000):hQ b xs ys=some (xs ++ ys):=by
 unfold hQ
 rw [if_pos]
 unfold maxLen
 refine⟨Nat.le_trans (Nat.mul_le_mul h hb) (by omega),by omega⟩
def hC (c:bf):Prop:=0≤c.rC∧c.c2.length≤1000
theorem Hd (l:List (BitVec 8)) (n:Int) (bG:0≤n) (J:n≤1000):bC (tS l n) hC:=by
 unfold tS
 refine .eq (a:=(l.drop 0).take ((min (l.length:Int) n).toNat - 0)) ?_ (.ret ⟨Int.le_refl 0,?_⟩)
 ·unfold uz; rw [if_pos ⟨by omega,by omega,by omega⟩]; rfl
 ·simp only [List.length_take,List.length_drop]; omega
theorem gf (c:bf) (n:Int) (ak:hC c) (aP:1≤n):bC (fz c n) (fun r=>hC r.2∧0≤r.1∧r.1 < n∧r.1 < 256):=by
 unfold fz CO
 obtain⟨l,a⟩:=c
 obtain⟨bG,J⟩:=ak
 simp only at bG J
 obtain⟨k,rfl⟩:=Int.eq_ofNat_of_zero_le bG
 refine .eq rfl (.cond (fun _=> .ret ⟨⟨bG,J⟩,by omega,by omega,by omega⟩) fun h=> ?_)
 simp only [Bool.or_eq_false_iff,Bool.not_eq_false',decide_eq_true_eq,decide_eq_false_iff_not] at h
 have aF:bA ((k:Int) + 1)=((k + 1:Nat):Int):=gT (by omega)
 simp only [aF]
 have aR:bA (((k + 1:Nat):Int) - 1)=(k:Int):=by rw [hA (by omega) (by omega)]; omega
 rw [aR]
 refine .idx rfl (by omega) (.eq (by unfold s7; rw [if_neg (by omega)]) (.ret ⟨⟨by simp only; omega,J⟩,?_,?_,?_⟩))
 ·exact Int.tmod_nonneg _ (by omega)
 ·exact Int.tmod_lt_of_pos _ (by omega)
 ·simp only
  have ay:(aI l k).toNat < 256:=(aI l k).isLt
  obtain⟨m,rfl⟩:=Int.eq_ofNat_of_zero_le (show 0≤n by omega)
  have aU:(((aI l k).toNat:Int)).tmod m=(((aI l k).toNat % m:Nat):Int):=(Int.ofNat_tmod _ _).symm
  have a0:=Nat.mod_le (aI l k).toNat m
  omega
theorem m1 (c:bf) (ak:hC c):bC (k3 c) (fun r=>hC r.2):=by
 unfold k3
 exact .bind (gf c 2 ak (by omega)) fun y h=> .ret h.1
theorem Sz (c:bf) (ak:hC c):bC (yz c) (fun r=>hC r.2∧r.1.length=3):=by
 unfold yz
 refine .bind (gf c 4 ak (by omega)) fun aB J=> ?_
 refine .eq (uu J.2.1 (by simpa using J.2.2.1)) (.eq rfl (.eq rfl (.bind (m1 _ J.1) fun aH ad=> ?_)))
 refine .bind (P:=fun m=>hC m.1) (.cond (fun _=> ?_) (fun _=> .ret ad)) fun bB cV=> ?_
 ·refine .bind (gf _ 2 ad (by omega)) fun cl bl=> .eq rfl (.bind (gf _ 4 bl.1 (by omega)) fun bg cP=> ?_)
  exact .eq (uu cP.2.1 (by simpa using cP.2.2.1)) (.eq rfl (.eq (kh _ _ (by simp) (by omega)) (.ret cP.1)))
 ·refine .bind (gf _ 4 cV (by omega)) fun bn ay=> .eq (uu ay.2.1 (by simpa using ay.2.2.1)) (.eq rfl (.eq rfl ?_))
  refine .bind (gf _ 3 ay.1 (by omega)) fun bD aU=> ?_
  refine .bind (P:=fun m=>hC m.1) (.cond (fun _=> ?_) (fun _=> .ret aU.1)) fun cL en=> .ret ⟨en,rfl⟩
  exact .bind (gf _ 3 aU.1 (by omega)) fun b0 a0=> .eq rfl (.ret a0.1)
def pg (a:dO):Int × List Int:=(a.bP,a.jX.map (·.ff))
def xC:List (Int × List Int):= [(1,[]),(2,[]),(3,[16]),(4,[4]),(5,[4,12]),(6,[])]
theorem TQ {α β:Type} [Inhabited α] (f:α→β) (l:List α) (k:Nat) (x:α) (h:f x=f (aI l k)):(ea l k x).map f=l.map f:=by
 unfold ea
 apply List.ext_getElem
 ·simp
 ·intro i J ad
  simp only [List.length_map,List.length_set] at J
  simp only [List.getElem_map,List.getElem_set]
  split
  ·rename_i e; subst e; rw [h,eV l J]
  ·rfl
theorem Df {α β:Type} [Inhabited α] (f:α→β) {l:List α} {k:Nat} {x:α} {r:List β} (h:f x=f (aI l k)) (ao:l.map f=r):(ea l k x).map f=r:=(TQ f l k x h).trans ao
theorem Sd (c:bf) (ak:hC c):bC (yt c) (fun r=>hC r.2∧r.1.map pg=xC):=by
 unfold yt
 refine .eq rfl (.eq rfl (.eq rfl (.eq rfl (.eq rfl (.eq rfl (.eq rfl (.eq rfl (.eq rfl (.eq rfl (.eq rfl (.eq rfl (.eq rfl ?_))))))))))))
 refine .bind (gf _ 2 ak (by omega)) fun aB J=> .eq rfl (.bind (gf _ 256 J.1 (by omega)) fun aH ad=> .eq rfl (.eq rfl (.eq rfl ?_)))
 refine .bind (m1 _ ad.1) fun bn ay=> ?_
 refine .bind (P:=fun m=>m.map pg=xC) (.cond (fun _=> ?_) (fun _=> .ret rfl)) fun bB cV=> ?_
 ·exact .idx (k:=2) rfl (by simp) (.eq rfl (.ret (Df pg rfl rfl)))
 ·refine .bind (m1 _ ay) fun bD aU=> .bind (P:=fun m=>m.map pg=xC) (.cond (fun _=> ?_) (fun _=> .ret cV)) fun cL en=> .ret ⟨aU,en⟩
  have ao:bB.length=6:=by rw [← List.length_map (f:=pg),cV]; rfl
  exact .idx (k:=4) rfl (by omega) (.eq rfl (.ret (Df pg rfl cV)))
def sj:cM:= { cc:=ByteArray.mk #[97],gC:=4,dp:=1 }
def v7:cM:= { cc:=ByteArray.mk #[100],gC:=7,dp:=2 }
def JY:cM:= { cc:=ByteArray.mk #[109],gC:=3,dp:=1 }
def Cd:cM:= { cc:=ByteArray.mk #[101],gC:=6,dp:=3 }
def BW:cM:= { cc:=ByteArray.mk #[97],gC:=4,dp:=3 }
def JZ:cM:= { cc:=ByteArray.mk #[98],gC:=5,dp:=1 }
def Ce:cM:= { cc:=ByteArray.mk #[102],gC:=8,dp:=4 }
def J0:cM:= { cc:=ByteArray.mk #[103],gC:=9,dp:=1 }
def nc (t:bQ):Int × List Int × List cM:=(t.bP,t.dP,t.cO)
def sX (b:Bool):List cM:=if b then [v7,JY] else [v7]
def u1 (b:Bool):List cM:=if b then [Cd,BW,JZ] else [Cd,BW]
def u2 (b:Bool):List cM:=if b then [Ce,J0,v7] else [Ce]
def rG (dE dU hz:Bool):List (Int × List Int × List cM):=
 [(1,[1,2,4],[sj]),(2,[1,2,3,4],sX dE),(3,[1,2,3,5,6],u1 dU),(4,[1,3,5],u2 hz)]
theorem SA (c:bf) (ak:hC c):bC (yB c) (fun r=>hC r.2∧ (∀ x∈r.1.map (·.gD),2≤x∧x≤12)∧ ∃ dE dU hz,r.1.map nc=rG dE dU hz):=by
 unfold yB
 refine .eq rfl (.bind (gf _ 2 ak (by omega)) fun aB J=> .bind (gf _ 5 J.1 (by omega)) fun aH ad=> .eq rfl (.eq rfl ?_))
 refine .bind (gf _ 6 ad.1 (by omega)) fun bn ay=> .bind (m1 _ ay.1) fun bD aU=> ?_
 refine .bind (P:=fun m=>(m.1.bP=2∧m.1.dP= [1,2,3,4]∧m.1.gD=bA (3 + bn.1))∧ ∃ b,m.2=sX b) (.cond (fun _=> ?_) (fun _=> .ret ⟨⟨rfl,rfl,rfl⟩,false,rfl⟩)) fun bB cV=> ?_
 ·exact .eq rfl (.eq (kh _ _ (by simp) (by omega)) (.ret ⟨⟨rfl,rfl,rfl⟩,true,rfl⟩))
 refine .eq rfl (.eq rfl (.bind (gf _ 6 aU (by omega)) fun b0 a0=> .bind (m1 _ a0.1) fun cl bl=> ?_))
 refine .bind (P:=fun m=>(m.1.bP=3∧m.1.dP= [1,2,3,5,6]∧m.1.gD=bA (4 + b0.1))∧ ∃ b,m.2=u1 b) (.cond (fun _=> ?_) (fun _=> .ret ⟨⟨rfl,rfl,rfl⟩,false,rfl⟩)) fun cL en=> ?_
 ·exact .eq rfl (.eq (kh _ _ (by simp) (by omega)) (.ret ⟨⟨rfl,rfl,rfl⟩,true,rfl⟩))
 refine .eq rfl (.bind (gf _ 5 bl (by omega)) fun bg cP=> .bind (m1 _ cP.1) fun fe eL=> ?_)
 refine .bind (P:=fun m=>(m.1.bP=4∧m.1.dP= [1,3,5]∧m.1.gD=bA (3 + bg.1))∧ ∃ b,m.2=u2 b) (.cond (fun _=> ?_) (fun _=> .ret ⟨⟨rfl,rfl,rfl⟩,false,rfl⟩)) fun fb gV=> ?_
 ·exact .eq rfl (.eq rfl (.eq (kh _ _ (by simp) (by omega)) (.ret ⟨⟨rfl,rfl,rfl⟩,true,rfl⟩)))
 refine .eq rfl (.eq rfl (.eq rfl (.eq rfl (.eq rfl ?_))))
 obtain⟨⟨cN,cF,jb⟩,dE,fL⟩:=cV
 obtain⟨⟨bq,cg,jR⟩,dU,fc⟩:=en
 obtain⟨⟨d1,d2,d4⟩,hz,d3⟩:=gV
 refine bC.loop 4 (fun k s=>s.1=(k:Int)∧s.2.1.map nc=rG dE dU hz∧hC s.2.2∧s.2.1.map (·.gD)= [bA (2 + aH.1),bA (3 + bn.1),bA (4 + b0.1),bA (3 + bg.1)]) (by omega) ⟨rfl,?_,eL,?_⟩ (fun k s au ar=> ?_) (fun s ar=> ?_)
 ·simp only [List.map_cons,List.map_nil,nc,cN,cF,fL,bq,cg,fc,d1,d2,d3,rG]; rfl
 ·simp only [List.map_cons,List.map_nil,jb,jR,d4]
 ·obtain⟨i,gZ,Cf⟩:=s; obtain⟨aF,aR,dh,iQ⟩:=ar
  simp only at aF aR dh iQ; subst aF
  refine bC.cond (fun _=> ?_) (fun h=>by simp at h; omega)
  have ao:gZ.length=4:=by rw [← List.length_map (f:=nc),aR]; rfl
  refine .idx rfl (by simpa using au) (.bind (gf _ 3 dh (by omega)) fun b3 fM=> .eq (uu fM.2.1 ?_) (.idx rfl (by simp only; omega) (.eq rfl (.ret ⟨gT (by omega),?_,fM.1,?_⟩))))
  ·have jt:=fM.2.2.1
   have:k=0∨k=1∨k=2∨k=3:=by omega
   rcases this with rfl | rfl | rfl | rfl <;> exact jt
  ·exact Df nc rfl aR
  ·exact Df bQ.gD rfl iQ
 ·obtain⟨i,gZ,Cf⟩:=s; obtain⟨aF,aR,dh,iQ⟩:=ar
  simp only at aF aR dh iQ; subst aF
  refine⟨_,rfl,?_⟩
  refine .ret ⟨dh,fun x al=> ?_,dE,dU,hz,aR⟩
  rw [iQ] at al
  have bm:=ad.2; have bS:=ay.2; have oV:=a0.2; have abD:=cP.2
  simp only [List.mem_cons,List.not_mem_nil,or_false] at al
  rcases al with rfl | rfl | rfl | rfl <;> (rw [hA (by omega) (by omega)]; omega)
theorem Mm (n:Nat) (h:n≤1000):vu (α:=Bool) 1 (n:Int)=some (List.replicate n default):=by
 unfold vu; rw [if_pos ⟨by omega,by omega,by omega⟩]; simp
theorem S7 (c:bf) (gZ:List bQ) (ak:hC c) (ao:gZ.length≤1000) (au:∀ t∈gZ,t.cO.length≤1000):bC (yL c gZ) (fun r=>hC r.2∧r.1.map (·.bP)= [1,2,7]):=by
 unfold yL
 refine .bind (gf _ 3 ak (by omega)) fun aB J=> .bind (gf _ 6 J.1 (by omega)) fun aH ad=> .bind (gf _ 6 ad.1 (by omega)) fun bn ay=> .bind (gf _ 4 ay.1 (by omega)) fun bD aU=> ?_
 refine bC.loop gZ.length (fun k s=>s.1=(k:Int)∧hC s.2.2.2.1∧s.2.2.1.length≤k∧s.2.2.2.2.2.1.length≤k∧s.2.2.2.2.2.2.2.length≤k∧s.2.1.bP=7∧s.2.2.2.2.1.bP=2∧s.2.2.2.2.2.2.1.bP=1) (by omega) ⟨rfl,aU.1,by simp,by simp,by simp,rfl,rfl,rfl⟩ (fun k s ns ar=> ?_) (fun s ar=> ?_)
 ·obtain⟨i,jg,av,Cf,gY,bm,pS,bS⟩:=s; obtain⟨aF,aR,dh,iQ,mj,i1,i2,i3⟩:=ar
  simp only at aF aR dh iQ mj i1 i2 i3; subst aF
  refine bC.cond (fun _=> ?_) (fun h=>by simp at h; omega)
  have OH:(aI gZ k).cO.length≤1000:=au _ (by rw [eV gZ ns]; exact List.getElem_mem ns)
  refine .idx rfl ns (.eq (Mm _ OH) (.eq (Mm _ OH) ?_))
  refine bC.loop (aI gZ k).cO.length (fun j s=>s.1=(j:Int)∧s.2.1.length=(aI gZ k).cO.length∧s.2.2.1.length=(aI gZ k).cO.length∧hC s.2.2.2) (by omega) ⟨rfl,by simp,by simp,aR⟩ (fun j s aG ar=> ?_) (fun s ar=> ?_)
  ·obtain⟨i,dE,dU,Z6⟩:=s; obtain⟨f1,f2,f3,f4⟩:=ar
   simp only at f1 f2 f3 f4; subst f1
   refine bC.cond (fun _=> ?_) (fun h=>by simp at h; omega)
   exact .bind (gf _ 4 f4 (by omega)) fun bg cP=> .idx rfl (by simp only; omega) (.idx rfl (by simp only; omega) (.ret ⟨gT (by omega),by simp [ea,f2],by simp [ea,f3],cP.1⟩))
  ·obtain⟨i,dE,dU,Z6⟩:=s; obtain⟨f1,f2,f3,f4⟩:=ar
   simp only at f1 f2 f3 f4; subst f1
   refine⟨_,by simp; rfl,?_⟩
   refine .eq rfl (.eq (kh _ _ (by simp; omega) (by omega)) (.bind (gf _ 4 f4 (by omega)) fun b3 fM=> ?_))
   refine .bind (P:=fun m=>hC m.1∧m.2.2.length≤k + 1∧m.2.1.bP=2) (.cond (fun _=> ?_) (fun _=> .ret ⟨fM.1,by simp only; omega,i2⟩)) fun bB cV=> ?_
   ·exact .bind (gf _ 4 fM.1 (by omega)) fun iW oP=> .bind (m1 _ oP.1) fun mJ E9=> .eq rfl (.eq (kh _ _ (by simp; omega) (by omega)) (.ret ⟨E9,by simp; omega,i2⟩))
   refine .bind (m1 _ cV.1) fun fJ jt=> ?_
   refine .bind (P:=fun m=>hC m.1∧m.2.2.length≤k + 1∧m.2.1.bP=7) (.cond (fun _=> ?_) (fun _=> .ret ⟨jt,by simp only; omega,i1⟩)) fun cL en=> ?_
   ·exact .bind (m1 _ jt) fun jN qy=> .bind (m1 _ qy) fun hG vQ=> .eq rfl (.eq (kh _ _ (by simp; omega) (by omega)) (.ret ⟨vQ,by simp; omega,i1⟩))
   exact .ret ⟨gT (by omega),en.1,en.2.1,cV.2.1,by simp; omega,en.2.2,cV.2.2,i3⟩
 ·obtain⟨i,jg,av,Cf,gY,bm,pS,bS⟩:=s; obtain⟨aF,aR,dh,iQ,mj,i1,i2,i3⟩:=ar
  simp only at aF aR dh iQ mj i1 i2 i3; subst aF
  refine⟨_,by simp; rfl,?_⟩
  exact .eq rfl (.eq rfl (.ret ⟨aR,by simp only [List.map_cons,List.map_nil,i1,i2,i3]⟩))
def IA:List (Int × Int):= [(1,16),(2,16),(3,8),(4,4),(5,4),(6,8),(7,32),(8,12),(9,4)]
def AH (f:fh):Int × Int:=(f.bP,f.ff)
structure dQ (s:a1):Prop where
 fields:s.gH.map AH=IA
 headers:s.sv.length=3
 Vn:s.ue.length=3
 He:s.dP.map pg=xC
 tables:∃ dE dU hz,s.b1.map nc=rG dE dU hz
 Xj:s.nI.map (·.bP)= [1,2,7]
 Xk:∀ x∈s.b1.map (·.gD),2≤x∧x≤12
theorem dQ.xD {s:a1} (h:dQ s):s.gH.length=9:=by rw [← List.length_map (f:=AH),h.fields]; rfl
theorem dQ.l9 {s:a1} (h:dQ s):s.b1.length=4:=by obtain⟨dE,dU,hz,J⟩:=h.tables; rw [← List.length_map (f:=nc),J]; rfl
theorem dQ.OI {s:a1} (h:dQ s):s.dP.length=6:=by rw [← List.length_map (f:=pg),h.He]; rfl
theorem KX (c:bf) (ak:hC c):bC (we c) (fun r=>dQ r.1∧hC r.2):=by
 unfold we
 refine .bind (gf _ 8 ak (by omega)) fun aB J=> .bind (gf _ 30 J.1 (by omega)) fun aH ad=> ?_
 refine .eq rfl (.eq rfl (.eq rfl (.eq rfl (.eq rfl (.eq rfl (.eq rfl (.eq rfl (.eq rfl (.eq rfl (.eq rfl (.eq rfl ?_)))))))))))
 refine .bind (Sz _ ad.1) fun bn ay=> .bind (Sd _ ay.1) fun bD aU=> .bind (SA _ aU.1) fun b0 a0=> .eq rfl (.eq rfl ?_)
 obtain⟨Z7,dW,dE,dU,hz,a0⟩:=a0
 have ao:b0.1.length=4:=by rw [← List.length_map (f:=nc),a0]; rfl
 have Xl:∀ t∈b0.1,t.cO.length≤1000:=fun t bJ=>by
  have bl:nc t∈rG dE dU hz:=a0 ▸ List.mem_map_of_mem bJ
  have cP:∀ p∈rG dE dU hz,p.2.2.length≤1000:=by
   intro p hp
   simp only [rG,List.mem_cons,List.not_mem_nil,or_false] at hp
   rcases hp with rfl | rfl | rfl | rfl
   ·simp
   ·cases dE <;> simp [sX]
   ·cases dU <;> simp [u1]
   ·cases hz <;> simp [u2]
  exact cP _ bl
 refine .bind (S7 _ _ Z7 (by simp only; omega) Xl) fun cl bl=> .eq rfl (.bind (m1 _ bl.1) fun bg cP=> ?_)
 let Inv (s:a1):Prop:=s.gH.map AH=IA∧s.sv.length=3∧s.ue.length=3∧s.dP.map pg=xC∧s.b1=b0.1∧s.nI.map (·.bP)= [1,2,7]
 have hinv:∀ (st:List ft) (PV:List eS) (s:a1),Inv s→Inv { s with mZ:=st,nN:=PV } :=fun st PV s h=>h
 refine .bind (P:=fun _=>True) (.cond (fun _=> .eq (kh _ _ (by simp) (by omega)) (.ret trivial)) (fun _=> .ret trivial)) fun bB _=> ?_
 refine .bind (m1 _ cP) fun fe eL=> ?_
 refine .bind (P:=fun m=>Inv m.1∧m.2.length≤10) (.cond (fun _=> .eq rfl (.eq (kh _ _ (by simp) (by omega)) (.ret ⟨⟨rfl,rfl,ay.2,aU.2,rfl,bl.2⟩,by simp⟩))) (fun _=> .ret ⟨⟨rfl,rfl,ay.2,aU.2,rfl,bl.2⟩,by simp⟩)) fun cL en=> ?_
 refine .bind (m1 _ eL) fun b3 fM=> ?_
 refine .dd (P:=fun _=>True) (fun _=>⟨2,ox (k:=2) (by rw [en.1.2.2.2.2.1]; omega),trivial⟩) fun bj _=> ?_
 refine .bind (P:=fun m=>Inv m.1∧m.2.length≤11) (.cond (fun _=> .eq rfl (.eq (kh _ _ (by have:=en.2; simp; omega) (by omega)) (.ret ⟨en.1,by have:=en.2; simp; omega⟩))) (fun _=> .ret ⟨en.1,by have:=en.2; simp only; omega⟩)) fun fb gV=> ?_
 refine .bind (m1 _ fM) fun fJ jt=> ?_
 refine .dd (P:=fun _=>True) (fun _=>⟨3,ox (k:=3) (by rw [gV.1.2.2.2.2.1]; omega),trivial⟩) fun bI _=> ?_
 refine .bind (P:=fun m=>Inv m.1∧m.2.length≤13) (.cond (fun _=> .eq rfl (.eq rfl (.eq (kh _ _ (by have:=gV.2; simp; omega) (by omega)) (.ret ⟨gV.1,by have:=gV.2; simp; omega⟩)))) (fun _=> .ret ⟨gV.1,by have:=gV.2; simp only; omega⟩)) fun oS Bg=> ?_
 obtain⟨⟨i1,i2,i3,i4,i5,i6⟩,_⟩:=Bg
 exact .eq rfl (.ret ⟨⟨i1,i2,i3,i4,⟨dE,dU,hz,by simp only [i5]; exact a0⟩,i6,by simp only [i5]; exact dW⟩,jt⟩)
theorem dQ.size {s:a1} (h:dQ s) {k:Nat} (au:k < 4):2≤ (aI s.b1 k).gD∧ (aI s.b1 k).gD≤12:=by
 have ao:=h.l9
 exact h.Xk _ (List.mem_map.2 ⟨_,by rw [eV _ (by omega)]; exact List.getElem_mem _,rfl⟩)
theorem Uz (x:Int) (n:Int) (J:1≤n) (ad:n≤1000000):bC (wM x n) (fun r=>0≤r∧r < n):=by
 unfold wM
 refine .cond (fun h=>by simp at h; omega) fun _=> ?_
 have hm:∀ y:Int,s7 y n=some (y.tmod n):=fun y=>by unfold s7; rw [if_neg (by omega)]
 refine .eq (hm _) ?_
 have ay:=Int.tmod_lt_of_pos x (show 0 < n by omega)
 have aU: -n < x.tmod n:=by
  have:=Int.tmod_lt_of_pos (-x) (show 0 < n by omega)
  rw [Int.neg_tmod] at this; omega
 rw [hA (by omega) (by omega)]
 exact .eq (hm _) (.ret ⟨Int.tmod_nonneg _ (by omega),Int.tmod_lt_of_pos _ (by omega)⟩)
def cx (v:aA) (i:Nat):Bool:=if i < 64 then v.b2.getLsbD i else v.de.getLsbD (i - 64)
theorem Hy {v w:aA} (h:∀ j,j < 128→cx v j=cx w j):v=w:=by
 cases v with | mk aaK aaL=>cases w with | mk aaM wl=>
 have J:aaK=aaM:=by
  apply BitVec.eq_of_getLsbD_eq
  intro i ar
  have:=h (i + 64) (by omega)
  simpa [cx,show ¬ (i + 64 < 64) by omega] using this
 have ad:aaL=wl:=by
  apply BitVec.eq_of_getLsbD_eq
  intro i ar
  have:=h i (by omega)
  simpa [cx,ar] using this
 rw [J,ad]
theorem zM (j:Nat):cx default j=false:=by
 unfold cx; split <;> exact BitVec.getLsbD_zero
def A9 (x y:aA):aA:= { de:=x.de &&& y.de,b2:=x.b2 &&& y.b2 }
def Pu (x y:aA):aA:= { de:=x.de ||| y.de,b2:=x.b2 ||| y.b2 }
def IB (x y:aA):aA:= { de:=x.de ^^^ y.de,b2:=x.b2 ^^^ y.b2 }
@[simp] theorem UA (x y:aA) (j:Nat):cx (A9 x y) j=(cx x j && cx y j):=by unfold cx A9; split <;> simp
@[simp] theorem aaU (x y:aA) (j:Nat):cx (Pu x y) j=(cx x j || cx y j):=by unfold cx Pu; split <;> simp
@[simp] theorem UB (x y:aA) (j:Nat):cx (IB x y) j=(cx x j ^^ cx y j):=by unfold cx IB; split <;> simp
theorem and_eq (x y:aA):C3 x y=some (A9 x y):=rfl
theorem xor_eq (x y:aA):zi x y=some (IB x y):=rfl
theorem Mn (x:aA):bC (wI x) (fun r=> ∀ j,j < 128→b7 r j=cx x j):=by
 unfold wI
 refine bC.loop 64 (fun k s=>s.1=k∧ ∀ j,j < 128→b7 s.2 j=(decide (j % 64 < k) && cx x j)) (by omega)
  ⟨rfl,fun j aG=>by simp [C0]⟩ (fun k s au ar=> ?_) (fun s ar=> ?_)
 ·obtain⟨i,v⟩:=s; obtain⟨J,ad⟩:=ar
  simp only at J ad; subst J
  have aF:bA ((k:Int) + 64)=((k + 64:Nat):Int):=by rw [hA (by omega) (by omega)]; simp
  refine bC.cond (fun _=> ?_) (fun h=>by simp at h; omega)
  refine bC.idx rfl (show k < 128 by omega) (.eq rfl (.idx aF (show k + 64 < 128 by omega) (.eq rfl (.ret ⟨gT (by omega),fun j aG=> ?_⟩))))
  simp only [sw _ _ (show k < 128 by omega),sw _ _ (show k + 64 < 128 by omega),p8 (show k < 2 ^ 64 by omega),TO,ad j aG]
  by_cases xK:j=k + 64
  ·subst xK
   have J:(k + 64) % 64 < k + 1:=by omega
   have ad: ¬ (k + 64 < 64):=by omega
   simp only [cx,J,ad,if_true,if_false,decide_true,Bool.true_and,Nat.add_sub_cancel]
  ·by_cases nr:j=k
   ·subst nr
    have:j % 64 < j + 1:=by omega
    simp [cx,this,au]
   ·rw [if_neg xK,if_neg nr]
    congr 1
    rw [decide_eq_decide]; omega
 ·obtain⟨i,v⟩:=s; obtain⟨J,ad⟩:=ar
  simp only at J ad; subst J
  refine⟨_,rfl,.ret fun j aG=> ?_⟩
  have:j % 64 < 64:=by omega
  simp [ad j aG,this]
theorem LH (v:aA) (n:Nat) (aP:n < 2 ^ 62):bC (wG v n) (fun r=> ∀ j,j < 128→cx r j=cx v (j + n)):=by
 unfold wG
 refine .cond (fun h=> .ret fun j aG=> ?_) (fun h=> .cond (fun cX=> .eq rfl (.ret fun j aG=> ?_)) (fun cX=> .eq rfl (.eq rfl (.ret fun j aG=> ?_))))
 ·have:n=0:=by simp at h; omega
  simp [this]
 ·simp only [decide_eq_true_eq] at cX
  have aF:bA ((n:Int) - 64)=((n - 64:Nat):Int):=by rw [hA (by omega) (by omega)]; omega
  rw [aF,p8 (by omega)]
  unfold cx
  by_cases aG:j < 64
  ·rw [if_pos aG,if_neg (by omega)]
   simp only [BitVec.getLsbD_ushiftRight]
   congr 1; omega
  ·rw [if_neg aG,if_neg (by omega)]
   rw [show(default:aA).de=0#64 from rfl,BitVec.getLsbD_zero,BitVec.getLsbD_of_ge _ _ (by omega)]
 ·simp only [decide_eq_false_iff_not] at h cX
  have aF:bA (64 - (n:Int))=((64 - n:Nat):Int):=by rw [hA (by omega) (by omega)]; omega
  rw [aF,p8 (by omega),p8 (by omega)]
  unfold cx
  by_cases aG:j < 64
  ·rw [if_pos aG]
   simp only [BitVec.getLsbD_or,BitVec.getLsbD_ushiftRight,BitVec.getLsbD_shiftLeft]
   by_cases ay:j + n < 64
   ·rw [if_pos ay]
    have:j < 64 - n:=by omega
    simp [this,Nat.add_comm]
   ·rw [if_neg ay,BitVec.getLsbD_of_ge _ (n + j) (by omega)]
    have: ¬ (j < 64 - n):=by omega
    simp only [aG,this,decide_true,decide_false,Bool.true_and,Bool.not_false,Bool.false_or]
    congr 1; omega
  ·rw [if_neg aG,if_neg (by omega)]
   simp only [BitVec.getLsbD_ushiftRight]
   congr 1; omega
theorem Vo (v:aA) (i:Int):bC (tU v i) (fun r=>r=(decide (0≤i∧i < 128) && cx v i.toNat)):=by
 unfold tU
 refine .dd (P:=fun r=> ∀ j,j < 128→cx r j=cx v (j + i.toNat)) (fun h=> ?_) fun y a5=> .eq rfl (.ret ?_)
 ·simp at h
  obtain⟨n,rfl⟩:=Int.eq_ofNat_of_zero_le h.1
  exact LH v n (by omega)
 ·by_cases h:0≤i∧i < 128
  ·have J:(decide (i≥0) && decide (i < 128))=true:=by simp; omega
   rw [J,Ml]
   have:=a5 J 0 (by omega)
   rw [show cx y 0=y.b2.getLsbD 0 from rfl,Nat.zero_add] at this
   rw [this,decide_eq_true h]
  ·have J:(decide (i≥0) && decide (i < 128))=false:=by simp; omega
   simp [J,h]
def PW (w:Vector aA 4) (i:Nat):Bool:=cx (b7 w (i / 128)) (127 - i % 128)
def cell (val mask:Vector aA 4) (i:Nat):BitVec 8:=if PW mask i then(if PW val i then 1#8 else 0#8) else 2#8
theorem UC (x y:aA):bC (zi x y) (fun r=> ∀ j,j < 128→cx r j=(cx x j ^^ cx y j)):=⟨_,xor_eq x y,fun j _=>UB x y j⟩
theorem Mo (n:Int):bC (wJ n) (fun r=> ∀ j,j < 128→cx r j=decide ((j:Int) < n)):=by
 unfold wJ wE
 refine .eq rfl (.eq rfl ?_)
 have hm:bA (128 - min (max 0 n) 128)=((128 - min (max 0 n) 128).toNat:Int):=by rw [hA (by omega) (by omega)]; omega
 rw [hm]
 refine(LH _ _ (by omega)).bind fun r aS=> .ret fun j aG=> ?_
 rw [aS j aG]
 have j3:∀ i,cx { de:=18446744073709551615#64,b2:=18446744073709551615#64 } i=decide (i < 128):=by
  intro i
  have a9:(18446744073709551615#64)=BitVec.allOnes 64:=by rfl
  unfold cx
  simp only [a9,BitVec.getLsbD_allOnes]
  by_cases h:i < 64
  ·simp [h]; omega
  ·simp [h]; omega
 rw [j3,decide_eq_decide]; omega
def val (w:Nat):Nat→ (Nat→Nat)→Nat
 | 0,_=>0
 | n + 1,d=>d 0 + 2 ^ w * val w n (fun k=>d (k + 1))
def rH:List Int:= [16,16,8,4,4,8,32,12,4]
theorem dQ.xW {s:a1} (h:dQ s) {k:Nat} (au:k < 9):(aI s.gH k).bP=(k:Int) + 1∧ (aI s.gH k).ff=aI rH k:=by
 have J:=Dm AH (l:=s.gH) (k:=k) (by rw [h.xD]; exact au)
 rw [h.fields] at J
 have ad:aI IA k=((k:Int) + 1,aI rH k):=by
  have:k=0∨k=1∨k=2∨k=3∨k=4∨k=5∨k=6∨k=7∨k=8:=by omega
  rcases this with rfl | rfl | rfl | rfl | rfl | rfl | rfl | rfl | rfl <;> rfl
 rw [ad] at J
 simp only [AH,Prod.mk.injEq] at J
 exact⟨J.1.symm,J.2.symm⟩
def tc:List (List Int):= [[],[],[16],[4],[4,12],[]]
theorem dQ.act {s:a1} (h:dQ s) {k:Nat} (au:k < 6):(aI s.dP k).bP=(k:Int) + 1∧ (aI s.dP k).jX.map (·.ff)=aI tc k:=by
 have J:=Dm pg (l:=s.dP) (k:=k) (by rw [h.OI]; exact au)
 rw [h.He] at J
 have ad:aI xC k=((k:Int) + 1,aI tc k):=by
  have:k=0∨k=1∨k=2∨k=3∨k=4∨k=5:=by omega
  rcases this with rfl | rfl | rfl | rfl | rfl | rfl <;> rfl
 rw [ad] at J
 simp only [pg,Prod.mk.injEq] at J
 exact⟨J.1.symm,J.2.symm⟩
def nd (key:cM):Prop:= ∃ j:Nat,j < 9∧key.gC=(j:Int) + 1∧1≤key.dp∧key.dp≤4∧4≤aI rH j∧aI rH j≤32∧ (key.dp=2→j=6)
def oX (key:cM):Int:=aI rH (key.gC - 1).toNat
theorem dQ.lg {s:a1} (h:dQ s) {k:Nat} (au:k < 4):(aI s.b1 k).bP=(k:Int) + 1∧
 (1≤ (aI s.b1 k).cO.length∧ (aI s.b1 k).cO.length≤3)∧ (∀ key∈ (aI s.b1 k).cO,nd key)∧
 (1≤ (aI s.b1 k).dP.length∧ (aI s.b1 k).dP.length≤5)∧ (∀ a∈ (aI s.b1 k).dP,1≤a∧a≤6):=by
 obtain⟨dE,dU,hz,bJ⟩:=h.tables
 have J:=Dm nc (l:=s.b1) (k:=k) (by rw [h.l9]; exact au)
 rw [bJ] at J
 have ad:∀ p:Int × List Int × List cM,p=nc (aI s.b1 k)→p.1=(k:Int) + 1→ (1≤p.2.2.length∧p.2.2.length≤3)→ (∀ key∈p.2.2,nd key)→
  (1≤p.2.1.length∧p.2.1.length≤5)→ (∀ a∈p.2.1,1≤a∧a≤6)→ (aI s.b1 k).bP=(k:Int) + 1∧
  (1≤ (aI s.b1 k).cO.length∧ (aI s.b1 k).cO.length≤3)∧ (∀ key∈ (aI s.b1 k).cO,nd key)∧
  (1≤ (aI s.b1 k).dP.length∧ (aI s.b1 k).dP.length≤5)∧ (∀ a∈ (aI s.b1 k).dP,1≤a∧a≤6):=by
  rintro p rfl a b c d e
  exact⟨a,b,c,d,e⟩
 have h7:(1≤ ([1,2,4]:List Int).length∧ ([1,2,4]:List Int).length≤5)∧ ∀ a∈ ([1,2,4]:List Int),1≤a∧a≤6:=by decide
 have cN:(1≤ ([1,2,3,4]:List Int).length∧ ([1,2,3,4]:List Int).length≤5)∧ ∀ a∈ ([1,2,3,4]:List Int),1≤a∧a≤6:=by decide
 have cF:(1≤ ([1,2,3,5,6]:List Int).length∧ ([1,2,3,5,6]:List Int).length≤5)∧ ∀ a∈ ([1,2,3,5,6]:List Int),1≤a∧a≤6:=by decide
 have fL:(1≤ ([1,3,5]:List Int).length∧ ([1,3,5]:List Int).length≤5)∧ ∀ a∈ ([1,3,5]:List Int),1≤a∧a≤6:=by decide
 have Xm:nd sj:=⟨3,by decide,rfl,by decide,by decide,by decide,by decide,by decide⟩
 have MY:nd BW:=⟨3,by decide,rfl,by decide,by decide,by decide,by decide,by decide⟩
 have Xn:nd JZ:=⟨4,by decide,rfl,by decide,by decide,by decide,by decide,by decide⟩
 have H7:nd v7:=⟨6,by decide,rfl,by decide,by decide,by decide,by decide,by decide⟩
 have Xo:nd JY:=⟨2,by decide,rfl,by decide,by decide,by decide,by decide,by decide⟩
 have NX:nd Cd:=⟨5,by decide,rfl,by decide,by decide,by decide,by decide,by decide⟩
 have NY:nd Ce:=⟨7,by decide,rfl,by decide,by decide,by decide,by decide,by decide⟩
 have Xp:nd J0:=⟨8,by decide,rfl,by decide,by decide,by decide,by decide,by decide⟩
 have:k=0∨k=1∨k=2∨k=3:=by omega
 rcases this with rfl | rfl | rfl | rfl
 ·refine ad _ J rfl (show 1≤ [sj].length∧ [sj].length≤3 by decide) ?_ h7.1 h7.2
  intro key j5
  rcases List.mem_singleton.1 j5 with rfl
  exact Xm
 ·refine ad _ J rfl ?_ ?_ cN.1 cN.2
  ·show 1≤ (sX dE).length∧ (sX dE).length≤3
   cases dE <;> decide
  ·intro key j5
   replace j5:key∈sX dE:=j5
   cases dE <;> simp only [sX,List.mem_cons,List.not_mem_nil,or_false,if_true,if_false,Bool.false_eq_true] at j5
   ·subst j5; exact H7
   ·rcases j5 with rfl | rfl; exact H7; exact Xo
 ·refine ad _ J rfl ?_ ?_ cF.1 cF.2
  ·show 1≤ (u1 dU).length∧ (u1 dU).length≤3
   cases dU <;> decide
  ·intro key j5
   replace j5:key∈u1 dU:=j5
   cases dU <;> simp only [u1,List.mem_cons,List.not_mem_nil,or_false,if_true,if_false,Bool.false_eq_true] at j5
   ·rcases j5 with rfl | rfl; exact NX; exact MY
   ·rcases j5 with rfl | rfl | rfl; exact NX; exact MY; exact Xn
 ·refine ad _ J rfl ?_ ?_ fL.1 fL.2
  ·show 1≤ (u2 hz).length∧ (u2 hz).length≤3
   cases hz <;> decide
  ·intro key j5
   replace j5:key∈u2 hz:=j5
   cases hz <;> simp only [u2,List.mem_cons,List.not_mem_nil,or_false,if_true,if_false,Bool.false_eq_true] at j5
   ·subst j5; exact NY
   ·rcases j5 with rfl | rfl | rfl; exact NY; exact Xp; exact H7
theorem SB {s:a1} (h:dQ s) {j:Nat} (aG:j < 9):bC (y8 s ((j:Int) + 1)) (fun r=>r=aI rH j):=by
 unfold y8
 have ao:=h.xD
 refine bC.loop j (fun k s=>s=(k:Int)) (by omega) rfl (fun k i au ar=> ?_) (fun i ar=> ?_)
 ·subst ar
  refine bC.cond (fun _=> ?_) (fun h=>by simp at h; omega)
  refine .idx rfl (by omega) (.cond (fun ak=> ?_) (fun ak=> .ret (gT (by omega))))
  have:=(h.xW (show k < 9 by omega)).1
  simp only [this,beq_iff_eq] at ak
  omega
 ·subst ar
  have J:decide ((j:Int) < (s.gH.length:Int))=true:=by simp; omega
  have ad:((aI s.gH j).bP ==(j:Int) + 1)=true:=by rw [(h.xW aG).1]; simp
  rw [J]
  simp only [cond_true]
  rw [ox (by omega)]
  simp only [Option.bind_some,ad,cond_true]
  exact⟨_,rfl,.ret (h.xW aG).2⟩
theorem Se {s:a1} (h:dQ s) {j:Nat} (aG:j < 6):bC (yW s ((j:Int) + 1)) (fun r=>r=aI s.dP j):=by
 unfold yW
 have ao:=h.OI
 refine bC.loop j (fun k s=>s=(k:Int)) (by omega) rfl (fun k i au ar=> ?_) (fun i ar=> ?_)
 ·subst ar
  refine bC.cond (fun _=> ?_) (fun h=>by simp at h; omega)
  refine .idx rfl (by omega) (.cond (fun ak=> ?_) (fun ak=> .ret (gT (by omega))))
  have:=(h.act (show k < 6 by omega)).1
  simp only [this,beq_iff_eq] at ak
  omega
 ·subst ar
  have J:decide ((j:Int) < (s.dP.length:Int))=true:=by simp; omega
  have ad:((aI s.dP j).bP ==(j:Int) + 1)=true:=by rw [(h.act aG).1]; simp
  rw [J]
  simp only [cond_true]
  rw [ox (by omega)]
  simp only [Option.bind_some,ad,cond_true]
  exact⟨_,rfl,.ret rfl⟩
theorem zE {n:Nat} (aP:n < 64) (j:Nat):(((1#64) <<< n) - 1#64).getLsbD j=decide (j < n):=by
 have J:(((1#64) <<< n) - 1#64).toNat=2 ^ n - 1:=by
  have ad:((1#64) <<< n).toNat=2 ^ n:=by
   rw [BitVec.toNat_shiftLeft,BitVec.toNat_ofNat,Nat.shiftLeft_eq]
   have:=Nat.pow_lt_pow_right (show 1 < 2 by omega) aP
   rw [show(1 % 2 ^ 64:Nat)=1 from rfl,Nat.one_mul]
   exact Nat.mod_eq_of_lt this
  have ay:1≤2 ^ n:=Nat.one_le_two_pow
  have aU:=Nat.pow_lt_pow_right (show 1 < 2 by omega) aP
  rw [BitVec.toNat_sub,ad]
  simp only [BitVec.toNat_ofNat]
  omega
 rw [← BitVec.testBit_toNat,J,Nat.testBit_two_pow_sub_one]
theorem Hz (x:aA) (n:Int) (bG:0≤n) (J:n < 1000):bC (tT x n) (fun r=> ∀ j,j < 128→cx r j=(cx x j && decide ((j:Int) < n))):=by
 unfold tT
 obtain⟨m,rfl⟩:=Int.eq_ofNat_of_zero_le bG
 refine .cond (fun h=> .ret fun j aG=> ?_) fun h=> .cond (fun cX=> .eq rfl (.ret fun j aG=> ?_)) fun cX=> .cond (fun Jp=> .ret fun j aG=> ?_) fun Jp=> .eq rfl (.eq rfl (.ret fun j aG=> ?_))
 ·simp only [decide_eq_true_eq] at h
  have:decide ((j:Int) < (m:Int))=true:=by simp; omega
  rw [this,Bool.and_true]
 ·simp only [decide_eq_true_eq,decide_eq_false_iff_not] at h cX
  have e:bA ((m:Int) - 64)=((m - 64:Nat):Int):=by rw [hA (by omega) (by omega)]; omega
  simp only [cx,e,p8 (show m - 64 < 2 ^ 64 by omega),BitVec.getLsbD_and,zE (show m - 64 < 64 by omega)]
  split
  ·have:decide ((j:Int) < (m:Int))=true:=by simp; omega
   rw [this,Bool.and_true]
  ·congr 1; rw [decide_eq_decide]; omega
 ·simp only [decide_eq_true_eq] at Jp
  have:decide ((j:Int) < (m:Int))=false:=by simp; omega
  rw [zM,this,Bool.and_false]
 ·simp only [decide_eq_true_eq,decide_eq_false_iff_not] at h cX Jp
  simp only [cx,p8 (show m < 2 ^ 64 by omega),BitVec.getLsbD_and,zE (show m < 64 by omega)]
  split
  ·congr 1; rw [decide_eq_decide]; omega
  ·have:decide ((j:Int) < (m:Int))=false:=by simp; omega
   rw [this,Bool.and_false]; exact BitVec.getLsbD_zero
theorem NZ (w:BitVec 64) (j:Nat):cx { (default:aA) with b2:=w } j=w.getLsbD j:=by
 unfold cx
 split
 ·rfl
 ·rw [BitVec.getLsbD_of_ge w j (by omega)]; exact BitVec.getLsbD_zero
structure oD (kind b:Int) (m:bR):Prop where
 off:m.fO=false→m=default
 Pv:kind=1→m.fO=true
 low:kind=1→ ∀ j,j < 128→cx m.c6 j=true→ (j:Int) < b
 abi:kind=3→ ∀ j,j < 128→cx m.gU j=true→ (j:Int) < b
 abj:kind=3→ ∀ j,j < 128→cx m.c6 j=true→cx m.gU j=true
 pre:0≤m.fU∧m.fU≤32
 Pw:kind=2→m.fO=true→1≤m.fU
 Px:kind≠2→m.fU=0
 fX:kind≠3→m.gU=default
 abk:kind=3→m.fO=true→m.gU≠default
 abl:kind=4→m.fO=true→m.c6.de=m.k4.de∧m.c6.b2≤m.k4.b2
 Jq:kind=2→ ∀ j,j < 128→cx m.c6 j=true→32 - m.fU≤ (j:Int)∧j < 32
 Fa:kind≠4→m.k4=default
theorem Ba:(0:Int)≤0∧ (0:Int)≤32:=⟨Int.le_refl 0,by decide⟩
theorem Gz {kind b:Int} (h:kind≠1):oD kind b default:=
 ⟨fun _=>rfl,fun k=>absurd k h,fun k=>absurd k h,fun _ j _ a6=>(by rw [show(default:bR).gU=default from rfl,zM] at a6; cases a6),
  fun _ j _ a6=>(by rw [show(default:bR).c6=default from rfl,zM] at a6; cases a6),
  Ba,fun _ k=>(by cases k),fun _=>rfl,fun _=>rfl,fun _ k=>(by cases k),fun _ k=>(by cases k),
  fun _ j _ a6=>(by rw [show(default:bR).c6=default from rfl,zM] at a6; cases a6),fun _=>rfl⟩
theorem UD {a x y:BitVec 64} (J:a≤x) (ad:a≤y):a≤vf x y:=by
 unfold vf; split <;> assumption
theorem UE {v:aA} {b c:Int} (hb:0≤b∧b≤32) (ak:0≤c∧c < 256) (a6:∀ j,j < 128→cx v j=true→ (j:Int) < b):
 v.de=0#64∧v.b2≤vf (v.b2 + BitVec.ofInt 64 c) (((1#64) <<< (BitVec.ofInt 64 b).toNat) - (1#64)):=by
 have dm:v.de=0#64:=by
  apply BitVec.eq_of_getLsbD_eq
  intro i ar
  have h:=a6 (64 + i) (by omega)
  unfold cx at h
  rw [if_neg (by omega),Nat.add_sub_cancel_left] at h
  rw [BitVec.getLsbD_zero]
  cases al:v.de.getLsbD i
  ·rfl
  ·have:=h al; omega
 obtain⟨n,rfl⟩:=Int.eq_ofNat_of_zero_le hb.1
 have aP:n≤32:=by omega
 have Jg:(BitVec.ofInt 64 (n:Int)).toNat=n:=p8 (by omega)
 rw [Jg]
 have N0:v.b2≤ ((1#64) <<< n) - 1#64:=by
  have hand:v.b2 &&& (((1#64) <<< n) - 1#64)=v.b2:=by
   apply BitVec.eq_of_getLsbD_eq
   intro i ar
   rw [BitVec.getLsbD_and,zE (by omega)]
   have h:=a6 i (by omega)
   unfold cx at h
   rw [if_pos ar] at h
   cases al:v.b2.getLsbD i
   ·rfl
   ·have:=h al
    simp; omega
  rw [← hand]
  rw [BitVec.le_def,BitVec.toNat_and]
  exact Nat.and_le_right
 have tv:(((1#64) <<< n) - 1#64).toNat < 2 ^ 33:=by
  have Fb:(((1#64) <<< n) - 1#64) &&& (((1#64) <<< 32) - 1#64)=(((1#64) <<< n) - 1#64):=by
   apply BitVec.eq_of_getLsbD_eq
   intro i ar
   rw [BitVec.getLsbD_and,zE (by omega),zE (by omega)]
   simp; omega
  rw [← Fb,BitVec.toNat_and]
  exact Nat.lt_of_le_of_lt Nat.and_le_right (by decide)
 refine⟨dm,UD ?_ N0⟩
 rw [BitVec.le_def] at N0 ⊢
 obtain⟨m,rfl⟩:=Int.eq_ofNat_of_zero_le ak.1
 rw [BitVec.toNat_add,p8 (by omega),Nat.mod_eq_of_lt (by omega)]
 omega
theorem TR (x:BitVec 64) {n:Int} (J:1≤n) (ad:n≤32) {i:Nat} (ar:i < 128)
 (a6:cx { (default:aA) with b2:=x &&& ((((1#64) <<< (BitVec.ofInt 64 32).toNat) - (1#64)) - (((1#64) <<< (BitVec.ofInt 64 (bA (32 - n))).toNat) - (1#64))) } i=true):32 - n≤ (i:Int)∧i < 32:=by
 rw [NZ,BitVec.getLsbD_and,Bool.and_eq_true] at a6
 have ay:=a6.2
 obtain⟨k,au⟩:=Int.eq_ofNat_of_zero_le (show 0≤32 - n by omega)
 have cS:k < 32:=by omega
 have e:bA (32 - n)=(k:Int):=by rw [au,hA (by omega) (by omega)]
 rw [e,p8 (by omega)] at ay
 have Jr:i < 64:=by
  rcases Nat.lt_or_ge i 64 with h | h
  ·exact h
  ·rw [BitVec.getLsbD_of_ge _ i h] at ay; cases ay
 have key:∀ (k:Fin 32) (i:Fin 64),((((1#64) <<< (BitVec.ofInt 64 32).toNat) - (1#64)) - (((1#64) <<< k.1) - (1#64))).getLsbD i.1=true→k.1≤i.1∧i.1 < 32:=by decide +kernel
 have:=key ⟨k,cS⟩ ⟨i,Jr⟩ ay
 simp only at this
 omega
theorem S8 (c:bf) {s:a1} (key:cM) (ak:hC c) (h:dQ s) (au:nd key):
 bC (yH c s key) (fun r=>hC r.2∧oD key.dp (oX key) r.1):=by
 obtain⟨j,aG,a8,bj,ht,Fv,Z8,cS⟩:=au
 have hb:oX key=aI rH j:=by unfold oX; rw [a8]; congr 1; omega
 unfold yH
 rw [a8]
 refine(SB h aG).bind fun aB aF=> ?_
 rw [hb]
 subst aF
 generalize gX:aI rH j=b at *
 refine .bind (gf _ 256 ak (by omega)) fun aH ad=> .bind (gf _ 16 ad.1 (by omega)) fun bn ay=> .eq rfl (.bind (gf _ 16 ay.1 (by omega)) fun bD aU=> .eq rfl ?_)
 refine .bind (Hz _ b (by omega) (by omega)) fun b0 a0=> ?_
 refine .cond (fun q=> ?_) fun q=> ?_
 ·have q:key.dp=2:=by simpa using q
  refine .bind (gf _ 5 aU.1 (by omega)) fun cl bl=> .cond (fun _=> ?_) fun _=> .ret ⟨bl.1,Gz (by omega)⟩
  refine .bind (gf _ b bl.1 (by omega)) fun bg cP=> .bind (gf _ 5 cP.1 (by omega)) fun fe eL=> ?_
  refine .eq (uu eL.2.1 (by simpa using eL.2.2.1)) ?_
  have iz:1≤aI [b,8,16,1,bA (1 + bg.1)] fe.1.toNat∧aI [b,8,16,1,bA (1 + bg.1)] fe.1.toNat≤32:=by
   have cb:fe.1.toNat < [b,8,16,1,bA (1 + bg.1)].length:=by have:=eL.2.1; have:=eL.2.2.1; simp; omega
   have hm:=List.getElem_mem cb
   rw [← eV _ cb] at hm
   have hw:bA (1 + bg.1)=1 + bg.1:=hA (by have:=cP.2.1; omega) (by have:=cP.2.2.1; omega)
   have:=cP.2.1; have:=cP.2.2.1
   simp only [List.mem_cons,List.not_mem_nil,or_false] at hm
   rcases hm with hm | hm | hm | hm | hm <;> rw [hm] <;> omega
  unfold CY
  refine .eq rfl (.eq rfl (.eq rfl (.ret ⟨eL.1,fun h=>(by cases h),fun h=>(by omega),fun h=>by omega,fun h=>(by omega),fun h=>(by omega),⟨by have:=iz.1; show 0≤aI _ _; omega,iz.2⟩,fun _ _=>iz.1,fun h=>absurd q h,fun _=>rfl,fun h=>(by omega),fun h=>(by omega),fun _ i ar a6=> ?_,fun _=>rfl⟩)))
  have Fb:b=32:=by rw [← gX,cS q]; rfl
  rw [Fb] at iz a6
  rw [Fb]
  exact TR _ iz.1 iz.2 ar a6
 refine .cond (fun cr=> ?_) fun cr=> ?_
 ·have cr:key.dp=3:=by simpa using cr
  refine .bind (gf _ 256 aU.1 (by omega)) fun fJ jt=> .bind (gf _ 5 jt.1 (by omega)) fun jN qy=> ?_
  refine .eq (uu qy.2.1 (by simpa using qy.2.2.1)) (.eq rfl (.bind (Hz _ b (by omega) (by omega)) fun hG vQ=> ?_))
  refine .cond (fun Js=> ?_) fun _=> .ret ⟨qy.1,Gz (by omega)⟩
  refine .eq rfl (.eq rfl (.ret ⟨qy.1,fun h=>(by cases h),fun h=>(by omega),fun h=>by omega,fun _ i ar a6=> ?_,fun _ i ar a6=> ?_,Ba,fun h=>(by omega),fun _=>rfl,fun h=>absurd cr h,fun _ _ hd=> ?_,fun h=>(by omega),fun h=>(by omega),fun _=>rfl⟩))
  ·have n9:=vQ i ar
   simp only at a6
   rw [a6] at n9
   have:=n9.symm
   simp only [Bool.and_eq_true,decide_eq_true_eq] at this
   exact this.2
  ·simp only at a6 ⊢
   rw [NZ,BitVec.getLsbD_and,Bool.and_eq_true] at a6
   have Jr:i < 64:=by
    rcases Nat.lt_or_ge i 64 with h | h
    ·exact h
    ·rw [BitVec.getLsbD_of_ge _ i h] at a6; cases a6.1
   unfold cx; rw [if_pos Jr]; exact a6.2
  ·have hd':hG=default:=hd
   rw [hd'] at Js; simp at Js
   exact Js rfl
 refine .cond (fun mh=> ?_) fun mh=> ?_
 ·have mh:key.dp=4:=by simpa using mh
  refine .bind (gf _ 256 aU.1 (by omega)) fun h6 n9=> .eq rfl (.bind (gf _ 5 n9.1 (by omega)) fun iW oP=> .eq rfl (.cond (fun _=> ?_) fun _=> .ret ⟨oP.1,Gz (by omega)⟩))
  have Fc:=UE (v:=b0) (b:=b) (c:=h6.1) ⟨by omega,Z8⟩ ⟨n9.2.1,n9.2.2.1⟩ fun i ar a6=>by
   have E9:=a0 i ar
   rw [a6] at E9
   have:=E9.symm
   simp only [Bool.and_eq_true,decide_eq_true_eq] at this
   exact this.2
  exact .eq rfl (.ret ⟨oP.1,fun h=>(by cases h),fun h=>(by omega),fun h=>by omega,fun h=>(by omega),fun h=>(by omega),Ba,fun h=>(by omega),fun _=>rfl,fun _=>rfl,fun h=>(by omega),fun _ _=>Fc,fun h=>(by omega),fun h=>absurd mh h⟩)
 ·have ax:key.dp=1:=by
   simp only [beq_eq_false_iff_ne] at q cr mh
   omega
  refine .eq rfl (.ret ⟨aU.1,fun h=>(by cases h),fun _=>rfl,fun _ i ar a6=> ?_,fun h=>(by omega),fun h=>(by omega),Ba,fun h=>(by omega),fun _=>rfl,fun _=>rfl,fun h=>(by omega),fun h=>(by omega),fun h=>(by omega),fun _=>rfl⟩)
  have n9:=a0 i ar
  simp only at a6
  rw [a6] at n9
  have:=n9.symm
  simp only [Bool.and_eq_true,decide_eq_true_eq] at this
  exact this.2
structure jr (s:a1) (k:Nat) (e:bh):Prop where
 lg:e.bo=(k:Int) + 1
 len:e.cZ.length=(aI s.b1 k).cO.length
 BX:∀ i,i < (aI s.b1 k).cO.length→oD (aI (aI s.b1 k).cO i).dp (oX (aI (aI s.b1 k).cO i)) (aI e.cZ i)
 args:e.h0.length≤10
 pri:(∀ i,i < (aI s.b1 k).cO.length→ (aI (aI s.b1 k).cO i).dp≤2)→e.g8=0
theorem GA {α:Type} [Inhabited α] (l:List α) (x:α) (i:Nat):aI (l ++ [x]) i=if i=l.length then x else aI l i:=by
 unfold aI
 by_cases h:i=l.length
 ·subst h; simp
 ·rw [if_neg h]
  rcases Nat.lt_or_ge i l.length with J | J
  ·rw [List.getElem?_append_left J]
  ·rw [List.getElem?_eq_none (by simp; omega),List.getElem?_eq_none J]
theorem S9 (c:bf) {s:a1} (x:Int) (ak:hC c) (h:dQ s):
 bC (yI c s x) (fun r=>hC r.2∧ ∃ k:Nat,k < 4∧wM x (s.b1.length:Int)=some (k:Int)∧jr s k r.1):=by
 unfold yI
 obtain⟨aB,aF,bG,J⟩:=Uz x (s.b1.length:Int) (by rw [h.l9]; omega) (by rw [h.l9]; omega)
 obtain⟨k,rfl⟩:=Int.eq_ofNat_of_zero_le bG
 have au:k < 4:=by have:=h.l9; omega
 obtain⟨t1,⟨t2,t3⟩,t4,⟨t5,t6⟩,t7⟩:=h.lg au
 refine .eq aF (.idx rfl (by have:=h.l9; omega) ?_)
 refine bC.loop (aI s.b1 k).cO.length (fun i st=>st.1=(i:Int)∧st.2.1.bo=(k:Int) + 1∧st.2.2.1.length=i∧hC st.2.2.2∧
  (∀ j,j < i→oD (aI (aI s.b1 k).cO j).dp (oX (aI (aI s.b1 k).cO j)) (aI st.2.2.1 j))∧ ((∀ j,j < i→ (aI (aI s.b1 k).cO j).dp≤2)→st.2.1.g8=0)) (by omega) ⟨rfl,t1,rfl,ak,fun j aG=>by omega,fun _=>rfl⟩ (fun i st ar hs=> ?_) (fun st hs=> ?_)
 ·obtain⟨Cg,e,ms,Cf⟩:=st; obtain⟨aR,dh,iQ,mj,v3,Ch⟩:=hs
  simp only at aR dh iQ mj v3 Ch; subst aR
  refine bC.cond (fun _=> ?_) (fun h=>by simp at h; omega)
  refine .idx rfl ar (.bind (S8 _ _ mj h (t4 _ (by rw [eV _ ar]; exact List.getElem_mem ar))) fun aH ad=> .eq (kh _ _ (by simp; omega) (by omega)) (.eq rfl ?_))
  refine .bind (P:=fun m=>m.1.bo=(k:Int) + 1∧hC m.2∧ ((aI (aI s.b1 k).cO i).dp≤2→m.1.g8=e.g8)) (.cond (fun df=> .bind (gf _ 5 ad.1 (by omega)) fun bD aU=> .eq rfl (.ret ⟨dh,aU.1,fun h=>by simp at df; omega⟩)) (fun _=> .ret ⟨dh,ad.1,fun _=>rfl⟩)) fun bB cV=> ?_
  refine .ret ⟨gT (by omega),cV.1,by simp; omega,cV.2.1,fun j aG=> ?_,fun h=> ?_⟩
  ·simp only [GA]
   by_cases nr:j=ms.length
   ·rw [if_pos nr]; rw [nr,iQ]; exact ad.2
   ·rw [if_neg nr]; exact v3 j (by omega)
  ·exact(cV.2.2 (h i (by omega))).trans (Ch fun j aG=>h j (by omega))
 ·obtain⟨Cg,e,ms,Cf⟩:=st; obtain⟨aR,dh,iQ,mj,v3,Ch⟩:=hs
  simp only at aR dh iQ mj v3 Ch; subst aR
  refine⟨_,by simp; rfl,?_⟩
  refine .bind (gf _ _ mj (by omega)) fun b0 a0=> ?_
  refine .eq (uu a0.2.1 a0.2.2.1) (.eq rfl ?_)
  have bd:1≤aI (aI s.b1 k).dP b0.1.toNat∧aI (aI s.b1 k).dP b0.1.toNat≤6:=t7 _ (by
   have cb:b0.1.toNat < (aI s.b1 k).dP.length:=by have:=a0.2.1; have:=a0.2.2.1; omega
   rw [eV _ cb]; exact List.getElem_mem cb)
  obtain⟨a,gv⟩:=Int.eq_ofNat_of_zero_le (show 0≤aI (aI s.b1 k).dP b0.1.toNat - 1 by omega)
  have Z9:aI (aI s.b1 k).dP b0.1.toNat=(a:Int) + 1:=by omega
  simp only [Z9]
  refine .bind (Se h (show a < 6 by omega)) fun cl bl=> ?_
  obtain⟨aW,a2⟩:=h.act (show a < 6 by omega)
  rw [← bl] at a2
  have hp:cl.jX.length≤10∧ ∀ i,i < cl.jX.length→0≤ (aI cl.jX i).ff∧ (aI cl.jX i).ff < 1000:=by
   have hq:∀ l∈tc,l.length≤10∧ ∀ b∈l,0≤b∧b < 1000:=by decide
   have hm:aI tc a∈tc:=by rw [eV tc (show a < tc.length by simp [tc]; omega)]; exact List.getElem_mem _
   obtain⟨ax,et⟩:=hq _ hm
   rw [← a2] at ax et
   refine⟨by simpa using ax,fun i ar=>et _ ?_⟩
   rw [eV _ ar]
   exact List.mem_map.2 ⟨_,List.getElem_mem ar,rfl⟩
  refine bC.loop cl.jX.length (fun i st=>st.1=(i:Int)∧st.2.1.bo=(k:Int) + 1∧st.2.2.1.length=i∧hC st.2.2.2∧st.2.1.g8=e.g8) (by omega) ⟨rfl,dh,rfl,a0.1,rfl⟩ (fun i st ar hs=> ?_) (fun st hs=> ?_)
  ·obtain⟨Cg,e',vs,aaa⟩:=st; obtain⟨f2,f3,f4,f5,f6⟩:=hs
   simp only at f2 f3 f4 f5 f6; subst f2
   refine bC.cond (fun _=> ?_) (fun h=>by simp at h; omega)
   refine .idx rfl ar (.bind (gf _ 256 f5 (by omega)) fun bg cP=> .eq rfl (.bind (Hz _ _ (hp.2 i ar).1 (hp.2 i ar).2) fun fe eL=> .eq (kh _ _ (by have:=hp.1; simp; omega) (by omega)) (.ret ⟨gT (by have:=hp.1; omega),f3,by simp; omega,cP.1,f6⟩)))
  ·obtain⟨Cg,e',vs,aaa⟩:=st; obtain⟨f2,f3,f4,f5,f6⟩:=hs
   simp only at f2 f3 f4 f5 f6; subst f2
   refine⟨_,by simp; rfl,?_⟩
   exact .eq rfl (.ret ⟨f5,k,au,aF,f3,iQ,v3,by show vs.length≤10; have:=hp.1; omega,fun h=>f6.trans (Ch h)⟩)
structure aaX (s:a1) (r:Vector (List Int) 6):Prop where
 fields:b7 r 0=s.gH.map (·.bP)
 headers:b7 r 1=s.sv.map (·.bP)
 Vn:b7 r 2=s.ue.map (·.bP)
 He:b7 r 3=s.dP.map (·.bP)
 tables:b7 r 4=s.b1.map (·.bP)
 Xj:b7 r 5=s.nI.map (·.bP)
theorem Q3 {xs:List bQ} {f:bQ→Option Bool} {g:bQ→Bool} (a8:∀ x∈xs,f x=some (g x)) (ao:xs.length < 2 ^ 62):
 bC (yh xs f) (fun r=>(r= -1∧ ∀ x∈xs,g x=false)∨ ∃ i:Nat,i < xs.length∧r=i∧g (aI xs i)=true∧ ∀ j,j < i→g (aI xs j)=false):=by
 unfold yh
 refine bC.loop xs.length (fun k s=>s=(k:Int)∧ ∀ j,j < k→g (aI xs j)=false) (by omega) ⟨rfl,fun j aG=>by omega⟩ (fun k s au ar=> ?_) (fun s ar=> ?_)
 ·obtain⟨aF,aR⟩:=ar; subst aF
  refine bC.cond (fun _=> ?_) (fun h=>by simp at h; omega)
  refine .idx rfl au (.eq (a8 _ (by rw [eV xs au]; exact List.getElem_mem au)) (.cond (fun h=> .ret ?_) (fun h=> .ret ⟨gT (by omega),fun j aG=> ?_⟩)))
  ·exact .ret (.inr ⟨k,au,rfl,h,aR⟩)
  ·by_cases qx:j=k
   ·subst qx; exact h
   ·exact aR j (by omega)
 ·obtain⟨aF,aR⟩:=ar; subst aF
  refine⟨_,by simp; rfl,?_⟩
  refine .ret (.inl ⟨rfl,fun x al=> ?_⟩)
  obtain⟨j,aG,rfl⟩:=List.mem_iff_getElem.1 al
  rw [← eV xs aG]; exact aR j aG
theorem Q4 {xs:List fh} {f:fh→Option Bool} {g:fh→Bool} (a8:∀ x∈xs,f x=some (g x)) (ao:xs.length < 2 ^ 62):
 bC (yi xs f) (fun r=>(r= -1∧ ∀ x∈xs,g x=false)∨ ∃ i:Nat,i < xs.length∧r=i∧g (aI xs i)=true∧ ∀ j,j < i→g (aI xs j)=false):=by
 unfold yi
 refine bC.loop xs.length (fun k s=>s=(k:Int)∧ ∀ j,j < k→g (aI xs j)=false) (by omega) ⟨rfl,fun j aG=>by omega⟩ (fun k s au ar=> ?_) (fun s ar=> ?_)
 ·obtain⟨aF,aR⟩:=ar; subst aF
  refine bC.cond (fun _=> ?_) (fun h=>by simp at h; omega)
  refine .idx rfl au (.eq (a8 _ (by rw [eV xs au]; exact List.getElem_mem au)) (.cond (fun h=> .ret ?_) (fun h=> .ret ⟨gT (by omega),fun j aG=> ?_⟩)))
  ·exact .ret (.inr ⟨k,au,rfl,h,aR⟩)
  ·by_cases qx:j=k
   ·subst qx; exact h
   ·exact aR j (by omega)
 ·obtain⟨aF,aR⟩:=ar; subst aF
  refine⟨_,by simp; rfl,?_⟩
  refine .ret (.inl ⟨rfl,fun x al=> ?_⟩)
  obtain⟨j,aG,rfl⟩:=List.mem_iff_getElem.1 al
  rw [← eV xs aG]; exact aR j aG
theorem Ge {s:a1} (h:dQ s) {k:Nat} (au:k < 4):bC (tM s ((k:Int) + 1)) (fun r=>r=(k:Int)):=by
 unfold tM
 refine(Q3 (g:=fun t=>t.bP ==(k:Int) + 1) (fun x al=>rfl) (by rw [h.l9]; omega)).bind fun r aS=> .ret ?_
 have cS:k < s.b1.length:=by rw [h.l9]; exact au
 rcases aS with⟨_,aS⟩ | ⟨i,J,ad,ay,aU⟩
 ·have:=aS (aI s.b1 k) (by rw [eV _ cS]; exact List.getElem_mem cS)
  simp only [(h.lg au).1,beq_self_eq_true] at this; cases this
 ·have a0:=(h.lg (show i < 4 by have:=h.l9; omega)).1
  simp only [a0,beq_iff_eq] at ay; omega
theorem Sf {s:a1} (h:dQ s) {k:Nat} (au:k < 9):bC (yY s ((k:Int) + 1)) (fun r=>r=(k:Int)):=by
 unfold yY
 refine(Q4 (g:=fun t=>t.bP ==(k:Int) + 1) (fun x al=>rfl) (by rw [h.xD]; omega)).bind fun r aS=> .ret ?_
 have cS:k < s.gH.length:=by rw [h.xD]; exact au
 rcases aS with⟨_,aS⟩ | ⟨i,J,ad,ay,aU⟩
 ·have:=aS (aI s.gH k) (by rw [eV _ cS]; exact List.getElem_mem cS)
  simp only [(h.xW au).1,beq_self_eq_true] at this; cases this
 ·have a0:=(h.xW (show i < 9 by have:=h.xD; omega)).1
  simp only [a0,beq_iff_eq] at ay; omega
theorem Xq {key:cM} {j:Nat} (h:key.gC=(j:Int) + 1):oX key=aI rH j:=by unfold oX; rw [h]; congr 1; omega
def lead (n k:Int) (j:Nat):Bool:=decide ((j:Int) < n) && decide (n - max 0 (min k n)≤ (j:Int))
theorem SC (n k:Int) (bG:0≤n) (J:n≤128):bC (y3 n k) (fun r=> ∀ j,j < 128→cx r j=lead n k j):=by
 unfold y3 wE
 have e:min (max 0 n) 128=n:=by omega
 rw [e]
 have aR:bA (n - min (max 0 k) n)=n - min (max 0 k) n:=hA (by omega) (by omega)
 refine .eq rfl ((Mo n).bind fun a bd=> ?_)
 rw [aR]
 refine(Mo _).bind fun b hb=>(UC a b).bind fun r aS=> .ret fun j aG=> ?_
 rw [aS j aG,bd j aG,hb j aG]
 unfold lead
 by_cases p:(j:Int) < n
 ·rw [decide_eq_true p]
  by_cases q:(j:Int) < n - min (max 0 k) n
  ·rw [decide_eq_true q,decide_eq_false (by omega)]; rfl
  ·rw [decide_eq_false q,decide_eq_true (by omega)]; rfl
 ·rw [decide_eq_false p,decide_eq_false (by omega)]; rfl
theorem nd.oX {key:cM} (h:nd key):4≤Go.Proofs.YtmnggbjcnoffeaaGreat.oX key∧Go.Proofs.YtmnggbjcnoffeaaGreat.oX key≤32:=by
 obtain⟨j,aG,a8,_,_,J,ad,_⟩:=h
 rw [Xq a8]; exact⟨J,ad⟩
def pM (a b:aA):Bool:=decide (a.de < b.de) || (a.de ==b.de && decide (a.b2 < b.b2))
theorem Mp {a b:aA} :pM a b=true↔a.de < b.de∨ (a.de=b.de∧a.b2 < b.b2):=by simp [pM]
theorem KY (a:aA):pM a a=false:=by simp [pM]
theorem Lj {a b:aA} (h:pM a b=true):pM b a=false:=by
 rw [Bool.eq_false_iff]
 intro ad
 rw [Mp] at h ad
 simp only [BitVec.lt_def,BitVec.toNat_eq] at h ad
 omega
theorem SD {x y i:Nat} (J:x.testBit i=false) (ad:y.testBit i=true) (ay:∀ j,i < j→x.testBit j=y.testBit j):x < y:=by
 have aU:x / 2 ^ (i + 1)=y / 2 ^ (i + 1):=Nat.eq_of_testBit_eq fun j=>by
  rw [Nat.testBit_div_two_pow,Nat.testBit_div_two_pow]; exact ay _ (by omega)
 rw [Nat.testBit_eq_decide_div_mod_eq] at J ad
 simp only [decide_eq_false_iff_not,decide_eq_true_eq] at J ad
 rw [Nat.pow_succ,← Nat.div_div_eq_div_mul,← Nat.div_div_eq_div_mul] at aU
 have a0:x / 2 ^ i < y / 2 ^ i:=by omega
 exact Nat.lt_of_div_lt_div a0
theorem Mq {x y:BitVec 64} {i:Nat} (J:x.getLsbD i=false) (ad:y.getLsbD i=true) (ay:∀ j,i < j→j < 64→x.getLsbD j=y.getLsbD j):x < y:=by
 rw [BitVec.lt_def]
 refine SD J ad fun j aG=> ?_
 by_cases nr:j < 64
 ·exact ay j aG nr
 ·show x.getLsbD j=y.getLsbD j
  rw [BitVec.getLsbD_of_ge _ _ (by omega),BitVec.getLsbD_of_ge _ _ (by omega)]
theorem LI {a b:aA} {i:Nat} (ar:i < 128) (J:cx a i=false) (ad:cx b i=true) (ay:∀ j,i < j→j < 128→cx a j=cx b j):pM a b=true:=by
 rw [Mp]
 by_cases h:i < 64
 ·right
  unfold cx at J ad
  rw [if_pos h] at J ad
  constructor
  ·apply BitVec.eq_of_getLsbD_eq
   intro j aG
   have:=ay (j + 64) (by omega) (by omega)
   unfold cx at this
   rw [if_neg (by omega),if_neg (by omega)] at this
   simpa using this
  ·refine Mq J ad fun j aG nr=> ?_
   have:=ay j aG (by omega)
   unfold cx at this
   rwa [if_pos nr,if_pos nr] at this
 ·left
  unfold cx at J ad
  rw [if_neg h] at J ad
  refine Mq J ad fun j aG nr=> ?_
  have:=ay (j + 64) (by omega) (by omega)
  unfold cx at this
  rw [if_neg (by omega),if_neg (by omega)] at this
  simpa using this
theorem Sg (a b:aA):bC (qR a b) (fun r=>(r > 0↔pM b a=true)∧ (r < 0↔pM a b=true)):=by
 unfold qR
 refine(Mn a).bind fun x al=>(Mn b).bind fun y a5=> ?_
 refine bC.loop 128 (fun k s=>s=127 - (k:Int)∧ ∀ j,128≤j + k→j < 128→cx a j=cx b j) (by omega) ⟨rfl,fun j J ad=>by omega⟩ (fun k s au ar=> ?_) (fun s ar=> ?_)
 ·obtain⟨rfl,aR⟩:=ar
  refine bC.cond (fun _=> ?_) (fun h=>by simp at h; omega)
  have ns:(127 - (k:Int))=((127 - k:Nat):Int):=by omega
  have td:127 - k < 128:=by omega
  refine .idx ns td (.idx ns td ?_)
  rw [al _ td,a5 _ td]
  refine .cond (fun cH=> .idx ns td ?_) fun heq=> .ret ⟨?_,fun j J ad=> ?_⟩
  ·have heq:∀ j,127 - k < j→j < 128→cx a j=cx b j:=fun j J ad=>aR j (by omega) ad
   rw [a5 _ td]
   refine .cond (fun hb=> .ret (.ret ?_)) fun hb=> .ret (.ret ?_)
   ·have bd:cx a (127 - k)=false:=by rw [hb] at cH; simpa using cH
    have:=LI td bd hb heq
    exact⟨⟨fun h=>by simp at h,fun h=>by rw [Lj this] at h; cases h⟩,fun _=>this,fun _=>by simp⟩
   ·have bd:cx a (127 - k)=true:=by rw [hb] at cH; simpa using cH
    have:=LI td hb bd fun j J ad=>(heq j J ad).symm
    exact⟨⟨fun _=>this,fun _=>by simp⟩,fun h=>by simp at h,fun h=>by rw [Lj this] at h; cases h⟩
  ·rw [hA (by omega) (by omega)]; omega
  ·by_cases aG:j=127 - k
   ·subst aG; simpa using heq
   ·exact aR j (by omega) ad
 ·obtain⟨rfl,aR⟩:=ar
  refine⟨_,rfl,?_⟩
  have:a=b:=Hy fun j aG=>aR j (by omega) aG
  subst this
  refine .ret ⟨?_,?_⟩ <;> simp [KY]
end Go.Proofs.YtmnggbjcnoffeaaGreat
namespace Gv
structure r2 {α:Type} (b:α→α→Bool):Prop where
 asymm:∀ x y,b x y=true→b y x=false
 trans:∀ x y z,b x y=true→b y z=true→b x z=true
def ins {α:Type} (b:α→α→Bool):List α→α→List α
 | [],x=> [x]
 | a :: l,x=>if b a x=true then a :: ins b l x else x :: a :: l
def g1 {α:Type} (b:α→α→Bool) (l:List α):List α:=l.foldl (ins b) []
def ju {α:Type} (b:α→α→Bool):List α→α→Nat
 | [],_=>0
 | a :: l,x=>if b a x=true then ju b l x + 1 else 0
def r3 {α:Type} (b:α→α→Bool) (x y:α):Prop:=b x y=true∨b y x=true
variable {α:Type} {b:α→α→Bool}
theorem LJ (a:α) (l:List α) (x:α):ins b (a :: l) x=if b a x=true then a :: ins b l x else x :: a :: l:=rfl
theorem HA:∀ {l:List α} {x:α},ju b l x≤l.length
 | [],_=>Nat.le_refl _
 | a :: l,x=>by
   have:=HA (l:=l) (x:=x)
   unfold ju; split <;> simp <;> omega
theorem MZ:∀ (l:List α) (x:α),ins b l x=l.take (ju b l x) ++ x :: l.drop (ju b l x)
 | [],x=>rfl
 | a :: l,x=>by
   unfold ins ju
   split
   ·rw [MZ l x]; rfl
   ·rfl
theorem GR:∀ (l:List α) (x:α),(ins b l x).Perm (x :: l)
 | [],x=>List.Perm.refl _
 | a :: l,x=>by
   unfold ins
   split
   ·exact((GR l x).cons a).trans (List.Perm.swap x a l)
   ·exact List.Perm.refl _
theorem UF {l:List α} {x y:α} :y∈ins b l x↔y=x∨y∈l:=by
 rw [(GR l x).mem_iff]; simp
theorem Dx (l:List α) (x:α):g1 b (l ++ [x])=ins b (g1 b l) x:=by
 simp [g1,List.foldl_append]
theorem Hf (l:List α):(g1 b l).Perm l:=by
 have key:∀ (l m:List α),(l.foldl (ins b) m).Perm (m ++ l):=by
  intro l
  induction l with
  | nil=>intro m; simp
  | cons a l bH=>
    intro m
    refine(bH (ins b m a)).trans ?_
    refine((GR m a).append_right l).trans ?_
    exact(List.perm_middle (a:=a) (l₁:=m) (l₂:=l)).symm
 exact key l []
theorem sO {l:List α} {y:α} :y∈g1 b l↔y∈l:=(Hf l).mem_iff
theorem Vp {l:List α} :(g1 b l).length=l.length:=(Hf l).length_eq
theorem KZ (hb:r2 b):∀ {l:List α} {x:α},l.Pairwise (fun x y=>b x y=true)→ (∀ a∈l,r3 b a x)→ (ins b l x).Pairwise (fun x y=>b x y=true)
 | [],x,_,_=>by simp [ins]
 | a :: l,x,hs,bJ=>by
   obtain⟨J,ad⟩:=List.pairwise_cons.1 hs
   unfold ins
   split
   ·rename_i qz
    refine List.pairwise_cons.2 ⟨fun c ak=> ?_,KZ hb ad fun a bd=>bJ a (by simp [bd])⟩
    rcases UF.1 ak with rfl | ak
    ·exact qz
    ·exact J c ak
   ·rename_i qz
    have BY:b x a=true:=(bJ a (by simp)).resolve_left qz
    refine List.pairwise_cons.2 ⟨fun c ak=> ?_,hs⟩
    rcases List.mem_cons.1 ak with rfl | ak
    ·exact BY
    ·exact hb.trans _ _ _ BY (J c ak)
theorem Ta {l:List α} {x:α} (h:∀ c∈l,b c x=false):ins b l x=x :: l:=by
 cases l with
 | nil=>rfl
 | cons a l=>unfold ins; rw [if_neg (by simp [h a (by simp)])]
theorem K0 (hb:r2 b) {q:α→Bool} :∀ {l:List α} {x:α},l.Pairwise (fun x y=>b x y=true)→ (∀ a∈l,r3 b a x)→
 (ins b l x).filter q=if q x=true then ins b (l.filter q) x else l.filter q
 | [],x,_,_=>by
   show [x].filter q=if q x=true then [x] else []
   by_cases hp:q x=true
   ·simp [hp]
   ·simp only [Bool.not_eq_true] at hp; simp [hp]
 | a :: l,x,hs,bJ=>by
   obtain⟨J,ad⟩:=List.pairwise_cons.1 hs
   have bH:=K0 hb (q:=q) (x:=x) ad fun a bd=>bJ a (by simp [bd])
   rw [LJ]
   by_cases qz:b a x=true
   ·rw [if_pos qz]
    by_cases n8:q a=true
    ·rw [List.filter_cons_of_pos n8,List.filter_cons_of_pos n8,bH]
     by_cases hq:q x=true
     ·rw [if_pos hq,if_pos hq,LJ,if_pos qz]
     ·rw [if_neg hq,if_neg hq]
    ·rw [List.filter_cons_of_neg n8,List.filter_cons_of_neg n8,bH]
   ·rw [if_neg qz]
    have BY:b x a=true:=(bJ a (by simp)).resolve_left qz
    by_cases hq:q x=true
    ·rw [List.filter_cons_of_pos hq,if_pos hq,Ta]
     intro c ak
     have mR:=(List.mem_filter.1 ak).1
     refine hb.asymm _ _ ?_
     rcases List.mem_cons.1 mR with rfl | mR
     ·exact BY
     ·exact hb.trans _ _ _ BY (J c mR)
    ·rw [List.filter_cons_of_neg hq,if_neg hq]
def pw (b:α→α→Bool) (l:List α):Prop:=l.Pairwise (r3 b)
theorem r3.symm {x y:α} (h:r3 b x y):r3 b y x:=h.elim .inr .inl
theorem pw.snoc {l:List α} {x:α} (h:pw b (l ++ [x])):pw b l∧ ∀ a∈l,r3 b a x:=by
 unfold pw at *
 rw [List.pairwise_append] at h
 exact⟨h.1,fun a bd=>h.2.2 a bd x (by simp)⟩
theorem pw.perm {l m:List α} (h:pw b l) (p:l.Perm m):pw b m:=(p.pairwise_iff fun h=>h.symm).1 h
theorem LK {P:List α→Prop} (bG:P []) (J:∀ l x,P l→P (l ++ [x])) (l:List α):P l:=by
 have:∀ r:List α,P r.reverse:=by
  intro r
  induction r with
  | nil=>exact bG
  | cons a r bH=>rw [List.reverse_cons]; exact J _ _ bH
 have:=this l.reverse
 rwa [List.reverse_reverse] at this
theorem GB (hb:r2 b) {l:List α} (h:pw b l):(g1 b l).Pairwise (fun x y=>b x y=true):=by
 induction l using LK with
 | bG=>exact List.Pairwise.nil
 | J l x bH=>
   obtain⟨J,ad⟩:=h.snoc
   rw [Dx]
   exact KZ hb (bH J) fun a bd=>ad a (sO.1 bd)
theorem Tb (hb:r2 b) {q:α→Bool} {l:List α} (h:pw b l):(g1 b l).filter q=g1 b (l.filter q):=by
 induction l using LK with
 | bG=>rfl
 | J l x bH=>
   obtain⟨J,ad⟩:=h.snoc
   rw [Dx,K0 hb (GB hb J) fun a bd=>ad a (sO.1 bd),bH J,List.filter_append]
   by_cases hq:q x=true
   ·rw [if_pos hq,List.filter_cons_of_pos hq,List.filter_nil,Dx]
   ·rw [if_neg hq,List.filter_cons_of_neg hq,List.filter_nil,List.append_nil]
theorem HB [Inhabited α] (hb:r2 b):∀ {l:List α} {x:α} {k:Nat},l.Pairwise (fun x y=>b x y=true)→k < l.length→ (b (aI l k) x=true↔k < ju b l x)
 | [],x,k,_,au=>by simp at au
 | a :: l,x,k,hs,au=>by
   obtain⟨J,ad⟩:=List.pairwise_cons.1 hs
   unfold ju
   cases k with
   | zero=>
     have:aI (a :: l) 0=a:=rfl
     rw [this]
     split <;> simp_all
   | succ k=>
     have iX:k < l.length:=by simpa using au
     have he:aI (a :: l) (k + 1)=aI l k:=by rw [eV _ au,eV _ iX]; rfl
     rw [he,HB hb ad iX]
     split
     ·omega
     ·rename_i qz
      constructor
      ·intro cb
       have a0:=(HB hb ad iX).2 cb
       have bl:=J (aI l k) (by rw [eV _ iX]; exact List.getElem_mem _)
       exact absurd (hb.trans _ _ _ bl a0) qz
      ·intro h; omega
end Gv
namespace Go.Proofs.YtmnggbjcnoffeaaGreat
open Go Gv
theorem Ri {xs:List cM} {f:cM→Option Bool} {g:cM→Bool} (a8:∀ x∈xs,f x=some (g x)) (ao:xs.length < 2 ^ 62):
 bC (yj xs f) (fun r=>(r= -1∧ ∀ x∈xs,g x=false)∨ ∃ i:Nat,i < xs.length∧r=i∧g (aI xs i)=true∧ ∀ j,j < i→g (aI xs j)=false):=by
 unfold yj
 refine bC.loop xs.length (fun k s=>s=(k:Int)∧ ∀ j,j < k→g (aI xs j)=false) (by omega) ⟨rfl,fun j aG=>by omega⟩ (fun k s au ar=> ?_) (fun s ar=> ?_)
 ·obtain⟨aF,aR⟩:=ar; subst aF
  refine bC.cond (fun _=> ?_) (fun h=>by simp at h; omega)
  refine .idx rfl au (.eq (a8 _ (by rw [eV xs au]; exact List.getElem_mem au)) (.cond (fun h=> .ret ?_) (fun h=> .ret ⟨gT (by omega),fun j aG=> ?_⟩)))
  ·exact .ret (.inr ⟨k,au,rfl,h,aR⟩)
  ·by_cases qx:j=k
   ·subst qx; exact h
   ·exact aR j (by omega)
 ·obtain⟨aF,aR⟩:=ar; subst aF
  refine⟨_,by simp; rfl,?_⟩
  refine .ret (.inl ⟨rfl,fun x al=> ?_⟩)
  obtain⟨j,aG,rfl⟩:=List.mem_iff_getElem.1 al
  rw [← eV xs aG]; exact aR j aG
theorem _root_.Gv.bC.get {β:Type} {m:Option β} {v:β} (h:bC m (fun r=>r=v)):m=some v:=by
 obtain⟨r,J,rfl⟩:=h; exact J
def aab (kind b:Int) (m:bR) (x:aA):Bool:=
 if m.fO=false then true
 else if kind=1 then decide (x=m.c6)
 else if kind=2 then(List.range 128).all fun j=> !lead b m.fU j || (cx x j ==cx m.c6 j)
 else if kind=3 then decide (A9 x m.gU=m.c6)
 else !pM x m.c6 && !pM m.k4 x
def mt (s:a1) (k:Nat) (p:Vector aA 4) (e:bh):Bool:=
 (List.range (aI s.b1 k).cO.length).all fun i=>aab (aI (aI s.b1 k).cO i).dp (oX (aI (aI s.b1 k).cO i)) (aI e.cZ i) (b7 p i)
theorem Tc {s:a1} (h:dQ s) {k:Nat} (au:k < 4) {e:bh} (he:e.bo=(k:Int) + 1):zb s e=some (aI s.b1 k,true):=by
 refine bC.get ?_
 unfold zb
 rw [he]
 refine(Ge h au).bind fun r aS=> ?_
 subst aS
 rw [show decide ((k:Int) < 0)=false from decide_eq_false (by omega),cond_false]
 exact .idx rfl (by have:=h.l9; omega) (.ret rfl)
def r4:List cM→List bR→Int
 | key :: aL,m :: ms=>if key.dp=2 then m.fU else r4 aL ms
 | _,_=>0
theorem M0:∀ {aL:List cM} {ms:List bR} {i:Nat},ms.length=aL.length→i < aL.length→ (aI aL i).dp=2→ (∀ j,j < i→ (aI aL j).dp≠2)→r4 aL ms=(aI ms i).fU
 | [],_,i,_,ar,_,_=>by simp at ar
 | key :: aL,[],i,ao,_,_,_=>by simp at ao
 | key :: aL,m :: ms,0,_,_,ad,_=>by
   have:(aI (key :: aL) 0)=key:=rfl
   rw [this] at ad
   unfold r4; rw [if_pos ad]; rfl
 | key :: aL,m :: ms,i + 1,ao,ar,ad,aP=>by
   have bG:=aP 0 (by omega)
   have:(aI (key :: aL) 0)=key:=rfl
   rw [this] at bG
   unfold r4; rw [if_neg bG]
   have bE:∀ {β:Type} [Inhabited β] (x:β) (l:List β) (n:Nat),aI (x :: l) (n + 1)=aI l n:=fun x l n=>by simp [aI]
   rw [bE] at ad ⊢
   exact M0 (by simpa using ao) (by simpa using ar) ad fun j aG=>by have:=aP (j + 1) (by omega); rwa [bE] at this
theorem M1:∀ {aL:List cM} {ms:List bR},(∀ key∈aL,key.dp≠2)→r4 aL ms=0
 | [],_,_=>by unfold r4; rfl
 | key :: aL,[],_=>by unfold r4; rfl
 | key :: aL,m :: ms,aP=>by
   unfold r4; rw [if_neg (aP key (by simp))]
   exact M1 fun k au=>aP k (by simp [au])
def ya (s:a1) (k:Nat) (e:bh):Int:=r4 (aI s.b1 k).cO e.cZ
theorem K1 {s:a1} (h:dQ s) {k:Nat} (au:k < 4) {e:bh} (he:jr s k e):wF s e=some (ya s k e):=by
 obtain⟨t1,⟨t2,t3⟩,t4,_⟩:=h.lg au
 have hm:=he.len
 refine bC.get ?_
 unfold wF ya
 refine .eq (Tc h au he.lg) ?_
 simp only
 refine(Ri (g:=fun key=>key.dp ==2) (fun x al=>rfl) (by omega)).bind fun r aS=> .eq rfl ?_
 rcases aS with⟨rfl,aS⟩ | ⟨i,J,rfl,ay,aU⟩
 ·refine .cond (fun _=> .ret ?_) (fun h=>by simp at h)
  rw [M1 fun key j5=>by simpa using aS key j5]
 ·have df:(!true || decide ((i:Int) < 0) || decide ((i:Int)≥ (e.cZ.length:Int)))=false:=by simp; omega
  rw [df,cond_false]
  refine .idx rfl (by omega) (.ret ?_)
  rw [M0 hm J (by simpa using ay) fun j aG=>by simpa using aU j aG]
def hv (s:a1) (k:Nat) (a c:aw):Bool:=
 decide (c.bV.g8 < a.bV.g8∨ (a.bV.g8=c.bV.g8∧ (ya s k c.bV < ya s k a.bV∨ (ya s k a.bV=ya s k c.bV∧c.cu < a.cu))))
theorem DM (s:a1) (k:Nat):r2 (hv s k) where
 asymm x y h:=by
  unfold hv at *
  rw [decide_eq_true_eq] at h
  rw [decide_eq_false_iff_not]; omega
 trans x y z h cX:=by
  unfold hv at *
  rw [decide_eq_true_eq] at *
  omega
theorem Vq {s:a1} {k:Nat} {a c:aw} (h:a.cu≠c.cu):r3 (hv s k) a c:=by
 unfold r3 hv
 rw [decide_eq_true_eq,decide_eq_true_eq]; omega
def kg (x y:Int):Int:=if x < y then -1 else if y < x then 1 else 0
theorem uE (x y:Int):oi x y=some (kg x y):=by
 unfold oi y0 kg
 have:∀ z:Int,(z !=z)=false:=fun z=>by simp
 rw [this,this]
 simp only [Option.bind_some,cond_false]
 by_cases J:x < y
 ·simp [J]
 ·by_cases ad:y < x
  ·simp [J,ad]
  ·simp [J,ad]
theorem TS (a c d:Int):qS [a,c,d]=some (if a≠0 then a else if c≠0 then c else d):=by
 refine bC.get ?_
 unfold qS
 refine bC.loop 3 (fun i st=>st=(i:Int)∧ ∀ j,j < i→aI [a,c,d] j=0) (by omega) ⟨rfl,fun j aG=>by omega⟩ (fun i st ar hs=> ?_) (fun st hs=> ?_)
 ·obtain⟨rfl,hs⟩:=hs
  refine .cond (fun _=> ?_) (fun h=>by simp at h; omega)
  refine .idx rfl (by simpa using ar) (.cond (fun ak=> .ret ?_) fun ak=> .ret ⟨gT (by omega),fun j aG=> ?_⟩)
  ·simp only [Sum.elim_inr]
   refine .ret ?_
   have bG:=hs 0
   have J:=hs 1
   rcases (show i=0∨i=1∨i=2 by omega) with rfl | rfl | rfl
   ·have:a≠0:=by simpa [aI] using ak
    rw [if_pos this]; rfl
   ·have:c≠0:=by simpa [aI] using ak
    have Jt:a=0:=by simpa [aI] using bG (by omega)
    rw [if_neg (by simpa using Jt),if_pos this]; rfl
   ·have Jt:a=0:=by simpa [aI] using bG (by omega)
    have aac:c=0:=by simpa [aI] using J (by omega)
    rw [if_neg (by simpa using Jt),if_neg (by simpa using aac)]; rfl
  ·by_cases hI:j=i
   ·subst hI; simpa using ak
   ·exact hs j (by omega)
 ·obtain⟨rfl,hs⟩:=hs
  refine⟨_,rfl,?_⟩
  simp only [Sum.elim_inl]
  refine .ret ?_
  have bG:a=0:=by simpa [aI] using hs 0 (by omega)
  have J:c=0:=by simpa [aI] using hs 1 (by omega)
  have ad:d=0:=by simpa [aI] using hs 2 (by omega)
  simp [bG,J,ad]
theorem Lk {s:a1} (h:dQ s) {k:Nat} (au:k < 4) {a c:aw} (bd:jr s k a.bV) (ak:jr s k c.bV):wH s a c=some (hv s k a c):=by
 unfold wH hv
 rw [uE,Option.bind_some,K1 h au bd,Option.bind_some,K1 h au ak,Option.bind_some,uE,Option.bind_some,uE,Option.bind_some,TS,Option.bind_some]
 congr 1
 rw [decide_eq_decide]
 unfold kg
 split <;> split <;> (repeat' split) <;> omega
theorem Qo {xs:List aw} {f:aw→Option Bool} {g:aw→Bool} (a8:∀ x∈xs,f x=some (g x)) (ao:xs.length < 2 ^ 62):
 bC (v8 xs f) (fun r=>(r= -1∧ ∀ x∈xs,g x=false)∨ ∃ i:Nat,i < xs.length∧r=i∧g (aI xs i)=true∧ ∀ j,j < i→g (aI xs j)=false):=by
 unfold v8
 refine bC.loop xs.length (fun k s=>s=(k:Int)∧ ∀ j,j < k→g (aI xs j)=false) (by omega) ⟨rfl,fun j aG=>by omega⟩ (fun k s au ar=> ?_) (fun s ar=> ?_)
 ·obtain⟨aF,aR⟩:=ar; subst aF
  refine bC.cond (fun _=> ?_) (fun h=>by simp at h; omega)
  refine .idx rfl au (.eq (a8 _ (by rw [eV xs au]; exact List.getElem_mem au)) (.cond (fun h=> .ret ?_) (fun h=> .ret ⟨gT (by omega),fun j aG=> ?_⟩)))
  ·exact .ret (.inr ⟨k,au,rfl,h,aR⟩)
  ·by_cases qx:j=k
   ·subst qx; exact h
   ·exact aR j (by omega)
 ·obtain⟨aF,aR⟩:=ar; subst aF
  refine⟨_,by simp; rfl,?_⟩
  refine .ret (.inl ⟨rfl,fun x al=> ?_⟩)
  obtain⟨j,aG,rfl⟩:=List.mem_iff_getElem.1 al
  rw [← eV xs aG]; exact aR j aG
structure lh (s:a1) (k:Nat) (i:aw):Prop where
 fw:jr s k i.bV
theorem UG {i:aw} (J:i.bV.cZ.length≤1000) (ad:i.bV.h0.length≤1000):o3 i=some i:=by
 unfold o3 C2 Co Cp
 rw [kh _ _ (by simp; omega) (by omega),kh _ _ (by simp; omega) (by omega)]
 rfl
theorem z8 {s:a1} (h:dQ s) {k:Nat} (au:k < 4) {i:aw} (ar:lh s k i):o3 i=some i:=by
 have J:=ar.fw.len
 have ad:=ar.fw.args
 have ay:=(h.lg au).2.1.2
 exact UG (by omega) (by omega)
def ij (l:List aw) (n:Int):Bool:=l.any fun c=>c.cu ==n
theorem N1 (x:c9) (n:Int) (ao:x.c2.length≤1000):bC ((v8 x.c2 (fun h7=>yn h7 n)).bind fun aB=>some aB) (fun r=>(r= -1∧ij x.c2 n=false)∨ ∃ i:Nat,i < x.c2.length∧r=i∧ (aI x.c2 i).cu=n∧ij x.c2 n=true∧ ∀ j,j < i→ (aI x.c2 j).cu≠n):=by
 refine(Qo (g:=fun c=>c.cu ==n) (fun c ak=>rfl) (by omega)).bind fun r aS=> .ret ?_
 rcases aS with⟨J,ad⟩ | ⟨i,J,ad,ay,aU⟩
 ·exact .inl ⟨J,by unfold ij; rw [List.any_eq_false]; exact fun c ak=>by simp [ad c ak]⟩
 ·refine .inr ⟨i,J,ad,by simpa using ay,?_,fun j aG=>by simpa using aU j aG⟩
  unfold ij; rw [List.any_eq_true]
  exact⟨aI x.c2 i,by rw [eV _ J]; exact List.getElem_mem _,ay⟩
theorem TT {s:a1} (h:dQ s) {k:Nat} (au:k < 4) {x:c9} (al:x.o5=s) {a c:aw} (bd:lh s k a) (ak:lh s k c):
 bC (wa x a c) (fun r=>r < 0↔hv s k a c=true):=by
 unfold wa
 rw [al]
 refine .eq (Lk h au bd.fw ak.fw) (.cond (fun hb=> .ret ⟨fun _=>hb,fun _=>by omega⟩) fun hb=> .eq (Lk h au ak.fw bd.fw) (.cond (fun _=> .ret ?_) fun _=> .ret ?_))
 ·rw [hb]; simp
 ·rw [hb]; simp
theorem Vr {i j:Nat} (h:i + j < 2 ^ 62):bA ((BitVec.ofInt 64 (bA ((i:Int) + (j:Int)))) >>> (1#64).toNat).toNat=(((i + j) / 2:Nat):Int):=by
 rw [show(i:Int) + (j:Int)=((i + j:Nat):Int) by omega,hA (x:=((i + j:Nat):Int)) (by omega) (by omega)]
 have:((BitVec.ofInt 64 ((i + j:Nat):Int)) >>> (1#64).toNat).toNat=(i + j) / 2:=by
  rw [BitVec.toNat_ushiftRight,p8 (by omega)]
  rw [show(1#64).toNat=1 from rfl,Nat.shiftRight_eq_div_pow,Nat.pow_one]
 rw [this,hA (by omega) (by omega)]
theorem Td {l:List aw} {x:aw} {b:aw→aw→Bool} (hb:r2 b) (hs:l.Pairwise (fun x y=>b x y=true)) (ao:l.length≤1000)
 {f:aw→aw→Option Int} (a8:∀ a∈l,bC (f a x) (fun r=>r < 0↔b a x=true)):
 bC (yd l x f) (fun r=>r.1=(ju b l x:Int)):=by
 unfold yd
 have gv:=HA (b:=b) (l:=l) (x:=x)
 have ta:∀ h,h < l.length→aI l h∈l:=fun h ck=>by rw [eV _ ck]; exact List.getElem_mem _
 have ni:∀ q:Bool,bC ((dd (decide (((ju b l x:Nat):Int) < (l.length:Int))) true (idx l.length ((ju b l x:Nat):Int))).bind fun bI=>
  (dd (decide (((ju b l x:Nat):Int) < (l.length:Int))) true (f (aI l bI) x)).bind fun aH=>some (((ju b l x:Nat):Int),(decide (((ju b l x:Nat):Int) < (l.length:Int))) && (aH ==0))) (fun r=>r.1=(ju b l x:Int)):=fun _=>by
  refine .dd (P:=fun c=>c=ju b l x) (fun h=>⟨_,ox (by simpa using h),rfl⟩) fun bI ad=> .dd (P:=fun _=>True) (fun h=> ?_) fun aH _=> .ret rfl
  rw [ad h]
  exact(a8 _ (ta _ (by simpa using h))).mono fun _ _=>trivial
 refine bC.loop l.length (fun r st=> ∃ i j:Nat,st=((i:Int),(j:Int))∧i≤ju b l x∧ju b l x≤j∧j≤l.length∧j - i≤l.length - r) (by omega) ⟨0,l.length,rfl,by omega,by omega,by omega,by omega⟩ (fun r st aS fK=> ?_) (fun st fK=> ?_)
 ·obtain⟨i,j,rfl,J,ad,ay,aU⟩:=fK
  refine .cond (fun ak=> ?_) fun ak=> .ret ?_
  ·have fk:i < j:=by simpa using ak
   rw [Vr (by omega)]
   have hm:(i + j) / 2 < l.length:=by omega
   refine .idx rfl hm ((a8 _ (ta _ hm)).bind fun aB bu=> ?_)
   have cb:=HB hb (x:=x) hs hm
   refine .bind (P:=fun m=> ∃ i j:Nat,m=((i:Int),(j:Int))∧i≤ju b l x∧ju b l x≤j∧j≤l.length∧j - i≤l.length - (r + 1)) (.cond (fun a5=> .eq rfl (.ret ?_)) fun a5=> .ret ?_) fun m hm=> .ret ?_
   ·have:=cb.1 (bu.1 (by simpa using a5))
    refine⟨(i + j) / 2 + 1,j,?_,by omega,ad,ay,by omega⟩
    simp only [gT (show(i + j) / 2 < 2 ^ 62 by omega)]
   ·have: ¬ (i + j) / 2 < ju b l x:=fun ck=>by
     have:=bu.2 (cb.2 ck)
     simp at a5; omega
    exact⟨i,(i + j) / 2,rfl,J,by omega,by omega,by omega⟩
   ·obtain⟨Cg,qE,rfl,a0⟩:=hm
    exact⟨Cg,qE,rfl,a0⟩
  ·have fk: ¬ i < j:=by simpa using ak
   have:i=ju b l x:=by omega
   subst this
   exact ni true
 ·obtain⟨i,j,rfl,J,ad,ay,aU⟩:=fK
  have fk:i=ju b l x:=by omega
  have ak:decide ((i:Int) < (j:Int))=false:=by simp; omega
  simp only [ak,cond_false]
  refine⟨_,rfl,?_⟩
  subst fk
  exact ni true
structure kZ (s:a1) (k:Nat) (l:List aw):Prop where
 ok:∀ i∈l,lh s k i
 num:l.Pairwise fun a c=>a.cu≠c.cu
 len:l.length≤900
theorem kZ.Ju {s:a1} {k:Nat} {l:List aw} (h:kZ s k l):pw (hv s k) l:=h.num.imp fun ck=>Vq ck
theorem kZ.g1 {s:a1} {k:Nat} {l:List aw} (h:kZ s k l):(∀ i∈g1 (hv s k) l,lh s k i)∧ (g1 (hv s k) l).length≤900:=
 ⟨fun i ar=>h.ok i (sO.1 ar),by rw [Vp]; exact h.len⟩
theorem Dy {s:a1} {k:Nat} {l:List aw} {n:Int} :ij (g1 (hv s k) l) n=ij l n:=by
 unfold ij
 rw [Bool.eq_iff_iff,List.any_eq_true,List.any_eq_true]
 exact⟨fun⟨c,J,ad⟩=>⟨c,sO.1 J,ad⟩,fun⟨c,J,ad⟩=>⟨c,sO.2 J,ad⟩⟩
theorem Mr {l:List aw} {n:Int} (h:ij l n=false):∀ c∈l,c.cu≠n:=fun c ak=>by
 unfold ij at h
 rw [List.any_eq_false] at h
 simpa using h c ak
theorem kZ.snoc {s:a1} {k:Nat} {l:List aw} (h:kZ s k l) {i:aw} (ar:lh s k i) (aP:ij l i.cu=false) (ao:l.length < 900):kZ s k (l ++ [i]) where
 ok c ak:=by
  rcases List.mem_append.1 ak with ak | ak
  ·exact h.ok c ak
  ·rw [List.mem_singleton.1 ak]; exact ar
 num:=by
  rw [List.pairwise_append]
  exact⟨h.num,by simp,fun a bd c ak=>by rw [List.mem_singleton.1 ak]; exact Mr aP a bd⟩
 len:=by simp; omega
def ru (s:a1) (k:Nat) (l:List aw):c9:= { o5:=s,c2:=g1 (hv s k) l }
theorem Vs {s:a1} (h:dQ s) {k:Nat} (au:k < 4) {l:List aw} (ao:kZ s k l) {i:aw} (ar:lh s k i) (hlen:l.length < 900):
 yr (ru s k l) i=some (!ij l i.cu,if ij l i.cu=true then ru s k l else ru s k (l ++ [i])):=by
 refine bC.get ?_
 unfold yr
 obtain⟨jg,gY⟩:=ao.g1
 refine .dd (fun _=>N1 (ru s k l) _ (by show(g1 _ l).length≤1000; omega)) fun aB J=> ?_
 have J:=J rfl
 rw [Bool.false_or]
 rcases J with⟨rfl,ad⟩ | ⟨j,ad,rfl,ay,aU,a0⟩
 ·have ld:ij l i.cu=false:=by rw [← ad]; exact Dy.symm
  refine .cond (fun ak=>by simp at ak) fun _=> ?_
  refine(Td (b:=hv s k) (DM s k) (GB (DM s k) ao.Ju) (by omega) fun a bd=>TT h au rfl (jg a bd) ar).bind fun aH cB=> .eq (z8 h au ar) ?_
  rw [cB]
  unfold Cm
  have gv:=HA (b:=hv s k) (l:=g1 (hv s k) l) (x:=i)
  refine .eq (a:=g1 (hv s k) (l ++ [i])) ?_ (.ret ?_)
  ·show AZ 88 (g1 (hv s k) l) _ _=_
   unfold AZ
   have mc:maxLen=9223372036854775807:=rfl
   rw [if_pos ⟨by omega,by omega,by simp,by simp <;> omega,by simp <;> omega⟩,Dx,MZ]
   simp
  ·rw [ld]; rfl
 ·have xX:ij l i.cu=true:=by rw [← aU]; exact Dy.symm
  refine .cond (fun _=> .ret ?_) fun ak=>by simp at ak <;> omega
  rw [xX]; rfl
theorem SE {s:a1} (h:dQ s) {k:Nat} (au:k < 4) {l:List aw} (ao:∀ i∈l,lh s k i) (aP:l.length≤1000):wK l=some l:=by
 refine bC.get ?_
 unfold wK
 refine bC.loop l.length (fun i st=>st=((i:Int),l.take i)) (by omega) rfl (fun i st ar hs=> ?_) (fun st hs=> ?_)
 ·subst hs
  refine .cond (fun _=> ?_) (fun ak=>by simp at ak; omega)
  refine .idx rfl ar (.eq (z8 h au (ao _ (by rw [eV _ ar]; exact List.getElem_mem _))) (.eq (kh _ _ (by simp; omega) (by omega)) (.ret ?_)))
  rw [gT (by omega),RD l ar]
 ·subst hs
  refine⟨_,by simp; rfl,.ret ?_⟩
  simp
theorem Vt {s:a1} (h:dQ s) {k:Nat} (au:k < 4) {l:List aw} (ao:kZ s k l):yq (ru s k l)=some (g1 (hv s k) l):=by
 unfold yq
 obtain⟨jg,gY⟩:=ao.g1
 show Option.bind (wK (g1 (hv s k) l)) _=_
 rw [SE h au jg (by omega)]; rfl
theorem Dg (v:aA):qR v v=some 0:=by
 obtain⟨r,J,ad,ay⟩:=Sg v v
 rw [KY] at ad ay
 have:r=0:=by
  have cN: ¬ r > 0:=fun h=>by simpa using ad.1 h
  have cF: ¬ r < 0:=fun h=>by simpa using ay.1 h
  omega
 rw [J,this]
theorem Sh (m:bR):zc m m=some 0:=by
 unfold zc
 rw [Dg,Dg,Dg]
 simp
theorem zs (n:Int):p0 n n=some 0:=by
 unfold p0
 simp
theorem RO (l:List bR) (ao:l.length≤1000):y5 l l=some 0:=by
 refine bC.get ?_
 unfold y5
 refine bC.loop l.length (fun i st=>st=(i:Int)) (by omega) rfl (fun i st ar hs=> ?_) (fun st hs=> ?_)
 ·subst hs
  refine .cond (fun _=> ?_) (fun ak=>by simp at ak; omega)
  exact .idx rfl ar (.idx rfl ar (.eq (Sh _) (.cond (fun ak=>by simp at ak) fun _=> .ret (gT (by omega)))))
 ·subst hs
  refine⟨_,by simp; rfl,?_⟩
  simp only [Sum.elim_inl]
  exact .eq (zs _) (.ret rfl)
theorem RY (l:List aA) (ao:l.length≤1000):y9 l l=some 0:=by
 refine bC.get ?_
 unfold y9
 refine bC.loop l.length (fun i st=>st=(i:Int)) (by omega) rfl (fun i st ar hs=> ?_) (fun st hs=> ?_)
 ·subst hs
  refine .cond (fun _=> ?_) (fun ak=>by simp at ak; omega)
  exact .idx rfl ar (.idx rfl ar (.eq (Dg _) (.cond (fun ak=>by simp at ak) fun _=> .ret (gT (by omega)))))
 ·subst hs
  refine⟨_,by simp; rfl,?_⟩
  simp only [Sum.elim_inl]
  exact .eq (zs _) (.ret rfl)
theorem Te {e:bh} (J:e.cZ.length≤1000) (ad:e.h0.length≤1000):y6 e e=some 0:=by
 unfold y6
 rw [zs,Option.bind_some,zs,Option.bind_some,RO _ J,Option.bind_some,zs,Option.bind_some]
 refine bC.get ?_
 refine bC.loop 4 (fun i st=>st=(i:Int)) (by omega) rfl (fun i st ar hs=> ?_) (fun st hs=> ?_)
 ·subst hs
  refine .cond (fun _=> ?_) (fun ak=>by simp at ak; omega)
  have bG:aI [(0:Int),0,0,0] i=0:=by
   rcases (show i=0∨i=1∨i=2∨i=3 by omega) with rfl | rfl | rfl | rfl <;> rfl
  refine .idx rfl (by simpa using ar) (.cond (fun ak=>by rw [bG] at ak; simp at ak) fun _=> .ret (gT (by omega)))
 ·subst hs
  refine⟨_,rfl,?_⟩
  simp only [Sum.elim_inl]
  exact .eq (RY _ ad) (.ret rfl)
theorem Tf {i:aw} (J:i.bV.cZ.length≤1000) (ad:i.bV.h0.length≤1000):zf i i=some true:=by
 unfold zf CZ
 rw [Te J ad]
 simp
theorem lh.small {s:a1} (h:dQ s) {k:Nat} (au:k < 4) {i:aw} (ar:lh s k i):i.bV.cZ.length≤1000∧i.bV.h0.length≤1000:=by
 have J:=ar.fw.len
 have ad:=ar.fw.args
 have ay:=(h.lg au).2.1.2
 exact⟨by omega,by omega⟩
theorem KF {l:List aw} (ao:∀ i∈l,i.bV.cZ.length≤1000∧i.bV.h0.length≤1000) (aP:l.length≤1000):wz l l=some true:=by
 refine bC.get ?_
 unfold wz
 refine .cond (fun ak=>by simp at ak) fun _=> ?_
 refine bC.loop l.length (fun i st=>st=(i:Int)) (by omega) rfl (fun i st ar hs=> ?_) (fun st hs=> ?_)
 ·subst hs
  refine .cond (fun _=> ?_) (fun ak=>by simp at ak; omega)
  have:=ao (aI l i) (by rw [eV _ ar]; exact List.getElem_mem _)
  exact .idx rfl ar (.idx rfl ar (.eq (Tf this.1 this.2) (.cond (fun ak=>by simp at ak) fun _=> .ret (gT (by omega)))))
 ·subst hs
  refine⟨_,by simp; rfl,?_⟩
  simp only [Sum.elim_inl]
  exact .ret rfl
def xY (o:Option aw):aw × Bool:=match o with | some c=>(c,true) | none=>(default,false)
theorem TU (c:bf):bC (yy c) (fun _=>True):=by
 unfold yy
 first | exact .ret trivial | exact .eq rfl (.ret trivial)
structure iu (hp:aN Cell) (t:Nat) (g:List Bool→Option Int):Prop where
 ok:∃ c,fu hp t=some c∧c.fA=32∧nP hp c.cD∧ ∀ aY,cont hp c.cD aY=g aY
def Own (hp:aN Cell) (t q:Nat):Prop:=q=t∨ ∃ c aY,fu hp t=some c∧cK hp c.cD aY=some q
def ei (v:aA) (n:Nat):List Bool:=(List.range n).map fun i=>cx v (31 - i)
theorem Da (v:aA) (n:Nat):ei v (n + 1)=ei v n ++ [cx v (31 - n)]:=by simp [ei,List.range_succ]
theorem K2 (v:aA):ei v 0= []:=rfl
theorem Ll {hp:aN Cell} {t:Nat} {c:fm} (ak:fu hp t=some c) (hb:c.fA=32) {n:Nat} (aP:n≤32) {v:aA} (a6:∀ j,j < 128→cx v j=true→lead 32 n j=true):
 wi hp (some t) v n=some true:=by
 refine bC.get ?_
 unfold wi
 have aF:(Option.isSome (some t) && decide ((n:Int)≥0))=true:=by simp
 have aR:decide ((n:Int)≤c.fA)=true:=by rw [hb]; simp; omega
 refine .dd (P:=fun r=>r=t) (fun _=>⟨t,rfl,rfl⟩) fun b6 J=> ?_
 rw [J aF]
 refine .dd (P:=fun r=>r=c) (fun _=>⟨c,ak,rfl⟩) fun bq ad=> ?_
 rw [ad aF]
 rw [aF,aR]
 refine .dd (P:=fun r=>r=t) (fun _=>⟨t,rfl,rfl⟩) fun bZ ay=> ?_
 rw [ay rfl]
 refine .dd (P:=fun r=>r=c) (fun _=>⟨c,ak,rfl⟩) fun cg aU=> ?_
 rw [aU rfl,hb]
 refine .dd (fun _=>SC 32 n (by decide) (by decide)) fun aB a0=> ?_
 refine .dd (P:=fun r=>r=A9 v aB) (fun _=>⟨_,and_eq v aB,rfl⟩) fun aH bl=> ?_
 refine .eq rfl (.ret ?_)
 have:aH=v:=by
  rw [bl rfl]
  refine Hy fun j aG=> ?_
  rw [UA,a0 rfl j aG]
  cases e:cx v j with
  | false=>rfl
  | true=>rw [a6 j aG e]; rfl
 rw [this]; simp
theorem M3 {v:aA} {i:Nat} (ar:i < 32):bC (tU v (bA ((bA ((32:Int) - 1)) - (i:Int)))) (fun r=>r=cx v (31 - i)):=by
 have e:bA ((bA ((32:Int) - 1)) - (i:Int))=((31 - i:Nat):Int):=by
  rw [show bA ((32:Int) - 1)=31 from by rw [hA (by decide) (by decide)]; rfl,hA (by omega) (by omega)]; omega
 rw [e]
 refine(Vo v _).mono fun r aS=> ?_
 rw [aS]
 have:decide (0≤ ((31 - i:Nat):Int)∧ ((31 - i:Nat):Int) < 128)=true:=by rw [decide_eq_true_eq]; omega
 rw [this,Bool.true_and]; rfl
theorem M4 (b:Bool):(cond b (some (1:Int)) (some 0))=some ((e7 b:Nat):Int):=by cases b <;> rfl
theorem N2 {σ ε:Type} {hp:aN Cell} {t:Nat} {c:fm} (ak:fu hp t=some c) (hb:c.fA=32) (v:aA) {n:Nat} (aP:n≤32) {step:Int→σ→Option (σ ⊕ ε)} {cd:σ} {P:σ ⊕ ε→Prop} (fl:Nat→σ→Prop) (bG:fl 0 cd)
 (hs:∀ i s,i < n→fl i s→bC (step ((e7 (cx v (31 - i)):Nat):Int) s) (fun r=>match r with | .inl b9=>fl (i + 1) b9 | .inr e=>P (.inr e))) (he:∀ s,fl n s→P (.inl s)):bC (qK hp n v (some t) step cd) P:=by
 unfold qK
 refine bC.loop n (fun i s=>s.1=(i:Int)∧fl i s.2) (by omega) ⟨rfl,bG⟩ (fun i s ar eI=> ?_) (fun s eI=> ?_)
 ·obtain⟨j,s⟩:=s; obtain⟨aF,aR⟩:=eI
  simp only at aF aR; subst aF
  refine bC.cond (fun _=> ?_) (fun h=>by simp at h; omega)
  refine .eq rfl (.eq ak ?_)
  rw [hb]
  refine(M3 (by omega)).bind fun aB J=> .eq (M4 aB) ?_
  rw [J]
  refine(hs i s ar aR).bind fun r aS=> ?_
  cases r with
  | inl b9=>exact .ret ⟨gT (by omega),aS⟩
  | inr e=>exact .ret (.ret aS)
 ·obtain⟨j,s⟩:=s; obtain⟨aF,aR⟩:=eI
  simp only at aF aR; subst aF
  refine⟨_,by simp; rfl,?_⟩
  exact .ret (he s aR)
theorem Xr {σ ε:Type} {t:Nat} (v:aA) {n:Nat} (aP:n≤32) {hq:σ→aN Cell} {step:Int→σ→aq (σ ⊕ ε)} {cd:σ} {P:σ ⊕ ε→Prop} (fl:Nat→σ→Prop) (bG:fl 0 cd) (ln:∀ i s,fl i s→ ∃ c,fu (hq s) t=some c∧c.fA=32)
 (hs:∀ i s,i < n→fl i s→dg (step ((e7 (cx v (31 - i)):Nat):Int) s) (fun r=>match r with | .inl b9=>fl (i + 1) b9 | .inr e=>P (.inr e))) (he:∀ s,fl n s→P (.inl s)):dg (tH n v (some t) hq step cd) P:=by
 unfold tH
 refine .bind (P:=fun e=>match e with | .inl e=>P (.inl e.2.2) | .inr e=>P (.inr e.2.2.2.2.2.2)) (dg.loop n (fun i s=>s.1=(i:Int)∧fl i s.2) (by omega) ⟨rfl,bG⟩ (fun i s ar eI=> ?_) (fun s eI=> ?_)) fun e h=> ?_
 ·obtain⟨j,s⟩:=s; obtain⟨aF,aR⟩:=eI
  simp only at aF aR; subst aF
  refine dg.cond (fun _=> ?_) (fun h=>by simp at h; omega)
  obtain⟨c,ak,hb⟩:=ln i s aR
  refine .eq rfl (.eq ak ?_)
  rw [hb]
  refine .mP (M3 (by omega)) fun aB J=> .eq (M4 aB) ?_
  rw [J]
  refine .bind (hs i s ar aR) fun r aS=> ?_
  cases r with
  | inl b9=>exact .ret ⟨gT (by omega),aS⟩
  | inr e=>exact .ret aS
 ·obtain⟨j,s⟩:=s; obtain⟨aF,aR⟩:=eI
  simp only at aF aR; subst aF
  refine dg.cond (fun h=>by simp at h) fun _=> .ret (he s aR)
 ·cases e with
  | inl e=>exact .ret h
  | inr e=>exact .ret h
theorem LL {hp:aN Cell} {t:Nat} {c:fm} (ak:fu hp t=some c) (hb:c.fA=32) (bJ:nP hp c.cD) {n:Nat} (aP:n≤32) {v:aA} (a6:∀ j,j < 128→cx v j=true→lead 32 n j=true):
 wv hp (some t) v n=some (cK hp c.cD (ei v n)):=by
 refine bC.get ?_
 unfold wv
 refine .eq (Ll ak hb aP a6) (.cond (fun h=>by cases h) fun _=> .eq rfl (.eq ak (.eq rfl ?_)))
 show bC (Option.bind (qK hp (n:Int) v (some t) _ _) _) _
 refine bC.bind (P:=fun e:Ref ⊕ (Ref × Ref)=>e.elim (fun s=>s=cK hp c.cD (ei v n)) (fun q=>q.2=cK hp c.cD (ei v n))) (N2 ak hb v aP (fun i s=>s=cK hp c.cD (ei v i)) m5.symm (fun i s ar hs=> ?_) (fun s hs=>hs)) fun e he=> ?_
 ·refine .cond (fun h=> .ret ?_) fun h=> ?_
  ·rw [Option.isNone_iff_eq_none] at h
   have aF:ei v n=ei v i ++ (ei v n).drop i:=by
    have:ei v i=(ei v n).take i:=by unfold ei; rw [← List.map_take,List.take_range]; congr 2; omega
    rw [this,List.take_append_drop]
   show(none:Ref)=_
   rw [aF,lV,← hs,h,gd]
  ·cases s with
   | none=>simp at h
   | some p=>
     obtain⟨bq,J⟩:=bJ.reads _ _ hs.symm
     refine .eq rfl (.idx rfl (by cases cx v (31 - i) <;> decide) (.eq J (.ret ?_)))
     show b7 bq.c1 _=_
     rw [Da,lV,← hs,g2 J,m5]
 ·cases e with
  | inl s=>exact .ret he
  | inr q=>exact .ret he
theorem M5 {hp:aN Cell} {t:Nat} {g:List Bool→Option Int} (h:iu hp t g) {n:Nat} (aP:n≤32) {v:aA} (a6:∀ j,j < 128→cx v j=true→lead 32 n j=true):
 tN hp (some t) v n=some (match g (ei v n) with | none=>(0,false) | some id=>(id,true)):=by
 obtain⟨c,ak,hb,bJ,bE⟩:=h.ok
 refine bC.get ?_
 unfold tN
 refine .eq (LL ak hb bJ aP a6) ?_
 rw [← bE]
 cases e:cK hp c.cD (ei v n) with
 | none=>
   rw [ki e]
   refine .dd (P:=fun _=>True) (fun h=>by cases h) fun o _=> .dd (P:=fun _=>True) (fun h=>by cases h) fun o _=> .cond (fun _=> .ret rfl) fun h=>by cases h
 | some p=>
   obtain⟨d,hd⟩:=bJ.reads _ _ e
   rw [jD e hd]
   refine .dd (P:=fun r=>r=p) (fun _=>⟨p,rfl,rfl⟩) fun o J=> ?_
   rw [J rfl]
   refine .dd (P:=fun r=>r=d) (fun _=>⟨d,hd,rfl⟩) fun bq ad=> ?_
   rw [ad rfl]
   refine .cond (fun h=> ?_) fun h=> ?_
   ·have:d.dG=false:=by simpa using h
    rw [this]; exact .ret rfl
   ·have:d.dG=true:=by simpa using h
    rw [this]; exact .eq rfl (.eq hd (.ret rfl))
structure EG (jv hp:aN Cell) (t:Nat) (g:List Bool→Option Int) (r:Nat):Prop where
 cell:∃ c,fu hp t=some c∧c.fA=32∧c.cD=some r
 tree:nP hp (some r)
 cont:∀ aY,cont hp (some r) aY=g aY
 keeps:ez jv hp (Own jv t)
 own:∀ aY q,cK hp (some r) aY=some q→Own jv t q∨q ∉ ec jv
theorem zt {hp:aN Cell} {a t:Nat} {k:Cell} (bd:a ∉ ec hp) (h:pat hp t=some k):a≠t:=fun e=>bd (e ▸ ie h)
theorem LM {hp:aN Cell} {a:Nat} {x:dz} :cy ((a,.fC x) :: hp) a=some x:=by rw [oq,o6,if_pos rfl]
theorem SF {hp:aN Cell} {a:Nat} (bd:a ∉ ec hp):cy hp a=none:=by unfold cy; rw [TP bd]
theorem wR {hp:aN Cell} {p:Nat} {k:Cell} {x:dz} (h:pat hp p=some k):cy (cT hp p (.fC x)) p=some x:=by rw [oq,rf h]
theorem ss {hp:aN Cell} {p q:Nat} {k:Cell} (h:p≠q):cy (cT hp p k) q=cy hp q:=tW (lv h)
theorem KL {hp:aN Cell} {a q:Nat} {k:Cell} (h:a≠q):cy ((a,k) :: hp) q=cy hp q:=tW (by rw [o6,if_neg h])
theorem LN {hp:aN Cell} {p:Nat} {k:Cell} {x:fm} (h:pat hp p=some k):fu (cT hp p (.iV x)) p=some x:=by rw [qT,rf h]
theorem C5 {hp:aN Cell} {p q:Nat} {k:Cell} (h:p≠q):fu (cT hp p k) q=fu hp q:=C4 (lv h)
theorem KM {hp:aN Cell} {a q:Nat} {k:Cell} (h:a≠q):fu ((a,k) :: hp) q=fu hp q:=C4 (by rw [o6,if_neg h])
theorem Ej {hp:aN Cell} {p t:Nat} {x:dz} {c:fm} (J:cy hp p=some x) (ad:fu hp t=some c):p≠t:=fun e=>by
 subst e
 rw [oq] at J; rw [qT,J] at ad; cases ad
theorem Vu {hp:aN Cell} {t:Nat} {g:List Bool→Option Int} {c:fm} (ak:fu hp t=some c) (hb:c.fA=32) (bJ:nP hp c.cD) (bE:∀ aY,cont hp c.cD aY=g aY):
 dg (cond c.cD.isNone (
     aq.bind (aq.mk hp (Cell.fC (default:dz))) fun cF=>
     aq.bind (aq.of (fu cF.2 t)) fun B3=>
     aq.bind (aq.of (some (cT cF.2 t (Cell.iV ({ B3 with cD:=(some cF.1:Ref) } :fm))))) fun tg=>
     aq.ret tg) (aq.ret hp)) (fun cw=> ∃ r,EG hp cw t g r):=by
 have gq:=qT.1 ak
 refine .cond (fun h=> .mk fun a bd=> ?_) fun h=> ?_
 ·have aS:c.cD=none:=by rw [Option.isNone_iff_eq_none] at h; exact h
  have Py:=zt bd gq
  have ER:fu ((a,Cell.fC default) :: hp) t=some c:=by rw [KM Py]; exact ak
  refine .eq ER (.eq rfl (.ret ⟨a,?_⟩))
  have aP:cy (cT ((a,Cell.fC default) :: hp) t (.iV { c with cD:=some a })) a=some default:=by
   rw [ss Py.symm,LM]
  have a8:=Li aP
  refine⟨⟨_,LN (qT.1 ER),hb,rfl⟩,⟨fun aY p J=> ?_,fun aY cs p J ad=> ?_,fun aY p J=> ?_⟩,fun aY=> ?_,?_,fun aY q J=> ?_⟩
  ·rw [a8] at J
   split at J
   ·cases J; exact⟨_,aP⟩
   ·cases J
  ·rw [a8] at J ad
   split at J <;> split at ad
   ·rename_i aF aR; rw [aF,aR]
   ·cases ad
   ·cases J
   ·cases J
  ·rw [a8] at J
   split at J
   ·rename_i e; rw [e]; exact Nat.zero_le _
   ·cases J
  ·rw [← bE,aS,ki gd]
   by_cases e:aY= []
   ·rw [jD (by rw [a8,if_pos e]) aP]; rfl
   ·rw [ki (by rw [a8,if_neg e])]
  ·exact(ez.mk' bd).trans (own':=fun q=>q=t) (ez.up (own:=fun q=>q=t) rfl) fun q _ J=> .inl J
  ·rw [a8] at J
   split at J
   ·cases J; exact .inr bd
   ·cases J
 ·cases aS:c.cD with
  | none=>rw [aS] at h; cases h
  | some r=>
    rw [aS] at bJ bE
    exact .ret ⟨r,⟨c,ak,hb,aS⟩,bJ,bE,.refl,fun aY q J=> .inl (.inr ⟨c,aY,ak,by rw [aS]; exact J⟩)⟩
theorem Xs {hp:aN Cell} {t:Nat} {g:List Bool→Option Int} (h:iu hp t g) {n:Nat} (aP:n≤32) {v:aA} (a6:∀ j,j < 128→cx v j=true→lead 32 n j=true) (id:Int) (eO:g (ei v n)=none):
 dg (wA hp (some t) v n id) (fun r=>r.1=true∧iu r.2 t (fun aY=>if aY=ei v n then some id else g aY)∧ez hp r.2 (Own hp t)∧ ∀ q,Own r.2 t q→Own hp t q∨q ∉ ec hp):=by
 obtain⟨c,ak,hb,bJ,bE⟩:=h.ok
 unfold wA
 refine .eq (Ll ak hb aP a6) (.cond (fun h=>by cases h) fun _=> .eq (LL ak hb bJ aP a6) ?_)
 refine .dd (P:=fun o=>cK hp c.cD (ei v n)=some o) (fun J=> ?_) fun b6 J=> ?_
 ·cases e:cK hp c.cD (ei v n) with
  | none=>rw [e] at J; cases J
  | some p=>exact⟨p,rfl,rfl⟩
 refine .dd (P:=fun d=>cy hp b6=some d) (fun ad=> ?_) fun bq ad=> ?_
 ·obtain⟨d,hd⟩:=bJ.reads _ _ (J ad)
  exact⟨d,hd,hd⟩
 refine .cond (fun ay=> ?_) fun _=> ?_
 ·simp only [Bool.and_eq_true] at ay
  rw [← bE,jD (J ay.1) (ad ay.1),ay.2] at eO
  cases eO
 refine .eq rfl (.eq ak (.bind (Vu ak hb bJ bE) fun bB cV=> ?_))
 obtain⟨r,cV⟩:=cV
 obtain⟨fc,lK,abm,Jm⟩:=cV.cell
 refine .eq lK (.eq rfl ?_)
 show dg (aq.bind (tH (n:Int) v (some t) _ _ _) _) _
 refine .bind (P:=fun e:(Ref × aN Cell) ⊕ Empty=> ∃ p cJ,e= .inl (some p,cJ)∧cK cJ (some r) (ei v n)=some p∧EG hp cJ t g r) (Xr v aP (fun i s=> ∃ p,s.1=some p∧cK s.2 (some r) (ei v i)=some p∧EG hp s.2 t g r) ⟨r,Jm,m5,cV⟩ (fun i s ar=> ?_) (fun i s ar hs=> ?_) (fun s hs=> ?_)) fun e he=> ?_
 ·obtain⟨p,_,_,hm⟩:=ar
  obtain⟨d,aU,a0,_⟩:=hm.cell
  exact⟨d,aU,a0⟩
 ·obtain⟨aad,cJ⟩:=s
  obtain⟨p,aF,aR,hm⟩:=hs
  simp only at aF aR hm
  subst aF
  obtain⟨d,hd⟩:=hm.tree.reads _ _ aR
  have cb:e7 (cx v (31 - i)) < 2:=by cases cx v (31 - i) <;> decide
  refine .eq rfl (.idx rfl cb (.eq hd ?_))
  refine .bind (P:=fun gM=> ∃ q J1,cy gM p=some J1∧b7 J1.c1 (e7 (cx v (31 - i)))=some q∧cK gM (some r) (ei v i)=some p∧EG hp gM t g r) (.cond (fun bl=> .mk fun a bd=> ?_) fun bl=> .ret ?_) fun gM cP=> ?_
  ·have pN:b7 d.c1 (e7 (cx v (31 - i)))=none:=by rw [Option.isNone_iff_eq_none] at bl; exact bl
   have Pz:=zt bd (oq.1 hd)
   have iJ:cy ((a,Cell.fC default) :: cJ) p=some d:=by rw [KL Pz]; exact hd
   refine .idx rfl cb (.eq iJ (.eq rfl (.ret ?_)))
   have gv:cy (cT ((a,Cell.fC default) :: cJ) p (.fC { d with c1:=h2 d.c1 (e7 (cx v (31 - i))) (some a) })) a=some default:=by
    rw [ss Pz.symm,LM]
   have dK:cy (cT ((a,Cell.fC default) :: cJ) p (.fC { d with c1:=h2 d.c1 (e7 (cx v (31 - i))) (some a) })) p=some { d with c1:=h2 d.c1 (e7 (cx v (31 - i))) (some a) } :=wR (oq.1 iJ)
   obtain⟨av,bm,bS⟩:=grow (by unfold ei; simp; omega) hm.tree aR hd pN (SF bd) dK gv fun q iL nq=>by rw [ss iL.symm,KL nq.symm]
   have Bb:Own hp t p∨p ∉ ec hp:=hm.own _ _ aR
   refine⟨a,_,dK,by rw [sw _ _ cb,if_pos rfl],by rw [bm,if_neg (fun e=>by have:=congrArg List.length e; simp at this)]; exact aR,?_,av,fun aY=>by rw [bS,hm.cont],?_,fun aY q hq=> ?_⟩
   ·obtain⟨d4,aU,a0,eL⟩:=hm.cell
    have gq:=Ej hd aU
    exact⟨d4,by rw [C5 gq,KM (zt bd (qT.1 aU))]; exact aU,a0,eL⟩
   ·refine hm.keeps.trans (own':=fun q=>q=p) ((ez.mk' bd).trans (own':=fun q=>q=p) (ez.up (own:=fun q=>q=p) rfl) fun q _ fM=>fM) fun q hq fM=> ?_
    subst fM
    exact Bb.resolve_right fun jt=>jt hq
   ·rw [bm] at hq
    split at hq
    ·cases hq; exact .inr fun fM=>bd (hm.keeps.keys _ fM)
    ·exact hm.own _ _ hq
  ·cases pN:b7 d.c1 (e7 (cx v (31 - i))) with
   | none=>rw [pN] at bl; cases bl
   | some q=>exact⟨q,d,hd,pN,aR,hm⟩
  ·obtain⟨q,J1,eL,fM,jt,qy⟩:=cP
   refine .idx rfl cb (.eq eL (.ret ⟨q,fM,?_,qy⟩))
   show cK gM (some r) (ei v (i + 1))=some q
   rw [Da,lV,jt,g2 eL,fM,m5]
 ·obtain⟨aad,cJ⟩:=s
  obtain⟨p,aF,aR,hm⟩:=hs
  simp only at aF aR hm
  subst aF
  exact⟨p,cJ,rfl,aR,hm⟩
 ·obtain⟨p,cJ,rfl,aR,hm⟩:=he
  obtain⟨d,hd⟩:=hm.tree.reads _ _ aR
  have Jv:=oq.1 hd
  refine .eq rfl (.eq hd (.eq rfl (.eq rfl ?_)))
  have iJ:cy (cT cJ p (.fC { d with dG:=true })) p=some { d with dG:=true } :=wR Jv
  refine .eq iJ (.eq rfl (.ret ?_))
  have oJ:cy (cT (cT cJ p (.fC { d with dG:=true })) p (.fC { d with dG:=true,ih:=id })) p=some { d with dG:=true,ih:=id } :=wR (oq.1 iJ)
  obtain⟨s1,s2⟩:=OG hm.tree aR hd oJ rfl fun q hq=>by rw [ss hq.symm,ss hq.symm]
  obtain⟨d4,aU,a0,eL⟩:=hm.cell
  have gq:=Ej hd aU
  have xX:fu (cT (cT cJ p (.fC { d with dG:=true })) p (.fC { d with dG:=true,ih:=id })) t=some d4:=by rw [C5 gq,C5 gq]; exact aU
  have Bb:Own hp t p∨p ∉ ec hp:=hm.own _ _ aR
  refine⟨rfl,⟨d4,xX,a0,by rw [eL]; exact s1,fun aY=> ?_⟩,?_,fun q hq=> ?_⟩
  ·rw [eL,s2,hm.cont]; rfl
  ·refine hm.keeps.trans (own':=fun q=>q=p) ((ez.up (own:=fun q=>q=p) rfl).trans (own':=fun q=>q=p) (ez.up (own:=fun q=>q=p) rfl) fun q _ fM=>fM) fun q hq fM=> ?_
   subst fM
   exact Bb.resolve_right fun jt=>jt hq
  ·rcases hq with rfl | ⟨jf,aY,J,ad⟩
   ·exact .inl (.inl rfl)
   ·rw [xX] at J; cases J
    rw [eL,zD hd oJ rfl (fun q hq=>by rw [ss hq.symm,ss hq.symm])] at ad
    exact hm.own _ _ ad
def enc:Option (Nat × Int)→Int × Int × Bool
 | none=>(0,0,false)
 | some (n,id)=>((n:Int),id,true)
theorem dQ.Fe {s:a1} (h:dQ s):∃ dE dU hz,∀ k,k < 4→nc (aI s.b1 k)=aI (rG dE dU hz) k:=by
 obtain⟨dE,dU,hz,e⟩:=h.tables
 refine⟨dE,dU,hz,fun k au=> ?_⟩
 rw [← e,Dm nc (by rw [h.l9]; exact au)]
theorem ua (t:bQ) {r:Int × Int} (aL:List cM) (au:t.cO=aL) (h:wC { (default:bQ) with cO:=aL } =some r):wC t=some r:=by
 subst au
 exact h
def nB (k:Nat):Int:=aI [1,2,3,3] k
theorem Tg {s:a1} (h:dQ s) {k:Nat} (au:k < 4):bC (wC (aI s.b1 k)) (fun r=>r.1=nB k∧ (k=1→r.2=0)):=by
 obtain⟨dE,dU,hz,e⟩:=h.Fe
 have e:=e k au
 have gN:(aI s.b1 k).cO=(aI (rG dE dU hz) k).2.2:=congrArg (·.2.2) e
 have:k=0∨k=1∨k=2∨k=3:=by omega
 rcases this with rfl | rfl | rfl | rfl
 ·exact⟨_,ua _ [sj] gN rfl,rfl,fun h=>by simp at h⟩
 ·cases dE
  ·exact⟨_,ua _ [v7] gN rfl,rfl,fun _=>rfl⟩
  ·exact⟨_,ua _ [v7,JY] gN rfl,rfl,fun _=>rfl⟩
 ·cases dU
  ·exact⟨_,ua _ [Cd,BW] gN rfl,rfl,fun h=>by simp at h⟩
  ·exact⟨_,ua _ [Cd,BW,JZ] gN rfl,rfl,fun h=>by simp at h⟩
 ·cases hz
  ·exact⟨_,ua _ [Ce] gN rfl,rfl,fun h=>by simp at h⟩
  ·exact⟨_,ua _ [Ce,J0,v7] gN rfl,rfl,fun h=>by simp at h⟩
structure xE (s:a1) (k:Nat) (jv hp:aN Cell) (p:Nat):Prop where
 cell:∃ c m,hg hp p=some c∧c.q5=nB k∧c.q6=((aI s.b1 k).cO.length:Int)∧c.jl=⟨some m⟩∧j0 hp m=some []∧
  (k=0→ ∃ q cL,c.iB= .mB ⟨some q⟩∧mz hp q=some ⟨⟨some cL⟩⟩∧lC hp cL=some []∧q ∉ ec jv∧cL ∉ ec jv)∧
  (k=1→ ∃ fb,c.iB= .mC ⟨0,32,⟨some fb⟩⟩∧jq hp fb=some []∧fb ∉ ec jv)∧
  (2≤k→ ∃ q key cap,c.iB= .mD ⟨some q⟩∧nR hp q=some (({ o5:=s,c2:= [] } :c9),key,cap)∧q ∉ ec jv)∧
  p ∉ ec jv∧m ∉ ec jv∧ (∀ q,q∈ec jv→q∈ec hp)∧ ∀ q,q∈ec jv→pat hp q=pat jv q
theorem Xt {s:a1} (h:dQ s) {k:Nat} (au:k < 4) (hp:aN Cell):dg (wN hp s ((k:Int) + 1)) (fun r=> ∃ p,r.1=some p∧xE s k hp r.2 p):=by
 unfold wN
 refine .mP (Ge h au) fun aB aF=> ?_
 subst aF
 refine .cond (fun ak=>by simp at ak; omega) fun _=> ?_
 refine .idx rfl (by rw [h.l9]; exact au) (.mP (Tg h au) fun aH ad=> .mk fun m hm=> .eq rfl (.mk fun p cw=> ?_))
 obtain⟨aaN,key⟩:=aH
 obtain⟨ad,ay⟩:=ad
 simp only at ad ay cw
 subst ad
 have jO:p≠m:=fun e=>by subst e; simp [ec] at cw
 have:k=0∨k=1∨2≤k:=by omega
 rcases this with rfl | rfl | cS
 ·have e:(nB 0 ==1)=true:=rfl
  simp only [e,cond_true]
  unfold C1
  refine .bind (P:=fun cJ=>xE s 0 hp cJ p) (.bind (P:=fun r=> ∃ q cL,r=((some q:Ref),(q,Cell.xr ⟨⟨some cL⟩⟩) :: (cL,Cell.nf []) :: (p,_) :: (m,Cell.jI []) :: hp)∧cL ∉ ec ((p,_) :: (m,Cell.jI []) :: hp)∧q ∉ ec ((cL,Cell.nf []) :: (p,_) :: (m,Cell.jI []) :: hp)) (.mk fun cL en=> .mk fun q hq=> .ret ⟨q,cL,rfl,en,hq⟩) fun bn aU=> ?_) fun cJ a0=> .ret ⟨p,rfl,a0⟩
  obtain⟨q,cL,rfl,en,hq⟩:=aU
  simp only [ec,List.map_cons,List.mem_cons,not_or] at en hq cw
  refine .eq (by simp [hg,pat,hq.1,hq.2,en.1,hq.2.2.1,Ne.symm]; rfl) (.eq rfl (.ret ?_))
  refine⟨{ q5:=nB 0,q6:=((aI s.b1 0).cO.length:Int),iB:= .mB ⟨some q⟩,jl:=⟨some m⟩ },m,?_,rfl,rfl,rfl,?_,?_,fun ak=>by simp at ak,fun ak=>by simp at ak,cw.2,hm,fun x al=>by rw [p7]; exact List.mem_cons_of_mem _ (List.mem_cons_of_mem _ (List.mem_cons_of_mem _ (List.mem_cons_of_mem _ al))),fun x al=> ?_⟩
  ·simp [hg,pat,cT,hq.1,hq.2,en.1,hq.2.2.1]
  ·simp [j0,pat,cT,hq.1,hq.2,en.1,hq.2.2.1,en.2.1,cw.1]
  ·intro _
   refine⟨q,cL,rfl,?_,?_,hq.2.2.2,en.2.2⟩
   ·simp [mz,pat,cT,hq.1,hq.2,en.1,hq.2.2.1,en.2.1,cw.1]
   ·simp [lC,pat,cT,hq.1,hq.2,en.1,hq.2.2.1,en.2.1,cw.1]
  ·have nw:q≠x:=fun e=>hq.2.2.2 (by rw [e]; exact al)
   have J2:cL≠x:=fun e=>en.2.2 (by rw [e]; exact al)
   have Ci:p≠x:=fun e=>cw.2 (by rw [e]; exact al)
   have Cj:m≠x:=fun e=>hm (by rw [e]; exact al)
   simp [zL,pat,nw,J2,Ci,Cj]
 ·have e:(nB 1 ==1)=false:=rfl
  have aR:(nB 1 ==2)=true:=rfl
  simp only [e,aR,cond_true,cond_false]
  have ay:=ay rfl
  subst ay
  obtain⟨t1,⟨t2,t3⟩,t4,_⟩:=h.lg au
  have a8:(aI (aI s.b1 1).cO 0).gC=((6:Nat):Int) + 1:=by
   obtain⟨dE,dU,hz,e⟩:=h.Fe
   have e:=congrArg (·.2.2) (e 1 au)
   show(aI (nc (aI s.b1 1)).2.2 0).gC=_
   rw [e]
   cases dE <;> rfl
  refine .bind (P:=fun cJ=>xE s 1 hp cJ p) (.bind (P:=fun cJ=>xE s 1 hp cJ p) ?_ fun _ bl=> .ret bl) fun cJ a0=> .ret ⟨p,rfl,a0⟩
  refine .idx (k:=0) rfl (by omega) ?_
  simp only [a8]
  refine .mP (Sf h (show 6 < 9 by decide)) fun bD iQ=> ?_
  subst iQ
  refine .mP (P:=fun r=>r=32) (.cond (fun _=> .idx rfl (by rw [h.xD]; decide) (.ret (h.xW (show 6 < 9 by decide)).2)) (fun ak=>by simp at ak)) fun b hb=> ?_
  subst hb
  refine .mk fun fb gV=> ?_
  simp only [ec,List.map_cons,List.mem_cons,not_or] at gV cw
  refine .eq rfl (.eq (by simp [hg,pat,gV.1]; rfl) (.eq rfl (.ret ?_)))
  refine⟨{ q5:=nB 1,q6:=((aI s.b1 1).cO.length:Int),iB:= .mC ⟨0,32,⟨some fb⟩⟩,jl:=⟨some m⟩ },m,?_,rfl,rfl,rfl,?_,fun ak=>by simp at ak,?_,fun ak=>by simp at ak,cw.2,hm,fun x al=>by rw [p7]; exact List.mem_cons_of_mem _ (List.mem_cons_of_mem _ (List.mem_cons_of_mem _ al)),fun x al=> ?_⟩
  ·simp [hg,pat,cT,gV.1]
  ·simp [j0,pat,cT,gV.1,gV.2.1,cw.1]
  ·intro _
   refine⟨fb,rfl,?_,gV.2.2⟩
   simp [jq,pat,cT,gV.1,gV.2.1,cw.1]
  ·have nw:fb≠x:=fun e=>gV.2.2 (by rw [e]; exact al)
   have Ci:p≠x:=fun e=>cw.2 (by rw [e]; exact al)
   have Cj:m≠x:=fun e=>hm (by rw [e]; exact al)
   simp [zL,pat,nw,Ci,Cj]
 ·have e:(nB k ==1)=false:=by
   have:k=2∨k=3:=by omega
   rcases this with rfl | rfl <;> rfl
  have aR:(nB k ==2)=false:=by
   have:k=2∨k=3:=by omega
   rcases this with rfl | rfl <;> rfl
  simp only [e,aR,cond_true,cond_false]
  refine .bind (P:=fun cJ=>xE s k hp cJ p) (.bind (P:=fun cJ=>xE s k hp cJ p) ?_ fun _ bl=> .ret bl) fun cJ a0=> .ret ⟨p,rfl,a0⟩
  refine .eq rfl (.any fun cr=> .mk fun q hq=> ?_)
  simp only [ec,List.map_cons,List.mem_cons,not_or] at hq cw
  refine .eq (by simp [hg,pat,hq.1]; rfl) (.eq rfl (.ret ?_))
  refine⟨{ q5:=nB k,q6:=((aI s.b1 k).cO.length:Int),iB:= .mD ⟨some q⟩,jl:=⟨some m⟩ },m,?_,rfl,rfl,rfl,?_,fun ak=>by omega,fun ak=>by omega,fun _=>⟨q,cr.1,cr.2,rfl,?_,hq.2.2⟩,cw.2,hm,fun x al=>by rw [p7]; exact List.mem_cons_of_mem _ (List.mem_cons_of_mem _ (List.mem_cons_of_mem _ al)),fun x al=> ?_⟩
  ·simp [hg,pat,cT,hq.1]
  ·simp [j0,pat,cT,hq.1,hq.2.1,cw.1]
  ·simp [nR,pat,cT,hq.1]
  ·have nw:q≠x:=fun e=>hq.2.2 (by rw [e]; exact al)
   have Ci:p≠x:=fun e=>cw.2 (by rw [e]; exact al)
   have Cj:m≠x:=fun e=>hm (by rw [e]; exact al)
   simp [zL,pat,nw,Ci,Cj]
theorem LO {α:Type} {b:α→α→Bool} (hb:r2 b) {q:α→Bool} :∀ {l:List α} {c:α},l.Pairwise (fun x y=>b x y=true)→c∈l→q c=true→ (∀ d∈l,q d=true→d=c∨b c d=true)→l.find? q=some c
 | [],c,_,ak,_,_=>by cases ak
 | a :: l,c,hs,ak,hq,hd=>by
   obtain⟨J,ad⟩:=List.pairwise_cons.1 hs
   by_cases n8:q a=true
   ·rw [List.find?_cons_of_pos n8]
    rcases hd a (by simp) n8 with h | h
    ·rw [h]
    ·rcases List.mem_cons.1 ak with ay | ay
     ·rw [ay]
     ·have:=hb.asymm _ _ (J c ay)
      rw [this] at h; cases h
   ·rw [List.find?_cons_of_neg n8]
    rcases List.mem_cons.1 ak with ay | ay
    ·rw [ay] at hq; exact absurd hq n8
    ·exact LO hb ad ay hq fun d hd' aae=>hd d (by simp [hd']) aae
theorem UH {α:Type} {b:α→α→Bool} (hb:r2 b) {q:α→Bool} {l:List α} {c:α} (h:pw b l) (ak:c∈l) (hq:q c=true) (hd:∀ d∈l,q d=true→d=c∨b c d=true):(g1 b l).find? q=some c:=
 LO hb (GB hb h) (sO.2 ak) hq fun d hd'=>hd d (sO.1 hd')
theorem kZ.uniq {s:a1} {k:Nat} :∀ {l:List aw},kZ s k l→ ∀ {a c:aw},a∈l→c∈l→a.cu=c.cu→a=c:=fun {l} h {a c} bd ak e=>by
 have aP:=h.num
 clear h
 induction l with
 | nil=>cases bd
 | cons x l bH=>
   obtain⟨J,ad⟩:=List.pairwise_cons.1 aP
   rcases List.mem_cons.1 bd with av | av <;> rcases List.mem_cons.1 ak with bm | bm
   ·rw [av,bm]
   ·rw [av] at e; exact absurd e (J c bm)
   ·rw [bm] at e; exact absurd e.symm (J a av)
   ·exact bH av bm ad
theorem dQ.H8 {s:a1} (h:dQ s):(aI s.b1 0).cO= [sj]:=by
 obtain⟨dE,dU,hz,e⟩:=h.Fe
 exact congrArg (·.2.2) (e 0 (by decide))
theorem dQ.H9 {s:a1} (h:dQ s):∃ b,(aI s.b1 1).cO=sX b:=by
 obtain⟨dE,dU,hz,e⟩:=h.Fe
 exact⟨dE,congrArg (·.2.2) (e 1 (by decide))⟩
def Fw (s:a1) (k:Nat):Nat:=(aI s.b1 k).cO.length
theorem UI {α:Type} [Inhabited α] {n:Nat} {f:Fin n→α} {j:Nat} (h:j < n):b7 (Vector.ofFn f) j=f ⟨j,h⟩:=by unfold b7; simp [h]
def eK (e:bh):Vector aA 4:=Vector.ofFn fun i=>if i.1 < e.cZ.length then(aI e.cZ i.1).c6 else default
def gQ (p:Vector aA 4):Vector aA 4:=h2 p 0 default
theorem wS {e:bh} {j:Nat} (h:j < 4):b7 (eK e) j=if j < e.cZ.length then(aI e.cZ j).c6 else default:=UI h
theorem Ms {p:Vector aA 4} {j:Nat} :b7 (gQ p) j=if j=0 then default else b7 p j:=by unfold gQ; rw [sw _ _ (by decide)]
theorem OJ {v w:Vector aA 4} :v=w↔b7 v 0=b7 w 0∧b7 v 1=b7 w 1∧b7 v 2=b7 w 2∧b7 v 3=b7 w 3:=by
 refine⟨fun h=>by rw [h]; exact⟨rfl,rfl,rfl,rfl⟩,fun⟨bG,J,ad,ay⟩=>LG fun j aG=> ?_⟩
 rcases (show j=0∨j=1∨j=2∨j=3 by omega) with rfl | rfl | rfl | rfl <;> assumption
theorem TV {v w:aA} {n m:Nat} :ei v n=ei w m↔n=m∧ ∀ i,i < n→cx v (31 - i)=cx w (31 - i):=by
 unfold ei
 constructor
 ·intro h
  have ao:=congrArg List.length h
  simp only [List.length_map,List.length_range] at ao
  subst ao
  refine⟨rfl,fun i ar=> ?_⟩
  have:=congrArg (·[i]?) h
  simpa [ar] using this
 ·rintro ⟨rfl,h⟩
  exact List.map_congr_left fun i ar=>h i (List.mem_range.1 ar)
def iZ (e:bh):List Bool:=ei (aI e.cZ 0).c6 (aI e.cZ 0).fU.toNat
theorem Bc {s:a1} (h:dQ s) {e:bh} (he:jr s 1 e):oD 2 32 (aI e.cZ 0):=by
 have hm:=he.BX 0
 obtain⟨b,hb⟩:=h.H9
 rw [hb] at hm
 cases b
 ·exact hm (by decide)
 ·exact hm (by decide)
theorem z9 {k:Int} (bG:0≤k) (J:k≤32) {j:Nat} :lead 32 k j=true↔32 - k≤ (j:Int)∧j < 32:=by
 unfold lead; rw [Bool.and_eq_true,decide_eq_true_eq,decide_eq_true_eq]; omega
theorem UJ {m:bR} (hm:oD 2 32 m) {v:aA} {n:Nat} (aP:n≤32):ei m.c6 m.fU.toNat=ei v n↔m.fU=n∧ ∀ j,j < 128→lead 32 m.fU j=true→cx v j=cx m.c6 j:=by
 have hp:=hm.pre
 rw [TV]
 constructor
 ·rintro ⟨J,ad⟩
  refine⟨by omega,fun j aG ao=> ?_⟩
  rw [z9 hp.1 hp.2] at ao
  have:=ad (31 - j) (by omega)
  rw [show 31 - (31 - j)=j by omega] at this
  exact this.symm
 ·rintro ⟨J,ad⟩
  refine⟨by omega,fun i ar=> ?_⟩
  exact(ad (31 - i) (by omega) ((z9 hp.1 hp.2).2 (by omega))).symm
theorem OK {s:a1} (h:dQ s) {e:bh} (he:jr s 1 e):e.g8=0:=by
 refine he.pri fun i ar=> ?_
 obtain⟨b,hb⟩:=h.H9
 rw [hb] at ar ⊢
 cases b
 ·have:i=0:=by have:i < 1:=ar; omega
  subst this; decide
 ·have:i=0∨i=1:=by have:i < 2:=ar; omega
  rcases this with rfl | rfl <;> decide
theorem Own.iff {hp hp':aN Cell} {t:Nat} {c:fm} (ak:fu hp t=some c) (h:∀ q,Own hp t q→pat hp' q=pat hp q):fu hp' t=some c∧ (∀ aY,cK hp' c.cD aY=cK hp c.cD aY)∧ ∀ q,Own hp' t q↔Own hp t q:=by
 have J:fu hp' t=some c:=by rw [C4 (h t (.inl rfl))]; exact ak
 have ad:∀ aY,cK hp' c.cD aY=cK hp c.cD aY:=fun aY=>Lh fun p cs hp=>tW (h p (.inr ⟨c,cs,ak,hp⟩))
 refine⟨J,ad,fun q=>⟨fun hq=> ?_,fun hq=> ?_⟩⟩
 ·rcases hq with rfl | ⟨jf,aY,av,bm⟩
  ·exact .inl rfl
  ·rw [J] at av; cases av
   rw [ad] at bm
   exact .inr ⟨c,aY,ak,bm⟩
 ·rcases hq with rfl | ⟨jf,aY,av,bm⟩
  ·exact .inl rfl
  ·rw [ak] at av; cases av
   exact .inr ⟨c,aY,J,by rw [ad]; exact bm⟩
theorem iu.congr {hp hp':aN Cell} {t:Nat} {g:List Bool→Option Int} (h:iu hp t g) (bd:∀ q,Own hp t q→pat hp' q=pat hp q):iu hp' t g∧ ∀ q,Own hp' t q↔Own hp t q:=by
 obtain⟨c,ak,hb,bJ,bE⟩:=h.ok
 obtain⟨J,ad,ay⟩:=Own.iff ak bd
 refine⟨⟨⟨c,J,hb,⟨fun aY p hp=> ?_,fun aY cs p av bm=> ?_,fun aY p av=>bJ.dep aY p (by rw [← ad]; exact av)⟩,fun aY=> ?_⟩⟩,ay⟩
 ·rw [ad] at hp
  obtain⟨d,hd⟩:=bJ.reads aY p hp
  exact⟨d,by rw [tW (bd p (.inr ⟨c,aY,ak,hp⟩))]; exact hd⟩
 ·rw [ad] at av bm
  exact bJ.inj aY cs p av bm
 ·rw [← bE]
  cases e:cK hp c.cD aY with
  | none=>rw [ki e,ki (by rw [ad]; exact e)]
  | some p=>
    obtain⟨d,hd⟩:=bJ.reads aY p e
    rw [jD e hd,jD (by rw [ad]; exact e) (by rw [tW (bd p (.inr ⟨c,aY,ak,e⟩))]; exact hd)]
theorem iu.uF {hp:aN Cell} {t:Nat} {g:List Bool→Option Int} (h:iu hp t g) {q:Nat} (hq:Own hp t q):q∈ec hp:=by
 obtain⟨c,ak,hb,bJ,bE⟩:=h.ok
 rcases hq with rfl | ⟨jf,aY,av,bm⟩
 ·exact ie (qT.1 ak)
 ·rw [ak] at av; cases av
  obtain⟨d,hd⟩:=bJ.reads aY q bm
  exact ie (oq.1 hd)
theorem iu.DN {hp:aN Cell} {t:Nat} {g:List Bool→Option Int} (h:iu hp t g) {q:Nat} (hq:Own hp t q):(∃ c,pat hp q=some (.iV c))∨ ∃ c,pat hp q=some (.fC c):=by
 obtain⟨c,ak,hb,bJ,bE⟩:=h.ok
 rcases hq with rfl | ⟨jf,aY,av,bm⟩
 ·exact .inl ⟨c,qT.1 ak⟩
 ·rw [ak] at av; cases av
  obtain⟨d,hd⟩:=bJ.reads aY q bm
  exact .inr ⟨d,oq.1 hd⟩
def h8 (a c:bh):Bool:=decide (a.bo=c.bo∧a.cZ=c.cZ∧a.g8=c.g8)
theorem uG {a c:bh} :h8 a c=true↔a.bo=c.bo∧a.cZ=c.cZ∧a.g8=c.g8:=by unfold h8; rw [decide_eq_true_eq]
theorem Dz (a:bh):h8 a a=true:=uG.2 ⟨rfl,rfl,rfl⟩
theorem Hg (a c:bh):h8 a c=h8 c a:=by
 rw [Bool.eq_iff_iff,uG,uG]
 exact⟨fun⟨x,y,z⟩=>⟨x.symm,y.symm,z.symm⟩,fun⟨x,y,z⟩=>⟨x.symm,y.symm,z.symm⟩⟩
theorem LP {a c d:bh} (J:h8 a c=true) (ad:h8 c d=true):h8 a d=true:=by
 rw [uG] at *
 exact⟨J.1.trans ad.1,J.2.1.trans ad.2.1,J.2.2.trans ad.2.2⟩
theorem Hh {a c:bR} (J:a.fO=c.fO) (ad:a.c6=c.c6) (ay:a.gU=c.gU) (aU:a.fU=c.fU) (a0:a.k4=c.k4):a=c:=by
 cases a; cases c; simp_all
theorem Mt {b:Int} {m oh:bR} (h:oD 1 b m) (cX:oD 1 b oh) (e:m.c6=oh.c6):m=oh:=
 Hh (by rw [h.Pv rfl,cX.Pv rfl]) e (by rw [h.fX (by decide),cX.fX (by decide)]) (by rw [h.Px (by decide),cX.Px (by decide)]) (by rw [h.Fa (by decide),cX.Fa (by decide)])
theorem UK {m oh:bR} (h:oD 2 32 m) (cX:oD 2 32 oh) (e:ei m.c6 m.fU.toNat=ei oh.c6 oh.fU.toNat):m=oh:=by
 have hp:=h.pre
 have hp':=cX.pre
 obtain⟨n,aP⟩:=Int.eq_ofNat_of_zero_le hp'.1
 rw [aP,Int.toNat_natCast] at e
 obtain⟨aF,aR⟩:=(UJ h (by omega)).1 e
 have dh:m.fU=oh.fU:=by omega
 have aaf:m.fO=oh.fO:=by
  cases av:m.fO <;> cases bm:oh.fO
  ·rfl
  ·have:=cX.Pw rfl bm
   have:=h.off av
   have bG:(default:bR).fU=0:=rfl
   rw [this,bG] at dh; omega
  ·have:=h.Pw rfl av
   have:=cX.off bm
   have bG:(default:bR).fU=0:=rfl
   rw [this,bG] at dh; omega
  ·rfl
 refine Hh aaf (Hy fun j aG=> ?_) (by rw [h.fX (by decide),cX.fX (by decide)]) dh (by rw [h.Fa (by decide),cX.Fa (by decide)])
 cases ao:lead 32 m.fU j with
 | true=>exact(aR j aG ao).symm
 | false=>
   have lS:cx m.c6 j=false:=by
    rw [Bool.eq_false_iff]; intro a6
    have:=h.Jq rfl j aG a6
    rw [(z9 hp.1 hp.2).2 this] at ao; cases ao
   have mN:cx oh.c6 j=false:=by
    rw [Bool.eq_false_iff]; intro a6
    have:=cX.Jq rfl j aG a6
    rw [dh,(z9 hp'.1 hp'.2).2 this] at ao; cases ao
   rw [lS,mN]
theorem EH {α:Type} [Inhabited α] {l:List α} (h:l.length=1):l= [aI l 0]:=by
 match l,h with
 | [x],_=>rfl
theorem OL {α:Type} [Inhabited α] {l:List α} (h:l.length=2):l= [aI l 0,aI l 1]:=by
 match l,h with
 | [x,y],_=>rfl
theorem BZ {s:a1} (h:dQ s) {a c:bh} (bd:jr s 0 a) (ak:jr s 0 c):h8 a c=true↔eK a=eK c:=by
 rw [uG]
 have pV:=bd.len; have lc:=ak.len
 have Ck:=bd.BX 0; have qG:=ak.BX 0
 have Fx:=bd.pri; have Fy:=ak.pri
 rw [h.H8] at pV lc Ck qG Fx Fy
 have au:∀ i,i < [sj].length→ (aI [sj] i).dp≤2:=by decide
 refine⟨fun⟨J,ad,ay⟩=>by unfold eK; rw [ad],fun e=>⟨by rw [bd.lg,ak.lg],?_,by rw [Fx au,Fy au]⟩⟩
 have jU:=(OJ.1 e).1
 rw [wS (by decide),wS (by decide),pV,lc] at jU
 have jU:(aI a.cZ 0).c6=(aI c.cZ 0).c6:=jU
 rw [EH (l:=a.cZ) pV,EH (l:=c.cZ) lc,Mt (Ck (by decide)) (qG (by decide)) jU]
theorem xZ {s:a1} (h:dQ s) {a c:bh} (bd:jr s 1 a) (ak:jr s 1 c):h8 a c=true↔gQ (eK a)=gQ (eK c)∧iZ a=iZ c:=by
 rw [uG]
 have pV:=bd.len; have lc:=ak.len
 have Ck:=bd.BX 1; have qG:=ak.BX 1
 have Fx:=OK h bd; have Fy:=OK h ak
 have J3:=Bc h bd; have aag:=Bc h ak
 obtain⟨b,hb⟩:=h.H9
 rw [hb] at pV lc Ck qG
 refine⟨fun⟨J,ad,ay⟩=>by unfold eK iZ; rw [ad]; exact⟨rfl,rfl⟩,fun⟨e,e'⟩=>⟨by rw [bd.lg,ak.lg],?_,by rw [Fx,Fy]⟩⟩
 have bG:=UK J3 aag e'
 cases b
 ·rw [EH (l:=a.cZ) pV,EH (l:=c.cZ) lc,bG]
 ·have aF:=(OJ.1 e).2.1
  rw [Ms,Ms,if_neg (by decide),if_neg (by decide),wS (by decide),wS (by decide),pV,lc] at aF
  have aF:(aI a.cZ 1).c6=(aI c.cZ 1).c6:=aF
  rw [OL (l:=a.cZ) pV,OL (l:=c.cZ) lc,bG,Mt (Ck (by decide)) (qG (by decide)) aF]
structure h9 (s:a1) (k:Nat) (l:List aw):Prop where
 ok:kZ s k l
 key:l.Pairwise fun a c=>h8 a.bV c.bV=false
theorem h9.uniq {s:a1} {k:Nat} {l:List aw} (h:h9 s k l) {a c:aw} (bd:a∈l) (ak:c∈l) (e:h8 a.bV c.bV=true):a=c:=by
 have aP:=h.key
 clear h
 induction l with
 | nil=>cases bd
 | cons x l bH=>
   obtain⟨J,ad⟩:=List.pairwise_cons.1 aP
   rcases List.mem_cons.1 bd with av | av <;> rcases List.mem_cons.1 ak with bm | bm
   ·rw [av,bm]
   ·rw [av,J c bm] at e; cases e
   ·rw [bm,Hg,J a av] at e; cases e
   ·exact bH av bm ad
def fq (l:List aw) (e:bh):Option aw:=l.find? fun i=>h8 i.bV e
theorem wT {l:List aw} {e:bh} {i:aw} (h:fq l e=some i):i∈l∧h8 i.bV e=true:=by
 unfold fq at h
 have ad:=List.find?_some h
 exact⟨List.mem_of_find?_eq_some h,ad⟩
theorem uh {l:List aw} {e:bh} (h:fq l e=none):∀ i∈l,h8 i.bV e=false:=fun i ar=>by
 have:=List.find?_eq_none.1 h i ar
 simpa using this
def sk (o:Option aw):Int × Bool:=match o with | some i=>(i.cu,true) | none=>(0,false)
def mT {α β:Type} (l:List (α × β)):Prop:=l.Pairwise fun a c=>a.1≠c.1
theorem LQ {α β:Type} [DecidableEq α]:∀ {l:List (α × β)} {x:α} {v:β} {a:α × β},a∈fB l x v→a.1=x∨a∈l
 | [],x,v,a,h=>by
   have:a=(x,v):=by simpa [fB] using h
   rw [this]; exact .inl rfl
 | (k,w) :: r,x,v,a,h=>by
   unfold fB at h
   split at h
   ·rcases List.mem_cons.1 h with h | h
    ·rw [h]; exact .inl rfl
    ·exact .inr (by simp [h])
   ·rcases List.mem_cons.1 h with h | h
    ·exact .inr (by simp [h])
    ·exact(LQ h).imp id fun h=>List.mem_cons_of_mem _ h
theorem mT.put {α β:Type} [DecidableEq α]:∀ {l:List (α × β)} {x:α} {v:β},mT l→mT (fB l x v)
 | [],x,v,_=>by unfold fB mT; simp
 | (k,w) :: r,x,v,h=>by
   obtain⟨J,ad⟩:=List.pairwise_cons.1 h
   unfold fB
   split
   ·rename_i e
    refine List.pairwise_cons.2 ⟨fun a bd=> ?_,ad⟩
    have:=J a bd
    rw [e]; exact this
   ·rename_i e
    refine List.pairwise_cons.2 ⟨fun a bd=> ?_,mT.put ad⟩
    rcases LQ bd with g | g
    ·rw [g]; exact fun e'=>e e'.symm
    ·exact J a g
theorem LR {α β:Type} [DecidableEq α]:∀ {l:List (α × β)} {x:α} {a:α × β},a∈hj l x→a∈l
 | [],x,a,h=>by cases h
 | (k,w) :: r,x,a,h=>by
   unfold hj at h
   split at h
   ·exact List.mem_cons_of_mem _ h
   ·rcases List.mem_cons.1 h with h | h
    ·simp [h]
    ·exact List.mem_cons_of_mem _ (LR h)
theorem mT.del {α β:Type} [DecidableEq α]:∀ {l:List (α × β)} {x:α},mT l→mT (hj l x)
 | [],x,_=>by unfold hj mT; exact .nil
 | (k,w) :: r,x,h=>by
   obtain⟨J,ad⟩:=List.pairwise_cons.1 h
   unfold hj
   split
   ·exact ad
   ·exact List.pairwise_cons.2 ⟨fun a bd=>J a (LR bd),mT.del ad⟩
theorem Mu {α β:Type} [DecidableEq α]:∀ {l:List (α × β)} {x:α},(∀ a∈l,a.1≠x)→dI l x=none
 | [],_,_=>rfl
 | (k,w) :: r,x,h=>by
   unfold dI
   rw [if_neg fun e=>h (k,w) (by simp) e.symm,Mu fun a bd=>h a (by simp [bd])]
theorem zu {α β:Type} [DecidableEq α]:∀ {l:List (α × β)} {x y:α},mT l→dI (hj l x) y=if y=x then none else dI l y
 | [],x,y,_=>by
   show none=if y=x then none else none
   split <;> rfl
 | (k,w) :: r,x,y,h=>by
   obtain⟨J,ad⟩:=List.pairwise_cons.1 h
   unfold hj
   by_cases e:x=k
   ·rw [if_pos e]
    by_cases aR:y=x
    ·rw [if_pos aR,aR,e]; exact Mu fun a bd=>(J a bd).symm
    ·rw [if_neg aR]; show _=if y=k then _ else _; rw [if_neg (by rw [← e]; exact aR)]
   ·rw [if_neg e]
    show(if y=k then some w else dI (hj r x) y)=_
    by_cases aR:y=k
    ·rw [if_pos aR,if_neg (by rw [aR]; exact fun dh=>e dh.symm)]; show _=if y=k then _ else _; rw [if_pos aR]
    ·rw [if_neg aR,zu ad]
     show _=if y=x then none else if y=k then _ else _
     rw [if_neg aR]
structure xd (s:a1) (hp:aN Cell) (q:Nat) (l:List aw) (own:Nat→Prop):Prop where
 ok:∃ m em,mz hp q=some ⟨⟨some m⟩⟩∧lC hp m=some em∧own q∧own m∧ (∀ cU n,dI em cU=some n↔ ∃ i∈l,eK i.bV=cU∧i.cu=n)∧mT em
structure l1 (s:a1) (hp:aN Cell) (m:Nat) (l:List aw) (own:Nat→Prop):Prop where
 ok:∃ em,jq hp m=some em∧own m∧
  (∀ cU r,dI em cU=some r→ ∃ t g,r=some t∧iu hp t g∧ (∀ q,Own hp t q→own q)∧ ∀ aY n,g aY=some n↔ ∃ i∈l,gQ (eK i.bV)=cU∧iZ i.bV=aY∧i.cu=n)∧
  (∀ cU,dI em cU=none→ ∀ i∈l,gQ (eK i.bV)≠cU)∧
  (∀ cU ja t e8,dI em cU=some (some t)→dI em ja=some (some e8)→cU≠ja→ ∀ q,Own hp t q→ ¬ Own hp e8 q)∧mT em
structure xe (s:a1) (k:Nat) (hp:aN Cell) (q:Nat) (l:List aw) (own:Nat→Prop):Prop where
 ok:∃ key cap,nR hp q=some (ru s k l,key,cap)∧own q
def ph (s:a1) (k:Nat) (hp:aN Cell) (f:gw) (l:List aw) (own:Nat→Prop):Prop:=
 (k=0∧ ∃ q,f= .mB ⟨some q⟩∧xd s hp q l own)∨ (k=1∧ ∃ m,f= .mC ⟨0,32,⟨some m⟩⟩∧l1 s hp m l own)∨ (2≤k∧ ∃ q,f= .mD ⟨some q⟩∧xe s k hp q l own)
theorem Gf {hp hp':aN Cell} {p:Nat} (h:pat hp' p=pat hp p):mz hp' p=mz hp p:=by unfold mz; rw [h]
theorem Si {hp hp':aN Cell} {p:Nat} (h:pat hp' p=pat hp p):lC hp' p=lC hp p:=by unfold lC; rw [h]
theorem C6 {hp hp':aN Cell} {p:Nat} (h:pat hp' p=pat hp p):jq hp' p=jq hp p:=by unfold jq; rw [h]
theorem Sj {hp hp':aN Cell} {p:Nat} (h:pat hp' p=pat hp p):nR hp' p=nR hp p:=by unfold nR; rw [h]
theorem Sk {hp hp':aN Cell} {p:Nat} (h:pat hp' p=pat hp p):hg hp' p=hg hp p:=by unfold hg; rw [h]
theorem Sl {hp hp':aN Cell} {p:Nat} (h:pat hp' p=pat hp p):j0 hp' p=j0 hp p:=by unfold j0; rw [h]
theorem ph.congr {s:a1} {k:Nat} {hp hp':aN Cell} {f:gw} {l:List aw} {own:Nat→Prop} (h:ph s k hp f l own) {own':Nat→Prop} (a9:∀ q,q∈ec hp→own q→own' q) (bd:∀ q,own q→pat hp' q=pat hp q):ph s k hp' f l own':=by
 rcases h with⟨rfl,q,rfl,h⟩ | ⟨rfl,m,rfl,h⟩ | ⟨au,q,rfl,h⟩
 ·obtain⟨m,em,J,ad,ay,aU,a0,ix⟩:=h.ok
  refine .inl ⟨rfl,q,rfl,⟨m,em,by rw [Gf (bd q ay)]; exact J,by rw [Si (bd m aU)]; exact ad,a9 q (ie (sH J)) ay,a9 m (ie (p9 ad)) aU,a0,ix⟩⟩
 ·obtain⟨em,J,ad,ay,aU,a0,ix⟩:=h.ok
  have key:∀ cU r,dI em cU=some r→ ∃ t g,r=some t∧iu hp t g∧iu hp' t g∧ (∀ q,Own hp t q→own q)∧ (∀ q,Own hp' t q↔Own hp t q)∧ ∀ aY n,g aY=some n↔ ∃ i∈l,gQ (eK i.bV)=cU∧iZ i.bV=aY∧i.cu=n:=fun cU r aS=>by
   obtain⟨t,g,rfl,av,bm,bS⟩:=ay cU r aS
   obtain⟨dq,oV⟩:=av.congr fun q hq=>bd q (bm q hq)
   exact⟨t,g,rfl,av,dq,bm,oV,bS⟩
  refine .inr (.inl ⟨rfl,m,rfl,⟨em,by rw [C6 (bd m ad)]; exact J,a9 m (ie (l0 J)) ad,fun cU r aS=> ?_,aU,fun cU ja t e8 bJ vR cH q hq=> ?_,ix⟩⟩)
  ·obtain⟨t,g,rfl,g0,av,bm,bS,dq⟩:=key cU r aS
   exact⟨t,g,rfl,av,fun q hq=>a9 q (g0.uF ((bS q).1 hq)) (bm q ((bS q).1 hq)),dq⟩
  ·obtain⟨_,g,e,g0,av,bm,bS,dq⟩:=key cU _ bJ
   obtain⟨_,eU,e',abn,aah,aai,aaj,abo⟩:=key ja _ vR
   cases e; cases e'
   rw [aaj]
   exact a0 cU ja t e8 bJ vR cH q ((bS q).1 hq)
 ·obtain⟨key,cap,J,ad⟩:=h.ok
  exact .inr (.inr ⟨au,q,rfl,⟨key,cap,by rw [Sj (bd q ad)]; exact J,a9 q (ie (uy J)) ad⟩⟩)
theorem DA {e:bh} (ao:e.cZ.length≤4):sq e=some (eK e):=by
 refine bC.get ?_
 unfold sq
 refine .eq (a:=e.cZ) (by unfold uz; rw [if_pos ⟨by omega,by omega,by omega⟩,Int.toNat_zero,List.drop_zero,Nat.sub_zero,List.take_of_length_le (by omega)]) ?_
 refine bC.loop e.cZ.length (fun i st=>st.1=(i:Int)∧ ∀ j,j < 4→b7 st.2 j=if j < i then(aI e.cZ j).c6 else default) (by omega) ⟨rfl,fun j aG=>by rw [C0]; rfl⟩ (fun i st ar hs=> ?_) (fun st hs=> ?_)
 ·obtain⟨j,v⟩:=st
  obtain⟨aF,aR⟩:=hs
  simp only at aF aR; subst aF
  refine .cond (fun _=> ?_) (fun ak=>by simp at ak; omega)
  refine .idx rfl ar (.idx rfl (by omega) (.ret ⟨gT (by omega),fun j aG=> ?_⟩))
  rw [sw _ _ (by omega)]
  by_cases hI:j=i
  ·rw [if_pos hI,if_pos (by omega),hI]
  ·rw [if_neg hI,aR j aG]
   by_cases h:j < i
   ·rw [if_pos h,if_pos (by omega)]
   ·rw [if_neg h,if_neg (by omega)]
 ·obtain⟨j,v⟩:=st
  obtain⟨aF,aR⟩:=hs
  simp only at aF aR; subst aF
  refine⟨_,by simp; rfl,.ret ?_⟩
  exact LG fun j aG=>by rw [aR j aG,wS aG]
theorem jr.EI {s:a1} (h:dQ s) {k:Nat} (au:k < 4) {e:bh} (he:jr s k e):e.cZ.length≤4∧1≤e.cZ.length:=by
 have:=(h.lg au).2.1
 rw [he.len]; omega
theorem TW {a c:List bR} (ao:a.length≤1000):yl a c=some (decide (a=c)):=by
 refine bC.get ?_
 unfold yl
 refine .cond (fun h=> .ret ?_) fun h=> ?_
 ·have:a≠c:=fun e=>by rw [e] at h; simp at h
  simp [this]
 have E3:c.length=a.length:=by
  have:(a.length:Int)=c.length:=by simpa using h
  omega
 refine bC.loop a.length (fun i st=>st=(i:Int)∧ ∀ j,j < i→aI a j=aI c j) (by omega) ⟨rfl,fun j aG=>by omega⟩ (fun i st ar hs=> ?_) (fun st hs=> ?_)
 ·obtain⟨rfl,hs⟩:=hs
  refine .cond (fun _=> ?_) (fun ak=>by simp at ak; omega)
  refine .idx rfl ar (.idx rfl (by omega) (.cond (fun cH=> .ret ?_) fun he=> .ret ⟨gT (by omega),fun j aG=> ?_⟩))
  ·simp only [Sum.elim_inr]
   refine .ret ?_
   have:a≠c:=fun e=>by rw [e] at cH; simp at cH
   simp [this]
  ·by_cases hI:j=i
   ·subst hI; simpa using he
   ·exact hs j (by omega)
 ·obtain⟨rfl,hs⟩:=hs
  refine⟨_,by simp; rfl,?_⟩
  simp only [Sum.elim_inl]
  refine .ret ?_
  have:a=c:=List.ext_getElem E3.symm fun j J ad=>by
   have:=hs j J
   rwa [eV _ J,eV _ ad] at this
  simp [this]
theorem SG {a c:bh} (ao:a.cZ.length≤1000):y1 a c=some (h8 a c):=by
 refine bC.get ?_
 unfold y1 h8
 refine .dd (P:=fun r=>r=decide (a.cZ=c.cZ)) (fun _=>⟨_,TW ao,rfl⟩) fun y a5=> .ret ?_
 by_cases h:a.bo=c.bo
 ·rw [a5 (by simpa using h)]
  rw [Bool.eq_iff_iff]
  simp [h]
 ·simp [h]
theorem Xu {s:a1} (h:dQ s) {hp:aN Cell} {q:Nat} {l:List aw} {own:Nat→Prop} (hq:xd s hp q l own) (ao:h9 s 0 l) {e:bh} (he:jr s 0 e):yM hp ⟨some q⟩ e=some (sk (fq l e)):=by
 obtain⟨m,em,J,ad,_,_,a0,_⟩:=hq.ok
 refine bC.get ?_
 unfold yM wm
 refine .eq (DA (he.EI h (by decide)).1) ?_
 have hm:dI em (eK e)=(fq l e).map (·.cu):=by
  cases a8:fq l e with
  | none=>
    cases bE:dI em (eK e) with
    | none=>rfl
    | some n=>
      obtain⟨i,ar,bl,_⟩:=(a0 _ _).1 bE
      have:=uh a8 i ar
      rw [(BZ h (ao.ok.ok i ar).fw he).2 bl] at this; cases this
  | some i=>
    obtain⟨ar,au⟩:=wT a8
    exact(a0 _ _).2 ⟨i,ar,(BZ h (ao.ok.ok i ar).fw he).1 au,rfl⟩
 refine .eq (a:=sk (fq l e)) ?_ (.ret rfl)
 show(mz hp q).bind _=_
 rw [J]
 show(lC hp m).bind _=_
 rw [ad]
 show some ((dI em (eK e)).getD default,(dI em (eK e)).isSome)=_
 rw [hm]
 cases fq l e <;> rfl
theorem Hi {s:a1} (h:dQ s) {e:bh} (he:jr s 1 e) (m:e2):tF ⟨0,32,m⟩ e=some (gQ (eK e),(aI e.cZ 0).c6,(aI e.cZ 0).fU):=by
 have ao:=he.EI h (by decide)
 refine bC.get ?_
 unfold tF Cu
 refine .eq (DA ao.1) (.eq (a:=(gQ (eK e),b7 (eK e) 0)) rfl (.cond (fun ak=>by have ak:(0:Int)≥ (e.cZ.length:Int):=of_decide_eq_true ak; omega) fun _=> .idx (k:=0) rfl (by omega) (.ret ?_)))
 rw [wS (by decide),if_pos (by omega)]
theorem GS {m:bR} (h:oD 2 32 m):∀ j,j < 128→cx m.c6 j=true→lead 32 m.fU j=true:=fun j aG a6=>
 (z9 h.pre.1 h.pre.2).2 (h.Jq rfl j aG a6)
theorem Xv {s:a1} (h:dQ s) {hp:aN Cell} {m:Nat} {l:List aw} {own:Nat→Prop} (hq:l1 s hp m l own) (ao:h9 s 1 l) {e:bh} (he:jr s 1 e):yw hp ⟨0,32,⟨some m⟩⟩ e=some (sk (fq l e)):=by
 obtain⟨em,J,_,ay,aU,_⟩:=hq.ok
 have gO:=Bc h he
 refine bC.get ?_
 unfold yw
 refine .eq (Hi h he _) (.eq rfl (.eq J (.eq rfl ?_)))
 obtain⟨n,aP⟩:=Int.eq_ofNat_of_zero_le gO.pre.1
 have Bd:n≤32:=by have:=gO.pre.2; omega
 have sY:=GS gO
 refine .eq (a:=sk (fq l e)) ?_ (.ret rfl)
 simp only
 cases aS:dI em (gQ (eK e)) with
 | none=>
   have a8:fq l e=none:=by
    cases a8:fq l e with
    | none=>rfl
    | some i=>
      obtain⟨ar,au⟩:=wT a8
      exact absurd ((xZ h (ao.ok.ok i ar).fw he).1 au).1 (aU _ aS i ar)
   rw [a8]; rfl
 | some r=>
   obtain⟨t,g,rfl,av,_,bS⟩:=ay _ _ aS
   have bE:g (iZ e)=(fq l e).map (·.cu):=by
    cases a8:fq l e with
    | none=>
      cases Jw:g (iZ e) with
      | none=>rfl
      | some n=>
        obtain⟨i,ar,bl,cP,_⟩:=(bS _ _).1 Jw
        have:=uh a8 i ar
        rw [(xZ h (ao.ok.ok i ar).fw he).2 ⟨bl,cP⟩] at this; cases this
    | some i=>
      obtain⟨ar,au⟩:=wT a8
      obtain⟨bl,cP⟩:=(xZ h (ao.ok.ok i ar).fw he).1 au
      exact(bS _ _).2 ⟨i,ar,bl,cP,rfl⟩
   rw [aP] at sY ⊢
   show tN hp (some t) _ (n:Int)=_
   rw [M5 av Bd sY]
   have hp':ei (aI e.cZ 0).c6 n=iZ e:=by unfold iZ; rw [aP]; rfl
   rw [hp',bE]
   cases fq l e <;> rfl
theorem Xw {s:a1} (h:dQ s) {k:Nat} (au:k < 4) {hp:aN Cell} {q:Nat} {l:List aw} {own:Nat→Prop} (hq:xe s k hp q l own) (ao:h9 s k l) {e:bh} (he:jr s k e):yP hp ⟨some q⟩ e=some (sk (fq l e)):=by
 obtain⟨key,cap,J,_⟩:=hq.ok
 refine bC.get ?_
 unfold yP
 refine .eq rfl (.eq J (.eq (Vt h au ao.ok) ?_))
 obtain⟨jg,gY⟩:=ao.ok.g1
 have a8:fq l e=(g1 (hv s k) l).find? fun i=>h8 i.bV e:=by
  cases a8:fq l e with
  | none=>
    symm
    rw [List.find?_eq_none]
    intro x al
    rw [uh a8 x (sO.1 al)]; simp
  | some i=>
    obtain⟨ar,oL⟩:=wT a8
    exact(UH (DM s k) ao.ok.Ju ar oL fun d hd aak=> .inl (ao.uniq hd ar (LP aak (by rw [Hg]; exact oL)))).symm
 rw [a8]
 refine bC.loop (g1 (hv s k) l).length (fun i st=>st=(i:Int)∧ ∀ j,j < i→h8 (aI (g1 (hv s k) l) j).bV e=false) (by omega) ⟨rfl,fun j aG=>by omega⟩ (fun i st ar hs=> ?_) (fun st hs=> ?_)
 ·obtain⟨rfl,hs⟩:=hs
  refine .cond (fun _=> ?_) (fun ak=>by simp at ak; omega)
  have hm:=jg (aI (g1 (hv s k) l) i) (by rw [eV _ ar]; exact List.getElem_mem _)
  refine .idx rfl ar (.eq (SG (hm.small h au).1) (.cond (fun ak=> .ret ?_) fun ak=> .ret ⟨gT (by omega),fun j aG=> ?_⟩))
  ·simp only [Sum.elim_inr]
   refine .ret ?_
   rw [Ux (p:=fun i=>h8 i.bV e) ar ak hs]; rfl
  ·by_cases hI:j=i
   ·subst hI; exact ak
   ·exact hs j (by omega)
 ·obtain⟨rfl,hs⟩:=hs
  refine⟨_,by simp; rfl,?_⟩
  simp only [Sum.elim_inl]
  refine .ret ?_
  rw [Uy fun c ak=> ?_]
  ·rfl
  ·obtain⟨j,aG,rfl⟩:=List.mem_iff_getElem.1 ak
   rw [← eV _ aG]; exact hs j aG
theorem N3 {s:a1} (h:dQ s) {k:Nat} (au:k < 4) {hp:aN Cell} {f:gw} {l:List aw} {own:Nat→Prop} (hq:ph s k hp f l own) (ao:h9 s k l) {e:bh} (he:jr s k e):CE hp f e=some (sk (fq l e)):=by
 rcases hq with⟨rfl,q,rfl,hq⟩ | ⟨rfl,m,rfl,hq⟩ | ⟨cS,q,rfl,hq⟩
 ·exact Xu h hq ao he
 ·exact Xv h hq ao he
 ·exact Xw h au hq ao he
def kL (own:Nat→Prop) (hp hp':aN Cell) (q:Nat):Prop:=own q∨ (q ∉ ec hp∧q∈ec hp')
theorem LS {hp:aN Cell} {p:Nat} {k:Cell} {x:List (Vector aA 4 × Int)} (h:pat hp p=some k):lC (cT hp p (.nf x)) p=some x:=by unfold lC; rw [rf h]
theorem LU {hp:aN Cell} {p:Nat} {k:Cell} {x:List (Vector aA 4 × Ref)} (h:pat hp p=some k):jq (cT hp p (.k7 x)) p=some x:=by unfold jq; rw [rf h]
theorem Y0 {s:a1} (h:dQ s) {hp:aN Cell} {q:Nat} {l:List aw} {own:Nat→Prop} (hq:xd s hp q l own) (ao:h9 s 0 l) {i:aw} (ar:lh s 0 i) (a8:fq l i.bV=none):
 bC (yR hp ⟨some q⟩ i) (fun hp'=>xd s hp' q (l ++ [i]) (kL own hp hp')∧ez hp hp' own):=by
 obtain⟨m,em,J,ad,ay,aU,a0,ix⟩:=hq.ok
 have eO:dI em (eK i.bV)=none:=by
  cases bE:dI em (eK i.bV) with
  | none=>rfl
  | some n=>
    obtain⟨c,ak,bl,_⟩:=(a0 _ _).1 bE
    have:=uh a8 c ak
    rw [(BZ h (ao.ok.ok c ak).fw ar.fw).2 bl] at this; cases this
 unfold yR CS
 refine .eq (DA (ar.fw.EI h (by decide)).1) ?_
 refine .eq (a:=(true,cT hp m (Cell.nf (fB em (eK i.bV) i.cu)))) ?_ (.ret ?_)
 ·show(mz hp q).bind _=_
  rw [J]
  show(lC hp m).bind _=_
  rw [ad]
  show cond (dI em (eK i.bV)).isSome _ _=_
  rw [eO]; rfl
 have B0:q≠m:=fun e=>by
  subst e
  have:=sH J
  rw [p9 ad] at this; cases this
 refine⟨⟨m,_,by rw [Gf (lv B0.symm)]; exact J,LS (p9 ad),.inl ay,.inl aU,fun cU n=> ?_,ix.put⟩,.up aU⟩
 rw [sx]
 by_cases gq:cU=eK i.bV
 ·rw [if_pos gq]
  constructor
  ·intro e
   cases e
   exact⟨i,by simp,gq.symm,rfl⟩
  ·rintro ⟨c,ak,bl,cP⟩
   rcases List.mem_append.1 ak with ak | ak
   ·have:=(a0 _ _).2 ⟨c,ak,bl,cP⟩
    rw [gq,eO] at this; cases this
   ·rw [List.mem_singleton.1 ak] at cP; rw [cP]
 ·rw [if_neg gq,a0]
  constructor
  ·rintro ⟨c,ak,bl⟩; exact⟨c,by simp [ak],bl⟩
  ·rintro ⟨c,ak,bl,cP⟩
   rcases List.mem_append.1 ak with ak | ak
   ·exact⟨c,ak,bl,cP⟩
   ·rw [List.mem_singleton.1 ak] at bl; exact absurd bl.symm gq
theorem Y1 {s:a1} (h:dQ s) {hp:aN Cell} {m:Nat} {l:List aw} {own:Nat→Prop} (hq:l1 s hp m l own) (ef:∀ q,own q→q∈ec hp) (ao:h9 s 1 l) {i:aw} (ar:lh s 1 i) (a8:fq l i.bV=none)
 {em:List (Vector aA 4 × Ref)} (lj:jq hp m=some em) {t:Nat} (bJ:dI em (gQ (eK i.bV))=some (some t)):
 dg (wA hp (some t) (aI i.bV.cZ 0).c6 (aI i.bV.cZ 0).fU i.cu) (fun r=>l1 s r.2 m (l ++ [i]) (kL own hp r.2)∧ez hp r.2 own):=by
 obtain⟨aal,J,ad,ay,aU,a0,ix⟩:=hq.ok
 rw [lj] at J; cases J
 have gO:=Bc h ar.fw
 obtain⟨e8,g,e,av,bm,bS⟩:=ay _ _ bJ
 cases e
 obtain⟨n,aP⟩:=Int.eq_ofNat_of_zero_le gO.pre.1
 have Bd:n≤32:=by have:=gO.pre.2; omega
 have sY:=GS gO
 have hp':ei (aI i.bV.cZ 0).c6 n=iZ i.bV:=by unfold iZ; rw [aP]; rfl
 have eO:g (iZ i.bV)=none:=by
  cases Jw:g (iZ i.bV) with
  | none=>rfl
  | some n=>
    obtain⟨c,ak,bl,cP,_⟩:=(bS _ _).1 Jw
    have:=uh a8 c ak
    rw [(xZ h (ao.ok.ok c ak).fw ar.fw).2 ⟨bl,cP⟩] at this; cases this
 rw [aP] at sY ⊢
 refine(Xs av Bd sY i.cu (by rw [hp']; exact eO)).mono fun r aS=> ?_
 obtain⟨_,jg,gY,pS⟩:=aS
 rw [hp'] at jg
 have Jx:∀ q,Own hp t q→q≠m:=fun q Jy e=>by
  have:=l0 lj
  rw [← e] at this
  rcases av.DN Jy with⟨c,ak⟩ | ⟨c,ak⟩ <;> rw [ak] at this <;> cases this
 have jO:pat r.2 m=pat hp m:=gY.rest m (ie (l0 lj)) fun hq=>Jx m hq rfl
 have qc:∀ cU e8,cU≠gQ (eK i.bV)→dI em cU=some (some e8)→ ∃ eU,iu hp e8 eU∧iu r.2 e8 eU∧ (∀ q,Own hp e8 q→own q)∧ (∀ q,Own r.2 e8 q↔Own hp e8 q)∧ ∀ aY n,eU aY=some n↔ ∃ i∈l,gQ (eK i.bV)=cU∧iZ i.bV=aY∧i.cu=n:=fun cU e8 cH aS=>by
  obtain⟨aam,eU,e,cN,cF,fL⟩:=ay cU _ aS
  cases e
  obtain⟨dE,dU⟩:=cN.congr (hp':=r.2) fun q hq=>gY.rest q (cN.uF hq) fun iY=>a0 _ _ _ _ bJ aS cH.symm q iY hq
  exact⟨eU,cN,dE,cF,dU,fL⟩
 have Bb:∀ q,Own r.2 t q→kL own hp r.2 q:=fun q hq=>by
  rcases pS q hq with bl | bl
  ·exact .inl (bm q bl)
  ·exact .inr ⟨bl,jg.uF hq⟩
 refine⟨⟨em,by rw [C6 jO]; exact lj,.inl ad,fun cU jB im=> ?_,fun cU gq c ak=> ?_,fun cU ja t1 t2 iA iM cH q iL nq=> ?_,ix⟩,⟨gY.keys,fun q hq eO=>gY.rest q hq fun iY=>eO (bm q iY)⟩⟩
 ·by_cases gq:cU=gQ (eK i.bV)
  ·subst gq
   rw [bJ] at im; cases im
   refine⟨t,_,rfl,jg,Bb,fun aY sd=> ?_⟩
   by_cases kb:aY=iZ i.bV
   ·simp only [if_pos kb]
    constructor
    ·intro e; cases e
     exact⟨i,by simp,rfl,kb.symm,rfl⟩
    ·rintro ⟨c,ak,bl,cP,eL⟩
     rcases List.mem_append.1 ak with ak | ak
     ·have:=(bS _ _).2 ⟨c,ak,bl,cP,eL⟩
      rw [kb,eO] at this; cases this
     ·rw [List.mem_singleton.1 ak] at eL; rw [eL]
   ·simp only [if_neg kb]
    rw [bS]
    constructor
    ·rintro ⟨c,ak,bl⟩; exact⟨c,by simp [ak],bl⟩
    ·rintro ⟨c,ak,bl,cP,eL⟩
     rcases List.mem_append.1 ak with ak | ak
     ·exact⟨c,ak,bl,cP,eL⟩
     ·rw [List.mem_singleton.1 ak] at cP; exact absurd cP.symm kb
  ·obtain⟨e8,eU,e,_⟩:=ay cU jB im
   subst e
   obtain⟨vS,cN,cF,fL,jb,oW⟩:=qc cU e8 gq im
   refine⟨e8,vS,rfl,cF,fun q hq=> .inl (fL q ((jb q).1 hq)),fun aY sd=> ?_⟩
   rw [oW]
   constructor
   ·rintro ⟨c,ak,bl⟩; exact⟨c,by simp [ak],bl⟩
   ·rintro ⟨c,ak,bl,cP⟩
    rcases List.mem_append.1 ak with ak | ak
    ·exact⟨c,ak,bl,cP⟩
    ·rw [List.mem_singleton.1 ak] at bl; exact absurd bl.symm gq
 ·rcases List.mem_append.1 ak with ak | ak
  ·exact aU cU gq c ak
  ·rw [List.mem_singleton.1 ak]
   intro e
   rw [← e,bJ] at gq; cases gq
 ·
  have M6:∀ cU e8,cU≠gQ (eK i.bV)→dI em cU=some (some e8)→ ∀ q,Own r.2 t q→ ¬ Own r.2 e8 q:=fun cU e8 cH aS q hq iY=>by
   obtain⟨vS,cN,cF,fL,jb,oW⟩:=qc cU e8 cH aS
   have iY:=(jb q).1 iY
   rcases pS q hq with bl | bl
   ·exact a0 _ _ _ _ bJ aS cH.symm q bl iY
   ·exact bl (cN.uF iY)
  by_cases aF:cU=gQ (eK i.bV)
  ·subst aF
   rw [bJ] at iA; cases iA
   exact M6 ja t2 cH.symm iM q iL nq
  ·by_cases aR:ja=gQ (eK i.bV)
   ·subst aR
    rw [bJ] at iM; cases iM
    exact M6 cU t1 aF iA q nq iL
   ·obtain⟨_,_,_,_,jb,_⟩:=qc cU t1 aF iA
    obtain⟨_,_,_,_,Fv,_⟩:=qc ja t2 aR iM
    exact a0 _ _ _ _ iA iM cH q ((jb q).1 iL) ((Fv q).1 nq)
theorem RP {own:Nat→Prop} {bG J ad:aN Cell} {q:Nat} (au:∀ q,q∈ec bG→q∈ec J) (cS:∀ q,q∈ec J→q∈ec ad) (h:kL (kL own bG J) J ad q):kL own bG ad q:=by
 rcases h with(h | ⟨h,cX⟩) | ⟨h,cX⟩
 ·exact .inl h
 ·exact .inr ⟨h,cS q cX⟩
 ·exact .inr ⟨fun ay=>h (au q ay),cX⟩
theorem l1.mono {s:a1} {hp:aN Cell} {m:Nat} {l:List aw} {own own':Nat→Prop} (h:l1 s hp m l own) (a9:∀ q,own q→own' q):l1 s hp m l own':=by
 obtain⟨em,J,ad,ay,aU,a0,ix⟩:=h.ok
 exact⟨em,J,a9 m ad,fun cU r aS=>by obtain⟨t,g,e,a,b,c⟩:=ay cU r aS; exact⟨t,g,e,a,fun q hq=>a9 q (b q hq),c⟩,aU,a0,ix⟩
theorem ez.grow {bG J ad:aN Cell} {own:Nat→Prop} (a:ez bG J own) (b:ez J ad (kL own bG J)):ez bG ad own:=
 a.trans b fun q hq h=>h.elim (fun h=>h) fun h=>absurd hq h.1
theorem Y2 {s:a1} {hp:aN Cell} {m:Nat} {l:List aw} {own:Nat→Prop} (hq:l1 s hp m l own)
 {em:List (Vector aA 4 × Ref)} (lj:jq hp m=some em) {cU:Vector aA 4} (eO:dI em cU=none) {a:Nat} (bd:a ∉ ec hp) {z:fm} (df:z.fA=32) (aS:z.cD=none):
 l1 s (cT ((a,Cell.iV z) :: hp) m (.k7 (fB em cU (some a)))) m l (kL own hp (cT ((a,Cell.iV z) :: hp) m (.k7 (fB em cU (some a)))))∧ez hp (cT ((a,Cell.iV z) :: hp) m (.k7 (fB em cU (some a)))) own∧
  jq (cT ((a,Cell.iV z) :: hp) m (.k7 (fB em cU (some a)))) m=some (fB em cU (some a)):=by
 obtain⟨aal,J,ad,ay,aU,a0,ix⟩:=hq.ok
 rw [lj] at J; cases J
 have jO:=l0 lj
 have PA:=zt bd jO
 have cV:pat ((a,Cell.iV z) :: hp) m=some (.k7 em):=by rw [o6,if_neg PA]; exact jO
 generalize dK:cT ((a,Cell.iV z) :: hp) m (.k7 (fB em cU (some a)))=cw
 have av:jq cw m=some (fB em cU (some a)):=by rw [← dK]; exact LU cV
 have bm:pat cw a=some (.iV z):=by rw [← dK,lv PA.symm,o6,if_pos rfl]
 have bS:∀ q,q≠m→q≠a→pat cw q=pat hp q:=fun q B0 n8=>by rw [← dK,lv B0.symm,o6,if_neg n8.symm]
 have au:ez hp cw own:=by
  rw [← dK]
  exact(ez.mk' (own:=own) bd).trans (ez.up ad) fun q _ h=>h
 have PB:fu cw a=some z:=qT.2 bm
 have Xx:iu cw a (fun _=>none):=⟨z,PB,df,by rw [aS]; exact⟨fun aY p h=>(by rw [gd] at h; cases h),fun aY cs p h _=>(by rw [gd] at h; cases h),fun aY p h=>(by rw [gd] at h; cases h)⟩,fun aY=>by rw [aS]; exact ki gd⟩
 have Ia:∀ q,Own cw a q→q=a:=fun q oQ=>by
  rcases oQ with h | ⟨c,aY,bl,cP⟩
  ·exact h
  ·rw [PB] at bl; cases bl
   rw [aS,gd] at cP; cases cP
 have hold:∀ t g,iu hp t g→iu cw t g∧ ∀ q,Own cw t q↔Own hp t q:=fun t g bJ=>bJ.congr fun q oQ=>by
  refine bS q (fun e=> ?_) fun e=>bd (by rw [← e]; exact bJ.uF oQ)
  rw [← e] at jO
  rcases bJ.DN oQ with⟨c,ak⟩ | ⟨c,ak⟩ <;> rw [ak] at jO <;> cases jO
 refine⟨⟨_,av,.inl ad,fun ja r im=> ?_,fun ja im=> ?_,fun Jz Ff t1 t2 iA iM cH q iL nq=> ?_,ix.put⟩,au,av⟩
 ·rw [sx] at im
  by_cases e:ja=cU
  ·rw [if_pos e] at im; cases im
   exact⟨a,_,rfl,Xx,fun q oQ=>by rw [Ia q oQ]; exact .inr ⟨bd,ie bm⟩,fun aY n=>⟨fun h=>(by cases h),fun⟨i,ar,bl,_⟩=>absurd (bl.trans e) (aU cU eO i ar)⟩⟩
  ·rw [if_neg e] at im
   obtain⟨t,g,rfl,cN,cF,fL⟩:=ay ja r im
   obtain⟨dE,dU⟩:=hold t g cN
   exact⟨t,g,rfl,dE,fun q oQ=> .inl (cF q ((dU q).1 oQ)),fL⟩
 ·rw [sx] at im
  by_cases e:ja=cU
  ·rw [if_pos e] at im; cases im
  ·rw [if_neg e] at im; exact aU ja im
 ·rw [sx] at iA iM
  have al:∀ ja e8,dI em ja=some (some e8)→ ∀ q,q=a→ ¬ Own cw e8 q:=fun ja e8 vR q e oQ=>by
   obtain⟨t,g,e',cN,_⟩:=ay ja _ vR
   cases e'
   have:=(hold e8 g cN).2 q |>.1 oQ
   exact bd (by rw [← e]; exact cN.uF this)
  by_cases aF:Jz=cU
  ·rw [if_pos aF] at iA; cases iA
   by_cases aR:Ff=cU
   ·exact cH (aF.trans aR.symm)
   ·rw [if_neg aR] at iM
    exact al Ff t2 iM q (Ia q iL) nq
  ·rw [if_neg aF] at iA
   by_cases aR:Ff=cU
   ·rw [if_pos aR] at iM; cases iM
    exact al Jz t1 iA q (Ia q nq) iL
   ·rw [if_neg aR] at iM
    obtain⟨t,g,e',cN,_⟩:=ay Jz _ iA
    cases e'
    obtain⟨e8,eU,Jc,aan,_⟩:=ay Ff _ iM
    cases Jc
    exact a0 _ _ _ _ iA iM cH q (((hold _ _ cN).2 q).1 iL) (((hold _ _ aan).2 q).1 nq)
theorem Xy {s:a1} (h:dQ s) {hp:aN Cell} {m:Nat} {l:List aw} {own:Nat→Prop} (hq:l1 s hp m l own) (ef:∀ q,own q→q∈ec hp) (ao:h9 s 1 l) {i:aw} (ar:lh s 1 i) (a8:fq l i.bV=none):
 dg (yE hp ⟨0,32,⟨some m⟩⟩ i) (fun hp'=>l1 s hp' m (l ++ [i]) (kL own hp hp')∧ez hp hp' own):=by
 obtain⟨em,lj,ad,ay,aU,a0,_⟩:=hq.ok
 unfold yE
 refine .eq (Hi h ar.fw _) (.eq rfl (.eq lj (.eq rfl ?_)))
 simp only
 refine .bind (P:=fun bB=>l1 s bB m l (kL own hp bB)∧ez hp bB own∧ ∃ JA t,jq bB m=some JA∧dI JA (gQ (eK i.bV))=some (some t)) (.cond (fun ak=> ?_) fun ak=> .ret ?_) fun bB cV=> ?_
 ·have eO:dI em (gQ (eK i.bV))=none:=by
   cases bE:dI em (gQ (eK i.bV)) with
   | none=>rfl
   | some r=>
     obtain⟨t,_,rfl,_⟩:=ay _ _ bE
     rw [bE] at ak; cases ak
  unfold C7
  refine .bind (P:=fun r=> ∃ a,a ∉ ec hp∧r=((some a:Ref),(a,Cell.iV ({ (default:fm) with fA:=32 })) :: hp)) (.eq rfl (.mk fun a bd=> .ret ⟨a,bd,rfl⟩)) fun bn bl=> ?_
  obtain⟨a,bd,rfl⟩:=bl
  have lK:jq ((a,Cell.iV ({ (default:fm) with fA:=32 })) :: hp) m=some em:=(C6 (hp:=hp) (by rw [o6,if_neg (zt bd (l0 lj))])).trans lj
  obtain⟨av,bm,bS⟩:=Y2 hq lj eO bd (z:= { (default:fm) with fA:=32 }) rfl rfl
  refine .eq lK (.eq rfl (.ret ⟨av,bm,_,a,bS,by rw [sx,if_pos rfl]⟩))
 ·cases bE:dI em (gQ (eK i.bV)) with
  | none=>rw [bE] at ak; cases ak
  | some r=>
    obtain⟨t,_,rfl,_⟩:=ay _ _ bE
    exact⟨hq.mono fun q hq=> .inl hq,.refl,em,t,lj,bE⟩
 ·obtain⟨av,bm,JA,t,bS,dq⟩:=cV
  refine .eq bS (.eq rfl ?_)
  simp only [dq]
  refine .bind (Y1 h av (fun q hq=>hq.elim (fun hq=>bm.keys q (ef q hq)) fun hq=>hq.2) ao ar a8 bS dq) fun r aS=> .ret ?_
  exact⟨aS.1.mono fun q hq=>RP bm.keys aS.2.keys hq,bm.grow aS.2⟩
theorem LV {hp:aN Cell} {p:Nat} {k:Cell} {x:c9} {y:Option Nat} {n:Nat} (h:pat hp p=some k):nR (cT hp p (.qj x y n)) p=some (x,y,n):=by unfold nR; rw [rf h]
theorem Xz {s:a1} (h:dQ s) {k:Nat} (au:k < 4) {hp:aN Cell} {q:Nat} {l:List aw} {own:Nat→Prop} (hq:xe s k hp q l own) (ao:h9 s k l) {i:aw} (ar:lh s k i) (jA:ij l i.cu=false) (hlen:l.length < 900):
 dg (yT hp ⟨some q⟩ i) (fun hp'=>xe s k hp' q (l ++ [i]) (kL own hp hp')∧ez hp hp' own):=by
 obtain⟨key,cap,J,ad⟩:=hq.ok
 unfold yT
 refine .eq rfl (.eq J (.eq (Vs h au ao.ok ar hlen) (.any fun ax=> .eq rfl (.ret ?_))))
 rw [jA]
 exact⟨⟨ax.1,ax.2,LV (uy J),.inl ad⟩,.up ad⟩
theorem XA {s:a1} (h:dQ s) {k:Nat} (au:k < 4) {hp:aN Cell} {f:gw} {l:List aw} {own:Nat→Prop} (hq:ph s k hp f l own) (ef:∀ q,own q→q∈ec hp) (ao:h9 s k l) {i:aw} (ar:lh s k i) (a8:fq l i.bV=none) (jA:ij l i.cu=false) (hlen:l.length < 900):
 dg (FW hp f i) (fun hp'=>ph s k hp' f (l ++ [i]) (kL own hp hp')∧ez hp hp' own):=by
 rcases hq with⟨rfl,q,rfl,hq⟩ | ⟨rfl,m,rfl,hq⟩ | ⟨cS,q,rfl,hq⟩
 ·exact dg.of ((Y0 h hq ao ar a8).mono fun hp' aS=>⟨.inl ⟨rfl,q,rfl,aS.1⟩,aS.2⟩)
 ·exact(Xy h hq ef ao ar a8).mono fun hp' aS=>⟨.inr (.inl ⟨rfl,m,rfl,aS.1⟩),aS.2⟩
 ·exact(Xz h au hq ao ar jA hlen).mono fun hp' aS=>⟨.inr (.inr ⟨cS,q,rfl,aS.1⟩),aS.2⟩
theorem LW {α β:Type} [DecidableEq α]:∀ {l:List (α × β)} {x:α} {v:β},dI l x=some v→ (x,v)∈l
 | [],_,_,h=>by cases h
 | (k,w) :: r,x,v,h=>by
   unfold dI at h
   split at h
   ·rename_i e; cases h; rw [e]; simp
   ·exact List.mem_cons_of_mem _ (LW h)
theorem Mv {α β:Type} [DecidableEq α]:∀ {l:List (α × β)} {x:α} {v:β},l.Pairwise (fun a c=>a.1≠c.1)→ (x,v)∈l→dI l x=some v
 | [],_,_,_,h=>by cases h
 | (k,w) :: r,x,v,aP,h=>by
   obtain⟨J,ad⟩:=List.pairwise_cons.1 aP
   unfold dI
   rcases List.mem_cons.1 h with h | h
   ·cases h; rw [if_pos rfl]
   ·rw [if_neg (fun e=>J _ h e.symm),Mv ad h]
theorem LX {α β:Type} [DecidableEq α]:∀ {l:List (α × β)} {x:α} {v:β},dI l x=none→fB l x v=l ++ [(x,v)]
 | [],_,_,_=>rfl
 | (k,w) :: r,x,v,h=>by
   unfold dI at h
   split at h
   ·cases h
   ·rename_i e
    show(if x=k then _ else _)=_
    rw [if_neg e,LX h]; rfl
def rI (em:List (Int × aw)) (l:List aw):Prop:=em.Perm (l.map fun i=>(i.cu,i))
theorem rI.get {s:a1} {k:Nat} {em:List (Int × aw)} {l:List aw} (h:rI em l) (ao:kZ s k l) (n:Int) (i:aw):dI em n=some i↔i∈l∧i.cu=n:=by
 have hd:em.Pairwise (fun a c=>a.1≠c.1):=by
  refine(h.pairwise_iff fun ck=>Ne.symm ck).2 ?_
  rw [List.pairwise_map]
  exact ao.num.imp fun ck=>ck
 have hm:(n,i)∈em↔i∈l∧i.cu=n:=by
  rw [h.mem_iff,List.mem_map]
  constructor
  ·rintro ⟨c,ak,e⟩
   cases e; exact⟨ak,rfl⟩
  ·rintro ⟨ar,rfl⟩
   exact⟨i,ar,rfl⟩
 rw [← hm]
 exact⟨LW,Mv hd⟩
theorem rI.no {s:a1} {k:Nat} {em:List (Int × aw)} {l:List aw} (h:rI em l) (ao:kZ s k l) (n:Int):(dI em n).isSome=ij l n:=by
 rw [Bool.eq_iff_iff,Option.isSome_iff_exists]
 unfold ij
 rw [List.any_eq_true]
 constructor
 ·rintro ⟨i,ar⟩
  obtain⟨J,ad⟩:=(h.get ao n i).1 ar
  exact⟨i,J,by simpa using ad⟩
 ·rintro ⟨i,ar,ad⟩
  exact⟨i,(h.get ao n i).2 ⟨ar,by simpa using ad⟩⟩
structure jM (s:a1) (k:Nat) (hp:aN Cell) (p:Nat) (l:List aw) (own:Nat→Prop):Prop where
 k2:h9 s k l
 cell:∃ f m em,hg hp p=some ⟨nB k,(Fw s k:Int),f,⟨some m⟩⟩∧j0 hp m=some em∧own p∧own m∧rI em l∧ph s k hp f l (fun q=>own q∧q≠m∧q≠p)
 r5:∀ q,own q→q∈ec hp
theorem jM.congr {s:a1} {k:Nat} {hp hp':aN Cell} {p:Nat} {l:List aw} {own:Nat→Prop} (h:jM s k hp p l own) (au:∀ q,q∈ec hp→q∈ec hp') (bd:∀ q,own q→pat hp' q=pat hp q):jM s k hp' p l own:=by
 obtain⟨f,m,em,J,ad,ay,aU,a0,bl⟩:=h.cell
 exact⟨h.k2,⟨f,m,em,by rw [Sk (bd p ay)]; exact J,by rw [Sl (bd m aU)]; exact ad,ay,aU,a0,bl.congr (fun q _ hq=>hq) fun q hq=>bd q hq.1⟩,fun q hq=>au q (h.r5 q hq)⟩
theorem jM.qk {s:a1} {k:Nat} {hp hp':aN Cell} {p:Nat} {l:List aw} {own own':Nat→Prop} (h:jM s k hp p l own) (au:ez hp hp' own') (hd:∀ q,own q→ ¬ own' q):jM s k hp' p l own:=
 h.congr au.keys fun q hq=>au.rest q (h.r5 q hq) (hd q hq)
theorem entry_eq {s:a1} (h:dQ s) {k:Nat} (au:k < 4) {hp:aN Cell} {p:Nat} {l:List aw} {own:Nat→Prop} (al:jM s k hp p l own) {o:Option aw} (a9:∀ i,o=some i→i∈l):yN hp (some p) (sk o).1 (sk o).2=some (xY o):=by
 obtain⟨f,m,em,J,ad,ay,aU,a0,bl⟩:=al.cell
 refine bC.get ?_
 unfold yN
 cases o with
 | none=>exact .cond (fun _=> .ret rfl) fun ak=>by cases ak
 | some i=>
   have ar:=a9 i rfl
   refine .cond (fun ak=>by cases ak) fun _=> .eq rfl (.eq J (.eq rfl (.eq ad (.eq rfl ?_))))
   have bE:dI em i.cu=some i:=(a0.get al.k2.ok _ _).2 ⟨ar,rfl⟩
   show bC (Option.bind (o3 ((dI em i.cu).getD default)) _) _
   rw [bE]
   exact .eq (z8 h au (al.k2.ok.ok i ar)) (.ret rfl)
theorem Mw {s:a1} (h:dQ s) {k:Nat} (au:k < 4) {hp:aN Cell} {p:Nat} {l:List aw} {own:Nat→Prop} (al:jM s k hp p l own) {e:bh} (he:jr s k e):wk hp (some p) e=some (xY (fq l e)):=by
 obtain⟨f,m,em,J,ad,ay,aU,a0,bl⟩:=al.cell
 refine bC.get ?_
 unfold wk
 refine .cond (fun ak=>by cases ak) fun _=> .eq rfl (.eq J (.eq (N3 h au bl al.k2 he) (.eq (entry_eq h au al fun i ar=>(wT ar).1) (.ret rfl))))
theorem Vv {s:a1} {k:Nat} {hp:aN Cell} {p:Nat} {l:List aw} {own:Nat→Prop} (al:jM s k hp p l own):yU hp (some p)=some (l.length:Int):=by
 obtain⟨f,m,em,J,ad,ay,aU,a0,bl⟩:=al.cell
 have ao:em.length=l.length:=by rw [a0.length_eq,List.length_map]
 refine bC.get ?_
 unfold yU
 refine .cond (fun ak=>by cases ak) fun _=> .eq rfl (.eq J (.eq rfl (.eq ad ?_)))
 rw [ao]
 first | exact .ret rfl | exact .eq rfl (.ret rfl)
theorem jM.mono {s:a1} {k:Nat} {hp:aN Cell} {p:Nat} {l:List aw} {own own':Nat→Prop} (h:jM s k hp p l own) (a9:∀ q,own q→own' q) (ar:∀ q,own' q→q∈ec hp):jM s k hp p l own':=by
 obtain⟨f,m,em,J,ad,ay,aU,a0,bl⟩:=h.cell
 exact⟨h.k2,⟨f,m,em,J,ad,a9 p ay,a9 m aU,a0,bl.congr (fun q _ hq=>⟨a9 q hq.1,hq.2⟩) fun q hq=>rfl⟩,ar⟩
theorem h9.nil {s:a1} {k:Nat} :h9 s k []:=⟨⟨fun i ar=>by(cases ar),.nil,by simp⟩,.nil⟩
def x0:Nat→Prop:=fun _=>False
theorem Vw {s:a1} (h:dQ s) {k:Nat} (au:k < 4) (hp:aN Cell):dg (wN hp s ((k:Int) + 1)) (fun r=> ∃ p,r.1=some p∧jM s k r.2 p [] (kL x0 hp r.2)∧ez hp r.2 x0):=by
 refine(Xt h au hp).mono fun r aS=> ?_
 obtain⟨p,e,aS⟩:=aS
 obtain⟨c,m,J,ad,ay,aU,a0,bl,cP,eL,fM,jt,qy,vQ⟩:=aS.cell
 obtain⟨aaN,aL,f,eg⟩:=c
 simp only at ad ay aU bl cP eL
 subst ad ay aU
 have hm:=o8 a0
 have hp':=lY J
 refine⟨p,e,⟨h9.nil,⟨f,m,[],J,a0,.inr ⟨fM,ie hp'⟩,.inr ⟨jt,ie hm⟩,List.Perm.refl _,?_⟩,fun q hq=>hq.elim (fun h=>h.elim) fun h=>h.2⟩,⟨qy,fun q hq _=>vQ q hq⟩⟩
 have key:∀ q c,pat r.2 q=some c→ (∀ x,c≠ .jI x)→ (∀ x,c≠ .mA x)→q ∉ ec hp→kL x0 hp r.2 q∧q≠m∧q≠p:=fun q c ak nw J2 aP=>
  ⟨.inr ⟨aP,ie ak⟩,fun e=>by rw [e,hm] at ak; cases ak; exact nw _ rfl,fun e=>by rw [e,hp'] at ak; cases ak; exact J2 _ rfl⟩
 have:k=0∨k=1∨2≤k:=by omega
 rcases this with rfl | rfl | cS
 ·obtain⟨q,cL,rfl,av,bm,bS,dq⟩:=bl rfl
  exact .inl ⟨rfl,q,rfl,⟨cL,[],av,bm,key q _ (sH av) (fun _ h=>by cases h) (fun _ h=>by cases h) bS,key cL _ (p9 bm) (fun _ h=>by cases h) (fun _ h=>by cases h) dq,fun cU n=>⟨fun h=>(by cases h),fun⟨i,ar,_⟩=>(by cases ar)⟩,.nil⟩⟩
 ·obtain⟨fb,rfl,av,bm⟩:=cP rfl
  exact .inr (.inl ⟨rfl,fb,rfl,⟨[],av,key fb _ (l0 av) (fun _ h=>by cases h) (fun _ h=>by cases h) bm,fun cU r h=>(by cases h),fun cU _ i ar=>(by cases ar),fun cU ja t e8 h=>(by cases h),.nil⟩⟩)
 ·obtain⟨q,aaO,cap,rfl,av,bm⟩:=eL cS
  exact .inr (.inr ⟨cS,q,rfl,⟨aaO,cap,av,key q _ (uy av) (fun _ h=>by cases h) (fun _ h=>by cases h) bm⟩⟩)
theorem h9.snoc {s:a1} {k:Nat} {l:List aw} (h:h9 s k l) {i:aw} (ar:lh s k i) (a8:fq l i.bV=none) (aP:ij l i.cu=false) (ao:l.length < 900):h9 s k (l ++ [i]) where
 ok:=h.ok.snoc ar aP ao
 key:=by
  rw [List.pairwise_append]
  exact⟨h.key,by simp,fun a bd c ak=>by rw [List.mem_singleton.1 ak]; exact uh a8 a bd⟩
theorem TX {hp:aN Cell} {p:Nat} {k:Cell} {x:List (Int × aw)} (h:pat hp p=some k):j0 (cT hp p (.jI x)) p=some x:=by unfold j0; rw [rf h]
theorem M7 (o:Option aw):(sk o).2=o.isSome:=by cases o <;> rfl
def ts (l:List aw) (i:aw):Bool:=(fq l i.bV).isNone && !ij l i.cu
def added (l:List aw) (i:aw):List aw:=if ts l i=true then l ++ [i] else l
theorem Vx {s:a1} (h:dQ s) {k:Nat} (au:k < 4) {hp:aN Cell} {p:Nat} {l:List aw} {own:Nat→Prop} (al:jM s k hp p l own) {i:aw} (ar:lh s k i) (hlen:l.length < 900):
 dg (yV hp (some p) i) (fun r=>r.1=ts l i∧jM s k r.2 p (added l i) (kL own hp r.2)∧ez hp r.2 own):=by
 obtain⟨f,m,em,J,ad,ay,aU,a0,bl⟩:=al.cell
 have hm:=o8 ad
 have hp':=lY J
 have jO:p≠m:=fun e=>by rw [e,hm] at hp'; cases hp'
 have eO:=a0.no al.k2.ok i.cu
 unfold yV
 refine .cond (fun ak=>by cases ak) fun _=> .eq rfl (.eq J (.eq rfl (.eq ad (.eq rfl (.eq rfl (.eq J (.eq (N3 h au bl al.k2 ar.fw) (.cond (fun ak=> .ret ?_) fun ak=> ?_))))))))
 ·rw [eO,M7,Bool.or_eq_true] at ak
  have bJ:ts l i=false:=by
   unfold ts
   rcases ak with ak | ak
   ·cases a8:fq l i.bV with
    | none=>rw [a8] at ak; cases ak
    | some _=>rfl
   ·rw [ak]; simp
  refine⟨bJ.symm,?_,.refl⟩
  unfold added
  rw [bJ]
  exact al.mono (fun q hq=> .inl hq) fun q hq=>hq.elim (al.r5 q) fun hq=>absurd hq.2 hq.1
 ·rw [eO,M7,Bool.or_eq_false_iff] at ak
  obtain⟨bq,cg⟩:=ak
  have a8:fq l i.bV=none:=by
   cases a8:fq l i.bV with
   | none=>rfl
   | some _=>rw [a8] at bq; cases bq
  have bJ:ts l i=true:=by unfold ts; rw [a8,cg]; rfl
  have bE:dI em i.cu=none:=by
   cases bE:dI em i.cu with
   | none=>rfl
   | some _=>rw [bE,cg] at eO; cases eO
  have ax:pat (cT hp m (Cell.jI (fB em i.cu i))) p=some (.mA ⟨nB k,(Fw s k:Int),f,⟨some m⟩⟩):=by rw [lv jO.symm]; exact hp'
  have f1:ph s k (cT hp m (Cell.jI (fB em i.cu i))) f l (fun q=>own q∧q≠m∧q≠p):=bl.congr (fun q _ hq=>hq) fun q hq=>lv hq.2.1.symm
  refine .eq rfl (.eq J (.eq (z8 h au ar) (.eq rfl (.eq ad (.eq rfl (.eq (by unfold hg; rw [ax]) (.bind (XA h au f1 (fun q hq=>by rw [p7]; exact al.r5 q hq.1) al.k2 ar a8 cg hlen) fun gM aS=> .ret ⟨bJ.symm,?_,?_⟩)))))))
  ·obtain⟨jg,gY⟩:=aS
   have cN:pat gM p=some (.mA ⟨nB k,(Fw s k:Int),f,⟨some m⟩⟩):=by rw [gY.rest p (ie ax) (fun hq=>hq.2.2 rfl)]; exact ax
   have cF:pat gM m=some (.jI (fB em i.cu i)):=by
    have:pat (cT hp m (Cell.jI (fB em i.cu i))) m=some (.jI (fB em i.cu i)):=rf hm
    rw [gY.rest m (ie this) (fun hq=>hq.2.1 rfl)]; exact this
   unfold added
   rw [if_pos bJ]
   refine⟨al.k2.snoc ar a8 cg hlen,⟨f,m,_,by unfold hg; rw [cN],by unfold j0; rw [cF],.inl ay,.inl aU,?_,jg.congr (fun q _ hq=> ?_) fun q _=>rfl⟩,fun q hq=> ?_⟩
   ·unfold rI
    rw [LX bE,List.map_append]
    exact List.Perm.append_right _ a0
   ·rcases hq with hq | ⟨av,bm⟩
    ·exact⟨.inl hq.1,hq.2⟩
    ·rw [p7] at av
     exact⟨.inr ⟨av,bm⟩,fun e=>av (e ▸ ie hm),fun e=>av (e ▸ ie hp')⟩
   ·rcases hq with hq | hq
    ·exact gY.keys q (by rw [p7]; exact al.r5 q hq)
    ·exact hq.2
  ·exact(ez.up (own:=own) aU).trans aS.2 fun q _ hq=>hq.1
theorem Hj {hp hp':aN Cell} {root:Ref} {ws:List Bool} {b:Bool} {p q:Nat} {c si:dz} (bJ:nP hp root) (hw:cK hp root ws=some p) (ak:cy hp p=some c) (hq:b7 c.c1 (e7 b)=some q) (mQ:cy hp q=some si) (ao:∀ x,b7 si.c1 (e7 x)=none)
 (cw:cy hp' p=some { c with c1:=h2 c.c1 (e7 b) none }) (gM:∀ x,x≠p→cy hp' x=cy hp x):
 ∀ (aY us:List Bool) (r:Nat),cK hp root us=some r→us≠ws ++ [b]→cK hp' (some r) aY=if us ++ aY=ws ++ [b] then none else cK hp (some r) aY
 | [],us,r,hu,cH=>by
   rw [List.append_nil,if_neg cH]; rfl
 | x :: xs,us,r,hu,cH=>by
   obtain⟨J4,r6⟩:=bJ.reads us r hu
   by_cases n4:r=p
   ·subst n4
    have Jn:=bJ.inj us ws r hu hw
    subst Jn
    rw [ak] at r6; cases r6
    rw [g2 cw,g2 ak]
    simp only
    have cb:e7 b < 2:=by cases b <;> decide
    rw [sw _ _ cb]
    by_cases vO:x=b
    ·subst vO
     rw [if_pos rfl,hq,gd]
     by_cases h:xs= []
     ·subst h; rw [if_pos rfl]
     ·have eO: ¬ us ++ x :: xs=us ++ [x]:=fun e=>h (by have:=List.append_cancel_left e; simpa using this)
      rw [if_neg eO]
      cases xs with
      | nil=>exact absurd rfl h
      | cons y ys=>rw [g2 mQ,ao,gd]
    ·have aao: ¬ e7 x=e7 b:=fun e=>vO (by cases x <;> cases b <;> first | rfl | cases e)
     have eO:∀ ys,¬ us ++ x :: ys=us ++ [b]:=fun ys e=>vO (by have:=List.append_cancel_left e; simpa using (List.cons.inj this).1)
     rw [if_neg aao,if_neg (eO xs)]
     cases e:b7 c.c1 (e7 x) with
     | none=>rw [gd,gd]
     | some jB=>
       have lQ:cK hp root (us ++ [x])=some jB:=by rw [lV,hu,g2 ak,e,m5]
       rw [Hj bJ hw ak hq mQ ao cw gM xs (us ++ [x]) jB lQ (eO []),List.append_assoc,List.singleton_append,if_neg (eO xs)]
   ·have J:cy hp' r=some J4:=by rw [gM r n4]; exact r6
    rw [g2 J,g2 r6]
    have Y3:us ++ [x]≠ws ++ [b]:=fun e=>by
     have:=List.append_inj_left' e rfl
     subst this
     rw [hu] at hw; cases hw; exact n4 rfl
    cases e:b7 J4.c1 (e7 x) with
    | none=>rw [gd,gd]; split <;> rfl
    | some jB=>
      have lQ:cK hp root (us ++ [x])=some jB:=by rw [lV,hu,g2 r6,e,m5]
      rw [Hj bJ hw ak hq mQ ao cw gM xs (us ++ [x]) jB lQ Y3,List.append_assoc,List.singleton_append]
theorem cut {hp hp':aN Cell} {r:Nat} {ws:List Bool} {b:Bool} {p q:Nat} {c si:dz} (bJ:nP hp (some r)) (hw:cK hp (some r) ws=some p) (ak:cy hp p=some c) (hq:b7 c.c1 (e7 b)=some q) (mQ:cy hp q=some si) (ao:∀ x,b7 si.c1 (e7 x)=none) (hu:si.dG=false)
 (cw:cy hp' p=some { c with c1:=h2 c.c1 (e7 b) none }) (gM:∀ x,x≠p→cy hp' x=cy hp x):
 nP hp' (some r)∧ (∀ aY,cK hp' (some r) aY=if aY=ws ++ [b] then none else cK hp (some r) aY)∧ ∀ aY,cont hp' (some r) aY=cont hp (some r) aY:=by
 have a8:∀ aY,cK hp' (some r) aY=if aY=ws ++ [b] then none else cK hp (some r) aY:=fun aY=>Hj bJ hw ak hq mQ ao cw gM aY [] r rfl (by simp)
 have Jo:cK hp (some r) (ws ++ [b])=some q:=by rw [lV,hw,g2 ak,hq,m5]
 refine⟨⟨fun aY x h=> ?_,fun aY cs x J ad=> ?_,fun aY x h=> ?_⟩,a8,fun aY=> ?_⟩
 ·rw [a8] at h
  split at h
  ·cases h
  ·obtain⟨jf,J⟩:=bJ.reads aY x h
   by_cases e:x=p
   ·subst e; exact⟨_,cw⟩
   ·exact⟨jf,by rw [gM x e]; exact J⟩
 ·rw [a8] at J ad
  split at J <;> split at ad
  ·cases J
  ·cases J
  ·cases ad
  ·exact bJ.inj aY cs x J ad
 ·rw [a8] at h
  split at h
  ·cases h
  ·exact bJ.dep aY x h
 ·by_cases e:aY=ws ++ [b]
  ·subst e
   rw [ki (by rw [a8,if_pos rfl]),jD Jo mQ,hu]; rfl
  ·have vP:cK hp' (some r) aY=cK hp (some r) aY:=by rw [a8,if_neg e]
   cases h:cK hp (some r) aY with
   | none=>rw [ki h,ki (vP.trans h)]
   | some x=>
     obtain⟨jf,J⟩:=bJ.reads aY x h
     by_cases eq:x=p
     ·subst eq
      rw [ak] at J; cases J
      rw [jD h ak,jD (vP.trans h) cw]
     ·rw [jD h J,jD (vP.trans h) (by rw [gM x eq]; exact J)]
structure IC (jv hp:aN Cell) (t:Nat) (g:List Bool→Option Int) (r:Nat):Prop where
 cell:∃ c,fu hp t=some c∧c.fA=32∧c.cD=some r
 tree:nP hp (some r)
 cont:∀ aY,cont hp (some r) aY=g aY
 keeps:ez jv hp (Own jv t)
 own:∀ aY q,cK hp (some r) aY=some q→Own jv t q
theorem empty_eq {hp:aN Cell} {p:Nat} {c:dz} (h:cy hp p=some c):wq hp (some p)=some (!c.dG && decide (c.c1=default)):=by
 refine bC.get ?_
 unfold wq
 refine .eq rfl (.eq h ?_)
 refine .dd (P:=fun r=>r=p) (fun _=>⟨p,rfl,rfl⟩) fun o J=> ?_
 refine .dd (P:=fun r=>r=c) (fun ad=>⟨c,by rw [J ad]; exact h,rfl⟩) fun cg ad=> .ret ?_
 cases hu:c.dG with
 | true=>rfl
 | false=>rw [ad (by rw [hu]; rfl)]
theorem Th (v:aA) (n:Nat):(ei v n).length=n:=by unfold ei; simp
theorem Ti (v:aA) {i n:Nat} (h:i≤n):ei v n=ei v i ++ (ei v n).drop i:=by
 have:ei v i=(ei v n).take i:=by unfold ei; rw [← List.map_take,List.take_range]; congr 2; omega
 rw [this,List.take_append_drop]
theorem DB {hp:aN Cell} {r:Ref} {v:aA} {i n:Nat} (h:i≤n) {p:Nat} (hp':cK hp r (ei v n)=some p):∃ q,cK hp r (ei v i)=some q:=by
 rw [Ti v h,lV] at hp'
 cases e:cK hp r (ei v i) with
 | none=>rw [e,gd] at hp'; cases hp'
 | some q=>exact⟨q,rfl⟩
theorem Tj {hp:aN Cell} {t:Nat} {g:List Bool→Option Int} (h:iu hp t g) {n:Nat} (aP:n≤32) {v:aA} (a6:∀ j,j < 128→cx v j=true→lead 32 n j=true) {id:Int} (bE:g (ei v n)=some id):
 bC (wj hp (some t) v n) (fun r=>r.1=true∧iu r.2 t (fun aY=>if aY=ei v n then none else g aY)∧ez hp r.2 (Own hp t)∧ ∀ q,Own r.2 t q→Own hp t q):=by
 obtain⟨c,ak,hb,bJ,JB⟩:=h.ok
 have Y4:∃ p,cK hp c.cD (ei v n)=some p:=by
  cases e:cK hp c.cD (ei v n) with
  | none=>rw [← JB,ki e] at bE; cases bE
  | some p=>exact⟨p,rfl⟩
 obtain⟨tA,iz⟩:=Y4
 have XB:∃ r,c.cD=some r:=by
  obtain⟨q,hq⟩:=DB (Nat.zero_le n) iz
  rw [K2,m5] at hq
  exact⟨q,hq⟩
 obtain⟨r,aS⟩:=XB
 rw [aS] at bJ JB iz
 unfold wj
 refine .eq (M5 h aP a6) ?_
 rw [bE]
 refine .cond (fun ak=>by cases ak) fun _=> .eq rfl (.eq ak (.eq rfl ?_))
 rw [aS]
 show bC (Option.bind (qK hp (n:Int) v (some t) _ _) _) _
 refine bC.bind (P:=fun e:(List Int × List Ref) ⊕ Empty=> ∃ bits mg,e= .inl (bits,mg)∧mg.length=n + 1∧bits.length=n∧ (∀ j,j≤n→aI mg j=cK hp (some r) (ei v j))∧ ∀ j,j < n→aI bits j=((e7 (cx v (31 - j)):Nat):Int))
  (N2 ak hb v aP (fun i s=> ∃ bits mg,s=(bits,mg)∧mg.length=i + 1∧bits.length=i∧ (∀ j,j≤i→aI mg j=cK hp (some r) (ei v j))∧ ∀ j,j < i→aI bits j=((e7 (cx v (31 - j)):Nat):Int)) ⟨[],[some r],rfl,rfl,rfl,fun j aG=> ?_,fun j aG=>by omega⟩ (fun i s ar hs=> ?_) (fun s hs=> ?_)) fun e he=> ?_
 ·have:j=0:=by omega
  subst this
  rw [K2,m5]; rfl
 ·obtain⟨bits,mg,rfl,J,ad,ay,aU⟩:=hs
  obtain⟨q,hq⟩:=DB (show i≤n by omega) iz
  obtain⟨d,hd⟩:=bJ.reads _ _ hq
  have hw:bA ((mg.length:Int) - 1)=(i:Int):=by rw [hA (by omega) (by omega)]; omega
  simp only [hw]
  have cb:e7 (cx v (31 - i)) < 2:=by cases cx v (31 - i) <;> decide
  refine .idx rfl (by omega) (.eq (a:=q) (by rw [ay i (Nat.le_refl _)]; exact hq) (.idx rfl cb (.eq hd (.eq (kh _ _ (by simp; omega) (by omega)) (.eq (kh _ _ (by simp; omega) (by omega)) (.ret ⟨_,_,rfl,by simp; omega,by simp; omega,fun j aG=> ?_,fun j aG=> ?_⟩))))))
  ·rw [GA]
   by_cases hI:j=mg.length
   ·rw [if_pos hI,show j=i + 1 by omega,Da,lV,hq,g2 hd,m5]
   ·rw [if_neg hI]; exact ay j (by omega)
  ·rw [GA]
   by_cases hI:j=bits.length
   ·rw [if_pos hI,show j=i by omega]
   ·rw [if_neg hI]; exact aU j (by omega)
 ·exact⟨s.1,s.2,by obtain⟨bits,mg,rfl,_⟩:=hs; rfl,by obtain⟨bits,mg,rfl,h⟩:=hs; exact h⟩
 obtain⟨bits,mg,rfl,J,ad,ay,aU⟩:=he
 simp only [Sum.elim_inl]
 obtain⟨d,hd⟩:=bJ.reads _ _ iz
 have Jv:=oq.1 hd
 have iJ:cy (cT hp tA (.fC { d with dG:=false })) tA=some { d with dG:=false } :=wR Jv
 refine .idx rfl (by omega) (.eq (a:=tA) (by rw [ay n (Nat.le_refl _)]; exact iz) (.eq hd (.eq rfl (.eq iJ (.eq rfl ?_)))))
 generalize dK:cT (cT hp tA (.fC { d with dG:=false })) tA (.fC { d with dG:=false,ih:=0 })=cJ
 have gq:=Ej hd ak
 have oJ:cy cJ tA=some { d with dG:=false,ih:=0 } :=by rw [← dK]; exact wR (oq.1 iJ)
 have ID:∀ q,q≠tA→pat cJ q=pat hp q:=fun q hq=>by rw [← dK,lv hq.symm,lv hq.symm]
 obtain⟨s1,s2⟩:=OG bJ iz hd oJ rfl fun q hq=>tW (ID q hq)
 have PX:=zD hd oJ rfl fun q hq=>tW (ID q hq)
 have aap:fu cJ t=some c:=by rw [C4 (ID t gq.symm)]; exact ak
 have N4:Own hp t tA:= .inr ⟨c,_,ak,by rw [aS]; exact iz⟩
 have cS:ez hp cJ (Own hp t):=by
  rw [← dK]
  exact(ez.up (own:=Own hp t) N4).trans (ez.up N4) fun q _ h=>h
 have J3:IC hp cJ t (fun aY=>if aY=ei v n then none else g aY) r:=⟨⟨c,aap,hb,aS⟩,s1,fun aY=>by
  rw [s2]
  by_cases e:aY=ei v n
  ·rw [if_pos e]; simp only [if_pos e]; rfl
  ·rw [if_neg e]; simp only [if_neg e]; exact JB aY,cS,fun aY q hq=> .inr ⟨c,aY,ak,by rw [aS,← PX]; exact hq⟩⟩
 have ti:bA ((n:Int) - 1)=(n:Int) - 1:=hA (by omega) (by omega)
 rw [ti]
 refine bC.bind (P:=fun aR=>IC hp aR.2.2 t (fun aY=>if aY=ei v n then none else g aY) r) (bC.u0 n (fun i st=> ∃ hq,st=((n:Int) - 1 - (i:Int),hq)∧IC hp hq t (fun aY=>if aY=ei v n then none else g aY) r∧ ∀ j,j + i≤n→cK hq (some r) (ei v j)=aI mg j) (by omega) ⟨cJ,by simp,J3,fun j aG=>by rw [PX,ay j (by omega)]⟩ (fun i st ar hs=> ?_) (fun st hs=> ?_)) fun aR qA=> ?_
 ·obtain⟨hq,rfl,hm,IE⟩:=hs
  have aF:(n:Int) - 1 - (i:Int)=((n - 1 - i:Nat):Int):=by omega
  have aR:bA ((n:Int) - 1 - (i:Int) + 1)=((n - i:Nat):Int):=by rw [hA (by omega) (by omega)]; omega
  have dh:bA ((n:Int) - 1 - (i:Int) - 1)=(n:Int) - 1 - ((i + 1:Nat):Int):=by rw [hA (by omega) (by omega)]; omega
  simp only [aR,dh]
  have rY:decide ((n:Int) - 1 - (i:Int)≥0)=true:=by rw [decide_eq_true_eq]; omega
  simp only [rY]
  have iL:=IE (n - i) (by omega)
  have rU:=IE (n - 1 - i) (by omega)
  obtain⟨aj,ka⟩:=DB (show n - i≤n by omega) iz
  obtain⟨aa,EW⟩:=DB (show n - 1 - i≤n by omega) iz
  rw [ay _ (by omega),ka] at iL
  rw [ay _ (by omega),EW] at rU
  obtain⟨bq,dM⟩:=hm.tree.reads _ _ iL
  obtain⟨tB,vC⟩:=hm.tree.reads _ _ rU
  refine .dd (P:=fun ht=>ht=n - i) (fun _=>⟨_,ox (by omega),rfl⟩) fun ht rO=> ?_
  rw [rO rfl]
  have xO:aI mg (n - i)=some aj:=by rw [ay _ (by omega)]; exact ka
  have Jh:aI mg (n - 1 - i)=some aa:=by rw [ay _ (by omega)]; exact EW
  refine .dd (P:=fun y=>y=(!bq.dG && decide (bq.c1=default))) (fun _=>⟨_,by rw [xO]; exact empty_eq dM,rfl⟩) fun b0 hS=> .cond (fun df=> ?_) fun df=> .ret hm
  rw [Bool.true_and,hS rfl,Bool.and_eq_true,Bool.not_eq_true',decide_eq_true_eq] at df
  obtain⟨bL,dF⟩:=df
  have cb:e7 (cx v (31 - (n - 1 - i))) < 2:=by cases cx v (31 - (n - 1 - i)) <;> decide
  have XC:ei v (n - i)=ei v (n - 1 - i) ++ [cx v (31 - (n - 1 - i))]:=by rw [← Da,show n - 1 - i + 1=n - i by omega]
  have pN:b7 tB.c1 (e7 (cx v (31 - (n - 1 - i))))=some aj:=by
   rw [XC,lV,rU,g2 vC,m5] at iL; exact iL
  have jv:=oq.1 vC
  refine .idx aF (by omega) (.idx aF (by omega) (.eq Jh (.idx (aU _ (by omega)) cb (.eq vC (.eq rfl (.ret ?_))))))
  obtain⟨av,bm,bS⟩:=cut (hp':=cT hq aa (.fC { tB with c1:=h2 tB.c1 (e7 (cx v (31 - (n - 1 - i)))) none })) hm.tree rU vC pN dM (fun x=>by rw [dF,C0]; rfl) bL (wR jv) fun x al=>ss al.symm
  obtain⟨jf,cN,cF,fL⟩:=hm.cell
  have XD:=hm.own _ _ rU
  refine⟨_,rfl,⟨⟨jf,by rw [C5 (Ej vC cN)]; exact cN,cF,fL⟩,av,fun aY=>by rw [bS]; exact hm.cont aY,hm.keeps.trans (ez.up XD) fun q _ h=>h,fun aY q kb=> ?_⟩,fun j aG=> ?_⟩
  ·rw [bm] at kb
   split at kb
   ·cases kb
   ·exact hm.own aY q kb
  ·rw [bm,if_neg (fun e=>by have:=congrArg List.length e; simp only [List.length_append,Th,List.length_singleton] at this; omega)]
   exact IE j (by omega)
 ·obtain⟨hq,rfl,hm,_⟩:=hs
  have rY:decide ((n:Int) - 1 - (n:Int)≥0)=false:=by rw [decide_eq_false_iff_not]; omega
  simp only [rY]
  refine .dd (P:=fun _=>True) (fun ak=>by cases ak) fun _ _=> .dd (P:=fun _=>True) (fun ak=>by cases ak) fun _ _=> .cond (fun ak=>by cases ak) fun _=> .ret hm
 ·obtain⟨k0,cN,cF,fL⟩:=qA.cell
  refine .eq cN ?_
  rw [fL]
  obtain⟨J4,r6⟩:=qA.tree.reads [] r rfl
  refine .eq (empty_eq r6) (.bind (P:=fun bB=>iu bB t (fun aY=>if aY=ei v n then none else g aY)∧ez hp bB (Own hp t)∧ ∀ q,Own bB t q→Own hp t q) (.cond (fun df=> .eq rfl (.ret ?_)) fun _=> .ret ?_) fun bB cV=> .ret ⟨rfl,cV⟩)
  ·rw [Bool.and_eq_true,Bool.not_eq_true',decide_eq_true_eq] at df
   obtain⟨bL,dF⟩:=df
   have PC:fu (cT aR.2.2 t (.iV { k0 with cD:=none })) t=some { k0 with cD:=none } :=LN (qT.1 cN)
   refine⟨⟨_,PC,cF,⟨fun aY p h=>(by rw [gd] at h; cases h),fun aY cs p h=>(by rw [gd] at h; cases h),fun aY p h=>(by rw [gd] at h; cases h)⟩,fun aY=> ?_⟩,qA.keeps.trans (ez.up (own:=Own hp t) (.inl rfl)) fun q _ h=>h,fun q hq=> ?_⟩
   ·rw [ki gd,← qA.cont]
    cases aY with
    | nil=>rw [jD (p:=r) rfl r6,bL]; rfl
    | cons b aY=>rw [ki]; rw [g2 r6,dF,C0]; exact gd
   ·rcases hq with rfl | ⟨jf,aY,dE,dU⟩
    ·exact .inl rfl
    ·rw [PC] at dE; cases dE
     rw [gd] at dU; cases dU
  ·refine⟨⟨k0,cN,cF,by rw [fL]; exact qA.tree,fun aY=>by rw [fL]; exact qA.cont aY⟩,qA.keeps,fun q hq=> ?_⟩
   rcases hq with rfl | ⟨jf,aY,dE,dU⟩
   ·exact .inl rfl
   ·rw [cN] at dE; cases dE
    rw [fL] at dU
    exact qA.own aY q dU
def jw (hp:aN Cell):Nat→Ref→List Int
 | 0,_=> []
 | _ + 1,none=> []
 | n + 1,some p=>match cy hp p with
   | none=> []
   | some c=>(bif c.dG then [c.ih] else []) ++ (jw hp n (b7 c.c1 0) ++ jw hp n (b7 c.c1 1))
theorem DO {hp:aN Cell} {n p:Nat} {c:dz} (h:cy hp p=some c):jw hp (n + 1) (some p)=(bif c.dG then [c.ih] else []) ++ (jw hp n (b7 c.c1 0) ++ jw hp n (b7 c.c1 1)):=by
 show(match cy hp p with | none=> [] | some c=>_)=_
 rw [h]
theorem qU {hp:aN Cell} {p:Nat} {c:dz} (h:cy hp p=some c) (b:Bool) (aY:List Bool):cont hp (some p) (b :: aY)=cont hp (b7 c.c1 (e7 b)) aY:=by
 unfold cont; rw [g2 h]
theorem ui {hp:aN Cell} :∀ {n:Nat} {r:Ref} {id:Int},id∈jw hp n r→ ∃ aY,cont hp r aY=some id
 | 0,_,_,h=>by cases h
 | _ + 1,none,_,h=>by cases h
 | n + 1,some p,id,h=>by
   cases ak:cy hp p with
   | none=>
     have:jw hp (n + 1) (some p)= []:=by
      show(match cy hp p with | none=> [] | some c=>_)=_
      rw [ak]
     rw [this] at h; cases h
   | some c=>
     rw [DO ak] at h
     rcases List.mem_append.1 h with h | h
     ·refine⟨[],?_⟩
      rw [jD (p:=p) rfl ak]
      cases hu:c.dG with
      | true=>rw [hu] at h; rw [List.mem_singleton.1 h]; rfl
      | false=>rw [hu] at h; cases h
     ·rcases List.mem_append.1 h with h | h
      ·obtain⟨aY,kb⟩:=ui h
       exact⟨false :: aY,by rw [qU ak]; exact kb⟩
      ·obtain⟨aY,kb⟩:=ui h
       exact⟨true :: aY,by rw [qU ak]; exact kb⟩
theorem LY {hp:aN Cell} :∀ {n:Nat} {r:Ref} {id:Int} {aY:List Bool},aY.length < n→cont hp r aY=some id→id∈jw hp n r
 | 0,_,_,_,ao,_=>by omega
 | n + 1,none,id,aY,_,h=>by rw [ki gd] at h; cases h
 | n + 1,some p,id,aY,ao,h=>by
   cases ak:cy hp p with
   | none=>
     exfalso
     cases aY with
     | nil=>
       unfold cont at h
       have:cK hp (some p) []=some p:=rfl
       rw [this] at h
       simp only [ak] at h; cases h
     | cons b aY=>
       have:cK hp (some p) (b :: aY)=none:=by
        show(match cy hp p with | none=>none | some c=>cK hp (b7 c.c1 (e7 b)) aY)=none
        rw [ak]
       rw [ki this] at h; cases h
   | some c=>
     rw [DO ak]
     cases aY with
     | nil=>
       rw [jD (p:=p) rfl ak] at h
       cases hu:c.dG with
       | true=>
         rw [hu] at h
         have:c.ih=id:=by simpa using h
         rw [this]; simp
       | false=>rw [hu] at h; cases h
     | cons b aY=>
       rw [qU ak] at h
       have kx:aY.length < n:=by simp at ao; omega
       have:=LY kx h
       cases b
       ·exact List.mem_append_right _ (List.mem_append_left _ this)
       ·exact List.mem_append_right _ (List.mem_append_right _ this)
theorem Lm {hp:aN Cell} :∀ {n:Nat} {r:Ref},(∀ aY cs id,cont hp r aY=some id→cont hp r cs=some id→aY=cs)→ (jw hp n r).Nodup
 | 0,_,_=>List.nodup_nil
 | _ + 1,none,_=>List.nodup_nil
 | n + 1,some p,h=>by
   cases ak:cy hp p with
   | none=>
     have:jw hp (n + 1) (some p)= []:=by
      show(match cy hp p with | none=> [] | some c=>_)=_
      rw [ak]
     rw [this]; exact List.nodup_nil
   | some c=>
     rw [DO ak]
     have hb:∀ b,(jw hp n (b7 c.c1 (e7 b))).Nodup:=fun b=>Lm fun aY cs id J ad=>by
      have:=h (b :: aY) (b :: cs) id (by rw [qU ak]; exact J) (by rw [qU ak]; exact ad)
      simpa using this
     rw [List.nodup_append,List.nodup_append]
     refine⟨by cases c.dG <;> simp,⟨hb false,hb true,fun a bd jf mR e=> ?_⟩,fun a bd jf mR e=> ?_⟩
     ·subst e
      obtain⟨aY,J⟩:=ui bd
      obtain⟨cs,ad⟩:=ui mR
      have:=h (false :: aY) (true :: cs) a (by rw [qU ak]; exact J) (by rw [qU ak]; exact ad)
      simp at this
     ·subst e
      cases hu:c.dG with
      | false=>rw [hu] at bd; cases bd
      | true=>
        rw [hu] at bd
        have bd:a=c.ih:=List.mem_singleton.1 bd
        have bG:cont hp (some p) []=some a:=by rw [jD (p:=p) rfl ak,hu,bd]; rfl
        rcases List.mem_append.1 mR with J | J
        ·obtain⟨aY,J⟩:=ui J
         have:=h [] (false :: aY) a bG (by rw [qU ak]; exact J)
         cases this
        ·obtain⟨aY,J⟩:=ui J
         have:=h [] (true :: aY) a bG (by rw [qU ak]; exact J)
         cases this
theorem LZ:∀ {l m:List Int},l.Nodup→ (∀ x∈l,x∈m)→l.length≤m.length
 | [],m,_,_=>Nat.zero_le _
 | x :: l,m,aP,h=>by
   obtain⟨J,ad⟩:=List.nodup_cons.1 aP
   have al:=h x (by simp)
   have:=LZ (m:=m.erase x) ad fun y a5=>(List.mem_erase_of_ne fun e=>J (by rw [← e]; exact a5)).2 (h y (by simp [a5]))
   rw [List.length_erase_of_mem al] at this
   have hp:=List.length_pos_of_mem al
   simp only [List.length_cons]; omega
theorem Tk (v:aA) (n:Int):bC (ze v n) (fun _=>True):=by
 unfold ze
 exact .cond (fun _=> .ret trivial) fun _=> .cond (fun _=> .eq rfl (.ret trivial)) fun _=> .eq rfl (.eq rfl (.ret trivial))
theorem Hk {hp:aN Cell} {t:Nat} {c:fm} (ak:fu hp t=some c):∀ (d f:Nat) (r:Ref) (aT:aA) (cG:Int) (hJ:List db),d < f→ (∀ aY p,cK hp r aY=some p→aY.length < d)→ (∀ aY p,cK hp r aY=some p→ ∃ c,cy hp p=some c)→hJ.length + (jw hp d r).length≤20000→
 bC (tC f hp (some t) r aT cG hJ) (fun o=>o.length=hJ.length + (jw hp d r).length)
 | d,0,r,aT,cG,hJ,a8,_,_,_=>by omega
 | 0,f + 1,none,aT,cG,hJ,a8,hd,aS,ao=>⟨hJ,rfl,rfl⟩
 | 0,f + 1,some p,aT,cG,hJ,a8,hd,aS,ao=>by have:=hd [] p rfl; simp at this
 | d + 1,f + 1,none,aT,cG,hJ,a8,hd,aS,ao=>⟨hJ,rfl,rfl⟩
 | d + 1,f + 1,some p,aT,cG,hJ,a8,hd,aS,ao=>by
   obtain⟨e,he⟩:=aS [] p rfl
   rw [DO he] at ao ⊢
   simp only [List.length_append] at ao ⊢
   have pN:∀ b,(∀ aY q,cK hp (b7 e.c1 (e7 b)) aY=some q→aY.length < d)∧ ∀ aY q,cK hp (b7 e.c1 (e7 b)) aY=some q→ ∃ c,cy hp q=some c:=fun b=>⟨fun aY q hq=>by
    have:=hd (b :: aY) q (by rw [g2 he]; exact hq)
    simp at this; omega,fun aY q hq=>aS (b :: aY) q (by rw [g2 he]; exact hq)⟩
   show bC (cond (some p:Ref).isNone (some hJ) _) _
   refine .cond (fun ak=>by cases ak) fun _=> ?_
   refine .bind (P:=fun y=>y.length=hJ.length + (bif e.dG then [e.ih] else []).length) ?_ fun aB bu=> ?_
   ·unfold Cw
    refine .eq rfl (.eq he ?_)
    cases hu:e.dG with
    | true=>
      rw [hu] at ao
      simp only [cond_true,List.length_singleton] at ao
      refine .eq (a:=hJ ++ [{ c6:=aT,ud:=cG,bP:=e.ih }]) ?_ (.ret (by simp))
      show(hQ 32 hJ _).bind _=_
      rw [kh _ _ (by simp; omega) (by omega)]; rfl
    | false=>exact .eq rfl (.ret (by simp))
   ·refine .eq rfl (.eq he (.bind (Hk ak d f _ aT (bA (cG + 1)) aB (by omega) (pN false).1 (pN false).2 (by rw [bu]; show _ + _ + (jw hp d (b7 e.c1 0)).length≤_; omega)) fun aH cB=> ?_))
    have cB:aH.length=aB.length + (jw hp d (b7 e.c1 0)).length:=cB
    refine .eq rfl (.eq rfl (.eq ak (.bind (Tk _ _) fun bD _=> .eq rfl (.bind (Hk ak d f _ _ (bA (cG + 1)) aH (by omega) (pN true).1 (pN true).2 (by rw [cB,bu]; show _ + _ + _ + (jw hp d (b7 e.c1 1)).length≤_; omega)) fun cl il=> .ret ?_))))
    have il:cl.length=aH.length + (jw hp d (b7 e.c1 1)).length:=il
    rw [il,cB,bu]; omega
theorem Vy {hp:aN Cell} {t:Nat} {g:List Bool→Option Int} (h:iu hp t g) (ar:∀ aY cs id,g aY=some id→g cs=some id→aY=cs) (m:List Int) (hm:∀ aY id,g aY=some id→id∈m) (ao:m.length≤20000):bC (wy hp (some t)) (fun r=>r=0→ ∀ aY,g aY=none):=by
 obtain⟨c,ak,hb,bJ,bE⟩:=h.ok
 have aP:(jw hp 33 c.cD).Nodup:=Lm fun aY cs id J ad=>ar aY cs id (by rw [← bE]; exact J) (by rw [← bE]; exact ad)
 have hle:(jw hp 33 c.cD).length≤m.length:=LZ aP fun x al=>by
  obtain⟨aY,kb⟩:=ui al
  exact hm aY x (by rw [← bE]; exact kb)
 unfold wy CW Cn
 refine .bind (P:=fun y=>y.length=(jw hp 33 c.cD).length) (.bind (P:=fun y=>y.length=(jw hp 33 c.cD).length) (.bind (P:=fun y=>y.length=(jw hp 33 c.cD).length) (.cond (fun _=> .eq rfl (.eq ak ((show bC (FB hp (some t) c.cD default 0 []) _ from Hk ak 33 fa c.cD default 0 [] (by unfold fa; omega) (fun aY p hp=>by have:=bJ.dep aY p hp; omega) bJ.reads (by simp; omega)).bind fun y a5=> .ret (by simpa using a5)))) fun ak=>by cases ak) fun y a5=> .ret a5) fun y a5=> .ret a5) fun y a5=> .ret fun bG aY=> ?_
 have bG:(jw hp 33 c.cD).length=0:=by rw [← a5]; have:(y.length:Int)=0:=bG; omega
 cases aaq:g aY with
 | none=>rfl
 | some id=>
   have JC:cont hp c.cD aY=some id:=by rw [bE]; exact aaq
   have hlen:aY.length < 33:=by
    cases a8:cK hp c.cD aY with
    | none=>rw [ki a8] at JC; cases JC
    | some p=>have:=bJ.dep aY p a8; omega
   have:=LY hlen JC
   rw [List.eq_nil_of_length_eq_zero bG] at this; cases this
theorem TY (x:c9) (n:Int) (ao:x.c2.length≤1000):bC (yo x n) (fun r=>(r= -1∧ij x.c2 n=false)∨ ∃ i:Nat,i < x.c2.length∧r=i∧ (aI x.c2 i).cu=n∧ij x.c2 n=true∧ ∀ j,j < i→ (aI x.c2 j).cu≠n):=N1 x n ao
theorem UL {l:List aw} {n:Int} {i:Nat} (aP:l.Pairwise fun a c=>a.cu≠c.cu) (ar:i < l.length) (h:(aI l i).cu=n):
 l.take i ++ l.drop (i + 1)=l.filter (fun c=>c.cu !=n):=by
 rw [eV _ ar] at h
 have Fc:l=l.take i ++ l[i] :: l.drop (i + 1):=by rw [List.getElem_cons_drop,List.take_append_drop]
 rw [Fc,List.pairwise_append] at aP
 obtain⟨J,ad,ay⟩:=aP
 obtain⟨aU,a0⟩:=List.pairwise_cons.1 ad
 conv=>rhs; rw [Fc]
 rw [List.filter_append,List.filter_cons_of_neg (by simp [h])]
 congr 1
 ·exact(List.filter_eq_self.2 fun c ak=>by have:=ay c ak l[i] List.mem_cons_self; rw [h] at this; simpa using this).symm
 ·exact(List.filter_eq_self.2 fun c ak=>by have:=aU c ak; rw [h] at this; simp; exact fun e=>this e.symm).symm
theorem kZ.filter {s:a1} {k:Nat} {l:List aw} (h:kZ s k l) (q:aw→Bool):kZ s k (l.filter q) where
 ok i ar:=h.ok i (List.mem_filter.1 ar).1
 num:=h.num.sublist List.filter_sublist
 len:=Nat.le_trans (List.length_filter_le _ _) h.len
theorem Tl {s:a1} {k:Nat} {l:List aw} (ao:kZ s k l) (n:Int):
 yk (ru s k l) n=some (ij l n,ru s k (l.filter fun c=>c.cu !=n)):=by
 refine bC.get ?_
 unfold yk
 obtain⟨jg,gY⟩:=ao.g1
 refine(TY (ru s k l) n (by show(g1 _ l).length≤1000; omega)).bind fun aB J=> ?_
 rcases J with⟨rfl,ad⟩ | ⟨j,ad,rfl,ay,aU,a0⟩
 ·have ld:ij l n=false:=by rw [← ad]; exact Dy.symm
  refine .cond (fun _=> .ret ?_) fun ak=>by simp at ak
  rw [ld,List.filter_eq_self.2 fun c ak=>by simpa using Mr ld c ak]
 ·have xX:ij l n=true:=by rw [← aU]; exact Dy.symm
  refine .cond (fun ak=>by simp at ak; omega) fun _=> ?_
  have aG:j < (g1 (hv s k) l).length:=ad
  refine .eq (a:=g1 (hv s k) (l.filter fun c=>c.cu !=n)) ?_ (.ret ?_)
  ·show AY (g1 (hv s k) l) _ _=_
   unfold AY
   rw [gT (by omega),if_pos ⟨by omega,by omega,by omega⟩]
   have aar:(g1 (hv s k) l).Pairwise fun a c=>a.cu≠c.cu:=((Hf l).symm.pairwise_iff fun ck=>fun e=>ck e.symm).1 ao.num
   rw [← Tb (DM s k) ao.Ju,← UL aar aG ay]
   simp
  ·rw [xX]; rfl
def iw (l:List aw) (e:bh):List aw:=l.filter fun c=> !h8 c.bV e
theorem m2 {l:List aw} {e:bh} {c:aw} :c∈iw l e↔c∈l∧h8 c.bV e=false:=by
 unfold iw; rw [List.mem_filter]; simp
theorem h9.iw {s:a1} {k:Nat} {l:List aw} (h:h9 s k l) (e:bh):h9 s k (Go.Proofs.YtmnggbjcnoffeaaGreat.iw l e):=
 ⟨h.ok.filter _,h.key.sublist List.filter_sublist⟩
theorem Dn {s:a1} {k:Nat} {l:List aw} (h:h9 s k l) {e:bh} {i:aw} (ar:i∈l) (au:h8 i.bV e=true):iw l e=l.filter fun c=>c.cu !=i.cu:=by
 unfold iw
 refine List.filter_congr fun c ak=> ?_
 by_cases aF:c=i
 ·rw [aF,au]; simp
 ·have J:h8 c.bV e=false:=by
   rw [Bool.eq_false_iff]; intro ad
   exact aF (h.uniq ak ar (LP ad (by rw [Hg]; exact au)))
  have ad:c.cu≠i.cu:=fun ad=>aF (h.ok.uniq ak ar ad)
  rw [J]; simp [ad]
theorem Y5 {s:a1} (h:dQ s) {hp:aN Cell} {q:Nat} {l:List aw} {own:Nat→Prop} (hq:xd s hp q l own) (ao:h9 s 0 l) {i:aw} (ar:i∈l):
 bC (yu hp ⟨some q⟩ i) (fun hp'=>xd s hp' q (iw l i.bV) own∧ez hp hp' own):=by
 obtain⟨m,em,J,ad,ay,aU,a0,ix⟩:=hq.ok
 have gp:=(ao.ok.ok i ar).fw
 have bE:dI em (eK i.bV)=some i.cu:=(a0 _ _).2 ⟨i,ar,rfl,rfl⟩
 unfold yu CD wm
 refine .eq (DA (gp.EI h (by decide)).1) ?_
 refine .eq (a:=(true,cT hp m (Cell.nf (hj em (eK i.bV))))) ?_ (.ret ?_)
 ·show((mz hp q).bind _).bind _=_
  rw [J]
  show((lC hp m).bind _).bind _=_
  rw [ad]
  show cond (!(dI em (eK i.bV)).isSome) _ _=_
  rw [bE]
  show(mz hp q).bind _=_
  rw [J]
  show(lC hp m).bind _=_
  rw [ad]; rfl
 have B0:q≠m:=fun e=>by
  subst e
  have:=sH J
  rw [p9 ad] at this; cases this
 refine⟨⟨m,_,by rw [Gf (lv B0.symm)]; exact J,LS (p9 ad),ay,aU,fun cU n=> ?_,ix.del⟩,.up aU⟩
 rw [zu ix]
 by_cases gq:cU=eK i.bV
 ·rw [if_pos gq]
  refine⟨fun e=>(by cases e),fun⟨c,ak,bl,cP⟩=> ?_⟩
  obtain⟨av,bm⟩:=m2.1 ak
  rw [(BZ h (ao.ok.ok c av).fw gp).2 (bl.trans gq)] at bm; cases bm
 ·rw [if_neg gq,a0]
  constructor
  ·rintro ⟨c,ak,bl,cP⟩
   refine⟨c,m2.2 ⟨ak,?_⟩,bl,cP⟩
   rw [Bool.eq_false_iff]; intro eL
   exact gq (by rw [← bl]; exact(BZ h (ao.ok.ok c ak).fw gp).1 eL)
  ·rintro ⟨c,ak,bl⟩
   exact⟨c,(m2.1 ak).1,bl⟩
theorem Y6 {s:a1} (h:dQ s) {hp:aN Cell} {m:Nat} {l:List aw} {own:Nat→Prop} (hq:l1 s hp m l own) (ao:h9 s 1 l) {i:aw} (ar:i∈l):
 bC (yp hp ⟨0,32,⟨some m⟩⟩ i) (fun hp'=>l1 s hp' m (iw l i.bV) own∧ez hp hp' own):=by
 obtain⟨em,lj,ad,ay,aU,a0,ix⟩:=hq.ok
 have gp:=(ao.ok.ok i ar).fw
 have gO:=Bc h gp
 have bJ:∃ t,dI em (gQ (eK i.bV))=some (some t):=by
  cases bE:dI em (gQ (eK i.bV)) with
  | none=>exact absurd rfl (aU _ bE i ar)
  | some r=>obtain⟨t,g,rfl,_⟩:=ay _ _ bE; exact⟨t,rfl⟩
 obtain⟨t,bJ⟩:=bJ
 obtain⟨e8,g,e,av,bm,bS⟩:=ay _ _ bJ
 cases e
 obtain⟨n,aP⟩:=Int.eq_ofNat_of_zero_le gO.pre.1
 have Bd:n≤32:=by have:=gO.pre.2; omega
 have sY:=GS gO
 have hp':ei (aI i.bV.cZ 0).c6 n=iZ i.bV:=by unfold iZ; rw [aP]; rfl
 have aas:g (iZ i.bV)=some i.cu:=(bS _ _).2 ⟨i,ar,rfl,rfl,rfl⟩
 have PD:∀ c∈l,gQ (eK c.bV)=gQ (eK i.bV)→ (h8 c.bV i.bV=false↔iZ c.bV≠iZ i.bV):=fun c ak al=>by
  rw [Bool.eq_false_iff,ne_eq,xZ h (ao.ok.ok c ak).fw gp]
  exact⟨fun J ad=>J ⟨al,ad⟩,fun J ad=>J ad.2⟩
 have ky:∀ c∈l,gQ (eK c.bV)≠gQ (eK i.bV)→h8 c.bV i.bV=false:=fun c ak al=>by
  rw [Bool.eq_false_iff,ne_eq,xZ h (ao.ok.ok c ak).fw gp]
  exact fun J=>al J.1
 unfold yp
 refine .eq (Hi h gp _) (.eq rfl (.eq lj (.eq rfl ?_)))
 simp only [bJ]
 rw [aP] at sY ⊢
 refine(show bC (wj hp (some t) (aI i.bV.cZ 0).c6 (n:Int)) _ from Tj av Bd sY (by rw [hp']; exact aas)).bind fun aH aS=> ?_
 obtain⟨_,jg,gY,pS⟩:=aS
 rw [hp'] at jg
 obtain⟨abp,cJ⟩:=aH
 simp only at jg gY pS ⊢
 have Jx:∀ q,Own hp t q→q≠m:=fun q Jy e=>by
  have:=l0 lj
  rw [← e] at this
  rcases av.DN Jy with⟨c,ak⟩ | ⟨c,ak⟩ <;> rw [ak] at this <;> cases this
 have jO:pat cJ m=pat hp m:=gY.rest m (ie (l0 lj)) fun hq=>Jx m hq rfl
 have IF:jq cJ m=some em:=by rw [C6 jO]; exact lj
 have Be:∀ aY sd,(if aY=iZ i.bV then none else g aY)=some sd↔ ∃ c∈iw l i.bV,gQ (eK c.bV)=gQ (eK i.bV)∧iZ c.bV=aY∧c.cu=sd:=fun aY sd=>by
  by_cases kb:aY=iZ i.bV
  ·rw [if_pos kb]
   refine⟨fun e=>(by cases e),fun⟨c,ak,bl,cP,_⟩=> ?_⟩
   obtain⟨cN,cF⟩:=m2.1 ak
   exact absurd (cP.trans kb) ((PD c cN bl).1 cF)
  ·rw [if_neg kb,bS]
   constructor
   ·rintro ⟨c,ak,bl,cP,eL⟩
    exact⟨c,m2.2 ⟨ak,(PD c ak bl).2 fun e=>kb (cP.symm.trans e)⟩,bl,cP,eL⟩
   ·rintro ⟨c,ak,bl⟩
    exact⟨c,(m2.1 ak).1,bl⟩
 have qc:∀ cU e8,cU≠gQ (eK i.bV)→dI em cU=some (some e8)→ ∃ eU,iu hp e8 eU∧iu cJ e8 eU∧ (∀ q,Own hp e8 q→own q)∧ (∀ q,Own cJ e8 q↔Own hp e8 q)∧ ∀ aY n,eU aY=some n↔ ∃ c∈iw l i.bV,gQ (eK c.bV)=cU∧iZ c.bV=aY∧c.cu=n:=fun cU e8 cH aS=>by
  obtain⟨aam,eU,e,cN,cF,fL⟩:=ay cU _ aS
  cases e
  obtain⟨dE,dU⟩:=cN.congr (hp':=cJ) fun q hq=>gY.rest q (cN.uF hq) fun iY=>a0 _ _ _ _ bJ aS cH.symm q iY hq
  refine⟨eU,cN,dE,cF,dU,fun aY n=> ?_⟩
  rw [fL]
  constructor
  ·rintro ⟨c,ak,bl,cP⟩
   exact⟨c,m2.2 ⟨ak,ky c ak (by rw [bl]; exact cH)⟩,bl,cP⟩
  ·rintro ⟨c,ak,bl⟩
   exact⟨c,(m2.1 ak).1,bl⟩
 have cS:ez hp cJ own:=⟨gY.keys,fun q hq eO=>gY.rest q hq fun iY=>eO (bm q iY)⟩
 have dK:l1 s cJ m (iw l i.bV) own:=by
  refine⟨em,IF,ad,fun cU jB im=> ?_,fun cU gq c ak=>aU cU gq c (m2.1 ak).1,fun cU ja t1 t2 iA iM cH q iL nq=> ?_,ix⟩
  ·by_cases gq:cU=gQ (eK i.bV)
   ·subst gq
    rw [bJ] at im; cases im
    exact⟨t,_,rfl,jg,fun q hq=>bm q (pS q hq),Be⟩
   ·obtain⟨e8,eU,e,_⟩:=ay cU jB im
    subst e
    obtain⟨vS,cN,cF,fL,jb,oW⟩:=qc cU e8 gq im
    exact⟨e8,vS,rfl,cF,fun q hq=>fL q ((jb q).1 hq),oW⟩
  ·have ef:∀ cU t1,dI em cU=some (some t1)→ ∀ q,Own cJ t1 q→Own hp t1 q:=fun cU t1 iA q iL=>by
    by_cases aF:cU=gQ (eK i.bV)
    ·subst aF
     rw [bJ] at iA; cases iA
     exact pS q iL
    ·obtain⟨_,_,_,_,jb,_⟩:=qc cU t1 aF iA
     exact(jb q).1 iL
   exact a0 _ _ _ _ iA iM cH q (ef cU t1 iA q iL) (ef ja t2 iM q nq)
 refine .eq IF (.eq rfl ?_)
 simp only [bJ]
 refine(show bC (wy cJ (some t)) _ from Vy jg (fun aY cs id J ad=> ?_) (l.map (·.cu)) (fun aY id J=> ?_) (by rw [List.length_map]; have:=ao.ok.len; omega)).bind fun bn bl=> ?_
 ·obtain⟨c,ak,_,dE,dU⟩:=(Be _ _).1 J
  obtain⟨d,hd,_,d1,d2⟩:=(Be _ _).1 ad
  have:=ao.ok.uniq (m2.1 ak).1 (m2.1 hd).1 (dU.trans d2.symm)
  rw [← dE,← d1,this]
 ·obtain⟨c,ak,_,dE,dU⟩:=(Be _ _).1 J
  exact List.mem_map.2 ⟨c,(m2.1 ak).1,dU⟩
 refine .bind (P:=fun hp'=>l1 s hp' m (iw l i.bV) own∧ez hp hp' own) (.cond (fun df=> .eq rfl (.ret ?_)) fun _=> .ret ⟨dK,cS⟩) fun bB cV=> .ret cV
 have bl:=bl (by simpa using df)
 have xF:=l0 IF
 have IG:∀ e8 eU,iu cJ e8 eU→iu (cT cJ m (Cell.k7 (hj em (gQ (eK i.bV))))) e8 eU∧ ∀ q,Own (cT cJ m (Cell.k7 (hj em (gQ (eK i.bV))))) e8 q↔Own cJ e8 q:=fun e8 eU vR=>vR.congr fun q oQ=>lv fun e=>by
  rw [e] at xF
  rcases vR.DN oQ with⟨c,ak⟩ | ⟨c,ak⟩ <;> rw [ak] at xF <;> cases xF
 refine⟨⟨_,LU xF,ad,fun cU jB im=> ?_,fun cU gq c ak=> ?_,fun cU ja t1 t2 iA iM cH q iL nq=> ?_,ix.del⟩,cS.trans (ez.up ad) fun q _ hq=>hq⟩
 ·rw [zu ix] at im
  split at im
  ·cases im
  ·rename_i gq
   obtain⟨e8,eU,e,_⟩:=ay cU jB im
   subst e
   obtain⟨vS,cN,cF,fL,jb,oW⟩:=qc cU e8 gq im
   obtain⟨dE,dU⟩:=IG e8 vS cF
   exact⟨e8,vS,rfl,dE,fun q hq=>fL q ((jb q).1 ((dU q).1 hq)),oW⟩
 ·rw [zu ix] at gq
  split at gq
  ·rename_i e
   intro al
   have:=(Be _ _).2 ⟨c,ak,al.trans e,rfl,rfl⟩
   rw [bl] at this; cases this
  ·exact aU cU gq c (m2.1 ak).1
 ·rw [zu ix] at iA iM
  split at iA
  ·cases iA
  split at iM
  ·cases iM
  rename_i aF aR
  obtain⟨aah,cN,cF,fL,jb,_⟩:=qc cU t1 aF iA
  obtain⟨aai,dE,dU,hz,Fv,_⟩:=qc ja t2 aR iM
  exact a0 _ _ _ _ iA iM cH q ((jb q).1 (((IG t1 _ cF).2 q).1 iL)) ((Fv q).1 (((IG t2 _ dU).2 q).1 nq))
theorem srem {s:a1} {k:Nat} {hp:aN Cell} {q:Nat} {l:List aw} {own:Nat→Prop} (hq:xe s k hp q l own) (ao:h9 s k l) {i:aw} (ar:i∈l):
 dg (yv hp ⟨some q⟩ i) (fun hp'=>xe s k hp' q (iw l i.bV) own∧ez hp hp' own):=by
 obtain⟨key,cap,J,ad⟩:=hq.ok
 unfold yv
 refine .eq rfl (.eq J (.eq (Tl ao.ok _) (.any fun ax=> .eq rfl (.ret ?_))))
 rw [Dn ao ar (Dz _)]
 exact⟨⟨ax.1,ax.2,LV (uy J),ad⟩,.up ad⟩
theorem Y7 {s:a1} (h:dQ s) {k:Nat} {hp:aN Cell} {f:gw} {l:List aw} {own:Nat→Prop} (hq:ph s k hp f l own) (ao:h9 s k l) {i:aw} (ar:i∈l):
 dg (FJ hp f i) (fun hp'=>ph s k hp' f (iw l i.bV) own∧ez hp hp' own):=by
 rcases hq with⟨rfl,q,rfl,hq⟩ | ⟨rfl,m,rfl,hq⟩ | ⟨cS,q,rfl,hq⟩
 ·exact dg.of ((Y5 h hq ao ar).mono fun hp' aS=>⟨.inl ⟨rfl,q,rfl,aS.1⟩,aS.2⟩)
 ·exact dg.of ((Y6 h hq ao ar).mono fun hp' aS=>⟨.inr (.inl ⟨rfl,m,rfl,aS.1⟩),aS.2⟩)
 ·exact(srem hq ao ar).mono fun hp' aS=>⟨.inr (.inr ⟨cS,q,rfl,aS.1⟩),aS.2⟩
theorem KN {α β:Type} [DecidableEq α]:∀ {l:List (α × β)} {x:α},mT l→hj l x=l.filter fun a=>decide (a.1≠x)
 | [],_,_=>rfl
 | (k,w) :: r,x,h=>by
   obtain⟨J,ad⟩:=List.pairwise_cons.1 h
   unfold hj
   by_cases e:x=k
   ·rw [if_pos e,List.filter_cons_of_neg (by simp [e])]
    exact(List.filter_eq_self.2 fun a bd=>by simpa using fun e'=>J a bd (by rw [← e,e'])).symm
   ·rw [if_neg e,List.filter_cons_of_pos (by simpa using fun e'=>e e'.symm),KN ad]
theorem rI.Fl {s:a1} {k:Nat} {em:List (Int × aw)} {l:List aw} (h:rI em l) (ao:kZ s k l):mT em:=by
 refine(h.pairwise_iff fun ck=>Ne.symm ck).2 ?_
 rw [List.pairwise_map]
 exact ao.num.imp fun ck=>ck
theorem Tm {s:a1} (h:dQ s) {k:Nat} (au:k < 4) {hp:aN Cell} {p:Nat} {l:List aw} {own:Nat→Prop} (al:jM s k hp p l own) {e:bh} (he:jr s k e):
 dg (yF hp (some p) e) (fun r=>(r.1,r.2.1)=xY (fq l e)∧jM s k r.2.2 p (iw l e) own∧ez hp r.2.2 own):=by
 obtain⟨f,m,em,J,ad,ay,aU,a0,bl⟩:=al.cell
 have hm:=o8 ad
 have hp':=lY J
 have jO:p≠m:=fun e=>by rw [e,hm] at hp'; cases hp'
 unfold yF
 refine .eq (Mw h au al he) ?_
 refine .bind (P:=fun bB=>jM s k bB p (iw l e) own∧ez hp bB own) (.cond (fun ak=> ?_) fun ak=> .ret ?_) fun bB cV=> .ret ⟨rfl,cV⟩
 ·cases a8:fq l e with
  | none=>rw [a8] at ak; cases ak
  | some i=>
    obtain⟨ar,oL⟩:=wT a8
    have aat:iw l i.bV=iw l e:=by
     rw [Dn al.k2 ar (Dz _),Dn al.k2 ar oL]
    refine .eq rfl (.eq J (.bind (Y7 h bl al.k2 ar) fun cJ aS=> ?_))
    obtain⟨jg,gY⟩:=aS
    have jg:ph s k cJ f (iw l i.bV) (fun q=>own q∧q≠m∧q≠p):=jg
    rw [aat] at jg
    show dg (aq.bind (aq.of (hg cJ p)) fun cg=>aq.bind (aq.of cg.jl.p) fun bZ=>aq.bind (aq.of (j0 cJ bZ)) fun fc=>aq.bind (aq.of (some (cT cJ bZ (Cell.jI (hj fc i.cu))))) fun cw=>aq.ret cw) _
    have cN:pat cJ p=some (.mA ⟨nB k,(Fw s k:Int),f,⟨some m⟩⟩):=by rw [gY.rest p (ie hp') (fun hq=>hq.2.2 rfl)]; exact hp'
    have cF:pat cJ m=some (.jI em):=by rw [gY.rest m (ie hm) (fun hq=>hq.2.1 rfl)]; exact hm
    refine .eq (by unfold hg; rw [cN]) (.eq rfl (.eq (by unfold j0; rw [cF]) (.eq rfl (.ret ?_))))
    have aau:ez hp cJ own:=⟨gY.keys,fun q hq eO=>gY.rest q hq fun h=>eO h.1⟩
    have ns:ez hp (cT cJ m (Cell.jI (hj em i.cu))) own:=aau.trans (ez.up (own:=own) aU) fun q _ hq=>hq
    refine⟨⟨al.k2.iw e,⟨f,m,_,by unfold hg; rw [lv jO.symm,cN],TX cF,ay,aU,?_,jg.congr (fun q _ hq=>hq) fun q hq=>lv hq.2.1.symm⟩,fun q hq=>ns.keys q (al.r5 q hq)⟩,ns⟩
    unfold rI
    rw [KN (a0.Fl al.k2.ok),Dn al.k2 ar oL]
    refine(a0.filter _).trans ?_
    rw [List.filter_map]
    have:((fun a:Int × aw=>decide (a.1≠i.cu)) ∘ fun c:aw=>(c.cu,c))=fun c=>c.cu !=i.cu:=by
     funext c
     show decide (c.cu≠i.cu)=_
     by_cases e:c.cu=i.cu <;> simp [e]
    rw [this]
 ·have a8:fq l e=none:=by
   cases a8:fq l e with
   | none=>rfl
   | some i=>rw [a8] at ak; cases ak
  have:iw l e=l:=by
   unfold iw
   exact List.filter_eq_self.2 fun c ak=>by rw [uh a8 c ak]; rfl
  rw [this]
  exact⟨al,.refl⟩
theorem Gg {hp hp':aN Cell} {p:Nat} (h:pat hp' p=pat hp p):jG hp' p=jG hp p:=by unfold jG; rw [h]
theorem Gh {hp hp':aN Cell} {p:Nat} (h:pat hp' p=pat hp p):l3 hp' p=l3 hp p:=by unfold l3; rw [h]
theorem TZ {hp:aN Cell} {p:Nat} {k:Cell} {x:ib} (h:pat hp p=some k):jG (cT hp p (.pj x)) p=some x:=by unfold jG; rw [rf h]
theorem T0 {hp:aN Cell} {p:Nat} {k:Cell} {x:List (Int × Ref)} (h:pat hp p=some k):l3 (cT hp p (.oF x)) p=some x:=by unfold l3; rw [rf h]
structure uH (s:a1) (hp:aN Cell) (p m:Nat) (gR:List (Int × Ref)) (n:Nat) (ls:Nat→List aw) (own:Nat→Nat→Prop):Prop where
 has:∀ k,k < n→ ∃ q,dI gR ((k:Int) + 1)=some (some q)∧jM s k hp q (ls k) (own k)
 no:∀ x:Int,x < 1∨ (n:Int) < x→dI gR x=none
 B1:∀ k k',k < n→k' < n→k≠k'→ ∀ q,own k q→ ¬ own k' q
 out:∀ k,k < n→ ¬ own k p∧ ¬ own k m
theorem uH.congr {s:a1} {hp hp':aN Cell} {p m:Nat} {gR:List (Int × Ref)} {n:Nat} {ls:Nat→List aw} {own:Nat→Nat→Prop} (h:uH s hp p m gR n ls own) (au:∀ q,q∈ec hp→q∈ec hp') (bd:∀ k,k < n→ ∀ q,own k q→pat hp' q=pat hp q):uH s hp' p m gR n ls own:=
 ⟨fun k ix=>by obtain⟨q,J,ad⟩:=h.has k ix; exact⟨q,J,ad.congr au (bd k ix)⟩,h.no,h.B1,h.out⟩
structure j6 (s:a1) (hp:aN Cell) (p:Nat) (ls:Nat→List aw) (next:Int):Prop where
 cell:∃ m gR own,jG hp p=some ⟨s,⟨some m⟩,next⟩∧l3 hp m=some gR∧uH s hp p m gR 4 ls own
def ma (ls:Nat→List aw) (k:Nat) (l:List aw):Nat→List aw:=fun j=>if j=k then l else ls j
theorem L0 {s:a1} {hp:aN Cell} {p:Nat} {ls:Nat→List aw} {next:Int} (h:j6 s hp p ls next) {k:Nat} (au:k < 4):∃ q own,nE hp (some p) ((k:Int) + 1)=some (some q)∧jM s k hp q (ls k) own:=by
 obtain⟨m,gR,own,J,ad,ay⟩:=h.cell
 obtain⟨q,aU,a0⟩:=ay.has k au
 refine⟨q,own k,?_,a0⟩
 refine bC.get ?_
 unfold nE
 refine .cond (fun ak=>by cases ak) fun _=> .eq rfl (.eq J (.eq rfl (.eq ad (.eq rfl (.ret ?_)))))
 rw [aU]; rfl
theorem T1 {s:a1} {hp:aN Cell} {p:Nat} {ls:Nat→List aw} {next:Int} (h:j6 s hp p ls next) {x:Int} (al:x < 1∨4 < x):nE hp (some p) x=some none:=by
 obtain⟨m,gR,own,J,ad,ay⟩:=h.cell
 refine bC.get ?_
 unfold nE
 refine .cond (fun ak=>by cases ak) fun _=> .eq rfl (.eq J (.eq rfl (.eq ad (.eq rfl (.ret ?_)))))
 rw [ay.no x (by omega)]; rfl
theorem UM {s:a1} (hs:dQ s) {hp:aN Cell} {p:Nat} {ls:Nat→List aw} {next:Int} (h:j6 s hp p ls next) {k:Nat} (au:k < 4):yS hp (some p) ((k:Int) + 1)=some (aI s.b1 k).gD:=by
 obtain⟨m,gR,own,J,ad,ay⟩:=h.cell
 refine bC.get ?_
 unfold yS
 refine .eq rfl (.eq J ((Ge hs au).bind fun aB aF=> ?_))
 subst aF
 exact .idx rfl (by rw [hs.l9]; exact au) (.ret rfl)
theorem UN (o:Option aw):(xY o).2=o.isSome:=by cases o <;> rfl
theorem j6.change {s:a1} {hp hp':aN Cell} {p:Nat} {ls:Nat→List aw} {next:Int} {m:Nat} {gR:List (Int × Ref)} {own:Nat→Nat→Prop} (J:jG hp p=some ⟨s,⟨some m⟩,next⟩) (ad:l3 hp m=some gR) (ay:uH s hp p m gR 4 ls own) {k:Nat} (au:k < 4) {q:Nat} (hq:dI gR ((k:Int) + 1)=some (some q)) {l:List aw} {own':Nat→Prop}
 (al:jM s k hp' q l own') (a9:∀ x,own' x→own k x∨x ∉ ec hp) (vK:ez hp hp' (own k)):j6 s hp' p (ma ls k l) next:=by
 have jv:=ie (nK J)
 have gO:=ie (w1 ad)
 have b6:=(ay.out k au).1
 have bZ:=(ay.out k au).2
 refine⟨m,gR,fun j=>if j=k then own' else own j,by rw [Gg (vK.rest p jv b6)]; exact J,by rw [Gh (vK.rest m gO bZ)]; exact ad,⟨fun j aG=> ?_,ay.no,fun j qE aG BQ cH x ka mf=> ?_,fun j aG=> ?_⟩⟩
 ·by_cases e:j=k
  ·subst e
   refine⟨q,hq,?_⟩
   unfold ma
   rw [if_pos rfl,if_pos rfl]; exact al
  ·obtain⟨lq,av,bm⟩:=ay.has j aG
   refine⟨lq,av,?_⟩
   unfold ma
   rw [if_neg e,if_neg e]
   exact bm.qk vK fun x al=>ay.B1 j k aG au e x al
 ·have key:∀ j,j < 4→j≠k→own' x→ ¬ own j x:=fun j aG cH aU a0=>by
   obtain⟨lq,av,bm⟩:=ay.has j aG
   rcases a9 x aU with bl | bl
   ·exact ay.B1 j k aG au cH x a0 bl
   ·exact bl (bm.r5 x a0)
  by_cases e:j=k
  ·rw [if_pos e] at ka
   rw [if_neg (fun e'=>cH (e.trans e'.symm))] at mf
   exact key qE BQ (fun e'=>cH (e.trans e'.symm)) ka mf
  ·rw [if_neg e] at ka
   by_cases e':qE=k
   ·rw [if_pos e'] at mf; exact key j aG e mf ka
   ·rw [if_neg e'] at mf; exact ay.B1 j qE aG BQ cH x ka mf
 ·by_cases e:j=k
  ·rw [if_pos e]
   refine⟨fun h=> ?_,fun h=> ?_⟩
   ·rcases a9 p h with aU | aU
    ·exact b6 aU
    ·exact aU jv
   ·rcases a9 m h with aU | aU
    ·exact bZ aU
    ·exact aU gO
  ·rw [if_neg e]; exact ay.out j aG
theorem j6.next' {s:a1} {hp:aN Cell} {p:Nat} {ls:Nat→List aw} {next:Int} (h:j6 s hp p ls next) (n:Int) {c:ib} (ak:jG hp p=some c):j6 s (cT hp p (Cell.pj { c with lx:=n })) p ls n:=by
 obtain⟨m,gR,own,J,ad,ay⟩:=h.cell
 rw [J] at ak; cases ak
 have tr:=nK J
 have jO:p≠m:=fun e=>by rw [e,w1 ad] at tr; cases tr
 exact⟨m,gR,own,TZ tr,by rw [Gh (lv jO)]; exact ad,ay.congr (fun q hq=>by rw [p7]; exact hq) fun k au q hq=>lv fun e=>(ay.out k au).1 (e ▸ hq)⟩
theorem GC {s:a1} (hs:dQ s) {hp:aN Cell} {p:Nat} {ls:Nat→List aw} {next:Int} (h:j6 s hp p ls next) {k:Nat} (au:k < 4) {e:bh} (he:jr s k e) (tz:Int) (nj:∀ i∈ls k,i.cu < next) (hlen:(ls k).length < 900) (aP:0≤next∧next < 1000000):
 dg (qL hp (some p) e tz) (fun r=>
  if (fq (ls k) e).isSome=true then r=(0,17,hp) else if (aI s.b1 k).gD≤ ((ls k).length:Int) then r=(0,18,hp)
  else r.1=next∧r.2.1=0∧j6 s r.2.2 p (ma ls k (ls k ++ [{ bV:=e,cu:=next,mr:=tz }])) (next + 1)):=by
 obtain⟨m,gR,own,J,ad,ay⟩:=h.cell
 obtain⟨q,aU,a0⟩:=ay.has k au
 have JD:nE hp (some p) ((k:Int) + 1)=some (some q):=by
  refine bC.get ?_
  unfold nE
  refine .cond (fun ak=>by cases ak) fun _=> .eq rfl (.eq J (.eq rfl (.eq ad (.eq rfl (.ret ?_)))))
  rw [aU]; rfl
 unfold qL
 rw [he.lg]
 refine .eq JD (.cond (fun ak=>by cases ak) fun _=> .eq (Mw hs au a0 he) ?_)
 rw [UN]
 refine .cond (fun ak=> .ret (by rw [if_pos ak])) fun ak=> .eq (Vv a0) (.eq (UM hs h au) (.cond (fun dW=> .ret ?_) fun dW=> ?_))
 ·rw [if_neg (by rw [ak]; simp),if_pos (by simpa using dW)]
 ·have dW: ¬ (aI s.b1 k).gD≤ ((ls k).length:Int):=by simpa using dW
  have a8:fq (ls k) e=none:=by
   cases a8:fq (ls k) e with
   | none=>rfl
   | some _=>rw [a8] at ak; cases ak
  have ar:lh s k ({ bV:=e,cu:=next,mr:=tz } :aw):=⟨he⟩
  have jA:ij (ls k) next=false:=by
   unfold ij; rw [List.any_eq_false]
   intro c kW
   have:=nj c kW
   simp; omega
  have bJ:ts (ls k) ({ bV:=e,cu:=next,mr:=tz } :aw)=true:=by
   unfold ts; simp only [a8,jA]; rfl
  refine .eq rfl (.eq J (.eq rfl (.bind (Vx hs au a0 ar hlen) fun b0 bl=> ?_)))
  obtain⟨_,bm,bS⟩:=bl
  have a9:∀ x,kL (own k) hp b0.2 x→own k x∨x ∉ ec hp:=fun x al=>al.imp id fun h=>h.1
  have fK:=j6.change J ad ay au aU bm a9 bS
  unfold added at fK
  rw [if_pos bJ] at fK
  obtain⟨oh,abq,own',cN,_⟩:=fK.cell
  refine .eq cN (.eq rfl (.ret ?_))
  rw [if_neg (by rw [ak]; simp),if_neg dW]
  have hw:bA (next + 1)=next + 1:=hA (by omega) (by omega)
  refine⟨rfl,rfl,?_⟩
  have:=fK.next' (next + 1) cN
  simp only [hw]
  exact this
theorem Ln {s:a1} (hs:dQ s) {hp:aN Cell} {p:Nat} {ls:Nat→List aw} {next:Int} (h:j6 s hp p ls next) {k:Nat} (au:k < 4) {e:bh} (he:jr s k e):
 dg (tI hp (some p) e) (fun r=>(match fq (ls k) e with | some i=>(r.1,r.2.1)=(i,0) | none=>(r.1,r.2.1)=(default,16))∧j6 s r.2.2 p (ma ls k (iw (ls k) e)) next):=by
 obtain⟨m,gR,own,J,ad,ay⟩:=h.cell
 obtain⟨q,aU,a0⟩:=ay.has k au
 have JD:nE hp (some p) ((k:Int) + 1)=some (some q):=by
  refine bC.get ?_
  unfold nE
  refine .cond (fun ak=>by cases ak) fun _=> .eq rfl (.eq J (.eq rfl (.eq ad (.eq rfl (.ret ?_)))))
  rw [aU]; rfl
 unfold tI
 rw [he.lg]
 refine .eq JD (.cond (fun ak=>by cases ak) fun _=> .bind (Tm hs au a0 he) fun aH bl=> ?_)
 obtain⟨av,bm,bS⟩:=bl
 have fK:=j6.change J ad ay au aU bm (fun x al=> .inl al) bS
 have aF:aH.1=(xY (fq (ls k) e)).1:=congrArg Prod.fst av
 have aR:aH.2.1=(xY (fq (ls k) e)).2:=congrArg Prod.snd av
 cases a8:fq (ls k) e with
 | none=>
   rw [a8] at aF aR
   refine .cond (fun _=> .ret ⟨rfl,fK⟩) fun ak=>by rw [aR] at ak; cases ak
 | some i=>
   rw [a8] at aF aR
   refine .cond (fun ak=>by rw [aR] at ak; cases ak) fun _=> .ret ⟨?_,fK⟩
   rw [aF]; rfl
theorem M8 {s:a1} (hs:dQ s) (hp:aN Cell):dg (wO hp s) (fun r=> ∃ p,r.1=some p∧j6 s r.2 p (fun _=> []) 1):=by
 unfold wO
 refine .mk fun m hm=> .eq rfl (.mk fun p cw=> ?_)
 simp only at cw ⊢
 have jO:p≠m:=fun e=>cw (by rw [e]; exact List.mem_cons_self)
 have tB:jG ((p,Cell.pj ⟨s,⟨some m⟩,1⟩) :: (m,Cell.oF []) :: hp) p=some ⟨s,⟨some m⟩,1⟩:=by unfold jG; rw [o6,if_pos rfl]
 have d0:l3 ((p,Cell.pj ⟨s,⟨some m⟩,1⟩) :: (m,Cell.oF []) :: hp) m=some []:=by unfold l3; rw [o6,if_neg jO,o6,if_pos rfl]
 refine .eq tB ?_
 simp only
 refine .bind (P:=fun aF=> ∃ gR own,jG aF.2.2 p=some ⟨s,⟨some m⟩,1⟩∧l3 aF.2.2 m=some gR∧uH s aF.2.2 p m gR 4 (fun _=> []) own)
  (dg.loop 4 (fun i st=> ∃ hp' gR own,st=((i:Int),hp')∧jG hp' p=some ⟨s,⟨some m⟩,1⟩∧l3 hp' m=some gR∧uH s hp' p m gR i (fun _=> []) own) (by omega) ⟨_,[],fun _ _=>False,rfl,tB,d0,⟨fun k au=>by omega,fun _ _=>rfl,fun k k' au=>by omega,fun k au=>by omega⟩⟩ (fun i st ar fK=> ?_) (fun st fK=> ?_)) fun aF J=> .ret ⟨p,rfl,?_⟩
 ·obtain⟨hp',gR,own,rfl,av,bm,bS⟩:=fK
  have tr:=nK av
  have BU:=w1 bm
  refine .cond (fun _=> .idx rfl (by rw [hs.l9]; exact ar) (.eq av ?_)) fun ak=>by have:=hs.l9; simp at ak; omega
  rw [(hs.lg ar).1]
  refine .bind (Vw hs ar hp') fun aB J=> ?_
  obtain⟨q,e,al,au⟩:=J
  obtain⟨abr,cJ⟩:=aB
  simp only at e al au
  subst e
  have bj:jG cJ p=some ⟨s,⟨some m⟩,1⟩:=by rw [Gg (au.rest p (ie tr) id)]; exact av
  have bI:l3 cJ m=some gR:=by rw [Gh (au.rest m (ie BU) id)]; exact bm
  have EJ:=w1 bI
  refine .eq (a:=()) (by unfold Bl; rw [if_pos bj]) (.eq rfl (.eq bI (.eq rfl (.ret ?_))))
  have xF:m≠p:=fun e=>by rw [e] at EJ; rw [nK bj] at EJ; cases EJ
  have n6:∀ x,x≠m→pat (cT cJ m (Cell.oF (fB gR ((i:Int) + 1) (some q)))) x=pat cJ x:=fun x al=>lv al.symm
  have hold:∀ j,j < i→ ∀ x,own j x→pat (cT cJ m (Cell.oF (fB gR ((i:Int) + 1) (some q)))) x=pat hp' x:=fun j aG x al=>by
   obtain⟨lq,_,dU⟩:=bS.has j aG
   rw [n6 x fun e=>(bS.out j aG).2 (e ▸ al)]
   exact au.rest x (dU.r5 x al) id
  have oG:∀ x,kL x0 hp' cJ x→x ∉ ec hp':=fun x al=>al.elim (fun h=>h.elim) fun h=>h.1
  refine⟨_,fB gR ((i:Int) + 1) (some q),fun j=>if j=i then kL x0 hp' cJ else own j,by simp only [gT (show i < 2 ^ 62 by omega)],by rw [Gg (n6 p xF.symm)]; exact bj,T0 EJ,⟨fun j aG=> ?_,fun x al=> ?_,fun j qE aG BQ cH x ka mf=> ?_,fun j aG=> ?_⟩⟩
  ·by_cases e:j=i
   ·subst e
    refine⟨q,by rw [sx,if_pos rfl],?_⟩
    rw [if_pos rfl]
    exact al.congr (fun x al=>by rw [p7]; exact al) fun x ka=>n6 x fun e=>oG x ka (e ▸ ie BU)
   ·obtain⟨lq,dE,dU⟩:=bS.has j (by omega)
    refine⟨lq,by rw [sx,if_neg (by omega)]; exact dE,?_⟩
    rw [if_neg e]
    exact dU.congr (fun x al=>by rw [p7]; exact au.keys x al) (hold j (by omega))
  ·rw [sx,if_neg (by omega)]
   exact bS.no x (by omega)
  ·have key:∀ j,j < i→kL x0 hp' cJ x→ ¬ own j x:=fun j aG J ad=>by
    obtain⟨lq,_,dU⟩:=bS.has j aG
    exact oG x J (dU.r5 x ad)
   by_cases e:j=i
   ·rw [if_pos e] at ka
    rw [if_neg (fun e'=>cH (e.trans e'.symm))] at mf
    exact key qE (by omega) ka mf
   ·rw [if_neg e] at ka
    by_cases e':qE=i
    ·rw [if_pos e'] at mf; exact key j (by omega) mf ka
    ·rw [if_neg e'] at mf; exact bS.B1 j qE (by omega) (by omega) cH x ka mf
  ·by_cases e:j=i
   ·rw [if_pos e]
    exact⟨fun h=>oG p h (ie tr),fun h=>oG m h (ie BU)⟩
   ·rw [if_neg e]; exact bS.out j (by omega)
 ·obtain⟨hp',gR,own,rfl,av,bm,bS⟩:=fK
  refine .cond (fun ak=>by have:=hs.l9; simp at ak; omega) fun _=> .ret ⟨gR,own,av,bm,bS⟩
 ·obtain⟨gR,own,cN,cF,fL⟩:=J
  exact⟨m,gR,own,cN,cF,fL⟩
theorem T2 {l:List aw} {e:bh} {i:aw} (h:fq l e=none) (ar:h8 i.bV e=true):fq (l ++ [i]) e=some i:=by
 unfold fq at h ⊢
 rw [List.find?_append,h,Option.none_or]
 simp [ar]
def r7:bh:= { (default:bh) with bo:=1,cZ:= [({ (default:bR) with fO:=true } :bR)],jm:=1 }
theorem Vz {s:a1} (h:dQ s):jr s 0 r7:=by
 refine⟨rfl,by rw [h.H8]; rfl,fun i ar=> ?_,by decide,fun _=>rfl⟩
 rw [h.H8] at ar ⊢
 have:i=0:=by have:i < 1:=ar; omega
 subst this
 show oD 1 (oX sj) { (default:bR) with fO:=true }
 have bG:∀ j,cx ({ (default:bR) with fO:=true } :bR).c6 j=false:=fun j=>zM j
 exact⟨fun h=>(by cases h),fun _=>rfl,fun _ j _ a6=>(by rw [bG] at a6; cases a6),fun h=>(by cases h),fun h=>(by cases h),Ba,fun h=>(by cases h),fun _=>rfl,fun _=>rfl,fun h=>(by cases h),fun h=>(by cases h),fun h=>(by cases h),fun _=>rfl⟩
theorem zv {ls:Nat→List aw} {k:Nat} {l:List aw} :ma ls k l k=l:=by unfold ma; rw [if_pos rfl]
theorem Mx {ls:Nat→List aw} {k j:Nat} {l:List aw} (h:j≠k):ma ls k l j=ls j:=by unfold ma; rw [if_neg h]
theorem Tn (hp:aN Cell):dg (zd hp) (fun r=>r.1=true):=by
 unfold zd
 refine .mP (Hd [] 0 (by decide) (by decide)) fun aB J=> .mP (KX _ J) fun aH ad=> ?_
 obtain⟨s,tB⟩:=aH
 obtain⟨h,_⟩:=ad
 simp only at h ⊢
 have he:=Vz h
 have df:=h.size (show 0 < 4 by decide)
 refine .bind (M8 h hp) fun bn ay=> ?_
 obtain⟨p,dh,ay⟩:=ay
 obtain⟨abt,cw⟩:=bn
 simp only at dh ay
 subst dh
 refine .eq rfl ?_
 show dg (aq.bind (qL cw (some p) r7 1) fun bD=>_) _
 refine .bind (GC h ay (k:=0) (by decide) he 1 (fun i ar=>by cases ar) (by decide) (by decide)) fun bD aU=> ?_
 rw [if_neg (by decide),if_neg (by simp; omega)] at aU
 obtain⟨cN,cF,fL⟩:=aU
 refine .bind (show dg (tI bD.2.2 (some p) r7) _ from Ln h fL (k:=0) (by decide) he) fun b0 a0=> ?_
 rw [zv] at a0
 have a8:fq ([] ++ [({ bV:=r7,cu:=1,mr:=1 } :aw)]) r7=some { bV:=r7,cu:=1,mr:=1 } :=T2 rfl (Dz _)
 rw [a8] at a0
 obtain⟨dE,dU⟩:=a0
 have aS:iw ([] ++ [({ bV:=r7,cu:=1,mr:=1 } :aw)]) r7= []:=by
  unfold iw
  rw [List.nil_append,List.filter_cons_of_neg (by simp [Dz])]; rfl
 rw [aS] at dU
 refine .bind (show dg (qL b0.2.2 (some p) r7 1) _ from GC h dU (k:=0) (by decide) he 1 (fun i ar=>by rw [zv] at ar; cases ar) (by rw [zv]; decide) (by decide)) fun cl bl=> ?_
 rw [zv,if_neg (by decide),if_neg (by simp; omega)] at bl
 obtain⟨bq,cg,fc⟩:=bl
 refine .eq rfl (.ret ?_)
 have mj:b0.2.1=0:=congrArg Prod.snd dE
 simp only [cN,cF,mj,bq,cg]
 rfl
theorem T3 (l:List aw) (e:bh):(iw l e).length≤l.length:=List.length_filter_le _ _
end Go.Proofs.YtmnggbjcnoffeaaGreat
