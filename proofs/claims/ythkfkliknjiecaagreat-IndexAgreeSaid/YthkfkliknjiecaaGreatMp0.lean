/-
  What the programs compute, in plain Lean. Conditions: none.
-/
import Derived.Test.YthkfkliknjiecaaGreatMl0
import Derived.Test.YthkfkliknjiecaaGreatMl2
import Derived.Test.YthkfkliknjiecaaGreatMd
set_option linter.unusedVariables false
set_option linter.unusedSimpArgs false
set_option maxRecDepth 100000
namespace Gv
open Go
theorem LD {σ ε:Type} {body:σ→Option (σ ⊕ ε)} {Q:ε→Prop} {bX:σ} (m:Nat) (eF:Nat→σ→Prop)
 (hm:m < 2 ^ 80) (bA:eF 0 bX)
 (hs:∀ k s,k < m→eF k s→ (∃ bR,body s=some (.inl bR)∧eF (k + 1) bR)∨ (∃ e,body s=some (.inr e)∧Q e))
 (he:∀ s,eF m s→ ∃ e,body s=some (.inr e)∧Q e):∃ e,gG fX body bX=some e∧Q e:=by
 have key:∀ n k s,k≤m→m - k < n→eF k s→ ∃ e,gG n body s=some e∧Q e:=by
  intro n
  induction n with
  | zero=>intro k s _ h; omega
  | succ n bD=>
    intro k s ar aF ao
    by_cases sD:k=m
    ·subst sD
     obtain⟨e,J,aa⟩:=he s ao
     exact⟨e,by simp [gG,J],aa⟩
    ·rcases hs k s (by omega) ao with⟨bR,J,aa⟩ | ⟨e,J,aa⟩
     ·obtain⟨e,av,aO⟩:=bD (k + 1) bR (by omega) (by omega) aa
      exact⟨e,by simp [gG,J,av],aO⟩
     ·exact⟨e,by simp [gG,J],aa⟩
 exact key fX 0 bX (by omega) (by unfold fX; omega) bA
def br {β:Type} (m:Option β) (P:β→Prop):Prop:= ∃ r,m=some r∧P r
theorem br.ret {β:Type} {P:β→Prop} {r:β} (h:P r):br (some r) P:=⟨r,rfl,h⟩
theorem br.bind {α β:Type} {m:Option α} {f:α→Option β} {P:α→Prop} {Q:β→Prop} (h:br m P) (k:∀ a,P a→br (f a) Q):br (m.bind f) Q:=by
 obtain⟨a,J,aa⟩:=h
 rw [J]; exact k a aa
theorem br.eq {α β:Type} {m:Option α} {a:α} {f:α→Option β} {Q:β→Prop} (h:m=some a) (k:br (f a) Q):br (m.bind f) Q:=by
 rw [h]; exact k
theorem br.mono {β:Type} {m:Option β} {P Q:β→Prop} (h:br m P) (k:∀ a,P a→Q a):br m Q:=by
 obtain⟨a,J,aa⟩:=h
 exact⟨a,J,k a aa⟩
theorem br.of_eq {β:Type} {m:Option β} {r:β} {P:β→Prop} (h:br m P) (k:m=some r):P r:=by
 obtain⟨a,J,aa⟩:=h
 rw [k] at J; cases J; exact aa
theorem br.cond {β:Type} {b:Bool} {m n:Option β} {P:β→Prop} (J:b=true→br m P) (aa:b=false→br n P):br (cond b m n) P:=by
 cases b
 ·exact aa rfl
 ·exact J rfl
theorem br.cb {α β:Type} [Inhabited α] {b w:Bool} {m:Option α} {f:α→Option β} {P:α→Prop} {Q:β→Prop} (h:b=w→br m P) (k:∀ a,(b=w→P a)→br (f a) Q):br ((cb b w m).bind f) Q:=by
 unfold Gv.cb
 by_cases hb:b=w
 ·rw [if_pos hb]; exact(h hb).bind fun a a9=>k a fun _=>a9
 ·rw [if_neg hb]; exact k default fun h=>absurd h hb
theorem br.loop {σ ε β:Type} {body:σ→Option (σ ⊕ ε)} {f:ε→Option β} {P:β→Prop} {bX:σ} (m:Nat) (eF:Nat→σ→Prop)
 (hm:m < 2 ^ 80) (bA:eF 0 bX)
 (hs:∀ k s,k < m→eF k s→br (body s) (fun x=>match x with | .inl bR=>eF (k + 1) bR | .inr e=>br (f e) P))
 (he:∀ s,eF m s→ ∃ e,body s=some (.inr e)∧br (f e) P):br ((gG fX body bX).bind f) P:=by
 obtain⟨e,J,aa⟩:=LD (Q:=fun e=>br (f e) P) m eF hm bA (fun k s ar ao=>by
  obtain⟨r,J,aa⟩:=hs k s ar ao
  cases r with
  | inl bR=>exact .inl ⟨bR,J,aa⟩
  | inr e=>exact .inr ⟨e,J,aa⟩) he
 rw [J]; exact aa
theorem br.DU {σ ε:Type} {body:σ→Option (σ ⊕ ε)} {P:ε→Prop} {bX:σ} (m:Nat) (eF:Nat→σ→Prop)
 (hm:m < 2 ^ 80) (bA:eF 0 bX)
 (hs:∀ k s,k < m→eF k s→br (body s) (fun x=>match x with | .inl bR=>eF (k + 1) bR | .inr e=>P e))
 (he:∀ s,eF m s→br (body s) (fun x=>match x with | .inl _=>False | .inr e=>P e)):br (gG fX body bX) P:=by
 obtain⟨e,J,aa⟩:=LD (Q:=P) m eF hm bA (fun k s ar ao=>by
  obtain⟨r,J,aa⟩:=hs k s ar ao
  cases r with
  | inl bR=>exact .inl ⟨bR,J,aa⟩
  | inr e=>exact .inr ⟨e,J,aa⟩) fun s ao=>by
  obtain⟨r,J,aa⟩:=he s ao
  cases r with
  | inl bR=>exact aa.elim
  | inr e=>exact⟨e,J,aa⟩
 exact⟨e,J,aa⟩
theorem br.idx {β:Type} {n:Nat} {i:Int} {k:Nat} {f:Nat→Option β} {Q:β→Prop} (ao:i=k) (ar:k < n) (h:br (f k) Q):br ((Gv.idx n i).bind f) Q:=by
 subst ao
 have:Gv.idx n (k:Int)=some k:=by unfold Gv.idx; rw [if_pos (by omega)]; simp
 rw [this]; exact h
theorem og {α:Type} [Inhabited α] {n:Nat} (v:Vector α n) {k:Nat} (x:α) (ar:k < n) (j:Nat):bB (fW v k x) j=if j=k then x else bB v j:=by
 unfold bB fW
 by_cases h:j=k
 ·subst h; simp [ar]
 ·rw [if_neg h,Vector.getElem?_setIfInBounds_ne (by omega)]
theorem u9 {α:Type} [Inhabited α] {n:Nat} {v w:Vector α n} (h:∀ j,j < n→bB v j=bB w j):v=w:=by
 apply Vector.ext
 intro i ao
 have:=h i ao
 simpa [bB,ao] using this
theorem th {α:Type} [Inhabited α] {n:Nat} (j:Nat):bB (default:Vector α n) j=default:=by
 show bB (Vector.replicate n default) j=default
 unfold bB
 by_cases h:j < n <;> simp [h]
theorem tx {n k:Nat} (h:k < n):idx n (k:Int)=some k:=by
 unfold idx; rw [if_pos (by omega)]; simp
theorem Db {n:Nat} {i:Int} (h:0≤i) (cS:i < n):idx n i=some i.toNat:=by
 unfold idx; rw [if_pos ⟨h,cS⟩]
theorem g5 {k:Nat} (h:k < 2 ^ 62):bE ((k:Int) + 1)=((k + 1:Nat):Int):=by
 rw [hr (by omega) (by omega)]; simp
theorem Dc {k:Nat} (h:k < 2 ^ 64):(BitVec.ofInt 64 (k:Int)).toNat=k:=by
 simp; omega
theorem TM (x:BitVec 64):((x &&& 1#64) ==1#64)=x.getLsbD 0:=by
 rw [BitVec.and_one_eq_setWidth_ofBool_getLsbD]
 cases x.getLsbD 0 <;> rfl
theorem Gc {α β:Type} [Inhabited α] [Inhabited β] (f:α→β) {l:List α} {k:Nat} (ar:k < l.length):aJ (l.map f) k=f (aJ l k):=by
 rw [gh l ar,gh _ (by simpa using ar),List.getElem_map]
theorem Km {α:Type} [Inhabited α] (l:List α) {k:Nat} (ar:k < l.length):l.take (k + 1)=l.take k ++ [aJ l k]:=by
 rw [List.take_add_one,List.getElem?_eq_getElem ar,gh l ar]; rfl
theorem Dd {α:Type} [Inhabited α] {xs:List α} {p:α→Bool} {k:Nat} (ar:k < xs.length) (hp:p (aJ xs k)=true) (aB:∀ j,j < k→p (aJ xs j)=false):xs.find? p=some (aJ xs k):=by
 rw [List.find?_eq_some_iff_getElem]
 refine⟨hp,k,ar,(gh xs ar).symm,fun j sH=> ?_⟩
 have:=aB j sH
 rw [gh xs (by omega)] at this
 simp [this]
theorem De {α:Type} {xs:List α} {p:α→Bool} (h:∀ x∈xs,p x=false):xs.find? p=none:=
 List.find?_eq_none.2 fun x ai=>by simp [h x ai]
def cT {α:Type} (m:au α) (P:α→Prop):Prop:= ∀ Q:α→Prop,(∀ r,P r→Q r)→m Q
theorem cT.run {α:Type} {m:au α} {P:α→Prop} (h:cT m P):m P:=h P fun _ h=>h
theorem cT.ret {α:Type} {P:α→Prop} {x:α} (h:P x):cT (au.ret x) P:=fun Q k=>k x h
theorem cT.bind {α β:Type} {m:au α} {f:α→au β} {P:α→Prop} {qn:β→Prop} (h:cT m P) (k:∀ r,P r→cT (f r) qn):cT (au.bind m f) qn:=fun Q hq=>h _ fun r aD=>k r aD Q hq
theorem cT.of {α:Type} {o:Option α} {P:α→Prop} (h:br o P):cT (au.of o) P:=fun Q hq=>let⟨r,J,aa⟩:=h; ⟨r,J,hq r aa⟩
theorem cT.ps {α β:Type} {o:Option α} {f:α→au β} {P:α→Prop} {qn:β→Prop} (h:br o P) (k:∀ r,P r→cT (f r) qn):cT (au.bind (au.of o) f) qn:= .bind (.of h) k
theorem cT.eq {α β:Type} {o:Option α} {a:α} {f:α→au β} {qn:β→Prop} (h:o=some a) (k:cT (f a) qn):cT (au.bind (au.of o) f) qn:=fun Q hq=>⟨a,h,k Q hq⟩
theorem cT.mono {α:Type} {m:au α} {P qn:α→Prop} (h:cT m P) (k:∀ r,P r→qn r):cT m qn:=fun Q hq=>h Q fun r aD=>hq r (k r aD)
theorem cT.cond {α:Type} {b:Bool} {m n:au α} {P:α→Prop} (J:b=true→cT m P) (aa:b=false→cT n P):cT (cond b m n) P:=by
 cases b
 ·exact aa rfl
 ·exact J rfl
theorem cT.cb {α β:Type} [Inhabited α] {b w:Bool} {m:Option α} {f:α→au β} {P:α→Prop} {Q:β→Prop} (h:b=w→br m P) (k:∀ a,(b=w→P a)→cT (f a) Q):cT (au.bind (au.of (cb b w m)) f) Q:=by
 unfold Gv.cb
 by_cases hb:b=w
 ·rw [if_pos hb]; exact .ps (h hb) fun a a9=>k a fun _=>a9
 ·rw [if_neg hb]; exact .eq rfl (k default fun h=>absurd h hb)
theorem cT.idx {β:Type} {n:Nat} {i:Int} {k:Nat} {f:Nat→au β} {Q:β→Prop} (ao:i=k) (ar:k < n) (h:cT (f k) Q):cT (au.bind (au.of (Gv.idx n i)) f) Q:=by
 subst ao
 exact .eq (tx ar) h
theorem cT.mk {bM β:Type} {hp:aH bM} {c:bM} {f:Nat × aH bM→au β} {P:β→Prop} (k:∀ p,p ∉ cX hp→cT (f (p,(p,c) :: hp)) P):cT (au.bind (au.mk hp c) f) P:=fun Q hq=>fun a a9=>by
 obtain⟨p,hp'⟩:=a
 obtain⟨J,aa⟩:=a9
 simp only at J aa
 subst aa
 exact k p J Q hq
theorem cT.any {α β:Type} {f:α→au β} {P:β→Prop} (k:∀ x,cT (f x) P):cT (au.bind (au.any α) f) P:=fun Q hq x=>k x Q hq
theorem cT.loop {σ ε:Type} {body:σ→au (σ ⊕ ε)} {P:ε→Prop} {bX:σ} (m:Nat) (eF:Nat→σ→Prop) (hm:m < 2 ^ 80) (bA:eF 0 bX)
 (hs:∀ k s,k < m→eF k s→cT (body s) (fun x=>match x with | .inl bR=>eF (k + 1) bR | .inr e=>P e))
 (he:∀ s,eF m s→cT (body s) (fun x=>match x with | .inl _=>False | .inr e=>P e)):cT (ox fX body bX) P:=by
 have key:∀ n k s,k≤m→m - k < n→eF k s→cT (ox n body s) P:=by
  intro n
  induction n with
  | zero=>intro k s _ h; omega
  | succ n bD=>
    intro k s ar aF ao Q hq
    by_cases sD:k=m
    ·subst sD
     exact he s ao _ fun r aD=>by
      cases r with
      | inl bR=>exact aD.elim
      | inr e=>exact hq e aD
    ·exact hs k s (by omega) ao _ fun r aD=>by
      cases r with
      | inl bR=>exact bD (k + 1) bR (by omega) (by omega) aD Q hq
      | inr e=>exact hq e aD
 exact key fX 0 bX (by omega) (by unfold fX; omega) bA
theorem o1 {bM:Type} {hp:aH bM} {p q:Nat} {k:bM} :pat ((p,k) :: hp) q=if p=q then some k else pat hp q:=rfl
theorem S3 {bM:Type} {hp:aH bM} {p:Nat} (h:p ∉ cX hp):pat hp p=none:=by
 cases e:pat hp p with
 | none=>rfl
 | some k=>exact absurd (gS e) h
theorem tF {bM:Type} {hp:aH bM} {p:Nat} {k k':bM} (h:pat hp p=some k'):pat (ch hp p k) p=some k:=by rw [vf,if_pos rfl,h]; rfl
theorem jK {bM:Type} {hp:aH bM} {p q:Nat} {k:bM} (h:p≠q):pat (ch hp p k) q=pat hp q:=by rw [vf,if_neg h]
theorem rE {α β:Type} [DecidableEq α] {l:List (α × β)} {x y:α} {v:β} :cK (fc l x v) y=if y=x then some v else cK l y:=by
 induction l with
 | nil=>
   show(if y=x then some v else cK [] y)=_
   rfl
 | cons a r bD=>
   obtain⟨k,w⟩:=a
   simp only [fc]
   by_cases h:x=k
   ·rw [if_pos h]
    simp only [cK]
    by_cases aa:y=x
    ·simp [aa]
    ·simp [aa,show ¬ y=k from fun e=>aa (by rw [e,h])]
   ·rw [if_neg h]
    simp only [cK]
    by_cases aa:y=k
    ·subst aa; simp [show ¬ y=x from fun e=>h e.symm]
    ·rw [if_neg aa,bD,if_neg aa]
end Gv
namespace Go.Proofs.YthkfkliknjiecaaGreat
open Go Gv
def dW (b:Bool):Nat:=bif b then 1 else 0
def b3 (hp:aH Cell):Ref→List Bool→Ref
 | none,_=>none
 | some p,[]=>some p
 | some p,b :: aE=>match cg hp p with
   | none=>none
   | some c=>b3 hp (bB c.ct (dW b)) aE
theorem eN {hp:aH Cell} {aE:List Bool} :b3 hp none aE=none:=by cases aE <;> rfl
theorem im {hp:aH Cell} {r:Ref} :b3 hp r []=r:=by cases r <;> rfl
theorem gd {hp:aH Cell} {p:Nat} {c:dn} {b:Bool} {aE:List Bool} (h:cg hp p=some c):b3 hp (some p) (b :: aE)=b3 hp (bB c.ct (dW b)) aE:=by
 show(match cg hp p with | none=>none | some c=>b3 hp (bB c.ct (dW b)) aE)=_
 rw [h]
theorem iN {hp:aH Cell} :∀ {r:Ref} {aE cs:List Bool},b3 hp r (aE ++ cs)=b3 hp (b3 hp r aE) cs
 | none,aE,cs=>by rw [eN,eN,eN]
 | some p,[],cs=>by rw [List.nil_append,im]
 | some p,b :: aE,cs=>by
   cases e:cg hp p with
   | none=>
     have J:∀ xs,b3 hp (some p) (b :: xs)=none:=fun xs=>by
      show(match cg hp p with | none=>none | some c=>b3 hp (bB c.ct (dW b)) xs)=_
      rw [e]
     rw [List.cons_append,J,J,eN]
   | some c=>rw [List.cons_append,gd e,gd e,iN]
theorem Le {hp hp':aH Cell} :∀ {r:Ref} {aE:List Bool},(∀ p cs,b3 hp r cs=some p→cg hp' p=cg hp p)→b3 hp' r aE=b3 hp r aE
 | none,aE,_=>by rw [eN,eN]
 | some p,[],_=>rfl
 | some p,b :: aE,h=>by
   have bA:=h p [] rfl
   show(match cg hp' p with | none=>none | some c=>b3 hp' (bB c.ct (dW b)) aE)=(match cg hp p with | none=>none | some c=>b3 hp (bB c.ct (dW b)) aE)
   rw [bA]
   cases e:cg hp p with
   | none=>rfl
   | some c=>
     refine Le fun q cs hq=>h q (b :: cs) ?_
     rw [gd e]; exact hq
structure k9 (hp:aH Cell) (root:Ref):Prop where
 reads:∀ aE p,b3 hp root aE=some p→ ∃ c,cg hp p=some c
 inj:∀ aE cs p,b3 hp root aE=some p→b3 hp root cs=some p→aE=cs
 dep:∀ aE p,b3 hp root aE=some p→aE.length≤32
def cont (hp:aH Cell) (root:Ref) (aE:List Bool):Option Int:=match b3 hp root aE with
 | none=>none
 | some p=>match cg hp p with
   | none=>none
   | some c=>bif c.cW then some c.gi else none
theorem h4 {hp:aH Cell} {root:Ref} {aE:List Bool} {p:Nat} {c:dn} (h:b3 hp root aE=some p) (ag:cg hp p=some c):cont hp root aE=bif c.cW then some c.gi else none:=by
 unfold cont; rw [h]; simp only [ag]
theorem hc {hp:aH Cell} {root:Ref} {aE:List Bool} (h:b3 hp root aE=none):cont hp root aE=none:=by
 unfold cont; rw [h]
theorem kn {hp:aH Cell} {p:Nat} {c:dn} :cg hp p=some c↔pat hp p=some (.ev c):=by
 refine⟨iO,fun h=> ?_⟩
 unfold cg; rw [h]
theorem my {hp:aH Cell} {p:Nat} {c:eJ} :ey hp p=some c↔pat hp p=some (.gL c):=by
 refine⟨lU,fun h=> ?_⟩
 unfold ey; rw [h]
theorem pB {hp hp':aH Cell} {p:Nat} (h:pat hp' p=pat hp p):cg hp' p=cg hp p:=by unfold cg; rw [h]
theorem zb {hp hp':aH Cell} {p:Nat} (h:pat hp' p=pat hp p):ey hp' p=ey hp p:=by unfold ey; rw [h]
structure cw (hp hp':aH Cell) (own:Nat→Prop):Prop where
 keys:∀ q,q∈cX hp→q∈cX hp'
 rest:∀ q,q∈cX hp→ ¬ own q→pat hp' q=pat hp q
theorem cw.refl {hp:aH Cell} {own:Nat→Prop} :cw hp hp own:=⟨fun _ h=>h,fun _ _ _=>rfl⟩
theorem cw.mk' {hp:aH Cell} {own:Nat→Prop} {a:Nat} {k:Cell} (a9:a ∉ cX hp):cw hp ((a,k) :: hp) own:=
 ⟨fun q h=>List.mem_cons_of_mem _ h,fun q h _=>by rw [o1,if_neg (fun e:a=q=>a9 (by rw [e]; exact h))]⟩
theorem cw.up {hp:aH Cell} {own:Nat→Prop} {p:Nat} {k:Cell} (hp':own p):cw hp (ch hp p k) own:=
 ⟨fun q h=>by rw [o5]; exact h,fun q h hq=>jK (fun e:p=q=>hq (by rw [← e]; exact hp'))⟩
theorem cw.trans {J aa av:aH Cell} {own own':Nat→Prop} (a:cw J aa own) (b:cw aa av own') (a6:∀ q,q∈cX J→own' q→own q):cw J av own:=
 ⟨fun q h=>b.keys q (a.keys q h),fun q h hq=>by rw [b.rest q (a.keys q h) fun cS=>hq (a6 q h cS),a.rest q h hq]⟩
theorem Su (b:Bool):bB (default:dn).ct (dW b)=none:=by cases b <;> rfl
theorem FY {hp:aH Cell} {a:Nat} (h:cg hp a=some (default:dn)):∀ aE,b3 hp (some a) aE=if aE= [] then some a else none
 | []=>rfl
 | b :: aE=>by rw [gd h,Su,eN]; rfl
theorem Gd {hp hp':aH Cell} {root:Ref} {ws:List Bool} {b:Bool} {p a:Nat} {c:dn} (bl:k9 hp root) (hw:b3 hp root ws=some p) (ag:cg hp p=some c) (aF:bB c.ct (dW b)=none) (a9:cg hp a=none)
 (b9:cg hp' p=some { c with ct:=fW c.ct (dW b) (some a) }) (bI:cg hp' a=some default) (fH:∀ q,q≠p→q≠a→cg hp' q=cg hp q):
 ∀ (aE us:List Bool) (q:Nat),b3 hp root us=some q→b3 hp' (some q) aE=if us ++ aE=ws ++ [b] then some a else b3 hp (some q) aE
 | [],us,q,hu=>by
   have: ¬ us ++ []=ws ++ [b]:=fun e=>by
    rw [List.append_nil] at e
    rw [e,iN,hw,gd ag,aF,eN] at hu; cases hu
   rw [if_neg this]; rfl
 | x :: xs,us,q,hu=>by
   obtain⟨sU,ns⟩:=bl.reads us q hu
   have nt:q≠a:=fun e=>by rw [e,a9] at ns; cases ns
   by_cases Bp:q=p
   ·subst Bp
    have IZ:=bl.inj us ws q hu hw
    subst IZ
    rw [ag] at ns; cases ns
    rw [gd b9,gd ag]
    simp only
    have bY:dW b < 2:=by cases b <;> decide
    rw [og _ _ bY]
    by_cases wH:x=b
    ·subst wH
     rw [if_pos rfl,aF,eN,FY bI]
     by_cases h:xs= []
     ·subst h; rw [if_pos rfl,if_pos rfl]
     ·rw [if_neg h,if_neg fun e=>h ?_]
      have:=List.append_cancel_left e
      simpa using this
    ·have cN: ¬ dW x=dW b:=fun e=>wH (by cases x <;> cases b <;> first | rfl | cases e)
     have dN: ¬ us ++ x :: xs=us ++ [b]:=fun e=>wH (by have:=List.append_cancel_left e; simpa using (List.cons.inj this).1)
     rw [if_neg cN,if_neg dN]
     cases e:bB c.ct (dW x) with
     | none=>rw [eN,eN]
     | some qm=>
       have mh:b3 hp root (us ++ [x])=some qm:=by rw [iN,hu,gd ag,e,im]
       rw [Gd bl hw ag aF a9 b9 bI fH xs (us ++ [x]) qm mh,List.append_assoc,List.singleton_append,if_neg dN]
   ·have J:cg hp' q=some sU:=by rw [fH q Bp nt]; exact ns
    rw [gd J,gd ns]
    cases e:bB sU.ct (dW x) with
    | none=>
      have dN: ¬ us ++ x :: xs=ws ++ [b]:=fun aX=>by
       have ZQ:b3 hp root (us ++ [x])=none:=by rw [iN,hu,gd ns,e,eN]
       rcases List.eq_nil_or_concat xs with rfl | ⟨ys,y,rfl⟩
       ·have:=(List.append_inj_left' aX rfl)
        subst this
        rw [hu] at hw; cases hw; exact Bp rfl
       ·have av:us ++ x :: ys=ws:=by
         have:(us ++ x :: ys) ++ [y]=ws ++ [b]:=by simpa using aX
         exact List.append_inj_left' this rfl
        rw [← av,show us ++ x :: ys=(us ++ [x]) ++ ys by simp,iN,ZQ,eN] at hw
        cases hw
      rw [eN,eN,if_neg dN]
    | some qm=>
      have mh:b3 hp root (us ++ [x])=some qm:=by rw [iN,hu,gd ns,e,im]
      rw [Gd bl hw ag aF a9 b9 bI fH xs (us ++ [x]) qm mh,List.append_assoc,List.singleton_append]
theorem grow {hp hp':aH Cell} {r:Nat} {ws:List Bool} (hd:ws.length < 32) {b:Bool} {p a:Nat} {c:dn} (bl:k9 hp (some r)) (hw:b3 hp (some r) ws=some p) (ag:cg hp p=some c) (aF:bB c.ct (dW b)=none) (a9:cg hp a=none)
 (b9:cg hp' p=some { c with ct:=fW c.ct (dW b) (some a) }) (bI:cg hp' a=some default) (fH:∀ q,q≠p→q≠a→cg hp' q=cg hp q):
 k9 hp' (some r)∧ (∀ aE,b3 hp' (some r) aE=if aE=ws ++ [b] then some a else b3 hp (some r) aE)∧ ∀ aE,cont hp' (some r) aE=cont hp (some r) aE:=by
 have aV:∀ aE,b3 hp' (some r) aE=if aE=ws ++ [b] then some a else b3 hp (some r) aE:=fun aE=>Gd bl hw ag aF a9 b9 bI fH aE [] r rfl
 have EH:∀ aE,b3 hp (some r) aE≠some a:=fun aE h=>by
  obtain⟨c,J⟩:=bl.reads aE a h
  rw [a9] at J; cases J
 have I0:b3 hp (some r) (ws ++ [b])=none:=by rw [iN,hw,gd ag,aF,eN]
 refine⟨⟨fun aE q h=> ?_,fun aE cs q J aa=> ?_,fun aE q h=> ?_⟩,aV,fun aE=> ?_⟩
 ·rw [aV] at h
  split at h
  ·cases h; exact⟨_,bI⟩
  ·obtain⟨hM,J⟩:=bl.reads aE q h
   by_cases e:q=p
   ·subst e; exact⟨_,b9⟩
   ·exact⟨hM,by rw [fH q e fun aX=>EH aE (aX ▸ h)]; exact J⟩
 ·rw [aV] at J aa
  split at J <;> split at aa
  ·rename_i az aX; rw [az,aX]
  ·cases J; exact absurd aa (EH cs)
  ·cases aa; exact absurd J (EH aE)
  ·exact bl.inj aE cs q J aa
 ·rw [aV] at h
  split at h
  ·rename_i e; rw [e]; simp; omega
  ·exact bl.dep aE q h
 ·by_cases e:aE=ws ++ [b]
  ·subst e
   rw [hc I0,h4 (by rw [aV,if_pos rfl]) bI]; rfl
  ·have wI:b3 hp' (some r) aE=b3 hp (some r) aE:=by rw [aV,if_neg e]
   cases h:b3 hp (some r) aE with
   | none=>rw [hc h,hc (wI.trans h)]
   | some q=>
     obtain⟨hM,J⟩:=bl.reads aE q h
     by_cases eq:q=p
     ·subst eq
      rw [ag] at J; cases J
      rw [h4 h ag,h4 (wI.trans h) b9]
     ·rw [h4 h J,h4 (wI.trans h) (by rw [fH q eq fun aX=>EH aE (aX ▸ h)]; exact J)]
theorem va {hp hp':aH Cell} {p:Nat} {c hM:dn} (ag:cg hp p=some c) (nu:cg hp' p=some hM) (he:hM.ct=c.ct) (h:∀ q,q≠p→cg hp' q=cg hp q):∀ (aE:List Bool) (r:Ref),b3 hp' r aE=b3 hp r aE
 | aE,none=>by rw [eN,eN]
 | [],some q=>rfl
 | b :: aE,some q=>by
   by_cases e:q=p
   ·subst e
    rw [gd ag,gd nu,he]; exact va ag nu he h aE _
   ·cases aX:cg hp q with
    | none=>
      show(match cg hp' q with | none=>none | some c=>b3 hp' (bB c.ct (dW b)) aE)=(match cg hp q with | none=>none | some c=>b3 hp (bB c.ct (dW b)) aE)
      rw [h q e,aX]
    | some d=>rw [gd aX,gd (by rw [h q e]; exact aX)]; exact va ag nu he h aE _
theorem Eb {hp hp':aH Cell} {root:Ref} {ws:List Bool} {p:Nat} {c hM:dn} (bl:k9 hp root) (hw:b3 hp root ws=some p) (ag:cg hp p=some c) (nu:cg hp' p=some hM) (he:hM.ct=c.ct) (h:∀ q,q≠p→cg hp' q=cg hp q):
 k9 hp' root∧ ∀ aE,cont hp' root aE=if aE=ws then(bif hM.cW then some hM.gi else none) else cont hp root aE:=by
 have aV:=va ag nu he h
 refine⟨⟨fun aE q hq=> ?_,fun aE cs q J aa=>bl.inj aE cs q (by rw [← aV]; exact J) (by rw [← aV]; exact aa),fun aE q hq=>bl.dep aE q (by rw [← aV]; exact hq)⟩,fun aE=> ?_⟩
 ·rw [aV] at hq
  obtain⟨d,J⟩:=bl.reads aE q hq
  by_cases e:q=p
  ·subst e; exact⟨_,nu⟩
  ·exact⟨d,by rw [h q e]; exact J⟩
 ·by_cases e:aE=ws
  ·subst e; rw [if_pos rfl,h4 (by rw [aV]; exact hw) nu]
  ·rw [if_neg e]
   cases J:b3 hp root aE with
   | none=>rw [hc J,hc (by rw [aV]; exact J)]
   | some q=>
     obtain⟨d,aa⟩:=bl.reads aE q J
     have Bp:q≠p:=fun aX=>e (bl.inj aE ws p (aX ▸ J) hw)
     rw [h4 J aa,h4 (by rw [aV]; exact J) (by rw [h q Bp]; exact aa)]
theorem ko {α:Type} {b:Nat} (xs ys:List α) (h:xs.length + ys.length≤1000000) (hb:b≤100000):iI b xs ys=some (xs ++ ys):=by
 unfold iI
 rw [if_pos]
 unfold maxLen
 refine⟨Nat.le_trans (Nat.mul_le_mul h hb) (by omega),by omega⟩
def ka (c:b0):Prop:=0≤c.tY∧c.bP.length≤1000
theorem Mc (l:List (BitVec 8)) (n:Int) (bA:0≤n) (J:n≤1000):br (ti l n) ka:=by
 unfold ti
 refine .eq (a:=(l.drop 0).take ((min (l.length:Int) n).toNat - 0)) ?_ (.ret ⟨Int.le_refl 0,?_⟩)
 ·unfold rU; rw [if_pos ⟨by omega,by omega,by omega⟩]; rfl
 ·simp only [List.length_take,List.length_drop]; omega
theorem jx (c:b0) (n:Int) (ag:ka c) (aF:1≤n):br (ij c n) (fun r=>ka r.2∧0≤r.1∧r.1 < n∧r.1 < 256):=by
 unfold ij Cn
 obtain⟨l,a⟩:=c
 obtain⟨bA,J⟩:=ag
 simp only at bA J
 obtain⟨k,rfl⟩:=Int.eq_ofNat_of_zero_le bA
 refine .eq rfl (.cond (fun _=> .ret ⟨⟨bA,J⟩,by omega,by omega,by omega⟩) fun h=> ?_)
 simp only [Bool.or_eq_false_iff,Bool.not_eq_false',decide_eq_true_eq,decide_eq_false_iff_not] at h
 have az:bE ((k:Int) + 1)=((k + 1:Nat):Int):=g5 (by omega)
 simp only [az]
 have aX:bE (((k + 1:Nat):Int) - 1)=(k:Int):=by rw [hr (by omega) (by omega)]; omega
 rw [aX]
 refine .idx rfl (by omega) (.eq (by unfold vT; rw [if_neg (by omega)]) (.ret ⟨⟨by simp only; omega,J⟩,?_,?_,?_⟩))
 ·exact Int.tmod_nonneg _ (by omega)
 ·exact Int.tmod_lt_of_pos _ (by omega)
 ·simp only
  have av:(aJ l k).toNat < 256:=(aJ l k).isLt
  obtain⟨m,rfl⟩:=Int.eq_ofNat_of_zero_le (show 0≤n by omega)
  have aO:(((aJ l k).toNat:Int)).tmod m=(((aJ l k).toNat % m:Nat):Int):=(Int.ofNat_tmod _ _).symm
  have aS:=Nat.mod_le (aJ l k).toNat m
  omega
theorem nH (c:b0) (ag:ka c):br (lv c) (fun r=>ka r.2):=by
 unfold lv
 exact .bind (jx c 2 ag (by omega)) fun y h=> .ret h.1
theorem RS (c:b0) (ag:ka c):br (yJ c) (fun r=>ka r.2∧r.1.length=3):=by
 unfold yJ
 refine .bind (jx c 4 ag (by omega)) fun aG J=> ?_
 refine .eq (Db J.2.1 (by simpa using J.2.2.1)) (.eq rfl (.eq rfl (.bind (nH _ J.1) fun aQ aa=> ?_)))
 refine .bind (P:=fun m=>ka m.1) (.cond (fun _=> ?_) (fun _=> .ret aa)) fun bq cn=> ?_
 ·refine .bind (jx _ 2 aa (by omega)) fun eU aY=> .eq rfl (.bind (jx _ 4 aY.1 (by omega)) fun e9 b7=> ?_)
  exact .eq (Db b7.2.1 (by simpa using b7.2.2.1)) (.eq rfl (.eq (ko _ _ (by simp) (by omega)) (.ret b7.1)))
 ·refine .bind (jx _ 4 cn (by omega)) fun bm av=> .eq (Db av.2.1 (by simpa using av.2.2.1)) (.eq rfl (.eq rfl ?_))
  refine .bind (jx _ 3 av.1 (by omega)) fun cD aO=> ?_
  refine .bind (P:=fun m=>ka m.1) (.cond (fun _=> ?_) (fun _=> .ret aO.1)) fun cx ed=> .ret ⟨ed,rfl⟩
  exact .bind (jx _ 3 aO.1 (by omega)) fun c8 aS=> .eq rfl (.ret aS.1)
def tQ (a:ee):Int × List Int:=(a.bW,a.qB.map (·.fz))
def AH:List (Int × List Int):= [(1,[]),(2,[]),(3,[16]),(4,[4]),(5,[4,12]),(6,[])]
theorem S4 {α β:Type} [Inhabited α] (f:α→β) (l:List α) (k:Nat) (x:α) (h:f x=f (aJ l k)):(gv l k x).map f=l.map f:=by
 unfold gv
 apply List.ext_getElem
 ·simp
 ·intro i J aa
  simp only [List.length_map,List.length_set] at J
  simp only [List.getElem_map,List.getElem_set]
  split
  ·rename_i e; subst e; rw [h,gh l J]
  ·rfl
theorem CI {α β:Type} [Inhabited α] (f:α→β) {l:List α} {k:Nat} {x:α} {r:List β} (h:f x=f (aJ l k)) (an:l.map f=r):(gv l k x).map f=r:=(S4 f l k x h).trans an
theorem RB (c:b0) (ag:ka c):br (yG c) (fun r=>ka r.2∧r.1.map tQ=AH):=by
 unfold yG
 refine .eq rfl (.eq rfl (.eq rfl (.eq rfl (.eq rfl (.eq rfl (.eq rfl (.eq rfl (.eq rfl (.eq rfl (.eq rfl (.eq rfl (.eq rfl ?_))))))))))))
 refine .bind (jx _ 2 ag (by omega)) fun aG J=> .eq rfl (.bind (jx _ 256 J.1 (by omega)) fun aQ aa=> .eq rfl (.eq rfl (.eq rfl ?_)))
 refine .bind (nH _ aa.1) fun bm av=> ?_
 refine .bind (P:=fun m=>m.map tQ=AH) (.cond (fun _=> ?_) (fun _=> .ret rfl)) fun bq cn=> ?_
 ·exact .idx (k:=2) rfl (by simp) (.eq rfl (.ret (CI tQ rfl rfl)))
 ·refine .bind (nH _ av) fun cD aO=> .bind (P:=fun m=>m.map tQ=AH) (.cond (fun _=> ?_) (fun _=> .ret cn)) fun cx ed=> .ret ⟨aO,ed⟩
  have an:bq.length=6:=by rw [← List.length_map (f:=tQ),cn]; rfl
  exact .idx (k:=4) rfl (by omega) (.eq rfl (.ret (CI tQ rfl cn)))
def oa:cJ:= { b6:=ByteArray.mk #[97],gf:=4,du:=1 }
def wZ:cJ:= { b6:=ByteArray.mk #[100],gf:=7,du:=2 }
def E0:cJ:= { b6:=ByteArray.mk #[109],gf:=3,du:=1 }
def BN:cJ:= { b6:=ByteArray.mk #[101],gf:=6,du:=3 }
def Bq:cJ:= { b6:=ByteArray.mk #[97],gf:=4,du:=3 }
def JH:cJ:= { b6:=ByteArray.mk #[98],gf:=5,du:=1 }
def BO:cJ:= { b6:=ByteArray.mk #[102],gf:=8,du:=4 }
def JI:cJ:= { b6:=ByteArray.mk #[103],gf:=9,du:=1 }
def nS (t:bx):Int × List Int × List cJ:=(t.bW,t.fu,t.cj)
def mJ (b:Bool):List cJ:=if b then [wZ,E0] else [wZ]
def vG (b:Bool):List cJ:=if b then [BN,Bq,JH] else [BN,Bq]
def vH (b:Bool):List cJ:=if b then [BO,JI,wZ] else [BO]
def sd (c4 dq hn:Bool):List (Int × List Int × List cJ):=
 [(1,[1,2,4],[oa]),(2,[1,2,3,4],mJ c4),(3,[1,2,3,5,6],vG dq),(4,[1,3,5],vH hn)]
theorem RT (c:b0) (ag:ka c):br (yL c) (fun r=>ka r.2∧ (∀ x∈r.1.map (·.iQ),2≤x∧x≤12)∧ ∃ c4 dq hn,r.1.map nS=sd c4 dq hn):=by
 unfold yL
 refine .eq rfl (.bind (jx _ 2 ag (by omega)) fun aG J=> .bind (jx _ 5 J.1 (by omega)) fun aQ aa=> .eq rfl (.eq rfl ?_))
 refine .bind (jx _ 6 aa.1 (by omega)) fun bm av=> .bind (nH _ av.1) fun cD aO=> ?_
 refine .bind (P:=fun m=>(m.1.bW=2∧m.1.fu= [1,2,3,4]∧m.1.iQ=bE (3 + bm.1))∧ ∃ b,m.2=mJ b) (.cond (fun _=> ?_) (fun _=> .ret ⟨⟨rfl,rfl,rfl⟩,false,rfl⟩)) fun bq cn=> ?_
 ·exact .eq rfl (.eq (ko _ _ (by simp) (by omega)) (.ret ⟨⟨rfl,rfl,rfl⟩,true,rfl⟩))
 refine .eq rfl (.eq rfl (.bind (jx _ 6 aO (by omega)) fun c8 aS=> .bind (nH _ aS.1) fun eU aY=> ?_))
 refine .bind (P:=fun m=>(m.1.bW=3∧m.1.fu= [1,2,3,5,6]∧m.1.iQ=bE (4 + c8.1))∧ ∃ b,m.2=vG b) (.cond (fun _=> ?_) (fun _=> .ret ⟨⟨rfl,rfl,rfl⟩,false,rfl⟩)) fun cx ed=> ?_
 ·exact .eq rfl (.eq (ko _ _ (by simp) (by omega)) (.ret ⟨⟨rfl,rfl,rfl⟩,true,rfl⟩))
 refine .eq rfl (.bind (jx _ 5 aY (by omega)) fun e9 b7=> .bind (nH _ b7.1) fun gm dV=> ?_)
 refine .bind (P:=fun m=>(m.1.bW=4∧m.1.fu= [1,3,5]∧m.1.iQ=bE (3 + e9.1))∧ ∃ b,m.2=vH b) (.cond (fun _=> ?_) (fun _=> .ret ⟨⟨rfl,rfl,rfl⟩,false,rfl⟩)) fun eg fh=> ?_
 ·exact .eq rfl (.eq rfl (.eq (ko _ _ (by simp) (by omega)) (.ret ⟨⟨rfl,rfl,rfl⟩,true,rfl⟩)))
 refine .eq rfl (.eq rfl (.eq rfl (.eq rfl (.eq rfl ?_))))
 obtain⟨⟨cq,cF,gI⟩,c4,eM⟩:=cn
 obtain⟨⟨bw,b5,n5⟩,dq,eo⟩:=ed
 obtain⟨⟨d1,d2,d4⟩,hn,d3⟩:=fh
 refine br.loop 4 (fun k s=>s.1=(k:Int)∧s.2.1.map nS=sd c4 dq hn∧ka s.2.2∧s.2.1.map (·.iQ)= [bE (2 + aQ.1),bE (3 + bm.1),bE (4 + c8.1),bE (3 + e9.1)]) (by omega) ⟨rfl,?_,dV,?_⟩ (fun k s ar ao=> ?_) (fun s ao=> ?_)
 ·simp only [List.map_cons,List.map_nil,nS,cq,cF,eM,bw,b5,eo,d1,d2,d3,sd]; rfl
 ·simp only [List.map_cons,List.map_nil,gI,n5,d4]
 ·obtain⟨i,g9,JJ⟩:=s; obtain⟨az,aX,dS,gP⟩:=ao
  simp only at az aX dS gP; subst az
  refine br.cond (fun _=> ?_) (fun h=>by simp at h; omega)
  have an:g9.length=4:=by rw [← List.length_map (f:=nS),aX]; rfl
  refine .idx rfl (by simpa using ar) (.bind (jx _ 3 dS (by omega)) fun iD eQ=> .eq (Db eQ.2.1 ?_) (.idx rfl (by simp only; omega) (.eq rfl (.ret ⟨g5 (by omega),?_,eQ.1,?_⟩))))
  ·have iz:=eQ.2.2.1
   have:k=0∨k=1∨k=2∨k=3:=by omega
   rcases this with rfl | rfl | rfl | rfl <;> exact iz
  ·exact CI nS rfl aX
  ·exact CI bx.iQ rfl gP
 ·obtain⟨i,g9,JJ⟩:=s; obtain⟨az,aX,dS,gP⟩:=ao
  simp only at az aX dS gP; subst az
  refine⟨_,rfl,?_⟩
  refine .ret ⟨dS,fun x ai=> ?_,c4,dq,hn,aX⟩
  rw [gP] at ai
  have a5:=aa.2; have bH:=av.2; have kj:=aS.2; have aba:=b7.2
  simp only [List.mem_cons,List.not_mem_nil,or_false] at ai
  rcases ai with rfl | rfl | rfl | rfl <;> (rw [hr (by omega) (by omega)]; omega)
theorem Md (n:Nat) (h:n≤1000):wk (α:=Bool) 1 (n:Int)=some (List.replicate n default):=by
 unfold wk; rw [if_pos ⟨by omega,by omega,by omega⟩]; simp
theorem Sv (c:b0) (g9:List bx) (ag:ka c) (an:g9.length≤1000) (ar:∀ t∈g9,t.cj.length≤1000):br (yR c g9) (fun r=>ka r.2∧r.1.map (·.bW)= [1,2,7]):=by
 unfold yR
 refine .bind (jx _ 3 ag (by omega)) fun aG J=> .bind (jx _ 6 J.1 (by omega)) fun aQ aa=> .bind (jx _ 6 aa.1 (by omega)) fun bm av=> .bind (jx _ 4 av.1 (by omega)) fun cD aO=> ?_
 refine br.loop g9.length (fun k s=>s.1=(k:Int)∧ka s.2.2.2.1∧s.2.2.1.length≤k∧s.2.2.2.2.2.1.length≤k∧s.2.2.2.2.2.2.2.length≤k∧s.2.1.bW=7∧s.2.2.2.2.1.bW=2∧s.2.2.2.2.2.2.1.bW=1) (by omega) ⟨rfl,aO.1,by simp,by simp,by simp,rfl,rfl,rfl⟩ (fun k s mT ao=> ?_) (fun s ao=> ?_)
 ·obtain⟨i,e1,ax,JJ,ea,a5,kH,bH⟩:=s; obtain⟨az,aX,dS,gP,pw,i1,i2,i3⟩:=ao
  simp only at az aX dS gP pw i1 i2 i3; subst az
  refine br.cond (fun _=> ?_) (fun h=>by simp at h; omega)
  have OD:(aJ g9 k).cj.length≤1000:=ar _ (by rw [gh g9 mT]; exact List.getElem_mem mT)
  refine .idx rfl mT (.eq (Md _ OD) (.eq (Md _ OD) ?_))
  refine br.loop (aJ g9 k).cj.length (fun j s=>s.1=(j:Int)∧s.2.1.length=(aJ g9 k).cj.length∧s.2.2.1.length=(aJ g9 k).cj.length∧ka s.2.2.2) (by omega) ⟨rfl,by simp,by simp,aX⟩ (fun j s aB ao=> ?_) (fun s ao=> ?_)
  ·obtain⟨i,c4,dq,ZR⟩:=s; obtain⟨f1,f2,f3,f4⟩:=ao
   simp only at f1 f2 f3 f4; subst f1
   refine br.cond (fun _=> ?_) (fun h=>by simp at h; omega)
   exact .bind (jx _ 4 f4 (by omega)) fun e9 b7=> .idx rfl (by simp only; omega) (.idx rfl (by simp only; omega) (.ret ⟨g5 (by omega),by simp [gv,f2],by simp [gv,f3],b7.1⟩))
  ·obtain⟨i,c4,dq,ZR⟩:=s; obtain⟨f1,f2,f3,f4⟩:=ao
   simp only at f1 f2 f3 f4; subst f1
   refine⟨_,by simp; rfl,?_⟩
   refine .eq rfl (.eq (ko _ _ (by simp; omega) (by omega)) (.bind (jx _ 4 f4 (by omega)) fun iD eQ=> ?_))
   refine .bind (P:=fun m=>ka m.1∧m.2.2.length≤k + 1∧m.2.1.bW=2) (.cond (fun _=> ?_) (fun _=> .ret ⟨eQ.1,by simp only; omega,i2⟩)) fun bq cn=> ?_
   ·exact .bind (jx _ 4 eQ.1 (by omega)) fun ke ZS=> .bind (nH _ ZS.1) fun oH ZT=> .eq rfl (.eq (ko _ _ (by simp; omega) (by omega)) (.ret ⟨ZT,by simp; omega,i2⟩))
   refine .bind (nH _ cn.1) fun ib iz=> ?_
   refine .bind (P:=fun m=>ka m.1∧m.2.2.length≤k + 1∧m.2.1.bW=7) (.cond (fun _=> ?_) (fun _=> .ret ⟨iz,by simp only; omega,i1⟩)) fun cx ed=> ?_
   ·exact .bind (nH _ iz) fun hU pt=> .bind (nH _ pt) fun e6 Br=> .eq rfl (.eq (ko _ _ (by simp; omega) (by omega)) (.ret ⟨Br,by simp; omega,i1⟩))
   exact .ret ⟨g5 (by omega),ed.1,ed.2.1,cn.2.1,by simp; omega,ed.2.2,cn.2.2,i3⟩
 ·obtain⟨i,e1,ax,JJ,ea,a5,kH,bH⟩:=s; obtain⟨az,aX,dS,gP,pw,i1,i2,i3⟩:=ao
  simp only at az aX dS gP pw i1 i2 i3; subst az
  refine⟨_,by simp; rfl,?_⟩
  exact .eq rfl (.eq rfl (.ret ⟨aX,by simp only [List.map_cons,List.map_nil,i1,i2,i3]⟩))
def H9:List (Int × Int):= [(1,16),(2,16),(3,8),(4,4),(5,4),(6,8),(7,32),(8,12),(9,4)]
def Ab (f:fm):Int × Int:=(f.bW,f.fz)
structure dH (s:a2):Prop where
 fields:s.hP.map Ab=H9
 headers:s.tp.length=3
 UK:s.u4.length=3
 TN:s.fu.map tQ=AH
 tables:∃ c4 dq hn,s.cA.map nS=sd c4 dq hn
 WO:s.oi.map (·.bW)= [1,2,7]
 WQ:∀ x∈s.cA.map (·.iQ),2≤x∧x≤12
theorem dH.x1 {s:a2} (h:dH s):s.hP.length=9:=by rw [← List.length_map (f:=Ab),h.fields]; rfl
theorem dH.qX {s:a2} (h:dH s):s.cA.length=4:=by obtain⟨c4,dq,hn,J⟩:=h.tables; rw [← List.length_map (f:=nS),J]; rfl
theorem KQ (c:b0) (ag:ka c):br (s5 c) (fun r=>dH r.1∧ka r.2):=by
 unfold s5
 refine .bind (jx _ 8 ag (by omega)) fun aG J=> .bind (jx _ 30 J.1 (by omega)) fun aQ aa=> ?_
 refine .eq rfl (.eq rfl (.eq rfl (.eq rfl (.eq rfl (.eq rfl (.eq rfl (.eq rfl (.eq rfl (.eq rfl (.eq rfl (.eq rfl ?_)))))))))))
 refine .bind (RS _ aa.1) fun bm av=> .bind (RB _ av.1) fun cD aO=> .bind (RT _ aO.1) fun c8 aS=> .eq rfl (.eq rfl ?_)
 obtain⟨ZU,eB,c4,dq,hn,aS⟩:=aS
 have an:c8.1.length=4:=by rw [← List.length_map (f:=nS),aS]; rfl
 have WR:∀ t∈c8.1,t.cj.length≤1000:=fun t bl=>by
  have aY:nS t∈sd c4 dq hn:=aS ▸ List.mem_map_of_mem bl
  have b7:∀ p∈sd c4 dq hn,p.2.2.length≤1000:=by
   intro p hp
   simp only [sd,List.mem_cons,List.not_mem_nil,or_false] at hp
   rcases hp with rfl | rfl | rfl | rfl
   ·simp
   ·cases c4 <;> simp [mJ]
   ·cases dq <;> simp [vG]
   ·cases hn <;> simp [vH]
  exact b7 _ aY
 refine .bind (Sv _ _ ZU (by simp only; omega) WR) fun eU aY=> .eq rfl (.bind (nH _ aY.1) fun e9 b7=> ?_)
 let Inv (s:a2):Prop:=s.hP.map Ab=H9∧s.tp.length=3∧s.u4.length=3∧s.fu.map tQ=AH∧s.cA=c8.1∧s.oi.map (·.bW)= [1,2,7]
 have hinv:∀ (st:List fD) (PH:List e3) (s:a2),Inv s→Inv { s with nF:=st,oo:=PH } :=fun st PH s h=>h
 refine .bind (P:=fun _=>True) (.cond (fun _=> .eq (ko _ _ (by simp) (by omega)) (.ret trivial)) (fun _=> .ret trivial)) fun bq _=> ?_
 refine .bind (nH _ b7) fun gm dV=> ?_
 refine .bind (P:=fun m=>Inv m.1∧m.2.length≤10) (.cond (fun _=> .eq rfl (.eq (ko _ _ (by simp) (by omega)) (.ret ⟨⟨rfl,rfl,av.2,aO.2,rfl,aY.2⟩,by simp⟩))) (fun _=> .ret ⟨⟨rfl,rfl,av.2,aO.2,rfl,aY.2⟩,by simp⟩)) fun cx ed=> ?_
 refine .bind (nH _ dV) fun iD eQ=> ?_
 refine .cb (P:=fun _=>True) (fun _=>⟨2,tx (k:=2) (by rw [ed.1.2.2.2.2.1]; omega),trivial⟩) fun bn _=> ?_
 refine .bind (P:=fun m=>Inv m.1∧m.2.length≤11) (.cond (fun _=> .eq rfl (.eq (ko _ _ (by have:=ed.2; simp; omega) (by omega)) (.ret ⟨ed.1,by have:=ed.2; simp; omega⟩))) (fun _=> .ret ⟨ed.1,by have:=ed.2; simp only; omega⟩)) fun eg fh=> ?_
 refine .bind (nH _ eQ) fun ib iz=> ?_
 refine .cb (P:=fun _=>True) (fun _=>⟨3,tx (k:=3) (by rw [fh.1.2.2.2.2.1]; omega),trivial⟩) fun c3 _=> ?_
 refine .bind (P:=fun m=>Inv m.1∧m.2.length≤13) (.cond (fun _=> .eq rfl (.eq rfl (.eq (ko _ _ (by have:=fh.2; simp; omega) (by omega)) (.ret ⟨fh.1,by have:=fh.2; simp; omega⟩)))) (fun _=> .ret ⟨fh.1,by have:=fh.2; simp only; omega⟩)) fun pv AM=> ?_
 obtain⟨⟨i1,i2,i3,i4,i5,i6⟩,_⟩:=AM
 exact .eq rfl (.ret ⟨⟨i1,i2,i3,i4,⟨c4,dq,hn,by simp only [i5]; exact aS⟩,i6,by simp only [i5]; exact eB⟩,iz⟩)
theorem dH.size {s:a2} (h:dH s) {k:Nat} (ar:k < 4):2≤ (aJ s.cA k).iQ∧ (aJ s.cA k).iQ≤12:=by
 have an:=h.qX
 exact h.WQ _ (List.mem_map.2 ⟨_,by rw [gh _ (by omega)]; exact List.getElem_mem _,rfl⟩)
def b4 (v:aw) (i:Nat):Bool:=if i < 64 then v.cv.getLsbD i else v.dP.getLsbD (i - 64)
theorem Dy {v w:aw} (h:∀ j,j < 128→b4 v j=b4 w j):v=w:=by
 cases v with | mk aao aap=>cases w with | mk aaq wl=>
 have J:aao=aaq:=by
  apply BitVec.eq_of_getLsbD_eq
  intro i ao
  have:=h (i + 64) (by omega)
  simpa [b4,show ¬ (i + 64 < 64) by omega] using this
 have aa:aap=wl:=by
  apply BitVec.eq_of_getLsbD_eq
  intro i ao
  have:=h i (by omega)
  simpa [b4,ao] using this
 rw [J,aa]
def se (x y:aw):aw:= { dP:=x.dP &&& y.dP,cv:=x.cv &&& y.cv }
def Pd (x y:aw):aw:= { dP:=x.dP ||| y.dP,cv:=x.cv ||| y.cv }
def Ia (x y:aw):aw:= { dP:=x.dP ^^^ y.dP,cv:=x.cv ^^^ y.cv }
@[simp] theorem vh (x y:aw) (j:Nat):b4 (se x y) j=(b4 x j && b4 y j):=by unfold b4 se; split <;> simp
@[simp] theorem aax (x y:aw) (j:Nat):b4 (Pd x y) j=(b4 x j || b4 y j):=by unfold b4 Pd; split <;> simp
@[simp] theorem TO (x y:aw) (j:Nat):b4 (Ia x y) j=(b4 x j ^^ b4 y j):=by unfold b4 Ia; split <;> simp
theorem and_eq (x y:aw):rD x y=some (se x y):=rfl
theorem xor_eq (x y:aw):y8 x y=some (Ia x y):=rfl
theorem LF (v:aw) (n:Nat) (aF:n < 2 ^ 62):br (xi v n) (fun r=> ∀ j,j < 128→b4 r j=b4 v (j + n)):=by
 unfold xi
 refine .cond (fun h=> .ret fun j aB=> ?_) (fun h=> .cond (fun cS=> .eq rfl (.ret fun j aB=> ?_)) (fun cS=> .eq rfl (.eq rfl (.ret fun j aB=> ?_))))
 ·have:n=0:=by simp at h; omega
  simp [this]
 ·simp only [decide_eq_true_eq] at cS
  have az:bE ((n:Int) - 64)=((n - 64:Nat):Int):=by rw [hr (by omega) (by omega)]; omega
  rw [az,Dc (by omega)]
  unfold b4
  by_cases aB:j < 64
  ·rw [if_pos aB,if_neg (by omega)]
   simp only [BitVec.getLsbD_ushiftRight]
   congr 1; omega
  ·rw [if_neg aB,if_neg (by omega)]
   rw [show(default:aw).dP=0#64 from rfl,BitVec.getLsbD_zero,BitVec.getLsbD_of_ge _ _ (by omega)]
 ·simp only [decide_eq_false_iff_not] at h cS
  have az:bE (64 - (n:Int))=((64 - n:Nat):Int):=by rw [hr (by omega) (by omega)]; omega
  rw [az,Dc (by omega),Dc (by omega)]
  unfold b4
  by_cases aB:j < 64
  ·rw [if_pos aB]
   simp only [BitVec.getLsbD_or,BitVec.getLsbD_ushiftRight,BitVec.getLsbD_shiftLeft]
   by_cases av:j + n < 64
   ·rw [if_pos av]
    have:j < 64 - n:=by omega
    simp [this,Nat.add_comm]
   ·rw [if_neg av,BitVec.getLsbD_of_ge _ (n + j) (by omega)]
    have: ¬ (j < 64 - n):=by omega
    simp only [aB,this,decide_true,decide_false,Bool.true_and,Bool.not_false,Bool.false_or]
    congr 1; omega
  ·rw [if_neg aB,if_neg (by omega)]
   simp only [BitVec.getLsbD_ushiftRight]
   congr 1; omega
theorem MO (v:aw) (i:Int):br (tj v i) (fun r=>r=(decide (0≤i∧i < 128) && b4 v i.toNat)):=by
 unfold tj
 refine .cb (P:=fun r=> ∀ j,j < 128→b4 r j=b4 v (j + i.toNat)) (fun h=> ?_) fun y a4=> .eq rfl (.ret ?_)
 ·simp at h
  obtain⟨n,rfl⟩:=Int.eq_ofNat_of_zero_le h.1
  exact LF v n (by omega)
 ·by_cases h:0≤i∧i < 128
  ·have J:(decide (i≥0) && decide (i < 128))=true:=by simp; omega
   rw [J,TM]
   have:=a4 J 0 (by omega)
   rw [show b4 y 0=y.cv.getLsbD 0 from rfl,Nat.zero_add] at this
   rw [this,decide_eq_true h]
  ·have J:(decide (i≥0) && decide (i < 128))=false:=by simp; omega
   simp [J,h]
def PI (w:Vector aw 4) (i:Nat):Bool:=b4 (bB w (i / 128)) (127 - i % 128)
def cell (val mask:Vector aw 4) (i:Nat):BitVec 8:=if PI mask i then(if PI val i then 1#8 else 0#8) else 2#8
theorem TP (x y:aw):br (y8 x y) (fun r=> ∀ j,j < 128→b4 r j=(b4 x j ^^ b4 y j)):=⟨_,xor_eq x y,fun j _=>TO x y j⟩
theorem GB (n:Int):br (tg n) (fun r=> ∀ j,j < 128→b4 r j=decide ((j:Int) < n)):=by
 unfold tg xh
 refine .eq rfl (.eq rfl ?_)
 have hm:bE (128 - min (max 0 n) 128)=((128 - min (max 0 n) 128).toNat:Int):=by rw [hr (by omega) (by omega)]; omega
 rw [hm]
 refine(LF _ _ (by omega)).bind fun r aD=> .ret fun j aB=> ?_
 rw [aD j aB]
 have kx:∀ i,b4 { dP:=18446744073709551615#64,cv:=18446744073709551615#64 } i=decide (i < 128):=by
  intro i
  have a6:(18446744073709551615#64)=BitVec.allOnes 64:=by rfl
  unfold b4
  simp only [a6,BitVec.getLsbD_allOnes]
  by_cases h:i < 64
  ·simp [h]; omega
  ·simp [h]; omega
 rw [kx,decide_eq_decide]; omega
def val (w:Nat):Nat→ (Nat→Nat)→Nat
 | 0,_=>0
 | n + 1,d=>d 0 + 2 ^ w * val w n (fun k=>d (k + 1))
def x2:List Int:= [16,16,8,4,4,8,32,12,4]
theorem dH.EI {s:a2} (h:dH s) {k:Nat} (ar:k < 9):(aJ s.hP k).bW=(k:Int) + 1∧ (aJ s.hP k).fz=aJ x2 k:=by
 have J:=Gc Ab (l:=s.hP) (k:=k) (by rw [h.x1]; exact ar)
 rw [h.fields] at J
 have aa:aJ H9 k=((k:Int) + 1,aJ x2 k):=by
  have:k=0∨k=1∨k=2∨k=3∨k=4∨k=5∨k=6∨k=7∨k=8:=by omega
  rcases this with rfl | rfl | rfl | rfl | rfl | rfl | rfl | rfl | rfl <;> rfl
 rw [aa] at J
 simp only [Ab,Prod.mk.injEq] at J
 exact⟨J.1.symm,J.2.symm⟩
def mK (key:cJ):Prop:= ∃ j:Nat,j < 9∧key.gf=(j:Int) + 1∧1≤key.du∧key.du≤4∧4≤aJ x2 j∧aJ x2 j≤32∧ (key.du=2→j=6)
def j1 (key:cJ):Int:=aJ x2 (key.gf - 1).toNat
theorem dH.lK {s:a2} (h:dH s) {k:Nat} (ar:k < 4):(aJ s.cA k).bW=(k:Int) + 1∧
 (1≤ (aJ s.cA k).cj.length∧ (aJ s.cA k).cj.length≤3)∧ (∀ key∈ (aJ s.cA k).cj,mK key)∧
 (1≤ (aJ s.cA k).fu.length∧ (aJ s.cA k).fu.length≤5)∧ (∀ a∈ (aJ s.cA k).fu,1≤a∧a≤6):=by
 obtain⟨c4,dq,hn,bl⟩:=h.tables
 have J:=Gc nS (l:=s.cA) (k:=k) (by rw [h.qX]; exact ar)
 rw [bl] at J
 have aa:∀ p:Int × List Int × List cJ,p=nS (aJ s.cA k)→p.1=(k:Int) + 1→ (1≤p.2.2.length∧p.2.2.length≤3)→ (∀ key∈p.2.2,mK key)→
  (1≤p.2.1.length∧p.2.1.length≤5)→ (∀ a∈p.2.1,1≤a∧a≤6)→ (aJ s.cA k).bW=(k:Int) + 1∧
  (1≤ (aJ s.cA k).cj.length∧ (aJ s.cA k).cj.length≤3)∧ (∀ key∈ (aJ s.cA k).cj,mK key)∧
  (1≤ (aJ s.cA k).fu.length∧ (aJ s.cA k).fu.length≤5)∧ (∀ a∈ (aJ s.cA k).fu,1≤a∧a≤6):=by
  rintro p rfl a b c d e
  exact⟨a,b,c,d,e⟩
 have hy:(1≤ ([1,2,4]:List Int).length∧ ([1,2,4]:List Int).length≤5)∧ ∀ a∈ ([1,2,4]:List Int),1≤a∧a≤6:=by decide
 have cq:(1≤ ([1,2,3,4]:List Int).length∧ ([1,2,3,4]:List Int).length≤5)∧ ∀ a∈ ([1,2,3,4]:List Int),1≤a∧a≤6:=by decide
 have cF:(1≤ ([1,2,3,5,6]:List Int).length∧ ([1,2,3,5,6]:List Int).length≤5)∧ ∀ a∈ ([1,2,3,5,6]:List Int),1≤a∧a≤6:=by decide
 have eM:(1≤ ([1,3,5]:List Int).length∧ ([1,3,5]:List Int).length≤5)∧ ∀ a∈ ([1,3,5]:List Int),1≤a∧a≤6:=by decide
 have WS:mK oa:=⟨3,by decide,rfl,by decide,by decide,by decide,by decide,by decide⟩
 have MP:mK Bq:=⟨3,by decide,rfl,by decide,by decide,by decide,by decide,by decide⟩
 have WT:mK JH:=⟨4,by decide,rfl,by decide,by decide,by decide,by decide,by decide⟩
 have HF:mK wZ:=⟨6,by decide,rfl,by decide,by decide,by decide,by decide,by decide⟩
 have WU:mK E0:=⟨2,by decide,rfl,by decide,by decide,by decide,by decide,by decide⟩
 have NW:mK BN:=⟨5,by decide,rfl,by decide,by decide,by decide,by decide,by decide⟩
 have NX:mK BO:=⟨7,by decide,rfl,by decide,by decide,by decide,by decide,by decide⟩
 have WV:mK JI:=⟨8,by decide,rfl,by decide,by decide,by decide,by decide,by decide⟩
 have:k=0∨k=1∨k=2∨k=3:=by omega
 rcases this with rfl | rfl | rfl | rfl
 ·refine aa _ J rfl (show 1≤ [oa].length∧ [oa].length≤3 by decide) ?_ hy.1 hy.2
  intro key kz
  rcases List.mem_singleton.1 kz with rfl
  exact WS
 ·refine aa _ J rfl ?_ ?_ cq.1 cq.2
  ·show 1≤ (mJ c4).length∧ (mJ c4).length≤3
   cases c4 <;> decide
  ·intro key kz
   replace kz:key∈mJ c4:=kz
   cases c4 <;> simp only [mJ,List.mem_cons,List.not_mem_nil,or_false,if_true,if_false,Bool.false_eq_true] at kz
   ·subst kz; exact HF
   ·rcases kz with rfl | rfl; exact HF; exact WU
 ·refine aa _ J rfl ?_ ?_ cF.1 cF.2
  ·show 1≤ (vG dq).length∧ (vG dq).length≤3
   cases dq <;> decide
  ·intro key kz
   replace kz:key∈vG dq:=kz
   cases dq <;> simp only [vG,List.mem_cons,List.not_mem_nil,or_false,if_true,if_false,Bool.false_eq_true] at kz
   ·rcases kz with rfl | rfl; exact NW; exact MP
   ·rcases kz with rfl | rfl | rfl; exact NW; exact MP; exact WT
 ·refine aa _ J rfl ?_ ?_ eM.1 eM.2
  ·show 1≤ (vH hn).length∧ (vH hn).length≤3
   cases hn <;> decide
  ·intro key kz
   replace kz:key∈vH hn:=kz
   cases hn <;> simp only [vH,List.mem_cons,List.not_mem_nil,or_false,if_true,if_false,Bool.false_eq_true] at kz
   ·subst kz; exact NX
   ·rcases kz with rfl | rfl | rfl; exact NX; exact WV; exact HF
structure r8 (kind b:Int) (m:c5):Prop where
 off:m.ho=false→m=default
 EJ:kind=1→m.ho=true
 low:kind=1→ ∀ j,j < 128→b4 m.cL j=true→ (j:Int) < b
 aaY:kind=3→ ∀ j,j < 128→b4 m.iP j=true→ (j:Int) < b
 aaZ:kind=3→ ∀ j,j < 128→b4 m.cL j=true→b4 m.iP j=true
 pre:0≤m.fk∧m.fk≤32
 Pe:kind=2→m.ho=true→1≤m.fk
 Pf:kind≠2→m.fk=0
 gl:kind≠3→m.iP=default
 aa0:kind=3→m.ho=true→m.iP≠default
 aa1:kind=4→m.ho=true→m.cL.dP=m.lV.dP∧m.cL.cv≤m.lV.cv
 I1:kind=2→ ∀ j,j < 128→b4 m.cL j=true→32 - m.fk≤ (j:Int)∧j < 32
 EK:kind≠4→m.lV=default
theorem Yw:(0:Int)≤0∧ (0:Int)≤32:=⟨Int.le_refl 0,by decide⟩
structure jz (s:a2) (k:Nat) (e:b1):Prop where
 lK:e.et=(k:Int) + 1
 len:e.cd.length=(aJ s.cA k).cj.length
 wJ:∀ i,i < (aJ s.cA k).cj.length→r8 (aJ (aJ s.cA k).cj i).du (j1 (aJ (aJ s.cA k).cj i)) (aJ e.cd i)
 args:e.qI.length≤10
 pri:(∀ i,i < (aJ s.cA k).cj.length→ (aJ (aJ s.cA k).cj i).du≤2)→e.jv=0
theorem CJ {α:Type} [Inhabited α] (l:List α) (x:α) (i:Nat):aJ (l ++ [x]) i=if i=l.length then x else aJ l i:=by
 unfold aJ
 by_cases h:i=l.length
 ·subst h; simp
 ·rw [if_neg h]
  rcases Nat.lt_or_ge i l.length with J | J
  ·rw [List.getElem?_append_left J]
  ·rw [List.getElem?_eq_none (by simp; omega),List.getElem?_eq_none J]
structure aaA (s:a2) (r:Vector (List Int) 6):Prop where
 fields:bB r 0=s.hP.map (·.bW)
 headers:bB r 1=s.tp.map (·.bW)
 UK:bB r 2=s.u4.map (·.bW)
 TN:bB r 3=s.fu.map (·.bW)
 tables:bB r 4=s.cA.map (·.bW)
 WO:bB r 5=s.oi.map (·.bW)
theorem J0 {xs:List bx} {f:bx→Option Bool} {g:bx→Bool} (aV:∀ x∈xs,f x=some (g x)) (an:xs.length < 2 ^ 62):
 br (yy xs f) (fun r=>(r= -1∧ ∀ x∈xs,g x=false)∨ ∃ i:Nat,i < xs.length∧r=i∧g (aJ xs i)=true∧ ∀ j,j < i→g (aJ xs j)=false):=by
 unfold yy
 refine br.loop xs.length (fun k s=>s=(k:Int)∧ ∀ j,j < k→g (aJ xs j)=false) (by omega) ⟨rfl,fun j aB=>by omega⟩ (fun k s ar ao=> ?_) (fun s ao=> ?_)
 ·obtain⟨az,aX⟩:=ao; subst az
  refine br.cond (fun _=> ?_) (fun h=>by simp at h; omega)
  refine .idx rfl ar (.eq (aV _ (by rw [gh xs ar]; exact List.getElem_mem ar)) (.cond (fun h=> .ret ?_) (fun h=> .ret ⟨g5 (by omega),fun j aB=> ?_⟩)))
  ·exact .ret (.inr ⟨k,ar,rfl,h,aX⟩)
  ·by_cases sH:j=k
   ·subst sH; exact h
   ·exact aX j (by omega)
 ·obtain⟨az,aX⟩:=ao; subst az
  refine⟨_,by simp; rfl,?_⟩
  refine .ret (.inl ⟨rfl,fun x ai=> ?_⟩)
  obtain⟨j,aB,rfl⟩:=List.mem_iff_getElem.1 ai
  rw [← gh xs aB]; exact aX j aB
theorem QJ {xs:List fm} {f:fm→Option Bool} {g:fm→Bool} (aV:∀ x∈xs,f x=some (g x)) (an:xs.length < 2 ^ 62):
 br (yz xs f) (fun r=>(r= -1∧ ∀ x∈xs,g x=false)∨ ∃ i:Nat,i < xs.length∧r=i∧g (aJ xs i)=true∧ ∀ j,j < i→g (aJ xs j)=false):=by
 unfold yz
 refine br.loop xs.length (fun k s=>s=(k:Int)∧ ∀ j,j < k→g (aJ xs j)=false) (by omega) ⟨rfl,fun j aB=>by omega⟩ (fun k s ar ao=> ?_) (fun s ao=> ?_)
 ·obtain⟨az,aX⟩:=ao; subst az
  refine br.cond (fun _=> ?_) (fun h=>by simp at h; omega)
  refine .idx rfl ar (.eq (aV _ (by rw [gh xs ar]; exact List.getElem_mem ar)) (.cond (fun h=> .ret ?_) (fun h=> .ret ⟨g5 (by omega),fun j aB=> ?_⟩)))
  ·exact .ret (.inr ⟨k,ar,rfl,h,aX⟩)
  ·by_cases sH:j=k
   ·subst sH; exact h
   ·exact aX j (by omega)
 ·obtain⟨az,aX⟩:=ao; subst az
  refine⟨_,by simp; rfl,?_⟩
  refine .ret (.inl ⟨rfl,fun x ai=> ?_⟩)
  obtain⟨j,aB,rfl⟩:=List.mem_iff_getElem.1 ai
  rw [← gh xs aB]; exact aX j aB
theorem KB {s:a2} (h:dH s) {k:Nat} (ar:k < 4):br (ry s ((k:Int) + 1)) (fun r=>r=(k:Int)):=by
 unfold ry
 refine(J0 (g:=fun t=>t.bW ==(k:Int) + 1) (fun x ai=>rfl) (by rw [h.qX]; omega)).bind fun r aD=> .ret ?_
 have dj:k < s.cA.length:=by rw [h.qX]; exact ar
 rcases aD with⟨_,aD⟩ | ⟨i,J,aa,av,aO⟩
 ·have:=aD (aJ s.cA k) (by rw [gh _ dj]; exact List.getElem_mem dj)
  simp only [(h.lK ar).1,beq_self_eq_true] at this; cases this
 ·have aS:=(h.lK (show i < 4 by have:=h.qX; omega)).1
  simp only [aS,beq_iff_eq] at av; omega
theorem KC {s:a2} (h:dH s) {k:Nat} (ar:k < 9):br (td s ((k:Int) + 1)) (fun r=>r=(k:Int)):=by
 unfold td
 refine(QJ (g:=fun t=>t.bW ==(k:Int) + 1) (fun x ai=>rfl) (by rw [h.x1]; omega)).bind fun r aD=> .ret ?_
 have dj:k < s.hP.length:=by rw [h.x1]; exact ar
 rcases aD with⟨_,aD⟩ | ⟨i,J,aa,av,aO⟩
 ·have:=aD (aJ s.hP k) (by rw [gh _ dj]; exact List.getElem_mem dj)
  simp only [(h.EI ar).1,beq_self_eq_true] at this; cases this
 ·have aS:=(h.EI (show i < 9 by have:=h.x1; omega)).1
  simp only [aS,beq_iff_eq] at av; omega
theorem NY {key:cJ} {j:Nat} (h:key.gf=(j:Int) + 1):j1 key=aJ x2 j:=by unfold j1; rw [h]; congr 1; omega
def lead (n k:Int) (j:Nat):Bool:=decide ((j:Int) < n) && decide (n - max 0 (min k n)≤ (j:Int))
theorem FP (n k:Int) (bA:0≤n) (J:n≤128):br (xf n k) (fun r=> ∀ j,j < 128→b4 r j=lead n k j):=by
 unfold xf xh
 have e:min (max 0 n) 128=n:=by omega
 rw [e]
 have aX:bE (n - min (max 0 k) n)=n - min (max 0 k) n:=hr (by omega) (by omega)
 refine .eq rfl ((GB n).bind fun a a9=> ?_)
 rw [aX]
 refine(GB _).bind fun b hb=>(TP a b).bind fun r aD=> .ret fun j aB=> ?_
 rw [aD j aB,a9 j aB,hb j aB]
 unfold lead
 by_cases p:(j:Int) < n
 ·rw [decide_eq_true p]
  by_cases q:(j:Int) < n - min (max 0 k) n
  ·rw [decide_eq_true q,decide_eq_false (by omega)]; rfl
  ·rw [decide_eq_false q,decide_eq_true (by omega)]; rfl
 ·rw [decide_eq_false p,decide_eq_false (by omega)]; rfl
theorem mK.j1 {key:cJ} (h:mK key):4≤Go.Proofs.YthkfkliknjiecaaGreat.j1 key∧Go.Proofs.YthkfkliknjiecaaGreat.j1 key≤32:=by
 obtain⟨j,aB,aV,_,_,J,aa,_⟩:=h
 rw [NY aV]; exact⟨J,aa⟩
theorem TQ {v w:aw} :decide (v=w)=true↔ ∀ j,j < 128→b4 v j=b4 w j:=by
 rw [decide_eq_true_eq]; exact⟨fun h j _=>by rw [h],Dy⟩
def nv (a b:aw):Bool:=decide (a.dP < b.dP) || (a.dP ==b.dP && decide (a.cv < b.cv))
theorem GC {a b:aw} :nv a b=true↔a.dP < b.dP∨ (a.dP=b.dP∧a.cv < b.cv):=by simp [nv]
theorem zh (a:aw):nv a a=false:=by simp [nv]
theorem CK {a b:aw} (h:nv a b=true):nv b a=false:=by
 rw [Bool.eq_false_iff]
 intro aa
 rw [GC] at h aa
 simp only [BitVec.lt_def,BitVec.toNat_eq] at h aa
 omega
theorem KR (a b:aw):br (xe a b) (fun r=>(r < 0↔nv a b=true)∧ (r=0↔a=b)∧ (-1≤r∧r≤1)):=by
 unfold xe
 refine .cond (fun h=> .ret ?_) fun h=> .eq rfl (.cond (fun aa=> .ret ?_) fun aa=> .ret ?_)
 ·simp only [decide_eq_true_eq] at h
  subst h
  simp [zh]
 ·simp only [decide_eq_false_iff_not] at h
  exact⟨⟨fun _=>aa,fun _=>by omega⟩,⟨fun av=>by omega,fun av=>absurd av h⟩,by omega,by omega⟩
 ·simp only [decide_eq_false_iff_not] at h
  have ji:nv a b=false:=aa
  exact⟨⟨fun av=>by omega,fun av=>by rw [ji] at av; cases av⟩,⟨fun av=>by omega,fun av=>absurd av h⟩,by omega,by omega⟩
end Go.Proofs.YthkfkliknjiecaaGreat
namespace Gv
structure q9 {α:Type} (b:α→α→Bool):Prop where
 asymm:∀ x y,b x y=true→b y x=false
 trans:∀ x y z,b x y=true→b y z=true→b x z=true
def ins {α:Type} (b:α→α→Bool):List α→α→List α
 | [],x=> [x]
 | a :: l,x=>if b a x=true then a :: ins b l x else x :: a :: l
def cO {α:Type} (b:α→α→Bool) (l:List α):List α:=l.foldl (ins b) []
def jU {α:Type} (b:α→α→Bool):List α→α→Nat
 | [],_=>0
 | a :: l,x=>if b a x=true then jU b l x + 1 else 0
def qc {α:Type} (b:α→α→Bool) (x y:α):Prop:=b x y=true∨b y x=true
variable {α:Type} {b:α→α→Bool}
theorem LG (a:α) (l:List α) (x:α):ins b (a :: l) x=if b a x=true then a :: ins b l x else x :: a :: l:=rfl
theorem Dz:∀ {l:List α} {x:α},jU b l x≤l.length
 | [],_=>Nat.le_refl _
 | a :: l,x=>by
   have:=Dz (l:=l) (x:=x)
   unfold jU; split <;> simp <;> omega
theorem G7:∀ (l:List α) (x:α),ins b l x=l.take (jU b l x) ++ x :: l.drop (jU b l x)
 | [],x=>rfl
 | a :: l,x=>by
   unfold ins jU
   split
   ·rw [G7 l x]; rfl
   ·rfl
theorem Ge:∀ (l:List α) (x:α),(ins b l x).Perm (x :: l)
 | [],x=>List.Perm.refl _
 | a :: l,x=>by
   unfold ins
   split
   ·exact((Ge l x).cons a).trans (List.Perm.swap x a l)
   ·exact List.Perm.refl _
theorem TR {l:List α} {x y:α} :y∈ins b l x↔y=x∨y∈l:=by
 rw [(Ge l x).mem_iff]; simp
theorem zA (l:List α) (x:α):cO b (l ++ [x])=ins b (cO b l) x:=by
 simp [cO,List.foldl_append]
theorem Df (l:List α):(cO b l).Perm l:=by
 have key:∀ (l m:List α),(l.foldl (ins b) m).Perm (m ++ l):=by
  intro l
  induction l with
  | nil=>intro m; simp
  | cons a l bD=>
    intro m
    refine(bD (ins b m a)).trans ?_
    refine((Ge m a).append_right l).trans ?_
    exact(List.perm_middle (a:=a) (l₁:=m) (l₂:=l)).symm
 exact key l []
theorem na {l:List α} {y:α} :y∈cO b l↔y∈l:=(Df l).mem_iff
theorem MQ {l:List α} :(cO b l).length=l.length:=(Df l).length_eq
theorem KS (hb:q9 b):∀ {l:List α} {x:α},l.Pairwise (fun x y=>b x y=true)→ (∀ a∈l,qc b a x)→ (ins b l x).Pairwise (fun x y=>b x y=true)
 | [],x,_,_=>by simp [ins]
 | a :: l,x,hs,bl=>by
   obtain⟨J,aa⟩:=List.pairwise_cons.1 hs
   unfold ins
   split
   ·rename_i ra
    refine List.pairwise_cons.2 ⟨fun c ag=> ?_,KS hb aa fun a a9=>bl a (by simp [a9])⟩
    rcases TR.1 ag with rfl | ag
    ·exact ra
    ·exact J c ag
   ·rename_i ra
    have Bs:b x a=true:=(bl a (by simp)).resolve_left ra
    refine List.pairwise_cons.2 ⟨fun c ag=> ?_,hs⟩
    rcases List.mem_cons.1 ag with rfl | ag
    ·exact Bs
    ·exact hb.trans _ _ _ Bs (J c ag)
theorem Sw {l:List α} {x:α} (h:∀ c∈l,b c x=false):ins b l x=x :: l:=by
 cases l with
 | nil=>rfl
 | cons a l=>unfold ins; rw [if_neg (by simp [h a (by simp)])]
theorem KT (hb:q9 b) {q:α→Bool} :∀ {l:List α} {x:α},l.Pairwise (fun x y=>b x y=true)→ (∀ a∈l,qc b a x)→
 (ins b l x).filter q=if q x=true then ins b (l.filter q) x else l.filter q
 | [],x,_,_=>by
   show [x].filter q=if q x=true then [x] else []
   by_cases hp:q x=true
   ·simp [hp]
   ·simp only [Bool.not_eq_true] at hp; simp [hp]
 | a :: l,x,hs,bl=>by
   obtain⟨J,aa⟩:=List.pairwise_cons.1 hs
   have bD:=KT hb (q:=q) (x:=x) aa fun a a9=>bl a (by simp [a9])
   rw [LG]
   by_cases ra:b a x=true
   ·rw [if_pos ra]
    by_cases nt:q a=true
    ·rw [List.filter_cons_of_pos nt,List.filter_cons_of_pos nt,bD]
     by_cases hq:q x=true
     ·rw [if_pos hq,if_pos hq,LG,if_pos ra]
     ·rw [if_neg hq,if_neg hq]
    ·rw [List.filter_cons_of_neg nt,List.filter_cons_of_neg nt,bD]
   ·rw [if_neg ra]
    have Bs:b x a=true:=(bl a (by simp)).resolve_left ra
    by_cases hq:q x=true
    ·rw [List.filter_cons_of_pos hq,if_pos hq,Sw]
     intro c ag
     have nu:=(List.mem_filter.1 ag).1
     refine hb.asymm _ _ ?_
     rcases List.mem_cons.1 nu with rfl | nu
     ·exact Bs
     ·exact hb.trans _ _ _ Bs (J c nu)
    ·rw [List.filter_cons_of_neg hq,if_neg hq]
def ph (b:α→α→Bool) (l:List α):Prop:=l.Pairwise (qc b)
theorem qc.symm {x y:α} (h:qc b x y):qc b y x:=h.elim .inr .inl
theorem ph.snoc {l:List α} {x:α} (h:ph b (l ++ [x])):ph b l∧ ∀ a∈l,qc b a x:=by
 unfold ph at *
 rw [List.pairwise_append] at h
 exact⟨h.1,fun a a9=>h.2.2 a a9 x (by simp)⟩
theorem ph.perm {l m:List α} (h:ph b l) (p:l.Perm m):ph b m:=(p.pairwise_iff fun h=>h.symm).1 h
theorem LH {P:List α→Prop} (bA:P []) (J:∀ l x,P l→P (l ++ [x])) (l:List α):P l:=by
 have:∀ r:List α,P r.reverse:=by
  intro r
  induction r with
  | nil=>exact bA
  | cons a r bD=>rw [List.reverse_cons]; exact J _ _ bD
 have:=this l.reverse
 rwa [List.reverse_reverse] at this
theorem CL (hb:q9 b) {l:List α} (h:ph b l):(cO b l).Pairwise (fun x y=>b x y=true):=by
 induction l using LH with
 | bA=>exact List.Pairwise.nil
 | J l x bD=>
   obtain⟨J,aa⟩:=h.snoc
   rw [zA]
   exact KS hb (bD J) fun a a9=>aa a (na.1 a9)
theorem Lf (hb:q9 b) {q:α→Bool} {l:List α} (h:ph b l):(cO b l).filter q=cO b (l.filter q):=by
 induction l using LH with
 | bA=>rfl
 | J l x bD=>
   obtain⟨J,aa⟩:=h.snoc
   rw [zA,KT hb (CL hb J) fun a a9=>aa a (na.1 a9),bD J,List.filter_append]
   by_cases hq:q x=true
   ·rw [if_pos hq,List.filter_cons_of_pos hq,List.filter_nil,zA]
   ·rw [if_neg hq,List.filter_cons_of_neg hq,List.filter_nil,List.append_nil]
theorem G8 [Inhabited α] (hb:q9 b):∀ {l:List α} {x:α} {k:Nat},l.Pairwise (fun x y=>b x y=true)→k < l.length→ (b (aJ l k) x=true↔k < jU b l x)
 | [],x,k,_,ar=>by simp at ar
 | a :: l,x,k,hs,ar=>by
   obtain⟨J,aa⟩:=List.pairwise_cons.1 hs
   unfold jU
   cases k with
   | zero=>
     have:aJ (a :: l) 0=a:=rfl
     rw [this]
     split <;> simp_all
   | succ k=>
     have jB:k < l.length:=by simpa using ar
     have he:aJ (a :: l) (k + 1)=aJ l k:=by rw [gh _ ar,gh _ jB]; rfl
     rw [he,G8 hb aa jB]
     split
     ·omega
     ·rename_i ra
      constructor
      ·intro bY
       have aS:=(G8 hb aa jB).2 bY
       have aY:=J (aJ l k) (by rw [gh _ jB]; exact List.getElem_mem _)
       exact absurd (hb.trans _ _ _ aY aS) ra
      ·intro h; omega
end Gv
namespace Go.Proofs.YthkfkliknjiecaaGreat
open Go Gv
theorem QU {xs:List cJ} {f:cJ→Option Bool} {g:cJ→Bool} (aV:∀ x∈xs,f x=some (g x)) (an:xs.length < 2 ^ 62):
 br (yA xs f) (fun r=>(r= -1∧ ∀ x∈xs,g x=false)∨ ∃ i:Nat,i < xs.length∧r=i∧g (aJ xs i)=true∧ ∀ j,j < i→g (aJ xs j)=false):=by
 unfold yA
 refine br.loop xs.length (fun k s=>s=(k:Int)∧ ∀ j,j < k→g (aJ xs j)=false) (by omega) ⟨rfl,fun j aB=>by omega⟩ (fun k s ar ao=> ?_) (fun s ao=> ?_)
 ·obtain⟨az,aX⟩:=ao; subst az
  refine br.cond (fun _=> ?_) (fun h=>by simp at h; omega)
  refine .idx rfl ar (.eq (aV _ (by rw [gh xs ar]; exact List.getElem_mem ar)) (.cond (fun h=> .ret ?_) (fun h=> .ret ⟨g5 (by omega),fun j aB=> ?_⟩)))
  ·exact .ret (.inr ⟨k,ar,rfl,h,aX⟩)
  ·by_cases sH:j=k
   ·subst sH; exact h
   ·exact aX j (by omega)
 ·obtain⟨az,aX⟩:=ao; subst az
  refine⟨_,by simp; rfl,?_⟩
  refine .ret (.inl ⟨rfl,fun x ai=> ?_⟩)
  obtain⟨j,aB,rfl⟩:=List.mem_iff_getElem.1 ai
  rw [← gh xs aB]; exact aX j aB
theorem _root_.Gv.br.get {β:Type} {m:Option β} {v:β} (h:br m (fun r=>r=v)):m=some v:=by
 obtain⟨r,J,rfl⟩:=h; exact J
theorem Me (a b:aw):nv a b=true∨a=b∨nv b a=true:=by
 rw [GC,GC]
 rcases a with⟨abb,dp⟩
 rcases b with⟨abc,abd⟩
 simp only [BitVec.lt_def,aw.mk.injEq,← BitVec.toNat_inj]
 omega
def lL (kind b:Int) (m:c5) (x:aw):Bool:=
 if m.ho=false then true
 else if kind=1 then decide (x=m.cL)
 else if kind=2 then(List.range 128).all fun j=> !lead b m.fk j || (b4 x j ==b4 m.cL j)
 else if kind=3 then decide (se x m.iP=m.cL)
 else !nv x m.cL && !nv m.lV x
theorem RU {key:cJ} (ar:mK key) (m:c5) (x:aw):y1 m key.du (j1 key) x=some (lL key.du (j1 key) m x):=by
 have hb:=ar.j1
 obtain⟨_,_,_,bn,jD,_⟩:=ar
 refine br.get ?_
 unfold y1 lL
 refine .cond (fun hp=> .ret ?_) fun hp=> ?_
 ·simp only [Bool.not_eq_true'] at hp
  rw [if_pos hp]; simp; omega
 simp only [Bool.not_eq_false'] at hp
 rw [if_neg (by simp [hp])]
 refine .cond (fun J=> .ret ?_) fun J=> .cond (fun aa=> ?_) fun aa=> .cond (fun av=> ?_) fun av=> ?_
 ·rw [if_pos (by simpa using J)]
 ·rw [if_neg (by simpa using J),if_pos (by simpa using aa)]
  refine(FP _ _ (by omega) (by omega)).bind fun aG az=> .eq (and_eq _ _) (.eq (and_eq _ _) (.ret ?_))
  rw [Bool.eq_iff_iff,TQ,List.all_eq_true]
  constructor
  ·intro h j aB
   have EA:=List.mem_range.1 aB
   have:=h j EA
   rw [vh,vh,az j EA] at this
   cases an:lead (j1 key) m.fk j
   ·rfl
   ·rw [an] at this; simpa using this
  ·intro h j aB
   have:=h j (List.mem_range.2 aB)
   rw [vh,vh,az j aB]
   cases an:lead (j1 key) m.fk j
   ·simp
   ·rw [an] at this; simpa using this
 ·rw [if_neg (by simpa using J),if_neg (by simpa using aa),if_pos (by simpa using av)]
  exact .eq (and_eq _ _) (.ret rfl)
 ·have p0:key.du=4:=by simp only [beq_eq_false_iff_ne] at J aa av; omega
  rw [if_neg (by simpa using J),if_neg (by simpa using aa),if_neg (by simpa using av)]
  refine .cond (fun _=> ?_) fun h=>by rw [p0] at h; cases h
  refine(KR _ _).bind fun c8 ⟨cq,cF,eM⟩=> .cb (P:=fun r=>(r < 0↔nv x m.lV=true)∧ (r=0↔x=m.lV)∧ -1≤r∧r≤1) (fun _=>KR _ _) fun eU aY=> .ret ?_
  have h6:decide (c8≤0)= !nv x m.cL:=by
   rw [Bool.eq_iff_iff,decide_eq_true_eq,Bool.not_eq_true']
   rcases Me m.cL x with h | h | h
   ·have:=cq.2 h; rw [CK h]; simp; omega
   ·have:=cF.2 h; rw [h,zh]; simp; omega
   ·rw [h]; simp
    have b7: ¬ c8 < 0:=fun bS=>by rw [CK h] at cq; simpa using cq.1 bS
    have dV:c8≠0:=fun bS=>by rw [cF.1 bS,zh] at h; cases h
    omega
  rw [h6]
  cases ai:nv x m.cL
  ·rw [h6,ai] at aY
   obtain⟨c4,dq,hn⟩:=aY rfl
   simp only [Bool.not_false,Bool.true_and]
   rw [Bool.eq_iff_iff,decide_eq_true_eq,Bool.not_eq_true']
   rcases Me x m.lV with h | h | h
   ·have:=c4.2 h; rw [CK h]; simp; omega
   ·have:=dq.2 h; rw [h,zh]; simp; omega
   ·rw [h]; simp
    have b7: ¬ eU < 0:=fun bS=>by rw [CK h] at c4; simpa using c4.1 bS
    have dV:eU≠0:=fun bS=>by rw [dq.1 bS,zh] at h; cases h
    omega
  ·simp
def mt (s:a2) (k:Nat) (p:Vector aw 4) (e:b1):Bool:=
 (List.range (aJ s.cA k).cj.length).all fun i=>lL (aJ (aJ s.cA k).cj i).du (j1 (aJ (aJ s.cA k).cj i)) (aJ e.cd i) (bB p i)
theorem RV {s:a2} (h:dH s) {key:cJ} (ar:mK key):y0 s key=some (j1 key):=by
 obtain⟨j,aB,aV,_⟩:=ar
 refine br.get ?_
 unfold y0
 rw [aV]
 refine(KC h aB).bind fun r aD=> ?_
 subst aD
 rw [show decide ((j:Int) < 0)=false from decide_eq_false (by omega),cond_false]
 refine .idx rfl (by have:=h.x1; omega) (.ret ?_)
 rw [(h.EI aB).2,NY aV]
theorem Lg {s:a2} (h:dH s) {k:Nat} (ar:k < 4) {e:b1} (he:e.et=(k:Int) + 1):xj s e=some (aJ s.cA k,true):=by
 refine br.get ?_
 unfold xj
 rw [he]
 refine(KB h ar).bind fun r aD=> ?_
 subst aD
 rw [show decide ((k:Int) < 0)=false from decide_eq_false (by omega),cond_false]
 exact .idx rfl (by have:=h.qX; omega) (.ret rfl)
theorem UL {n i:Nat} {f:Nat→Bool} (h:∀ c,c < n→f c=true) (aF:i=n):(List.range i).all f=true:=by
 subst aF; exact List.all_eq_true.2 fun c ag=>h c (List.mem_range.1 ag)
theorem UM {n i:Nat} {f:Nat→Bool} (ao:i < n) (h:f i=false):(List.range n).all f=false:=by
 rw [Bool.eq_false_iff]; intro J
 have:=List.all_eq_true.1 J i (List.mem_range.2 ao)
 rw [h] at this; cases this
theorem RC {s:a2} (h:dH s) {k:Nat} (ar:k < 4) {e:b1} (he:jz s k e) (p:Vector aw 4):pA s e p=some (mt s k p e):=by
 obtain⟨t1,⟨t2,t3⟩,t4,_⟩:=h.lK ar
 refine br.get ?_
 unfold pA mt
 refine .eq (Lg h ar he.lK) (.cond (fun h=>by cases h) fun _=> ?_)
 have hm:=he.len
 simp only
 refine br.loop (aJ s.cA k).cj.length (fun i st=>st=(i:Int)∧ ∀ c,c < i→lL (aJ (aJ s.cA k).cj c).du (j1 (aJ (aJ s.cA k).cj c)) (aJ e.cd c) (bB p c)=true) (by omega) ⟨rfl,fun c ag=>by omega⟩ (fun i st ao hs=> ?_) (fun st hs=> ?_)
 ·obtain⟨rfl,hs⟩:=hs
  have mT:mK (aJ (aJ s.cA k).cj i):=t4 _ (by rw [gh _ ao]; exact List.getElem_mem ao)
  refine .cond (fun _=> ?_) (fun h=>by simp at h; omega)
  refine .idx rfl ao ?_
  have oT:(decide ((i:Int)≥ (e.cd.length:Int)) || decide ((i:Int)≥4))=false:=by simp; omega
  rw [oT]
  refine .cb (P:=fun c=>c=i) (fun _=>⟨i,tx (by omega),rfl⟩) fun c3 aX=> .cb (P:=fun c=>c=j1 (aJ (aJ s.cA k).cj i)) (fun _=>⟨_,RV h mT,rfl⟩) fun aQ dS=> .cb (P:=fun c=>c=i) (fun _=>⟨i,tx (by omega),rfl⟩) fun eI gP=> ?_
  rw [aX rfl,dS rfl,gP rfl]
  refine .cb (P:=fun c=>c=lL (aJ (aJ s.cA k).cj i).du (j1 (aJ (aJ s.cA k).cj i)) (aJ e.cd i) (bB p i)) (fun _=>⟨_,RU mT _ _,rfl⟩) fun bm pw=> .eq rfl ?_
  rw [pw rfl,Bool.false_or]
  refine .cond (fun aF=> .ret ?_) fun a4=> .ret ⟨g5 (by omega),fun c ag=> ?_⟩
  ·simp only [Sum.elim_inr]
   exact .ret (UM ao (by simpa using aF)).symm
  ·by_cases ZV:c=i
   ·subst ZV; simpa using a4
   ·exact hs c (by omega)
 ·obtain⟨rfl,hs⟩:=hs
  rw [show decide (((aJ s.cA k).cj.length:Int) < ((aJ s.cA k).cj.length:Int))=false by simp]
  refine⟨_,rfl,?_⟩
  simp only [Sum.elim_inl]
  exact .ret (UL hs rfl).symm
def sI:List cJ→List c5→Int
 | key :: aK,m :: ms=>if key.du=2 then m.fk else sI aK ms
 | _,_=>0
theorem G9:∀ {aK:List cJ} {ms:List c5} {i:Nat},ms.length=aK.length→i < aK.length→ (aJ aK i).du=2→ (∀ j,j < i→ (aJ aK j).du≠2)→sI aK ms=(aJ ms i).fk
 | [],_,i,_,ao,_,_=>by simp at ao
 | key :: aK,[],i,an,_,_,_=>by simp at an
 | key :: aK,m :: ms,0,_,_,aa,_=>by
   have:(aJ (key :: aK) 0)=key:=rfl
   rw [this] at aa
   unfold sI; rw [if_pos aa]; rfl
 | key :: aK,m :: ms,i + 1,an,ao,aa,aF=>by
   have bA:=aF 0 (by omega)
   have:(aJ (key :: aK) 0)=key:=rfl
   rw [this] at bA
   unfold sI; rw [if_neg bA]
   have bg:∀ {β:Type} [Inhabited β] (x:β) (l:List β) (n:Nat),aJ (x :: l) (n + 1)=aJ l n:=fun x l n=>by simp [aJ]
   rw [bg] at aa ⊢
   exact G9 (by simpa using an) (by simpa using ao) aa fun j aB=>by have:=aF (j + 1) (by omega); rwa [bg] at this
theorem MR:∀ {aK:List cJ} {ms:List c5},(∀ key∈aK,key.du≠2)→sI aK ms=0
 | [],_,_=>by unfold sI; rfl
 | key :: aK,[],_=>by unfold sI; rfl
 | key :: aK,m :: ms,aF=>by
   unfold sI; rw [if_neg (aF key (by simp))]
   exact MR fun k ar=>aF k (by simp [ar])
def ux (s:a2) (k:Nat) (e:b1):Int:=sI (aJ s.cA k).cj e.cd
theorem KU {s:a2} (h:dH s) {k:Nat} (ar:k < 4) {e:b1} (he:jz s k e):m4 s e=some (ux s k e):=by
 obtain⟨t1,⟨t2,t3⟩,t4,_⟩:=h.lK ar
 have hm:=he.len
 refine br.get ?_
 unfold m4 ux
 refine .eq (Lg h ar he.lK) ?_
 simp only
 refine(QU (g:=fun key=>key.du ==2) (fun x ai=>rfl) (by omega)).bind fun r aD=> .eq rfl ?_
 rcases aD with⟨rfl,aD⟩ | ⟨i,J,rfl,av,aO⟩
 ·refine .cond (fun _=> .ret ?_) (fun h=>by simp at h)
  rw [MR fun key kz=>by simpa using aD key kz]
 ·have dc:(!true || decide ((i:Int) < 0) || decide ((i:Int)≥ (e.cd.length:Int)))=false:=by simp; omega
  rw [dc,cond_false]
  refine .idx rfl (by omega) (.ret ?_)
  rw [G9 hm J (by simpa using av) fun j aB=>by simpa using aO j aB]
def eZ (s:a2) (k:Nat) (a c:aA):Bool:=
 decide (c.bd.jv < a.bd.jv∨ (a.bd.jv=c.bd.jv∧ (ux s k c.bd < ux s k a.bd∨ (ux s k a.bd=ux s k c.bd∧c.bt < a.bt))))
theorem vn (s:a2) (k:Nat):q9 (eZ s k) where
 asymm x y h:=by
  unfold eZ at *
  rw [decide_eq_true_eq] at h
  rw [decide_eq_false_iff_not]; omega
 trans x y z h cS:=by
  unfold eZ at *
  rw [decide_eq_true_eq] at *
  omega
theorem UN {s:a2} {k:Nat} {a c:aA} (h:a.bt≠c.bt):qc (eZ s k) a c:=by
 unfold qc eZ
 rw [decide_eq_true_eq,decide_eq_true_eq]; omega
def uy (x y:Int):Int:=if x < y then -1 else if y < x then 1 else 0
theorem xC (x y:Int):uR x y=some (uy x y):=by
 unfold uR yV uy
 have:∀ z:Int,(z !=z)=false:=fun z=>by simp
 rw [this,this]
 simp only [Option.bind_some,cond_false]
 by_cases J:x < y
 ·simp [J]
 ·by_cases aa:y < x
  ·simp [J,aa]
  ·simp [J,aa]
theorem LI (a c d:Int):y3 [a,c,d]=some (if a≠0 then a else if c≠0 then c else d):=by
 refine br.get ?_
 unfold y3
 refine br.loop 3 (fun i st=>st=(i:Int)∧ ∀ j,j < i→aJ [a,c,d] j=0) (by omega) ⟨rfl,fun j aB=>by omega⟩ (fun i st ao hs=> ?_) (fun st hs=> ?_)
 ·obtain⟨rfl,hs⟩:=hs
  refine .cond (fun _=> ?_) (fun h=>by simp at h; omega)
  refine .idx rfl (by simpa using ao) (.cond (fun ag=> .ret ?_) fun ag=> .ret ⟨g5 (by omega),fun j aB=> ?_⟩)
  ·simp only [Sum.elim_inr]
   refine .ret ?_
   have bA:=hs 0
   have J:=hs 1
   rcases (show i=0∨i=1∨i=2 by omega) with rfl | rfl | rfl
   ·have:a≠0:=by simpa [aJ] using ag
    rw [if_pos this]; rfl
   ·have:c≠0:=by simpa [aJ] using ag
    have I2:a=0:=by simpa [aJ] using bA (by omega)
    rw [if_neg (by simpa using I2),if_pos this]; rfl
   ·have I2:a=0:=by simpa [aJ] using bA (by omega)
    have ZW:c=0:=by simpa [aJ] using J (by omega)
    rw [if_neg (by simpa using I2),if_neg (by simpa using ZW)]; rfl
  ·by_cases eX:j=i
   ·subst eX; simpa using ag
   ·exact hs j (by omega)
 ·obtain⟨rfl,hs⟩:=hs
  refine⟨_,rfl,?_⟩
  simp only [Sum.elim_inl]
  refine .ret ?_
  have bA:a=0:=by simpa [aJ] using hs 0 (by omega)
  have J:c=0:=by simpa [aJ] using hs 1 (by omega)
  have aa:d=0:=by simpa [aJ] using hs 2 (by omega)
  simp [bA,J,aa]
theorem Lh {s:a2} (h:dH s) {k:Nat} (ar:k < 4) {a c:aA} (a9:jz s k a.bd) (ag:jz s k c.bd):tf s a c=some (eZ s k a c):=by
 unfold tf eZ
 rw [xC,Option.bind_some,KU h ar a9,Option.bind_some,KU h ar ag,Option.bind_some,xC,Option.bind_some,xC,Option.bind_some,LI,Option.bind_some]
 congr 1
 rw [decide_eq_decide]
 unfold uy
 split <;> split <;> (repeat' split) <;> omega
theorem Qa {xs:List aA} {f:aA→Option Bool} {g:aA→Bool} (aV:∀ x∈xs,f x=some (g x)) (an:xs.length < 2 ^ 62):
 br (uz xs f) (fun r=>(r= -1∧ ∀ x∈xs,g x=false)∨ ∃ i:Nat,i < xs.length∧r=i∧g (aJ xs i)=true∧ ∀ j,j < i→g (aJ xs j)=false):=by
 unfold uz
 refine br.loop xs.length (fun k s=>s=(k:Int)∧ ∀ j,j < k→g (aJ xs j)=false) (by omega) ⟨rfl,fun j aB=>by omega⟩ (fun k s ar ao=> ?_) (fun s ao=> ?_)
 ·obtain⟨az,aX⟩:=ao; subst az
  refine br.cond (fun _=> ?_) (fun h=>by simp at h; omega)
  refine .idx rfl ar (.eq (aV _ (by rw [gh xs ar]; exact List.getElem_mem ar)) (.cond (fun h=> .ret ?_) (fun h=> .ret ⟨g5 (by omega),fun j aB=> ?_⟩)))
  ·exact .ret (.inr ⟨k,ar,rfl,h,aX⟩)
  ·by_cases sH:j=k
   ·subst sH; exact h
   ·exact aX j (by omega)
 ·obtain⟨az,aX⟩:=ao; subst az
  refine⟨_,by simp; rfl,?_⟩
  refine .ret (.inl ⟨rfl,fun x ai=> ?_⟩)
  obtain⟨j,aB,rfl⟩:=List.mem_iff_getElem.1 ai
  rw [← gh xs aB]; exact aX j aB
structure mj (s:a2) (k:Nat) (i:aA):Prop where
 dA:jz s k i.bd
theorem Mf {i:aA} (J:i.bd.cd.length≤1000) (aa:i.bd.qI.length≤1000):lO i=some i:=by
 unfold lO Cx BX BY
 rw [ko _ _ (by simp; omega) (by omega),ko _ _ (by simp; omega) (by omega)]
 rfl
theorem zR {s:a2} (h:dH s) {k:Nat} (ar:k < 4) {i:aA} (ao:mj s k i):lO i=some i:=by
 have J:=ao.dA.len
 have aa:=ao.dA.args
 have av:=(h.lK ar).2.1.2
 exact Mf (by omega) (by omega)
def fM (l:List aA) (n:Int):Bool:=l.any fun c=>c.bt ==n
theorem HG (x:ca) (n:Int) (an:x.bP.length≤1000):br ((uz x.bP (fun hy=>uC hy n)).bind fun aG=>some aG) (fun r=>(r= -1∧fM x.bP n=false)∨ ∃ i:Nat,i < x.bP.length∧r=i∧ (aJ x.bP i).bt=n∧fM x.bP n=true∧ ∀ j,j < i→ (aJ x.bP j).bt≠n):=by
 refine(Qa (g:=fun c=>c.bt ==n) (fun c ag=>rfl) (by omega)).bind fun r aD=> .ret ?_
 rcases aD with⟨J,aa⟩ | ⟨i,J,aa,av,aO⟩
 ·exact .inl ⟨J,by unfold fM; rw [List.any_eq_false]; exact fun c ag=>by simp [aa c ag]⟩
 ·refine .inr ⟨i,J,aa,by simpa using av,?_,fun j aB=>by simpa using aO j aB⟩
  unfold fM; rw [List.any_eq_true]
  exact⟨aJ x.bP i,by rw [gh _ J]; exact List.getElem_mem _,av⟩
theorem S5 {s:a2} (h:dH s) {k:Nat} (ar:k < 4) {x:ca} (ai:x.mA=s) {a c:aA} (a9:mj s k a) (ag:mj s k c):
 br (s4 x a c) (fun r=>r < 0↔eZ s k a c=true):=by
 unfold s4
 rw [ai]
 refine .eq (Lh h ar a9.dA ag.dA) (.cond (fun hb=> .ret ⟨fun _=>hb,fun _=>by omega⟩) fun hb=> .eq (Lh h ar ag.dA a9.dA) (.cond (fun _=> .ret ?_) fun _=> .ret ?_))
 ·rw [hb]; simp
 ·rw [hb]; simp
theorem UO {i j:Nat} (h:i + j < 2 ^ 62):bE ((BitVec.ofInt 64 (bE ((i:Int) + (j:Int)))) >>> (1#64).toNat).toNat=(((i + j) / 2:Nat):Int):=by
 rw [show(i:Int) + (j:Int)=((i + j:Nat):Int) by omega,hr (x:=((i + j:Nat):Int)) (by omega) (by omega)]
 have:((BitVec.ofInt 64 ((i + j:Nat):Int)) >>> (1#64).toNat).toNat=(i + j) / 2:=by
  rw [BitVec.toNat_ushiftRight,Dc (by omega)]
  rw [show(1#64).toNat=1 from rfl,Nat.shiftRight_eq_div_pow,Nat.pow_one]
 rw [this,hr (by omega) (by omega)]
theorem Li {l:List aA} {x:aA} {b:aA→aA→Bool} (hb:q9 b) (hs:l.Pairwise (fun x y=>b x y=true)) (an:l.length≤1000)
 {f:aA→aA→Option Int} (aV:∀ a∈l,br (f a x) (fun r=>r < 0↔b a x=true)):
 br (yw l x f) (fun r=>r.1=(jU b l x:Int)):=by
 unfold yw
 have gK:=Dz (b:=b) (l:=l) (x:=x)
 have ub:∀ h,h < l.length→aJ l h∈l:=fun h bS=>by rw [gh _ bS]; exact List.getElem_mem _
 have nY:∀ q:Bool,br ((cb (decide (((jU b l x:Nat):Int) < (l.length:Int))) true (idx l.length ((jU b l x:Nat):Int))).bind fun c3=>
  (cb (decide (((jU b l x:Nat):Int) < (l.length:Int))) true (f (aJ l c3) x)).bind fun aQ=>some (((jU b l x:Nat):Int),(decide (((jU b l x:Nat):Int) < (l.length:Int))) && (aQ ==0))) (fun r=>r.1=(jU b l x:Int)):=fun _=>by
  refine .cb (P:=fun c=>c=jU b l x) (fun h=>⟨_,tx (by simpa using h),rfl⟩) fun c3 aa=> .cb (P:=fun _=>True) (fun h=> ?_) fun aQ _=> .ret rfl
  rw [aa h]
  exact(aV _ (ub _ (by simpa using h))).mono fun _ _=>trivial
 refine br.loop l.length (fun r st=> ∃ i j:Nat,st=((i:Int),(j:Int))∧i≤jU b l x∧jU b l x≤j∧j≤l.length∧j - i≤l.length - r) (by omega) ⟨0,l.length,rfl,by omega,by omega,by omega,by omega⟩ (fun r st aD kf=> ?_) (fun st kf=> ?_)
 ·obtain⟨i,j,rfl,J,aa,av,aO⟩:=kf
  refine .cond (fun ag=> ?_) fun ag=> .ret ?_
  ·have fo:i < j:=by simpa using ag
   rw [UO (by omega)]
   have hm:(i + j) / 2 < l.length:=by omega
   refine .idx rfl hm ((aV _ (ub _ hm)).bind fun aG bF=> ?_)
   have bY:=G8 hb (x:=x) hs hm
   refine .bind (P:=fun m=> ∃ i j:Nat,m=((i:Int),(j:Int))∧i≤jU b l x∧jU b l x≤j∧j≤l.length∧j - i≤l.length - (r + 1)) (.cond (fun a4=> .eq rfl (.ret ?_)) fun a4=> .ret ?_) fun m hm=> .ret ?_
   ·have:=bY.1 (bF.1 (by simpa using a4))
    refine⟨(i + j) / 2 + 1,j,?_,by omega,aa,av,by omega⟩
    simp only [g5 (show(i + j) / 2 < 2 ^ 62 by omega)]
   ·have: ¬ (i + j) / 2 < jU b l x:=fun bS=>by
     have:=bF.2 (bY.2 bS)
     simp at a4; omega
    exact⟨i,(i + j) / 2,rfl,J,by omega,by omega,by omega⟩
   ·obtain⟨JK,Pt,rfl,aS⟩:=hm
    exact⟨JK,Pt,rfl,aS⟩
  ·have fo: ¬ i < j:=by simpa using ag
   have:i=jU b l x:=by omega
   subst this
   exact nY true
 ·obtain⟨i,j,rfl,J,aa,av,aO⟩:=kf
  have fo:i=jU b l x:=by omega
  have ag:decide ((i:Int) < (j:Int))=false:=by simp; omega
  simp only [ag,cond_false]
  refine⟨_,rfl,?_⟩
  subst fo
  exact nY true
structure jV (s:a2) (k:Nat) (l:List aA):Prop where
 ok:∀ i∈l,mj s k i
 num:l.Pairwise fun a c=>a.bt≠c.bt
 len:l.length≤900
theorem jV.qd {s:a2} {k:Nat} {l:List aA} (h:jV s k l):ph (eZ s k) l:=h.num.imp fun bS=>UN bS
theorem jV.cO {s:a2} {k:Nat} {l:List aA} (h:jV s k l):(∀ i∈cO (eZ s k) l,mj s k i)∧ (cO (eZ s k) l).length≤900:=
 ⟨fun i ao=>h.ok i (na.1 ao),by rw [MQ]; exact h.len⟩
theorem Dg {s:a2} {k:Nat} {l:List aA} {n:Int} :fM (cO (eZ s k) l) n=fM l n:=by
 unfold fM
 rw [Bool.eq_iff_iff,List.any_eq_true,List.any_eq_true]
 exact⟨fun⟨c,J,aa⟩=>⟨c,na.1 J,aa⟩,fun⟨c,J,aa⟩=>⟨c,na.2 J,aa⟩⟩
theorem Dh {l:List aA} {n:Int} (h:fM l n=false):∀ c∈l,c.bt≠n:=fun c ag=>by
 unfold fM at h
 rw [List.any_eq_false] at h
 simpa using h c ag
theorem jV.snoc {s:a2} {k:Nat} {l:List aA} (h:jV s k l) {i:aA} (ao:mj s k i) (aF:fM l i.bt=false) (an:l.length < 900):jV s k (l ++ [i]) where
 ok c ag:=by
  rcases List.mem_append.1 ag with ag | ag
  ·exact h.ok c ag
  ·rw [List.mem_singleton.1 ag]; exact ao
 num:=by
  rw [List.pairwise_append]
  exact⟨h.num,by simp,fun a a9 c ag=>by rw [List.mem_singleton.1 ag]; exact Dh aF a a9⟩
 len:=by simp; omega
def nT (s:a2) (k:Nat) (l:List aA):ca:= { mA:=s,bP:=cO (eZ s k) l }
theorem UP {s:a2} (h:dH s) {k:Nat} (ar:k < 4) {l:List aA} (an:jV s k l) {i:aA} (ao:mj s k i) (hlen:l.length < 900):
 uH (nT s k l) i=some (!fM l i.bt,if fM l i.bt=true then nT s k l else nT s k (l ++ [i])):=by
 refine br.get ?_
 unfold uH
 obtain⟨e1,ea⟩:=an.cO
 refine .cb (fun _=>HG (nT s k l) _ (by show(cO _ l).length≤1000; omega)) fun aG J=> ?_
 have J:=J rfl
 rw [Bool.false_or]
 rcases J with⟨rfl,aa⟩ | ⟨j,aa,rfl,av,aO,aS⟩
 ·have ji:fM l i.bt=false:=by rw [← aa]; exact Dg.symm
  refine .cond (fun ag=>by simp at ag) fun _=> ?_
  refine(Li (b:=eZ s k) (vn s k) (CL (vn s k) an.qd) (by omega) fun a a9=>S5 h ar rfl (e1 a a9) ao).bind fun aQ cR=> .eq (zR h ar ao) ?_
  rw [cR]
  unfold yx
  have gK:=Dz (b:=eZ s k) (l:=cO (eZ s k) l) (x:=i)
  refine .eq (a:=cO (eZ s k) (l ++ [i])) ?_ (.ret ?_)
  ·show vU 88 (cO (eZ s k) l) _ _=_
   unfold vU
   have mc:maxLen=9223372036854775807:=rfl
   rw [if_pos ⟨by omega,by omega,by simp,by simp <;> omega,by simp <;> omega⟩,zA,G7]
   simp
  ·rw [ji]; rfl
 ·have oP:fM l i.bt=true:=by rw [← aO]; exact Dg.symm
  refine .cond (fun _=> .ret ?_) fun ag=>by simp at ag <;> omega
  rw [oP]; rfl
theorem Sx {s:a2} (h:dH s) {k:Nat} (ar:k < 4) {l:List aA} (an:jV s k l) (p:Vector aw 4):
 rj (nT s k l) p=some (match (cO (eZ s k) l).find? (fun c=>mt s k p c.bd) with | some c=>(c,true) | none=>(default,false)):=by
 refine br.get ?_
 obtain⟨e1,ea⟩:=an.cO
 unfold rj
 refine .eq (a:=p) rfl ?_
 unfold w3
 have Bi:∀ i (ao:i < (cO (eZ s k) l).length),pA s (aJ (cO (eZ s k) l) i).bd p=some (mt s k p (aJ (cO (eZ s k) l) i).bd)∧lO (aJ (cO (eZ s k) l) i)=some (aJ (cO (eZ s k) l) i):=fun i ao=>by
  have hm:=e1 (aJ (cO (eZ s k) l) i) (by rw [gh _ ao]; exact List.getElem_mem _)
  exact⟨RC h ar hm.dA p,zR h ar hm⟩
 show br ((Option.bind (Option.bind (gG fX _ _) _) _)) _
 rw [Option.bind_assoc]
 refine br.loop (cO (eZ s k) l).length (fun i st=>st=((i:Int),())∧ ∀ j,j < i→mt s k p (aJ (cO (eZ s k) l) j).bd=false) (by omega) ⟨rfl,fun j aB=>by omega⟩ (fun i st ao hs=> ?_) (fun st hs=> ?_)
 ·obtain⟨rfl,hs⟩:=hs
  obtain⟨ax,a5⟩:=Bi i ao
  refine .cond (fun _=> ?_) (fun ag=>by simp [nT] at ag; omega)
  refine .idx rfl ao (.eq ax (.cond (fun hm=> .eq (a:=(Sum.inr (true,aJ (cO (eZ s k) l) i):Unit ⊕ (Bool × aA))) (by show Option.bind (lO (aJ (cO (eZ s k) l) i)) _=_; rw [a5]; rfl) (.ret ?_)) fun hm=> .ret ⟨?_,fun j aB=> ?_⟩))
  ·refine .ret ?_
   rw [Dd (xs:=cO (eZ s k) l) (p:=fun c=>mt s k p c.bd) ao hm hs]
  ·rw [g5 (by omega)]
  ·by_cases eX:j=i
   ·subst eX; exact hm
   ·exact hs j (by omega)
 ·obtain⟨rfl,hs⟩:=hs
  have ag:decide (((cO (eZ s k) l).length:Int) < ((nT s k l).bP.length:Int))=false:=by simp [nT]
  simp only [ag,cond_false]
  refine⟨_,rfl,.ret ?_⟩
  rw [De fun c ag=> ?_]
  obtain⟨j,aB,rfl⟩:=List.mem_iff_getElem.1 ag
  rw [← gh _ aB]; exact hs j aB
theorem RW {s:a2} (h:dH s) {k:Nat} (ar:k < 4) {l:List aA} (an:∀ i∈l,mj s k i) (aF:l.length≤1000):rB l=some l:=by
 refine br.get ?_
 unfold rB
 refine br.loop l.length (fun i st=>st=((i:Int),l.take i)) (by omega) rfl (fun i st ao hs=> ?_) (fun st hs=> ?_)
 ·subst hs
  refine .cond (fun _=> ?_) (fun ag=>by simp at ag; omega)
  refine .idx rfl ao (.eq (zR h ar (an _ (by rw [gh _ ao]; exact List.getElem_mem _))) (.eq (ko _ _ (by simp; omega) (by omega)) (.ret ?_)))
  rw [g5 (by omega),Km l ao]
 ·subst hs
  refine⟨_,by simp; rfl,.ret ?_⟩
  simp
theorem UQ {s:a2} (h:dH s) {k:Nat} (ar:k < 4) {l:List aA} (an:jV s k l):uG (nT s k l)=some (cO (eZ s k) l):=by
 unfold uG
 obtain⟨e1,ea⟩:=an.cO
 show Option.bind (rB (cO (eZ s k) l)) _=_
 rw [RW h ar e1 (by omega)]; rfl
theorem mj.small {s:a2} (h:dH s) {k:Nat} (ar:k < 4) {i:aA} (ao:mj s k i):i.bd.cd.length≤1000∧i.bd.qI.length≤1000:=by
 have J:=ao.dA.len
 have aa:=ao.dA.args
 have av:=(h.lK ar).2.1.2
 exact⟨by omega,by omega⟩
def ml (o:Option aA):aA × Bool:=match o with | some c=>(c,true) | none=>(default,false)
theorem RX {s:a2} (h:dH s) {k:Nat} (ar:k < 4) {l:List aA} (an:jV s k l) (p:Vector aw 4):
 rj (nT s k l) p=some (ml ((cO (eZ s k) l).find? (fun c=>mt s k p c.bd))):=by
 rw [Sx h ar an]; unfold ml; cases List.find? (fun c=>mt s k p c.bd) (cO (eZ s k) l) <;> rfl
structure iF (hp:aH Cell) (t:Nat) (g:List Bool→Option Int):Prop where
 ok:∃ c,ey hp t=some c∧c.eu=32∧k9 hp c.bK∧ ∀ aE,cont hp c.bK aE=g aE
def Own (hp:aH Cell) (t q:Nat):Prop:=q=t∨ ∃ c aE,ey hp t=some c∧b3 hp c.bK aE=some q
def dd (v:aw) (n:Nat):List Bool:=(List.range n).map fun i=>b4 v (31 - i)
theorem zi (v:aw) (n:Nat):dd v (n + 1)=dd v n ++ [b4 v (31 - n)]:=by simp [dd,List.range_succ]
theorem zj (v:aw):dd v 0= []:=rfl
theorem Lj {hp:aH Cell} {t:Nat} {c:eJ} (ag:ey hp t=some c) (hb:c.eu=32) {n:Nat} (aF:n≤32) {v:aw} (a3:∀ j,j < 128→b4 v j=true→lead 32 n j=true):
 s9 hp (some t) v n=some true:=by
 refine br.get ?_
 unfold s9
 have az:(Option.isSome (some t) && decide ((n:Int)≥0))=true:=by simp
 have aX:decide ((n:Int)≤c.eu)=true:=by rw [hb]; simp; omega
 refine .cb (P:=fun r=>r=t) (fun _=>⟨t,rfl,rfl⟩) fun bT J=> ?_
 rw [J az]
 refine .cb (P:=fun r=>r=c) (fun _=>⟨c,ag,rfl⟩) fun bw aa=> ?_
 rw [aa az]
 rw [az,aX]
 refine .cb (P:=fun r=>r=t) (fun _=>⟨t,rfl,rfl⟩) fun bU av=> ?_
 rw [av rfl]
 refine .cb (P:=fun r=>r=c) (fun _=>⟨c,ag,rfl⟩) fun b5 aO=> ?_
 rw [aO rfl,hb]
 refine .cb (fun _=>FP 32 n (by decide) (by decide)) fun aG aS=> ?_
 refine .cb (P:=fun r=>r=se v aG) (fun _=>⟨_,and_eq v aG,rfl⟩) fun aQ aY=> ?_
 refine .eq rfl (.ret ?_)
 have:aQ=v:=by
  rw [aY rfl]
  refine Dy fun j aB=> ?_
  rw [vh,aS rfl j aB]
  cases e:b4 v j with
  | false=>rfl
  | true=>rw [a3 j aB e]; rfl
 rw [this]; simp
theorem MS {v:aw} {i:Nat} (ao:i < 32):br (tj v (bE ((bE ((32:Int) - 1)) - (i:Int)))) (fun r=>r=b4 v (31 - i)):=by
 have e:bE ((bE ((32:Int) - 1)) - (i:Int))=((31 - i:Nat):Int):=by
  rw [show bE ((32:Int) - 1)=31 from by rw [hr (by decide) (by decide)]; rfl,hr (by omega) (by omega)]; omega
 rw [e]
 refine(MO v _).mono fun r aD=> ?_
 rw [aD]
 have:decide (0≤ ((31 - i:Nat):Int)∧ ((31 - i:Nat):Int) < 128)=true:=by rw [decide_eq_true_eq]; omega
 rw [this,Bool.true_and]; rfl
theorem DA (b:Bool):(cond b (some (1:Int)) (some 0))=some ((dW b:Nat):Int):=by cases b <;> rfl
theorem HH {σ ε:Type} {hp:aH Cell} {t:Nat} {c:eJ} (ag:ey hp t=some c) (hb:c.eu=32) (v:aw) {n:Nat} (aF:n≤32) {step:Int→σ→Option (σ ⊕ ε)} {bX:σ} {P:σ ⊕ ε→Prop} (eF:Nat→σ→Prop) (bA:eF 0 bX)
 (hs:∀ i s,i < n→eF i s→br (step ((dW (b4 v (31 - i)):Nat):Int) s) (fun r=>match r with | .inl bR=>eF (i + 1) bR | .inr e=>P (.inr e))) (he:∀ s,eF n s→P (.inl s)):br (mw hp n v (some t) step bX) P:=by
 unfold mw
 refine br.loop n (fun i s=>s.1=(i:Int)∧eF i s.2) (by omega) ⟨rfl,bA⟩ (fun i s ao ej=> ?_) (fun s ej=> ?_)
 ·obtain⟨j,s⟩:=s; obtain⟨az,aX⟩:=ej
  simp only at az aX; subst az
  refine br.cond (fun _=> ?_) (fun h=>by simp at h; omega)
  refine .eq rfl (.eq ag ?_)
  rw [hb]
  refine(MS (by omega)).bind fun aG J=> .eq (DA aG) ?_
  rw [J]
  refine(hs i s ao aX).bind fun r aD=> ?_
  cases r with
  | inl bR=>exact .ret ⟨g5 (by omega),aD⟩
  | inr e=>exact .ret (.ret aD)
 ·obtain⟨j,s⟩:=s; obtain⟨az,aX⟩:=ej
  simp only at az aX; subst az
  refine⟨_,by simp; rfl,?_⟩
  exact .ret (he s aX)
theorem WW {σ ε:Type} {t:Nat} (v:aw) {n:Nat} (aF:n≤32) {hq:σ→aH Cell} {step:Int→σ→au (σ ⊕ ε)} {bX:σ} {P:σ ⊕ ε→Prop} (eF:Nat→σ→Prop) (bA:eF 0 bX) (kk:∀ i s,eF i s→ ∃ c,ey (hq s) t=some c∧c.eu=32)
 (hs:∀ i s,i < n→eF i s→cT (step ((dW (b4 v (31 - i)):Nat):Int) s) (fun r=>match r with | .inl bR=>eF (i + 1) bR | .inr e=>P (.inr e))) (he:∀ s,eF n s→P (.inl s)):cT (qs n v (some t) hq step bX) P:=by
 unfold qs
 refine .bind (P:=fun e=>match e with | .inl e=>P (.inl e.2.2) | .inr e=>P (.inr e.2.2.2.2.2.2)) (cT.loop n (fun i s=>s.1=(i:Int)∧eF i s.2) (by omega) ⟨rfl,bA⟩ (fun i s ao ej=> ?_) (fun s ej=> ?_)) fun e h=> ?_
 ·obtain⟨j,s⟩:=s; obtain⟨az,aX⟩:=ej
  simp only at az aX; subst az
  refine cT.cond (fun _=> ?_) (fun h=>by simp at h; omega)
  obtain⟨c,ag,hb⟩:=kk i s aX
  refine .eq rfl (.eq ag ?_)
  rw [hb]
  refine .ps (MS (by omega)) fun aG J=> .eq (DA aG) ?_
  rw [J]
  refine .bind (hs i s ao aX) fun r aD=> ?_
  cases r with
  | inl bR=>exact .ret ⟨g5 (by omega),aD⟩
  | inr e=>exact .ret aD
 ·obtain⟨j,s⟩:=s; obtain⟨az,aX⟩:=ej
  simp only at az aX; subst az
  refine cT.cond (fun h=>by simp at h) fun _=> .ret (he s aX)
 ·cases e with
  | inl e=>exact .ret h
  | inr e=>exact .ret h
theorem LJ {hp:aH Cell} {t:Nat} {c:eJ} (ag:ey hp t=some c) (hb:c.eu=32) (bl:k9 hp c.bK) {n:Nat} (aF:n≤32) {v:aw} (a3:∀ j,j < 128→b4 v j=true→lead 32 n j=true):
 tc hp (some t) v n=some (b3 hp c.bK (dd v n)):=by
 refine br.get ?_
 unfold tc
 refine .eq (Lj ag hb aF a3) (.cond (fun h=>by cases h) fun _=> .eq rfl (.eq ag (.eq rfl ?_)))
 show br (Option.bind (mw hp (n:Int) v (some t) _ _) _) _
 refine br.bind (P:=fun e:Ref ⊕ (Ref × Ref)=>e.elim (fun s=>s=b3 hp c.bK (dd v n)) (fun q=>q.2=b3 hp c.bK (dd v n))) (HH ag hb v aF (fun i s=>s=b3 hp c.bK (dd v i)) im.symm (fun i s ao hs=> ?_) (fun s hs=>hs)) fun e he=> ?_
 ·refine .cond (fun h=> .ret ?_) fun h=> ?_
  ·rw [Option.isNone_iff_eq_none] at h
   have az:dd v n=dd v i ++ (dd v n).drop i:=by
    have:dd v i=(dd v n).take i:=by unfold dd; rw [← List.map_take,List.take_range]; congr 2; omega
    rw [this,List.take_append_drop]
   show(none:Ref)=_
   rw [az,iN,← hs,h,eN]
  ·cases s with
   | none=>simp at h
   | some p=>
     obtain⟨bw,J⟩:=bl.reads _ _ hs.symm
     refine .eq rfl (.idx rfl (by cases b4 v (31 - i) <;> decide) (.eq J (.ret ?_)))
     show bB bw.ct _=_
     rw [zi,iN,← hs,gd J,im]
 ·cases e with
  | inl s=>exact .ret he
  | inr q=>exact .ret he
theorem MT {hp:aH Cell} {t:Nat} {g:List Bool→Option Int} (h:iF hp t g) {n:Nat} (aF:n≤32) {v:aw} (a3:∀ j,j < 128→b4 v j=true→lead 32 n j=true):
 qw hp (some t) v n=some (match g (dd v n) with | none=>(0,false) | some id=>(id,true)):=by
 obtain⟨c,ag,hb,bl,bg⟩:=h.ok
 refine br.get ?_
 unfold qw
 refine .eq (LJ ag hb bl aF a3) ?_
 rw [← bg]
 cases e:b3 hp c.bK (dd v n) with
 | none=>
   rw [hc e]
   refine .cb (P:=fun _=>True) (fun h=>by cases h) fun o _=> .cb (P:=fun _=>True) (fun h=>by cases h) fun o _=> .cond (fun _=> .ret rfl) fun h=>by cases h
 | some p=>
   obtain⟨d,hd⟩:=bl.reads _ _ e
   rw [h4 e hd]
   refine .cb (P:=fun r=>r=p) (fun _=>⟨p,rfl,rfl⟩) fun o J=> ?_
   rw [J rfl]
   refine .cb (P:=fun r=>r=d) (fun _=>⟨d,hd,rfl⟩) fun bw aa=> ?_
   rw [aa rfl]
   refine .cond (fun h=> ?_) fun h=> ?_
   ·have:d.cW=false:=by simpa using h
    rw [this]; exact .ret rfl
   ·have:d.cW=true:=by simpa using h
    rw [this]; exact .eq rfl (.eq hd (.ret rfl))
structure Ec (ga hp:aH Cell) (t:Nat) (g:List Bool→Option Int) (r:Nat):Prop where
 cell:∃ c,ey hp t=some c∧c.eu=32∧c.bK=some r
 tree:k9 hp (some r)
 cont:∀ aE,cont hp (some r) aE=g aE
 keeps:cw ga hp (Own ga t)
 own:∀ aE q,b3 hp (some r) aE=some q→Own ga t q∨q ∉ cX ga
theorem qA {hp:aH Cell} {a t:Nat} {k:Cell} (a9:a ∉ cX hp) (h:pat hp t=some k):a≠t:=fun e=>a9 (e ▸ gS h)
theorem CR {hp:aH Cell} {a:Nat} {x:dn} :cg ((a,.ev x) :: hp) a=some x:=by rw [kn,o1,if_pos rfl]
theorem KV {hp:aH Cell} {a:Nat} (a9:a ∉ cX hp):cg hp a=none:=by unfold cg; rw [S3 a9]
theorem o2 {hp:aH Cell} {p:Nat} {k:Cell} {x:dn} (h:pat hp p=some k):cg (ch hp p (.ev x)) p=some x:=by rw [kn,tF h]
theorem mx {hp:aH Cell} {p q:Nat} {k:Cell} (h:p≠q):cg (ch hp p k) q=cg hp q:=pB (jK h)
theorem Cy {hp:aH Cell} {a q:Nat} {k:Cell} (h:a≠q):cg ((a,k) :: hp) q=cg hp q:=pB (by rw [o1,if_neg h])
theorem CS {hp:aH Cell} {p:Nat} {k:Cell} {x:eJ} (h:pat hp p=some k):ey (ch hp p (.gL x)) p=some x:=by rw [my,tF h]
theorem tl {hp:aH Cell} {p q:Nat} {k:Cell} (h:p≠q):ey (ch hp p k) q=ey hp q:=zb (jK h)
theorem Cz {hp:aH Cell} {a q:Nat} {k:Cell} (h:a≠q):ey ((a,k) :: hp) q=ey hp q:=zb (by rw [o1,if_neg h])
theorem tS {hp:aH Cell} {p t:Nat} {x:dn} {c:eJ} (J:cg hp p=some x) (aa:ey hp t=some c):p≠t:=fun e=>by
 subst e
 rw [kn] at J; rw [my,J] at aa; cases aa
theorem UR {hp:aH Cell} {t:Nat} {g:List Bool→Option Int} {c:eJ} (ag:ey hp t=some c) (hb:c.eu=32) (bl:k9 hp c.bK) (bg:∀ aE,cont hp c.bK aE=g aE):
 cT (cond c.bK.isNone (
     au.bind (au.mk hp (Cell.ev (default:dn))) fun cF=>
     au.bind (au.of (ey cF.2 t)) fun wV=>
     au.bind (au.of (some (ch cF.2 t (Cell.gL ({ wV with bK:=(some cF.1:Ref) } :eJ))))) fun q3=>
     au.ret q3) (au.ret hp)) (fun b9=> ∃ r,Ec hp b9 t g r):=by
 have dZ:=my.1 ag
 refine .cond (fun h=> .mk fun a a9=> ?_) fun h=> ?_
 ·have aD:c.bK=none:=by rw [Option.isNone_iff_eq_none] at h; exact h
  have Bt:=qA a9 dZ
  have wj:ey ((a,Cell.ev default) :: hp) t=some c:=by rw [Cz Bt]; exact ag
  refine .eq wj (.eq rfl (.ret ⟨a,?_⟩))
  have aF:cg (ch ((a,Cell.ev default) :: hp) t (.gL { c with bK:=some a })) a=some default:=by
   rw [mx Bt.symm,CR]
  have aV:=FY aF
  refine⟨⟨_,CS (my.1 wj),hb,rfl⟩,⟨fun aE p J=> ?_,fun aE cs p J aa=> ?_,fun aE p J=> ?_⟩,fun aE=> ?_,?_,fun aE q J=> ?_⟩
  ·rw [aV] at J
   split at J
   ·cases J; exact⟨_,aF⟩
   ·cases J
  ·rw [aV] at J aa
   split at J <;> split at aa
   ·rename_i az aX; rw [az,aX]
   ·cases aa
   ·cases J
   ·cases J
  ·rw [aV] at J
   split at J
   ·rename_i e; rw [e]; exact Nat.zero_le _
   ·cases J
  ·rw [← bg,aD,hc eN]
   by_cases e:aE= []
   ·rw [h4 (by rw [aV,if_pos e]) aF]; rfl
   ·rw [hc (by rw [aV,if_neg e])]
  ·exact(cw.mk' a9).trans (own':=fun q=>q=t) (cw.up (own:=fun q=>q=t) rfl) fun q _ J=> .inl J
  ·rw [aV] at J
   split at J
   ·cases J; exact .inr a9
   ·cases J
 ·cases aD:c.bK with
  | none=>rw [aD] at h; cases h
  | some r=>
    rw [aD] at bl bg
    exact .ret ⟨r,⟨c,ag,hb,aD⟩,bl,bg,.refl,fun aE q J=> .inl (.inr ⟨c,aE,ag,by rw [aD]; exact J⟩)⟩
theorem WX {hp:aH Cell} {t:Nat} {g:List Bool→Option Int} (h:iF hp t g) {n:Nat} (aF:n≤32) {v:aw} (a3:∀ j,j < 128→b4 v j=true→lead 32 n j=true) (id:Int) (dN:g (dd v n)=none):
 cT (rA hp (some t) v n id) (fun r=>r.1=true∧iF r.2 t (fun aE=>if aE=dd v n then some id else g aE)∧cw hp r.2 (Own hp t)∧ ∀ q,Own r.2 t q→Own hp t q∨q ∉ cX hp):=by
 obtain⟨c,ag,hb,bl,bg⟩:=h.ok
 unfold rA
 refine .eq (Lj ag hb aF a3) (.cond (fun h=>by cases h) fun _=> .eq (LJ ag hb bl aF a3) ?_)
 refine .cb (P:=fun o=>b3 hp c.bK (dd v n)=some o) (fun J=> ?_) fun bT J=> ?_
 ·cases e:b3 hp c.bK (dd v n) with
  | none=>rw [e] at J; cases J
  | some p=>exact⟨p,rfl,rfl⟩
 refine .cb (P:=fun d=>cg hp bT=some d) (fun aa=> ?_) fun bw aa=> ?_
 ·obtain⟨d,hd⟩:=bl.reads _ _ (J aa)
  exact⟨d,hd,hd⟩
 refine .cond (fun av=> ?_) fun _=> ?_
 ·simp only [Bool.and_eq_true] at av
  rw [← bg,h4 (J av.1) (aa av.1),av.2] at dN
  cases dN
 refine .eq rfl (.eq ag (.bind (UR ag hb bl bg) fun bq cn=> ?_))
 obtain⟨r,cn⟩:=cn
 obtain⟨eo,jT,ZX,I3⟩:=cn.cell
 refine .eq jT (.eq rfl ?_)
 show cT (au.bind (qs (n:Int) v (some t) _ _ _) _) _
 refine .bind (P:=fun e:(Ref × aH Cell) ⊕ Empty=> ∃ p bI,e= .inl (some p,bI)∧b3 bI (some r) (dd v n)=some p∧Ec hp bI t g r) (WW v aF (fun i s=> ∃ p,s.1=some p∧b3 s.2 (some r) (dd v i)=some p∧Ec hp s.2 t g r) ⟨r,I3,im,cn⟩ (fun i s ao=> ?_) (fun i s ao hs=> ?_) (fun s hs=> ?_)) fun e he=> ?_
 ·obtain⟨p,_,_,hm⟩:=ao
  obtain⟨d,aO,aS,_⟩:=hm.cell
  exact⟨d,aO,aS⟩
 ·obtain⟨I4,bI⟩:=s
  obtain⟨p,az,aX,hm⟩:=hs
  simp only at az aX hm
  subst az
  obtain⟨d,hd⟩:=hm.tree.reads _ _ aX
  have bY:dW (b4 v (31 - i)) < 2:=by cases b4 v (31 - i) <;> decide
  refine .eq rfl (.idx rfl bY (.eq hd ?_))
  refine .bind (P:=fun fH=> ∃ q w0,cg fH p=some w0∧bB w0.ct (dW (b4 v (31 - i)))=some q∧b3 fH (some r) (dd v i)=some p∧Ec hp fH t g r) (.cond (fun aY=> .mk fun a a9=> ?_) fun aY=> .ret ?_) fun fH b7=> ?_
  ·have kh:bB d.ct (dW (b4 v (31 - i)))=none:=by rw [Option.isNone_iff_eq_none] at aY; exact aY
   have Bu:=qA a9 (kn.1 hd)
   have hi:cg ((a,Cell.ev default) :: bI) p=some d:=by rw [Cy Bu]; exact hd
   refine .idx rfl bY (.eq hi (.eq rfl (.ret ?_)))
   have gK:cg (ch ((a,Cell.ev default) :: bI) p (.ev { d with ct:=fW d.ct (dW (b4 v (31 - i))) (some a) })) a=some default:=by
    rw [mx Bu.symm,CR]
   have ck:cg (ch ((a,Cell.ev default) :: bI) p (.ev { d with ct:=fW d.ct (dW (b4 v (31 - i))) (some a) })) p=some { d with ct:=fW d.ct (dW (b4 v (31 - i))) (some a) } :=o2 (kn.1 hi)
   obtain⟨ax,a5,bH⟩:=grow (by unfold dd; simp; omega) hm.tree aX hd kh (KV a9) ck gK fun q fp iy=>by rw [mx fp.symm,Cy iy.symm]
   have pT:Own hp t p∨p ∉ cX hp:=hm.own _ _ aX
   refine⟨a,_,ck,by rw [og _ _ bY,if_pos rfl],by rw [a5,if_neg (fun e=>by have:=congrArg List.length e; simp at this)]; exact aX,?_,ax,fun aE=>by rw [bH,hm.cont],?_,fun aE q hq=> ?_⟩
   ·obtain⟨d4,aO,aS,dV⟩:=hm.cell
    have dZ:=tS hd aO
    exact⟨d4,by rw [tl dZ,Cz (qA a9 (my.1 aO))]; exact aO,aS,dV⟩
   ·refine hm.keeps.trans (own':=fun q=>q=p) ((cw.mk' a9).trans (own':=fun q=>q=p) (cw.up (own:=fun q=>q=p) rfl) fun q _ eQ=>eQ) fun q hq eQ=> ?_
    subst eQ
    exact pT.resolve_right fun iz=>iz hq
   ·rw [a5] at hq
    split at hq
    ·cases hq; exact .inr fun eQ=>a9 (hm.keeps.keys _ eQ)
    ·exact hm.own _ _ hq
  ·cases kh:bB d.ct (dW (b4 v (31 - i))) with
   | none=>rw [kh] at aY; cases aY
   | some q=>exact⟨q,d,hd,kh,aX,hm⟩
  ·obtain⟨q,w0,dV,eQ,iz,pt⟩:=b7
   refine .idx rfl bY (.eq dV (.ret ⟨q,eQ,?_,pt⟩))
   show b3 fH (some r) (dd v (i + 1))=some q
   rw [zi,iN,iz,gd dV,eQ,im]
 ·obtain⟨I4,bI⟩:=s
  obtain⟨p,az,aX,hm⟩:=hs
  simp only at az aX hm
  subst az
  exact⟨p,bI,rfl,aX,hm⟩
 ·obtain⟨p,bI,rfl,aX,hm⟩:=he
  obtain⟨d,hd⟩:=hm.tree.reads _ _ aX
  have wK:=kn.1 hd
  refine .eq rfl (.eq hd (.eq rfl (.eq rfl ?_)))
  have hi:cg (ch bI p (.ev { d with cW:=true })) p=some { d with cW:=true } :=o2 wK
  refine .eq hi (.eq rfl (.ret ?_))
  have qe:cg (ch (ch bI p (.ev { d with cW:=true })) p (.ev { d with cW:=true,gi:=id })) p=some { d with cW:=true,gi:=id } :=o2 (kn.1 hi)
  obtain⟨s1,s2⟩:=Eb hm.tree aX hd qe rfl fun q hq=>by rw [mx hq.symm,mx hq.symm]
  obtain⟨d4,aO,aS,dV⟩:=hm.cell
  have dZ:=tS hd aO
  have oP:ey (ch (ch bI p (.ev { d with cW:=true })) p (.ev { d with cW:=true,gi:=id })) t=some d4:=by rw [tl dZ,tl dZ]; exact aO
  have pT:Own hp t p∨p ∉ cX hp:=hm.own _ _ aX
  refine⟨rfl,⟨d4,oP,aS,by rw [dV]; exact s1,fun aE=> ?_⟩,?_,fun q hq=> ?_⟩
  ·rw [dV,s2,hm.cont]; rfl
  ·refine hm.keeps.trans (own':=fun q=>q=p) ((cw.up (own:=fun q=>q=p) rfl).trans (own':=fun q=>q=p) (cw.up (own:=fun q=>q=p) rfl) fun q _ eQ=>eQ) fun q hq eQ=> ?_
   subst eQ
   exact pT.resolve_right fun iz=>iz hq
  ·rcases hq with rfl | ⟨hM,aE,J,aa⟩
   ·exact .inl (.inl rfl)
   ·rw [oP] at J; cases J
    rw [dV,va hd qe rfl (fun q hq=>by rw [mx hq.symm,mx hq.symm])] at aa
    exact hm.own _ _ aa
theorem le_toNat {x:BitVec 64} {k:Nat} (ar:k < 2 ^ 64):decide (x≥BitVec.ofNat 64 k)=decide (k≤x.toNat):=by
 rw [decide_eq_decide,ge_iff_le,BitVec.le_def,BitVec.toNat_ofNat,Nat.mod_eq_of_lt ar]
theorem Sy (x:BitVec 64) (h:x.toNat < 2 ^ 32):br (xb x) (fun r=>r≤32):=by
 unfold xb
 refine .bind (P:=fun m=>m=(x,0)) (.cond (fun ag=> ?_) fun _=> .ret rfl) fun bq J=> ?_
 ·rw [le_toNat (by decide)] at ag; simp at ag; omega
 subst J
 refine .bind (P:=fun m=>m.1.toNat < 65536∧0≤m.2∧m.2≤16) (.cond (fun ag=> .ret ⟨?_,?_⟩) fun ag=> .ret ⟨?_,Int.le_refl 0,by show(0:Int)≤16; decide⟩) fun cx aa=> ?_
 ·rw [BitVec.toNat_ushiftRight,show(16#64).toNat=16 from rfl,Nat.shiftRight_eq_div_pow]; simp only; omega
 ·rw [show bE ((0:Int) + 16)=16 from by rw [hr (by decide) (by decide)]; rfl]; exact⟨by show(0:Int)≤16; decide,Int.le_refl 16⟩
 ·rw [le_toNat (by decide)] at ag; simp at ag; exact ag
 refine .bind (P:=fun m=>m.1.toNat < 256∧0≤m.2∧m.2≤24) (.cond (fun ag=> .ret ⟨?_,?_⟩) fun ag=> .ret ⟨?_,aa.2.1,by have:=aa.2.2; simp only; omega⟩) fun eg av=> ?_
 ·rw [BitVec.toNat_ushiftRight,show(8#64).toNat=8 from rfl,Nat.shiftRight_eq_div_pow]; have:=aa.1; omega
 ·have:=aa.2; rw [hr (by omega) (by omega)]; constructor <;> omega
 ·rw [le_toNat (by decide)] at ag; simp at ag; exact ag
 obtain⟨av,aO,aS⟩:=av
 have key:∀ k:Fin 256,∃ y,Ax (ByteArray.mk (List.toArray (List.append (List.append [0,1,2,2,3,3,3,3,4,4,4,4,4,4,4,4,5,5,5,5,5,5,5,5,5,5,5,5,5,5,5,5,6,6,6,6,6,6,6,6,6,6,6,6,6,6,6,6,6,6,6,6,6,6,6,6,6,6,6,6,6,6,6,6] [7,7,7,7,7,7,7,7,7,7,7,7,7,7,7,7,7,7,7,7,7,7,7,7,7,7,7,7,7,7,7,7,7,7,7,7,7,7,7,7,7,7,7,7,7,7,7,7,7,7,7,7,7,7,7,7,7,7,7,7,7,7,7,7]) (List.append [8,8,8,8,8,8,8,8,8,8,8,8,8,8,8,8,8,8,8,8,8,8,8,8,8,8,8,8,8,8,8,8,8,8,8,8,8,8,8,8,8,8,8,8,8,8,8,8,8,8,8,8,8,8,8,8,8,8,8,8,8,8,8,8] [8,8,8,8,8,8,8,8,8,8,8,8,8,8,8,8,8,8,8,8,8,8,8,8,8,8,8,8,8,8,8,8,8,8,8,8,8,8,8,8,8,8,8,8,8,8,8,8,8,8,8,8,8,8,8,8,8,8,8,8,8,8,8,8])))) ((k.1:Nat):Int)=some y∧y.toNat≤8:=by
  intro k
  have J:(match Ax (ByteArray.mk (List.toArray (List.append (List.append [0,1,2,2,3,3,3,3,4,4,4,4,4,4,4,4,5,5,5,5,5,5,5,5,5,5,5,5,5,5,5,5,6,6,6,6,6,6,6,6,6,6,6,6,6,6,6,6,6,6,6,6,6,6,6,6,6,6,6,6,6,6,6,6] [7,7,7,7,7,7,7,7,7,7,7,7,7,7,7,7,7,7,7,7,7,7,7,7,7,7,7,7,7,7,7,7,7,7,7,7,7,7,7,7,7,7,7,7,7,7,7,7,7,7,7,7,7,7,7,7,7,7,7,7,7,7,7,7]) (List.append [8,8,8,8,8,8,8,8,8,8,8,8,8,8,8,8,8,8,8,8,8,8,8,8,8,8,8,8,8,8,8,8,8,8,8,8,8,8,8,8,8,8,8,8,8,8,8,8,8,8,8,8,8,8,8,8,8,8,8,8,8,8,8,8] [8,8,8,8,8,8,8,8,8,8,8,8,8,8,8,8,8,8,8,8,8,8,8,8,8,8,8,8,8,8,8,8,8,8,8,8,8,8,8,8,8,8,8,8,8,8,8,8,8,8,8,8,8,8,8,8,8,8,8,8,8,8,8,8])))) ((k.1:Nat):Int) with | some y=>decide (y.toNat≤8) | none=>false)=true:=by
   revert k; decide +kernel
  split at J
  ·rename_i y e; exact⟨y,e,by simpa using J⟩
  ·cases J
 obtain⟨y,az,aX⟩:=key ⟨(eg.1.setWidth 8).toNat,(eg.1.setWidth 8).isLt⟩
 refine .eq az (.ret ?_)
 rw [hr (by omega) (by omega)]; omega
def Small (v:aw):Prop:= ∀ j,j < 128→b4 v j=true→j < 32
theorem TS {v:aw} (h:Small v):uU v 32=some true:=by
 refine br.get ?_
 have df:v.dP=0#64:=by
  apply BitVec.eq_of_getLsbD_eq
  intro i ao
  have J:=h (64 + i) (by omega)
  unfold b4 at J
  rw [if_neg (by omega),show 64 + i - 64=i by omega] at J
  rw [BitVec.getLsbD_zero]
  cases e:v.dP.getLsbD i with
  | false=>rfl
  | true=>have:=J e; omega
 have fA:v.cv.toNat < 2 ^ 32:=by
  refine Nat.lt_pow_two_of_testBit _ fun i ao=> ?_
  cases e:v.cv.toNat.testBit i with
  | false=>rfl
  | true=>
    have bY:i < 64:=by
     rcases Nat.lt_or_ge i 64 with J | J
     ·exact J
     ·rw [Nat.testBit_lt_two_pow (Nat.lt_of_lt_of_le v.cv.isLt (Nat.pow_le_pow_right (by decide) J))] at e; cases e
    have:=h i (by omega) (by unfold b4; rw [if_pos bY,BitVec.getLsbD,e])
    omega
 unfold uU Cw
 rw [df]
 refine .bind (P:=fun r=>r≤32) (.cond (fun ag=>by simp at ag) fun _=>(Sy _ fA).bind fun y a4=> .ret a4) fun y a4=> .ret ?_
 rw [decide_eq_true a4]
def js (g:List Bool→Option Int) (v:aw):Nat→Option (Nat × Int)
 | 0=>(g []).map fun id=>(0,id)
 | k + 1=>match g (dd v (k + 1)) with
   | some id=>some (k + 1,id)
   | none=>js g v k
def enc:Option (Nat × Int)→Int × Int × Bool
 | none=>(0,0,false)
 | some (n,id)=>((n:Int),id,true)
theorem CT {hp:aH Cell} {root:Ref} (bl:k9 hp root) (aE:List Bool) (d:Nat) (o:Option (Nat × Int)):
 sZ hp (b3 hp root aE) d (enc o).1 (enc o).2.1 (enc o).2.2=some (enc (match cont hp root aE with | some id=>some (d,id) | none=>o)):=by
 refine br.get ?_
 unfold sZ
 cases e:b3 hp root aE with
 | none=>
   rw [hc e]
   refine .cb (P:=fun _=>True) (fun h=>by cases h) fun o _=> .cb (P:=fun _=>True) (fun h=>by cases h) fun o _=> .eq rfl (.ret rfl)
 | some p=>
   obtain⟨c,ag⟩:=bl.reads _ _ e
   rw [h4 e ag]
   refine .cb (P:=fun r=>r=p) (fun _=>⟨p,rfl,rfl⟩) fun bT J=> ?_
   rw [J rfl]
   refine .cb (P:=fun r=>r=c) (fun _=>⟨c,ag,rfl⟩) fun bw aa=> ?_
   rw [aa rfl]
   cases hu:c.cW with
   | true=>exact .eq (a:=((d:Int),c.gi,true)) (by simp [ag]) (.ret rfl)
   | false=>exact .eq rfl (.ret rfl)
theorem RY {hp:aH Cell} {t:Nat} {g:List Bool→Option Int} (h:iF hp t g) {v:aw} (a3:Small v):uM hp (some t) v=some (enc (js g v 32)):=by
 obtain⟨c,ag,hb,bl,bg⟩:=h.ok
 refine br.get ?_
 unfold uM
 refine .cb (P:=fun r=>r=t) (fun _=>⟨t,rfl,rfl⟩) fun bT J=> ?_
 rw [J rfl]
 refine .cb (P:=fun r=>r=c) (fun _=>⟨c,ag,rfl⟩) fun bw aa=> ?_
 rw [aa rfl,hb]
 refine .cb (P:=fun r=>r=true) (fun _=>⟨true,TS a3,rfl⟩) fun aG av=> ?_
 rw [av rfl]
 refine .cond (fun ag=>by cases ag) fun _=> .eq rfl (.eq ag ?_)
 have v0:sZ hp c.bK 0 0 0 false=some (enc (js g v 0)):=by
  have:=CT bl [] 0 none
  rw [im,bg] at this
  refine this.trans ?_
  unfold js
  cases g [] <;> rfl
 rw [hb]
 refine .eq v0 (.eq rfl ?_)
 show br (Option.bind (mw hp ((32:Nat):Int) v (some t) _ _) _) _
 refine br.bind (P:=fun e:(Ref × Int × Int × Int × Bool) ⊕ (Ref × Int × Int × Int × Bool)=>e.elim (fun s=>s.2.2=enc (js g v 32)) (fun q=>q.2.2=enc (js g v 32)))
  (HH ag hb v (Nat.le_refl 32) (fun i s=>s=(b3 hp c.bK (dd v i),(i:Int),enc (js g v i))) (by rw [zj,im]; rfl) (fun i s ao hs=> ?_) (fun s hs=>by rw [hs]; rfl)) fun e he=> ?_
 ·subst hs
  refine .cond (fun h=> .ret ?_) fun h=> ?_
  ·have aF:b3 hp c.bK (dd v i)=none:=by
    simp only [Option.isNone_iff_eq_none] at h; exact h
   have key:∀ k,js g v (i + k)=js g v i:=fun k=>by
    induction k with
    | zero=>rfl
    | succ k bD=>
      have az:dd v (i + k + 1)=dd v i ++ (dd v (i + k + 1)).drop i:=by
       have:dd v i=(dd v (i + k + 1)).take i:=by unfold dd; rw [← List.map_take,List.take_range]; congr 2; omega
       rw [this,List.take_append_drop]
      have:g (dd v (i + k + 1))=none:=by
       rw [← bg,hc]
       rw [az,iN,aF,eN]
      show(match g (dd v (i + k + 1)) with | some id=>some (i + k + 1,id) | none=>js g v (i + k))=_
      rw [this]; exact bD
   show enc (js g v i)=enc (js g v 32)
   have:=key (32 - i)
   rw [show i + (32 - i)=32 by omega] at this
   rw [this]
  ·cases e:b3 hp c.bK (dd v i) with
   | none=>simp [e] at h
   | some p=>
     obtain⟨d,hd⟩:=bl.reads _ _ e
     refine .eq rfl (.idx rfl (by cases b4 v (31 - i) <;> decide) (.eq hd ?_))
     have kh:bB d.ct (dW (b4 v (31 - i)))=b3 hp c.bK (dd v (i + 1)):=by rw [zi,iN,e,gd hd,im]
     have hw:bE ((i:Int) + 1)=((i + 1:Nat):Int):=g5 (by omega)
     simp only [kh,hw]
     refine .eq (CT bl (dd v (i + 1)) (i + 1) (js g v i)) (.ret ?_)
     rw [bg]
     rfl
 ·cases e with
  | inl s=>exact .ret he
  | inr q=>exact .ret he
theorem dH.EL {s:a2} (h:dH s):∃ c4 dq hn,∀ k,k < 4→nS (aJ s.cA k)=aJ (sd c4 dq hn) k:=by
 obtain⟨c4,dq,hn,e⟩:=h.tables
 refine⟨c4,dq,hn,fun k ar=> ?_⟩
 rw [← e,Gc nS (by rw [h.qX]; exact ar)]
theorem u1 (t:bx) {r:Int × Int} (aK:List cJ) (ar:t.cj=aK) (h:qx { (default:bx) with cj:=aK } =some r):qx t=some r:=by
 subst ar
 exact h
def km (k:Nat):Int:=aJ [1,2,3,3] k
theorem Sz {s:a2} (h:dH s) {k:Nat} (ar:k < 4):br (qx (aJ s.cA k)) (fun r=>r.1=km k∧ (k=1→r.2=0)):=by
 obtain⟨c4,dq,hn,e⟩:=h.EL
 have e:=e k ar
 have g1:(aJ s.cA k).cj=(aJ (sd c4 dq hn) k).2.2:=congrArg (·.2.2) e
 have:k=0∨k=1∨k=2∨k=3:=by omega
 rcases this with rfl | rfl | rfl | rfl
 ·exact⟨_,u1 _ [oa] g1 rfl,rfl,fun h=>by simp at h⟩
 ·cases c4
  ·exact⟨_,u1 _ [wZ] g1 rfl,rfl,fun _=>rfl⟩
  ·exact⟨_,u1 _ [wZ,E0] g1 rfl,rfl,fun _=>rfl⟩
 ·cases dq
  ·exact⟨_,u1 _ [BN,Bq] g1 rfl,rfl,fun h=>by simp at h⟩
  ·exact⟨_,u1 _ [BN,Bq,JH] g1 rfl,rfl,fun h=>by simp at h⟩
 ·cases hn
  ·exact⟨_,u1 _ [BO] g1 rfl,rfl,fun h=>by simp at h⟩
  ·exact⟨_,u1 _ [BO,JI,wZ] g1 rfl,rfl,fun h=>by simp at h⟩
theorem RD {s:a2} (h:dH s) {x:Int} (ai:x < 1∨4 < x):br (ry s x) (fun r=>r= -1):=by
 unfold ry
 have an:=h.qX
 refine(J0 (g:=fun t=>t.bW ==x) (fun _ _=>rfl) (by omega)).bind fun r aD=> .ret ?_
 rcases aD with⟨J,_⟩ | ⟨i,J,aa,av,aO⟩
 ·exact J
 ·have ao:i < 4:=by omega
  have:=(h.lK ao).1
  simp only [beq_iff_eq] at av
  omega
structure vZ (s:a2) (k:Nat) (ga hp:aH Cell) (p:Nat):Prop where
 cell:∃ c m,fF hp p=some c∧c.pE=km k∧c.o8=((aJ s.cA k).cj.length:Int)∧c.j2=⟨some m⟩∧iH hp m=some []∧
  (k=0→ ∃ q cx,c.ik= .l5 ⟨some q⟩∧mF hp q=some ⟨⟨some cx⟩⟩∧ly hp cx=some []∧q ∉ cX ga∧cx ∉ cX ga)∧
  (k=1→ ∃ eg,c.ik= .kP ⟨0,32,⟨some eg⟩⟩∧g6 hp eg=some []∧eg ∉ cX ga)∧
  (2≤k→ ∃ q key cap,c.ik= .kQ ⟨some q⟩∧lZ hp q=some (({ mA:=s,bP:= [] } :ca),key,cap)∧q ∉ cX ga)∧
  p ∉ cX ga∧m ∉ cX ga∧ (∀ q,q∈cX ga→q∈cX hp)∧ ∀ q,q∈cX ga→pat hp q=pat ga q
theorem Ac {s:a2} (h:dH s) {k:Nat} (ar:k < 4) (hp:aH Cell):cT (lP hp s ((k:Int) + 1)) (fun r=> ∃ p,r.1=some p∧vZ s k hp r.2 p):=by
 unfold lP
 refine .ps (KB h ar) fun aG az=> ?_
 subst az
 refine .cond (fun ag=>by simp at ag; omega) fun _=> ?_
 refine .idx rfl (by rw [h.qX]; exact ar) (.ps (Sz h ar) fun aQ aa=> .mk fun m hm=> .eq rfl (.mk fun p b9=> ?_))
 obtain⟨aR,key⟩:=aQ
 obtain⟨aa,av⟩:=aa
 simp only at aa av b9
 subst aa
 have hj:p≠m:=fun e=>by subst e; simp [cX] at b9
 have:k=0∨k=1∨2≤k:=by omega
 rcases this with rfl | rfl | dj
 ·have e:(km 0 ==1)=true:=rfl
  simp only [e,cond_true]
  unfold Cv
  refine .bind (P:=fun bI=>vZ s 0 hp bI p) (.bind (P:=fun r=> ∃ q cx,r=((some q:Ref),(q,Cell.xQ ⟨⟨some cx⟩⟩) :: (cx,Cell.nU []) :: (p,_) :: (m,Cell.hE []) :: hp)∧cx ∉ cX ((p,_) :: (m,Cell.hE []) :: hp)∧q ∉ cX ((cx,Cell.nU []) :: (p,_) :: (m,Cell.hE []) :: hp)) (.mk fun cx ed=> .mk fun q hq=> .ret ⟨q,cx,rfl,ed,hq⟩) fun bm aO=> ?_) fun bI aS=> .ret ⟨p,rfl,aS⟩
  obtain⟨q,cx,rfl,ed,hq⟩:=aO
  simp only [cX,List.map_cons,List.mem_cons,not_or] at ed hq b9
  refine .eq (by simp [fF,pat,hq.1,hq.2,ed.1,hq.2.2.1,Ne.symm]; rfl) (.eq rfl (.ret ?_))
  refine⟨{ pE:=km 0,o8:=((aJ s.cA 0).cj.length:Int),ik:= .l5 ⟨some q⟩,j2:=⟨some m⟩ },m,?_,rfl,rfl,rfl,?_,?_,fun ag=>by simp at ag,fun ag=>by simp at ag,b9.2,hm,fun x ai=>by rw [o5]; exact List.mem_cons_of_mem _ (List.mem_cons_of_mem _ (List.mem_cons_of_mem _ (List.mem_cons_of_mem _ ai))),fun x ai=> ?_⟩
  ·simp [fF,pat,ch,hq.1,hq.2,ed.1,hq.2.2.1]
  ·simp [iH,pat,ch,hq.1,hq.2,ed.1,hq.2.2.1,ed.2.1,b9.1]
  ·intro _
   refine⟨q,cx,rfl,?_,?_,hq.2.2.2,ed.2.2⟩
   ·simp [mF,pat,ch,hq.1,hq.2,ed.1,hq.2.2.1,ed.2.1,b9.1]
   ·simp [ly,pat,ch,hq.1,hq.2,ed.1,hq.2.2.1,ed.2.1,b9.1]
  ·have oY:q≠x:=fun e=>hq.2.2.2 (by rw [e]; exact ai)
   have BP:cx≠x:=fun e=>ed.2.2 (by rw [e]; exact ai)
   have sV:p≠x:=fun e=>b9.2 (by rw [e]; exact ai)
   have sW:m≠x:=fun e=>hm (by rw [e]; exact ai)
   simp [vf,pat,oY,BP,sV,sW]
 ·have e:(km 1 ==1)=false:=rfl
  have aX:(km 1 ==2)=true:=rfl
  simp only [e,aX,cond_true,cond_false]
  have av:=av rfl
  subst av
  obtain⟨t1,⟨t2,t3⟩,t4,_⟩:=h.lK ar
  have aV:(aJ (aJ s.cA 1).cj 0).gf=((6:Nat):Int) + 1:=by
   obtain⟨c4,dq,hn,e⟩:=h.EL
   have e:=congrArg (·.2.2) (e 1 ar)
   show(aJ (nS (aJ s.cA 1)).2.2 0).gf=_
   rw [e]
   cases c4 <;> rfl
  refine .bind (P:=fun bI=>vZ s 1 hp bI p) (.bind (P:=fun bI=>vZ s 1 hp bI p) ?_ fun _ aY=> .ret aY) fun bI aS=> .ret ⟨p,rfl,aS⟩
  refine .idx (k:=0) rfl (by omega) ?_
  simp only [aV]
  refine .ps (KC h (show 6 < 9 by decide)) fun cD gP=> ?_
  subst gP
  refine .ps (P:=fun r=>r=32) (.cond (fun _=> .idx rfl (by rw [h.x1]; decide) (.ret (h.EI (show 6 < 9 by decide)).2)) (fun ag=>by simp at ag)) fun b hb=> ?_
  subst hb
  refine .mk fun eg fh=> ?_
  simp only [cX,List.map_cons,List.mem_cons,not_or] at fh b9
  refine .eq rfl (.eq (by simp [fF,pat,fh.1]; rfl) (.eq rfl (.ret ?_)))
  refine⟨{ pE:=km 1,o8:=((aJ s.cA 1).cj.length:Int),ik:= .kP ⟨0,32,⟨some eg⟩⟩,j2:=⟨some m⟩ },m,?_,rfl,rfl,rfl,?_,fun ag=>by simp at ag,?_,fun ag=>by simp at ag,b9.2,hm,fun x ai=>by rw [o5]; exact List.mem_cons_of_mem _ (List.mem_cons_of_mem _ (List.mem_cons_of_mem _ ai)),fun x ai=> ?_⟩
  ·simp [fF,pat,ch,fh.1]
  ·simp [iH,pat,ch,fh.1,fh.2.1,b9.1]
  ·intro _
   refine⟨eg,rfl,?_,fh.2.2⟩
   simp [g6,pat,ch,fh.1,fh.2.1,b9.1]
  ·have oY:eg≠x:=fun e=>fh.2.2 (by rw [e]; exact ai)
   have sV:p≠x:=fun e=>b9.2 (by rw [e]; exact ai)
   have sW:m≠x:=fun e=>hm (by rw [e]; exact ai)
   simp [vf,pat,oY,sV,sW]
 ·have e:(km k ==1)=false:=by
   have:k=2∨k=3:=by omega
   rcases this with rfl | rfl <;> rfl
  have aX:(km k ==2)=false:=by
   have:k=2∨k=3:=by omega
   rcases this with rfl | rfl <;> rfl
  simp only [e,aX,cond_true,cond_false]
  refine .bind (P:=fun bI=>vZ s k hp bI p) (.bind (P:=fun bI=>vZ s k hp bI p) ?_ fun _ aY=> .ret aY) fun bI aS=> .ret ⟨p,rfl,aS⟩
  refine .eq rfl (.any fun hJ=> .mk fun q hq=> ?_)
  simp only [cX,List.map_cons,List.mem_cons,not_or] at hq b9
  refine .eq (by simp [fF,pat,hq.1]; rfl) (.eq rfl (.ret ?_))
  refine⟨{ pE:=km k,o8:=((aJ s.cA k).cj.length:Int),ik:= .kQ ⟨some q⟩,j2:=⟨some m⟩ },m,?_,rfl,rfl,rfl,?_,fun ag=>by omega,fun ag=>by omega,fun _=>⟨q,hJ.1,hJ.2,rfl,?_,hq.2.2⟩,b9.2,hm,fun x ai=>by rw [o5]; exact List.mem_cons_of_mem _ (List.mem_cons_of_mem _ (List.mem_cons_of_mem _ ai)),fun x ai=> ?_⟩
  ·simp [fF,pat,ch,hq.1]
  ·simp [iH,pat,ch,hq.1,hq.2.1,b9.1]
  ·simp [lZ,pat,ch,hq.1]
  ·have oY:q≠x:=fun e=>hq.2.2 (by rw [e]; exact ai)
   have sV:p≠x:=fun e=>b9.2 (by rw [e]; exact ai)
   have sW:m≠x:=fun e=>hm (by rw [e]; exact ai)
   simp [vf,pat,oY,sV,sW]
theorem US {s:a2} (h:dH s) {x:Int} (ai:x < 1∨4 < x) (hp:aH Cell):cT (lP hp s x) (fun r=>r.1=none):=by
 unfold lP
 refine .ps (RD h ai) fun aG az=> ?_
 subst az
 exact .cond (fun _=> .ret rfl) fun ag=>by simp at ag
theorem Di {s:a2} {k:Nat} {ga hp:aH Cell} {p:Nat} (h:vZ s k ga hp p):s8 hp (some p)=some (km k):=by
 obtain⟨c,m,J,aa,_⟩:=h.cell
 unfold s8
 simp [J,aa]
theorem TT (hp:aH Cell):cT (y4 hp) (fun r=>r.1=true):=by
 unfold y4
 refine .ps (Mc [] 0 (by decide) (by decide)) fun aG J=> .ps (KQ _ J) fun aQ aa=> ?_
 obtain⟨aa,_⟩:=aa
 refine .bind (Ac aa (k:=0) (by decide) _) fun bm av=> ?_
 obtain⟨p,e,av⟩:=av
 rw [e]
 refine .eq (Di av) ?_
 have jF:(km 0 ==1)=true:=rfl
 simp only [jF,decide_true,cond_true]
 refine .bind (Ac aa (k:=1) (by decide) _) fun cD aO=> ?_
 obtain⟨fa,gP,aO⟩:=aO
 rw [gP]
 refine .eq (a:=km 1) (by unfold cb; rw [if_pos rfl]; exact Di aO) ?_
 have az:(true && km 1 ==2)=true:=rfl
 simp only [az,decide_true,cond_true]
 refine .bind (Ac aa (k:=2) (by decide) _) fun c8 aS=> ?_
 obtain⟨iA,pw,aS⟩:=aS
 rw [pw]
 refine .eq (a:=km 2) (by unfold cb; rw [if_pos rfl]; exact Di aS) ?_
 have aX:(true && km 2 ==3)=true:=rfl
 simp only [aX,decide_true,cond_true]
 refine .bind (Ac aa (k:=3) (by decide) _) fun eU aY=> ?_
 obtain⟨iY,Jx,aY⟩:=aY
 rw [Jx]
 refine .eq (a:=km 3) (by unfold cb; rw [if_pos rfl]; exact Di aY) ?_
 have dS:(true && km 3 ==3)=true:=rfl
 simp only [dS,decide_true,cond_true]
 refine .bind (US aa (x:=9) (by decide) _) fun e9 b7=> ?_
 refine .eq rfl (.ret ?_)
 rw [b7]; rfl
theorem LK {α:Type} {b:α→α→Bool} (hb:q9 b) {q:α→Bool} :∀ {l:List α} {c:α},l.Pairwise (fun x y=>b x y=true)→c∈l→q c=true→ (∀ d∈l,q d=true→d=c∨b c d=true)→l.find? q=some c
 | [],c,_,ag,_,_=>by cases ag
 | a :: l,c,hs,ag,hq,hd=>by
   obtain⟨J,aa⟩:=List.pairwise_cons.1 hs
   by_cases nt:q a=true
   ·rw [List.find?_cons_of_pos nt]
    rcases hd a (by simp) nt with h | h
    ·rw [h]
    ·rcases List.mem_cons.1 ag with av | av
     ·rw [av]
     ·have:=hb.asymm _ _ (J c av)
      rw [this] at h; cases h
   ·rw [List.find?_cons_of_neg nt]
    rcases List.mem_cons.1 ag with av | av
    ·rw [av] at hq; exact absurd hq nt
    ·exact LK hb aa av hq fun d hd' ZY=>hd d (by simp [hd']) ZY
theorem xv {α:Type} {b:α→α→Bool} (hb:q9 b) {q:α→Bool} {l:List α} {c:α} (h:ph b l) (ag:c∈l) (hq:q c=true) (hd:∀ d∈l,q d=true→d=c∨b c d=true):(cO b l).find? q=some c:=
 LK hb (CL hb h) (na.2 ag) hq fun d hd'=>hd d (na.1 hd')
theorem GD {α:Type} {b:α→α→Bool} {q:α→Bool} {l:List α} (hd:∀ d∈l,q d=false):(cO b l).find? q=none:=by
 rw [List.find?_eq_none]
 intro x ai
 rw [hd x (na.1 ai)]; simp
theorem jV.uniq {s:a2} {k:Nat} :∀ {l:List aA},jV s k l→ ∀ {a c:aA},a∈l→c∈l→a.bt=c.bt→a=c:=fun {l} h {a c} a9 ag e=>by
 have aF:=h.num
 clear h
 induction l with
 | nil=>cases a9
 | cons x l bD=>
   obtain⟨J,aa⟩:=List.pairwise_cons.1 aF
   rcases List.mem_cons.1 a9 with ax | ax <;> rcases List.mem_cons.1 ag with a5 | a5
   ·rw [ax,a5]
   ·rw [ax] at e; exact absurd e (J c a5)
   ·rw [a5] at e; exact absurd e.symm (J a ax)
   ·exact bD ax a5 aa
theorem dH.Ad {s:a2} (h:dH s):(aJ s.cA 0).cj= [oa]:=by
 obtain⟨c4,dq,hn,e⟩:=h.EL
 exact congrArg (·.2.2) (e 0 (by decide))
theorem dH.Ae {s:a2} (h:dH s):∃ b,(aJ s.cA 1).cj=mJ b:=by
 obtain⟨c4,dq,hn,e⟩:=h.EL
 exact⟨c4,congrArg (·.2.2) (e 1 (by decide))⟩
def gV (s:a2) (k:Nat):Nat:=(aJ s.cA k).cj.length
theorem Mg {α:Type} [Inhabited α] {n:Nat} {f:Fin n→α} {j:Nat} (h:j < n):bB (Vector.ofFn f) j=f ⟨j,h⟩:=by unfold bB; simp [h]
def cQ (e:b1):Vector aw 4:=Vector.ofFn fun i=>if i.1 < e.cd.length then(aJ e.cd i.1).cL else default
def iZ (n:Nat) (p:Vector aw 4):Vector aw 4:=Vector.ofFn fun i=>if i.1 < n then bB p i.1 else default
def dm (p:Vector aw 4):Vector aw 4:=fW p 0 default
theorem kK {e:b1} {j:Nat} (h:j < 4):bB (cQ e) j=if j < e.cd.length then(aJ e.cd j).cL else default:=Mg h
theorem lT {n:Nat} {p:Vector aw 4} {j:Nat} (h:j < 4):bB (iZ n p) j=if j < n then bB p j else default:=Mg h
theorem zB {p:Vector aw 4} {j:Nat} :bB (dm p) j=if j=0 then default else bB p j:=by unfold dm; rw [og _ _ (by decide)]
theorem AI {v w:Vector aw 4} :v=w↔bB v 0=bB w 0∧bB v 1=bB w 1∧bB v 2=bB w 2∧bB v 3=bB w 3:=by
 refine⟨fun h=>by rw [h]; exact⟨rfl,rfl,rfl,rfl⟩,fun⟨bA,J,aa,av⟩=>u9 fun j aB=> ?_⟩
 rcases (show j=0∨j=1∨j=2∨j=3 by omega) with rfl | rfl | rfl | rfl <;> assumption
theorem Dj {s:a2} (h:dH s) {e:b1} (he:jz s 0 e) (p:Vector aw 4):mt s 0 p e=true↔iZ (gV s 0) p=cQ e:=by
 have an:=he.len
 have hm:=he.wJ 0
 unfold mt gV
 rw [h.Ad] at an hm ⊢
 have hm:=(hm (by decide)).EJ rfl
 have hm:(aJ e.cd 0).ho=true:=hm
 have az:e.cd.length=1:=an
 have jF:((List.range [oa].length).all fun i=>lL (aJ [oa] i).du (j1 (aJ [oa] i)) (aJ e.cd i) (bB p i))=decide (bB p 0=(aJ e.cd 0).cL):=by
  show(lL 1 (j1 oa) (aJ e.cd 0) (bB p 0) && true)=_
  unfold lL
  rw [hm]; simp
 rw [jF,decide_eq_true_eq,AI]
 simp only [lT (show 0 < 4 by decide),lT (show 1 < 4 by decide),lT (show 2 < 4 by decide),lT (show 3 < 4 by decide),kK (show 0 < 4 by decide),kK (show 1 < 4 by decide),kK (show 2 < 4 by decide),kK (show 3 < 4 by decide),az]
 simp
theorem WY {s:a2} (h:dH s) {l:List aA} (an:jV s 0 l) (p:Vector aw 4) {o:Option Int} (a6:∀ n,o=some n↔ ∃ i∈l,cQ i.bd=iZ (gV s 0) p∧i.bt=n):
 (∀ n,o=some n→ ∃ i∈l,i.bt=n∧ (cO (eZ s 0) l).find? (fun c=>mt s 0 p c.bd)=some i)∧ (o=none→ (cO (eZ s 0) l).find? (fun c=>mt s 0 p c.bd)=none):=by
 constructor
 rotate_left
 ·intro aF
  subst aF
  refine GD fun d hd=> ?_
  rw [Bool.eq_false_iff]
  intro hm
  have:=(a6 d.bt).2 ⟨d,hd,((Dj h (an.ok d hd).dA p).1 hm).symm,rfl⟩
  cases this
 ·intro n aF
  subst aF
  obtain⟨i,ao,J,aa⟩:=(a6 n).1 rfl
  refine⟨i,ao,aa,xv (vn s 0) an.qd ao ((Dj h (an.ok i ao).dA p).2 J.symm) fun d hd hm=> .inl ?_⟩
  have av:=(a6 d.bt).2 ⟨d,hd,((Dj h (an.ok d hd).dA p).1 hm).symm,rfl⟩
  have av:n=d.bt:=by simpa using av
  exact an.uniq hd ao (by rw [aa,av])
theorem S6 {v w:aw} {n m:Nat} :dd v n=dd w m↔n=m∧ ∀ i,i < n→b4 v (31 - i)=b4 w (31 - i):=by
 unfold dd
 constructor
 ·intro h
  have an:=congrArg List.length h
  simp only [List.length_map,List.length_range] at an
  subst an
  refine⟨rfl,fun i ao=> ?_⟩
  have:=congrArg (·[i]?) h
  simpa [ao] using this
 ·rintro ⟨rfl,h⟩
  exact List.map_congr_left fun i ao=>h i (List.mem_range.1 ao)
def jk (e:b1):List Bool:=dd (aJ e.cd 0).cL (aJ e.cd 0).fk.toNat
theorem ue {s:a2} (h:dH s) {e:b1} (he:jz s 1 e):r8 2 32 (aJ e.cd 0):=by
 have hm:=he.wJ 0
 obtain⟨b,hb⟩:=h.Ae
 rw [hb] at hm
 cases b
 ·exact hm (by decide)
 ·exact hm (by decide)
theorem xD {k:Int} (bA:0≤k) (J:k≤32) {j:Nat} :lead 32 k j=true↔32 - k≤ (j:Int)∧j < 32:=by
 unfold lead; rw [Bool.and_eq_true,decide_eq_true_eq,decide_eq_true_eq]; omega
theorem GF {m:c5} (hm:r8 2 32 m) {v:aw} {n:Nat} (aF:n≤32):dd m.cL m.fk.toNat=dd v n↔m.fk=n∧ ∀ j,j < 128→lead 32 m.fk j=true→b4 v j=b4 m.cL j:=by
 have hp:=hm.pre
 rw [S6]
 constructor
 ·rintro ⟨J,aa⟩
  refine⟨by omega,fun j aB an=> ?_⟩
  rw [xD hp.1 hp.2] at an
  have:=aa (31 - j) (by omega)
  rw [show 31 - (31 - j)=j by omega] at this
  exact this.symm
 ·rintro ⟨J,aa⟩
  refine⟨by omega,fun i ao=> ?_⟩
  exact(aa (31 - i) (by omega) ((xD hp.1 hp.2).2 (by omega))).symm
theorem Mh {s:a2} (h:dH s) {e:b1} (he:jz s 1 e) (p:Vector aw 4):mt s 1 p e=true↔
 dm (iZ (gV s 1) p)=dm (cQ e)∧ ∀ j,j < 128→lead 32 (aJ e.cd 0).fk j=true→b4 (bB p 0) j=b4 (aJ e.cd 0).cL j:=by
 have an:=he.len
 have hm:=he.wJ 1
 have fi:=ue h he
 obtain⟨b,hb⟩:=h.Ae
 unfold mt gV
 rw [hb] at an hm ⊢
 have jF:lL 2 32 (aJ e.cd 0) (bB p 0)=true↔ ∀ j,j < 128→lead 32 (aJ e.cd 0).fk j=true→b4 (bB p 0) j=b4 (aJ e.cd 0).cL j:=by
  unfold lL
  by_cases hp:(aJ e.cd 0).ho=false
  ·rw [if_pos hp,fi.off hp]
   refine⟨fun _ j aB an=> ?_,fun _=>rfl⟩
   have:lead 32 (default:c5).fk j=true:=an
   rw [xD (by decide) (by decide)] at this
   have bA:(default:c5).fk=0:=rfl
   rw [bA] at this; omega
  ·rw [if_neg hp,if_neg (by decide),if_pos rfl,List.all_eq_true]
   refine⟨fun J j aB an=> ?_,fun J j aB=> ?_⟩
   ·have:=J j (List.mem_range.2 aB)
    rw [an] at this; simpa using this
   ·cases an:lead 32 (aJ e.cd 0).fk j
    ·rfl
    ·simp [J j (List.mem_range.1 aB) an]
 cases b
 ·have az:e.cd.length=1:=an
  have aX:((List.range (mJ false).length).all fun i=>lL (aJ (mJ false) i).du (j1 (aJ (mJ false) i)) (aJ e.cd i) (bB p i))=lL 2 32 (aJ e.cd 0) (bB p 0):=by
   show(lL 2 32 (aJ e.cd 0) (bB p 0) && true)=_
   rw [Bool.and_true]
  rw [aX,jF,AI]
  simp only [zB,lT (show 0 < 4 by decide),lT (show 1 < 4 by decide),lT (show 2 < 4 by decide),lT (show 3 < 4 by decide),kK (show 0 < 4 by decide),kK (show 1 < 4 by decide),kK (show 2 < 4 by decide),kK (show 3 < 4 by decide),az]
  simp [mJ]
 ·have az:e.cd.length=2:=an
  have cn:(aJ e.cd 1).ho=true:=(hm (by decide)).EJ rfl
  have aX:((List.range (mJ true).length).all fun i=>lL (aJ (mJ true) i).du (j1 (aJ (mJ true) i)) (aJ e.cd i) (bB p i))=(lL 2 32 (aJ e.cd 0) (bB p 0) && decide (bB p 1=(aJ e.cd 1).cL)):=by
   show(lL 2 32 (aJ e.cd 0) (bB p 0) && (lL 1 (j1 E0) (aJ e.cd 1) (bB p 1) && true))=_
   rw [Bool.and_true]
   congr 1
   unfold lL
   rw [cn]; simp
  rw [aX,Bool.and_eq_true,jF,AI,decide_eq_true_eq]
  simp only [zB,lT (show 0 < 4 by decide),lT (show 1 < 4 by decide),lT (show 2 < 4 by decide),lT (show 3 < 4 by decide),kK (show 0 < 4 by decide),kK (show 1 < 4 by decide),kK (show 2 < 4 by decide),kK (show 3 < 4 by decide),az]
  simp [mJ,And.comm]
theorem Mi {g:List Bool→Option Int} {v:aw} :∀ {m n:Nat} {id:Int},js g v m=some (n,id)→n≤m∧g (dd v n)=some id∧ ∀ k,n < k→k≤m→g (dd v k)=none
 | 0,n,id,h=>by
   unfold js at h
   cases bg:g [] with
   | none=>rw [bg] at h; cases h
   | some x=>
     rw [bg] at h; cases h
     exact⟨Nat.le_refl 0,by rw [zj]; exact bg,fun k J aa=>by omega⟩
 | m + 1,n,id,h=>by
   unfold js at h
   cases bg:g (dd v (m + 1)) with
   | none=>
     rw [bg] at h
     obtain⟨J,aa,av⟩:=Mi h
     refine⟨by omega,aa,fun k aO aS=> ?_⟩
     by_cases ar:k=m + 1
     ·rw [ar]; exact bg
     ·exact av k aO (by omega)
   | some x=>
     rw [bg] at h; cases h
     exact⟨Nat.le_refl _,bg,fun k J aa=>by omega⟩
theorem Mj {g:List Bool→Option Int} {v:aw} :∀ {m:Nat},js g v m=none→ ∀ k,k≤m→g (dd v k)=none
 | 0,h,k,ar=>by
   have:k=0:=by omega
   subst this
   unfold js at h
   cases bg:g [] with
   | none=>rw [zj]; exact bg
   | some x=>rw [bg] at h; cases h
 | m + 1,h,k,ar=>by
   unfold js at h
   cases bg:g (dd v (m + 1)) with
   | none=>
     rw [bg] at h
     by_cases sD:k=m + 1
     ·rw [sD]; exact bg
     ·exact Mj h k (by omega)
   | some x=>rw [bg] at h; cases h
theorem Pg {s:a2} (h:dH s) {e:b1} (he:jz s 1 e):ux s 1 e=(aJ e.cd 0).fk:=by
 have an:=he.len
 unfold ux
 obtain⟨b,hb⟩:=h.Ae
 rw [hb] at an ⊢
 refine G9 (i:=0) an ?_ ?_ fun j aB=>by omega
 ·cases b <;> decide
 ·cases b <;> rfl
theorem Ed {s:a2} (h:dH s) {e:b1} (he:jz s 1 e):e.jv=0:=by
 refine he.pri fun i ao=> ?_
 obtain⟨b,hb⟩:=h.Ae
 rw [hb] at ao ⊢
 cases b
 ·have:i=0:=by have:i < 1:=ao; omega
  subst this; decide
 ·have:i=0∨i=1:=by have:i < 2:=ao; omega
  rcases this with rfl | rfl <;> decide
theorem NZ {s:a2} (h:dH s) {l:List aA} (an:jV s 1 l) (p:Vector aw 4) {g:List Bool→Option Int} {v:aw} (a3:∀ j,j < 128→b4 v j=(b4 (bB p 0) j && decide (j < 32)))
 (bg:∀ aE n,g aE=some n↔ ∃ i∈l,dm (cQ i.bd)=dm (iZ (gV s 1) p)∧jk i.bd=aE∧i.bt=n):
 match js g v 32 with | some r=> ∃ i∈l,i.bt=r.2∧ (cO (eZ s 1) l).find? (fun c=>mt s 1 p c.bd)=some i | none=>(cO (eZ s 1) l).find? (fun c=>mt s 1 p c.bd)=none:=by
 have yi:∀ k j,j < 128→lead 32 k j=true→b4 v j=b4 (bB p 0) j:=fun k j aB ar=>by
  rw [a3 j aB]
  unfold lead at ar
  rw [Bool.and_eq_true,decide_eq_true_eq] at ar
  rw [decide_eq_true (show j < 32 by omega),Bool.and_true]
 have rb:∀ d∈l,mt s 1 p d.bd=true→ ∃ n:Nat,n≤32∧ (aJ d.bd.cd 0).fk=n∧g (dd v n)=some d.bt:=fun d hd hm=>by
  have he:=(an.ok d hd).dA
  have fi:=ue h he
  have hp:=fi.pre
  obtain⟨n,aF⟩:=Int.eq_ofNat_of_zero_le hp.1
  obtain⟨J,aa⟩:=(Mh h he p).1 hm
  refine⟨n,by omega,aF,(bg _ _).2 ⟨d,hd,J.symm,?_,rfl⟩⟩
  exact(GF fi (by omega)).2 ⟨aF,fun j aB Bv=>by rw [yi _ j aB Bv]; exact aa j aB Bv⟩
 cases e:js g v 32 with
 | none=>
   refine GD fun d hd=> ?_
   rw [Bool.eq_false_iff]
   intro hm
   obtain⟨n,aF,_,aa⟩:=rb d hd hm
   rw [Mj e n aF] at aa; cases aa
 | some r=>
   obtain⟨n,id⟩:=r
   obtain⟨J,aa,av⟩:=Mi e
   obtain⟨i,ao,ax,a5,bH⟩:=(bg _ _).1 aa
   have he:=(an.ok i ao).dA
   obtain⟨c9,kj⟩:=(GF (ue h he) J).1 a5
   have Ba:mt s 1 p i.bd=true:=(Mh h he p).2 ⟨ax.symm,fun j aB Bv=>by rw [← yi _ j aB Bv]; exact kj j aB Bv⟩
   refine⟨i,ao,bH,xv (vn s 1) an.qd ao Ba fun d hd hm=> ?_⟩
   have Ph:=(an.ok d hd).dA
   obtain⟨m,cn,ed,fh⟩:=rb d hd hm
   have qZ:m≤n:=by
    rcases Nat.lt_or_ge n m with bY | nn
    ·rw [av m bY cn] at fh; cases fh
    ·exact nn
   by_cases HQ:m=n
   ·subst HQ
    rw [aa] at fh
    have:id=d.bt:=by simpa using fh
    exact .inl (an.uniq hd ao (by rw [bH,this]))
   ·right
    unfold eZ
    rw [decide_eq_true_eq,Pg h he,Pg h Ph,Ed h he,Ed h Ph,ed,c9]
    omega
theorem Own.iff {hp hp':aH Cell} {t:Nat} {c:eJ} (ag:ey hp t=some c) (h:∀ q,Own hp t q→pat hp' q=pat hp q):ey hp' t=some c∧ (∀ aE,b3 hp' c.bK aE=b3 hp c.bK aE)∧ ∀ q,Own hp' t q↔Own hp t q:=by
 have J:ey hp' t=some c:=by rw [zb (h t (.inl rfl))]; exact ag
 have aa:∀ aE,b3 hp' c.bK aE=b3 hp c.bK aE:=fun aE=>Le fun p cs hp=>pB (h p (.inr ⟨c,cs,ag,hp⟩))
 refine⟨J,aa,fun q=>⟨fun hq=> ?_,fun hq=> ?_⟩⟩
 ·rcases hq with rfl | ⟨hM,aE,ax,a5⟩
  ·exact .inl rfl
  ·rw [J] at ax; cases ax
   rw [aa] at a5
   exact .inr ⟨c,aE,ag,a5⟩
 ·rcases hq with rfl | ⟨hM,aE,ax,a5⟩
  ·exact .inl rfl
  ·rw [ag] at ax; cases ax
   exact .inr ⟨c,aE,J,by rw [aa]; exact a5⟩
theorem iF.congr {hp hp':aH Cell} {t:Nat} {g:List Bool→Option Int} (h:iF hp t g) (a9:∀ q,Own hp t q→pat hp' q=pat hp q):iF hp' t g∧ ∀ q,Own hp' t q↔Own hp t q:=by
 obtain⟨c,ag,hb,bl,bg⟩:=h.ok
 obtain⟨J,aa,av⟩:=Own.iff ag a9
 refine⟨⟨⟨c,J,hb,⟨fun aE p hp=> ?_,fun aE cs p ax a5=> ?_,fun aE p ax=>bl.dep aE p (by rw [← aa]; exact ax)⟩,fun aE=> ?_⟩⟩,av⟩
 ·rw [aa] at hp
  obtain⟨d,hd⟩:=bl.reads aE p hp
  exact⟨d,by rw [pB (a9 p (.inr ⟨c,aE,ag,hp⟩))]; exact hd⟩
 ·rw [aa] at ax a5
  exact bl.inj aE cs p ax a5
 ·rw [← bg]
  cases e:b3 hp c.bK aE with
  | none=>rw [hc e,hc (by rw [aa]; exact e)]
  | some p=>
    obtain⟨d,hd⟩:=bl.reads aE p e
    rw [h4 e hd,h4 (by rw [aa]; exact e) (by rw [pB (a9 p (.inr ⟨c,aE,ag,e⟩))]; exact hd)]
theorem iF.nb {hp:aH Cell} {t:Nat} {g:List Bool→Option Int} (h:iF hp t g) {q:Nat} (hq:Own hp t q):q∈cX hp:=by
 obtain⟨c,ag,hb,bl,bg⟩:=h.ok
 rcases hq with rfl | ⟨hM,aE,ax,a5⟩
 ·exact gS (my.1 ag)
 ·rw [ag] at ax; cases ax
  obtain⟨d,hd⟩:=bl.reads aE q a5
  exact gS (kn.1 hd)
theorem iF.rW {hp:aH Cell} {t:Nat} {g:List Bool→Option Int} (h:iF hp t g) {q:Nat} (hq:Own hp t q):(∃ c,pat hp q=some (.gL c))∨ ∃ c,pat hp q=some (.ev c):=by
 obtain⟨c,ag,hb,bl,bg⟩:=h.ok
 rcases hq with rfl | ⟨hM,aE,ax,a5⟩
 ·exact .inl ⟨c,my.1 ag⟩
 ·rw [ag] at ax; cases ax
  obtain⟨d,hd⟩:=bl.reads aE q a5
  exact .inr ⟨d,kn.1 hd⟩
def fg (a c:b1):Bool:=decide (a.et=c.et∧a.cd=c.cd∧a.jv=c.jv)
theorem xE {a c:b1} :fg a c=true↔a.et=c.et∧a.cd=c.cd∧a.jv=c.jv:=by unfold fg; rw [decide_eq_true_eq]
theorem Dk (a:b1):fg a a=true:=xE.2 ⟨rfl,rfl,rfl⟩
theorem tz (a c:b1):fg a c=fg c a:=by
 rw [Bool.eq_iff_iff,xE,xE]
 exact⟨fun⟨x,y,z⟩=>⟨x.symm,y.symm,z.symm⟩,fun⟨x,y,z⟩=>⟨x.symm,y.symm,z.symm⟩⟩
theorem xo {a c d:b1} (J:fg a c=true) (aa:fg c d=true):fg a d=true:=by
 rw [xE] at *
 exact⟨J.1.trans aa.1,J.2.1.trans aa.2.1,J.2.2.trans aa.2.2⟩
theorem Mk {a c:c5} (J:a.ho=c.ho) (aa:a.cL=c.cL) (av:a.iP=c.iP) (aO:a.fk=c.fk) (aS:a.lV=c.lV):a=c:=by
 cases a; cases c; simp_all
theorem Ml {b:Int} {m px:c5} (h:r8 1 b m) (cS:r8 1 b px) (e:m.cL=px.cL):m=px:=
 Mk (by rw [h.EJ rfl,cS.EJ rfl]) e (by rw [h.gl (by decide),cS.gl (by decide)]) (by rw [h.Pf (by decide),cS.Pf (by decide)]) (by rw [h.EK (by decide),cS.EK (by decide)])
theorem TU {m px:c5} (h:r8 2 32 m) (cS:r8 2 32 px) (e:dd m.cL m.fk.toNat=dd px.cL px.fk.toNat):m=px:=by
 have hp:=h.pre
 have hp':=cS.pre
 obtain⟨n,aF⟩:=Int.eq_ofNat_of_zero_le hp'.1
 rw [aF,Int.toNat_natCast] at e
 obtain⟨az,aX⟩:=(GF h (by omega)).1 e
 have dS:m.fk=px.fk:=by omega
 have ZZ:m.ho=px.ho:=by
  cases ax:m.ho <;> cases a5:px.ho
  ·rfl
  ·have:=cS.Pe rfl a5
   have:=h.off ax
   have bA:(default:c5).fk=0:=rfl
   rw [this,bA] at dS; omega
  ·have:=h.Pe rfl ax
   have:=cS.off a5
   have bA:(default:c5).fk=0:=rfl
   rw [this,bA] at dS; omega
  ·rfl
 refine Mk ZZ (Dy fun j aB=> ?_) (by rw [h.gl (by decide),cS.gl (by decide)]) dS (by rw [h.EK (by decide),cS.EK (by decide)])
 cases an:lead 32 m.fk j with
 | true=>exact(aX j aB an).symm
 | false=>
   have nq:b4 m.cL j=false:=by
    rw [Bool.eq_false_iff]; intro a3
    have:=h.I1 rfl j aB a3
    rw [(xD hp.1 hp.2).2 this] at an; cases an
   have oN:b4 px.cL j=false:=by
    rw [Bool.eq_false_iff]; intro a3
    have:=cS.I1 rfl j aB a3
    rw [dS,(xD hp'.1 hp'.2).2 this] at an; cases an
   rw [nq,oN]
theorem Ee {α:Type} [Inhabited α] {l:List α} (h:l.length=1):l= [aJ l 0]:=by
 match l,h with
 | [x],_=>rfl
theorem OE {α:Type} [Inhabited α] {l:List α} (h:l.length=2):l= [aJ l 0,aJ l 1]:=by
 match l,h with
 | [x,y],_=>rfl
theorem yk {s:a2} (h:dH s) {a c:b1} (a9:jz s 0 a) (ag:jz s 0 c):fg a c=true↔cQ a=cQ c:=by
 rw [xE]
 have qk:=a9.len; have lc:=ag.len
 have BQ:=a9.wJ 0; have BR:=ag.wJ 0
 have E1:=a9.pri; have E2:=ag.pri
 rw [h.Ad] at qk lc BQ BR E1 E2
 have ar:∀ i,i < [oa].length→ (aJ [oa] i).du≤2:=by decide
 refine⟨fun⟨J,aa,av⟩=>by unfold cQ; rw [aa],fun e=>⟨by rw [a9.lK,ag.lK],?_,by rw [E1 ar,E2 ar]⟩⟩
 have jF:=(AI.1 e).1
 rw [kK (by decide),kK (by decide),qk,lc] at jF
 have jF:(aJ a.cd 0).cL=(aJ c.cd 0).cL:=jF
 rw [Ee (l:=a.cd) qk,Ee (l:=c.cd) lc,Ml (BQ (by decide)) (BR (by decide)) jF]
theorem yl {s:a2} (h:dH s) {a c:b1} (a9:jz s 1 a) (ag:jz s 1 c):fg a c=true↔dm (cQ a)=dm (cQ c)∧jk a=jk c:=by
 rw [xE]
 have qk:=a9.len; have lc:=ag.len
 have BQ:=a9.wJ 1; have BR:=ag.wJ 1
 have E1:=Ed h a9; have E2:=Ed h ag
 have BS:=ue h a9; have Z0:=ue h ag
 obtain⟨b,hb⟩:=h.Ae
 rw [hb] at qk lc BQ BR
 refine⟨fun⟨J,aa,av⟩=>by unfold cQ jk; rw [aa]; exact⟨rfl,rfl⟩,fun⟨e,e'⟩=>⟨by rw [a9.lK,ag.lK],?_,by rw [E1,E2]⟩⟩
 have bA:=TU BS Z0 e'
 cases b
 ·rw [Ee (l:=a.cd) qk,Ee (l:=c.cd) lc,bA]
 ·have az:=(AI.1 e).2.1
  rw [zB,zB,if_neg (by decide),if_neg (by decide),kK (by decide),kK (by decide),qk,lc] at az
  have az:(aJ a.cd 1).cL=(aJ c.cd 1).cL:=az
  rw [OE (l:=a.cd) qk,OE (l:=c.cd) lc,bA,Ml (BQ (by decide)) (BR (by decide)) az]
theorem GG {hp hp':aH Cell} {root:Ref} {ws:List Bool} {b:Bool} {p q:Nat} {c sU:dn} (bl:k9 hp root) (hw:b3 hp root ws=some p) (ag:cg hp p=some c) (hq:bB c.ct (dW b)=some q) (ns:cg hp q=some sU) (an:∀ x,bB sU.ct (dW x)=none)
 (b9:cg hp' p=some { c with ct:=fW c.ct (dW b) none }) (fH:∀ x,x≠p→cg hp' x=cg hp x):
 ∀ (aE us:List Bool) (r:Nat),b3 hp root us=some r→us≠ws ++ [b]→b3 hp' (some r) aE=if us ++ aE=ws ++ [b] then none else b3 hp (some r) aE
 | [],us,r,hu,cN=>by
   rw [List.append_nil,if_neg cN]; rfl
 | x :: xs,us,r,hu,cN=>by
   obtain⟨E3,oQ⟩:=bl.reads us r hu
   by_cases oK:r=p
   ·subst oK
    have IZ:=bl.inj us ws r hu hw
    subst IZ
    rw [ag] at oQ; cases oQ
    rw [gd b9,gd ag]
    simp only
    have bY:dW b < 2:=by cases b <;> decide
    rw [og _ _ bY]
    by_cases wH:x=b
    ·subst wH
     rw [if_pos rfl,hq,eN]
     by_cases h:xs= []
     ·subst h; rw [if_pos rfl]
     ·have dN: ¬ us ++ x :: xs=us ++ [x]:=fun e=>h (by have:=List.append_cancel_left e; simpa using this)
      rw [if_neg dN]
      cases xs with
      | nil=>exact absurd rfl h
      | cons y ys=>rw [gd ns,an,eN]
    ·have Z1: ¬ dW x=dW b:=fun e=>wH (by cases x <;> cases b <;> first | rfl | cases e)
     have dN:∀ ys,¬ us ++ x :: ys=us ++ [b]:=fun ys e=>wH (by have:=List.append_cancel_left e; simpa using (List.cons.inj this).1)
     rw [if_neg Z1,if_neg (dN xs)]
     cases e:bB c.ct (dW x) with
     | none=>rw [eN,eN]
     | some jr=>
       have mh:b3 hp root (us ++ [x])=some jr:=by rw [iN,hu,gd ag,e,im]
       rw [GG bl hw ag hq ns an b9 fH xs (us ++ [x]) jr mh (dN []),List.append_assoc,List.singleton_append,if_neg (dN xs)]
   ·have J:cg hp' r=some E3:=by rw [fH r oK]; exact oQ
    rw [gd J,gd oQ]
    have Yx:us ++ [x]≠ws ++ [b]:=fun e=>by
     have:=List.append_inj_left' e rfl
     subst this
     rw [hu] at hw; cases hw; exact oK rfl
    cases e:bB E3.ct (dW x) with
    | none=>rw [eN,eN]; split <;> rfl
    | some jr=>
      have mh:b3 hp root (us ++ [x])=some jr:=by rw [iN,hu,gd oQ,e,im]
      rw [GG bl hw ag hq ns an b9 fH xs (us ++ [x]) jr mh Yx,List.append_assoc,List.singleton_append]
theorem cut {hp hp':aH Cell} {r:Nat} {ws:List Bool} {b:Bool} {p q:Nat} {c sU:dn} (bl:k9 hp (some r)) (hw:b3 hp (some r) ws=some p) (ag:cg hp p=some c) (hq:bB c.ct (dW b)=some q) (ns:cg hp q=some sU) (an:∀ x,bB sU.ct (dW x)=none) (hu:sU.cW=false)
 (b9:cg hp' p=some { c with ct:=fW c.ct (dW b) none }) (fH:∀ x,x≠p→cg hp' x=cg hp x):
 k9 hp' (some r)∧ (∀ aE,b3 hp' (some r) aE=if aE=ws ++ [b] then none else b3 hp (some r) aE)∧ ∀ aE,cont hp' (some r) aE=cont hp (some r) aE:=by
 have aV:∀ aE,b3 hp' (some r) aE=if aE=ws ++ [b] then none else b3 hp (some r) aE:=fun aE=>GG bl hw ag hq ns an b9 fH aE [] r rfl (by simp)
 have I0:b3 hp (some r) (ws ++ [b])=some q:=by rw [iN,hw,gd ag,hq,im]
 refine⟨⟨fun aE x h=> ?_,fun aE cs x J aa=> ?_,fun aE x h=> ?_⟩,aV,fun aE=> ?_⟩
 ·rw [aV] at h
  split at h
  ·cases h
  ·obtain⟨hM,J⟩:=bl.reads aE x h
   by_cases e:x=p
   ·subst e; exact⟨_,b9⟩
   ·exact⟨hM,by rw [fH x e]; exact J⟩
 ·rw [aV] at J aa
  split at J <;> split at aa
  ·cases J
  ·cases J
  ·cases aa
  ·exact bl.inj aE cs x J aa
 ·rw [aV] at h
  split at h
  ·cases h
  ·exact bl.dep aE x h
 ·by_cases e:aE=ws ++ [b]
  ·subst e
   rw [hc (by rw [aV,if_pos rfl]),h4 I0 ns,hu]; rfl
  ·have wI:b3 hp' (some r) aE=b3 hp (some r) aE:=by rw [aV,if_neg e]
   cases h:b3 hp (some r) aE with
   | none=>rw [hc h,hc (wI.trans h)]
   | some x=>
     obtain⟨hM,J⟩:=bl.reads aE x h
     by_cases eq:x=p
     ·subst eq
      rw [ag] at J; cases J
      rw [h4 h ag,h4 (wI.trans h) b9]
     ·rw [h4 h J,h4 (wI.trans h) (by rw [fH x eq]; exact J)]
structure Ib (ga hp:aH Cell) (t:Nat) (g:List Bool→Option Int) (r:Nat):Prop where
 cell:∃ c,ey hp t=some c∧c.eu=32∧c.bK=some r
 tree:k9 hp (some r)
 cont:∀ aE,cont hp (some r) aE=g aE
 keeps:cw ga hp (Own ga t)
 own:∀ aE q,b3 hp (some r) aE=some q→Own ga t q
theorem empty_eq {hp:aH Cell} {p:Nat} {c:dn} (h:cg hp p=some c):xa hp (some p)=some (!c.cW && decide (c.ct=default)):=by
 refine br.get ?_
 unfold xa
 refine .eq rfl (.eq h ?_)
 refine .cb (P:=fun r=>r=p) (fun _=>⟨p,rfl,rfl⟩) fun o J=> ?_
 refine .cb (P:=fun r=>r=c) (fun aa=>⟨c,by rw [J aa]; exact h,rfl⟩) fun b5 aa=> .ret ?_
 cases hu:c.cW with
 | true=>rfl
 | false=>rw [aa (by rw [hu]; rfl)]
theorem SA (v:aw) (n:Nat):(dd v n).length=n:=by unfold dd; simp
theorem SB (v:aw) {i n:Nat} (h:i≤n):dd v n=dd v i ++ (dd v n).drop i:=by
 have:dd v i=(dd v n).take i:=by unfold dd; rw [← List.map_take,List.take_range]; congr 2; omega
 rw [this,List.take_append_drop]
theorem Dl {hp:aH Cell} {r:Ref} {v:aw} {i n:Nat} (h:i≤n) {p:Nat} (hp':b3 hp r (dd v n)=some p):∃ q,b3 hp r (dd v i)=some q:=by
 rw [SB v h,iN] at hp'
 cases e:b3 hp r (dd v i) with
 | none=>rw [e,eN] at hp'; cases hp'
 | some q=>exact⟨q,rfl⟩
theorem SC {hp:aH Cell} {t:Nat} {g:List Bool→Option Int} (h:iF hp t g) {n:Nat} (aF:n≤32) {v:aw} (a3:∀ j,j < 128→b4 v j=true→lead 32 n j=true) {id:Int} (bg:g (dd v n)=some id):
 br (rq hp (some t) v n) (fun r=>r.1=true∧iF r.2 t (fun aE=>if aE=dd v n then none else g aE)∧cw hp r.2 (Own hp t)∧ ∀ q,Own r.2 t q→Own hp t q):=by
 obtain⟨c,ag,hb,bl,wL⟩:=h.ok
 have Ic:∃ p,b3 hp c.bK (dd v n)=some p:=by
  cases e:b3 hp c.bK (dd v n) with
  | none=>rw [← wL,hc e] at bg; cases bg
  | some p=>exact⟨p,rfl⟩
 obtain⟨mr,ig⟩:=Ic
 have HI:∃ r,c.bK=some r:=by
  obtain⟨q,hq⟩:=Dl (Nat.zero_le n) ig
  rw [zj,im] at hq
  exact⟨q,hq⟩
 obtain⟨r,aD⟩:=HI
 rw [aD] at bl wL ig
 unfold rq
 refine .eq (MT h aF a3) ?_
 rw [bg]
 refine .cond (fun ag=>by cases ag) fun _=> .eq rfl (.eq ag (.eq rfl ?_))
 rw [aD]
 show br (Option.bind (mw hp (n:Int) v (some t) _ _) _) _
 refine br.bind (P:=fun e:(List Int × List Ref) ⊕ Empty=> ∃ bits hk,e= .inl (bits,hk)∧hk.length=n + 1∧bits.length=n∧ (∀ j,j≤n→aJ hk j=b3 hp (some r) (dd v j))∧ ∀ j,j < n→aJ bits j=((dW (b4 v (31 - j)):Nat):Int))
  (HH ag hb v aF (fun i s=> ∃ bits hk,s=(bits,hk)∧hk.length=i + 1∧bits.length=i∧ (∀ j,j≤i→aJ hk j=b3 hp (some r) (dd v j))∧ ∀ j,j < i→aJ bits j=((dW (b4 v (31 - j)):Nat):Int)) ⟨[],[some r],rfl,rfl,rfl,fun j aB=> ?_,fun j aB=>by omega⟩ (fun i s ao hs=> ?_) (fun s hs=> ?_)) fun e he=> ?_
 ·have:j=0:=by omega
  subst this
  rw [zj,im]; rfl
 ·obtain⟨bits,hk,rfl,J,aa,av,aO⟩:=hs
  obtain⟨q,hq⟩:=Dl (show i≤n by omega) ig
  obtain⟨d,hd⟩:=bl.reads _ _ hq
  have hw:bE ((hk.length:Int) - 1)=(i:Int):=by rw [hr (by omega) (by omega)]; omega
  simp only [hw]
  have bY:dW (b4 v (31 - i)) < 2:=by cases b4 v (31 - i) <;> decide
  refine .idx rfl (by omega) (.eq (a:=q) (by rw [av i (Nat.le_refl _)]; exact hq) (.idx rfl bY (.eq hd (.eq (ko _ _ (by simp; omega) (by omega)) (.eq (ko _ _ (by simp; omega) (by omega)) (.ret ⟨_,_,rfl,by simp; omega,by simp; omega,fun j aB=> ?_,fun j aB=> ?_⟩))))))
  ·rw [CJ]
   by_cases eX:j=hk.length
   ·rw [if_pos eX,show j=i + 1 by omega,zi,iN,hq,gd hd,im]
   ·rw [if_neg eX]; exact av j (by omega)
  ·rw [CJ]
   by_cases eX:j=bits.length
   ·rw [if_pos eX,show j=i by omega]
   ·rw [if_neg eX]; exact aO j (by omega)
 ·exact⟨s.1,s.2,by obtain⟨bits,hk,rfl,_⟩:=hs; rfl,by obtain⟨bits,hk,rfl,h⟩:=hs; exact h⟩
 obtain⟨bits,hk,rfl,J,aa,av,aO⟩:=he
 simp only [Sum.elim_inl]
 obtain⟨d,hd⟩:=bl.reads _ _ ig
 have wK:=kn.1 hd
 have hi:cg (ch hp mr (.ev { d with cW:=false })) mr=some { d with cW:=false } :=o2 wK
 refine .idx rfl (by omega) (.eq (a:=mr) (by rw [av n (Nat.le_refl _)]; exact ig) (.eq hd (.eq rfl (.eq hi (.eq rfl ?_)))))
 generalize ck:ch (ch hp mr (.ev { d with cW:=false })) mr (.ev { d with cW:=false,gi:=0 })=bI
 have dZ:=tS hd ag
 have qe:cg bI mr=some { d with cW:=false,gi:=0 } :=by rw [← ck]; exact o2 (kn.1 hi)
 have v3:∀ q,q≠mr→pat bI q=pat hp q:=fun q hq=>by rw [← ck,jK hq.symm,jK hq.symm]
 obtain⟨s1,s2⟩:=Eb bl ig hd qe rfl fun q hq=>pB (v3 q hq)
 have BT:=va hd qe rfl fun q hq=>pB (v3 q hq)
 have I5:ey bI t=some c:=by rw [zb (v3 t dZ.symm)]; exact ag
 have Af:Own hp t mr:= .inr ⟨c,_,ag,by rw [aD]; exact ig⟩
 have dj:cw hp bI (Own hp t):=by
  rw [← ck]
  exact(cw.up (own:=Own hp t) Af).trans (cw.up Af) fun q _ h=>h
 have BS:Ib hp bI t (fun aE=>if aE=dd v n then none else g aE) r:=⟨⟨c,I5,hb,aD⟩,s1,fun aE=>by
  rw [s2]
  by_cases e:aE=dd v n
  ·rw [if_pos e]; simp only [if_pos e]; rfl
  ·rw [if_neg e]; simp only [if_neg e]; exact wL aE,dj,fun aE q hq=> .inr ⟨c,aE,ag,by rw [aD,← BT]; exact hq⟩⟩
 have q2:bE ((n:Int) - 1)=(n:Int) - 1:=hr (by omega) (by omega)
 rw [q2]
 refine br.bind (P:=fun aX=>Ib hp aX.2.2 t (fun aE=>if aE=dd v n then none else g aE) r) (br.DU n (fun i st=> ∃ hq,st=((n:Int) - 1 - (i:Int),hq)∧Ib hp hq t (fun aE=>if aE=dd v n then none else g aE) r∧ ∀ j,j + i≤n→b3 hq (some r) (dd v j)=aJ hk j) (by omega) ⟨bI,by simp,BS,fun j aB=>by rw [BT,av j (by omega)]⟩ (fun i st ao hs=> ?_) (fun st hs=> ?_)) fun aX mm=> ?_
 ·obtain⟨hq,rfl,hm,v5⟩:=hs
  have az:(n:Int) - 1 - (i:Int)=((n - 1 - i:Nat):Int):=by omega
  have aX:bE ((n:Int) - 1 - (i:Int) + 1)=((n - i:Nat):Int):=by rw [hr (by omega) (by omega)]; omega
  have dS:bE ((n:Int) - 1 - (i:Int) - 1)=(n:Int) - 1 - ((i + 1:Nat):Int):=by rw [hr (by omega) (by omega)]; omega
  simp only [aX,dS]
  have nn:decide ((n:Int) - 1 - (i:Int)≥0)=true:=by rw [decide_eq_true_eq]; omega
  simp only [nn]
  have fp:=v5 (n - i) (by omega)
  have nm:=v5 (n - 1 - i) (by omega)
  obtain⟨al,sB⟩:=Dl (show n - i≤n by omega) ig
  obtain⟨ab,wA⟩:=Dl (show n - 1 - i≤n by omega) ig
  rw [av _ (by omega),sB] at fp
  rw [av _ (by omega),wA] at nm
  obtain⟨bw,di⟩:=hm.tree.reads _ _ fp
  obtain⟨w1,oM⟩:=hm.tree.reads _ _ nm
  refine .cb (P:=fun jD=>jD=n - i) (fun _=>⟨_,tx (by omega),rfl⟩) fun jD p0=> ?_
  rw [p0 rfl]
  have yc:aJ hk (n - i)=some al:=by rw [av _ (by omega)]; exact sB
  have Bo:aJ hk (n - 1 - i)=some ab:=by rw [av _ (by omega)]; exact wA
  refine .cb (P:=fun y=>y=(!bw.cW && decide (bw.ct=default))) (fun _=>⟨_,by rw [yc]; exact empty_eq di,rfl⟩) fun c8 jS=> .cond (fun dc=> ?_) fun dc=> .ret hm
  rw [Bool.true_and,jS rfl,Bool.and_eq_true,Bool.not_eq_true',decide_eq_true_eq] at dc
  obtain⟨bJ,en⟩:=dc
  have bY:dW (b4 v (31 - (n - 1 - i))) < 2:=by cases b4 v (31 - (n - 1 - i)) <;> decide
  have HJ:dd v (n - i)=dd v (n - 1 - i) ++ [b4 v (31 - (n - 1 - i))]:=by rw [← zi,show n - 1 - i + 1=n - i by omega]
  have kh:bB w1.ct (dW (b4 v (31 - (n - 1 - i))))=some al:=by
   rw [HJ,iN,nm,gd oM,im] at fp; exact fp
  have ga:=kn.1 oM
  refine .idx az (by omega) (.idx az (by omega) (.eq Bo (.idx (aO _ (by omega)) bY (.eq oM (.eq rfl (.ret ?_))))))
  obtain⟨ax,a5,bH⟩:=cut (hp':=ch hq ab (.ev { w1 with ct:=fW w1.ct (dW (b4 v (31 - (n - 1 - i)))) none })) hm.tree nm oM kh di (fun x=>by rw [en,th]; rfl) bJ (o2 ga) fun x ai=>mx ai.symm
  obtain⟨hM,cq,cF,eM⟩:=hm.cell
  have HK:=hm.own _ _ nm
  refine⟨_,rfl,⟨⟨hM,by rw [tl (tS oM cq)]; exact cq,cF,eM⟩,ax,fun aE=>by rw [bH]; exact hm.cont aE,hm.keeps.trans (cw.up HK) fun q _ h=>h,fun aE q gA=> ?_⟩,fun j aB=> ?_⟩
  ·rw [a5] at gA
   split at gA
   ·cases gA
   ·exact hm.own aE q gA
  ·rw [a5,if_neg (fun e=>by have:=congrArg List.length e; simp only [List.length_append,SA,List.length_singleton] at this; omega)]
   exact v5 j (by omega)
 ·obtain⟨hq,rfl,hm,_⟩:=hs
  have nn:decide ((n:Int) - 1 - (n:Int)≥0)=false:=by rw [decide_eq_false_iff_not]; omega
  simp only [nn]
  refine .cb (P:=fun _=>True) (fun ag=>by cases ag) fun _ _=> .cb (P:=fun _=>True) (fun ag=>by cases ag) fun _ _=> .cond (fun ag=>by cases ag) fun _=> .ret hm
 ·obtain⟨jX,cq,cF,eM⟩:=mm.cell
  refine .eq cq ?_
  rw [eM]
  obtain⟨E3,oQ⟩:=mm.tree.reads [] r rfl
  refine .eq (empty_eq oQ) (.bind (P:=fun bq=>iF bq t (fun aE=>if aE=dd v n then none else g aE)∧cw hp bq (Own hp t)∧ ∀ q,Own bq t q→Own hp t q) (.cond (fun dc=> .eq rfl (.ret ?_)) fun _=> .ret ?_) fun bq cn=> .ret ⟨rfl,cn⟩)
  ·rw [Bool.and_eq_true,Bool.not_eq_true',decide_eq_true_eq] at dc
   obtain⟨bJ,en⟩:=dc
   have Bw:ey (ch aX.2.2 t (.gL { jX with bK:=none })) t=some { jX with bK:=none } :=CS (my.1 cq)
   refine⟨⟨_,Bw,cF,⟨fun aE p h=>(by rw [eN] at h; cases h),fun aE cs p h=>(by rw [eN] at h; cases h),fun aE p h=>(by rw [eN] at h; cases h)⟩,fun aE=> ?_⟩,mm.keeps.trans (cw.up (own:=Own hp t) (.inl rfl)) fun q _ h=>h,fun q hq=> ?_⟩
   ·rw [hc eN,← mm.cont]
    cases aE with
    | nil=>rw [h4 (p:=r) rfl oQ,bJ]; rfl
    | cons b aE=>rw [hc]; rw [gd oQ,en,th]; exact eN
   ·rcases hq with rfl | ⟨hM,aE,c4,dq⟩
    ·exact .inl rfl
    ·rw [Bw] at c4; cases c4
     rw [eN] at dq; cases dq
  ·refine⟨⟨jX,cq,cF,by rw [eM]; exact mm.tree,fun aE=>by rw [eM]; exact mm.cont aE⟩,mm.keeps,fun q hq=> ?_⟩
   rcases hq with rfl | ⟨hM,aE,c4,dq⟩
   ·exact .inl rfl
   ·rw [cq] at c4; cases c4
    rw [eM] at dq
    exact mm.own aE q dq
def ih (hp:aH Cell):Nat→Ref→List Int
 | 0,_=> []
 | _ + 1,none=> []
 | n + 1,some p=>match cg hp p with
   | none=> []
   | some c=>(bif c.cW then [c.gi] else []) ++ (ih hp n (bB c.ct 0) ++ ih hp n (bB c.ct 1))
theorem DB {hp:aH Cell} {n p:Nat} {c:dn} (h:cg hp p=some c):ih hp (n + 1) (some p)=(bif c.cW then [c.gi] else []) ++ (ih hp n (bB c.ct 0) ++ ih hp n (bB c.ct 1)):=by
 show(match cg hp p with | none=> [] | some c=>_)=_
 rw [h]
theorem rF {hp:aH Cell} {p:Nat} {c:dn} (h:cg hp p=some c) (b:Bool) (aE:List Bool):cont hp (some p) (b :: aE)=cont hp (bB c.ct (dW b)) aE:=by
 unfold cont; rw [gd h]
theorem tr {hp:aH Cell} :∀ {n:Nat} {r:Ref} {id:Int},id∈ih hp n r→ ∃ aE,cont hp r aE=some id
 | 0,_,_,h=>by cases h
 | _ + 1,none,_,h=>by cases h
 | n + 1,some p,id,h=>by
   cases ag:cg hp p with
   | none=>
     have:ih hp (n + 1) (some p)= []:=by
      show(match cg hp p with | none=> [] | some c=>_)=_
      rw [ag]
     rw [this] at h; cases h
   | some c=>
     rw [DB ag] at h
     rcases List.mem_append.1 h with h | h
     ·refine⟨[],?_⟩
      rw [h4 (p:=p) rfl ag]
      cases hu:c.cW with
      | true=>rw [hu] at h; rw [List.mem_singleton.1 h]; rfl
      | false=>rw [hu] at h; cases h
     ·rcases List.mem_append.1 h with h | h
      ·obtain⟨aE,gA⟩:=tr h
       exact⟨false :: aE,by rw [rF ag]; exact gA⟩
      ·obtain⟨aE,gA⟩:=tr h
       exact⟨true :: aE,by rw [rF ag]; exact gA⟩
theorem Gf {hp:aH Cell} :∀ {n:Nat} {r:Ref} {id:Int} {aE:List Bool},aE.length < n→cont hp r aE=some id→id∈ih hp n r
 | 0,_,_,_,an,_=>by omega
 | n + 1,none,id,aE,_,h=>by rw [hc eN] at h; cases h
 | n + 1,some p,id,aE,an,h=>by
   cases ag:cg hp p with
   | none=>
     exfalso
     cases aE with
     | nil=>
       unfold cont at h
       have:b3 hp (some p) []=some p:=rfl
       rw [this] at h
       simp only [ag] at h; cases h
     | cons b aE=>
       have:b3 hp (some p) (b :: aE)=none:=by
        show(match cg hp p with | none=>none | some c=>b3 hp (bB c.ct (dW b)) aE)=none
        rw [ag]
       rw [hc this] at h; cases h
   | some c=>
     rw [DB ag]
     cases aE with
     | nil=>
       rw [h4 (p:=p) rfl ag] at h
       cases hu:c.cW with
       | true=>
         rw [hu] at h
         have:c.gi=id:=by simpa using h
         rw [this]; simp
       | false=>rw [hu] at h; cases h
     | cons b aE=>
       rw [rF ag] at h
       have kX:aE.length < n:=by simp at an; omega
       have:=Gf kX h
       cases b
       ·exact List.mem_append_right _ (List.mem_append_left _ this)
       ·exact List.mem_append_right _ (List.mem_append_right _ this)
theorem FZ {hp:aH Cell} :∀ {n:Nat} {r:Ref},(∀ aE cs id,cont hp r aE=some id→cont hp r cs=some id→aE=cs)→ (ih hp n r).Nodup
 | 0,_,_=>List.nodup_nil
 | _ + 1,none,_=>List.nodup_nil
 | n + 1,some p,h=>by
   cases ag:cg hp p with
   | none=>
     have:ih hp (n + 1) (some p)= []:=by
      show(match cg hp p with | none=> [] | some c=>_)=_
      rw [ag]
     rw [this]; exact List.nodup_nil
   | some c=>
     rw [DB ag]
     have hb:∀ b,(ih hp n (bB c.ct (dW b))).Nodup:=fun b=>FZ fun aE cs id J aa=>by
      have:=h (b :: aE) (b :: cs) id (by rw [rF ag]; exact J) (by rw [rF ag]; exact aa)
      simpa using this
     rw [List.nodup_append,List.nodup_append]
     refine⟨by cases c.cW <;> simp,⟨hb false,hb true,fun a a9 hM nu e=> ?_⟩,fun a a9 hM nu e=> ?_⟩
     ·subst e
      obtain⟨aE,J⟩:=tr a9
      obtain⟨cs,aa⟩:=tr nu
      have:=h (false :: aE) (true :: cs) a (by rw [rF ag]; exact J) (by rw [rF ag]; exact aa)
      simp at this
     ·subst e
      cases hu:c.cW with
      | false=>rw [hu] at a9; cases a9
      | true=>
        rw [hu] at a9
        have a9:a=c.gi:=List.mem_singleton.1 a9
        have bA:cont hp (some p) []=some a:=by rw [h4 (p:=p) rfl ag,hu,a9]; rfl
        rcases List.mem_append.1 nu with J | J
        ·obtain⟨aE,J⟩:=tr J
         have:=h [] (false :: aE) a bA (by rw [rF ag]; exact J)
         cases this
        ·obtain⟨aE,J⟩:=tr J
         have:=h [] (true :: aE) a bA (by rw [rF ag]; exact J)
         cases this
theorem Gg:∀ {l m:List Int},l.Nodup→ (∀ x∈l,x∈m)→l.length≤m.length
 | [],m,_,_=>Nat.zero_le _
 | x :: l,m,aF,h=>by
   obtain⟨J,aa⟩:=List.nodup_cons.1 aF
   have ai:=h x (by simp)
   have:=Gg (m:=m.erase x) aa fun y a4=>(List.mem_erase_of_ne fun e=>J (by rw [← e]; exact a4)).2 (h y (by simp [a4]))
   rw [List.length_erase_of_mem ai] at this
   have hp:=List.length_pos_of_mem ai
   simp only [List.length_cons]; omega
theorem SD (v:aw) (n:Int):br (y5 v n) (fun _=>True):=by
 unfold y5
 exact .cond (fun _=> .ret trivial) fun _=> .cond (fun _=> .eq rfl (.ret trivial)) fun _=> .eq rfl (.eq rfl (.ret trivial))
theorem Dm {hp:aH Cell} {t:Nat} {c:eJ} (ag:ey hp t=some c):∀ (d f:Nat) (r:Ref) (aU:aw) (cE:Int) (hW:List da),d < f→ (∀ aE p,b3 hp r aE=some p→aE.length < d)→ (∀ aE p,b3 hp r aE=some p→ ∃ c,cg hp p=some c)→hW.length + (ih hp d r).length≤20000→
 br (uA f hp (some t) r aU cE hW) (fun o=>o.length=hW.length + (ih hp d r).length)
 | d,0,r,aU,cE,hW,aV,_,_,_=>by omega
 | 0,f + 1,none,aU,cE,hW,aV,hd,aD,an=>⟨hW,rfl,rfl⟩
 | 0,f + 1,some p,aU,cE,hW,aV,hd,aD,an=>by have:=hd [] p rfl; simp at this
 | d + 1,f + 1,none,aU,cE,hW,aV,hd,aD,an=>⟨hW,rfl,rfl⟩
 | d + 1,f + 1,some p,aU,cE,hW,aV,hd,aD,an=>by
   obtain⟨e,he⟩:=aD [] p rfl
   rw [DB he] at an ⊢
   simp only [List.length_append] at an ⊢
   have kh:∀ b,(∀ aE q,b3 hp (bB e.ct (dW b)) aE=some q→aE.length < d)∧ ∀ aE q,b3 hp (bB e.ct (dW b)) aE=some q→ ∃ c,cg hp q=some c:=fun b=>⟨fun aE q hq=>by
    have:=hd (b :: aE) q (by rw [gd he]; exact hq)
    simp at this; omega,fun aE q hq=>aD (b :: aE) q (by rw [gd he]; exact hq)⟩
   show br (cond (some p:Ref).isNone (some hW) _) _
   refine .cond (fun ag=>by cases ag) fun _=> ?_
   refine .bind (P:=fun y=>y.length=hW.length + (bif e.cW then [e.gi] else []).length) ?_ fun aG bF=> ?_
   ·unfold B1
    refine .eq rfl (.eq he ?_)
    cases hu:e.cW with
    | true=>
      rw [hu] at an
      simp only [cond_true,List.length_singleton] at an
      refine .eq (a:=hW ++ [{ cL:=aU,u2:=cE,bW:=e.gi }]) ?_ (.ret (by simp))
      show(iI 32 hW _).bind _=_
      rw [ko _ _ (by simp; omega) (by omega)]; rfl
    | false=>exact .eq rfl (.ret (by simp))
   ·refine .eq rfl (.eq he (.bind (Dm ag d f _ aU (bE (cE + 1)) aG (by omega) (kh false).1 (kh false).2 (by rw [bF]; show _ + _ + (ih hp d (bB e.ct 0)).length≤_; omega)) fun aQ cR=> ?_))
    have cR:aQ.length=aG.length + (ih hp d (bB e.ct 0)).length:=cR
    refine .eq rfl (.eq rfl (.eq ag (.bind (SD _ _) fun cD _=> .eq rfl (.bind (Dm ag d f _ _ (bE (cE + 1)) aQ (by omega) (kh true).1 (kh true).2 (by rw [cR,bF]; show _ + _ + _ + (ih hp d (bB e.ct 1)).length≤_; omega)) fun eU kB=> .ret ?_))))
    have kB:eU.length=aQ.length + (ih hp d (bB e.ct 1)).length:=kB
    rw [kB,cR,bF]; omega
theorem UT {hp:aH Cell} {t:Nat} {g:List Bool→Option Int} (h:iF hp t g) (ao:∀ aE cs id,g aE=some id→g cs=some id→aE=cs) (m:List Int) (hm:∀ aE id,g aE=some id→id∈m) (an:m.length≤20000):br (rz hp (some t)) (fun r=>r=0→ ∀ aE,g aE=none):=by
 obtain⟨c,ag,hb,bl,bg⟩:=h.ok
 have aF:(ih hp 33 c.bK).Nodup:=FZ fun aE cs id J aa=>ao aE cs id (by rw [← bg]; exact J) (by rw [← bg]; exact aa)
 have hle:(ih hp 33 c.bK).length≤m.length:=Gg aF fun x ai=>by
  obtain⟨aE,gA⟩:=tr ai
  exact hm aE x (by rw [← bg]; exact gA)
 unfold rz yY yB
 refine .bind (P:=fun y=>y.length=(ih hp 33 c.bK).length) (.bind (P:=fun y=>y.length=(ih hp 33 c.bK).length) (.bind (P:=fun y=>y.length=(ih hp 33 c.bK).length) (.cond (fun _=> .eq rfl (.eq ag ((show br (BU hp (some t) c.bK default 0 []) _ from Dm ag 33 fX c.bK default 0 [] (by unfold fX; omega) (fun aE p hp=>by have:=bl.dep aE p hp; omega) bl.reads (by simp; omega)).bind fun y a4=> .ret (by simpa using a4)))) fun ag=>by cases ag) fun y a4=> .ret a4) fun y a4=> .ret a4) fun y a4=> .ret fun bA aE=> ?_
 have bA:(ih hp 33 c.bK).length=0:=by rw [← a4]; have:(y.length:Int)=0:=bA; omega
 cases I6:g aE with
 | none=>rfl
 | some id=>
   have wM:cont hp c.bK aE=some id:=by rw [bg]; exact I6
   have hlen:aE.length < 33:=by
    cases aV:b3 hp c.bK aE with
    | none=>rw [hc aV] at wM; cases wM
    | some p=>have:=bl.dep aE p aV; omega
   have:=Gf hlen wM
   rw [List.eq_nil_of_length_eq_zero bA] at this; cases this
structure iE (hp:aH Cell) (t:Nat) (g:List Bool→Option Int):Prop where
 ok:∃ c,ey hp t=some c∧c.eu=4∧k9 hp c.bK∧ ∀ aE,cont hp c.bK aE=g aE
def dC (v:aw) (n:Nat):List Bool:=(List.range n).map fun i=>b4 v (3 - i)
theorem zc (v:aw) (n:Nat):dC v (n + 1)=dC v n ++ [b4 v (3 - n)]:=by simp [dC,List.range_succ]
theorem FF (v:aw):dC v 0= []:=rfl
theorem KW {hp:aH Cell} {t:Nat} {c:eJ} (ag:ey hp t=some c) (hb:c.eu=4) {n:Nat} (aF:n≤4) {v:aw} (a3:∀ j,j < 128→b4 v j=true→lead 4 n j=true):
 s9 hp (some t) v n=some true:=by
 refine br.get ?_
 unfold s9
 have az:(Option.isSome (some t) && decide ((n:Int)≥0))=true:=by simp
 have aX:decide ((n:Int)≤c.eu)=true:=by rw [hb]; simp; omega
 refine .cb (P:=fun r=>r=t) (fun _=>⟨t,rfl,rfl⟩) fun bT J=> ?_
 rw [J az]
 refine .cb (P:=fun r=>r=c) (fun _=>⟨c,ag,rfl⟩) fun bw aa=> ?_
 rw [aa az]
 rw [az,aX]
 refine .cb (P:=fun r=>r=t) (fun _=>⟨t,rfl,rfl⟩) fun bU av=> ?_
 rw [av rfl]
 refine .cb (P:=fun r=>r=c) (fun _=>⟨c,ag,rfl⟩) fun b5 aO=> ?_
 rw [aO rfl,hb]
 refine .cb (fun _=>FP 4 n (by decide) (by decide)) fun aG aS=> ?_
 refine .cb (P:=fun r=>r=se v aG) (fun _=>⟨_,and_eq v aG,rfl⟩) fun aQ aY=> ?_
 refine .eq rfl (.ret ?_)
 have:aQ=v:=by
  rw [aY rfl]
  refine Dy fun j aB=> ?_
  rw [vh,aS rfl j aB]
  cases e:b4 v j with
  | false=>rfl
  | true=>rw [a3 j aB e]; rfl
 rw [this]; simp
theorem Mm {v:aw} {i:Nat} (ao:i < 4):br (tj v (bE ((bE ((4:Int) - 1)) - (i:Int)))) (fun r=>r=b4 v (3 - i)):=by
 have e:bE ((bE ((4:Int) - 1)) - (i:Int))=((3 - i:Nat):Int):=by
  rw [show bE ((4:Int) - 1)=3 from by rw [hr (by decide) (by decide)]; rfl,hr (by omega) (by omega)]; omega
 rw [e]
 refine(MO v _).mono fun r aD=> ?_
 rw [aD]
 have:decide (0≤ ((3 - i:Nat):Int)∧ ((3 - i:Nat):Int) < 128)=true:=by rw [decide_eq_true_eq]; omega
 rw [this,Bool.true_and]; rfl
theorem Ha {σ ε:Type} {hp:aH Cell} {t:Nat} {c:eJ} (ag:ey hp t=some c) (hb:c.eu=4) (v:aw) {n:Nat} (aF:n≤4) {step:Int→σ→Option (σ ⊕ ε)} {bX:σ} {P:σ ⊕ ε→Prop} (eF:Nat→σ→Prop) (bA:eF 0 bX)
 (hs:∀ i s,i < n→eF i s→br (step ((dW (b4 v (3 - i)):Nat):Int) s) (fun r=>match r with | .inl bR=>eF (i + 1) bR | .inr e=>P (.inr e))) (he:∀ s,eF n s→P (.inl s)):br (mw hp n v (some t) step bX) P:=by
 unfold mw
 refine br.loop n (fun i s=>s.1=(i:Int)∧eF i s.2) (by omega) ⟨rfl,bA⟩ (fun i s ao ej=> ?_) (fun s ej=> ?_)
 ·obtain⟨j,s⟩:=s; obtain⟨az,aX⟩:=ej
  simp only at az aX; subst az
  refine br.cond (fun _=> ?_) (fun h=>by simp at h; omega)
  refine .eq rfl (.eq ag ?_)
  rw [hb]
  refine(Mm (by omega)).bind fun aG J=> .eq (DA aG) ?_
  rw [J]
  refine(hs i s ao aX).bind fun r aD=> ?_
  cases r with
  | inl bR=>exact .ret ⟨g5 (by omega),aD⟩
  | inr e=>exact .ret (.ret aD)
 ·obtain⟨j,s⟩:=s; obtain⟨az,aX⟩:=ej
  simp only at az aX; subst az
  refine⟨_,by simp; rfl,?_⟩
  exact .ret (he s aX)
theorem UU {σ ε:Type} {t:Nat} (v:aw) {n:Nat} (aF:n≤4) {hq:σ→aH Cell} {step:Int→σ→au (σ ⊕ ε)} {bX:σ} {P:σ ⊕ ε→Prop} (eF:Nat→σ→Prop) (bA:eF 0 bX) (kk:∀ i s,eF i s→ ∃ c,ey (hq s) t=some c∧c.eu=4)
 (hs:∀ i s,i < n→eF i s→cT (step ((dW (b4 v (3 - i)):Nat):Int) s) (fun r=>match r with | .inl bR=>eF (i + 1) bR | .inr e=>P (.inr e))) (he:∀ s,eF n s→P (.inl s)):cT (qs n v (some t) hq step bX) P:=by
 unfold qs
 refine .bind (P:=fun e=>match e with | .inl e=>P (.inl e.2.2) | .inr e=>P (.inr e.2.2.2.2.2.2)) (cT.loop n (fun i s=>s.1=(i:Int)∧eF i s.2) (by omega) ⟨rfl,bA⟩ (fun i s ao ej=> ?_) (fun s ej=> ?_)) fun e h=> ?_
 ·obtain⟨j,s⟩:=s; obtain⟨az,aX⟩:=ej
  simp only at az aX; subst az
  refine cT.cond (fun _=> ?_) (fun h=>by simp at h; omega)
  obtain⟨c,ag,hb⟩:=kk i s aX
  refine .eq rfl (.eq ag ?_)
  rw [hb]
  refine .ps (Mm (by omega)) fun aG J=> .eq (DA aG) ?_
  rw [J]
  refine .bind (hs i s ao aX) fun r aD=> ?_
  cases r with
  | inl bR=>exact .ret ⟨g5 (by omega),aD⟩
  | inr e=>exact .ret aD
 ·obtain⟨j,s⟩:=s; obtain⟨az,aX⟩:=ej
  simp only at az aX; subst az
  refine cT.cond (fun h=>by simp at h) fun _=> .ret (he s aX)
 ·cases e with
  | inl e=>exact .ret h
  | inr e=>exact .ret h
theorem Lk {hp:aH Cell} {t:Nat} {c:eJ} (ag:ey hp t=some c) (hb:c.eu=4) (bl:k9 hp c.bK) {n:Nat} (aF:n≤4) {v:aw} (a3:∀ j,j < 128→b4 v j=true→lead 4 n j=true):
 tc hp (some t) v n=some (b3 hp c.bK (dC v n)):=by
 refine br.get ?_
 unfold tc
 refine .eq (KW ag hb aF a3) (.cond (fun h=>by cases h) fun _=> .eq rfl (.eq ag (.eq rfl ?_)))
 show br (Option.bind (mw hp (n:Int) v (some t) _ _) _) _
 refine br.bind (P:=fun e:Ref ⊕ (Ref × Ref)=>e.elim (fun s=>s=b3 hp c.bK (dC v n)) (fun q=>q.2=b3 hp c.bK (dC v n))) (Ha ag hb v aF (fun i s=>s=b3 hp c.bK (dC v i)) im.symm (fun i s ao hs=> ?_) (fun s hs=>hs)) fun e he=> ?_
 ·refine .cond (fun h=> .ret ?_) fun h=> ?_
  ·rw [Option.isNone_iff_eq_none] at h
   have az:dC v n=dC v i ++ (dC v n).drop i:=by
    have:dC v i=(dC v n).take i:=by unfold dC; rw [← List.map_take,List.take_range]; congr 2; omega
    rw [this,List.take_append_drop]
   show(none:Ref)=_
   rw [az,iN,← hs,h,eN]
  ·cases s with
   | none=>simp at h
   | some p=>
     obtain⟨bw,J⟩:=bl.reads _ _ hs.symm
     refine .eq rfl (.idx rfl (by cases b4 v (3 - i) <;> decide) (.eq J (.ret ?_)))
     show bB bw.ct _=_
     rw [zc,iN,← hs,gd J,im]
 ·cases e with
  | inl s=>exact .ret he
  | inr q=>exact .ret he
theorem Mn {hp:aH Cell} {t:Nat} {g:List Bool→Option Int} (h:iE hp t g) {n:Nat} (aF:n≤4) {v:aw} (a3:∀ j,j < 128→b4 v j=true→lead 4 n j=true):
 qw hp (some t) v n=some (match g (dC v n) with | none=>(0,false) | some id=>(id,true)):=by
 obtain⟨c,ag,hb,bl,bg⟩:=h.ok
 refine br.get ?_
 unfold qw
 refine .eq (Lk ag hb bl aF a3) ?_
 rw [← bg]
 cases e:b3 hp c.bK (dC v n) with
 | none=>
   rw [hc e]
   refine .cb (P:=fun _=>True) (fun h=>by cases h) fun o _=> .cb (P:=fun _=>True) (fun h=>by cases h) fun o _=> .cond (fun _=> .ret rfl) fun h=>by cases h
 | some p=>
   obtain⟨d,hd⟩:=bl.reads _ _ e
   rw [h4 e hd]
   refine .cb (P:=fun r=>r=p) (fun _=>⟨p,rfl,rfl⟩) fun o J=> ?_
   rw [J rfl]
   refine .cb (P:=fun r=>r=d) (fun _=>⟨d,hd,rfl⟩) fun bw aa=> ?_
   rw [aa rfl]
   refine .cond (fun h=> ?_) fun h=> ?_
   ·have:d.cW=false:=by simpa using h
    rw [this]; exact .ret rfl
   ·have:d.cW=true:=by simpa using h
    rw [this]; exact .eq rfl (.eq hd (.ret rfl))
structure DV (ga hp:aH Cell) (t:Nat) (g:List Bool→Option Int) (r:Nat):Prop where
 cell:∃ c,ey hp t=some c∧c.eu=4∧c.bK=some r
 tree:k9 hp (some r)
 cont:∀ aE,cont hp (some r) aE=g aE
 keeps:cw ga hp (Own ga t)
 own:∀ aE q,b3 hp (some r) aE=some q→Own ga t q∨q ∉ cX ga
theorem TV {hp:aH Cell} {t:Nat} {g:List Bool→Option Int} {c:eJ} (ag:ey hp t=some c) (hb:c.eu=4) (bl:k9 hp c.bK) (bg:∀ aE,cont hp c.bK aE=g aE):
 cT (cond c.bK.isNone (
     au.bind (au.mk hp (Cell.ev (default:dn))) fun cF=>
     au.bind (au.of (ey cF.2 t)) fun wV=>
     au.bind (au.of (some (ch cF.2 t (Cell.gL ({ wV with bK:=(some cF.1:Ref) } :eJ))))) fun q3=>
     au.ret q3) (au.ret hp)) (fun b9=> ∃ r,DV hp b9 t g r):=by
 have dZ:=my.1 ag
 refine .cond (fun h=> .mk fun a a9=> ?_) fun h=> ?_
 ·have aD:c.bK=none:=by rw [Option.isNone_iff_eq_none] at h; exact h
  have Bt:=qA a9 dZ
  have wj:ey ((a,Cell.ev default) :: hp) t=some c:=by rw [Cz Bt]; exact ag
  refine .eq wj (.eq rfl (.ret ⟨a,?_⟩))
  have aF:cg (ch ((a,Cell.ev default) :: hp) t (.gL { c with bK:=some a })) a=some default:=by
   rw [mx Bt.symm,CR]
  have aV:=FY aF
  refine⟨⟨_,CS (my.1 wj),hb,rfl⟩,⟨fun aE p J=> ?_,fun aE cs p J aa=> ?_,fun aE p J=> ?_⟩,fun aE=> ?_,?_,fun aE q J=> ?_⟩
  ·rw [aV] at J
   split at J
   ·cases J; exact⟨_,aF⟩
   ·cases J
  ·rw [aV] at J aa
   split at J <;> split at aa
   ·rename_i az aX; rw [az,aX]
   ·cases aa
   ·cases J
   ·cases J
  ·rw [aV] at J
   split at J
   ·rename_i e; rw [e]; exact Nat.zero_le _
   ·cases J
  ·rw [← bg,aD,hc eN]
   by_cases e:aE= []
   ·rw [h4 (by rw [aV,if_pos e]) aF]; rfl
   ·rw [hc (by rw [aV,if_neg e])]
  ·exact(cw.mk' a9).trans (own':=fun q=>q=t) (cw.up (own:=fun q=>q=t) rfl) fun q _ J=> .inl J
  ·rw [aV] at J
   split at J
   ·cases J; exact .inr a9
   ·cases J
 ·cases aD:c.bK with
  | none=>rw [aD] at h; cases h
  | some r=>
    rw [aD] at bl bg
    exact .ret ⟨r,⟨c,ag,hb,aD⟩,bl,bg,.refl,fun aE q J=> .inl (.inr ⟨c,aE,ag,by rw [aD]; exact J⟩)⟩
theorem UW {hp:aH Cell} {t:Nat} {g:List Bool→Option Int} (h:iE hp t g) {n:Nat} (aF:n≤4) {v:aw} (a3:∀ j,j < 128→b4 v j=true→lead 4 n j=true) (id:Int) (dN:g (dC v n)=none):
 cT (rA hp (some t) v n id) (fun r=>r.1=true∧iE r.2 t (fun aE=>if aE=dC v n then some id else g aE)∧cw hp r.2 (Own hp t)∧ ∀ q,Own r.2 t q→Own hp t q∨q ∉ cX hp):=by
 obtain⟨c,ag,hb,bl,bg⟩:=h.ok
 unfold rA
 refine .eq (KW ag hb aF a3) (.cond (fun h=>by cases h) fun _=> .eq (Lk ag hb bl aF a3) ?_)
 refine .cb (P:=fun o=>b3 hp c.bK (dC v n)=some o) (fun J=> ?_) fun bT J=> ?_
 ·cases e:b3 hp c.bK (dC v n) with
  | none=>rw [e] at J; cases J
  | some p=>exact⟨p,rfl,rfl⟩
 refine .cb (P:=fun d=>cg hp bT=some d) (fun aa=> ?_) fun bw aa=> ?_
 ·obtain⟨d,hd⟩:=bl.reads _ _ (J aa)
  exact⟨d,hd,hd⟩
 refine .cond (fun av=> ?_) fun _=> ?_
 ·simp only [Bool.and_eq_true] at av
  rw [← bg,h4 (J av.1) (aa av.1),av.2] at dN
  cases dN
 refine .eq rfl (.eq ag (.bind (TV ag hb bl bg) fun bq cn=> ?_))
 obtain⟨r,cn⟩:=cn
 obtain⟨eo,jT,ZX,I3⟩:=cn.cell
 refine .eq jT (.eq rfl ?_)
 show cT (au.bind (qs (n:Int) v (some t) _ _ _) _) _
 refine .bind (P:=fun e:(Ref × aH Cell) ⊕ Empty=> ∃ p bI,e= .inl (some p,bI)∧b3 bI (some r) (dC v n)=some p∧DV hp bI t g r) (UU v aF (fun i s=> ∃ p,s.1=some p∧b3 s.2 (some r) (dC v i)=some p∧DV hp s.2 t g r) ⟨r,I3,im,cn⟩ (fun i s ao=> ?_) (fun i s ao hs=> ?_) (fun s hs=> ?_)) fun e he=> ?_
 ·obtain⟨p,_,_,hm⟩:=ao
  obtain⟨d,aO,aS,_⟩:=hm.cell
  exact⟨d,aO,aS⟩
 ·obtain⟨I4,bI⟩:=s
  obtain⟨p,az,aX,hm⟩:=hs
  simp only at az aX hm
  subst az
  obtain⟨d,hd⟩:=hm.tree.reads _ _ aX
  have bY:dW (b4 v (3 - i)) < 2:=by cases b4 v (3 - i) <;> decide
  refine .eq rfl (.idx rfl bY (.eq hd ?_))
  refine .bind (P:=fun fH=> ∃ q w0,cg fH p=some w0∧bB w0.ct (dW (b4 v (3 - i)))=some q∧b3 fH (some r) (dC v i)=some p∧DV hp fH t g r) (.cond (fun aY=> .mk fun a a9=> ?_) fun aY=> .ret ?_) fun fH b7=> ?_
  ·have kh:bB d.ct (dW (b4 v (3 - i)))=none:=by rw [Option.isNone_iff_eq_none] at aY; exact aY
   have Bu:=qA a9 (kn.1 hd)
   have hi:cg ((a,Cell.ev default) :: bI) p=some d:=by rw [Cy Bu]; exact hd
   refine .idx rfl bY (.eq hi (.eq rfl (.ret ?_)))
   have gK:cg (ch ((a,Cell.ev default) :: bI) p (.ev { d with ct:=fW d.ct (dW (b4 v (3 - i))) (some a) })) a=some default:=by
    rw [mx Bu.symm,CR]
   have ck:cg (ch ((a,Cell.ev default) :: bI) p (.ev { d with ct:=fW d.ct (dW (b4 v (3 - i))) (some a) })) p=some { d with ct:=fW d.ct (dW (b4 v (3 - i))) (some a) } :=o2 (kn.1 hi)
   obtain⟨ax,a5,bH⟩:=grow (by unfold dC; simp; omega) hm.tree aX hd kh (KV a9) ck gK fun q fp iy=>by rw [mx fp.symm,Cy iy.symm]
   have pT:Own hp t p∨p ∉ cX hp:=hm.own _ _ aX
   refine⟨a,_,ck,by rw [og _ _ bY,if_pos rfl],by rw [a5,if_neg (fun e=>by have:=congrArg List.length e; simp at this)]; exact aX,?_,ax,fun aE=>by rw [bH,hm.cont],?_,fun aE q hq=> ?_⟩
   ·obtain⟨d4,aO,aS,dV⟩:=hm.cell
    have dZ:=tS hd aO
    exact⟨d4,by rw [tl dZ,Cz (qA a9 (my.1 aO))]; exact aO,aS,dV⟩
   ·refine hm.keeps.trans (own':=fun q=>q=p) ((cw.mk' a9).trans (own':=fun q=>q=p) (cw.up (own:=fun q=>q=p) rfl) fun q _ eQ=>eQ) fun q hq eQ=> ?_
    subst eQ
    exact pT.resolve_right fun iz=>iz hq
   ·rw [a5] at hq
    split at hq
    ·cases hq; exact .inr fun eQ=>a9 (hm.keeps.keys _ eQ)
    ·exact hm.own _ _ hq
  ·cases kh:bB d.ct (dW (b4 v (3 - i))) with
   | none=>rw [kh] at aY; cases aY
   | some q=>exact⟨q,d,hd,kh,aX,hm⟩
  ·obtain⟨q,w0,dV,eQ,iz,pt⟩:=b7
   refine .idx rfl bY (.eq dV (.ret ⟨q,eQ,?_,pt⟩))
   show b3 fH (some r) (dC v (i + 1))=some q
   rw [zc,iN,iz,gd dV,eQ,im]
 ·obtain⟨I4,bI⟩:=s
  obtain⟨p,az,aX,hm⟩:=hs
  simp only at az aX hm
  subst az
  exact⟨p,bI,rfl,aX,hm⟩
 ·obtain⟨p,bI,rfl,aX,hm⟩:=he
  obtain⟨d,hd⟩:=hm.tree.reads _ _ aX
  have wK:=kn.1 hd
  refine .eq rfl (.eq hd (.eq rfl (.eq rfl ?_)))
  have hi:cg (ch bI p (.ev { d with cW:=true })) p=some { d with cW:=true } :=o2 wK
  refine .eq hi (.eq rfl (.ret ?_))
  have qe:cg (ch (ch bI p (.ev { d with cW:=true })) p (.ev { d with cW:=true,gi:=id })) p=some { d with cW:=true,gi:=id } :=o2 (kn.1 hi)
  obtain⟨s1,s2⟩:=Eb hm.tree aX hd qe rfl fun q hq=>by rw [mx hq.symm,mx hq.symm]
  obtain⟨d4,aO,aS,dV⟩:=hm.cell
  have dZ:=tS hd aO
  have oP:ey (ch (ch bI p (.ev { d with cW:=true })) p (.ev { d with cW:=true,gi:=id })) t=some d4:=by rw [tl dZ,tl dZ]; exact aO
  have pT:Own hp t p∨p ∉ cX hp:=hm.own _ _ aX
  refine⟨rfl,⟨d4,oP,aS,by rw [dV]; exact s1,fun aE=> ?_⟩,?_,fun q hq=> ?_⟩
  ·rw [dV,s2,hm.cont]; rfl
  ·refine hm.keeps.trans (own':=fun q=>q=p) ((cw.up (own:=fun q=>q=p) rfl).trans (own':=fun q=>q=p) (cw.up (own:=fun q=>q=p) rfl) fun q _ eQ=>eQ) fun q hq eQ=> ?_
   subst eQ
   exact pT.resolve_right fun iz=>iz hq
  ·rcases hq with rfl | ⟨hM,aE,J,aa⟩
   ·exact .inl (.inl rfl)
   ·rw [oP] at J; cases J
    rw [dV,va hd qe rfl (fun q hq=>by rw [mx hq.symm,mx hq.symm])] at aa
    exact hm.own _ _ aa
def MU (v:aw):Prop:= ∀ j,j < 128→b4 v j=true→j < 4
theorem S7 {v:aw} (h:MU v):uU v 4=some true:=by
 have df:v.dP=0#64:=by
  apply BitVec.eq_of_getLsbD_eq
  intro i ao
  have J:=h (64 + i) (by omega)
  unfold b4 at J
  rw [if_neg (by omega),show 64 + i - 64=i by omega] at J
  rw [BitVec.getLsbD_zero]
  cases e:v.dP.getLsbD i with
  | false=>rfl
  | true=>have:=J e; omega
 have fA:v.cv.toNat < 16:=by
  refine Nat.lt_pow_two_of_testBit (n:=4) _ fun i ao=> ?_
  cases e:v.cv.toNat.testBit i with
  | false=>rfl
  | true=>
    have bY:i < 64:=by
     rcases Nat.lt_or_ge i 64 with J | J
     ·exact J
     ·rw [Nat.testBit_lt_two_pow (Nat.lt_of_lt_of_le v.cv.isLt (Nat.pow_le_pow_right (by decide) J))] at e; cases e
    have:=h i (by omega) (by unfold b4; rw [if_pos bY,BitVec.getLsbD,e])
    omega
 have key:∀ k:Fin 16,uU ⟨0#64,BitVec.ofNat 64 k.1⟩ 4=some true:=by decide +kernel
 have a3:v=⟨0#64,BitVec.ofNat 64 v.cv.toNat⟩:=by
  obtain⟨a,b⟩:=v
  simp only at df ⊢
  rw [df,BitVec.ofNat_toNat,BitVec.setWidth_eq]
 rw [a3]
 exact key ⟨v.cv.toNat,fA⟩
def lM (g:List Bool→Option Int) (v:aw):Nat→Option (Nat × Int)
 | 0=>(g []).map fun id=>(0,id)
 | k + 1=>match g (dC v (k + 1)) with
   | some id=>some (k + 1,id)
   | none=>lM g v k
theorem RE {hp:aH Cell} {t:Nat} {g:List Bool→Option Int} (h:iE hp t g) {v:aw} (a3:MU v):uM hp (some t) v=some (enc (lM g v 4)):=by
 obtain⟨c,ag,hb,bl,bg⟩:=h.ok
 refine br.get ?_
 unfold uM
 refine .cb (P:=fun r=>r=t) (fun _=>⟨t,rfl,rfl⟩) fun bT J=> ?_
 rw [J rfl]
 refine .cb (P:=fun r=>r=c) (fun _=>⟨c,ag,rfl⟩) fun bw aa=> ?_
 rw [aa rfl,hb]
 refine .cb (P:=fun r=>r=true) (fun _=>⟨true,S7 a3,rfl⟩) fun aG av=> ?_
 rw [av rfl]
 refine .cond (fun ag=>by cases ag) fun _=> .eq rfl (.eq ag ?_)
 have v0:sZ hp c.bK 0 0 0 false=some (enc (lM g v 0)):=by
  have:=CT bl [] 0 none
  rw [im,bg] at this
  refine this.trans ?_
  unfold lM
  cases g [] <;> rfl
 rw [hb]
 refine .eq v0 (.eq rfl ?_)
 show br (Option.bind (mw hp ((4:Nat):Int) v (some t) _ _) _) _
 refine br.bind (P:=fun e:(Ref × Int × Int × Int × Bool) ⊕ (Ref × Int × Int × Int × Bool)=>e.elim (fun s=>s.2.2=enc (lM g v 4)) (fun q=>q.2.2=enc (lM g v 4)))
  (Ha ag hb v (Nat.le_refl 4) (fun i s=>s=(b3 hp c.bK (dC v i),(i:Int),enc (lM g v i))) (by rw [FF,im]; rfl) (fun i s ao hs=> ?_) (fun s hs=>by rw [hs]; rfl)) fun e he=> ?_
 ·subst hs
  refine .cond (fun h=> .ret ?_) fun h=> ?_
  ·have aF:b3 hp c.bK (dC v i)=none:=by
    simp only [Option.isNone_iff_eq_none] at h; exact h
   have key:∀ k,lM g v (i + k)=lM g v i:=fun k=>by
    induction k with
    | zero=>rfl
    | succ k bD=>
      have az:dC v (i + k + 1)=dC v i ++ (dC v (i + k + 1)).drop i:=by
       have:dC v i=(dC v (i + k + 1)).take i:=by unfold dC; rw [← List.map_take,List.take_range]; congr 2; omega
       rw [this,List.take_append_drop]
      have:g (dC v (i + k + 1))=none:=by
       rw [← bg,hc]
       rw [az,iN,aF,eN]
      show(match g (dC v (i + k + 1)) with | some id=>some (i + k + 1,id) | none=>lM g v (i + k))=_
      rw [this]; exact bD
   show enc (lM g v i)=enc (lM g v 4)
   have:=key (4 - i)
   rw [show i + (4 - i)=4 by omega] at this
   rw [this]
  ·cases e:b3 hp c.bK (dC v i) with
   | none=>simp [e] at h
   | some p=>
     obtain⟨d,hd⟩:=bl.reads _ _ e
     refine .eq rfl (.idx rfl (by cases b4 v (3 - i) <;> decide) (.eq hd ?_))
     have kh:bB d.ct (dW (b4 v (3 - i)))=b3 hp c.bK (dC v (i + 1)):=by rw [zc,iN,e,gd hd,im]
     have hw:bE ((i:Int) + 1)=((i + 1:Nat):Int):=g5 (by omega)
     simp only [kh,hw]
     refine .eq (CT bl (dC v (i + 1)) (i + 1) (lM g v i)) (.ret ?_)
     rw [bg]
     rfl
 ·cases e with
  | inl s=>exact .ret he
  | inr q=>exact .ret he
structure HL (ga hp:aH Cell) (t:Nat) (g:List Bool→Option Int) (r:Nat):Prop where
 cell:∃ c,ey hp t=some c∧c.eu=4∧c.bK=some r
 tree:k9 hp (some r)
 cont:∀ aE,cont hp (some r) aE=g aE
 keeps:cw ga hp (Own ga t)
 own:∀ aE q,b3 hp (some r) aE=some q→Own ga t q
theorem FQ (v:aw) (n:Nat):(dC v n).length=n:=by unfold dC; simp
theorem RZ (v:aw) {i n:Nat} (h:i≤n):dC v n=dC v i ++ (dC v n).drop i:=by
 have:dC v i=(dC v n).take i:=by unfold dC; rw [← List.map_take,List.take_range]; congr 2; omega
 rw [this,List.take_append_drop]
theorem CU {hp:aH Cell} {r:Ref} {v:aw} {i n:Nat} (h:i≤n) {p:Nat} (hp':b3 hp r (dC v n)=some p):∃ q,b3 hp r (dC v i)=some q:=by
 rw [RZ v h,iN] at hp'
 cases e:b3 hp r (dC v i) with
 | none=>rw [e,eN] at hp'; cases hp'
 | some q=>exact⟨q,rfl⟩
theorem R0 {hp:aH Cell} {t:Nat} {g:List Bool→Option Int} (h:iE hp t g) {n:Nat} (aF:n≤4) {v:aw} (a3:∀ j,j < 128→b4 v j=true→lead 4 n j=true) {id:Int} (bg:g (dC v n)=some id):
 br (rq hp (some t) v n) (fun r=>r.1=true∧iE r.2 t (fun aE=>if aE=dC v n then none else g aE)∧cw hp r.2 (Own hp t)∧ ∀ q,Own r.2 t q→Own hp t q):=by
 obtain⟨c,ag,hb,bl,wL⟩:=h.ok
 have Ic:∃ p,b3 hp c.bK (dC v n)=some p:=by
  cases e:b3 hp c.bK (dC v n) with
  | none=>rw [← wL,hc e] at bg; cases bg
  | some p=>exact⟨p,rfl⟩
 obtain⟨mr,ig⟩:=Ic
 have HI:∃ r,c.bK=some r:=by
  obtain⟨q,hq⟩:=CU (Nat.zero_le n) ig
  rw [FF,im] at hq
  exact⟨q,hq⟩
 obtain⟨r,aD⟩:=HI
 rw [aD] at bl wL ig
 unfold rq
 refine .eq (Mn h aF a3) ?_
 rw [bg]
 refine .cond (fun ag=>by cases ag) fun _=> .eq rfl (.eq ag (.eq rfl ?_))
 rw [aD]
 show br (Option.bind (mw hp (n:Int) v (some t) _ _) _) _
 refine br.bind (P:=fun e:(List Int × List Ref) ⊕ Empty=> ∃ bits hk,e= .inl (bits,hk)∧hk.length=n + 1∧bits.length=n∧ (∀ j,j≤n→aJ hk j=b3 hp (some r) (dC v j))∧ ∀ j,j < n→aJ bits j=((dW (b4 v (3 - j)):Nat):Int))
  (Ha ag hb v aF (fun i s=> ∃ bits hk,s=(bits,hk)∧hk.length=i + 1∧bits.length=i∧ (∀ j,j≤i→aJ hk j=b3 hp (some r) (dC v j))∧ ∀ j,j < i→aJ bits j=((dW (b4 v (3 - j)):Nat):Int)) ⟨[],[some r],rfl,rfl,rfl,fun j aB=> ?_,fun j aB=>by omega⟩ (fun i s ao hs=> ?_) (fun s hs=> ?_)) fun e he=> ?_
 ·have:j=0:=by omega
  subst this
  rw [FF,im]; rfl
 ·obtain⟨bits,hk,rfl,J,aa,av,aO⟩:=hs
  obtain⟨q,hq⟩:=CU (show i≤n by omega) ig
  obtain⟨d,hd⟩:=bl.reads _ _ hq
  have hw:bE ((hk.length:Int) - 1)=(i:Int):=by rw [hr (by omega) (by omega)]; omega
  simp only [hw]
  have bY:dW (b4 v (3 - i)) < 2:=by cases b4 v (3 - i) <;> decide
  refine .idx rfl (by omega) (.eq (a:=q) (by rw [av i (Nat.le_refl _)]; exact hq) (.idx rfl bY (.eq hd (.eq (ko _ _ (by simp; omega) (by omega)) (.eq (ko _ _ (by simp; omega) (by omega)) (.ret ⟨_,_,rfl,by simp; omega,by simp; omega,fun j aB=> ?_,fun j aB=> ?_⟩))))))
  ·rw [CJ]
   by_cases eX:j=hk.length
   ·rw [if_pos eX,show j=i + 1 by omega,zc,iN,hq,gd hd,im]
   ·rw [if_neg eX]; exact av j (by omega)
  ·rw [CJ]
   by_cases eX:j=bits.length
   ·rw [if_pos eX,show j=i by omega]
   ·rw [if_neg eX]; exact aO j (by omega)
 ·exact⟨s.1,s.2,by obtain⟨bits,hk,rfl,_⟩:=hs; rfl,by obtain⟨bits,hk,rfl,h⟩:=hs; exact h⟩
 obtain⟨bits,hk,rfl,J,aa,av,aO⟩:=he
 simp only [Sum.elim_inl]
 obtain⟨d,hd⟩:=bl.reads _ _ ig
 have wK:=kn.1 hd
 have hi:cg (ch hp mr (.ev { d with cW:=false })) mr=some { d with cW:=false } :=o2 wK
 refine .idx rfl (by omega) (.eq (a:=mr) (by rw [av n (Nat.le_refl _)]; exact ig) (.eq hd (.eq rfl (.eq hi (.eq rfl ?_)))))
 generalize ck:ch (ch hp mr (.ev { d with cW:=false })) mr (.ev { d with cW:=false,gi:=0 })=bI
 have dZ:=tS hd ag
 have qe:cg bI mr=some { d with cW:=false,gi:=0 } :=by rw [← ck]; exact o2 (kn.1 hi)
 have v3:∀ q,q≠mr→pat bI q=pat hp q:=fun q hq=>by rw [← ck,jK hq.symm,jK hq.symm]
 obtain⟨s1,s2⟩:=Eb bl ig hd qe rfl fun q hq=>pB (v3 q hq)
 have BT:=va hd qe rfl fun q hq=>pB (v3 q hq)
 have I5:ey bI t=some c:=by rw [zb (v3 t dZ.symm)]; exact ag
 have Af:Own hp t mr:= .inr ⟨c,_,ag,by rw [aD]; exact ig⟩
 have dj:cw hp bI (Own hp t):=by
  rw [← ck]
  exact(cw.up (own:=Own hp t) Af).trans (cw.up Af) fun q _ h=>h
 have BS:HL hp bI t (fun aE=>if aE=dC v n then none else g aE) r:=⟨⟨c,I5,hb,aD⟩,s1,fun aE=>by
  rw [s2]
  by_cases e:aE=dC v n
  ·rw [if_pos e]; simp only [if_pos e]; rfl
  ·rw [if_neg e]; simp only [if_neg e]; exact wL aE,dj,fun aE q hq=> .inr ⟨c,aE,ag,by rw [aD,← BT]; exact hq⟩⟩
 have q2:bE ((n:Int) - 1)=(n:Int) - 1:=hr (by omega) (by omega)
 rw [q2]
 refine br.bind (P:=fun aX=>HL hp aX.2.2 t (fun aE=>if aE=dC v n then none else g aE) r) (br.DU n (fun i st=> ∃ hq,st=((n:Int) - 1 - (i:Int),hq)∧HL hp hq t (fun aE=>if aE=dC v n then none else g aE) r∧ ∀ j,j + i≤n→b3 hq (some r) (dC v j)=aJ hk j) (by omega) ⟨bI,by simp,BS,fun j aB=>by rw [BT,av j (by omega)]⟩ (fun i st ao hs=> ?_) (fun st hs=> ?_)) fun aX mm=> ?_
 ·obtain⟨hq,rfl,hm,v5⟩:=hs
  have az:(n:Int) - 1 - (i:Int)=((n - 1 - i:Nat):Int):=by omega
  have aX:bE ((n:Int) - 1 - (i:Int) + 1)=((n - i:Nat):Int):=by rw [hr (by omega) (by omega)]; omega
  have dS:bE ((n:Int) - 1 - (i:Int) - 1)=(n:Int) - 1 - ((i + 1:Nat):Int):=by rw [hr (by omega) (by omega)]; omega
  simp only [aX,dS]
  have nn:decide ((n:Int) - 1 - (i:Int)≥0)=true:=by rw [decide_eq_true_eq]; omega
  simp only [nn]
  have fp:=v5 (n - i) (by omega)
  have nm:=v5 (n - 1 - i) (by omega)
  obtain⟨al,sB⟩:=CU (show n - i≤n by omega) ig
  obtain⟨ab,wA⟩:=CU (show n - 1 - i≤n by omega) ig
  rw [av _ (by omega),sB] at fp
  rw [av _ (by omega),wA] at nm
  obtain⟨bw,di⟩:=hm.tree.reads _ _ fp
  obtain⟨w1,oM⟩:=hm.tree.reads _ _ nm
  refine .cb (P:=fun jD=>jD=n - i) (fun _=>⟨_,tx (by omega),rfl⟩) fun jD p0=> ?_
  rw [p0 rfl]
  have yc:aJ hk (n - i)=some al:=by rw [av _ (by omega)]; exact sB
  have Bo:aJ hk (n - 1 - i)=some ab:=by rw [av _ (by omega)]; exact wA
  refine .cb (P:=fun y=>y=(!bw.cW && decide (bw.ct=default))) (fun _=>⟨_,by rw [yc]; exact empty_eq di,rfl⟩) fun c8 jS=> .cond (fun dc=> ?_) fun dc=> .ret hm
  rw [Bool.true_and,jS rfl,Bool.and_eq_true,Bool.not_eq_true',decide_eq_true_eq] at dc
  obtain⟨bJ,en⟩:=dc
  have bY:dW (b4 v (3 - (n - 1 - i))) < 2:=by cases b4 v (3 - (n - 1 - i)) <;> decide
  have HJ:dC v (n - i)=dC v (n - 1 - i) ++ [b4 v (3 - (n - 1 - i))]:=by rw [← zc,show n - 1 - i + 1=n - i by omega]
  have kh:bB w1.ct (dW (b4 v (3 - (n - 1 - i))))=some al:=by
   rw [HJ,iN,nm,gd oM,im] at fp; exact fp
  have ga:=kn.1 oM
  refine .idx az (by omega) (.idx az (by omega) (.eq Bo (.idx (aO _ (by omega)) bY (.eq oM (.eq rfl (.ret ?_))))))
  obtain⟨ax,a5,bH⟩:=cut (hp':=ch hq ab (.ev { w1 with ct:=fW w1.ct (dW (b4 v (3 - (n - 1 - i)))) none })) hm.tree nm oM kh di (fun x=>by rw [en,th]; rfl) bJ (o2 ga) fun x ai=>mx ai.symm
  obtain⟨hM,cq,cF,eM⟩:=hm.cell
  have HK:=hm.own _ _ nm
  refine⟨_,rfl,⟨⟨hM,by rw [tl (tS oM cq)]; exact cq,cF,eM⟩,ax,fun aE=>by rw [bH]; exact hm.cont aE,hm.keeps.trans (cw.up HK) fun q _ h=>h,fun aE q gA=> ?_⟩,fun j aB=> ?_⟩
  ·rw [a5] at gA
   split at gA
   ·cases gA
   ·exact hm.own aE q gA
  ·rw [a5,if_neg (fun e=>by have:=congrArg List.length e; simp only [List.length_append,FQ,List.length_singleton] at this; omega)]
   exact v5 j (by omega)
 ·obtain⟨hq,rfl,hm,_⟩:=hs
  have nn:decide ((n:Int) - 1 - (n:Int)≥0)=false:=by rw [decide_eq_false_iff_not]; omega
  simp only [nn]
  refine .cb (P:=fun _=>True) (fun ag=>by cases ag) fun _ _=> .cb (P:=fun _=>True) (fun ag=>by cases ag) fun _ _=> .cond (fun ag=>by cases ag) fun _=> .ret hm
 ·obtain⟨jX,cq,cF,eM⟩:=mm.cell
  refine .eq cq ?_
  rw [eM]
  obtain⟨E3,oQ⟩:=mm.tree.reads [] r rfl
  refine .eq (empty_eq oQ) (.bind (P:=fun bq=>iE bq t (fun aE=>if aE=dC v n then none else g aE)∧cw hp bq (Own hp t)∧ ∀ q,Own bq t q→Own hp t q) (.cond (fun dc=> .eq rfl (.ret ?_)) fun _=> .ret ?_) fun bq cn=> .ret ⟨rfl,cn⟩)
  ·rw [Bool.and_eq_true,Bool.not_eq_true',decide_eq_true_eq] at dc
   obtain⟨bJ,en⟩:=dc
   have Bw:ey (ch aX.2.2 t (.gL { jX with bK:=none })) t=some { jX with bK:=none } :=CS (my.1 cq)
   refine⟨⟨_,Bw,cF,⟨fun aE p h=>(by rw [eN] at h; cases h),fun aE cs p h=>(by rw [eN] at h; cases h),fun aE p h=>(by rw [eN] at h; cases h)⟩,fun aE=> ?_⟩,mm.keeps.trans (cw.up (own:=Own hp t) (.inl rfl)) fun q _ h=>h,fun q hq=> ?_⟩
   ·rw [hc eN,← mm.cont]
    cases aE with
    | nil=>rw [h4 (p:=r) rfl oQ,bJ]; rfl
    | cons b aE=>rw [hc]; rw [gd oQ,en,th]; exact eN
   ·rcases hq with rfl | ⟨hM,aE,c4,dq⟩
    ·exact .inl rfl
    ·rw [Bw] at c4; cases c4
     rw [eN] at dq; cases dq
  ·refine⟨⟨jX,cq,cF,by rw [eM]; exact mm.tree,fun aE=>by rw [eM]; exact mm.cont aE⟩,mm.keeps,fun q hq=> ?_⟩
   rcases hq with rfl | ⟨hM,aE,c4,dq⟩
   ·exact .inl rfl
   ·rw [cq] at c4; cases c4
    rw [eM] at dq
    exact mm.own aE q dq
theorem TW {hp:aH Cell} {t:Nat} {g:List Bool→Option Int} (h:iE hp t g) (ao:∀ aE cs id,g aE=some id→g cs=some id→aE=cs) (m:List Int) (hm:∀ aE id,g aE=some id→id∈m) (an:m.length≤20000):br (rz hp (some t)) (fun r=>r=0→ ∀ aE,g aE=none):=by
 obtain⟨c,ag,hb,bl,bg⟩:=h.ok
 have aF:(ih hp 33 c.bK).Nodup:=FZ fun aE cs id J aa=>ao aE cs id (by rw [← bg]; exact J) (by rw [← bg]; exact aa)
 have hle:(ih hp 33 c.bK).length≤m.length:=Gg aF fun x ai=>by
  obtain⟨aE,gA⟩:=tr ai
  exact hm aE x (by rw [← bg]; exact gA)
 unfold rz yY yB
 refine .bind (P:=fun y=>y.length=(ih hp 33 c.bK).length) (.bind (P:=fun y=>y.length=(ih hp 33 c.bK).length) (.bind (P:=fun y=>y.length=(ih hp 33 c.bK).length) (.cond (fun _=> .eq rfl (.eq ag ((show br (BU hp (some t) c.bK default 0 []) _ from Dm ag 33 fX c.bK default 0 [] (by unfold fX; omega) (fun aE p hp=>by have:=bl.dep aE p hp; omega) bl.reads (by simp; omega)).bind fun y a4=> .ret (by simpa using a4)))) fun ag=>by cases ag) fun y a4=> .ret a4) fun y a4=> .ret a4) fun y a4=> .ret fun bA aE=> ?_
 have bA:(ih hp 33 c.bK).length=0:=by rw [← a4]; have:(y.length:Int)=0:=bA; omega
 cases I6:g aE with
 | none=>rfl
 | some id=>
   have wM:cont hp c.bK aE=some id:=by rw [bg]; exact I6
   have hlen:aE.length < 33:=by
    cases aV:b3 hp c.bK aE with
    | none=>rw [hc aV] at wM; cases wM
    | some p=>have:=bl.dep aE p aV; omega
   have:=Gf hlen wM
   rw [List.eq_nil_of_length_eq_zero bA] at this; cases this
theorem iE.congr {hp hp':aH Cell} {t:Nat} {g:List Bool→Option Int} (h:iE hp t g) (a9:∀ q,Own hp t q→pat hp' q=pat hp q):iE hp' t g∧ ∀ q,Own hp' t q↔Own hp t q:=by
 obtain⟨c,ag,hb,bl,bg⟩:=h.ok
 obtain⟨J,aa,av⟩:=Own.iff ag a9
 refine⟨⟨⟨c,J,hb,⟨fun aE p hp=> ?_,fun aE cs p ax a5=> ?_,fun aE p ax=>bl.dep aE p (by rw [← aa]; exact ax)⟩,fun aE=> ?_⟩⟩,av⟩
 ·rw [aa] at hp
  obtain⟨d,hd⟩:=bl.reads aE p hp
  exact⟨d,by rw [pB (a9 p (.inr ⟨c,aE,ag,hp⟩))]; exact hd⟩
 ·rw [aa] at ax a5
  exact bl.inj aE cs p ax a5
 ·rw [← bg]
  cases e:b3 hp c.bK aE with
  | none=>rw [hc e,hc (by rw [aa]; exact e)]
  | some p=>
    obtain⟨d,hd⟩:=bl.reads aE p e
    rw [h4 e hd,h4 (by rw [aa]; exact e) (by rw [pB (a9 p (.inr ⟨c,aE,ag,e⟩))]; exact hd)]
theorem iE.nb {hp:aH Cell} {t:Nat} {g:List Bool→Option Int} (h:iE hp t g) {q:Nat} (hq:Own hp t q):q∈cX hp:=by
 obtain⟨c,ag,hb,bl,bg⟩:=h.ok
 rcases hq with rfl | ⟨hM,aE,ax,a5⟩
 ·exact gS (my.1 ag)
 ·rw [ag] at ax; cases ax
  obtain⟨d,hd⟩:=bl.reads aE q a5
  exact gS (kn.1 hd)
theorem iE.rW {hp:aH Cell} {t:Nat} {g:List Bool→Option Int} (h:iE hp t g) {q:Nat} (hq:Own hp t q):(∃ c,pat hp q=some (.gL c))∨ ∃ c,pat hp q=some (.ev c):=by
 obtain⟨c,ag,hb,bl,bg⟩:=h.ok
 rcases hq with rfl | ⟨hM,aE,ax,a5⟩
 ·exact .inl ⟨c,my.1 ag⟩
 ·rw [ag] at ax; cases ax
  obtain⟨d,hd⟩:=bl.reads aE q a5
  exact .inr ⟨d,kn.1 hd⟩
structure h0 (s:a2) (k:Nat) (l:List aA):Prop where
 ok:jV s k l
 key:l.Pairwise fun a c=>fg a.bd c.bd=false
theorem h0.uniq {s:a2} {k:Nat} {l:List aA} (h:h0 s k l) {a c:aA} (a9:a∈l) (ag:c∈l) (e:fg a.bd c.bd=true):a=c:=by
 have aF:=h.key
 clear h
 induction l with
 | nil=>cases a9
 | cons x l bD=>
   obtain⟨J,aa⟩:=List.pairwise_cons.1 aF
   rcases List.mem_cons.1 a9 with ax | ax <;> rcases List.mem_cons.1 ag with a5 | a5
   ·rw [ax,a5]
   ·rw [ax,J c a5] at e; cases e
   ·rw [a5,tz,J a ax] at e; cases e
   ·exact bD ax a5 aa
def dE (l:List aA) (e:b1):Option aA:=l.find? fun i=>fg i.bd e
theorem mB {l:List aA} {e:b1} {i:aA} (h:dE l e=some i):i∈l∧fg i.bd e=true:=by
 unfold dE at h
 have aa:=List.find?_some h
 exact⟨List.mem_of_find?_eq_some h,aa⟩
theorem m8 {l:List aA} {e:b1} (h:dE l e=none):∀ i∈l,fg i.bd e=false:=fun i ao=>by
 have:=List.find?_eq_none.1 h i ao
 simpa using this
def jH (o:Option aA):Int × Bool:=match o with | some i=>(i.bt,true) | none=>(0,false)
theorem Mo {i:aA} {n:Int} (h:i.bt=n):jH (some i)=(n,true):=by rw [← h]; rfl
def mu {α β:Type} (l:List (α × β)):Prop:=l.Pairwise fun a c=>a.1≠c.1
theorem LL {α β:Type} [DecidableEq α]:∀ {l:List (α × β)} {x:α} {v:β} {a:α × β},a∈fc l x v→a.1=x∨a∈l
 | [],x,v,a,h=>by
   have:a=(x,v):=by simpa [fc] using h
   rw [this]; exact .inl rfl
 | (k,w) :: r,x,v,a,h=>by
   unfold fc at h
   split at h
   ·rcases List.mem_cons.1 h with h | h
    ·rw [h]; exact .inl rfl
    ·exact .inr (by simp [h])
   ·rcases List.mem_cons.1 h with h | h
    ·exact .inr (by simp [h])
    ·exact(LL h).imp id fun h=>List.mem_cons_of_mem _ h
theorem mu.put {α β:Type} [DecidableEq α]:∀ {l:List (α × β)} {x:α} {v:β},mu l→mu (fc l x v)
 | [],x,v,_=>by unfold fc mu; simp
 | (k,w) :: r,x,v,h=>by
   obtain⟨J,aa⟩:=List.pairwise_cons.1 h
   unfold fc
   split
   ·rename_i e
    refine List.pairwise_cons.2 ⟨fun a a9=> ?_,aa⟩
    have:=J a a9
    rw [e]; exact this
   ·rename_i e
    refine List.pairwise_cons.2 ⟨fun a a9=> ?_,mu.put aa⟩
    rcases LL a9 with g | g
    ·rw [g]; exact fun e'=>e e'.symm
    ·exact J a g
theorem LM {α β:Type} [DecidableEq α]:∀ {l:List (α × β)} {x:α} {a:α × β},a∈gW l x→a∈l
 | [],x,a,h=>by cases h
 | (k,w) :: r,x,a,h=>by
   unfold gW at h
   split at h
   ·exact List.mem_cons_of_mem _ h
   ·rcases List.mem_cons.1 h with h | h
    ·simp [h]
    ·exact List.mem_cons_of_mem _ (LM h)
theorem mu.del {α β:Type} [DecidableEq α]:∀ {l:List (α × β)} {x:α},mu l→mu (gW l x)
 | [],x,_=>by unfold gW mu; exact .nil
 | (k,w) :: r,x,h=>by
   obtain⟨J,aa⟩:=List.pairwise_cons.1 h
   unfold gW
   split
   ·exact aa
   ·exact List.pairwise_cons.2 ⟨fun a a9=>J a (LM a9),mu.del aa⟩
theorem Mp {α β:Type} [DecidableEq α]:∀ {l:List (α × β)} {x:α},(∀ a∈l,a.1≠x)→cK l x=none
 | [],_,_=>rfl
 | (k,w) :: r,x,h=>by
   unfold cK
   rw [if_neg fun e=>h (k,w) (by simp) e.symm,Mp fun a a9=>h a (by simp [a9])]
theorem tq {α β:Type} [DecidableEq α]:∀ {l:List (α × β)} {x y:α},mu l→cK (gW l x) y=if y=x then none else cK l y
 | [],x,y,_=>by
   show none=if y=x then none else none
   split <;> rfl
 | (k,w) :: r,x,y,h=>by
   obtain⟨J,aa⟩:=List.pairwise_cons.1 h
   unfold gW
   by_cases e:x=k
   ·rw [if_pos e]
    by_cases aX:y=x
    ·rw [if_pos aX,aX,e]; exact Mp fun a a9=>(J a a9).symm
    ·rw [if_neg aX]; show _=if y=k then _ else _; rw [if_neg (by rw [← e]; exact aX)]
   ·rw [if_neg e]
    show(if y=k then some w else cK (gW r x) y)=_
    by_cases aX:y=k
    ·rw [if_pos aX,if_neg (by rw [aX]; exact fun dS=>e dS.symm)]; show _=if y=k then _ else _; rw [if_pos aX]
    ·rw [if_neg aX,tq aa]
     show _=if y=x then none else if y=k then _ else _
     rw [if_neg aX]
structure vo (s:a2) (hp:aH Cell) (q:Nat) (l:List aA) (own:Nat→Prop):Prop where
 ok:∃ m em,mF hp q=some ⟨⟨some m⟩⟩∧ly hp m=some em∧own q∧own m∧ (∀ bu n,cK em bu=some n↔ ∃ i∈l,cQ i.bd=bu∧i.bt=n)∧mu em
structure lW (s:a2) (hp:aH Cell) (m:Nat) (l:List aA) (own:Nat→Prop):Prop where
 ok:∃ em,g6 hp m=some em∧own m∧
  (∀ bu r,cK em bu=some r→ ∃ t g,r=some t∧iF hp t g∧ (∀ q,Own hp t q→own q)∧ ∀ aE n,g aE=some n↔ ∃ i∈l,dm (cQ i.bd)=bu∧jk i.bd=aE∧i.bt=n)∧
  (∀ bu,cK em bu=none→ ∀ i∈l,dm (cQ i.bd)≠bu)∧
  (∀ bu fj t cI,cK em bu=some (some t)→cK em fj=some (some cI)→bu≠fj→ ∀ q,Own hp t q→ ¬ Own hp cI q)∧mu em
structure vp (s:a2) (k:Nat) (hp:aH Cell) (q:Nat) (l:List aA) (own:Nat→Prop):Prop where
 ok:∃ key cap,lZ hp q=some (nT s k l,key,cap)∧own q
def pe (s:a2) (k:Nat) (hp:aH Cell) (f:ft) (l:List aA) (own:Nat→Prop):Prop:=
 (k=0∧ ∃ q,f= .l5 ⟨some q⟩∧vo s hp q l own)∨ (k=1∧ ∃ m,f= .kP ⟨0,32,⟨some m⟩⟩∧lW s hp m l own)∨ (2≤k∧ ∃ q,f= .kQ ⟨some q⟩∧vp s k hp q l own)
theorem FG {hp hp':aH Cell} {p:Nat} (h:pat hp' p=pat hp p):mF hp' p=mF hp p:=by unfold mF; rw [h]
theorem RF {hp hp':aH Cell} {p:Nat} (h:pat hp' p=pat hp p):ly hp' p=ly hp p:=by unfold ly; rw [h]
theorem tm {hp hp':aH Cell} {p:Nat} (h:pat hp' p=pat hp p):g6 hp' p=g6 hp p:=by unfold g6; rw [h]
theorem KD {hp hp':aH Cell} {p:Nat} (h:pat hp' p=pat hp p):lZ hp' p=lZ hp p:=by unfold lZ; rw [h]
theorem KE {hp hp':aH Cell} {p:Nat} (h:pat hp' p=pat hp p):fF hp' p=fF hp p:=by unfold fF; rw [h]
theorem KF {hp hp':aH Cell} {p:Nat} (h:pat hp' p=pat hp p):iH hp' p=iH hp p:=by unfold iH; rw [h]
theorem pe.congr {s:a2} {k:Nat} {hp hp':aH Cell} {f:ft} {l:List aA} {own:Nat→Prop} (h:pe s k hp f l own) {own':Nat→Prop} (a6:∀ q,q∈cX hp→own q→own' q) (a9:∀ q,own q→pat hp' q=pat hp q):pe s k hp' f l own':=by
 rcases h with⟨rfl,q,rfl,h⟩ | ⟨rfl,m,rfl,h⟩ | ⟨ar,q,rfl,h⟩
 ·obtain⟨m,em,J,aa,av,aO,aS,gM⟩:=h.ok
  refine .inl ⟨rfl,q,rfl,⟨m,em,by rw [FG (a9 q av)]; exact J,by rw [RF (a9 m aO)]; exact aa,a6 q (gS (tA J)) av,a6 m (gS (qF aa)) aO,aS,gM⟩⟩
 ·obtain⟨em,J,aa,av,aO,aS,gM⟩:=h.ok
  have key:∀ bu r,cK em bu=some r→ ∃ t g,r=some t∧iF hp t g∧iF hp' t g∧ (∀ q,Own hp t q→own q)∧ (∀ q,Own hp' t q↔Own hp t q)∧ ∀ aE n,g aE=some n↔ ∃ i∈l,dm (cQ i.bd)=bu∧jk i.bd=aE∧i.bt=n:=fun bu r aD=>by
   obtain⟨t,g,rfl,ax,a5,bH⟩:=av bu r aD
   obtain⟨c9,kj⟩:=ax.congr fun q hq=>a9 q (a5 q hq)
   exact⟨t,g,rfl,ax,c9,a5,kj,bH⟩
  refine .inr (.inl ⟨rfl,m,rfl,⟨em,by rw [tm (a9 m aa)]; exact J,a6 m (gS (iR J)) aa,fun bu r aD=> ?_,aO,fun bu fj t cI bl nw cN q hq=> ?_,gM⟩⟩)
  ·obtain⟨t,g,rfl,g0,ax,a5,bH,c9⟩:=key bu r aD
   exact⟨t,g,rfl,ax,fun q hq=>a6 q (g0.nb ((bH q).1 hq)) (a5 q ((bH q).1 hq)),c9⟩
  ·obtain⟨_,g,e,g0,ax,a5,bH,c9⟩:=key bu _ bl
   obtain⟨_,de,e',Z2,I7,I8,I9,Z3⟩:=key fj _ nw
   cases e; cases e'
   rw [I9]
   exact aS bu fj t cI bl nw cN q ((bH q).1 hq)
 ·obtain⟨key,cap,J,aa⟩:=h.ok
  exact .inr (.inr ⟨ar,q,rfl,⟨key,cap,by rw [KD (a9 q aa)]; exact J,a6 q (gS (pa J)) aa⟩⟩)
theorem zC {e:b1} (an:e.cd.length≤4):te e=some (cQ e):=by
 refine br.get ?_
 unfold te
 refine .eq (a:=e.cd) (by unfold rU; rw [if_pos ⟨by omega,by omega,by omega⟩,Int.toNat_zero,List.drop_zero,Nat.sub_zero,List.take_of_length_le (by omega)]) ?_
 refine br.loop e.cd.length (fun i st=>st.1=(i:Int)∧ ∀ j,j < 4→bB st.2 j=if j < i then(aJ e.cd j).cL else default) (by omega) ⟨rfl,fun j aB=>by rw [th]; rfl⟩ (fun i st ao hs=> ?_) (fun st hs=> ?_)
 ·obtain⟨j,v⟩:=st
  obtain⟨az,aX⟩:=hs
  simp only at az aX; subst az
  refine .cond (fun _=> ?_) (fun ag=>by simp at ag; omega)
  refine .idx rfl ao (.idx rfl (by omega) (.ret ⟨g5 (by omega),fun j aB=> ?_⟩))
  rw [og _ _ (by omega)]
  by_cases eX:j=i
  ·rw [if_pos eX,if_pos (by omega),eX]
  ·rw [if_neg eX,aX j aB]
   by_cases h:j < i
   ·rw [if_pos h,if_pos (by omega)]
   ·rw [if_neg h,if_neg (by omega)]
 ·obtain⟨j,v⟩:=st
  obtain⟨az,aX⟩:=hs
  simp only at az aX; subst az
  refine⟨_,by simp; rfl,.ret ?_⟩
  exact u9 fun j aB=>by rw [aX j aB,kK aB]
theorem jz.Ef {s:a2} (h:dH s) {k:Nat} (ar:k < 4) {e:b1} (he:jz s k e):e.cd.length≤4∧1≤e.cd.length:=by
 have:=(h.lK ar).2.1
 rw [he.len]; omega
theorem S8 {a c:List c5} (an:a.length≤1000):yC a c=some (decide (a=c)):=by
 refine br.get ?_
 unfold yC
 refine .cond (fun h=> .ret ?_) fun h=> ?_
 ·have:a≠c:=fun e=>by rw [e] at h; simp at h
  simp [this]
 have EC:c.length=a.length:=by
  have:(a.length:Int)=c.length:=by simpa using h
  omega
 refine br.loop a.length (fun i st=>st=(i:Int)∧ ∀ j,j < i→aJ a j=aJ c j) (by omega) ⟨rfl,fun j aB=>by omega⟩ (fun i st ao hs=> ?_) (fun st hs=> ?_)
 ·obtain⟨rfl,hs⟩:=hs
  refine .cond (fun _=> ?_) (fun ag=>by simp at ag; omega)
  refine .idx rfl ao (.idx rfl (by omega) (.cond (fun cN=> .ret ?_) fun he=> .ret ⟨g5 (by omega),fun j aB=> ?_⟩))
  ·simp only [Sum.elim_inr]
   refine .ret ?_
   have:a≠c:=fun e=>by rw [e] at cN; simp at cN
   simp [this]
  ·by_cases eX:j=i
   ·subst eX; simpa using he
   ·exact hs j (by omega)
 ·obtain⟨rfl,hs⟩:=hs
  refine⟨_,by simp; rfl,?_⟩
  simp only [Sum.elim_inl]
  refine .ret ?_
  have:a=c:=List.ext_getElem EC.symm fun j J aa=>by
   have:=hs j J
   rwa [gh _ J,gh _ aa] at this
  simp [this]
theorem KX {a c:b1} (an:a.cd.length≤1000):yW a c=some (fg a c):=by
 refine br.get ?_
 unfold yW fg
 refine .cb (P:=fun r=>r=decide (a.cd=c.cd)) (fun _=>⟨_,S8 an,rfl⟩) fun y a4=> .ret ?_
 by_cases h:a.et=c.et
 ·rw [a4 (by simpa using h)]
  rw [Bool.eq_iff_iff]
  simp [h]
 ·simp [h]
theorem WZ {s:a2} (h:dH s) {hp:aH Cell} {q:Nat} {l:List aA} {own:Nat→Prop} (hq:vo s hp q l own) (an:h0 s 0 l) {e:b1} (he:jz s 0 e):yO hp ⟨some q⟩ e=some (jH (dE l e)):=by
 obtain⟨m,em,J,aa,_,_,aS,_⟩:=hq.ok
 refine br.get ?_
 unfold yO tb
 refine .eq (zC (he.Ef h (by decide)).1) ?_
 have hm:cK em (cQ e)=(dE l e).map (·.bt):=by
  cases aV:dE l e with
  | none=>
    cases bg:cK em (cQ e) with
    | none=>rfl
    | some n=>
      obtain⟨i,ao,aY,_⟩:=(aS _ _).1 bg
      have:=m8 aV i ao
      rw [(yk h (an.ok.ok i ao).dA he).2 aY] at this; cases this
  | some i=>
    obtain⟨ao,ar⟩:=mB aV
    exact(aS _ _).2 ⟨i,ao,(yk h (an.ok.ok i ao).dA he).1 ar,rfl⟩
 refine .eq (a:=jH (dE l e)) ?_ (.ret rfl)
 show(mF hp q).bind _=_
 rw [J]
 show(ly hp m).bind _=_
 rw [aa]
 show some ((cK em (cQ e)).getD default,(cK em (cQ e)).isSome)=_
 rw [hm]
 cases dE l e <;> rfl
theorem GH {s:a2} (h:dH s) {e:b1} (he:jz s 1 e) (m:fT):rk ⟨0,32,m⟩ e=some (dm (cQ e),(aJ e.cd 0).cL,(aJ e.cd 0).fk):=by
 have an:=he.Ef h (by decide)
 refine br.get ?_
 unfold rk s3
 refine .eq (zC an.1) (.eq (a:=(dm (cQ e),bB (cQ e) 0)) rfl (.cond (fun ag=>by have ag:(0:Int)≥ (e.cd.length:Int):=of_decide_eq_true ag; omega) fun _=> .idx (k:=0) rfl (by omega) (.ret ?_)))
 rw [kK (by decide),if_pos (by omega)]
theorem Gh {m:c5} (h:r8 2 32 m):∀ j,j < 128→b4 m.cL j=true→lead 32 m.fk j=true:=fun j aB a3=>
 (xD h.pre.1 h.pre.2).2 (h.I1 rfl j aB a3)
theorem W0 {s:a2} (h:dH s) {hp:aH Cell} {m:Nat} {l:List aA} {own:Nat→Prop} (hq:lW s hp m l own) (an:h0 s 1 l) {e:b1} (he:jz s 1 e):uI hp ⟨0,32,⟨some m⟩⟩ e=some (jH (dE l e)):=by
 obtain⟨em,J,_,av,aO,_⟩:=hq.ok
 have fi:=ue h he
 refine br.get ?_
 unfold uI
 refine .eq (GH h he _) (.eq rfl (.eq J (.eq rfl ?_)))
 obtain⟨n,aF⟩:=Int.eq_ofNat_of_zero_le fi.pre.1
 have pU:n≤32:=by have:=fi.pre.2; omega
 have l1:=Gh fi
 refine .eq (a:=jH (dE l e)) ?_ (.ret rfl)
 simp only
 cases aD:cK em (dm (cQ e)) with
 | none=>
   have aV:dE l e=none:=by
    cases aV:dE l e with
    | none=>rfl
    | some i=>
      obtain⟨ao,ar⟩:=mB aV
      exact absurd ((yl h (an.ok.ok i ao).dA he).1 ar).1 (aO _ aD i ao)
   rw [aV]; rfl
 | some r=>
   obtain⟨t,g,rfl,ax,_,bH⟩:=av _ _ aD
   have bg:g (jk e)=(dE l e).map (·.bt):=by
    cases aV:dE l e with
    | none=>
      cases sJ:g (jk e) with
      | none=>rfl
      | some n=>
        obtain⟨i,ao,aY,b7,_⟩:=(bH _ _).1 sJ
        have:=m8 aV i ao
        rw [(yl h (an.ok.ok i ao).dA he).2 ⟨aY,b7⟩] at this; cases this
    | some i=>
      obtain⟨ao,ar⟩:=mB aV
      obtain⟨aY,b7⟩:=(yl h (an.ok.ok i ao).dA he).1 ar
      exact(bH _ _).2 ⟨i,ao,aY,b7,rfl⟩
   rw [aF] at l1 ⊢
   show qw hp (some t) _ (n:Int)=_
   rw [MT ax pU l1]
   have hp':dd (aJ e.cd 0).cL n=jk e:=by unfold jk; rw [aF]; rfl
   rw [hp',bg]
   cases dE l e <;> rfl
theorem W1 {s:a2} (h:dH s) {k:Nat} (ar:k < 4) {hp:aH Cell} {q:Nat} {l:List aA} {own:Nat→Prop} (hq:vp s k hp q l own) (an:h0 s k l) {e:b1} (he:jz s k e):uN hp ⟨some q⟩ e=some (jH (dE l e)):=by
 obtain⟨key,cap,J,_⟩:=hq.ok
 refine br.get ?_
 unfold uN
 refine .eq rfl (.eq J (.eq (UQ h ar an.ok) ?_))
 obtain⟨e1,ea⟩:=an.ok.cO
 have aV:dE l e=(cO (eZ s k) l).find? fun i=>fg i.bd e:=by
  cases aV:dE l e with
  | none=>
    symm
    rw [List.find?_eq_none]
    intro x ai
    rw [m8 aV x (na.1 ai)]; simp
  | some i=>
    obtain⟨ao,jC⟩:=mB aV
    exact(xv (vn s k) an.ok.qd ao jC fun d hd wN=> .inl (an.uniq hd ao (xo wN (by rw [tz]; exact jC)))).symm
 rw [aV]
 refine br.loop (cO (eZ s k) l).length (fun i st=>st=(i:Int)∧ ∀ j,j < i→fg (aJ (cO (eZ s k) l) j).bd e=false) (by omega) ⟨rfl,fun j aB=>by omega⟩ (fun i st ao hs=> ?_) (fun st hs=> ?_)
 ·obtain⟨rfl,hs⟩:=hs
  refine .cond (fun _=> ?_) (fun ag=>by simp at ag; omega)
  have hm:=e1 (aJ (cO (eZ s k) l) i) (by rw [gh _ ao]; exact List.getElem_mem _)
  refine .idx rfl ao (.eq (KX (hm.small h ar).1) (.cond (fun ag=> .ret ?_) fun ag=> .ret ⟨g5 (by omega),fun j aB=> ?_⟩))
  ·simp only [Sum.elim_inr]
   refine .ret ?_
   rw [Dd (p:=fun i=>fg i.bd e) ao ag hs]; rfl
  ·by_cases eX:j=i
   ·subst eX; exact ag
   ·exact hs j (by omega)
 ·obtain⟨rfl,hs⟩:=hs
  refine⟨_,by simp; rfl,?_⟩
  simp only [Sum.elim_inl]
  refine .ret ?_
  rw [De fun c ag=> ?_]
  ·rfl
  ·obtain⟨j,aB,rfl⟩:=List.mem_iff_getElem.1 ag
   rw [← gh _ aB]; exact hs j aB
theorem N0 {s:a2} (h:dH s) {k:Nat} (ar:k < 4) {hp:aH Cell} {f:ft} {l:List aA} {own:Nat→Prop} (hq:pe s k hp f l own) (an:h0 s k l) {e:b1} (he:jz s k e):yN hp f e=some (jH (dE l e)):=by
 rcases hq with⟨rfl,q,rfl,hq⟩ | ⟨rfl,m,rfl,hq⟩ | ⟨dj,q,rfl,hq⟩
 ·exact WZ h hq an he
 ·exact W0 h hq an he
 ·exact W1 h ar hq an he
def mn (s:a2) (k:Nat) (l:List aA) (p:Vector aw 4):Option aA:=(cO (eZ s k) l).find? fun c=>mt s k p c.bd
theorem TX {s:a2} {k:Nat} {l:List aA} {p:Vector aw 4} {i:aA} (h:mn s k l p=some i):i∈l:=by
 unfold mn at h
 exact na.1 (List.mem_of_find?_eq_some h)
theorem W2 {s:a2} (h:dH s) {k:Nat} (ar:k < 4) (p:Vector aw 4) (e:b1):mt s k (iZ (gV s k) p) e=mt s k p e:=by
 unfold mt
 rw [Bool.eq_iff_iff,List.all_eq_true,List.all_eq_true]
 have an:=(h.lK ar).2.1
 have key:∀ i∈List.range (aJ s.cA k).cj.length,bB (iZ (gV s k) p) i=bB p i:=fun i ao=>by
  have:=List.mem_range.1 ao
  rw [lT (by omega),if_pos (show i < gV s k from this)]
 exact⟨fun J i ao=>by have:=J i ao; rwa [key i ao] at this,fun J i ao=>by rw [key i ao]; exact J i ao⟩
theorem W3 {s:a2} (h:dH s) {hp:aH Cell} {q:Nat} {l:List aA} {own:Nat→Prop} (hq:vo s hp q l own) (an:h0 s 0 l) (p:Vector aw 4):yF hp ⟨some q⟩ (iZ (gV s 0) p)=some (jH (mn s 0 l p)):=by
 obtain⟨m,em,J,aa,_,_,aS,_⟩:=hq.ok
 have hb:=WY h an.ok p (o:=cK em (iZ (gV s 0) p)) fun n=>aS _ n
 refine br.get ?_
 unfold yF tb
 refine .eq (a:=jH (mn s 0 l p)) ?_ (.ret rfl)
 show(mF hp q).bind _=_
 rw [J]
 show(ly hp m).bind _=_
 rw [aa]
 show some ((cK em (iZ (gV s 0) p)).getD default,(cK em (iZ (gV s 0) p)).isSome)=_
 cases bg:cK em (iZ (gV s 0) p) with
 | none=>
   have hb:mn s 0 l p=none:=hb.2 bg
   rw [hb]; rfl
 | some n=>
   obtain⟨i,_,az,aX⟩:=hb.1 n bg
   have aX:mn s 0 l p=some i:=aX
   rw [aX,Mo az]; rfl
theorem N1 {g:List Bool→Option Int} (h:∀ aE,g aE=none) (v:aw):∀ m,js g v m=none
 | 0=>by unfold js; rw [h]; rfl
 | m + 1=>by unfold js; rw [h]; exact N1 h v m
theorem W4 {s:a2} (h:dH s) {hp:aH Cell} {m:Nat} {l:List aA} {own:Nat→Prop} (hq:lW s hp m l own) (an:h0 s 1 l) (p:Vector aw 4):uD hp ⟨0,32,⟨some m⟩⟩ (iZ (gV s 1) p)=some (jH (mn s 1 l p)):=by
 obtain⟨em,J,_,av,aO,_⟩:=hq.ok
 have aF:1≤gV s 1:=(h.lK (show 1 < 4 by decide)).2.1.1
 refine br.get ?_
 unfold uD s3
 refine .eq (a:=(dm (iZ (gV s 1) p),bB p 0)) (by show some (dm (iZ (gV s 1) p),bB (iZ (gV s 1) p) 0)=_; rw [lT (by decide),if_pos (by omega)]) (.eq rfl (.eq J (.eq rfl ((GB 32).bind fun aQ aX=> .eq (and_eq _ _) ?_))))
 simp only
 have a3:∀ j,j < 128→b4 (se (bB p 0) aQ) j=(b4 (bB p 0) j && decide (j < 32)):=fun j aB=>by
  rw [vh,aX j aB]
  congr 1
  rw [decide_eq_decide]; omega
 cases aD:cK em (dm (iZ (gV s 1) p)) with
 | none=>
   have hb:=NZ h an.ok p a3 (g:=fun _=>none) fun aE n=>⟨fun h=>(by cases h),fun⟨i,ao,aY,_⟩=>absurd aY (aO _ aD i ao)⟩
   rw [N1 (fun _=>rfl)] at hb
   have hb:mn s 1 l p=none:=hb
   rw [hb]
   exact .eq rfl (.ret rfl)
 | some r=>
   obtain⟨t,g,rfl,ax,_,bH⟩:=av _ _ aD
   have hb:=NZ h an.ok p a3 bH
   have hs:Small (se (bB p 0) aQ):=fun j aB hb=>by
    rw [a3 j aB,Bool.and_eq_true,decide_eq_true_eq] at hb
    exact hb.2
   refine .eq (RY ax hs) (.ret ?_)
   cases EM:js g (se (bB p 0) aQ) 32 with
   | none=>
     rw [EM] at hb
     have hb:mn s 1 l p=none:=hb
     rw [hb]; rfl
   | some r=>
     rw [EM] at hb
     obtain⟨i,_,az,dS⟩:=hb
     have dS:mn s 1 l p=some i:=dS
     rw [dS,Mo az]; rfl
theorem W5 {s:a2} (h:dH s) {k:Nat} (ar:k < 4) {hp:aH Cell} {q:Nat} {l:List aA} {own:Nat→Prop} (hq:vp s k hp q l own) (an:h0 s k l) (p:Vector aw 4):uK hp ⟨some q⟩ (iZ (gV s k) p)=some (jH (mn s k l p)):=by
 obtain⟨key,cap,J,_⟩:=hq.ok
 refine br.get ?_
 unfold uK
 refine .eq rfl (.eq J (.eq (RX h ar an.ok _) (.ret ?_)))
 have:((cO (eZ s k) l).find? fun c=>mt s k (iZ (gV s k) p) c.bd)=mn s k l p:=by
  unfold mn; congr 1; funext c; exact W2 h ar p c.bd
 rw [this]
 cases mn s k l p <;> rfl
theorem W6 {s:a2} (h:dH s) {k:Nat} (ar:k < 4) {hp:aH Cell} {f:ft} {l:List aA} {own:Nat→Prop} (hq:pe s k hp f l own) (an:h0 s k l) (p:Vector aw 4):B5 hp f (iZ (gV s k) p)=some (jH (mn s k l p)):=by
 rcases hq with⟨rfl,q,rfl,hq⟩ | ⟨rfl,m,rfl,hq⟩ | ⟨dj,q,rfl,hq⟩
 ·exact W3 h hq an p
 ·exact W4 h hq an p
 ·exact W5 h ar hq an p
def iu (own:Nat→Prop) (hp hp':aH Cell) (q:Nat):Prop:=own q∨ (q ∉ cX hp∧q∈cX hp')
theorem LN {hp:aH Cell} {p:Nat} {k:Cell} {x:List (Vector aw 4 × Int)} (h:pat hp p=some k):ly (ch hp p (.nU x)) p=some x:=by unfold ly; rw [tF h]
theorem CV {hp:aH Cell} {p:Nat} {k:Cell} {x:List (Vector aw 4 × Ref)} (h:pat hp p=some k):g6 (ch hp p (.iT x)) p=some x:=by unfold g6; rw [tF h]
theorem Yy {s:a2} (h:dH s) {hp:aH Cell} {q:Nat} {l:List aA} {own:Nat→Prop} (hq:vo s hp q l own) (an:h0 s 0 l) {i:aA} (ao:mj s 0 i) (aV:dE l i.bd=none):
 br (yS hp ⟨some q⟩ i) (fun hp'=>vo s hp' q (l ++ [i]) (iu own hp hp')∧cw hp hp' own):=by
 obtain⟨m,em,J,aa,av,aO,aS,gM⟩:=hq.ok
 have dN:cK em (cQ i.bd)=none:=by
  cases bg:cK em (cQ i.bd) with
  | none=>rfl
  | some n=>
    obtain⟨c,ag,aY,_⟩:=(aS _ _).1 bg
    have:=m8 aV c ag
    rw [(yk h (an.ok.ok c ag).dA ao.dA).2 aY] at this; cases this
 unfold yS Cs
 refine .eq (zC (ao.dA.Ef h (by decide)).1) ?_
 refine .eq (a:=(true,ch hp m (Cell.nU (fc em (cQ i.bd) i.bt)))) ?_ (.ret ?_)
 ·show(mF hp q).bind _=_
  rw [J]
  show(ly hp m).bind _=_
  rw [aa]
  show cond (cK em (cQ i.bd)).isSome _ _=_
  rw [dN]; rfl
 have wO:q≠m:=fun e=>by
  subst e
  have:=tA J
  rw [qF aa] at this; cases this
 refine⟨⟨m,_,by rw [FG (jK wO.symm)]; exact J,LN (qF aa),.inl av,.inl aO,fun bu n=> ?_,gM.put⟩,.up aO⟩
 rw [rE]
 by_cases dZ:bu=cQ i.bd
 ·rw [if_pos dZ]
  constructor
  ·intro e
   cases e
   exact⟨i,by simp,dZ.symm,rfl⟩
  ·rintro ⟨c,ag,aY,b7⟩
   rcases List.mem_append.1 ag with ag | ag
   ·have:=(aS _ _).2 ⟨c,ag,aY,b7⟩
    rw [dZ,dN] at this; cases this
   ·rw [List.mem_singleton.1 ag] at b7; rw [b7]
 ·rw [if_neg dZ,aS]
  constructor
  ·rintro ⟨c,ag,aY⟩; exact⟨c,by simp [ag],aY⟩
  ·rintro ⟨c,ag,aY,b7⟩
   rcases List.mem_append.1 ag with ag | ag
   ·exact⟨c,ag,aY,b7⟩
   ·rw [List.mem_singleton.1 ag] at aY; exact absurd aY.symm dZ
theorem Yz {s:a2} (h:dH s) {hp:aH Cell} {m:Nat} {l:List aA} {own:Nat→Prop} (hq:lW s hp m l own) (dQ:∀ q,own q→q∈cX hp) (an:h0 s 1 l) {i:aA} (ao:mj s 1 i) (aV:dE l i.bd=none)
 {em:List (Vector aw 4 × Ref)} (gO:g6 hp m=some em) {t:Nat} (bl:cK em (dm (cQ i.bd))=some (some t)):
 cT (rA hp (some t) (aJ i.bd.cd 0).cL (aJ i.bd.cd 0).fk i.bt) (fun r=>lW s r.2 m (l ++ [i]) (iu own hp r.2)∧cw hp r.2 own):=by
 obtain⟨Ja,J,aa,av,aO,aS,gM⟩:=hq.ok
 rw [gO] at J; cases J
 have fi:=ue h ao.dA
 obtain⟨cI,g,e,ax,a5,bH⟩:=av _ _ bl
 cases e
 obtain⟨n,aF⟩:=Int.eq_ofNat_of_zero_le fi.pre.1
 have pU:n≤32:=by have:=fi.pre.2; omega
 have l1:=Gh fi
 have hp':dd (aJ i.bd.cd 0).cL n=jk i.bd:=by unfold jk; rw [aF]; rfl
 have dN:g (jk i.bd)=none:=by
  cases sJ:g (jk i.bd) with
  | none=>rfl
  | some n=>
    obtain⟨c,ag,aY,b7,_⟩:=(bH _ _).1 sJ
    have:=m8 aV c ag
    rw [(yl h (an.ok.ok c ag).dA ao.dA).2 ⟨aY,b7⟩] at this; cases this
 rw [aF] at l1 ⊢
 refine(WX ax pU l1 i.bt (by rw [hp']; exact dN)).mono fun r aD=> ?_
 obtain⟨_,e1,ea,kH⟩:=aD
 rw [hp'] at e1
 have rb:∀ q,Own hp t q→q≠m:=fun q wP e=>by
  have:=iR gO
  rw [← e] at this
  rcases ax.rW wP with⟨c,ag⟩ | ⟨c,ag⟩ <;> rw [ag] at this <;> cases this
 have hj:pat r.2 m=pat hp m:=ea.rest m (gS (iR gO)) fun hq=>rb m hq rfl
 have ks:∀ bu cI,bu≠dm (cQ i.bd)→cK em bu=some (some cI)→ ∃ de,iF hp cI de∧iF r.2 cI de∧ (∀ q,Own hp cI q→own q)∧ (∀ q,Own r.2 cI q↔Own hp cI q)∧ ∀ aE n,de aE=some n↔ ∃ i∈l,dm (cQ i.bd)=bu∧jk i.bd=aE∧i.bt=n:=fun bu cI cN aD=>by
  obtain⟨Jb,de,e,cq,cF,eM⟩:=av bu _ aD
  cases e
  obtain⟨c4,dq⟩:=cq.congr (hp':=r.2) fun q hq=>ea.rest q (cq.nb hq) fun gN=>aS _ _ _ _ bl aD cN.symm q gN hq
  exact⟨de,cq,c4,cF,dq,eM⟩
 have pT:∀ q,Own r.2 t q→iu own hp r.2 q:=fun q hq=>by
  rcases kH q hq with aY | aY
  ·exact .inl (a5 q aY)
  ·exact .inr ⟨aY,e1.nb hq⟩
 refine⟨⟨em,by rw [tm hj]; exact gO,.inl aa,fun bu jr eP=> ?_,fun bu dZ c ag=> ?_,fun bu fj t1 t2 eY fq cN q fp iy=> ?_,gM⟩,⟨ea.keys,fun q hq dN=>ea.rest q hq fun gN=>dN (a5 q gN)⟩⟩
 ·by_cases dZ:bu=dm (cQ i.bd)
  ·subst dZ
   rw [bl] at eP; cases eP
   refine⟨t,_,rfl,e1,pT,fun aE ny=> ?_⟩
   by_cases gA:aE=jk i.bd
   ·simp only [if_pos gA]
    constructor
    ·intro e; cases e
     exact⟨i,by simp,rfl,gA.symm,rfl⟩
    ·rintro ⟨c,ag,aY,b7,dV⟩
     rcases List.mem_append.1 ag with ag | ag
     ·have:=(bH _ _).2 ⟨c,ag,aY,b7,dV⟩
      rw [gA,dN] at this; cases this
     ·rw [List.mem_singleton.1 ag] at dV; rw [dV]
   ·simp only [if_neg gA]
    rw [bH]
    constructor
    ·rintro ⟨c,ag,aY⟩; exact⟨c,by simp [ag],aY⟩
    ·rintro ⟨c,ag,aY,b7,dV⟩
     rcases List.mem_append.1 ag with ag | ag
     ·exact⟨c,ag,aY,b7,dV⟩
     ·rw [List.mem_singleton.1 ag] at b7; exact absurd b7.symm gA
  ·obtain⟨cI,de,e,_⟩:=av bu jr eP
   subst e
   obtain⟨nx,cq,cF,eM,gI,lu⟩:=ks bu cI dZ eP
   refine⟨cI,nx,rfl,cF,fun q hq=> .inl (eM q ((gI q).1 hq)),fun aE ny=> ?_⟩
   rw [lu]
   constructor
   ·rintro ⟨c,ag,aY⟩; exact⟨c,by simp [ag],aY⟩
   ·rintro ⟨c,ag,aY,b7⟩
    rcases List.mem_append.1 ag with ag | ag
    ·exact⟨c,ag,aY,b7⟩
    ·rw [List.mem_singleton.1 ag] at aY; exact absurd aY.symm dZ
 ·rcases List.mem_append.1 ag with ag | ag
  ·exact aO bu dZ c ag
  ·rw [List.mem_singleton.1 ag]
   intro e
   rw [← e,bl] at dZ; cases dZ
 ·
  have zS:∀ bu cI,bu≠dm (cQ i.bd)→cK em bu=some (some cI)→ ∀ q,Own r.2 t q→ ¬ Own r.2 cI q:=fun bu cI cN aD q hq gN=>by
   obtain⟨nx,cq,cF,eM,gI,lu⟩:=ks bu cI cN aD
   have gN:=(gI q).1 gN
   rcases kH q hq with aY | aY
   ·exact aS _ _ _ _ bl aD cN.symm q aY gN
   ·exact aY (cq.nb gN)
  by_cases az:bu=dm (cQ i.bd)
  ·subst az
   rw [bl] at eY; cases eY
   exact zS fj t2 cN.symm fq q fp iy
  ·by_cases aX:fj=dm (cQ i.bd)
   ·subst aX
    rw [bl] at fq; cases fq
    exact zS bu t1 az eY q iy fp
   ·obtain⟨_,_,_,_,gI,_⟩:=ks bu t1 az eY
    obtain⟨_,_,_,_,w2,_⟩:=ks fj t2 aX fq
    exact aS _ _ _ _ eY fq cN q ((gI q).1 fp) ((w2 q).1 iy)
theorem Kr {own:Nat→Prop} {bA J aa:aH Cell} {q:Nat} (ar:∀ q,q∈cX bA→q∈cX J) (dj:∀ q,q∈cX J→q∈cX aa) (h:iu (iu own bA J) J aa q):iu own bA aa q:=by
 rcases h with(h | ⟨h,cS⟩) | ⟨h,cS⟩
 ·exact .inl h
 ·exact .inr ⟨h,dj q cS⟩
 ·exact .inr ⟨fun av=>h (ar q av),cS⟩
theorem lW.mono {s:a2} {hp:aH Cell} {m:Nat} {l:List aA} {own own':Nat→Prop} (h:lW s hp m l own) (a6:∀ q,own q→own' q):lW s hp m l own':=by
 obtain⟨em,J,aa,av,aO,aS,gM⟩:=h.ok
 exact⟨em,J,a6 m aa,fun bu r aD=>by obtain⟨t,g,e,a,b,c⟩:=av bu r aD; exact⟨t,g,e,a,fun q hq=>a6 q (b q hq),c⟩,aO,aS,gM⟩
theorem cw.grow {bA J aa:aH Cell} {own:Nat→Prop} (a:cw bA J own) (b:cw J aa (iu own bA J)):cw bA aa own:=
 a.trans b fun q hq h=>h.elim (fun h=>h) fun h=>absurd hq h.1
theorem YA {s:a2} {hp:aH Cell} {m:Nat} {l:List aA} {own:Nat→Prop} (hq:lW s hp m l own)
 {em:List (Vector aw 4 × Ref)} (gO:g6 hp m=some em) {bu:Vector aw 4} (dN:cK em bu=none) {a:Nat} (a9:a ∉ cX hp) {z:eJ} (dc:z.eu=32) (aD:z.bK=none):
 lW s (ch ((a,Cell.gL z) :: hp) m (.iT (fc em bu (some a)))) m l (iu own hp (ch ((a,Cell.gL z) :: hp) m (.iT (fc em bu (some a)))))∧cw hp (ch ((a,Cell.gL z) :: hp) m (.iT (fc em bu (some a)))) own∧
  g6 (ch ((a,Cell.gL z) :: hp) m (.iT (fc em bu (some a)))) m=some (fc em bu (some a)):=by
 obtain⟨Ja,J,aa,av,aO,aS,gM⟩:=hq.ok
 rw [gO] at J; cases J
 have hj:=iR gO
 have Bx:=qA a9 hj
 have cn:pat ((a,Cell.gL z) :: hp) m=some (.iT em):=by rw [o1,if_neg Bx]; exact hj
 generalize ck:ch ((a,Cell.gL z) :: hp) m (.iT (fc em bu (some a)))=b9
 have ax:g6 b9 m=some (fc em bu (some a)):=by rw [← ck]; exact CV cn
 have a5:pat b9 a=some (.gL z):=by rw [← ck,jK Bx.symm,o1,if_pos rfl]
 have bH:∀ q,q≠m→q≠a→pat b9 q=pat hp q:=fun q wO nt=>by rw [← ck,jK wO.symm,o1,if_neg nt.symm]
 have ar:cw hp b9 own:=by
  rw [← ck]
  exact(cw.mk' (own:=own) a9).trans (cw.up aa) fun q _ h=>h
 have By:ey b9 a=some z:=my.2 a5
 have HM:iF b9 a (fun _=>none):=⟨z,By,dc,by rw [aD]; exact⟨fun aE p h=>(by rw [eN] at h; cases h),fun aE cs p h _=>(by rw [eN] at h; cases h),fun aE p h=>(by rw [eN] at h; cases h)⟩,fun aE=>by rw [aD]; exact hc eN⟩
 have vI:∀ q,Own b9 a q→q=a:=fun q jl=>by
  rcases jl with h | ⟨c,aE,aY,b7⟩
  ·exact h
  ·rw [By] at aY; cases aY
   rw [aD,eN] at b7; cases b7
 have hold:∀ t g,iF hp t g→iF b9 t g∧ ∀ q,Own b9 t q↔Own hp t q:=fun t g bl=>bl.congr fun q jl=>by
  refine bH q (fun e=> ?_) fun e=>a9 (by rw [← e]; exact bl.nb jl)
  rw [← e] at hj
  rcases bl.rW jl with⟨c,ag⟩ | ⟨c,ag⟩ <;> rw [ag] at hj <;> cases hj
 refine⟨⟨_,ax,.inl aa,fun fj r eP=> ?_,fun fj eP=> ?_,fun wQ sK t1 t2 eY fq cN q fp iy=> ?_,gM.put⟩,ar,ax⟩
 ·rw [rE] at eP
  by_cases e:fj=bu
  ·rw [if_pos e] at eP; cases eP
   exact⟨a,_,rfl,HM,fun q jl=>by rw [vI q jl]; exact .inr ⟨a9,gS a5⟩,fun aE n=>⟨fun h=>(by cases h),fun⟨i,ao,aY,_⟩=>absurd (aY.trans e) (aO bu dN i ao)⟩⟩
  ·rw [if_neg e] at eP
   obtain⟨t,g,rfl,cq,cF,eM⟩:=av fj r eP
   obtain⟨c4,dq⟩:=hold t g cq
   exact⟨t,g,rfl,c4,fun q jl=> .inl (cF q ((dq q).1 jl)),eM⟩
 ·rw [rE] at eP
  by_cases e:fj=bu
  ·rw [if_pos e] at eP; cases eP
  ·rw [if_neg e] at eP; exact aO fj eP
 ·rw [rE] at eY fq
  have ai:∀ fj cI,cK em fj=some (some cI)→ ∀ q,q=a→ ¬ Own b9 cI q:=fun fj cI nw q e jl=>by
   obtain⟨t,g,e',cq,_⟩:=av fj _ nw
   cases e'
   have:=(hold cI g cq).2 q |>.1 jl
   exact a9 (by rw [← e]; exact cq.nb this)
  by_cases az:wQ=bu
  ·rw [if_pos az] at eY; cases eY
   by_cases aX:sK=bu
   ·exact cN (az.trans aX.symm)
   ·rw [if_neg aX] at fq
    exact ai sK t2 fq q (vI q fp) iy
  ·rw [if_neg az] at eY
   by_cases aX:sK=bu
   ·rw [if_pos aX] at fq; cases fq
    exact ai wQ t1 eY q (vI q iy) fp
   ·rw [if_neg aX] at fq
    obtain⟨t,g,e',cq,_⟩:=av wQ _ eY
    cases e'
    obtain⟨cI,de,Bm,Jc,_⟩:=av sK _ fq
    cases Bm
    exact aS _ _ _ _ eY fq cN q (((hold _ _ cq).2 q).1 fp) (((hold _ _ Jc).2 q).1 iy)
theorem W7 {s:a2} (h:dH s) {hp:aH Cell} {m:Nat} {l:List aA} {own:Nat→Prop} (hq:lW s hp m l own) (dQ:∀ q,own q→q∈cX hp) (an:h0 s 1 l) {i:aA} (ao:mj s 1 i) (aV:dE l i.bd=none):
 cT (uL hp ⟨0,32,⟨some m⟩⟩ i) (fun hp'=>lW s hp' m (l ++ [i]) (iu own hp hp')∧cw hp hp' own):=by
 obtain⟨em,gO,aa,av,aO,aS,_⟩:=hq.ok
 unfold uL
 refine .eq (GH h ao.dA _) (.eq rfl (.eq gO (.eq rfl ?_)))
 simp only
 refine .bind (P:=fun bq=>lW s bq m l (iu own hp bq)∧cw hp bq own∧ ∃ wR t,g6 bq m=some wR∧cK wR (dm (cQ i.bd))=some (some t)) (.cond (fun ag=> ?_) fun ag=> .ret ?_) fun bq cn=> ?_
 ·have dN:cK em (dm (cQ i.bd))=none:=by
   cases bg:cK em (dm (cQ i.bd)) with
   | none=>rfl
   | some r=>
     obtain⟨t,_,rfl,_⟩:=av _ _ bg
     rw [bg] at ag; cases ag
  unfold zd
  refine .bind (P:=fun r=> ∃ a,a ∉ cX hp∧r=((some a:Ref),(a,Cell.gL ({ (default:eJ) with eu:=32 })) :: hp)) (.eq rfl (.mk fun a a9=> .ret ⟨a,a9,rfl⟩)) fun bm aY=> ?_
  obtain⟨a,a9,rfl⟩:=aY
  have jT:g6 ((a,Cell.gL ({ (default:eJ) with eu:=32 })) :: hp) m=some em:=(tm (hp:=hp) (by rw [o1,if_neg (qA a9 (iR gO))])).trans gO
  obtain⟨ax,a5,bH⟩:=YA hq gO dN a9 (z:= { (default:eJ) with eu:=32 }) rfl rfl
  refine .eq jT (.eq rfl (.ret ⟨ax,a5,_,a,bH,by rw [rE,if_pos rfl]⟩))
 ·cases bg:cK em (dm (cQ i.bd)) with
  | none=>rw [bg] at ag; cases ag
  | some r=>
    obtain⟨t,_,rfl,_⟩:=av _ _ bg
    exact⟨hq.mono fun q hq=> .inl hq,.refl,em,t,gO,bg⟩
 ·obtain⟨ax,a5,wR,t,bH,c9⟩:=cn
  refine .eq bH (.eq rfl ?_)
  simp only [c9]
  refine .bind (Yz h ax (fun q hq=>hq.elim (fun hq=>a5.keys q (dQ q hq)) fun hq=>hq.2) an ao aV bH c9) fun r aD=> .ret ?_
  exact⟨aD.1.mono fun q hq=>Kr a5.keys aD.2.keys hq,a5.grow aD.2⟩
theorem CW {hp:aH Cell} {p:Nat} {k:Cell} {x:ca} {y:Option Nat} {n:Nat} (h:pat hp p=some k):lZ (ch hp p (.qS x y n)) p=some (x,y,n):=by unfold lZ; rw [tF h]
theorem W8 {s:a2} (h:dH s) {k:Nat} (ar:k < 4) {hp:aH Cell} {q:Nat} {l:List aA} {own:Nat→Prop} (hq:vp s k hp q l own) (an:h0 s k l) {i:aA} (ao:mj s k i) (jn:fM l i.bt=false) (hlen:l.length < 900):
 cT (uO hp ⟨some q⟩ i) (fun hp'=>vp s k hp' q (l ++ [i]) (iu own hp hp')∧cw hp hp' own):=by
 obtain⟨key,cap,J,aa⟩:=hq.ok
 unfold uO
 refine .eq rfl (.eq J (.eq (UP h ar an.ok ao hlen) (.any fun aN=> .eq rfl (.ret ?_))))
 rw [jn]
 exact⟨⟨aN.1,aN.2,CW (pa J),.inl aa⟩,.up aa⟩
theorem W9 {s:a2} (h:dH s) {k:Nat} (ar:k < 4) {hp:aH Cell} {f:ft} {l:List aA} {own:Nat→Prop} (hq:pe s k hp f l own) (dQ:∀ q,own q→q∈cX hp) (an:h0 s k l) {i:aA} (ao:mj s k i) (aV:dE l i.bd=none) (jn:fM l i.bt=false) (hlen:l.length < 900):
 cT (Cm hp f i) (fun hp'=>pe s k hp' f (l ++ [i]) (iu own hp hp')∧cw hp hp' own):=by
 rcases hq with⟨rfl,q,rfl,hq⟩ | ⟨rfl,m,rfl,hq⟩ | ⟨dj,q,rfl,hq⟩
 ·exact cT.of ((Yy h hq an ao aV).mono fun hp' aD=>⟨.inl ⟨rfl,q,rfl,aD.1⟩,aD.2⟩)
 ·exact(W7 h hq dQ an ao aV).mono fun hp' aD=>⟨.inr (.inl ⟨rfl,m,rfl,aD.1⟩),aD.2⟩
 ·exact(W8 h ar hq an ao jn hlen).mono fun hp' aD=>⟨.inr (.inr ⟨dj,q,rfl,aD.1⟩),aD.2⟩
theorem Gi {α β:Type} [DecidableEq α]:∀ {l:List (α × β)} {x:α} {v:β},cK l x=some v→ (x,v)∈l
 | [],_,_,h=>by cases h
 | (k,w) :: r,x,v,h=>by
   unfold cK at h
   split at h
   ·rename_i e; cases h; rw [e]; simp
   ·exact List.mem_cons_of_mem _ (Gi h)
theorem GI {α β:Type} [DecidableEq α]:∀ {l:List (α × β)} {x:α} {v:β},l.Pairwise (fun a c=>a.1≠c.1)→ (x,v)∈l→cK l x=some v
 | [],_,_,_,h=>by cases h
 | (k,w) :: r,x,v,aF,h=>by
   obtain⟨J,aa⟩:=List.pairwise_cons.1 aF
   unfold cK
   rcases List.mem_cons.1 h with h | h
   ·cases h; rw [if_pos rfl]
   ·rw [if_neg (fun e=>J _ h e.symm),GI aa h]
theorem Gj {α β:Type} [DecidableEq α]:∀ {l:List (α × β)} {x:α} {v:β},cK l x=none→fc l x v=l ++ [(x,v)]
 | [],_,_,_=>rfl
 | (k,w) :: r,x,v,h=>by
   unfold cK at h
   split at h
   ·cases h
   ·rename_i e
    show(if x=k then _ else _)=_
    rw [if_neg e,Gj h]; rfl
def lC (em:List (Int × aA)) (l:List aA):Prop:=em.Perm (l.map fun i=>(i.bt,i))
theorem lC.get {s:a2} {k:Nat} {em:List (Int × aA)} {l:List aA} (h:lC em l) (an:jV s k l) (n:Int) (i:aA):cK em n=some i↔i∈l∧i.bt=n:=by
 have hd:em.Pairwise (fun a c=>a.1≠c.1):=by
  refine(h.pairwise_iff fun bS=>Ne.symm bS).2 ?_
  rw [List.pairwise_map]
  exact an.num.imp fun bS=>bS
 have hm:(n,i)∈em↔i∈l∧i.bt=n:=by
  rw [h.mem_iff,List.mem_map]
  constructor
  ·rintro ⟨c,ag,e⟩
   cases e; exact⟨ag,rfl⟩
  ·rintro ⟨ao,rfl⟩
   exact⟨i,ao,rfl⟩
 rw [← hm]
 exact⟨Gi,GI hd⟩
theorem lC.no {s:a2} {k:Nat} {em:List (Int × aA)} {l:List aA} (h:lC em l) (an:jV s k l) (n:Int):(cK em n).isSome=fM l n:=by
 rw [Bool.eq_iff_iff,Option.isSome_iff_exists]
 unfold fM
 rw [List.any_eq_true]
 constructor
 ·rintro ⟨i,ao⟩
  obtain⟨J,aa⟩:=(h.get an n i).1 ao
  exact⟨i,J,by simpa using aa⟩
 ·rintro ⟨i,ao,aa⟩
  exact⟨i,(h.get an n i).2 ⟨ao,by simpa using aa⟩⟩
structure kS (s:a2) (k:Nat) (hp:aH Cell) (p:Nat) (l:List aA) (own:Nat→Prop):Prop where
 ha:h0 s k l
 cell:∃ f m em,fF hp p=some ⟨km k,(gV s k:Int),f,⟨some m⟩⟩∧iH hp m=some em∧own p∧own m∧lC em l∧pe s k hp f l (fun q=>own q∧q≠m∧q≠p)
 mW:∀ q,own q→q∈cX hp
theorem kS.congr {s:a2} {k:Nat} {hp hp':aH Cell} {p:Nat} {l:List aA} {own:Nat→Prop} (h:kS s k hp p l own) (ar:∀ q,q∈cX hp→q∈cX hp') (a9:∀ q,own q→pat hp' q=pat hp q):kS s k hp' p l own:=by
 obtain⟨f,m,em,J,aa,av,aO,aS,aY⟩:=h.cell
 exact⟨h.ha,⟨f,m,em,by rw [KE (a9 p av)]; exact J,by rw [KF (a9 m aO)]; exact aa,av,aO,aS,aY.congr (fun q _ hq=>hq) fun q hq=>a9 q hq.1⟩,fun q hq=>ar q (h.mW q hq)⟩
theorem kS.nW {s:a2} {k:Nat} {hp hp':aH Cell} {p:Nat} {l:List aA} {own own':Nat→Prop} (h:kS s k hp p l own) (ar:cw hp hp' own') (hd:∀ q,own q→ ¬ own' q):kS s k hp' p l own:=
 h.congr ar.keys fun q hq=>ar.rest q (h.mW q hq) (hd q hq)
theorem entry_eq {s:a2} (h:dH s) {k:Nat} (ar:k < 4) {hp:aH Cell} {p:Nat} {l:List aA} {own:Nat→Prop} (ai:kS s k hp p l own) {o:Option aA} (a6:∀ i,o=some i→i∈l):s7 hp (some p) (jH o).1 (jH o).2=some (ml o):=by
 obtain⟨f,m,em,J,aa,av,aO,aS,aY⟩:=ai.cell
 refine br.get ?_
 unfold s7
 cases o with
 | none=>exact .cond (fun _=> .ret rfl) fun ag=>by cases ag
 | some i=>
   have ao:=a6 i rfl
   refine .cond (fun ag=>by cases ag) fun _=> .eq rfl (.eq J (.eq rfl (.eq aa (.eq rfl ?_))))
   have bg:cK em i.bt=some i:=(aS.get ai.ha.ok _ _).2 ⟨ao,rfl⟩
   show br (Option.bind (lO ((cK em i.bt).getD default)) _) _
   rw [bg]
   exact .eq (zR h ar (ai.ha.ok.ok i ao)) (.ret rfl)
theorem TY {s:a2} (h:dH s) {k:Nat} (ar:k < 4) {hp:aH Cell} {p:Nat} {l:List aA} {own:Nat→Prop} (ai:kS s k hp p l own) {e:b1} (he:jz s k e):uP hp (some p) e=some (ml (dE l e)):=by
 obtain⟨f,m,em,J,aa,av,aO,aS,aY⟩:=ai.cell
 refine br.get ?_
 unfold uP
 refine .cond (fun ag=>by cases ag) fun _=> .eq rfl (.eq J (.eq (N0 h ar aY ai.ha he) (.eq (entry_eq h ar ai fun i ao=>(mB ao).1) (.ret rfl))))
theorem SE {s:a2} (h:dH s) {k:Nat} (ar:k < 4) {hp:aH Cell} {p:Nat} {l:List aA} {own:Nat→Prop} (ai:kS s k hp p l own) (bu:Vector aw 4):rm hp (some p) bu=some (ml (mn s k l bu)):=by
 obtain⟨f,m,em,J,aa,av,aO,aS,aY⟩:=ai.cell
 refine br.get ?_
 unfold rm
 refine .cond (fun ag=>by cases ag) fun _=> ?_
 refine br.loop 4 (fun i st=>st.1=(i:Int)∧ ∀ j,j < 4→bB st.2 j=if j < i then(if j < gV s k then bB bu j else default) else bB bu j) (by decide) ⟨rfl,fun j aB=>rfl⟩ (fun i st ao hs=> ?_) (fun st hs=> ?_)
 ·obtain⟨j,v⟩:=st
  obtain⟨az,aX⟩:=hs
  simp only at az aX; subst az
  refine .cond (fun _=> .eq rfl (.eq J ?_)) (fun ag=>by simp at ag; omega)
  refine .bind (P:=fun rh=> ∀ j,j < 4→bB rh j=if j < i + 1 then(if j < gV s k then bB bu j else default) else bB bu j) (.cond (fun ag=> .idx rfl ao (.ret fun j aB=> ?_)) fun ag=> .ret fun j aB=> ?_) fun rh lJ=> .ret ⟨g5 (by omega),lJ⟩
  ·have ag:gV s k≤i:=by simp at ag; omega
   rw [og _ _ ao]
   by_cases eX:j=i
   ·rw [if_pos eX,if_pos (show j < i + 1 by omega),if_neg (show ¬ j < gV s k by omega)]
   ·rw [if_neg eX,aX j aB]
    by_cases bY:j < i
    ·rw [if_pos bY,if_pos (show j < i + 1 by omega)]
    ·rw [if_neg bY,if_neg (show ¬ j < i + 1 by omega)]
  ·have ag:i < gV s k:=by simp at ag; omega
   rw [aX j aB]
   by_cases eX:j=i
   ·rw [if_neg (show ¬ j < i by omega),if_pos (show j < i + 1 by omega),if_pos (show j < gV s k by omega)]
   ·by_cases bY:j < i
    ·rw [if_pos bY,if_pos (show j < i + 1 by omega)]
    ·rw [if_neg bY,if_neg (show ¬ j < i + 1 by omega)]
 ·obtain⟨j,v⟩:=st
  obtain⟨az,aX⟩:=hs
  simp only at az aX; subst az
  refine⟨_,by simp; rfl,?_⟩
  have a3:v=iZ (gV s k) bu:=u9 fun j aB=>by rw [aX j aB,if_pos aB,lT aB]
  subst a3
  exact .eq rfl (.eq J (.eq (W6 h ar aY ai.ha bu) (.eq (entry_eq h ar ai fun i ao=>TX ao) (.ret rfl))))
theorem UX {s:a2} {k:Nat} {hp:aH Cell} {p:Nat} {l:List aA} {own:Nat→Prop} (ai:kS s k hp p l own):rr hp (some p)=some (l.length:Int):=by
 obtain⟨f,m,em,J,aa,av,aO,aS,aY⟩:=ai.cell
 have an:em.length=l.length:=by rw [aS.length_eq,List.length_map]
 refine br.get ?_
 unfold rr
 refine .cond (fun ag=>by cases ag) fun _=> .eq rfl (.eq J (.eq rfl (.eq aa ?_)))
 rw [an]
 first | exact .ret rfl | exact .eq rfl (.ret rfl)
theorem kS.mono {s:a2} {k:Nat} {hp:aH Cell} {p:Nat} {l:List aA} {own own':Nat→Prop} (h:kS s k hp p l own) (a6:∀ q,own q→own' q) (ao:∀ q,own' q→q∈cX hp):kS s k hp p l own':=by
 obtain⟨f,m,em,J,aa,av,aO,aS,aY⟩:=h.cell
 exact⟨h.ha,⟨f,m,em,J,aa,a6 p av,a6 m aO,aS,aY.congr (fun q _ hq=>⟨a6 q hq.1,hq.2⟩) fun q hq=>rfl⟩,ao⟩
theorem h0.nil {s:a2} {k:Nat} :h0 s k []:=⟨⟨fun i ao=>by(cases ao),.nil,by simp⟩,.nil⟩
def mX:Nat→Prop:=fun _=>False
theorem UY {s:a2} (h:dH s) {k:Nat} (ar:k < 4) (hp:aH Cell):cT (lP hp s ((k:Int) + 1)) (fun r=> ∃ p,r.1=some p∧kS s k r.2 p [] (iu mX hp r.2)∧cw hp r.2 mX):=by
 refine(Ac h ar hp).mono fun r aD=> ?_
 obtain⟨p,e,aD⟩:=aD
 obtain⟨c,m,J,aa,av,aO,aS,aY,b7,dV,eQ,iz,pt,Br⟩:=aD.cell
 obtain⟨aR,aK,f,er⟩:=c
 simp only at aa av aO aY b7 dV
 subst aa av aO
 have hm:=pD aS
 have hp':=kp J
 refine⟨p,e,⟨h0.nil,⟨f,m,[],J,aS,.inr ⟨eQ,gS hp'⟩,.inr ⟨iz,gS hm⟩,List.Perm.refl _,?_⟩,fun q hq=>hq.elim (fun h=>h.elim) fun h=>h.2⟩,⟨pt,fun q hq _=>Br q hq⟩⟩
 have key:∀ q c,pat r.2 q=some c→ (∀ x,c≠ .hE x)→ (∀ x,c≠ .lf x)→q ∉ cX hp→iu mX hp r.2 q∧q≠m∧q≠p:=fun q c ag oY BP aF=>
  ⟨.inr ⟨aF,gS ag⟩,fun e=>by rw [e,hm] at ag; cases ag; exact oY _ rfl,fun e=>by rw [e,hp'] at ag; cases ag; exact BP _ rfl⟩
 have:k=0∨k=1∨2≤k:=by omega
 rcases this with rfl | rfl | dj
 ·obtain⟨q,cx,rfl,ax,a5,bH,c9⟩:=aY rfl
  exact .inl ⟨rfl,q,rfl,⟨cx,[],ax,a5,key q _ (tA ax) (fun _ h=>by cases h) (fun _ h=>by cases h) bH,key cx _ (qF a5) (fun _ h=>by cases h) (fun _ h=>by cases h) c9,fun bu n=>⟨fun h=>(by cases h),fun⟨i,ao,_⟩=>(by cases ao)⟩,.nil⟩⟩
 ·obtain⟨eg,rfl,ax,a5⟩:=b7 rfl
  exact .inr (.inl ⟨rfl,eg,rfl,⟨[],ax,key eg _ (iR ax) (fun _ h=>by cases h) (fun _ h=>by cases h) a5,fun bu r h=>(by cases h),fun bu _ i ao=>(by cases ao),fun bu fj t cI h=>(by cases h),.nil⟩⟩)
 ·obtain⟨q,JL,cap,rfl,ax,a5⟩:=dV dj
  exact .inr (.inr ⟨dj,q,rfl,⟨JL,cap,ax,key q _ (pa ax) (fun _ h=>by cases h) (fun _ h=>by cases h) a5⟩⟩)
theorem h0.snoc {s:a2} {k:Nat} {l:List aA} (h:h0 s k l) {i:aA} (ao:mj s k i) (aV:dE l i.bd=none) (aF:fM l i.bt=false) (an:l.length < 900):h0 s k (l ++ [i]) where
 ok:=h.ok.snoc ao aF an
 key:=by
  rw [List.pairwise_append]
  exact⟨h.key,by simp,fun a a9 c ag=>by rw [List.mem_singleton.1 ag]; exact m8 aV a a9⟩
theorem LO {hp:aH Cell} {p:Nat} {k:Cell} {x:List (Int × aA)} (h:pat hp p=some k):iH (ch hp p (.hE x)) p=some x:=by unfold iH; rw [tF h]
theorem DC (o:Option aA):(jH o).2=o.isSome:=by cases o <;> rfl
def oR (l:List aA) (i:aA):Bool:=(dE l i.bd).isNone && !fM l i.bt
def added (l:List aA) (i:aA):List aA:=if oR l i=true then l ++ [i] else l
theorem UZ {s:a2} (h:dH s) {k:Nat} (ar:k < 4) {hp:aH Cell} {p:Nat} {l:List aA} {own:Nat→Prop} (ai:kS s k hp p l own) {i:aA} (ao:mj s k i) (hlen:l.length < 900):
 cT (ru hp (some p) i) (fun r=>r.1=oR l i∧kS s k r.2 p (added l i) (iu own hp r.2)∧cw hp r.2 own):=by
 obtain⟨f,m,em,J,aa,av,aO,aS,aY⟩:=ai.cell
 have hm:=pD aa
 have hp':=kp J
 have hj:p≠m:=fun e=>by rw [e,hm] at hp'; cases hp'
 have dN:=aS.no ai.ha.ok i.bt
 unfold ru
 refine .cond (fun ag=>by cases ag) fun _=> .eq rfl (.eq J (.eq rfl (.eq aa (.eq rfl (.eq rfl (.eq J (.eq (N0 h ar aY ai.ha ao.dA) (.cond (fun ag=> .ret ?_) fun ag=> ?_))))))))
 ·rw [dN,DC,Bool.or_eq_true] at ag
  have bl:oR l i=false:=by
   unfold oR
   rcases ag with ag | ag
   ·cases aV:dE l i.bd with
    | none=>rw [aV] at ag; cases ag
    | some _=>rfl
   ·rw [ag]; simp
  refine⟨bl.symm,?_,.refl⟩
  unfold added
  rw [bl]
  exact ai.mono (fun q hq=> .inl hq) fun q hq=>hq.elim (ai.mW q) fun hq=>absurd hq.2 hq.1
 ·rw [dN,DC,Bool.or_eq_false_iff] at ag
  obtain⟨bw,b5⟩:=ag
  have aV:dE l i.bd=none:=by
   cases aV:dE l i.bd with
   | none=>rfl
   | some _=>rw [aV] at bw; cases bw
  have bl:oR l i=true:=by unfold oR; rw [aV,b5]; rfl
  have bg:cK em i.bt=none:=by
   cases bg:cK em i.bt with
   | none=>rfl
   | some _=>rw [bg,b5] at dN; cases dN
  have aN:pat (ch hp m (Cell.hE (fc em i.bt i))) p=some (.lf ⟨km k,(gV s k:Int),f,⟨some m⟩⟩):=by rw [jK hj.symm]; exact hp'
  have f1:pe s k (ch hp m (Cell.hE (fc em i.bt i))) f l (fun q=>own q∧q≠m∧q≠p):=aY.congr (fun q _ hq=>hq) fun q hq=>jK hq.2.1.symm
  refine .eq rfl (.eq J (.eq (zR h ar ao) (.eq rfl (.eq aa (.eq rfl (.eq (by unfold fF; rw [aN]) (.bind (W9 h ar f1 (fun q hq=>by rw [o5]; exact ai.mW q hq.1) ai.ha ao aV b5 hlen) fun fH aD=> .ret ⟨bl.symm,?_,?_⟩)))))))
  ·obtain⟨e1,ea⟩:=aD
   have cq:pat fH p=some (.lf ⟨km k,(gV s k:Int),f,⟨some m⟩⟩):=by rw [ea.rest p (gS aN) (fun hq=>hq.2.2 rfl)]; exact aN
   have cF:pat fH m=some (.hE (fc em i.bt i)):=by
    have:pat (ch hp m (Cell.hE (fc em i.bt i))) m=some (.hE (fc em i.bt i)):=tF hm
    rw [ea.rest m (gS this) (fun hq=>hq.2.1 rfl)]; exact this
   unfold added
   rw [if_pos bl]
   refine⟨ai.ha.snoc ao aV b5 hlen,⟨f,m,_,by unfold fF; rw [cq],by unfold iH; rw [cF],.inl av,.inl aO,?_,e1.congr (fun q _ hq=> ?_) fun q _=>rfl⟩,fun q hq=> ?_⟩
   ·unfold lC
    rw [Gj bg,List.map_append]
    exact List.Perm.append_right _ aS
   ·rcases hq with hq | ⟨ax,a5⟩
    ·exact⟨.inl hq.1,hq.2⟩
    ·rw [o5] at ax
     exact⟨.inr ⟨ax,a5⟩,fun e=>ax (e ▸ gS hm),fun e=>ax (e ▸ gS hp')⟩
   ·rcases hq with hq | hq
    ·exact ea.keys q (by rw [o5]; exact ai.mW q hq)
    ·exact hq.2
  ·exact(cw.up (own:=own) aO).trans aD.2 fun q _ hq=>hq.1
theorem LP (x:ca) (n:Int) (an:x.bP.length≤1000):br (BZ x n) (fun r=>(r= -1∧fM x.bP n=false)∨ ∃ i:Nat,i < x.bP.length∧r=i∧ (aJ x.bP i).bt=n∧fM x.bP n=true∧ ∀ j,j < i→ (aJ x.bP j).bt≠n):=HG x n an
theorem Mq {l:List aA} {n:Int} {i:Nat} (aF:l.Pairwise fun a c=>a.bt≠c.bt) (ao:i < l.length) (h:(aJ l i).bt=n):
 l.take i ++ l.drop (i + 1)=l.filter (fun c=>c.bt !=n):=by
 rw [gh _ ao] at h
 have Pj:l=l.take i ++ l[i] :: l.drop (i + 1):=by rw [List.getElem_cons_drop,List.take_append_drop]
 rw [Pj,List.pairwise_append] at aF
 obtain⟨J,aa,av⟩:=aF
 obtain⟨aO,aS⟩:=List.pairwise_cons.1 aa
 conv=>rhs; rw [Pj]
 rw [List.filter_append,List.filter_cons_of_neg (by simp [h])]
 congr 1
 ·exact(List.filter_eq_self.2 fun c ag=>by have:=av c ag l[i] List.mem_cons_self; rw [h] at this; simpa using this).symm
 ·exact(List.filter_eq_self.2 fun c ag=>by have:=aO c ag; rw [h] at this; simp; exact fun e=>this e.symm).symm
theorem jV.filter {s:a2} {k:Nat} {l:List aA} (h:jV s k l) (q:aA→Bool):jV s k (l.filter q) where
 ok i ao:=h.ok i (List.mem_filter.1 ao).1
 num:=h.num.sublist List.filter_sublist
 len:=Nat.le_trans (List.length_filter_le _ _) h.len
theorem SF {s:a2} {k:Nat} {l:List aA} (an:jV s k l) (n:Int):
 uB (nT s k l) n=some (fM l n,nT s k (l.filter fun c=>c.bt !=n)):=by
 refine br.get ?_
 unfold uB
 obtain⟨e1,ea⟩:=an.cO
 refine(LP (nT s k l) n (by show(cO _ l).length≤1000; omega)).bind fun aG J=> ?_
 rcases J with⟨rfl,aa⟩ | ⟨j,aa,rfl,av,aO,aS⟩
 ·have ji:fM l n=false:=by rw [← aa]; exact Dg.symm
  refine .cond (fun _=> .ret ?_) fun ag=>by simp at ag
  rw [ji,List.filter_eq_self.2 fun c ag=>by simpa using Dh ji c ag]
 ·have oP:fM l n=true:=by rw [← aO]; exact Dg.symm
  refine .cond (fun ag=>by simp at ag; omega) fun _=> ?_
  have aB:j < (cO (eZ s k) l).length:=aa
  refine .eq (a:=cO (eZ s k) (l.filter fun c=>c.bt !=n)) ?_ (.ret ?_)
  ·show vV (cO (eZ s k) l) _ _=_
   unfold vV
   rw [g5 (by omega),if_pos ⟨by omega,by omega,by omega⟩]
   have Jd:(cO (eZ s k) l).Pairwise fun a c=>a.bt≠c.bt:=((Df l).symm.pairwise_iff fun bS=>fun e=>bS e.symm).1 an.num
   rw [← Lf (vn s k) an.qd,← Mq Jd aB av]
   simp
  ·rw [oP]; rfl
end Go.Proofs.YthkfkliknjiecaaGreat
