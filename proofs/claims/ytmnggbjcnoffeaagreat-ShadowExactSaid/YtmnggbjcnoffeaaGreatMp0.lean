/-
  What the programs compute, in plain Lean. Conditions: none.
-/
import Derived.Test.YtmnggbjcnoffeaaGreatMl0
import Derived.Test.YtmnggbjcnoffeaaGreatMl2
import Derived.Test.YtmnggbjcnoffeaaGreatMd
namespace Gv
open Go
theorem LH {σ ε:Type} {body:σ→Option (σ ⊕ ε)} {Q:ε→Prop} {cd:σ} (m:Nat) (fB:Nat→σ→Prop)
 (hm:m < 2 ^ 80) (bW:fB 0 cd)
 (hs:∀ k s,k < m→fB k s→ (∃ ca,body s=some (.inl ca)∧fB (k + 1) ca)∨ (∃ e,body s=some (.inr e)∧Q e))
 (he:∀ s,fB m s→ ∃ e,body s=some (.inr e)∧Q e):∃ e,ei eo body cd=some e∧Q e:=by
 have key:∀ n k s,k≤m→m - k < n→fB k s→ ∃ e,ei n body s=some e∧Q e:=by
  intro n
  induction n with
  | zero=>intro k s _ h; omega
  | succ n b1=>
    intro k s av aR an
    by_cases uZ:k=m
    ·subst uZ
     obtain⟨e,aa,ae⟩:=he s an
     exact⟨e,by simp [ei,aa],ae⟩
    ·rcases hs k s (by omega) an with⟨ca,aa,ae⟩ | ⟨e,aa,ae⟩
     ·obtain⟨e,aD,aV⟩:=b1 (k + 1) ca (by omega) (by omega) ae
      exact⟨e,by simp [ei,aa,aD],aV⟩
     ·exact⟨e,by simp [ei,aa],ae⟩
 exact key eo 0 cd (by omega) (by unfold eo; omega) bW
def bg {β:Type} (m:Option β) (P:β→Prop):Prop:= ∃ r,m=some r∧P r
theorem bg.ret {β:Type} {P:β→Prop} {r:β} (h:P r):bg (some r) P:=⟨r,rfl,h⟩
theorem bg.bind {α β:Type} {m:Option α} {f:α→Option β} {P:α→Prop} {Q:β→Prop} (h:bg m P) (k:∀ a,P a→bg (f a) Q):bg (m.bind f) Q:=by
 obtain⟨a,aa,ae⟩:=h
 rw [aa]; exact k a ae
theorem bg.eq {α β:Type} {m:Option α} {a:α} {f:α→Option β} {Q:β→Prop} (h:m=some a) (k:bg (f a) Q):bg (m.bind f) Q:=by
 rw [h]; exact k
theorem bg.mono {β:Type} {m:Option β} {P Q:β→Prop} (h:bg m P) (k:∀ a,P a→Q a):bg m Q:=by
 obtain⟨a,aa,ae⟩:=h
 exact⟨a,aa,k a ae⟩
theorem bg.of_eq {β:Type} {m:Option β} {r:β} {P:β→Prop} (h:bg m P) (k:m=some r):P r:=by
 obtain⟨a,aa,ae⟩:=h
 rw [k] at aa; cases aa; exact ae
theorem bg.cond {β:Type} {b:Bool} {m n:Option β} {P:β→Prop} (aa:b=true→bg m P) (ae:b=false→bg n P):bg (cond b m n) P:=by
 cases b
 ·exact ae rfl
 ·exact aa rfl
theorem bg.c4 {α β:Type} [Inhabited α] {b w:Bool} {m:Option α} {f:α→Option β} {P:α→Prop} {Q:β→Prop} (h:b=w→bg m P) (k:∀ a,(b=w→P a)→bg (f a) Q):bg ((c4 b w m).bind f) Q:=by
 unfold Gv.c4
 by_cases hb:b=w
 ·rw [if_pos hb]; exact(h hb).bind fun a bn=>k a fun _=>bn
 ·rw [if_neg hb]; exact k default fun h=>absurd h hb
theorem bg.loop {σ ε β:Type} {body:σ→Option (σ ⊕ ε)} {f:ε→Option β} {P:β→Prop} {cd:σ} (m:Nat) (fB:Nat→σ→Prop)
 (hm:m < 2 ^ 80) (bW:fB 0 cd)
 (hs:∀ k s,k < m→fB k s→bg (body s) (fun x=>match x with | .inl ca=>fB (k + 1) ca | .inr e=>bg (f e) P))
 (he:∀ s,fB m s→ ∃ e,body s=some (.inr e)∧bg (f e) P):bg ((ei eo body cd).bind f) P:=by
 obtain⟨e,aa,ae⟩:=LH (Q:=fun e=>bg (f e) P) m fB hm bW (fun k s av an=>by
  obtain⟨r,aa,ae⟩:=hs k s av an
  cases r with
  | inl ca=>exact .inl ⟨ca,aa,ae⟩
  | inr e=>exact .inr ⟨e,aa,ae⟩) he
 rw [aa]; exact ae
theorem bg.DI {σ ε:Type} {body:σ→Option (σ ⊕ ε)} {P:ε→Prop} {cd:σ} (m:Nat) (fB:Nat→σ→Prop)
 (hm:m < 2 ^ 80) (bW:fB 0 cd)
 (hs:∀ k s,k < m→fB k s→bg (body s) (fun x=>match x with | .inl ca=>fB (k + 1) ca | .inr e=>P e))
 (he:∀ s,fB m s→bg (body s) (fun x=>match x with | .inl _=>False | .inr e=>P e)):bg (ei eo body cd) P:=by
 obtain⟨e,aa,ae⟩:=LH (Q:=P) m fB hm bW (fun k s av an=>by
  obtain⟨r,aa,ae⟩:=hs k s av an
  cases r with
  | inl ca=>exact .inl ⟨ca,aa,ae⟩
  | inr e=>exact .inr ⟨e,aa,ae⟩) fun s an=>by
  obtain⟨r,aa,ae⟩:=he s an
  cases r with
  | inl ca=>exact ae.elim
  | inr e=>exact⟨e,aa,ae⟩
 exact⟨e,aa,ae⟩
theorem bg.idx {β:Type} {n:Nat} {i:Int} {k:Nat} {f:Nat→Option β} {Q:β→Prop} (an:i=k) (av:k < n) (h:bg (f k) Q):bg ((Gv.idx n i).bind f) Q:=by
 subst an
 have:Gv.idx n (k:Int)=some k:=by unfold Gv.idx; rw [if_pos (by omega)]; simp
 rw [this]; exact h
theorem gD {α:Type} [Inhabited α] {n:Nat} (v:Vector α n) {k:Nat} (x:α) (av:k < n) (j:Nat):bD (cW v k x) j=if j=k then x else bD v j:=by
 unfold bD cW
 by_cases h:j=k
 ·subst h; simp [av]
 ·rw [if_neg h,Vector.getElem?_setIfInBounds_ne (by omega)]
theorem yZ {α:Type} [Inhabited α] {n:Nat} {v w:Vector α n} (h:∀ j,j < n→bD v j=bD w j):v=w:=by
 apply Vector.ext
 intro i an
 have:=h i an
 simpa [bD,an] using this
theorem Fj {α:Type} [Inhabited α] {n:Nat} (j:Nat):bD (default:Vector α n) j=default:=by
 show bD (Vector.replicate n default) j=default
 unfold bD
 by_cases h:j < n <;> simp [h]
theorem oi {n k:Nat} (h:k < n):idx n (k:Int)=some k:=by
 unfold idx; rw [if_pos (by omega)]; simp
theorem tT {n:Nat} {i:Int} (h:0≤i) (cZ:i < n):idx n i=some i.toNat:=by
 unfold idx; rw [if_pos ⟨h,cZ⟩]
theorem ew {k:Nat} (h:k < 2 ^ 62):bz ((k:Int) + 1)=((k + 1:Nat):Int):=by
 rw [hQ (by omega) (by omega)]; simp
theorem nI {k:Nat} (h:k < 2 ^ 64):(BitVec.ofInt 64 (k:Int)).toNat=k:=by
 simp; omega
theorem Uc (x:BitVec 64):((x &&& 1#64) ==1#64)=x.getLsbD 0:=by
 rw [BitVec.and_one_eq_setWidth_ofBool_getLsbD]
 cases x.getLsbD 0 <;> rfl
theorem y0 {α β:Type} [Inhabited α] [Inhabited β] (f:α→β) {l:List α} {k:Nat} (av:k < l.length):ax (l.map f) k=f (ax l k):=by
 rw [ey l av,ey _ (by simpa using av),List.getElem_map]
theorem r6 {α:Type} [Inhabited α] (l:List α) {k:Nat} (av:k < l.length):l.take (k + 1)=l.take k ++ [ax l k]:=by
 rw [List.take_add_one,List.getElem?_eq_getElem av,ey l av]; rfl
theorem Me {α:Type} [Inhabited α] {xs:List α} {p:α→Bool} {k:Nat} (av:k < xs.length) (hp:p (ax xs k)=true) (aE:∀ j,j < k→p (ax xs j)=false):xs.find? p=some (ax xs k):=by
 rw [List.find?_eq_some_iff_getElem]
 refine⟨hp,k,av,(ey xs av).symm,fun j js=> ?_⟩
 have:=aE j js
 rw [ey xs (by omega)] at this
 simp [this]
theorem Mf {α:Type} {xs:List α} {p:α→Bool} (h:∀ x∈xs,p x=false):xs.find? p=none:=
 List.find?_eq_none.2 fun x aq=>by simp [h x aq]
end Gv
namespace Gv
open Go
set_option linter.unusedVariables false
def ev {α:Type} (m:aM α) (P:α→Prop):Prop:= ∀ Q:α→Prop,(∀ r,P r→Q r)→m Q
theorem ev.run {α:Type} {m:aM α} {P:α→Prop} (h:ev m P):m P:=h P fun _ h=>h
theorem ev.ret {α:Type} {P:α→Prop} {x:α} (h:P x):ev (aM.ret x) P:=fun Q k=>k x h
theorem ev.bind {α β:Type} {m:aM α} {f:α→aM β} {P:α→Prop} {pK:β→Prop} (h:ev m P) (k:∀ r,P r→ev (f r) pK):ev (aM.bind m f) pK:=fun Q hq=>h _ fun r aQ=>k r aQ Q hq
theorem ev.of {α:Type} {o:Option α} {P:α→Prop} (h:bg o P):ev (aM.of o) P:=fun Q hq=>let⟨r,aa,ae⟩:=h; ⟨r,aa,hq r ae⟩
theorem ev.pC {α β:Type} {o:Option α} {f:α→aM β} {P:α→Prop} {pK:β→Prop} (h:bg o P) (k:∀ r,P r→ev (f r) pK):ev (aM.bind (aM.of o) f) pK:= .bind (.of h) k
theorem ev.eq {α β:Type} {o:Option α} {a:α} {f:α→aM β} {pK:β→Prop} (h:o=some a) (k:ev (f a) pK):ev (aM.bind (aM.of o) f) pK:=fun Q hq=>⟨a,h,k Q hq⟩
theorem ev.mono {α:Type} {m:aM α} {P pK:α→Prop} (h:ev m P) (k:∀ r,P r→pK r):ev m pK:=fun Q hq=>h Q fun r aQ=>hq r (k r aQ)
theorem ev.cond {α:Type} {b:Bool} {m n:aM α} {P:α→Prop} (aa:b=true→ev m P) (ae:b=false→ev n P):ev (cond b m n) P:=by
 cases b
 ·exact ae rfl
 ·exact aa rfl
theorem ev.c4 {α β:Type} [Inhabited α] {b w:Bool} {m:Option α} {f:α→aM β} {P:α→Prop} {Q:β→Prop} (h:b=w→bg m P) (k:∀ a,(b=w→P a)→ev (f a) Q):ev (aM.bind (aM.of (c4 b w m)) f) Q:=by
 unfold Gv.c4
 by_cases hb:b=w
 ·rw [if_pos hb]; exact .pC (h hb) fun a bn=>k a fun _=>bn
 ·rw [if_neg hb]; exact .eq rfl (k default fun h=>absurd h hb)
theorem ev.idx {β:Type} {n:Nat} {i:Int} {k:Nat} {f:Nat→aM β} {Q:β→Prop} (an:i=k) (av:k < n) (h:ev (f k) Q):ev (aM.bind (aM.of (Gv.idx n i)) f) Q:=by
 subst an
 exact .eq (oi av) h
theorem ev.mk {b9 β:Type} {hp:a9 b9} {c:b9} {f:Nat × a9 b9→aM β} {P:β→Prop} (k:∀ p,p ∉ eA hp→ev (f (p,(p,c) :: hp)) P):ev (aM.bind (aM.mk hp c) f) P:=fun Q hq=>fun a bn=>by
 obtain⟨p,hp'⟩:=a
 obtain⟨aa,ae⟩:=bn
 simp only at aa ae
 subst ae
 exact k p aa Q hq
theorem ev.any {α β:Type} {f:α→aM β} {P:β→Prop} (k:∀ x,ev (f x) P):ev (aM.bind (aM.any α) f) P:=fun Q hq x=>k x Q hq
theorem ev.loop {σ ε:Type} {body:σ→aM (σ ⊕ ε)} {P:ε→Prop} {cd:σ} (m:Nat) (fB:Nat→σ→Prop) (hm:m < 2 ^ 80) (bW:fB 0 cd)
 (hs:∀ k s,k < m→fB k s→ev (body s) (fun x=>match x with | .inl ca=>fB (k + 1) ca | .inr e=>P e))
 (he:∀ s,fB m s→ev (body s) (fun x=>match x with | .inl _=>False | .inr e=>P e)):ev (o4 eo body cd) P:=by
 have key:∀ n k s,k≤m→m - k < n→fB k s→ev (o4 n body s) P:=by
  intro n
  induction n with
  | zero=>intro k s _ h; omega
  | succ n b1=>
    intro k s av aR an Q hq
    by_cases uZ:k=m
    ·subst uZ
     exact he s an _ fun r aQ=>by
      cases r with
      | inl ca=>exact aQ.elim
      | inr e=>exact hq e aQ
    ·exact hs k s (by omega) an _ fun r aQ=>by
      cases r with
      | inl ca=>exact b1 (k + 1) ca (by omega) (by omega) aQ Q hq
      | inr e=>exact hq e aQ
 exact key eo 0 cd (by omega) (by unfold eo; omega) bW
theorem si {b9:Type} {hp:a9 b9} {p q:Nat} {k:b9} :pat ((p,k) :: hp) q=if p=q then some k else pat hp q:=rfl
theorem Tj {b9:Type} {hp:a9 b9} {p:Nat} (h:p ∉ eA hp):pat hp p=none:=by
 cases e:pat hp p with
 | none=>rfl
 | some k=>exact absurd (lr e) h
theorem wo {b9:Type} {hp:a9 b9} {p:Nat} {k k':b9} (h:pat hp p=some k'):pat (dW hp p k) p=some k:=by rw [zb,if_pos rfl,h]; rfl
theorem se {b9:Type} {hp:a9 b9} {p q:Nat} {k:b9} (h:p≠q):pat (dW hp p k) q=pat hp q:=by rw [zb,if_neg h]
theorem yR {α β:Type} [DecidableEq α] {l:List (α × β)} {x y:α} {v:β} :ep (gH l x v) y=if y=x then some v else ep l y:=by
 induction l with
 | nil=>
   show(if y=x then some v else ep [] y)=_
   rfl
 | cons a r b1=>
   obtain⟨k,w⟩:=a
   simp only [gH]
   by_cases h:x=k
   ·rw [if_pos h]
    simp only [ep]
    by_cases ae:y=x
    ·simp [ae]
    ·simp [ae,show ¬ y=k from fun e=>ae (by rw [e,h])]
   ·rw [if_neg h]
    simp only [ep]
    by_cases ae:y=k
    ·subst ae; simp [show ¬ y=x from fun e=>h e.symm]
    ·rw [if_neg ae,b1,if_neg ae]
end Gv
namespace Go.Proofs.YtmnggbjcnoffeaaGreat
open Go Gv
set_option linter.unusedVariables false
set_option linter.unusedSimpArgs false
def h5 (b:Bool):Nat:=bif b then 1 else 0
def dH (hp:a9 Cell):Ref→List Bool→Ref
 | none,_=>none
 | some p,[]=>some p
 | some p,b :: bC=>match dx hp p with
   | none=>none
   | some c=>dH hp (bD c.eK (h5 b)) bC
theorem iz {hp:a9 Cell} {bC:List Bool} :dH hp none bC=none:=by cases bC <;> rfl
theorem pQ {hp:a9 Cell} {r:Ref} :dH hp r []=r:=by cases r <;> rfl
theorem kg {hp:a9 Cell} {p:Nat} {c:eJ} {b:Bool} {bC:List Bool} (h:dx hp p=some c):dH hp (some p) (b :: bC)=dH hp (bD c.eK (h5 b)) bC:=by
 show(match dx hp p with | none=>none | some c=>dH hp (bD c.eK (h5 b)) bC)=_
 rw [h]
theorem oj {hp:a9 Cell} :∀ {r:Ref} {bC cs:List Bool},dH hp r (bC ++ cs)=dH hp (dH hp r bC) cs
 | none,bC,cs=>by rw [iz,iz,iz]
 | some p,[],cs=>by rw [List.nil_append,pQ]
 | some p,b :: bC,cs=>by
   cases e:dx hp p with
   | none=>
     have aa:∀ xs,dH hp (some p) (b :: xs)=none:=fun xs=>by
      show(match dx hp p with | none=>none | some c=>dH hp (bD c.eK (h5 b)) xs)=_
      rw [e]
     rw [List.cons_append,aa,aa,iz]
   | some c=>rw [List.cons_append,kg e,kg e,oj]
theorem Le {hp hp':a9 Cell} :∀ {r:Ref} {bC:List Bool},(∀ p cs,dH hp r cs=some p→dx hp' p=dx hp p)→dH hp' r bC=dH hp r bC
 | none,bC,_=>by rw [iz,iz]
 | some p,[],_=>rfl
 | some p,b :: bC,h=>by
   have bW:=h p [] rfl
   show(match dx hp' p with | none=>none | some c=>dH hp' (bD c.eK (h5 b)) bC)=(match dx hp p with | none=>none | some c=>dH hp (bD c.eK (h5 b)) bC)
   rw [bW]
   cases e:dx hp p with
   | none=>rfl
   | some c=>
     refine Le fun q cs hq=>h q (b :: cs) ?_
     rw [kg e]; exact hq
structure pV (hp:a9 Cell) (root:Ref):Prop where
 reads:∀ bC p,dH hp root bC=some p→ ∃ c,dx hp p=some c
 inj:∀ bC cs p,dH hp root bC=some p→dH hp root cs=some p→bC=cs
 dep:∀ bC p,dH hp root bC=some p→bC.length≤32
def cont (hp:a9 Cell) (root:Ref) (bC:List Bool):Option Int:=match dH hp root bC with
 | none=>none
 | some p=>match dx hp p with
   | none=>none
   | some c=>bif c.fp then some c.j1 else none
theorem m9 {hp:a9 Cell} {root:Ref} {bC:List Bool} {p:Nat} {c:eJ} (h:dH hp root bC=some p) (ar:dx hp p=some c):cont hp root bC=bif c.fp then some c.j1 else none:=by
 unfold cont; rw [h]; simp only [ar]
theorem nJ {hp:a9 Cell} {root:Ref} {bC:List Bool} (h:dH hp root bC=none):cont hp root bC=none:=by
 unfold cont; rw [h]
theorem qO {hp:a9 Cell} {p:Nat} {c:eJ} :dx hp p=some c↔pat hp p=some (.hl c):=by
 refine⟨l3,fun h=> ?_⟩
 unfold dx; rw [h]
theorem sf {hp:a9 Cell} {p:Nat} {c:ga} :gE hp p=some c↔pat hp p=some (.j0 c):=by
 refine⟨om,fun h=> ?_⟩
 unfold gE; rw [h]
theorem yG {hp hp':a9 Cell} {p:Nat} (h:pat hp' p=pat hp p):dx hp' p=dx hp p:=by unfold dx; rw [h]
theorem Fq {hp hp':a9 Cell} {p:Nat} (h:pat hp' p=pat hp p):gE hp' p=gE hp p:=by unfold gE; rw [h]
structure gS (hp hp':a9 Cell) (own:Nat→Prop):Prop where
 keys:∀ q,q∈eA hp→q∈eA hp'
 rest:∀ q,q∈eA hp→ ¬ own q→pat hp' q=pat hp q
theorem gS.refl {hp:a9 Cell} {own:Nat→Prop} :gS hp hp own:=⟨fun _ h=>h,fun _ _ _=>rfl⟩
theorem gS.mk' {hp:a9 Cell} {own:Nat→Prop} {a:Nat} {k:Cell} (bn:a ∉ eA hp):gS hp ((a,k) :: hp) own:=
 ⟨fun q h=>List.mem_cons_of_mem _ h,fun q h _=>by rw [si,if_neg (fun e:a=q=>bn (by rw [e]; exact h))]⟩
theorem gS.up {hp:a9 Cell} {own:Nat→Prop} {p:Nat} {k:Cell} (hp':own p):gS hp (dW hp p k) own:=
 ⟨fun q h=>by rw [tS]; exact h,fun q h hq=>se (fun e:p=q=>hq (by rw [← e]; exact hp'))⟩
theorem gS.trans {aa ae aD:a9 Cell} {own own':Nat→Prop} (a:gS aa ae own) (b:gS ae aD own') (bp:∀ q,q∈eA aa→own' q→own q):gS aa aD own:=
 ⟨fun q h=>b.keys q (a.keys q h),fun q h hq=>by rw [b.rest q (a.keys q h) fun cZ=>hq (bp q h cZ),a.rest q h hq]⟩
theorem SL (b:Bool):bD (default:eJ).eK (h5 b)=none:=by cases b <;> rfl
theorem Lf {hp:a9 Cell} {a:Nat} (h:dx hp a=some (default:eJ)):∀ bC,dH hp (some a) bC=if bC= [] then some a else none
 | []=>rfl
 | b :: bC=>by rw [kg h,SL,iz]; rfl
theorem F1 {hp hp':a9 Cell} {root:Ref} {ws:List Bool} {b:Bool} {p a:Nat} {c:eJ} (cj:pV hp root) (hw:dH hp root ws=some p) (ar:dx hp p=some c) (aR:bD c.eK (h5 b)=none) (bn:dx hp a=none)
 (dV:dx hp' p=some { c with eK:=cW c.eK (h5 b) (some a) }) (e9:dx hp' a=some default) (iE:∀ q,q≠p→q≠a→dx hp' q=dx hp q):
 ∀ (bC us:List Bool) (q:Nat),dH hp root us=some q→dH hp' (some q) bC=if us ++ bC=ws ++ [b] then some a else dH hp (some q) bC
 | [],us,q,hu=>by
   have: ¬ us ++ []=ws ++ [b]:=fun e=>by
    rw [List.append_nil] at e
    rw [e,oj,hw,kg ar,aR,iz] at hu; cases hu
   rw [if_neg this]; rfl
 | x :: xs,us,q,hu=>by
   obtain⟨PI,s9⟩:=cj.reads us q hu
   have oL:q≠a:=fun e=>by rw [e,bn] at s9; cases s9
   by_cases Bi:q=p
   ·subst Bi
    have Zk:=cj.inj us ws q hu hw
    subst Zk
    rw [ar] at s9; cases s9
    rw [kg dV,kg ar]
    simp only
    have cw:h5 b < 2:=by cases b <;> decide
    rw [gD _ _ cw]
    by_cases IZ:x=b
    ·subst IZ
     rw [if_pos rfl,aR,iz,Lf e9]
     by_cases h:xs= []
     ·subst h; rw [if_pos rfl,if_pos rfl]
     ·rw [if_neg h,if_neg fun e=>h ?_]
      have:=List.append_cancel_left e
      simpa using this
    ·have dz: ¬ h5 x=h5 b:=fun e=>IZ (by cases x <;> cases b <;> first | rfl | cases e)
     have gK: ¬ us ++ x :: xs=us ++ [b]:=fun e=>IZ (by have:=List.append_cancel_left e; simpa using (List.cons.inj this).1)
     rw [if_neg dz,if_neg gK]
     cases e:bD c.eK (h5 x) with
     | none=>rw [iz,iz]
     | some dw=>
       have n5:dH hp root (us ++ [x])=some dw:=by rw [oj,hu,kg ar,e,pQ]
       rw [F1 cj hw ar aR bn dV e9 iE xs (us ++ [x]) dw n5,List.append_assoc,List.singleton_append,if_neg gK]
   ·have aa:dx hp' q=some PI:=by rw [iE q Bi oL]; exact s9
    rw [kg aa,kg s9]
    cases e:bD PI.eK (h5 x) with
    | none=>
      have gK: ¬ us ++ x :: xs=ws ++ [b]:=fun aU=>by
       have Zl:dH hp root (us ++ [x])=none:=by rw [oj,hu,kg s9,e,iz]
       rcases List.eq_nil_or_concat xs with rfl | ⟨ys,y,rfl⟩
       ·have:=(List.append_inj_left' aU rfl)
        subst this
        rw [hu] at hw; cases hw; exact Bi rfl
       ·have aD:us ++ x :: ys=ws:=by
         have:(us ++ x :: ys) ++ [y]=ws ++ [b]:=by simpa using aU
         exact List.append_inj_left' this rfl
        rw [← aD,show us ++ x :: ys=(us ++ [x]) ++ ys by simp,oj,Zl,iz] at hw
        cases hw
      rw [iz,iz,if_neg gK]
    | some dw=>
      have n5:dH hp root (us ++ [x])=some dw:=by rw [oj,hu,kg s9,e,pQ]
      rw [F1 cj hw ar aR bn dV e9 iE xs (us ++ [x]) dw n5,List.append_assoc,List.singleton_append]
theorem grow {hp hp':a9 Cell} {r:Nat} {ws:List Bool} (hd:ws.length < 32) {b:Bool} {p a:Nat} {c:eJ} (cj:pV hp (some r)) (hw:dH hp (some r) ws=some p) (ar:dx hp p=some c) (aR:bD c.eK (h5 b)=none) (bn:dx hp a=none)
 (dV:dx hp' p=some { c with eK:=cW c.eK (h5 b) (some a) }) (e9:dx hp' a=some default) (iE:∀ q,q≠p→q≠a→dx hp' q=dx hp q):
 pV hp' (some r)∧ (∀ bC,dH hp' (some r) bC=if bC=ws ++ [b] then some a else dH hp (some r) bC)∧ ∀ bC,cont hp' (some r) bC=cont hp (some r) bC:=by
 have a8:∀ bC,dH hp' (some r) bC=if bC=ws ++ [b] then some a else dH hp (some r) bC:=fun bC=>F1 cj hw ar aR bn dV e9 iE bC [] r rfl
 have Et:∀ bC,dH hp (some r) bC≠some a:=fun bC h=>by
  obtain⟨c,aa⟩:=cj.reads bC a h
  rw [bn] at aa; cases aa
 have Zm:dH hp (some r) (ws ++ [b])=none:=by rw [oj,hw,kg ar,aR,iz]
 refine⟨⟨fun bC q h=> ?_,fun bC cs q aa ae=> ?_,fun bC q h=> ?_⟩,a8,fun bC=> ?_⟩
 ·rw [a8] at h
  split at h
  ·cases h; exact⟨_,e9⟩
  ·obtain⟨jP,aa⟩:=cj.reads bC q h
   by_cases e:q=p
   ·subst e; exact⟨_,dV⟩
   ·exact⟨jP,by rw [iE q e fun aU=>Et bC (aU ▸ h)]; exact aa⟩
 ·rw [a8] at aa ae
  split at aa <;> split at ae
  ·rename_i aA aU; rw [aA,aU]
  ·cases aa; exact absurd ae (Et cs)
  ·cases ae; exact absurd aa (Et bC)
  ·exact cj.inj bC cs q aa ae
 ·rw [a8] at h
  split at h
  ·rename_i e; rw [e]; simp; omega
  ·exact cj.dep bC q h
 ·by_cases e:bC=ws ++ [b]
  ·subst e
   rw [nJ Zm,m9 (by rw [a8,if_pos rfl]) e9]; rfl
  ·have I0:dH hp' (some r) bC=dH hp (some r) bC:=by rw [a8,if_neg e]
   cases h:dH hp (some r) bC with
   | none=>rw [nJ h,nJ (I0.trans h)]
   | some q=>
     obtain⟨jP,aa⟩:=cj.reads bC q h
     by_cases eq:q=p
     ·subst eq
      rw [ar] at aa; cases aa
      rw [m9 h ar,m9 (I0.trans h) dV]
     ·rw [m9 h aa,m9 (I0.trans h) (by rw [iE q eq fun aU=>Et bC (aU ▸ h)]; exact aa)]
theorem CP {hp hp':a9 Cell} {p:Nat} {c jP:eJ} (ar:dx hp p=some c) (j8:dx hp' p=some jP) (he:jP.eK=c.eK) (h:∀ q,q≠p→dx hp' q=dx hp q):∀ (bC:List Bool) (r:Ref),dH hp' r bC=dH hp r bC
 | bC,none=>by rw [iz,iz]
 | [],some q=>rfl
 | b :: bC,some q=>by
   by_cases e:q=p
   ·subst e
    rw [kg ar,kg j8,he]; exact CP ar j8 he h bC _
   ·cases aU:dx hp q with
    | none=>
      show(match dx hp' q with | none=>none | some c=>dH hp' (bD c.eK (h5 b)) bC)=(match dx hp q with | none=>none | some c=>dH hp (bD c.eK (h5 b)) bC)
      rw [h q e,aU]
    | some d=>rw [kg aU,kg (by rw [h q e]; exact aU)]; exact CP ar j8 he h bC _
theorem Ym {hp hp':a9 Cell} {root:Ref} {ws:List Bool} {p:Nat} {c jP:eJ} (cj:pV hp root) (hw:dH hp root ws=some p) (ar:dx hp p=some c) (j8:dx hp' p=some jP) (he:jP.eK=c.eK) (h:∀ q,q≠p→dx hp' q=dx hp q):
 pV hp' root∧ ∀ bC,cont hp' root bC=if bC=ws then(bif jP.fp then some jP.j1 else none) else cont hp root bC:=by
 have a8:=CP ar j8 he h
 refine⟨⟨fun bC q hq=> ?_,fun bC cs q aa ae=>cj.inj bC cs q (by rw [← a8]; exact aa) (by rw [← a8]; exact ae),fun bC q hq=>cj.dep bC q (by rw [← a8]; exact hq)⟩,fun bC=> ?_⟩
 ·rw [a8] at hq
  obtain⟨d,aa⟩:=cj.reads bC q hq
  by_cases e:q=p
  ·subst e; exact⟨_,j8⟩
  ·exact⟨d,by rw [h q e]; exact aa⟩
 ·by_cases e:bC=ws
  ·subst e; rw [if_pos rfl,m9 (by rw [a8]; exact hw) j8]
  ·rw [if_neg e]
   cases aa:dH hp root bC with
   | none=>rw [nJ aa,nJ (by rw [a8]; exact aa)]
   | some q=>
     obtain⟨d,ae⟩:=cj.reads bC q aa
     have Bi:q≠p:=fun aU=>e (cj.inj bC ws p (aU ▸ aa) hw)
     rw [m9 aa ae,m9 (by rw [a8]; exact aa) (by rw [h q Bi]; exact ae)]
end Go.Proofs.YtmnggbjcnoffeaaGreat
namespace Go.Proofs.YtmnggbjcnoffeaaGreat
open Go Gv
set_option linter.unusedVariables false
set_option linter.unusedSimpArgs false
set_option maxRecDepth 100000
theorem iy {α:Type} {b:Nat} (xs ys:List α) (h:xs.length + ys.length≤1000000) (hb:b≤100000):gu b xs ys=some (xs ++ ys):=by
 unfold gu
 rw [if_pos]
 unfold maxLen
 refine⟨Nat.le_trans (Nat.mul_le_mul h hb) (by omega),by omega⟩
def gI (c:bt):Prop:=0≤c.rm∧c.cu.length≤1000
theorem Mg (l:List (BitVec 8)) (n:Int) (bW:0≤n) (aa:n≤1000):bg (tD l n) gI:=by
 unfold tD
 refine .eq (a:=(l.drop 0).take ((min (l.length:Int) n).toNat - 0)) ?_ (.ret ⟨Int.le_refl 0,?_⟩)
 ·unfold q0; rw [if_pos ⟨by omega,by omega,by omega⟩]; rfl
 ·simp only [List.length_take,List.length_drop]; omega
theorem gd (c:bt) (n:Int) (ar:gI c) (aR:1≤n):bg (fE c n) (fun r=>gI r.2∧0≤r.1∧r.1 < n∧r.1 < 256):=by
 unfold fE Cg
 obtain⟨l,a⟩:=c
 obtain⟨bW,aa⟩:=ar
 simp only at bW aa
 obtain⟨k,rfl⟩:=Int.eq_ofNat_of_zero_le bW
 refine .eq rfl (.cond (fun _=> .ret ⟨⟨bW,aa⟩,by omega,by omega,by omega⟩) fun h=> ?_)
 simp only [Bool.or_eq_false_iff,Bool.not_eq_false',decide_eq_true_eq,decide_eq_false_iff_not] at h
 have aA:bz ((k:Int) + 1)=((k + 1:Nat):Int):=ew (by omega)
 simp only [aA]
 have aU:bz (((k + 1:Nat):Int) - 1)=(k:Int):=by rw [hQ (by omega) (by omega)]; omega
 rw [aU]
 refine .idx rfl (by omega) (.eq (by unfold nZ; rw [if_neg (by omega)]) (.ret ⟨⟨by simp only; omega,aa⟩,?_,?_,?_⟩))
 ·exact Int.tmod_nonneg _ (by omega)
 ·exact Int.tmod_lt_of_pos _ (by omega)
 ·simp only
  have aD:(ax l k).toNat < 256:=(ax l k).isLt
  obtain⟨m,rfl⟩:=Int.eq_ofNat_of_zero_le (show 0≤n by omega)
  have aV:(((ax l k).toNat:Int)).tmod m=(((ax l k).toNat % m:Nat):Int):=(Int.ofNat_tmod _ _).symm
  have a1:=Nat.mod_le (ax l k).toNat m
  omega
theorem m5 (c:bt) (ar:gI c):bg (k1 c) (fun r=>gI r.2):=by
 unfold k1
 exact .bind (gd c 2 ar (by omega)) fun y h=> .ret h.1
theorem Sb (c:bt) (ar:gI c):bg (xQ c) (fun r=>gI r.2∧r.1.length=3):=by
 unfold xQ
 refine .bind (gd c 4 ar (by omega)) fun al aa=> ?_
 refine .eq (tT aa.2.1 (by simpa using aa.2.2.1)) (.eq rfl (.eq rfl (.bind (m5 _ aa.1) fun aN ae=> ?_)))
 refine .bind (P:=fun m=>gI m.1) (.cond (fun _=> ?_) (fun _=> .ret ae)) fun bM cG=> ?_
 ·refine .bind (gd _ 2 ae (by omega)) fun b8 bo=> .eq rfl (.bind (gd _ 4 bo.1 (by omega)) fun cD cX=> ?_)
  exact .eq (tT cX.2.1 (by simpa using cX.2.2.1)) (.eq rfl (.eq (iy _ _ (by simp) (by omega)) (.ret cX.1)))
 ·refine .bind (gd _ 4 cG (by omega)) fun a7 aD=> .eq (tT aD.2.1 (by simpa using aD.2.2.1)) (.eq rfl (.eq rfl ?_))
  refine .bind (gd _ 3 aD.1 (by omega)) fun bR aV=> ?_
  refine .bind (P:=fun m=>gI m.1) (.cond (fun _=> ?_) (fun _=> .ret aV.1)) fun cI dJ=> .ret ⟨dJ,rfl⟩
  exact .bind (gd _ 3 aV.1 (by omega)) fun br a1=> .eq rfl (.ret a1.1)
def o5 (a:dN):Int × List Int:=(a.bX,a.jR.map (·.fe))
def w3:List (Int × List Int):= [(1,[]),(2,[]),(3,[16]),(4,[4]),(5,[4,12]),(6,[])]
theorem Tk {α β:Type} [Inhabited α] (f:α→β) (l:List α) (k:Nat) (x:α) (h:f x=f (ax l k)):(hk l k x).map f=l.map f:=by
 unfold hk
 apply List.ext_getElem
 ·simp
 ·intro i aa ae
  simp only [List.length_map,List.length_set] at aa
  simp only [List.getElem_map,List.getElem_set]
  split
  ·rename_i e; subst e; rw [h,ey l aa]
  ·rfl
theorem FL {α β:Type} [Inhabited α] (f:α→β) {l:List α} {k:Nat} {x:α} {r:List β} (h:f x=f (ax l k)) (ao:l.map f=r):(hk l k x).map f=r:=(Tk f l k x h).trans ao
theorem RT (c:bt) (ar:gI c):bg (xM c) (fun r=>gI r.2∧r.1.map o5=w3):=by
 unfold xM
 refine .eq rfl (.eq rfl (.eq rfl (.eq rfl (.eq rfl (.eq rfl (.eq rfl (.eq rfl (.eq rfl (.eq rfl (.eq rfl (.eq rfl (.eq rfl ?_))))))))))))
 refine .bind (gd _ 2 ar (by omega)) fun al aa=> .eq rfl (.bind (gd _ 256 aa.1 (by omega)) fun aN ae=> .eq rfl (.eq rfl (.eq rfl ?_)))
 refine .bind (m5 _ ae.1) fun a7 aD=> ?_
 refine .bind (P:=fun m=>m.map o5=w3) (.cond (fun _=> ?_) (fun _=> .ret rfl)) fun bM cG=> ?_
 ·exact .idx (k:=2) rfl (by simp) (.eq rfl (.ret (FL o5 rfl rfl)))
 ·refine .bind (m5 _ aD) fun bR aV=> .bind (P:=fun m=>m.map o5=w3) (.cond (fun _=> ?_) (fun _=> .ret cG)) fun cI dJ=> .ret ⟨aV,dJ⟩
  have ao:bM.length=6:=by rw [← List.length_map (f:=o5),cG]; rfl
  exact .idx (k:=4) rfl (by omega) (.eq rfl (.ret (FL o5 rfl cG)))
def oQ:cE:= { cm:=ByteArray.mk #[97],gr:=4,cg:=1 }
def vc:cE:= { cm:=ByteArray.mk #[100],gr:=7,cg:=2 }
def EJ:cE:= { cm:=ByteArray.mk #[109],gr:=3,cg:=1 }
def BJ:cE:= { cm:=ByteArray.mk #[101],gr:=6,cg:=3 }
def Bj:cE:= { cm:=ByteArray.mk #[97],gr:=4,cg:=3 }
def JE:cE:= { cm:=ByteArray.mk #[98],gr:=5,cg:=1 }
def BK:cE:= { cm:=ByteArray.mk #[102],gr:=8,cg:=4 }
def JF:cE:= { cm:=ByteArray.mk #[103],gr:=9,cg:=1 }
def ni (t:bV):Int × List Int × List cE:=(t.bX,t.dk,t.bx)
def l8 (b:Bool):List cE:=if b then [vc,EJ] else [vc]
def uo (b:Bool):List cE:=if b then [BJ,Bj,JE] else [BJ,Bj]
def uq (b:Bool):List cE:=if b then [BK,JF,vc] else [BK]
def rr (eE fN hx:Bool):List (Int × List Int × List cE):=
 [(1,[1,2,4],[oQ]),(2,[1,2,3,4],l8 eE),(3,[1,2,3,5,6],uo fN),(4,[1,3,5],uq hx)]
theorem Sc (c:bt) (ar:gI c):bg (xS c) (fun r=>gI r.2∧ ∃ eE fN hx,r.1.map ni=rr eE fN hx):=by
 unfold xS
 refine .eq rfl (.bind (gd _ 2 ar (by omega)) fun al aa=> .bind (gd _ 5 aa.1 (by omega)) fun aN ae=> .eq rfl (.eq rfl ?_))
 refine .bind (gd _ 6 ae.1 (by omega)) fun a7 aD=> .bind (m5 _ aD.1) fun bR aV=> ?_
 refine .bind (P:=fun m=>(m.1.bX=2∧m.1.dk= [1,2,3,4])∧ ∃ b,m.2=l8 b) (.cond (fun _=> ?_) (fun _=> .ret ⟨⟨rfl,rfl⟩,false,rfl⟩)) fun bM cG=> ?_
 ·exact .eq rfl (.eq (iy _ _ (by simp) (by omega)) (.ret ⟨⟨rfl,rfl⟩,true,rfl⟩))
 refine .eq rfl (.eq rfl (.bind (gd _ 6 aV (by omega)) fun br a1=> .bind (m5 _ a1.1) fun b8 bo=> ?_))
 refine .bind (P:=fun m=>(m.1.bX=3∧m.1.dk= [1,2,3,5,6])∧ ∃ b,m.2=uo b) (.cond (fun _=> ?_) (fun _=> .ret ⟨⟨rfl,rfl⟩,false,rfl⟩)) fun cI dJ=> ?_
 ·exact .eq rfl (.eq (iy _ _ (by simp) (by omega)) (.ret ⟨⟨rfl,rfl⟩,true,rfl⟩))
 refine .eq rfl (.bind (gd _ 5 bo (by omega)) fun cD cX=> .bind (m5 _ cX.1) fun dL eP=> ?_)
 refine .bind (P:=fun m=>(m.1.bX=4∧m.1.dk= [1,3,5])∧ ∃ b,m.2=uq b) (.cond (fun _=> ?_) (fun _=> .ret ⟨⟨rfl,rfl⟩,false,rfl⟩)) fun fb gx=> ?_
 ·exact .eq rfl (.eq rfl (.eq (iy _ _ (by simp) (by omega)) (.ret ⟨⟨rfl,rfl⟩,true,rfl⟩)))
 refine .eq rfl (.eq rfl (.eq rfl (.eq rfl (.eq rfl ?_))))
 obtain⟨⟨dY,eg⟩,eE,jM⟩:=cG
 obtain⟨⟨cF,da⟩,fN,ft⟩:=dJ
 obtain⟨⟨d1,d2⟩,hx,d3⟩:=gx
 refine bg.loop 4 (fun k s=>s.1=(k:Int)∧s.2.1.map ni=rr eE fN hx∧gI s.2.2) (by omega) ⟨rfl,?_,eP⟩ (fun k s av an=> ?_) (fun s an=> ?_)
 ·simp only [List.map_cons,List.map_nil,ni,dY,eg,jM,cF,da,ft,d1,d2,d3,rr]; rfl
 ·obtain⟨i,hi,rV⟩:=s; obtain⟨aA,aU,cL⟩:=an
  simp only at aA aU cL; subst aA
  refine bg.cond (fun _=> ?_) (fun h=>by simp at h; omega)
  have ao:hi.length=4:=by rw [← List.length_map (f:=ni),aU]; rfl
  refine .idx rfl (by simpa using av) (.bind (gd _ 3 cL (by omega)) fun fU fO=> .eq (tT fO.2.1 ?_) (.idx rfl (by simp only; omega) (.eq rfl (.ret ⟨ew (by omega),?_,fO.1⟩))))
  ·have jK:=fO.2.2.1
   have:k=0∨k=1∨k=2∨k=3:=by omega
   rcases this with rfl | rfl | rfl | rfl <;> exact jK
  ·exact FL ni rfl aU
 ·obtain⟨i,hi,rV⟩:=s; obtain⟨aA,aU,cL⟩:=an
  simp only at aA aU cL; subst aA
  refine⟨_,rfl,?_⟩
  exact .ret ⟨cL,eE,fN,hx,aU⟩
theorem Mh (n:Nat) (h:n≤1000):rz (α:=Bool) 1 (n:Int)=some (List.replicate n default):=by
 unfold rz; rw [if_pos ⟨by omega,by omega,by omega⟩]; simp
theorem SM (c:bt) (hi:List bV) (ar:gI c) (ao:hi.length≤1000) (av:∀ t∈hi,t.bx.length≤1000):bg (x2 c hi) (fun r=>gI r.2∧r.1.map (·.bX)= [1,2,7]):=by
 unfold x2
 refine .bind (gd _ 3 ar (by omega)) fun al aa=> .bind (gd _ 6 aa.1 (by omega)) fun aN ae=> .bind (gd _ 6 ae.1 (by omega)) fun a7 aD=> .bind (gd _ 4 aD.1 (by omega)) fun bR aV=> ?_
 refine bg.loop hi.length (fun k s=>s.1=(k:Int)∧gI s.2.2.2.1∧s.2.2.1.length≤k∧s.2.2.2.2.2.1.length≤k∧s.2.2.2.2.2.2.2.length≤k∧s.2.1.bX=7∧s.2.2.2.2.1.bX=2∧s.2.2.2.2.2.2.1.bX=1) (by omega) ⟨rfl,aV.1,by simp,by simp,by simp,rfl,rfl,rfl⟩ (fun k s mP an=> ?_) (fun s an=> ?_)
 ·obtain⟨i,mV,az,rV,iG,a5,qw,bu⟩:=s; obtain⟨aA,aU,cL,eO,gz,i1,i2,i3⟩:=an
  simp only at aA aU cL eO gz i1 i2 i3; subst aA
  refine bg.cond (fun _=> ?_) (fun h=>by simp at h; omega)
  have OA:(ax hi k).bx.length≤1000:=av _ (by rw [ey hi mP]; exact List.getElem_mem mP)
  refine .idx rfl mP (.eq (Mh _ OA) (.eq (Mh _ OA) ?_))
  refine bg.loop (ax hi k).bx.length (fun j s=>s.1=(j:Int)∧s.2.1.length=(ax hi k).bx.length∧s.2.2.1.length=(ax hi k).bx.length∧gI s.2.2.2) (by omega) ⟨rfl,by simp,by simp,aU⟩ (fun j s aE an=> ?_) (fun s an=> ?_)
  ·obtain⟨i,eE,fN,Zn⟩:=s; obtain⟨f1,f2,f3,f4⟩:=an
   simp only at f1 f2 f3 f4; subst f1
   refine bg.cond (fun _=> ?_) (fun h=>by simp at h; omega)
   exact .bind (gd _ 4 f4 (by omega)) fun cD cX=> .idx rfl (by simp only; omega) (.idx rfl (by simp only; omega) (.ret ⟨ew (by omega),by simp [hk,f2],by simp [hk,f3],cX.1⟩))
  ·obtain⟨i,eE,fN,Zn⟩:=s; obtain⟨f1,f2,f3,f4⟩:=an
   simp only at f1 f2 f3 f4; subst f1
   refine⟨_,by simp; rfl,?_⟩
   refine .eq rfl (.eq (iy _ _ (by simp; omega) (by omega)) (.bind (gd _ 4 f4 (by omega)) fun fU fO=> ?_))
   refine .bind (P:=fun m=>gI m.1∧m.2.2.length≤k + 1∧m.2.1.bX=2) (.cond (fun _=> ?_) (fun _=> .ret ⟨fO.1,by simp only; omega,i2⟩)) fun bM cG=> ?_
   ·exact .bind (gd _ 4 fO.1 (by omega)) fun jJ Eu=> .bind (m5 _ Eu.1) fun oG xh=> .eq rfl (.eq (iy _ _ (by simp; omega) (by omega)) (.ret ⟨xh,by simp; omega,i2⟩))
   refine .bind (m5 _ cG.1) fun hJ jK=> ?_
   refine .bind (P:=fun m=>gI m.1∧m.2.2.length≤k + 1∧m.2.1.bX=7) (.cond (fun _=> ?_) (fun _=> .ret ⟨jK,by simp only; omega,i1⟩)) fun cI dJ=> ?_
   ·exact .bind (m5 _ jK) fun g4 oM=> .bind (m5 _ oM) fun fg Bk=> .eq rfl (.eq (iy _ _ (by simp; omega) (by omega)) (.ret ⟨Bk,by simp; omega,i1⟩))
   exact .ret ⟨ew (by omega),dJ.1,dJ.2.1,cG.2.1,by simp; omega,dJ.2.2,cG.2.2,i3⟩
 ·obtain⟨i,mV,az,rV,iG,a5,qw,bu⟩:=s; obtain⟨aA,aU,cL,eO,gz,i1,i2,i3⟩:=an
  simp only at aA aU cL eO gz i1 i2 i3; subst aA
  refine⟨_,by simp; rfl,?_⟩
  exact .eq rfl (.eq rfl (.ret ⟨aU,by simp only [List.map_cons,List.map_nil,i1,i2,i3]⟩))
def HU:List (Int × Int):= [(1,16),(2,16),(3,8),(4,4),(5,4),(6,8),(7,32),(8,12),(9,4)]
def z9 (f:fy):Int × Int:=(f.bX,f.fe)
structure c5 (s:a2):Prop where
 fields:s.fi.map z9=HU
 headers:s.ll.length=3
 MY:s.l0.length=3
 Gr:s.dk.map o5=w3
 tables:∃ eE fN hx,s.bm.map ni=rr eE fN hx
 NZ:s.ji.map (·.bX)= [1,2,7]
theorem c5.Yn {s:a2} (h:c5 s):s.ji.length=3:=by rw [← List.length_map (f:=(·.bX)),h.NZ]; rfl
theorem c5.oD {s:a2} (h:c5 s):s.fi.length=9:=by rw [← List.length_map (f:=z9),h.fields]; rfl
theorem c5.kk {s:a2} (h:c5 s):s.bm.length=4:=by obtain⟨eE,fN,hx,aa⟩:=h.tables; rw [← List.length_map (f:=ni),aa]; rfl
theorem c5.HV {s:a2} (h:c5 s):s.dk.length=6:=by rw [← List.length_map (f:=o5),h.Gr]; rfl
theorem Sd (c:bt) (ar:gI c):bg (vr c) (fun r=>c5 r.1∧gI r.2):=by
 unfold vr
 refine .bind (gd _ 8 ar (by omega)) fun al aa=> .bind (gd _ 30 aa.1 (by omega)) fun aN ae=> ?_
 refine .eq rfl (.eq rfl (.eq rfl (.eq rfl (.eq rfl (.eq rfl (.eq rfl (.eq rfl (.eq rfl (.eq rfl (.eq rfl (.eq rfl ?_)))))))))))
 refine .bind (Sb _ ae.1) fun a7 aD=> .bind (RT _ aD.1) fun bR aV=> .bind (Sc _ aV.1) fun br a1=> .eq rfl (.eq rfl ?_)
 obtain⟨Zo,eE,fN,hx,a1⟩:=a1
 have ao:br.1.length=4:=by rw [← List.length_map (f:=ni),a1]; rfl
 have WL:∀ t∈br.1,t.bx.length≤1000:=fun t cj=>by
  have bo:ni t∈rr eE fN hx:=a1 ▸ List.mem_map_of_mem cj
  have cX:∀ p∈rr eE fN hx,p.2.2.length≤1000:=by
   intro p hp
   simp only [rr,List.mem_cons,List.not_mem_nil,or_false] at hp
   rcases hp with rfl | rfl | rfl | rfl
   ·simp
   ·cases eE <;> simp [l8]
   ·cases fN <;> simp [uo]
   ·cases hx <;> simp [uq]
  exact cX _ bo
 refine .bind (SM _ _ Zo (by simp only; omega) WL) fun b8 bo=> .eq rfl (.bind (m5 _ bo.1) fun cD cX=> ?_)
 let Inv (s:a2):Prop:=s.fi.map z9=HU∧s.ll.length=3∧s.l0.length=3∧s.dk.map o5=w3∧s.bm=br.1∧s.ji.map (·.bX)= [1,2,7]
 have hinv:∀ (st:List fG) (PJ:List e5) (s:a2),Inv s→Inv { s with m2:=st,nL:=PJ } :=fun st PJ s h=>h
 refine .bind (P:=fun _=>True) (.cond (fun _=> .eq (iy _ _ (by simp) (by omega)) (.ret trivial)) (fun _=> .ret trivial)) fun bM _=> ?_
 refine .bind (m5 _ cX) fun dL eP=> ?_
 refine .bind (P:=fun m=>Inv m.1∧m.2.length≤10) (.cond (fun _=> .eq rfl (.eq (iy _ _ (by simp) (by omega)) (.ret ⟨⟨rfl,rfl,aD.2,aV.2,rfl,bo.2⟩,by simp⟩))) (fun _=> .ret ⟨⟨rfl,rfl,aD.2,aV.2,rfl,bo.2⟩,by simp⟩)) fun cI dJ=> ?_
 refine .bind (m5 _ eP) fun fU fO=> ?_
 refine .c4 (P:=fun _=>True) (fun _=>⟨2,oi (k:=2) (by rw [dJ.1.2.2.2.2.1]; omega),trivial⟩) fun aZ _=> ?_
 refine .bind (P:=fun m=>Inv m.1∧m.2.length≤11) (.cond (fun _=> .eq rfl (.eq (iy _ _ (by have:=dJ.2; simp; omega) (by omega)) (.ret ⟨dJ.1,by have:=dJ.2; simp; omega⟩))) (fun _=> .ret ⟨dJ.1,by have:=dJ.2; simp only; omega⟩)) fun fb gx=> ?_
 refine .bind (m5 _ fO) fun hJ jK=> ?_
 refine .c4 (P:=fun _=>True) (fun _=>⟨3,oi (k:=3) (by rw [gx.1.2.2.2.2.1]; omega),trivial⟩) fun b0 _=> ?_
 refine .bind (P:=fun m=>Inv m.1∧m.2.length≤13) (.cond (fun _=> .eq rfl (.eq rfl (.eq (iy _ _ (by have:=gx.2; simp; omega) (by omega)) (.ret ⟨gx.1,by have:=gx.2; simp; omega⟩)))) (fun _=> .ret ⟨gx.1,by have:=gx.2; simp only; omega⟩)) fun oN AM=> ?_
 obtain⟨⟨i1,i2,i3,i4,i5,i6⟩,_⟩:=AM
 exact .eq rfl (.ret ⟨⟨i1,i2,i3,i4,⟨eE,fN,hx,by simp only [i5]; exact a1⟩,i6⟩,jK⟩)
theorem Mi (x:Int) (n:Int) (aa:1≤n) (ae:n≤1000000):bg (qK x n) (fun r=>0≤r∧r < n):=by
 unfold qK
 refine .cond (fun h=>by simp at h; omega) fun _=> ?_
 have hm:∀ y:Int,nZ y n=some (y.tmod n):=fun y=>by unfold nZ; rw [if_neg (by omega)]
 refine .eq (hm _) ?_
 have aD:=Int.tmod_lt_of_pos x (show 0 < n by omega)
 have aV: -n < x.tmod n:=by
  have:=Int.tmod_lt_of_pos (-x) (show 0 < n by omega)
  rw [Int.neg_tmod] at this; omega
 rw [hQ (by omega) (by omega)]
 exact .eq (hm _) (.ret ⟨Int.tmod_nonneg _ (by omega),Int.tmod_lt_of_pos _ (by omega)⟩)
end Go.Proofs.YtmnggbjcnoffeaaGreat
namespace Go.Proofs.YtmnggbjcnoffeaaGreat
open Go Gv
set_option linter.unusedVariables false
set_option linter.unusedSimpArgs false
def bL (v:ak) (i:Nat):Bool:=if i < 64 then v.bO.getLsbD i else v.c6.getLsbD (i - 64)
theorem uc {v w:ak} (h:∀ j,j < 128→bL v j=bL w j):v=w:=by
 cases v with | mk Z0 Z1=>cases w with | mk Z2 wl=>
 have aa:Z0=Z2:=by
  apply BitVec.eq_of_getLsbD_eq
  intro i an
  have:=h (i + 64) (by omega)
  simpa [bL,show ¬ (i + 64 < 64) by omega] using this
 have ae:Z1=wl:=by
  apply BitVec.eq_of_getLsbD_eq
  intro i an
  have:=h i (by omega)
  simpa [bL,an] using this
 rw [aa,ae]
theorem tU (j:Nat):bL default j=false:=by
 unfold bL; split <;> exact BitVec.getLsbD_zero
def sS (x y:ak):ak:= { c6:=x.c6 &&& y.c6,bO:=x.bO &&& y.bO }
def Ev (x y:ak):ak:= { c6:=x.c6 ||| y.c6,bO:=x.bO ||| y.bO }
def HW (x y:ak):ak:= { c6:=x.c6 ^^^ y.c6,bO:=x.bO ^^^ y.bO }
@[simp] theorem oW (x y:ak) (j:Nat):bL (sS x y) j=(bL x j && bL y j):=by unfold bL sS; split <;> simp
@[simp] theorem MZ (x y:ak) (j:Nat):bL (Ev x y) j=(bL x j || bL y j):=by unfold bL Ev; split <;> simp
@[simp] theorem Ud (x y:ak) (j:Nat):bL (HW x y) j=(bL x j ^^ bL y j):=by unfold bL HW; split <;> simp
theorem and_eq (x y:ak):lk x y=some (sS x y):=rfl
theorem or_eq (x y:ak):nE x y=some (Ev x y):=rfl
theorem xor_eq (x y:ak):sa x y=some (HW x y):=rfl
end Go.Proofs.YtmnggbjcnoffeaaGreat
namespace Go.Proofs.YtmnggbjcnoffeaaGreat
open Go Gv
set_option linter.unusedVariables false
set_option linter.unusedSimpArgs false
theorem LI (v:ak) (n:Nat) (aR:n < 2 ^ 62):bg (vI v n) (fun r=> ∀ j,j < 128→bL r j=bL v (j + n)):=by
 unfold vI
 refine .cond (fun h=> .ret fun j aE=> ?_) (fun h=> .cond (fun cZ=> .eq rfl (.ret fun j aE=> ?_)) (fun cZ=> .eq rfl (.eq rfl (.ret fun j aE=> ?_))))
 ·have:n=0:=by simp at h; omega
  simp [this]
 ·simp only [decide_eq_true_eq] at cZ
  have aA:bz ((n:Int) - 64)=((n - 64:Nat):Int):=by rw [hQ (by omega) (by omega)]; omega
  rw [aA,nI (by omega)]
  unfold bL
  by_cases aE:j < 64
  ·rw [if_pos aE,if_neg (by omega)]
   simp only [BitVec.getLsbD_ushiftRight]
   congr 1; omega
  ·rw [if_neg aE,if_neg (by omega)]
   rw [show(default:ak).c6=0#64 from rfl,BitVec.getLsbD_zero,BitVec.getLsbD_of_ge _ _ (by omega)]
 ·simp only [decide_eq_false_iff_not] at h cZ
  have aA:bz (64 - (n:Int))=((64 - n:Nat):Int):=by rw [hQ (by omega) (by omega)]; omega
  rw [aA,nI (by omega),nI (by omega)]
  unfold bL
  by_cases aE:j < 64
  ·rw [if_pos aE]
   simp only [BitVec.getLsbD_or,BitVec.getLsbD_ushiftRight,BitVec.getLsbD_shiftLeft]
   by_cases aD:j + n < 64
   ·rw [if_pos aD]
    have:j < 64 - n:=by omega
    simp [this,Nat.add_comm]
   ·rw [if_neg aD,BitVec.getLsbD_of_ge _ (n + j) (by omega)]
    have: ¬ (j < 64 - n):=by omega
    simp only [aE,this,decide_true,decide_false,Bool.true_and,Bool.not_false,Bool.false_or]
    congr 1; omega
  ·rw [if_neg aE,if_neg (by omega)]
   simp only [BitVec.getLsbD_ushiftRight]
   congr 1; omega
theorem Ue (v:ak) (n:Nat) (aR:n < 2 ^ 62):bg (yB v n) (fun r=> ∀ j,j < 128→bL r j=(decide (n≤j) && bL v (j - n))):=by
 unfold yB
 refine .cond (fun h=> .ret fun j aE=> ?_) (fun h=> .cond (fun cZ=> .eq rfl (.ret fun j aE=> ?_)) (fun cZ=> .eq rfl (.eq rfl (.ret fun j aE=> ?_))))
 ·have:n=0:=by simp at h; omega
  simp [this]
 ·simp only [decide_eq_true_eq] at cZ
  have aA:bz ((n:Int) - 64)=((n - 64:Nat):Int):=by rw [hQ (by omega) (by omega)]; omega
  rw [aA,nI (by omega)]
  unfold bL
  by_cases oK:j < 64
  ·rw [if_pos oK,show(default:ak).bO=0#64 from rfl,BitVec.getLsbD_zero]
   have: ¬ (n≤j):=by omega
   simp [this]
  ·rw [if_neg oK]
   simp only [BitVec.getLsbD_shiftLeft]
   by_cases aD:n≤j
   ·rw [if_pos (by omega)]
    have aV: ¬ (j - 64 < n - 64):=by omega
    have a1:j - 64 < 64:=by omega
    simp only [aD,aV,a1,decide_true,decide_false,Bool.true_and,Bool.not_false]
    congr 1; omega
   ·have aV:j - 64 < n - 64:=by omega
    simp [aD,aV]
 ·simp only [decide_eq_false_iff_not] at h cZ
  have aA:bz (64 - (n:Int))=((64 - n:Nat):Int):=by rw [hQ (by omega) (by omega)]; omega
  rw [aA,nI (by omega),nI (by omega)]
  unfold bL
  by_cases oK:j < 64
  ·rw [if_pos oK]
   simp only [BitVec.getLsbD_shiftLeft]
   by_cases aD:n≤j
   ·rw [if_pos (by omega)]
    have aV: ¬ (j < n):=by omega
    simp [aD,aV,oK]
   ·have aV:j < n:=by omega
    simp [aD,aV]
  ·rw [if_neg oK]
   simp only [BitVec.getLsbD_or,BitVec.getLsbD_ushiftRight,BitVec.getLsbD_shiftLeft]
   have aD:n≤j:=by omega
   by_cases aV:j - 64 < n
   ·rw [if_pos (by omega)]
    simp only [aD,aV,decide_true,Bool.not_true,Bool.and_false,Bool.false_and,Bool.false_or,Bool.true_and]
    congr 1; omega
   ·rw [if_neg (by omega),BitVec.getLsbD_of_ge v.bO _ (by omega)]
    have a1:j - 64 < 64:=by omega
    simp only [aD,aV,a1,decide_true,decide_false,Bool.not_false,Bool.true_and,Bool.or_false]
    congr 1; omega
theorem GR (v:ak) (i:Int):bg (qL v i) (fun r=>r=(decide (0≤i∧i < 128) && bL v i.toNat)):=by
 unfold qL
 refine .c4 (P:=fun r=> ∀ j,j < 128→bL r j=bL v (j + i.toNat)) (fun h=> ?_) fun y a6=> .eq rfl (.ret ?_)
 ·simp at h
  obtain⟨n,rfl⟩:=Int.eq_ofNat_of_zero_le h.1
  exact LI v n (by omega)
 ·by_cases h:0≤i∧i < 128
  ·have aa:(decide (i≥0) && decide (i < 128))=true:=by simp; omega
   rw [aa,Uc]
   have:=a6 aa 0 (by omega)
   rw [show bL y 0=y.bO.getLsbD 0 from rfl,Nat.zero_add] at this
   rw [this,decide_eq_true h]
  ·have aa:(decide (i≥0) && decide (i < 128))=false:=by simp; omega
   simp [aa,h]
def bk (w:Vector ak 4) (i:Nat):Bool:=bL (bD w (i / 128)) (127 - i % 128)
theorem wq {v w:Vector ak 4} (h:∀ i,i < 512→bk v i=bk w i):v=w:=by
 refine yZ fun k av=>uc fun j aE=> ?_
 have:=h (128 * k + (127 - j)) (by omega)
 unfold bk at this
 rw [show(128 * k + (127 - j)) / 128=k by omega,show 127 - (128 * k + (127 - j)) % 128=j by omega] at this
 exact this
theorem LJ (n:Nat) (aR:n < 512):vJ (n:Int)=some (((n / 128:Nat):Int),((127 - n % 128:Nat):Int)):=by
 unfold vJ uB nZ
 have aa:(n:Int).tdiv 128=((n / 128:Nat):Int):=by rw [Int.tdiv_eq_ediv_of_nonneg (by omega)]; omega
 have ae:(n:Int).tmod 128=((n % 128:Nat):Int):=by rw [Int.tmod_eq_emod_of_nonneg (by omega)]; omega
 simp only [aa,ae,if_neg (show ¬ ((128:Int)=0) by omega),Option.bind_some]
 rw [hQ (by omega) (by omega),hQ (by omega) (by omega)]
 congr 2; omega
theorem has_eq (w:Vector ak 4) (n:Nat) (aR:n < 512):bg (yK w n) (fun r=>r=bk w n):=by
 unfold yK
 refine .eq (LJ n aR) (.idx rfl (show n / 128 < 4 by omega) ((GR _ _).bind fun y a6=> .ret ?_))
 rw [a6]
 have:(0:Int)≤ ((127 - n % 128:Nat):Int)∧ ((127 - n % 128:Nat):Int) < 128:=by omega
 simp [this,bk]
theorem Gs (w:Vector ak 4) {n:Nat} (aR:n < 512) (x:ak) (h:∀ j,j < 128→bL x j=(bL (bD w (n / 128)) j || decide (j=127 - n % 128))) (m:Nat) (hm:m < 512):
 bk (cW w (n / 128) x) m=(bk w m || decide (m=n)):=by
 unfold bk
 rw [gD _ _ (show n / 128 < 4 by omega)]
 by_cases hq:m / 128=n / 128
 ·rw [if_pos hq,h _ (by omega),hq]
  congr 1
  rw [decide_eq_decide]; omega
 ·rw [if_neg hq]
  have:m≠n:=by intro h; subst h; exact hq rfl
  simp [this]
theorem M0 (x:a4) (n:Nat) (aR:n < 512) (b:Bool):bg (qN x n b) (fun c=>
 (bk x.bQ n=true→c=x)∧ (bk x.bQ n=false→ (∀ m,m < 512→bk c.bQ m=(bk x.bQ m || decide (m=n)))∧ (∀ m,m < 512→bk c.bI m=(bk x.bI m || (b && decide (m=n)))))):=by
 unfold qN
 have bW:(decide ((n:Int) < 0) || decide ((n:Int)≥512))=false:=by simp; omega
 rw [bW]
 refine .c4 (P:=fun r=>r=bk x.bQ n) (fun _=>has_eq _ _ aR) fun y a6=> .cond (fun h=> .ret ⟨fun _=>rfl,fun cZ=> ?_⟩) (fun h=> ?_)
 ·rw [a6 rfl,cZ] at h; simp at h
 have hm:bk x.bQ n=false:=by simpa [a6 rfl] using h
 refine .eq (LJ n aR) (.eq rfl ((Ue _ (127 - n % 128) (by omega)).bind fun bR e2=> ?_))
 have aV:∀ (w:ak) j,j < 128→bL (Ev w bR) j=(bL w j || decide (j=127 - n % 128)):=by
  intro w j aE
  rw [MZ,e2 j aE]
  congr 1
  by_cases hq:j=127 - n % 128
  ·subst hq; simp [bL]
  ·by_cases oJ:127 - n % 128≤j
   ·have dI:bL { (default:ak) with bO:=1#64 } (j - (127 - n % 128))=false:=by
     unfold bL
     split
     ·simp only [BitVec.getLsbD_one]; simp; omega
     ·rw [show(default:ak).c6=0#64 from rfl]; exact BitVec.getLsbD_zero
    rw [dI]; simp [hq]
   ·simp [hq,oJ]
 have av:n / 128 < 4:=by omega
 refine .idx rfl av ?_
 refine .eq (or_eq _ _) ?_
 refine .idx rfl av ?_
 refine .bind (P:=fun c=>(∀ m,m < 512→bk c.bQ m=(bk x.bQ m || decide (m=n)))∧ (∀ m,m < 512→bk c.bI m=(bk x.bI m || (b && decide (m=n))))) (.cond (fun hb=> ?_) (fun hb=> ?_)) fun c ar=> ?_
 ·refine .idx rfl av ?_
  first
  | refine .eq (or_eq _ _) ?_
  | refine .eq rfl (.eq (or_eq _ _) ?_)
  refine .idx rfl av ?_
  refine .eq rfl ?_
  refine .ret ⟨fun m hm=> ?_,fun m hm=> ?_⟩
  ·exact Gs _ aR _ (aV _) m hm
  ·rw [hb,Bool.true_and]; exact Gs _ aR _ (aV _) m hm
 ·refine .ret ⟨fun m hm=> ?_,fun m hm=> ?_⟩
  ·exact Gs _ aR _ (aV _) m hm
  ·simp [hb]
 ·refine .ret ⟨fun h=> ?_,fun _=>ar⟩
  rw [hm] at h; cases h
def cell (val mask:Vector ak 4) (i:Nat):BitVec 8:=if bk mask i then(if bk val i then 1#8 else 0#8) else 2#8
end Go.Proofs.YtmnggbjcnoffeaaGreat
namespace Go.Proofs.YtmnggbjcnoffeaaGreat
open Go Gv
set_option linter.unusedVariables false
set_option linter.unusedSimpArgs false
set_option maxRecDepth 100000
theorem yH {f:ak→ak→Option ak} {g:Bool→Bool→Bool} (a8:∀ x y,bg (f x y) (fun r=> ∀ j,j < 128→bL r j=g (bL x j) (bL y j))) (a b:Vector ak 4):
 bg (qH a b f) (fun r=> ∀ i,i < 512→bk r i=g (bk a i) (bk b i)):=by
 unfold qH
 refine bg.loop 4 (fun k s=>s.1=k∧ ∀ j,j < 4→ ∀ i,i < 128→bL (bD s.2 j) i=if j < k then g (bL (bD a j) i) (bL (bD b j) i) else bL (bD a j) i) (by omega)
  ⟨rfl,fun j aE i an=>by simp⟩ (fun k s av an=> ?_) (fun s an=> ?_)
 ·obtain⟨i,v⟩:=s; obtain⟨aa,ae⟩:=an
  simp only at aa ae; subst aa
  refine bg.cond (fun _=> ?_) (fun h=>by simp at h; omega)
  refine .idx rfl av (.idx rfl av ((a8 _ _).bind fun y a6=> .idx rfl av (.ret ⟨ew (by omega),fun j aE i an=> ?_⟩)))
  simp only [gD _ _ av]
  by_cases Ik:j=k
  ·subst Ik; rw [if_pos rfl,if_pos (by omega),a6 i an,ae j aE i an,if_neg (by omega)]
  ·rw [if_neg Ik,ae j aE i an]
   have aV:(j < k + 1)↔j < k:=by omega
   simp [aV]
 ·obtain⟨i,v⟩:=s; obtain⟨aa,ae⟩:=an
  simp only at aa ae; subst aa
  refine⟨_,rfl,.ret fun m hm=> ?_⟩
  unfold bk
  rw [ae _ (by omega) _ (by omega),if_pos (by omega)]
theorem pR (x y:ak):bg (lk x y) (fun r=> ∀ j,j < 128→bL r j=(bL x j && bL y j)):=⟨_,and_eq x y,fun j _=>oW x y j⟩
theorem ud (x y:ak):bg (nE x y) (fun r=> ∀ j,j < 128→bL r j=(bL x j || bL y j)):=⟨_,or_eq x y,fun j _=>MZ x y j⟩
theorem CZ (x y:ak):bg (sa x y) (fun r=> ∀ j,j < 128→bL r j=(bL x j ^^ bL y j)):=⟨_,xor_eq x y,fun j _=>Ud x y j⟩
theorem zd (n:Int):bg (qI n) (fun r=> ∀ j,j < 128→bL r j=decide ((j:Int) < n)):=by
 unfold qI vG
 refine .eq rfl (.eq rfl ?_)
 have hm:bz (128 - min (max 0 n) 128)=((128 - min (max 0 n) 128).toNat:Int):=by rw [hQ (by omega) (by omega)]; omega
 rw [hm]
 refine(LI _ _ (by omega)).bind fun r aQ=> .ret fun j aE=> ?_
 rw [aQ j aE]
 have jG:∀ i,bL { c6:=18446744073709551615#64,bO:=18446744073709551615#64 } i=decide (i < 128):=by
  intro i
  have bp:(18446744073709551615#64)=BitVec.allOnes 64:=by rfl
  unfold bL
  simp only [bp,BitVec.getLsbD_allOnes]
  by_cases h:i < 64
  ·simp [h]; omega
  ·simp [h]; omega
 rw [jG,decide_eq_decide]; omega
theorem M1 (x:ak):bg (vN x 128) (fun r=> ∀ j,j < 128→bL r j= !bL x j):=by
 unfold vN
 refine(zd 128).bind fun a bn=> .eq (and_eq _ _) (.ret fun j aE=> ?_)
 rw [oW,bn j aE]
 have:((j:Int) < 128):=by omega
 unfold bL
 by_cases h:j < 64
 ·simp [h,this]
 ·simp [h,this]; omega
def can (c:a4):Prop:= ∀ i,i < 512→bk c.bI i=true→bk c.bQ i=true
theorem CF (i:Nat):bk default i=false:=by unfold bk; rw [Fj]; exact tU _
theorem eq_zero_iff {w:Vector ak 4} :w=default↔ ∀ i,i < 512→bk w i=false:=
 ⟨fun h i _=>by rw [h]; exact CF i,fun h=>wq fun i an=>by rw [h i an,CF]⟩
def rb (x y:a4):Prop:= ∀ i,i < 512→bk x.bQ i=true→bk y.bQ i=true→bk x.bI i=bk y.bI i
theorem Mj (x y:a4):bg (vM x y) (fun r=>(r.2=true↔rb x y)∧ (r.2=false→r.1=default)∧
 (r.2=true→ (∀ i,i < 512→bk r.1.bI i=(bk x.bI i || bk y.bI i))∧ ∀ i,i < 512→bk r.1.bQ i=(bk x.bQ i || bk y.bQ i))):=by
 unfold vM
 refine(yH pR _ _).bind fun al aa=>(yH CZ _ _).bind fun aN ae=>(yH pR _ _).bind fun a7 aD=> ?_
 have key:a7=default↔rb x y:=by
  rw [eq_zero_iff]
  constructor
  ·intro h i an aq a6
   have:=h i an
   rw [aD i an,aa i an,ae i an,aq,a6] at this
   simpa using this
  ·intro h i an
   rw [aD i an,aa i an,ae i an]
   cases aq:bk x.bQ i
   ·simp
   ·cases a6:bk y.bQ i
    ·simp
    ·simp [h i an aq a6]
 refine .cond (fun h=> .ret ?_) (fun h=> ?_)
 ·have: ¬ rb x y:=fun bn=>by rw [key.2 bn] at h; simp at h
  simp [this]
 ·have bn:rb x y:=key.1 (by simpa using h)
  exact(yH ud _ _).bind fun bR aV=>(yH ud _ _).bind fun br a1=> .ret (by simp [bn]; exact⟨aV,a1⟩)
def gm (c:a4) (q:Vector ak 4):Bool:=decide (∀ i:Fin 512,(bk q i.1 && bk c.bQ i.1)=bk c.bI i.1)
theorem C0 {c:a4} {q:Vector ak 4} :gm c q=true↔ ∀ i,i < 512→ (bk q i && bk c.bQ i)=bk c.bI i:=by
 unfold gm
 rw [decide_eq_true_iff]
 exact⟨fun h i an=>h ⟨i,an⟩,fun h i=>h i.1 i.2⟩
theorem UQ {c d:a4} {q:Vector ak 4} {k:Nat} {b:Bool} (av:k < 512) (aa:bk c.bQ k=false) (ae:bk c.bI k=false)
 (hm:∀ m,m < 512→bk d.bQ m=(bk c.bQ m || decide (m=k))) (aX:∀ m,m < 512→bk d.bI m=(bk c.bI m || (b && decide (m=k)))):gm d q=(gm c q && (bk q k ==b)):=by
 rw [Bool.eq_iff_iff,Bool.and_eq_true,C0,C0,beq_iff_eq]
 constructor
 ·intro h
  refine⟨fun i an=> ?_,?_⟩
  ·by_cases j6:i=k
   ·subst j6; simp [aa,ae]
   ·have:=h i an
    rw [hm i an,aX i an] at this
    simpa [j6] using this
  ·have:=h k av
   rw [hm k av,aX k av] at this
   simpa [aa,ae] using this
 ·rintro ⟨h,hq⟩ i an
  rw [hm i an,aX i an]
  by_cases j6:i=k
  ·subst j6; simp [ae,hq]
  ·simpa [j6] using h i an
end Go.Proofs.YtmnggbjcnoffeaaGreat
namespace Go.Proofs.YtmnggbjcnoffeaaGreat
open Go Gv
set_option linter.unusedVariables false
set_option linter.unusedSimpArgs false
set_option maxRecDepth 100000
def val (w:Nat):Nat→ (Nat→Nat)→Nat
 | 0,_=>0
 | n + 1,d=>d 0 + 2 ^ w * val w n (fun k=>d (k + 1))
theorem Tl {w n:Nat} {d:Nat→Nat} :val w (n + 1) d=val w n d + 2 ^ (w * n) * d n:=by
 induction n generalizing d with
 | zero=>simp [val]
 | succ n b1=>
   rw [val,b1,val,Nat.mul_add,← Nat.mul_assoc,← Nat.pow_add,show w + w * n=w * (n + 1) by rw [Nat.mul_add]; omega]
   omega
def qo (n:Nat) (p:Nat→Bool):Nat:=val 0 n (fun i=>(p i).toNat)
theorem y1 {n:Nat} {p:Nat→Bool} :qo (n + 1) p=qo n p + (p n).toNat:=by unfold qo; rw [Tl]; simp
theorem UR {n:Nat} {p:Nat→Bool} :qo n p≤n:=by
 induction n with
 | zero=>simp [qo,val]
 | succ n b1=>rw [y1]; have:=Bool.toNat_le (p n); omega
end Go.Proofs.YtmnggbjcnoffeaaGreat
namespace Go.Proofs.YtmnggbjcnoffeaaGreat
open Go Gv
set_option linter.unusedVariables false
set_option linter.unusedSimpArgs false
set_option maxRecDepth 100000
end Go.Proofs.YtmnggbjcnoffeaaGreat
namespace Go.Proofs.YtmnggbjcnoffeaaGreat
open Go Gv
set_option linter.unusedVariables false
set_option linter.unusedSimpArgs false
set_option maxRecDepth 100000
end Go.Proofs.YtmnggbjcnoffeaaGreat
namespace Go.Proofs.YtmnggbjcnoffeaaGreat
open Go Gv
set_option linter.unusedVariables false
set_option linter.unusedSimpArgs false
set_option maxRecDepth 100000
theorem SN (x y:a4) (aq:can x) (a6:can y):bg (yx x y) (fun r=>r=true↔ ∀ i,i < 512→bk y.bQ i=true→bk x.bQ i=true∧bk x.bI i=bk y.bI i):=by
 unfold yx
 refine(Mj x y).bind fun m ⟨aa,ae,aD⟩=> .ret ?_
 rw [Bool.and_eq_true,decide_eq_true_iff]
 constructor
 ·rintro ⟨cj,he⟩ i an hm
  obtain⟨aV,a1⟩:=aD cj
  rw [he] at aV a1
  have Bl:bk x.bQ i=true:=by rw [a1 i an,hm]; simp
  exact⟨Bl,aa.1 cj i an Bl hm⟩
 ·intro h
  have bn:rb x y:=fun i an _ hm=>(h i an hm).2
  have cj:=aa.2 bn
  obtain⟨aV,a1⟩:=aD cj
  refine⟨cj,?_⟩
  have aA:m.1.bI=x.bI:=wq fun i an=>by
   rw [aV i an]
   cases aX:bk y.bI i
   ·simp
   ·simp [(h i an (a6 i an aX)).2,aX]
  have aU:m.1.bQ=x.bQ:=wq fun i an=>by
   rw [a1 i an]
   cases aX:bk y.bQ i
   ·simp
   ·simp [(h i an aX).1]
  cases hm:m.1; cases x; simp_all
end Go.Proofs.YtmnggbjcnoffeaaGreat
namespace Go.Proofs.YtmnggbjcnoffeaaGreat
open Go Gv
set_option linter.unusedVariables false
set_option linter.unusedSimpArgs false
set_option maxRecDepth 100000
def qe:List Int:= [16,16,8,4,4,8,32,12,4]
theorem c5.pD {s:a2} (h:c5 s) {k:Nat} (av:k < 9):(ax s.fi k).bX=(k:Int) + 1∧ (ax s.fi k).fe=ax qe k:=by
 have aa:=y0 z9 (l:=s.fi) (k:=k) (by rw [h.oD]; exact av)
 rw [h.fields] at aa
 have ae:ax HU k=((k:Int) + 1,ax qe k):=by
  have:k=0∨k=1∨k=2∨k=3∨k=4∨k=5∨k=6∨k=7∨k=8:=by omega
  rcases this with rfl | rfl | rfl | rfl | rfl | rfl | rfl | rfl | rfl <;> rfl
 rw [ae] at aa
 simp only [z9,Prod.mk.injEq] at aa
 exact⟨aa.1.symm,aa.2.symm⟩
def sT:List (List Int):= [[],[],[16],[4],[4,12],[]]
theorem c5.act {s:a2} (h:c5 s) {k:Nat} (av:k < 6):(ax s.dk k).bX=(k:Int) + 1∧ (ax s.dk k).jR.map (·.fe)=ax sT k:=by
 have aa:=y0 o5 (l:=s.dk) (k:=k) (by rw [h.HV]; exact av)
 rw [h.Gr] at aa
 have ae:ax w3 k=((k:Int) + 1,ax sT k):=by
  have:k=0∨k=1∨k=2∨k=3∨k=4∨k=5:=by omega
  rcases this with rfl | rfl | rfl | rfl | rfl | rfl <;> rfl
 rw [ae] at aa
 simp only [o5,Prod.mk.injEq] at aa
 exact⟨aa.1.symm,aa.2.symm⟩
def iJ (key:cE):Prop:= ∃ j:Nat,j < 9∧key.gr=(j:Int) + 1∧1≤key.cg∧key.cg≤4∧4≤ax qe j∧ax qe j≤32∧ (key.cg=2→j=6)
def eC (key:cE):Int:=ax qe (key.gr - 1).toNat
theorem c5.hL {s:a2} (h:c5 s) {k:Nat} (av:k < 4):(ax s.bm k).bX=(k:Int) + 1∧
 (1≤ (ax s.bm k).bx.length∧ (ax s.bm k).bx.length≤3)∧ (∀ key∈ (ax s.bm k).bx,iJ key)∧
 (1≤ (ax s.bm k).dk.length∧ (ax s.bm k).dk.length≤5)∧ (∀ a∈ (ax s.bm k).dk,1≤a∧a≤6):=by
 obtain⟨eE,fN,hx,cj⟩:=h.tables
 have aa:=y0 ni (l:=s.bm) (k:=k) (by rw [h.kk]; exact av)
 rw [cj] at aa
 have ae:∀ p:Int × List Int × List cE,p=ni (ax s.bm k)→p.1=(k:Int) + 1→ (1≤p.2.2.length∧p.2.2.length≤3)→ (∀ key∈p.2.2,iJ key)→
  (1≤p.2.1.length∧p.2.1.length≤5)→ (∀ a∈p.2.1,1≤a∧a≤6)→ (ax s.bm k).bX=(k:Int) + 1∧
  (1≤ (ax s.bm k).bx.length∧ (ax s.bm k).bx.length≤3)∧ (∀ key∈ (ax s.bm k).bx,iJ key)∧
  (1≤ (ax s.bm k).dk.length∧ (ax s.bm k).dk.length≤5)∧ (∀ a∈ (ax s.bm k).dk,1≤a∧a≤6):=by
  rintro p rfl a b c d e
  exact⟨a,b,c,d,e⟩
 have fM:(1≤ ([1,2,4]:List Int).length∧ ([1,2,4]:List Int).length≤5)∧ ∀ a∈ ([1,2,4]:List Int),1≤a∧a≤6:=by decide
 have dY:(1≤ ([1,2,3,4]:List Int).length∧ ([1,2,3,4]:List Int).length≤5)∧ ∀ a∈ ([1,2,3,4]:List Int),1≤a∧a≤6:=by decide
 have eg:(1≤ ([1,2,3,5,6]:List Int).length∧ ([1,2,3,5,6]:List Int).length≤5)∧ ∀ a∈ ([1,2,3,5,6]:List Int),1≤a∧a≤6:=by decide
 have jM:(1≤ ([1,3,5]:List Int).length∧ ([1,3,5]:List Int).length≤5)∧ ∀ a∈ ([1,3,5]:List Int),1≤a∧a≤6:=by decide
 have WM:iJ oQ:=⟨3,by decide,rfl,by decide,by decide,by decide,by decide,by decide⟩
 have M3:iJ Bj:=⟨3,by decide,rfl,by decide,by decide,by decide,by decide,by decide⟩
 have WN:iJ JE:=⟨4,by decide,rfl,by decide,by decide,by decide,by decide,by decide⟩
 have Hr:iJ vc:=⟨6,by decide,rfl,by decide,by decide,by decide,by decide,by decide⟩
 have WO:iJ EJ:=⟨2,by decide,rfl,by decide,by decide,by decide,by decide,by decide⟩
 have N0:iJ BJ:=⟨5,by decide,rfl,by decide,by decide,by decide,by decide,by decide⟩
 have N1:iJ BK:=⟨7,by decide,rfl,by decide,by decide,by decide,by decide,by decide⟩
 have WQ:iJ JF:=⟨8,by decide,rfl,by decide,by decide,by decide,by decide,by decide⟩
 have:k=0∨k=1∨k=2∨k=3:=by omega
 rcases this with rfl | rfl | rfl | rfl
 ·refine ae _ aa rfl (show 1≤ [oQ].length∧ [oQ].length≤3 by decide) ?_ fM.1 fM.2
  intro key hS
  rcases List.mem_singleton.1 hS with rfl
  exact WM
 ·refine ae _ aa rfl ?_ ?_ dY.1 dY.2
  ·show 1≤ (l8 eE).length∧ (l8 eE).length≤3
   cases eE <;> decide
  ·intro key hS
   replace hS:key∈l8 eE:=hS
   cases eE <;> simp only [l8,List.mem_cons,List.not_mem_nil,or_false,if_true,if_false,Bool.false_eq_true] at hS
   ·subst hS; exact Hr
   ·rcases hS with rfl | rfl; exact Hr; exact WO
 ·refine ae _ aa rfl ?_ ?_ eg.1 eg.2
  ·show 1≤ (uo fN).length∧ (uo fN).length≤3
   cases fN <;> decide
  ·intro key hS
   replace hS:key∈uo fN:=hS
   cases fN <;> simp only [uo,List.mem_cons,List.not_mem_nil,or_false,if_true,if_false,Bool.false_eq_true] at hS
   ·rcases hS with rfl | rfl; exact N0; exact M3
   ·rcases hS with rfl | rfl | rfl; exact N0; exact M3; exact WN
 ·refine ae _ aa rfl ?_ ?_ jM.1 jM.2
  ·show 1≤ (uq hx).length∧ (uq hx).length≤3
   cases hx <;> decide
  ·intro key hS
   replace hS:key∈uq hx:=hS
   cases hx <;> simp only [uq,List.mem_cons,List.not_mem_nil,or_false,if_true,if_false,Bool.false_eq_true] at hS
   ·subst hS; exact N1
   ·rcases hS with rfl | rfl | rfl; exact N1; exact WQ; exact Hr
theorem Se {s:a2} (h:c5 s) {j:Nat} (aE:j < 9):bg (yq s ((j:Int) + 1)) (fun r=>r=ax qe j):=by
 unfold yq
 have ao:=h.oD
 refine bg.loop j (fun k s=>s=(k:Int)) (by omega) rfl (fun k i av an=> ?_) (fun i an=> ?_)
 ·subst an
  refine bg.cond (fun _=> ?_) (fun h=>by simp at h; omega)
  refine .idx rfl (by omega) (.cond (fun ar=> ?_) (fun ar=> .ret (ew (by omega))))
  have:=(h.pD (show k < 9 by omega)).1
  simp only [this,beq_iff_eq] at ar
  omega
 ·subst an
  have aa:decide ((j:Int) < (s.fi.length:Int))=true:=by simp; omega
  have ae:((ax s.fi j).bX ==(j:Int) + 1)=true:=by rw [(h.pD aE).1]; simp
  rw [aa]
  simp only [cond_true]
  rw [oi (by omega)]
  simp only [Option.bind_some,ae,cond_true]
  exact⟨_,rfl,.ret (h.pD aE).2⟩
theorem RU {s:a2} (h:c5 s) {j:Nat} (aE:j < 6):bg (yd s ((j:Int) + 1)) (fun r=>r=ax s.dk j):=by
 unfold yd
 have ao:=h.HV
 refine bg.loop j (fun k s=>s=(k:Int)) (by omega) rfl (fun k i av an=> ?_) (fun i an=> ?_)
 ·subst an
  refine bg.cond (fun _=> ?_) (fun h=>by simp at h; omega)
  refine .idx rfl (by omega) (.cond (fun ar=> ?_) (fun ar=> .ret (ew (by omega))))
  have:=(h.act (show k < 6 by omega)).1
  simp only [this,beq_iff_eq] at ar
  omega
 ·subst an
  have aa:decide ((j:Int) < (s.dk.length:Int))=true:=by simp; omega
  have ae:((ax s.dk j).bX ==(j:Int) + 1)=true:=by rw [(h.act aE).1]; simp
  rw [aa]
  simp only [cond_true]
  rw [oi (by omega)]
  simp only [Option.bind_some,ae,cond_true]
  exact⟨_,rfl,.ret rfl⟩
theorem vW {n:Nat} (aR:n < 64) (j:Nat):(((1#64) <<< n) - 1#64).getLsbD j=decide (j < n):=by
 have aa:(((1#64) <<< n) - 1#64).toNat=2 ^ n - 1:=by
  have ae:((1#64) <<< n).toNat=2 ^ n:=by
   rw [BitVec.toNat_shiftLeft,BitVec.toNat_ofNat,Nat.shiftLeft_eq]
   have:=Nat.pow_lt_pow_right (show 1 < 2 by omega) aR
   rw [show(1 % 2 ^ 64:Nat)=1 from rfl,Nat.one_mul]
   exact Nat.mod_eq_of_lt this
  have aD:1≤2 ^ n:=Nat.one_le_two_pow
  have aV:=Nat.pow_lt_pow_right (show 1 < 2 by omega) aR
  rw [BitVec.toNat_sub,ae]
  simp only [BitVec.toNat_ofNat]
  omega
 rw [← BitVec.testBit_toNat,aa,Nat.testBit_two_pow_sub_one]
theorem Dd (x:ak) (n:Int) (bW:0≤n) (aa:n < 1000):bg (r9 x n) (fun r=> ∀ j,j < 128→bL r j=(bL x j && decide ((j:Int) < n))):=by
 unfold r9
 obtain⟨m,rfl⟩:=Int.eq_ofNat_of_zero_le bW
 refine .cond (fun h=> .ret fun j aE=> ?_) fun h=> .cond (fun cZ=> .eq rfl (.ret fun j aE=> ?_)) fun cZ=> .cond (fun I1=> .ret fun j aE=> ?_) fun I1=> .eq rfl (.eq rfl (.ret fun j aE=> ?_))
 ·simp only [decide_eq_true_eq] at h
  have:decide ((j:Int) < (m:Int))=true:=by simp; omega
  rw [this,Bool.and_true]
 ·simp only [decide_eq_true_eq,decide_eq_false_iff_not] at h cZ
  have e:bz ((m:Int) - 64)=((m - 64:Nat):Int):=by rw [hQ (by omega) (by omega)]; omega
  simp only [bL,e,nI (show m - 64 < 2 ^ 64 by omega),BitVec.getLsbD_and,vW (show m - 64 < 64 by omega)]
  split
  ·have:decide ((j:Int) < (m:Int))=true:=by simp; omega
   rw [this,Bool.and_true]
  ·congr 1; rw [decide_eq_decide]; omega
 ·simp only [decide_eq_true_eq] at I1
  have:decide ((j:Int) < (m:Int))=false:=by simp; omega
  rw [tU,this,Bool.and_false]
 ·simp only [decide_eq_true_eq,decide_eq_false_iff_not] at h cZ I1
  simp only [bL,nI (show m < 2 ^ 64 by omega),BitVec.getLsbD_and,vW (show m < 64 by omega)]
  split
  ·congr 1; rw [decide_eq_decide]; omega
  ·have:decide ((j:Int) < (m:Int))=false:=by simp; omega
   rw [this,Bool.and_false]; exact BitVec.getLsbD_zero
theorem N2 (w:BitVec 64) (j:Nat):bL { (default:ak) with bO:=w } j=w.getLsbD j:=by
 unfold bL
 split
 ·rfl
 ·rw [BitVec.getLsbD_of_ge w j (by omega)]; exact BitVec.getLsbD_zero
structure lB (kind b:Int) (m:cr):Prop where
 off:m.gM=false→m=default
 Ew:kind=1→m.gM=true
 low:kind=1→ ∀ j,j < 128→bL m.bI j=true→ (j:Int) < b
 Pc:kind=3→ ∀ j,j < 128→bL m.bQ j=true→ (j:Int) < b
 Pd:kind=3→ ∀ j,j < 128→bL m.bI j=true→bL m.bQ j=true
 pre:0≤m.eQ∧m.eQ≤32
 I2:kind=2→m.gM=true→1≤m.eQ
 I3:kind≠2→m.eQ=0
 g6:kind≠3→m.bQ=default
 Zp:kind=3→m.gM=true→m.bQ≠default
 kU:kind=4→m.gM=true→m.bI.c6=m.l4.c6∧m.bI.bO≤m.l4.bO
 I4:kind=2→ ∀ j,j < 128→bL m.bI j=true→32 - m.eQ≤ (j:Int)∧j < 32
 Ex:kind≠4→m.l4=default
theorem D3:(0:Int)≤0∧ (0:Int)≤32:=⟨Int.le_refl 0,by decide⟩
theorem FM {kind b:Int} (h:kind≠1):lB kind b default:=
 ⟨fun _=>rfl,fun k=>absurd k h,fun k=>absurd k h,fun _ j _ aX=>(by rw [show(default:cr).bQ=default from rfl,tU] at aX; cases aX),
  fun _ j _ aX=>(by rw [show(default:cr).bI=default from rfl,tU] at aX; cases aX),
  D3,fun _ k=>(by cases k),fun _=>rfl,fun _=>rfl,fun _ k=>(by cases k),fun _ k=>(by cases k),
  fun _ j _ aX=>(by rw [show(default:cr).bI=default from rfl,tU] at aX; cases aX),fun _=>rfl⟩
theorem Uf {a x y:BitVec 64} (aa:a≤x) (ae:a≤y):a≤uA x y:=by
 unfold uA; split <;> assumption
theorem Ug {v:ak} {b c:Int} (hb:0≤b∧b≤32) (ar:0≤c∧c < 256) (aX:∀ j,j < 128→bL v j=true→ (j:Int) < b):
 v.c6=0#64∧v.bO≤uA (v.bO + BitVec.ofInt 64 c) (((1#64) <<< (BitVec.ofInt 64 b).toNat) - (1#64)):=by
 have er:v.c6=0#64:=by
  apply BitVec.eq_of_getLsbD_eq
  intro i an
  have h:=aX (64 + i) (by omega)
  unfold bL at h
  rw [if_neg (by omega),Nat.add_sub_cancel_left] at h
  rw [BitVec.getLsbD_zero]
  cases aq:v.c6.getLsbD i
  ·rfl
  ·have:=h aq; omega
 obtain⟨n,rfl⟩:=Int.eq_ofNat_of_zero_le hb.1
 have aR:n≤32:=by omega
 have Zq:(BitVec.ofInt 64 (n:Int)).toNat=n:=nI (by omega)
 rw [Zq]
 have N3:v.bO≤ ((1#64) <<< n) - 1#64:=by
  have hand:v.bO &&& (((1#64) <<< n) - 1#64)=v.bO:=by
   apply BitVec.eq_of_getLsbD_eq
   intro i an
   rw [BitVec.getLsbD_and,vW (by omega)]
   have h:=aX i (by omega)
   unfold bL at h
   rw [if_pos an] at h
   cases aq:v.bO.getLsbD i
   ·rfl
   ·have:=h aq
    simp; omega
  rw [← hand]
  rw [BitVec.le_def,BitVec.toNat_and]
  exact Nat.and_le_right
 have th:(((1#64) <<< n) - 1#64).toNat < 2 ^ 33:=by
  have Bm:(((1#64) <<< n) - 1#64) &&& (((1#64) <<< 32) - 1#64)=(((1#64) <<< n) - 1#64):=by
   apply BitVec.eq_of_getLsbD_eq
   intro i an
   rw [BitVec.getLsbD_and,vW (by omega),vW (by omega)]
   simp; omega
  rw [← Bm,BitVec.toNat_and]
  exact Nat.lt_of_le_of_lt Nat.and_le_right (by decide)
 refine⟨er,Uf ?_ N3⟩
 rw [BitVec.le_def] at N3 ⊢
 obtain⟨m,rfl⟩:=Int.eq_ofNat_of_zero_le ar.1
 rw [BitVec.toNat_add,nI (by omega),Nat.mod_eq_of_lt (by omega)]
 omega
theorem Tm (x:BitVec 64) {n:Int} (aa:1≤n) (ae:n≤32) {i:Nat} (an:i < 128)
 (aX:bL { (default:ak) with bO:=x &&& ((((1#64) <<< (BitVec.ofInt 64 32).toNat) - (1#64)) - (((1#64) <<< (BitVec.ofInt 64 (bz (32 - n))).toNat) - (1#64))) } i=true):32 - n≤ (i:Int)∧i < 32:=by
 rw [N2,BitVec.getLsbD_and,Bool.and_eq_true] at aX
 have aD:=aX.2
 obtain⟨k,av⟩:=Int.eq_ofNat_of_zero_le (show 0≤32 - n by omega)
 have de:k < 32:=by omega
 have e:bz (32 - n)=(k:Int):=by rw [av,hQ (by omega) (by omega)]
 rw [e,nI (by omega)] at aD
 have I5:i < 64:=by
  rcases Nat.lt_or_ge i 64 with h | h
  ·exact h
  ·rw [BitVec.getLsbD_of_ge _ i h] at aD; cases aD
 have key:∀ (k:Fin 32) (i:Fin 64),((((1#64) <<< (BitVec.ofInt 64 32).toNat) - (1#64)) - (((1#64) <<< k.1) - (1#64))).getLsbD i.1=true→k.1≤i.1∧i.1 < 32:=by decide +kernel
 have:=key ⟨k,de⟩ ⟨i,I5⟩ aD
 simp only at this
 omega
theorem SO (c:bt) {s:a2} (key:cE) (ar:gI c) (h:c5 s) (av:iJ key):
 bg (x7 c s key) (fun r=>gI r.2∧lB key.cg (eC key) r.1):=by
 obtain⟨j,aE,a8,aZ,fm,PK,Zr,de⟩:=av
 have hb:eC key=ax qe j:=by unfold eC; rw [a8]; congr 1; omega
 unfold x7
 rw [a8]
 refine(Se h aE).bind fun al aA=> ?_
 rw [hb]
 subst aA
 generalize jc:ax qe j=b at *
 refine .bind (gd _ 256 ar (by omega)) fun aN ae=> .bind (gd _ 16 ae.1 (by omega)) fun a7 aD=> .eq rfl (.bind (gd _ 16 aD.1 (by omega)) fun bR aV=> .eq rfl ?_)
 refine .bind (Dd _ b (by omega) (by omega)) fun br a1=> ?_
 refine .cond (fun q=> ?_) fun q=> ?_
 ·have q:key.cg=2:=by simpa using q
  refine .bind (gd _ 5 aV.1 (by omega)) fun b8 bo=> .cond (fun _=> ?_) fun _=> .ret ⟨bo.1,FM (by omega)⟩
  refine .bind (gd _ b bo.1 (by omega)) fun cD cX=> .bind (gd _ 5 cX.1 (by omega)) fun dL eP=> ?_
  refine .eq (tT eP.2.1 (by simpa using eP.2.2.1)) ?_
  have mn:1≤ax [b,8,16,1,bz (1 + cD.1)] dL.1.toNat∧ax [b,8,16,1,bz (1 + cD.1)] dL.1.toNat≤32:=by
   have cw:dL.1.toNat < [b,8,16,1,bz (1 + cD.1)].length:=by have:=eP.2.1; have:=eP.2.2.1; simp; omega
   have hm:=List.getElem_mem cw
   rw [← ey _ cw] at hm
   have hw:bz (1 + cD.1)=1 + cD.1:=hQ (by have:=cX.2.1; omega) (by have:=cX.2.2.1; omega)
   have:=cX.2.1; have:=cX.2.2.1
   simp only [List.mem_cons,List.not_mem_nil,or_false] at hm
   rcases hm with hm | hm | hm | hm | hm <;> rw [hm] <;> omega
  unfold Cq
  refine .eq rfl (.eq rfl (.eq rfl (.ret ⟨eP.1,fun h=>(by cases h),fun h=>(by omega),fun h=>by omega,fun h=>(by omega),fun h=>(by omega),⟨by have:=mn.1; show 0≤ax _ _; omega,mn.2⟩,fun _ _=>mn.1,fun h=>absurd q h,fun _=>rfl,fun h=>(by omega),fun h=>(by omega),fun _ i an aX=> ?_,fun _=>rfl⟩)))
  have Bm:b=32:=by rw [← jc,de q]; rfl
  rw [Bm] at mn aX
  rw [Bm]
  exact Tm _ mn.1 mn.2 an aX
 refine .cond (fun fs=> ?_) fun fs=> ?_
 ·have fs:key.cg=3:=by simpa using fs
  refine .bind (gd _ 256 aV.1 (by omega)) fun hJ jK=> .bind (gd _ 5 jK.1 (by omega)) fun g4 oM=> ?_
  refine .eq (tT oM.2.1 (by simpa using oM.2.2.1)) (.eq rfl (.bind (Dd _ b (by omega) (by omega)) fun fg Bk=> ?_))
  refine .cond (fun I6=> ?_) fun _=> .ret ⟨oM.1,FM (by omega)⟩
  refine .eq rfl (.eq rfl (.ret ⟨oM.1,fun h=>(by cases h),fun h=>(by omega),fun h=>by omega,fun _ i an aX=> ?_,fun _ i an aX=> ?_,D3,fun h=>(by omega),fun _=>rfl,fun h=>absurd fs h,fun _ _ hd=> ?_,fun h=>(by omega),fun h=>(by omega),fun _=>rfl⟩))
  ·have pE:=Bk i an
   simp only at aX
   rw [aX] at pE
   have:=pE.symm
   simp only [Bool.and_eq_true,decide_eq_true_eq] at this
   exact this.2
  ·simp only at aX ⊢
   rw [N2,BitVec.getLsbD_and,Bool.and_eq_true] at aX
   have I5:i < 64:=by
    rcases Nat.lt_or_ge i 64 with h | h
    ·exact h
    ·rw [BitVec.getLsbD_of_ge _ i h] at aX; cases aX.1
   unfold bL; rw [if_pos I5]; exact aX.2
  ·have hd':fg=default:=hd
   rw [hd'] at I6; simp at I6
   exact I6 rfl
 refine .cond (fun iQ=> ?_) fun iQ=> ?_
 ·have iQ:key.cg=4:=by simpa using iQ
  refine .bind (gd _ 256 aV.1 (by omega)) fun ib pE=> .eq rfl (.bind (gd _ 5 pE.1 (by omega)) fun jJ Eu=> .eq rfl (.cond (fun _=> ?_) fun _=> .ret ⟨Eu.1,FM (by omega)⟩))
  have Zs:=Ug (v:=br) (b:=b) (c:=ib.1) ⟨by omega,Zr⟩ ⟨pE.2.1,pE.2.2.1⟩ fun i an aX=>by
   have xh:=a1 i an
   rw [aX] at xh
   have:=xh.symm
   simp only [Bool.and_eq_true,decide_eq_true_eq] at this
   exact this.2
  exact .eq rfl (.ret ⟨Eu.1,fun h=>(by cases h),fun h=>(by omega),fun h=>by omega,fun h=>(by omega),fun h=>(by omega),D3,fun h=>(by omega),fun _=>rfl,fun _=>rfl,fun h=>(by omega),fun _ _=>Zs,fun h=>(by omega),fun h=>absurd iQ h⟩)
 ·have aF:key.cg=1:=by
   simp only [beq_eq_false_iff_ne] at q fs iQ
   omega
  refine .eq rfl (.ret ⟨aV.1,fun h=>(by cases h),fun _=>rfl,fun _ i an aX=> ?_,fun h=>(by omega),fun h=>(by omega),D3,fun h=>(by omega),fun _=>rfl,fun _=>rfl,fun h=>(by omega),fun h=>(by omega),fun h=>(by omega),fun _=>rfl⟩)
  have pE:=a1 i an
  simp only at aX
  rw [aX] at pE
  have:=pE.symm
  simp only [Bool.and_eq_true,decide_eq_true_eq] at this
  exact this.2
structure hR (s:a2) (k:Nat) (e:bJ):Prop where
 hL:e.dO=(k:Int) + 1
 len:e.bY.length=(ax s.bm k).bx.length
 pF:∀ i,i < (ax s.bm k).bx.length→lB (ax (ax s.bm k).bx i).cg (eC (ax (ax s.bm k).bx i)) (ax e.bY i)
 args:e.mz.length≤10
 pri:(∀ i,i < (ax s.bm k).bx.length→ (ax (ax s.bm k).bx i).cg≤2)→e.hY=0
theorem SP {α:Type} [Inhabited α] (l:List α) (x:α) (i:Nat):ax (l ++ [x]) i=if i=l.length then x else ax l i:=by
 unfold ax
 by_cases h:i=l.length
 ·subst h; simp
 ·rw [if_neg h]
  rcases Nat.lt_or_ge i l.length with aa | aa
  ·rw [List.getElem?_append_left aa]
  ·rw [List.getElem?_eq_none (by simp; omega),List.getElem?_eq_none aa]
theorem SQ (c:bt) {s:a2} (x:Int) (ar:gI c) (h:c5 s):
 bg (x8 c s x) (fun r=>gI r.2∧ ∃ k:Nat,k < 4∧qK x (s.bm.length:Int)=some (k:Int)∧hR s k r.1):=by
 unfold x8
 obtain⟨al,aA,bW,aa⟩:=Mi x (s.bm.length:Int) (by rw [h.kk]; omega) (by rw [h.kk]; omega)
 obtain⟨k,rfl⟩:=Int.eq_ofNat_of_zero_le bW
 have av:k < 4:=by have:=h.kk; omega
 obtain⟨t1,⟨t2,t3⟩,t4,⟨t5,t6⟩,t7⟩:=h.hL av
 refine .eq aA (.idx rfl (by have:=h.kk; omega) ?_)
 refine bg.loop (ax s.bm k).bx.length (fun i st=>st.1=(i:Int)∧st.2.1.dO=(k:Int) + 1∧st.2.2.1.length=i∧gI st.2.2.2∧
  (∀ j,j < i→lB (ax (ax s.bm k).bx j).cg (eC (ax (ax s.bm k).bx j)) (ax st.2.2.1 j))∧ ((∀ j,j < i→ (ax (ax s.bm k).bx j).cg≤2)→st.2.1.hY=0)) (by omega) ⟨rfl,t1,rfl,ar,fun j aE=>by omega,fun _=>rfl⟩ (fun i st an hs=> ?_) (fun st hs=> ?_)
 ·obtain⟨rW,e,ms,rV⟩:=st; obtain⟨aU,cL,eO,gz,hE,qz⟩:=hs
  simp only at aU cL eO gz hE qz; subst aU
  refine bg.cond (fun _=> ?_) (fun h=>by simp at h; omega)
  refine .idx rfl an (.bind (SO _ _ gz h (t4 _ (by rw [ey _ an]; exact List.getElem_mem an))) fun aN ae=> .eq (iy _ _ (by simp; omega) (by omega)) (.eq rfl ?_))
  refine .bind (P:=fun m=>m.1.dO=(k:Int) + 1∧gI m.2∧ ((ax (ax s.bm k).bx i).cg≤2→m.1.hY=e.hY)) (.cond (fun dI=> .bind (gd _ 5 ae.1 (by omega)) fun bR aV=> .eq rfl (.ret ⟨cL,aV.1,fun h=>by simp at dI; omega⟩)) (fun _=> .ret ⟨cL,ae.1,fun _=>rfl⟩)) fun bM cG=> ?_
  refine .ret ⟨ew (by omega),cG.1,by simp; omega,cG.2.1,fun j aE=> ?_,fun h=> ?_⟩
  ·simp only [SP]
   by_cases oK:j=ms.length
   ·rw [if_pos oK]; rw [oK,eO]; exact ae.2
   ·rw [if_neg oK]; exact hE j (by omega)
  ·exact(cG.2.2 (h i (by omega))).trans (qz fun j aE=>h j (by omega))
 ·obtain⟨rW,e,ms,rV⟩:=st; obtain⟨aU,cL,eO,gz,hE,qz⟩:=hs
  simp only at aU cL eO gz hE qz; subst aU
  refine⟨_,by simp; rfl,?_⟩
  refine .bind (gd _ _ gz (by omega)) fun br a1=> ?_
  refine .eq (tT a1.2.1 a1.2.2.1) (.eq rfl ?_)
  have bn:1≤ax (ax s.bm k).dk br.1.toNat∧ax (ax s.bm k).dk br.1.toNat≤6:=t7 _ (by
   have cw:br.1.toNat < (ax s.bm k).dk.length:=by have:=a1.2.1; have:=a1.2.2.1; omega
   rw [ey _ cw]; exact List.getElem_mem cw)
  obtain⟨a,fV⟩:=Int.eq_ofNat_of_zero_le (show 0≤ax (ax s.bm k).dk br.1.toNat - 1 by omega)
  have Zt:ax (ax s.bm k).dk br.1.toNat=(a:Int) + 1:=by omega
  simp only [Zt]
  refine .bind (RU h (show a < 6 by omega)) fun b8 bo=> ?_
  obtain⟨aS,a3⟩:=h.act (show a < 6 by omega)
  rw [← bo] at a3
  have hp:b8.jR.length≤10∧ ∀ i,i < b8.jR.length→0≤ (ax b8.jR i).fe∧ (ax b8.jR i).fe < 1000:=by
   have hq:∀ l∈sT,l.length≤10∧ ∀ b∈l,0≤b∧b < 1000:=by decide
   have hm:ax sT a∈sT:=by rw [ey sT (show a < sT.length by simp [sT]; omega)]; exact List.getElem_mem _
   obtain⟨aF,cT⟩:=hq _ hm
   rw [← a3] at aF cT
   refine⟨by simpa using aF,fun i an=>cT _ ?_⟩
   rw [ey _ an]
   exact List.mem_map.2 ⟨_,List.getElem_mem an,rfl⟩
  refine bg.loop b8.jR.length (fun i st=>st.1=(i:Int)∧st.2.1.dO=(k:Int) + 1∧st.2.2.1.length=i∧gI st.2.2.2∧st.2.1.hY=e.hY) (by omega) ⟨rfl,cL,rfl,a1.1,rfl⟩ (fun i st an hs=> ?_) (fun st hs=> ?_)
  ·obtain⟨rW,e',vs,Zu⟩:=st; obtain⟨f2,f3,f4,f5,f6⟩:=hs
   simp only at f2 f3 f4 f5 f6; subst f2
   refine bg.cond (fun _=> ?_) (fun h=>by simp at h; omega)
   refine .idx rfl an (.bind (gd _ 256 f5 (by omega)) fun cD cX=> .eq rfl (.bind (Dd _ _ (hp.2 i an).1 (hp.2 i an).2) fun dL eP=> .eq (iy _ _ (by have:=hp.1; simp; omega) (by omega)) (.ret ⟨ew (by have:=hp.1; omega),f3,by simp; omega,cX.1,f6⟩)))
  ·obtain⟨rW,e',vs,Zu⟩:=st; obtain⟨f2,f3,f4,f5,f6⟩:=hs
   simp only at f2 f3 f4 f5 f6; subst f2
   refine⟨_,by simp; rfl,?_⟩
   exact .eq rfl (.ret ⟨f5,k,av,aA,f3,eO,hE,by show vs.length≤10; have:=hp.1; omega,fun h=>f6.trans (qz h)⟩)
end Go.Proofs.YtmnggbjcnoffeaaGreat
namespace Go.Proofs.YtmnggbjcnoffeaaGreat
open Go Gv
set_option linter.unusedVariables false
set_option linter.unusedSimpArgs false
set_option maxRecDepth 100000
structure WR (s:a2) (r:Vector (List Int) 6):Prop where
 fields:bD r 0=s.fi.map (·.bX)
 headers:bD r 1=s.ll.map (·.bX)
 MY:bD r 2=s.l0.map (·.bX)
 Gr:bD r 3=s.dk.map (·.bX)
 tables:bD r 4=s.bm.map (·.bX)
 NZ:bD r 5=s.ji.map (·.bX)
theorem US {s:a2} (h:c5 s):bg (yF s) (WR s):=by
 unfold yF
 have ti:=h.oD; have EI:=h.headers; have aaW:=h.MY; have aaX:=h.HV; have aaY:=h.kk; have aaZ:=h.Yn
 refine bg.loop s.fi.length (fun k st=>st.1=(k:Int)∧st.2.1=(s.fi.take k).map (·.bX)) (by omega) ⟨rfl,rfl⟩ (fun k st av an=> ?_) (fun st an=> ?_)
 ·obtain⟨i,a,v⟩:=st; obtain⟨aA,aU⟩:=an; simp only at aA aU; subst aA; subst aU
  refine bg.cond (fun _=> ?_) (fun h=>by simp at h; omega)
  exact .idx rfl av (.eq (iy _ _ (by simp; omega) (by omega)) (.ret ⟨ew (by omega),by rw [r6 _ av,List.map_append]; rfl⟩))
 obtain⟨i,fM,v⟩:=st; obtain⟨aA,aU⟩:=an; simp only at aA aU; subst aA; subst aU
 refine⟨_,by simp only [show decide ((s.fi.length:Int) < (s.fi.length:Int))=false by simp,cond_false]; rfl,?_⟩
 refine bg.loop s.ll.length (fun k st=>st.1=(k:Int)∧st.2.1=(s.ll.take k).map (·.bX)) (by omega) ⟨rfl,rfl⟩ (fun k st av an=> ?_) (fun st an=> ?_)
 ·obtain⟨i,a,v⟩:=st; obtain⟨aA,aU⟩:=an; simp only at aA aU; subst aA; subst aU
  refine bg.cond (fun _=> ?_) (fun h=>by simp at h; omega)
  exact .idx rfl av (.eq (iy _ _ (by simp; omega) (by omega)) (.ret ⟨ew (by omega),by rw [r6 _ av,List.map_append]; rfl⟩))
 obtain⟨i,dY,v⟩:=st; obtain⟨aA,aU⟩:=an; simp only at aA aU; subst aA; subst aU
 refine⟨_,by simp only [show decide ((s.ll.length:Int) < (s.ll.length:Int))=false by simp,cond_false]; rfl,?_⟩
 refine bg.loop s.l0.length (fun k st=>st.1=(k:Int)∧st.2.1=(s.l0.take k).map (·.bX)) (by omega) ⟨rfl,rfl⟩ (fun k st av an=> ?_) (fun st an=> ?_)
 ·obtain⟨i,a,v⟩:=st; obtain⟨aA,aU⟩:=an; simp only at aA aU; subst aA; subst aU
  refine bg.cond (fun _=> ?_) (fun h=>by simp at h; omega)
  exact .idx rfl av (.eq (iy _ _ (by simp; omega) (by omega)) (.ret ⟨ew (by omega),by rw [r6 _ av,List.map_append]; rfl⟩))
 obtain⟨i,eg,v⟩:=st; obtain⟨aA,aU⟩:=an; simp only at aA aU; subst aA; subst aU
 refine⟨_,by simp only [show decide ((s.l0.length:Int) < (s.l0.length:Int))=false by simp,cond_false]; rfl,?_⟩
 refine bg.loop s.dk.length (fun k st=>st.1=(k:Int)∧st.2.1=(s.dk.take k).map (·.bX)) (by omega) ⟨rfl,rfl⟩ (fun k st av an=> ?_) (fun st an=> ?_)
 ·obtain⟨i,a,v⟩:=st; obtain⟨aA,aU⟩:=an; simp only at aA aU; subst aA; subst aU
  refine bg.cond (fun _=> ?_) (fun h=>by simp at h; omega)
  exact .idx rfl av (.eq (iy _ _ (by simp; omega) (by omega)) (.ret ⟨ew (by omega),by rw [r6 _ av,List.map_append]; rfl⟩))
 obtain⟨i,jM,v⟩:=st; obtain⟨aA,aU⟩:=an; simp only at aA aU; subst aA; subst aU
 refine⟨_,by simp only [show decide ((s.dk.length:Int) < (s.dk.length:Int))=false by simp,cond_false]; rfl,?_⟩
 refine bg.loop s.bm.length (fun k st=>st.1=(k:Int)∧st.2.1=(s.bm.take k).map (·.bX)) (by omega) ⟨rfl,rfl⟩ (fun k st av an=> ?_) (fun st an=> ?_)
 ·obtain⟨i,a,v⟩:=st; obtain⟨aA,aU⟩:=an; simp only at aA aU; subst aA; subst aU
  refine bg.cond (fun _=> ?_) (fun h=>by simp at h; omega)
  exact .idx rfl av (.eq (iy _ _ (by simp; omega) (by omega)) (.ret ⟨ew (by omega),by rw [r6 _ av,List.map_append]; rfl⟩))
 obtain⟨i,mS,v⟩:=st; obtain⟨aA,aU⟩:=an; simp only at aA aU; subst aA; subst aU
 refine⟨_,by simp only [show decide ((s.bm.length:Int) < (s.bm.length:Int))=false by simp,cond_false]; rfl,?_⟩
 refine bg.loop s.ji.length (fun k st=>st.1=(k:Int)∧st.2.1=(s.ji.take k).map (·.bX)) (by omega) ⟨rfl,rfl⟩ (fun k st av an=> ?_) (fun st an=> ?_)
 ·obtain⟨i,a,v⟩:=st; obtain⟨aA,aU⟩:=an; simp only at aA aU; subst aA; subst aU
  refine bg.cond (fun _=> ?_) (fun h=>by simp at h; omega)
  exact .idx rfl av (.eq (iy _ _ (by simp; omega) (by omega)) (.ret ⟨ew (by omega),by rw [r6 _ av,List.map_append]; rfl⟩))
 obtain⟨i,rT,v⟩:=st; obtain⟨aA,aU⟩:=an; simp only at aA aU; subst aA; subst aU
 refine⟨_,by simp only [show decide ((s.ji.length:Int) < (s.ji.length:Int))=false by simp,cond_false]; rfl,?_⟩
 refine .eq rfl (.ret ⟨?_,?_,?_,?_,?_,?_⟩)
 ·simp only [List.take_length]
  rw [gD _ _ (by omega),if_neg (by omega),gD _ _ (by omega),if_neg (by omega),gD _ _ (by omega),if_neg (by omega),gD _ _ (by omega),if_neg (by omega),gD _ _ (by omega),if_neg (by omega),gD _ _ (by omega),if_pos rfl]
 ·simp only [List.take_length]
  rw [gD _ _ (by omega),if_neg (by omega),gD _ _ (by omega),if_neg (by omega),gD _ _ (by omega),if_neg (by omega),gD _ _ (by omega),if_neg (by omega),gD _ _ (by omega),if_pos rfl]
 ·simp only [List.take_length]
  rw [gD _ _ (by omega),if_neg (by omega),gD _ _ (by omega),if_neg (by omega),gD _ _ (by omega),if_neg (by omega),gD _ _ (by omega),if_pos rfl]
 ·simp only [List.take_length]
  rw [gD _ _ (by omega),if_neg (by omega),gD _ _ (by omega),if_neg (by omega),gD _ _ (by omega),if_pos rfl]
 ·simp only [List.take_length]
  rw [gD _ _ (by omega),if_neg (by omega),gD _ _ (by omega),if_pos rfl]
 ·simp only [List.take_length]
  rw [gD _ _ (by omega),if_pos rfl]
end Go.Proofs.YtmnggbjcnoffeaaGreat
namespace Go.Proofs.YtmnggbjcnoffeaaGreat
open Go Gv
set_option linter.unusedVariables false
set_option linter.unusedSimpArgs false
theorem QG {xs:List bV} {f:bV→Option Bool} {g:bV→Bool} (a8:∀ x∈xs,f x=some (g x)) (ao:xs.length < 2 ^ 62):
 bg (xB xs f) (fun r=>(r= -1∧ ∀ x∈xs,g x=false)∨ ∃ i:Nat,i < xs.length∧r=i∧g (ax xs i)=true∧ ∀ j,j < i→g (ax xs j)=false):=by
 unfold xB
 refine bg.loop xs.length (fun k s=>s=(k:Int)∧ ∀ j,j < k→g (ax xs j)=false) (by omega) ⟨rfl,fun j aE=>by omega⟩ (fun k s av an=> ?_) (fun s an=> ?_)
 ·obtain⟨aA,aU⟩:=an; subst aA
  refine bg.cond (fun _=> ?_) (fun h=>by simp at h; omega)
  refine .idx rfl av (.eq (a8 _ (by rw [ey xs av]; exact List.getElem_mem av)) (.cond (fun h=> .ret ?_) (fun h=> .ret ⟨ew (by omega),fun j aE=> ?_⟩)))
  ·exact .ret (.inr ⟨k,av,rfl,h,aU⟩)
  ·by_cases js:j=k
   ·subst js; exact h
   ·exact aU j (by omega)
 ·obtain⟨aA,aU⟩:=an; subst aA
  refine⟨_,by simp; rfl,?_⟩
  refine .ret (.inl ⟨rfl,fun x aq=> ?_⟩)
  obtain⟨j,aE,rfl⟩:=List.mem_iff_getElem.1 aq
  rw [← ey xs aE]; exact aU j aE
end Go.Proofs.YtmnggbjcnoffeaaGreat
namespace Go.Proofs.YtmnggbjcnoffeaaGreat
open Go Gv
set_option linter.unusedVariables false
set_option linter.unusedSimpArgs false
theorem QH {xs:List fy} {f:fy→Option Bool} {g:fy→Bool} (a8:∀ x∈xs,f x=some (g x)) (ao:xs.length < 2 ^ 62):
 bg (xC xs f) (fun r=>(r= -1∧ ∀ x∈xs,g x=false)∨ ∃ i:Nat,i < xs.length∧r=i∧g (ax xs i)=true∧ ∀ j,j < i→g (ax xs j)=false):=by
 unfold xC
 refine bg.loop xs.length (fun k s=>s=(k:Int)∧ ∀ j,j < k→g (ax xs j)=false) (by omega) ⟨rfl,fun j aE=>by omega⟩ (fun k s av an=> ?_) (fun s an=> ?_)
 ·obtain⟨aA,aU⟩:=an; subst aA
  refine bg.cond (fun _=> ?_) (fun h=>by simp at h; omega)
  refine .idx rfl av (.eq (a8 _ (by rw [ey xs av]; exact List.getElem_mem av)) (.cond (fun h=> .ret ?_) (fun h=> .ret ⟨ew (by omega),fun j aE=> ?_⟩)))
  ·exact .ret (.inr ⟨k,av,rfl,h,aU⟩)
  ·by_cases js:j=k
   ·subst js; exact h
   ·exact aU j (by omega)
 ·obtain⟨aA,aU⟩:=an; subst aA
  refine⟨_,by simp; rfl,?_⟩
  refine .ret (.inl ⟨rfl,fun x aq=> ?_⟩)
  obtain⟨j,aE,rfl⟩:=List.mem_iff_getElem.1 aq
  rw [← ey xs aE]; exact aU j aE
end Go.Proofs.YtmnggbjcnoffeaaGreat
namespace Go.Proofs.YtmnggbjcnoffeaaGreat
open Go Gv
set_option linter.unusedVariables false
set_option linter.unusedSimpArgs false
set_option maxRecDepth 100000
theorem yI {s:a2} (h:c5 s) {k:Nat} (av:k < 4):bg (r3 s ((k:Int) + 1)) (fun r=>r=(k:Int)):=by
 unfold r3
 refine(QG (g:=fun t=>t.bX ==(k:Int) + 1) (fun x aq=>rfl) (by rw [h.kk]; omega)).bind fun r aQ=> .ret ?_
 have de:k < s.bm.length:=by rw [h.kk]; exact av
 rcases aQ with⟨_,aQ⟩ | ⟨i,aa,ae,aD,aV⟩
 ·have:=aQ (ax s.bm k) (by rw [ey _ de]; exact List.getElem_mem de)
  simp only [(h.hL av).1,beq_self_eq_true] at this; cases this
 ·have a1:=(h.hL (show i < 4 by have:=h.kk; omega)).1
  simp only [a1,beq_iff_eq] at aD; omega
theorem Cy {s:a2} (h:c5 s) {k:Nat} (av:k < 9):bg (ts s ((k:Int) + 1)) (fun r=>r=(k:Int)):=by
 unfold ts
 refine(QH (g:=fun t=>t.bX ==(k:Int) + 1) (fun x aq=>rfl) (by rw [h.oD]; omega)).bind fun r aQ=> .ret ?_
 have de:k < s.fi.length:=by rw [h.oD]; exact av
 rcases aQ with⟨_,aQ⟩ | ⟨i,aa,ae,aD,aV⟩
 ·have:=aQ (ax s.fi k) (by rw [ey _ de]; exact List.getElem_mem de)
  simp only [(h.pD av).1,beq_self_eq_true] at this; cases this
 ·have a1:=(h.pD (show i < 9 by have:=h.oD; omega)).1
  simp only [a1,beq_iff_eq] at aD; omega
theorem Tn (l:List Int) {k:Nat} (av:k < l.length) (ao:l.length < 2 ^ 30) (h:∀ j,j < l.length→ax l j=(j:Int) + 1):bg (yw l ((k:Int) + 1)) (fun r=>r=(k:Int)):=by
 unfold yw
 refine bg.loop k (fun j s=>s=(j:Int)) (by omega) rfl (fun j i aE an=> ?_) (fun i an=> ?_)
 ·subst an
  refine bg.cond (fun _=> ?_) (fun h=>by simp at h; omega)
  refine .idx rfl (by omega) (.cond (fun ar=> ?_) (fun ar=> .ret (ew (by omega))))
  rw [h j (by omega),beq_iff_eq] at ar; omega
 ·subst an
  have aa:decide ((k:Int) < (l.length:Int))=true:=by simp; omega
  have ae:(ax l k ==(k:Int) + 1)=true:=by rw [h k av]; simp
  rw [aa]
  simp only [cond_true]
  rw [oi (by omega)]
  simp only [Option.bind_some,ae,cond_true]
  exact⟨_,rfl,.ret rfl⟩
theorem RV {s:a2} (h:c5 s) {k:Nat} (av:k < 9):bg (yi s ((k:Int) + 1)) (fun r=>r=(k:Int)):=by
 unfold yi
 refine(US h).bind fun y a6=> ?_
 have ao:=h.oD
 rw [a6.fields]
 refine(Tn _ (by simp; omega) (by simp; omega) fun j aE=> ?_).bind fun r aQ=> .ret aQ
 rw [y0 _ (by simpa using aE)]; exact(h.pD (by simp at aE; omega)).1
theorem wN {key:cE} {j:Nat} (h:key.gr=(j:Int) + 1):eC key=ax qe j:=by unfold eC; rw [h]; congr 1; omega
theorem Sf {s:a2} (h:c5 s) {t:bV} {i:Nat} (an:i < t.bx.length) (av:iJ (ax t.bx i)):bg (yl s t (i:Int)) (fun r=>r=eC (ax t.bx i)):=by
 obtain⟨j,aE,a8,_⟩:=av
 unfold yl Cr
 refine .idx rfl an ?_
 rw [wN a8,a8]
 refine .bind (P:=fun r=>r=ax qe j) ((RV h aE).bind fun y a6=> .idx a6 (by rw [h.oD]; exact aE) (.ret (h.pD aE).2)) fun y a6=> .ret a6
def lead (n k:Int) (j:Nat):Bool:=decide ((j:Int) < n) && decide (n - max 0 (min k n)≤ (j:Int))
theorem CG (n k:Int) (bW:0≤n) (aa:n≤128):bg (tt n k) (fun r=> ∀ j,j < 128→bL r j=lead n k j):=by
 unfold tt vG
 have e:min (max 0 n) 128=n:=by omega
 rw [e]
 have aU:bz (n - min (max 0 k) n)=n - min (max 0 k) n:=hQ (by omega) (by omega)
 refine .eq rfl ((zd n).bind fun a bn=> ?_)
 rw [aU]
 refine(zd _).bind fun b hb=>(CZ a b).bind fun r aQ=> .ret fun j aE=> ?_
 rw [aQ j aE,bn j aE,hb j aE]
 unfold lead
 by_cases p:(j:Int) < n
 ·rw [decide_eq_true p]
  by_cases q:(j:Int) < n - min (max 0 k) n
  ·rw [decide_eq_true q,decide_eq_false (by omega)]; rfl
  ·rw [decide_eq_false q,decide_eq_true (by omega)]; rfl
 ·rw [decide_eq_false p,decide_eq_false (by omega)]; rfl
def lW (key:cE) (m:cr) (j:Nat):Bool:=m.gM && (if key.cg=1 then decide ((j:Int) < eC key) else if key.cg=2 then lead (eC key) m.eQ j else bL m.bQ j)
theorem iJ.eC {key:cE} (h:iJ key):4≤Go.Proofs.YtmnggbjcnoffeaaGreat.eC key∧Go.Proofs.YtmnggbjcnoffeaaGreat.eC key≤32:=by
 obtain⟨j,aE,a8,_,_,aa,ae,_⟩:=h
 rw [wN a8]; exact⟨aa,ae⟩
theorem To {key:cE} (av:iJ key) (m:cr):bg (yC m key.cg (eC key)) (fun r=> ∀ j,j < 128→bL r j=lW key m j):=by
 have hb:=av.eC
 unfold yC lW
 refine .cond (fun h=> .ret fun j aE=> ?_) fun h=> .cond (fun aa=>(zd _).bind fun y a6=> .ret fun j aE=> ?_) fun aa=> .cond (fun ae=>(CG _ _ (by omega) (by omega)).bind fun y a6=> .ret fun j aE=> ?_) fun ae=> .ret fun j aE=> ?_
 ·rw [tU]; simp only [Bool.not_eq_true'] at h; rw [h]; rfl
 all_goals (simp only [Bool.not_eq_false'] at h; rw [h,Bool.true_and])
 ·rw [if_pos (by simpa using aa)]; exact a6 j aE
 ·rw [if_neg (by simpa using aa),if_pos (by simpa using ae)]; exact a6 j aE
 ·rw [if_neg (by simpa using aa),if_neg (by simpa using ae)]
theorem Uh {s:a2} (h:c5 s) {k:Nat} (av:k < 4) {e:bJ} (he:hR s k e):bg (sd s e) (fun r=>
 (r.2=false∧r.1=default∧ ∃ i,i < (ax s.bm k).bx.length∧ (ax (ax s.bm k).bx i).cg=4)∨
 (r.2=true∧ (∀ i,i < (ax s.bm k).bx.length→ (ax (ax s.bm k).bx i).cg≠4)∧ ∀ c j,c < 4→j < 128→
   bL (bD r.1.bQ c) j=(decide (c < (ax s.bm k).bx.length) && lW (ax (ax s.bm k).bx c) (ax e.bY c) j)∧
   bL (bD r.1.bI c) j=(decide (c < (ax s.bm k).bx.length) && (bL (ax e.bY c).bI j && lW (ax (ax s.bm k).bx c) (ax e.bY c) j)))):=by
 unfold sd
 obtain⟨t1,⟨t2,t3⟩,t4,_⟩:=h.hL av
 rw [he.hL]
 refine(yI h av).bind fun al aA=> ?_
 subst aA
 refine .cond (fun h=>by simp at h; omega) fun _=> .idx rfl (by rw [h.kk]; exact av) ?_
 have hm:=he.len
 generalize tf:(ax s.bm k).bx=K at *
 refine bg.loop K.length (fun i st=>st.1=(i:Int)∧ (∀ c,c < i→ (ax K c).cg≠4)∧ ∀ c j,c < 4→j < 128→
  bL (bD st.2.bQ c) j=(decide (c < i) && lW (ax K c) (ax e.bY c) j)∧
  bL (bD st.2.bI c) j=(decide (c < i) && (bL (ax e.bY c).bI j && lW (ax K c) (ax e.bY c) j))) (by omega)
  ⟨rfl,fun c ar=>by omega,fun c j ar aE=> ?_⟩ (fun i st an hs=> ?_) (fun st hs=> ?_)
 ·rw [show(default:a4).bQ=default from rfl,show(default:a4).bI=default from rfl,Fj,tU]; simp
 ·obtain⟨rW,x⟩:=st; obtain⟨aU,cL,eO⟩:=hs
  simp only at aU cL eO; subst aU
  refine bg.cond (fun _=> ?_) (fun h=>by simp at h; omega)
  have hS:iJ (ax K i):=t4 _ (by rw [ey _ an]; exact List.getElem_mem an)
  have Hs:=hS
  obtain⟨j,aE,a8,_⟩:=Hs
  refine .idx rfl an ?_
  rw [a8]
  refine(Cy h aE).bind fun aN aU=> ?_
  subst aU
  refine .eq rfl (.eq rfl (.cond (fun dI=> ?_) fun dI=> ?_))
  ·refine .ret (.ret (.inl ⟨rfl,rfl,i,an,?_⟩))
   simp only [Bool.or_eq_true,beq_iff_eq,decide_eq_true_eq] at dI
   omega
  ·simp only [Bool.or_eq_false_iff,beq_eq_false_iff_ne,decide_eq_false_iff_not] at dI
   refine .idx rfl (by omega) (.idx rfl (by rw [h.oD]; exact aE) ?_)
   rw [(h.pD aE).2,← wN a8]
   have kU:i < 4:=by omega
   refine(To hS _).bind fun a7 aD=> .idx rfl kU (.idx rfl (by omega) (.idx rfl kU ((pR _ _).bind fun bR aV=> .idx rfl kU (.eq rfl (.ret ⟨ew (by omega),fun c ar=> ?_,fun c j ar aE=> ?_⟩)))))
   ·by_cases mo:c=i
    ·subst mo; exact dI.1.1.1
    ·exact cL c (by omega)
   ·simp only [gD _ _ kU]
    by_cases mo:c=i
    ·subst mo
     rw [if_pos rfl,if_pos rfl]
     have u4:=aV j aE
     simp only [gD _ _ kU,if_true] at u4
     rw [aD j aE,u4,aD j aE,decide_eq_true (show c < c + 1 by omega)]
     exact⟨rfl,rfl⟩
    ·rw [if_neg mo,if_neg mo,(eO c j ar aE).1,(eO c j ar aE).2]
     have:decide (c < i + 1)=decide (c < i):=by rw [decide_eq_decide]; omega
     rw [this]; exact⟨rfl,rfl⟩
 ·obtain⟨rW,x⟩:=st; obtain⟨aU,cL,eO⟩:=hs
  simp only at aU cL eO; subst aU
  have ar:decide ((K.length:Int) < (K.length:Int))=false:=by simp
  rw [ar]
  refine⟨_,rfl,?_⟩
  exact .ret (.inr ⟨rfl,cL,eO⟩)
end Go.Proofs.YtmnggbjcnoffeaaGreat
namespace Go.Proofs.YtmnggbjcnoffeaaGreat
open Go Gv
set_option linter.unusedVariables false
set_option linter.unusedSimpArgs false
set_option maxRecDepth 100000
theorem C1 {v w:ak} :decide (v=w)=true↔ ∀ j,j < 128→bL v j=bL w j:=by
 rw [decide_eq_true_eq]; exact⟨fun h j _=>by rw [h],uc⟩
theorem KD (x y:ak):bg (r4 x y) (fun _=>True):=by
 unfold r4
 exact .cond (fun _=> .ret trivial) fun _=> .eq rfl (.cond (fun _=> .ret trivial) fun _=> .ret trivial)
theorem Sg {key:cE} (av:iJ key) {m:cr} (hm:lB key.cg (eC key) m) (x:ak):
 bg (tv m key.cg (eC key) x) (fun r=>key.cg≠4→ (∀ j,j < 128→bL x j=true→ (j:Int) < eC key)→ (r=true↔ ∀ j,j < 128→ (bL x j && lW key m j)=(bL m.bI j && lW key m j))):=by
 have hb:=av.eC
 obtain⟨_,_,_,aZ,fm,_⟩:=av
 unfold tv lW
 refine .cond (fun hp=> .ret fun _ _=> ?_) fun hp=> ?_
 ·simp only [Bool.not_eq_true'] at hp
  rw [hp]
  simp only [Bool.false_and,Bool.and_false,Bool.and_eq_true,decide_eq_true_eq]
  exact⟨fun _ j _=>trivial,fun _=>⟨by omega,by omega⟩⟩
 simp only [Bool.not_eq_false'] at hp
 simp only [hp,Bool.true_and]
 refine .cond (fun aa=> .ret fun _ aq=> ?_) fun aa=> .cond (fun ae=> ?_) fun ae=> .cond (fun aD=> ?_) fun aD=> ?_
 ·have aa:key.cg=1:=by simpa using aa
  have ao:=hm.low aa
  rw [C1]
  simp only [if_pos aa]
  refine⟨fun h j aE=>by rw [h j aE],fun h j aE=> ?_⟩
  have aV:=h j aE
  cases I7:bL x j
  ·cases Ey:bL m.bI j
   ·rfl
   ·rw [I7,Ey,decide_eq_true (ao j aE Ey)] at aV; cases aV
  ·rw [I7,decide_eq_true (aq j aE I7)] at aV
   simpa using aV
 ·have aa: ¬ key.cg=1:=by simpa using aa
  have ae:key.cg=2:=by simpa using ae
  refine(CG _ _ (by omega) (by omega)).bind fun al aA=>(pR _ _).bind fun aN aU=>(pR _ _).bind fun a7 cL=> .ret fun _ _=> ?_
  rw [C1]
  simp only [if_neg aa,if_pos ae]
  refine⟨fun h j aE=> ?_,fun h j aE=> ?_⟩
  ·rw [← aA j aE,← aU j aE,← cL j aE]; exact h j aE
  ·rw [aU j aE,cL j aE,aA j aE]; exact h j aE
 ·have aa: ¬ key.cg=1:=by simpa using aa
  have ae: ¬ key.cg=2:=by simpa using ae
  have aD:key.cg=3:=by simpa using aD
  have cj:=hm.Pd aD
  refine(pR _ _).bind fun aN aU=> .ret fun _ _=> ?_
  rw [C1]
  simp only [if_neg aa,if_neg ae]
  have aX:∀ j,j < 128→ (bL m.bI j && bL m.bQ j)=bL m.bI j:=fun j aE=>by
   cases Ey:bL m.bI j
   ·rfl
   ·rw [cj j aE Ey]; rfl
  refine⟨fun h j aE=> ?_,fun h j aE=> ?_⟩
  ·rw [← aU j aE,aX j aE]; exact h j aE
  ·rw [aU j aE,← aX j aE]; exact h j aE
 ·refine .cond (fun aV=>(KD _ _).bind fun br _=> .c4 (P:=fun _=>True) (fun _=>KD _ _) fun b8 _=> .ret fun h=>absurd (by simpa using aV) h) fun aV=> ?_
  simp only [beq_eq_false_iff_ne] at aa ae aD aV
  omega
theorem RW {s:a2} (h:c5 s) {k:Nat} (av:k < 4) {e:bJ} (he:hR s k e) (p:Vector ak 4)
 (hp:∀ c j,c < (ax s.bm k).bx.length→j < 128→bL (bD p c) j=true→ (j:Int) < eC (ax (ax s.bm k).bx c)):
 bg (r5 s e p) (fun r=>(∀ i,i < (ax s.bm k).bx.length→ (ax (ax s.bm k).bx i).cg≠4)→
  (r=true↔ ∀ c j,c < (ax s.bm k).bx.length→j < 128→ (bL (bD p c) j && lW (ax (ax s.bm k).bx c) (ax e.bY c) j)=(bL (ax e.bY c).bI j && lW (ax (ax s.bm k).bx c) (ax e.bY c) j))):=by
 obtain⟨t1,⟨t2,t3⟩,t4,_⟩:=h.hL av
 have Yo:r7 s e=some (ax s.bm k,true):=by
  unfold r7
  rw [he.hL]
  obtain⟨y,aa,ae⟩:=yI h av
  subst ae
  rw [aa,Option.bind_some,show decide ((k:Int) < 0)=false from decide_eq_false (by omega),cond_false,oi (by rw [h.kk]; exact av)]
  first | done | rfl
 unfold r5
 refine .eq Yo (.cond (fun h=>by cases h) fun _=> ?_)
 have hm:=he.len
 simp only
 refine bg.loop (ax s.bm k).bx.length (fun i st=>st=(i:Int)∧ ((∀ i,i < (ax s.bm k).bx.length→ (ax (ax s.bm k).bx i).cg≠4)→ ∀ c j,c < i→j < 128→
  (bL (bD p c) j && lW (ax (ax s.bm k).bx c) (ax e.bY c) j)=(bL (ax e.bY c).bI j && lW (ax (ax s.bm k).bx c) (ax e.bY c) j))) (by omega)
  ⟨rfl,fun _ c j ar=>by omega⟩ (fun i st an hs=> ?_) (fun st hs=> ?_)
 ·obtain⟨aU,eO⟩:=hs
  subst aU
  refine bg.cond (fun _=> ?_) (fun h=>by simp at h; omega)
  have hS:iJ (ax (ax s.bm k).bx i):=t4 _ (by rw [ey _ an]; exact List.getElem_mem an)
  have Hs:=hS
  obtain⟨q,hq,a8,_⟩:=Hs
  have kU:i < 4:=by omega
  have hd:(decide ((i:Int)≥ (e.bY.length:Int)) || decide ((i:Int)≥4))=false:=by simp; omega
  refine .idx rfl an ?_
  have WS:tu s (ax (ax s.bm k).bx i)=some (eC (ax (ax s.bm k).bx i)):=by
   unfold tu
   rw [a8]
   obtain⟨y,aa,ae⟩:=Cy h hq
   subst ae
   rw [aa,Option.bind_some,show decide ((q:Int) < 0)=false from decide_eq_false (by omega),cond_false,oi (by rw [h.oD]; exact hq),Option.bind_some,(h.pD hq).2,← wN a8]
  simp only [hd,c4,if_true]
  refine .idx rfl (by omega) (.eq WS (.idx rfl kU ((Sg hS (he.pF i an) _).bind fun a7 aD=> .eq rfl (.cond (fun dI=> ?_) fun dI=> ?_))))
  ·refine .ret (.ret fun aV=> ?_)
   simp only [Bool.false_or,Bool.not_eq_true'] at dI
   have a1:=aD (aV i an) (fun j aE=>hp i j an aE)
   rw [dI] at a1
   refine⟨fun h=>(by cases h),fun h=> ?_⟩
   exact a1.2 fun j aE=>h i j an aE
  ·refine .ret ⟨ew (by omega),fun aV c j ar aE=> ?_⟩
   simp only [Bool.false_or,Bool.not_eq_false'] at dI
   by_cases mo:c=i
   ·subst mo
    exact(aD (aV c an) (fun j aE=>hp c j an aE)).1 dI j aE
   ·exact eO aV c j (by omega) aE
 ·obtain⟨aU,eO⟩:=hs
  subst aU
  have ar:decide (((ax s.bm k).bx.length:Int) < ((ax s.bm k).bx.length:Int))=false:=by simp
  rw [ar]
  refine⟨_,rfl,?_⟩
  simp only [Sum.elim_inl]
  exact .ret fun aV=>⟨fun _=>eO aV,fun _=>rfl⟩
theorem SR (c:bt) (ar:gI c):bg (xY c) (fun r=>gI r.2):=by
 unfold xY
 refine bg.loop 4 (fun k st=>st.1=(k:Int)∧gI st.2.2) (by omega) ⟨rfl,ar⟩ (fun k st av an=> ?_) (fun st an=> ?_)
 ·obtain⟨i,p,rV⟩:=st; obtain⟨aA,aU⟩:=an
  simp only at aA aU; subst aA
  refine bg.cond (fun _=> ?_) (fun h=>by simp at h; omega)
  refine .bind (gd _ 256 aU (by omega)) fun al aa=> .eq rfl (.idx rfl av (.bind (gd _ 4 aa.1 (by omega)) fun aN ae=> ?_))
  refine .bind (P:=fun m=>gI m.1) (.cond (fun _=> ?_) fun _=> .ret ae.1) fun bM cG=> .ret ⟨ew (by omega),cG⟩
  exact .idx rfl av (.bind (gd _ 256 ae.1 (by omega)) fun a7 aD=> .eq rfl (.idx rfl av (.eq rfl (.ret aD.1))))
 ·obtain⟨i,p,rV⟩:=st; obtain⟨aA,aU⟩:=an
  simp only at aA aU; subst aA
  refine⟨_,rfl,?_⟩
  exact .ret aU
end Go.Proofs.YtmnggbjcnoffeaaGreat
namespace Go.Proofs.YtmnggbjcnoffeaaGreat
open Go Gv
set_option linter.unusedVariables false
set_option linter.unusedSimpArgs false
set_option maxRecDepth 100000
def lR (a b:ak):Bool:=decide (a.c6 < b.c6) || (a.c6 ==b.c6 && decide (a.bO < b.bO))
theorem C2 {a b:ak} :lR a b=true↔a.c6 < b.c6∨ (a.c6=b.c6∧a.bO < b.bO):=by simp [lR]
theorem vR (a:ak):lR a a=false:=by simp [lR]
theorem CL {a b:ak} (h:lR a b=true):lR b a=false:=by
 rw [Bool.eq_false_iff]
 intro ae
 rw [C2] at h ae
 simp only [BitVec.lt_def,BitVec.toNat_eq] at h ae
 omega
theorem KW (a b:ak):bg (r4 a b) (fun r=>(r < 0↔lR a b=true)∧ (r=0↔a=b)∧ (-1≤r∧r≤1)):=by
 unfold r4
 refine .cond (fun h=> .ret ?_) fun h=> .eq rfl (.cond (fun ae=> .ret ?_) fun ae=> .ret ?_)
 ·simp only [decide_eq_true_eq] at h
  subst h
  simp [vR]
 ·simp only [decide_eq_false_iff_not] at h
  exact⟨⟨fun _=>ae,fun _=>by omega⟩,⟨fun aD=>by omega,fun aD=>absurd aD h⟩,by omega,by omega⟩
 ·simp only [decide_eq_false_iff_not] at h
  have kt:lR a b=false:=ae
  exact⟨⟨fun aD=>by omega,fun aD=>by rw [kt] at aD; cases aD⟩,⟨fun aD=>by omega,fun aD=>absurd aD h⟩,by omega,by omega⟩
end Go.Proofs.YtmnggbjcnoffeaaGreat
namespace Gv
set_option linter.unusedVariables false
structure ta {α:Type} (b:α→α→Bool):Prop where
 asymm:∀ x y,b x y=true→b y x=false
 trans:∀ x y z,b x y=true→b y z=true→b x z=true
def ins {α:Type} (b:α→α→Bool):List α→α→List α
 | [],x=> [x]
 | a :: l,x=>if b a x=true then a :: ins b l x else x :: a :: l
def fu {α:Type} (b:α→α→Bool) (l:List α):List α:=l.foldl (ins b) []
def jt {α:Type} (b:α→α→Bool):List α→α→Nat
 | [],_=>0
 | a :: l,x=>if b a x=true then jt b l x + 1 else 0
def tb {α:Type} (b:α→α→Bool) (x y:α):Prop:=b x y=true∨b y x=true
variable {α:Type} {b:α→α→Bool}
theorem GS:∀ {l:List α} {x:α},jt b l x≤l.length
 | [],_=>Nat.le_refl _
 | a :: l,x=>by
   have:=GS (l:=l) (x:=x)
   unfold jt; split <;> simp <;> omega
theorem M4:∀ (l:List α) (x:α),ins b l x=l.take (jt b l x) ++ x :: l.drop (jt b l x)
 | [],x=>rfl
 | a :: l,x=>by
   unfold ins jt
   split
   ·rw [M4 l x]; rfl
   ·rfl
theorem F2:∀ (l:List α) (x:α),(ins b l x).Perm (x :: l)
 | [],x=>List.Perm.refl _
 | a :: l,x=>by
   unfold ins
   split
   ·exact((F2 l x).cons a).trans (List.Perm.swap x a l)
   ·exact List.Perm.refl _
theorem Ui {l:List α} {x y:α} :y∈ins b l x↔y=x∨y∈l:=by
 rw [(F2 l x).mem_iff]; simp
theorem Mk (l:List α) (x:α):fu b (l ++ [x])=ins b (fu b l) x:=by
 simp [fu,List.foldl_append]
theorem Ml (l:List α):(fu b l).Perm l:=by
 have key:∀ (l m:List α),(l.foldl (ins b) m).Perm (m ++ l):=by
  intro l
  induction l with
  | nil=>intro m; simp
  | cons a l b1=>
    intro m
    refine(b1 (ins b m a)).trans ?_
    refine((F2 m a).append_right l).trans ?_
    exact(List.perm_middle (a:=a) (l₁:=m) (l₂:=l)).symm
 exact key l []
theorem o0 {l:List α} {y:α} :y∈fu b l↔y∈l:=(Ml l).mem_iff
theorem UT {l:List α} :(fu b l).length=l.length:=(Ml l).length_eq
theorem KX (hb:ta b):∀ {l:List α} {x:α},l.Pairwise (fun x y=>b x y=true)→ (∀ a∈l,tb b a x)→ (ins b l x).Pairwise (fun x y=>b x y=true)
 | [],x,_,_=>by simp [ins]
 | a :: l,x,hs,cj=>by
   obtain⟨aa,ae⟩:=List.pairwise_cons.1 hs
   unfold ins
   split
   ·rename_i Bn
    refine List.pairwise_cons.2 ⟨fun c ar=> ?_,KX hb ae fun a bn=>cj a (by simp [bn])⟩
    rcases Ui.1 ar with rfl | ar
    ·exact Bn
    ·exact aa c ar
   ·rename_i Bn
    have Pe:b x a=true:=(cj a (by simp)).resolve_left Bn
    refine List.pairwise_cons.2 ⟨fun c ar=> ?_,hs⟩
    rcases List.mem_cons.1 ar with rfl | ar
    ·exact Pe
    ·exact hb.trans _ _ _ Pe (aa c ar)
def qf (b:α→α→Bool) (l:List α):Prop:=l.Pairwise (tb b)
theorem tb.symm {x y:α} (h:tb b x y):tb b y x:=h.elim .inr .inl
theorem qf.snoc {l:List α} {x:α} (h:qf b (l ++ [x])):qf b l∧ ∀ a∈l,tb b a x:=by
 unfold qf at *
 rw [List.pairwise_append] at h
 exact⟨h.1,fun a bn=>h.2.2 a bn x (by simp)⟩
theorem qf.perm {l m:List α} (h:qf b l) (p:l.Perm m):qf b m:=(p.pairwise_iff fun h=>h.symm).1 h
theorem Tp {P:List α→Prop} (bW:P []) (aa:∀ l x,P l→P (l ++ [x])) (l:List α):P l:=by
 have:∀ r:List α,P r.reverse:=by
  intro r
  induction r with
  | nil=>exact bW
  | cons a r b1=>rw [List.reverse_cons]; exact aa _ _ b1
 have:=this l.reverse
 rwa [List.reverse_reverse] at this
theorem FN (hb:ta b) {l:List α} (h:qf b l):(fu b l).Pairwise (fun x y=>b x y=true):=by
 induction l using Tp with
 | bW=>exact List.Pairwise.nil
 | aa l x b1=>
   obtain⟨aa,ae⟩:=h.snoc
   rw [Mk]
   exact KX hb (b1 aa) fun a bn=>ae a (o0.1 bn)
theorem GU [Inhabited α] (hb:ta b):∀ {l:List α} {x:α} {k:Nat},l.Pairwise (fun x y=>b x y=true)→k < l.length→ (b (ax l k) x=true↔k < jt b l x)
 | [],x,k,_,av=>by simp at av
 | a :: l,x,k,hs,av=>by
   obtain⟨aa,ae⟩:=List.pairwise_cons.1 hs
   unfold jt
   cases k with
   | zero=>
     have:ax (a :: l) 0=a:=rfl
     rw [this]
     split <;> simp_all
   | succ k=>
     have j5:k < l.length:=by simpa using av
     have he:ax (a :: l) (k + 1)=ax l k:=by rw [ey _ av,ey _ j5]; rfl
     rw [he,GU hb ae j5]
     split
     ·omega
     ·rename_i Bn
      constructor
      ·intro cw
       have a1:=(GU hb ae j5).2 cw
       have bo:=aa (ax l k) (by rw [ey _ j5]; exact List.getElem_mem _)
       exact absurd (hb.trans _ _ _ bo a1) Bn
      ·intro h; omega
end Gv
namespace Go.Proofs.YtmnggbjcnoffeaaGreat
open Go Gv
set_option linter.unusedVariables false
set_option linter.unusedSimpArgs false
theorem J7 {xs:List cE} {f:cE→Option Bool} {g:cE→Bool} (a8:∀ x∈xs,f x=some (g x)) (ao:xs.length < 2 ^ 62):
 bg (vi xs f) (fun r=>(r= -1∧ ∀ x∈xs,g x=false)∨ ∃ i:Nat,i < xs.length∧r=i∧g (ax xs i)=true∧ ∀ j,j < i→g (ax xs j)=false):=by
 unfold vi
 refine bg.loop xs.length (fun k s=>s=(k:Int)∧ ∀ j,j < k→g (ax xs j)=false) (by omega) ⟨rfl,fun j aE=>by omega⟩ (fun k s av an=> ?_) (fun s an=> ?_)
 ·obtain⟨aA,aU⟩:=an; subst aA
  refine bg.cond (fun _=> ?_) (fun h=>by simp at h; omega)
  refine .idx rfl av (.eq (a8 _ (by rw [ey xs av]; exact List.getElem_mem av)) (.cond (fun h=> .ret ?_) (fun h=> .ret ⟨ew (by omega),fun j aE=> ?_⟩)))
  ·exact .ret (.inr ⟨k,av,rfl,h,aU⟩)
  ·by_cases js:j=k
   ·subst js; exact h
   ·exact aU j (by omega)
 ·obtain⟨aA,aU⟩:=an; subst aA
  refine⟨_,by simp; rfl,?_⟩
  refine .ret (.inl ⟨rfl,fun x aq=> ?_⟩)
  obtain⟨j,aE,rfl⟩:=List.mem_iff_getElem.1 aq
  rw [← ey xs aE]; exact aU j aE
end Go.Proofs.YtmnggbjcnoffeaaGreat
namespace Go.Proofs.YtmnggbjcnoffeaaGreat
open Go Gv
set_option linter.unusedVariables false
set_option linter.unusedSimpArgs false
set_option maxRecDepth 100000
theorem _root_.Gv.bg.get {β:Type} {m:Option β} {v:β} (h:bg m (fun r=>r=v)):m=some v:=by
 obtain⟨r,aa,rfl⟩:=h; exact aa
theorem Mm (a b:ak):lR a b=true∨a=b∨lR b a=true:=by
 rw [C2,C2]
 rcases a with⟨aa0,dq⟩
 rcases b with⟨aa1,aa2⟩
 simp only [BitVec.lt_def,ak.mk.injEq,← BitVec.toNat_inj]
 omega
theorem UU {a b:ak} (h:a.c6=b.c6) (cZ:a.bO≤b.bO):lR b a=false:=by
 cases aX:lR b a with
 | false=>rfl
 | true=>
   rw [C2] at aX
   rw [h] at aX
   simp only [BitVec.lt_def,BitVec.le_def] at aX cZ
   omega
def ht (kind b:Int) (m:cr) (x:ak):Bool:=
 if m.gM=false then true
 else if kind=1 then decide (x=m.bI)
 else if kind=2 then(List.range 128).all fun j=> !lead b m.eQ j || (bL x j ==bL m.bI j)
 else if kind=3 then decide (sS x m.bQ=m.bI)
 else !lR x m.bI && !lR m.l4 x
theorem Sh {key:cE} (av:iJ key) (m:cr) (x:ak):tv m key.cg (eC key) x=some (ht key.cg (eC key) m x):=by
 have hb:=av.eC
 obtain⟨_,_,_,aZ,fm,_⟩:=av
 refine bg.get ?_
 unfold tv ht
 refine .cond (fun hp=> .ret ?_) fun hp=> ?_
 ·simp only [Bool.not_eq_true'] at hp
  rw [if_pos hp]; simp; omega
 simp only [Bool.not_eq_false'] at hp
 rw [if_neg (by simp [hp])]
 refine .cond (fun aa=> .ret ?_) fun aa=> .cond (fun ae=> ?_) fun ae=> .cond (fun aD=> ?_) fun aD=> ?_
 ·rw [if_pos (by simpa using aa)]
 ·rw [if_neg (by simpa using aa),if_pos (by simpa using ae)]
  refine(CG _ _ (by omega) (by omega)).bind fun al aA=> .eq (and_eq _ _) (.eq (and_eq _ _) (.ret ?_))
  rw [Bool.eq_iff_iff,C1,List.all_eq_true]
  constructor
  ·intro h j aE
   have s6:=List.mem_range.1 aE
   have:=h j s6
   rw [oW,oW,aA j s6] at this
   cases ao:lead (eC key) m.eQ j
   ·rfl
   ·rw [ao] at this; simpa using this
  ·intro h j aE
   have:=h j (List.mem_range.2 aE)
   rw [oW,oW,aA j aE]
   cases ao:lead (eC key) m.eQ j
   ·simp
   ·rw [ao] at this; simpa using this
 ·rw [if_neg (by simpa using aa),if_neg (by simpa using ae),if_pos (by simpa using aD)]
  exact .eq (and_eq _ _) (.ret rfl)
 ·have iZ:key.cg=4:=by simp only [beq_eq_false_iff_ne] at aa ae aD; omega
  rw [if_neg (by simpa using aa),if_neg (by simpa using ae),if_neg (by simpa using aD)]
  refine .cond (fun _=> ?_) fun h=>by rw [iZ] at h; cases h
  refine(KW _ _).bind fun br ⟨dY,eg,jM⟩=> .c4 (P:=fun r=>(r < 0↔lR x m.l4=true)∧ (r=0↔x=m.l4)∧ -1≤r∧r≤1) (fun _=>KW _ _) fun b8 bo=> .ret ?_
  have gZ:decide (br≤0)= !lR x m.bI:=by
   rw [Bool.eq_iff_iff,decide_eq_true_eq,Bool.not_eq_true']
   rcases Mm m.bI x with h | h | h
   ·have:=dY.2 h; rw [CL h]; simp; omega
   ·have:=eg.2 h; rw [h,vR]; simp; omega
   ·rw [h]; simp
    have cX: ¬ br < 0:=fun cC=>by rw [CL h] at dY; simpa using dY.1 cC
    have eP:br≠0:=fun cC=>by rw [eg.1 cC,vR] at h; cases h
    omega
  rw [gZ]
  cases aq:lR x m.bI
  ·rw [gZ,aq] at bo
   obtain⟨eE,fN,hx⟩:=bo rfl
   simp only [Bool.not_false,Bool.true_and]
   rw [Bool.eq_iff_iff,decide_eq_true_eq,Bool.not_eq_true']
   rcases Mm x m.l4 with h | h | h
   ·have:=eE.2 h; rw [CL h]; simp; omega
   ·have:=fN.2 h; rw [h,vR]; simp; omega
   ·rw [h]; simp
    have cX: ¬ b8 < 0:=fun cC=>by rw [CL h] at eE; simpa using eE.1 cC
    have eP:b8≠0:=fun cC=>by rw [fN.1 cC,vR] at h; cases h
    omega
  ·simp
def mt (s:a2) (k:Nat) (p:Vector ak 4) (e:bJ):Bool:=
 (List.range (ax s.bm k).bx.length).all fun i=>ht (ax (ax s.bm k).bx i).cg (eC (ax (ax s.bm k).bx i)) (ax e.bY i) (bD p i)
theorem Si {s:a2} (h:c5 s) {key:cE} (av:iJ key):tu s key=some (eC key):=by
 obtain⟨j,aE,a8,_⟩:=av
 refine bg.get ?_
 unfold tu
 rw [a8]
 refine(Cy h aE).bind fun r aQ=> ?_
 subst aQ
 rw [show decide ((j:Int) < 0)=false from decide_eq_false (by omega),cond_false]
 refine .idx rfl (by have:=h.oD; omega) (.ret ?_)
 rw [(h.pD aE).2,wN a8]
theorem Lg {s:a2} (h:c5 s) {k:Nat} (av:k < 4) {e:bJ} (he:e.dO=(k:Int) + 1):r7 s e=some (ax s.bm k,true):=by
 refine bg.get ?_
 unfold r7
 rw [he]
 refine(yI h av).bind fun r aQ=> ?_
 subst aQ
 rw [show decide ((k:Int) < 0)=false from decide_eq_false (by omega),cond_false]
 exact .idx rfl (by have:=h.kk; omega) (.ret rfl)
theorem M5 {n i:Nat} {f:Nat→Bool} (h:∀ c,c < n→f c=true) (aR:i=n):(List.range i).all f=true:=by
 subst aR; exact List.all_eq_true.2 fun c ar=>h c (List.mem_range.1 ar)
theorem UW {n i:Nat} {f:Nat→Bool} (an:i < n) (h:f i=false):(List.range n).all f=false:=by
 rw [Bool.eq_false_iff]; intro aa
 have:=List.all_eq_true.1 aa i (List.mem_range.2 an)
 rw [h] at this; cases this
theorem KE {s:a2} (h:c5 s) {k:Nat} (av:k < 4) {e:bJ} (he:hR s k e) (p:Vector ak 4):r5 s e p=some (mt s k p e):=by
 obtain⟨t1,⟨t2,t3⟩,t4,_⟩:=h.hL av
 refine bg.get ?_
 unfold r5 mt
 refine .eq (Lg h av he.hL) (.cond (fun h=>by cases h) fun _=> ?_)
 have hm:=he.len
 simp only
 refine bg.loop (ax s.bm k).bx.length (fun i st=>st=(i:Int)∧ ∀ c,c < i→ht (ax (ax s.bm k).bx c).cg (eC (ax (ax s.bm k).bx c)) (ax e.bY c) (bD p c)=true) (by omega) ⟨rfl,fun c ar=>by omega⟩ (fun i st an hs=> ?_) (fun st hs=> ?_)
 ·obtain⟨rfl,hs⟩:=hs
  have mP:iJ (ax (ax s.bm k).bx i):=t4 _ (by rw [ey _ an]; exact List.getElem_mem an)
  refine .cond (fun _=> ?_) (fun h=>by simp at h; omega)
  refine .idx rfl an ?_
  have mT:(decide ((i:Int)≥ (e.bY.length:Int)) || decide ((i:Int)≥4))=false:=by simp; omega
  rw [mT]
  refine .c4 (P:=fun c=>c=i) (fun _=>⟨i,oi (by omega),rfl⟩) fun b0 aU=> .c4 (P:=fun c=>c=eC (ax (ax s.bm k).bx i)) (fun _=>⟨_,Si h mP,rfl⟩) fun aN cL=> .c4 (P:=fun c=>c=i) (fun _=>⟨i,oi (by omega),rfl⟩) fun c1 eO=> ?_
  rw [aU rfl,cL rfl,eO rfl]
  refine .c4 (P:=fun c=>c=ht (ax (ax s.bm k).bx i).cg (eC (ax (ax s.bm k).bx i)) (ax e.bY i) (bD p i)) (fun _=>⟨_,Sh mP _ _,rfl⟩) fun a7 gz=> .eq rfl ?_
  rw [gz rfl,Bool.false_or]
  refine .cond (fun aR=> .ret ?_) fun a6=> .ret ⟨ew (by omega),fun c ar=> ?_⟩
  ·simp only [Sum.elim_inr]
   exact .ret (UW an (by simpa using aR)).symm
  ·by_cases mo:c=i
   ·subst mo; simpa using a6
   ·exact hs c (by omega)
 ·obtain⟨rfl,hs⟩:=hs
  rw [show decide (((ax s.bm k).bx.length:Int) < ((ax s.bm k).bx.length:Int))=false by simp]
  refine⟨_,rfl,?_⟩
  simp only [Sum.elim_inl]
  exact .ret (M5 hs rfl).symm
def rJ:List cE→List cr→Int
 | key :: aP,m :: ms=>if key.cg=2 then m.eQ else rJ aP ms
 | _,_=>0
theorem GV:∀ {aP:List cE} {ms:List cr} {i:Nat},ms.length=aP.length→i < aP.length→ (ax aP i).cg=2→ (∀ j,j < i→ (ax aP j).cg≠2)→rJ aP ms=(ax ms i).eQ
 | [],_,i,_,an,_,_=>by simp at an
 | key :: aP,[],i,ao,_,_,_=>by simp at ao
 | key :: aP,m :: ms,0,_,_,ae,_=>by
   have:(ax (key :: aP) 0)=key:=rfl
   rw [this] at ae
   unfold rJ; rw [if_pos ae]; rfl
 | key :: aP,m :: ms,i + 1,ao,an,ae,aR=>by
   have bW:=aR 0 (by omega)
   have:(ax (key :: aP) 0)=key:=rfl
   rw [this] at bW
   unfold rJ; rw [if_neg bW]
   have bP:∀ {β:Type} [Inhabited β] (x:β) (l:List β) (n:Nat),ax (x :: l) (n + 1)=ax l n:=fun x l n=>by simp [ax]
   rw [bP] at ae ⊢
   exact GV (by simpa using ao) (by simpa using an) ae fun j aE=>by have:=aR (j + 1) (by omega); rwa [bP] at this
theorem M6:∀ {aP:List cE} {ms:List cr},(∀ key∈aP,key.cg≠2)→rJ aP ms=0
 | [],_,_=>by unfold rJ; rfl
 | key :: aP,[],_=>by unfold rJ; rfl
 | key :: aP,m :: ms,aR=>by
   unfold rJ; rw [if_neg (aR key (by simp))]
   exact M6 fun k av=>aR k (by simp [av])
def tj (s:a2) (k:Nat) (e:bJ):Int:=rJ (ax s.bm k).bx e.bY
theorem KY {s:a2} (h:c5 s) {k:Nat} (av:k < 4) {e:bJ} (he:hR s k e):vH s e=some (tj s k e):=by
 obtain⟨t1,⟨t2,t3⟩,t4,_⟩:=h.hL av
 have hm:=he.len
 refine bg.get ?_
 unfold vH tj
 refine .eq (Lg h av he.hL) ?_
 simp only
 refine(J7 (g:=fun key=>key.cg ==2) (fun x aq=>rfl) (by omega)).bind fun r aQ=> .eq rfl ?_
 rcases aQ with⟨rfl,aQ⟩ | ⟨i,aa,rfl,aD,aV⟩
 ·refine .cond (fun _=> .ret ?_) (fun h=>by simp at h)
  rw [M6 fun key hS=>by simpa using aQ key hS]
 ·have dI:(!true || decide ((i:Int) < 0) || decide ((i:Int)≥ (e.bY.length:Int)))=false:=by simp; omega
  rw [dI,cond_false]
  refine .idx rfl (by omega) (.ret ?_)
  rw [GV hm aa (by simpa using aD) fun j aE=>by simpa using aV j aE]
def eF (s:a2) (k:Nat) (a c:aI):Bool:=
 decide (c.b2.hY < a.b2.hY∨ (a.b2.hY=c.b2.hY∧ (tj s k c.b2 < tj s k a.b2∨ (tj s k a.b2=tj s k c.b2∧c.cH < a.cH))))
theorem pW (s:a2) (k:Nat):ta (eF s k) where
 asymm x y h:=by
  unfold eF at *
  rw [decide_eq_true_eq] at h
  rw [decide_eq_false_iff_not]; omega
 trans x y z h cZ:=by
  unfold eF at *
  rw [decide_eq_true_eq] at *
  omega
theorem M7 {s:a2} {k:Nat} {a c:aI} (h:a.cH≠c.cH):tb (eF s k) a c:=by
 unfold tb eF
 rw [decide_eq_true_eq,decide_eq_true_eq]; omega
def JG (x y:Int):Int:=if x < y then -1 else if y < x then 1 else 0
theorem GW (x y:Int):tq x y=some (JG x y):=by
 unfold tq yh JG
 have:∀ z:Int,(z !=z)=false:=fun z=>by simp
 rw [this,this]
 simp only [Option.bind_some,cond_false]
 by_cases aa:x < y
 ·simp [aa]
 ·by_cases ae:y < x
  ·simp [aa,ae]
  ·simp [aa,ae]
theorem Tq (a c d:Int):yy [a,c,d]=some (if a≠0 then a else if c≠0 then c else d):=by
 refine bg.get ?_
 unfold yy
 refine bg.loop 3 (fun i st=>st=(i:Int)∧ ∀ j,j < i→ax [a,c,d] j=0) (by omega) ⟨rfl,fun j aE=>by omega⟩ (fun i st an hs=> ?_) (fun st hs=> ?_)
 ·obtain⟨rfl,hs⟩:=hs
  refine .cond (fun _=> ?_) (fun h=>by simp at h; omega)
  refine .idx rfl (by simpa using an) (.cond (fun ar=> .ret ?_) fun ar=> .ret ⟨ew (by omega),fun j aE=> ?_⟩)
  ·simp only [Sum.elim_inr]
   refine .ret ?_
   have bW:=hs 0
   have aa:=hs 1
   rcases (show i=0∨i=1∨i=2 by omega) with rfl | rfl | rfl
   ·have:a≠0:=by simpa [ax] using ar
    rw [if_pos this]; rfl
   ·have:c≠0:=by simpa [ax] using ar
    have I8:a=0:=by simpa [ax] using bW (by omega)
    rw [if_neg (by simpa using I8),if_pos this]; rfl
   ·have I8:a=0:=by simpa [ax] using bW (by omega)
    have Zv:c=0:=by simpa [ax] using aa (by omega)
    rw [if_neg (by simpa using I8),if_neg (by simpa using Zv)]; rfl
  ·by_cases jL:j=i
   ·subst jL; simpa using ar
   ·exact hs j (by omega)
 ·obtain⟨rfl,hs⟩:=hs
  refine⟨_,rfl,?_⟩
  simp only [Sum.elim_inl]
  refine .ret ?_
  have bW:a=0:=by simpa [ax] using hs 0 (by omega)
  have aa:c=0:=by simpa [ax] using hs 1 (by omega)
  have ae:d=0:=by simpa [ax] using hs 2 (by omega)
  simp [bW,aa,ae]
theorem FO {s:a2} (h:c5 s) {k:Nat} (av:k < 4) {a c:aI} (bn:hR s k a.b2) (ar:hR s k c.b2):tB s a c=some (eF s k a c):=by
 unfold tB eF
 rw [GW,Option.bind_some,KY h av bn,Option.bind_some,KY h av ar,Option.bind_some,GW,Option.bind_some,GW,Option.bind_some,Tq,Option.bind_some]
 congr 1
 rw [decide_eq_decide]
 unfold JG
 split <;> split <;> (repeat' split) <;> omega
end Go.Proofs.YtmnggbjcnoffeaaGreat
namespace Go.Proofs.YtmnggbjcnoffeaaGreat
open Go Gv
set_option linter.unusedVariables false
set_option linter.unusedSimpArgs false
theorem JR {xs:List aI} {f:aI→Option Bool} {g:aI→Bool} (a8:∀ x∈xs,f x=some (g x)) (ao:xs.length < 2 ^ 62):
 bg (vf xs f) (fun r=>(r= -1∧ ∀ x∈xs,g x=false)∨ ∃ i:Nat,i < xs.length∧r=i∧g (ax xs i)=true∧ ∀ j,j < i→g (ax xs j)=false):=by
 unfold vf
 refine bg.loop xs.length (fun k s=>s=(k:Int)∧ ∀ j,j < k→g (ax xs j)=false) (by omega) ⟨rfl,fun j aE=>by omega⟩ (fun k s av an=> ?_) (fun s an=> ?_)
 ·obtain⟨aA,aU⟩:=an; subst aA
  refine bg.cond (fun _=> ?_) (fun h=>by simp at h; omega)
  refine .idx rfl av (.eq (a8 _ (by rw [ey xs av]; exact List.getElem_mem av)) (.cond (fun h=> .ret ?_) (fun h=> .ret ⟨ew (by omega),fun j aE=> ?_⟩)))
  ·exact .ret (.inr ⟨k,av,rfl,h,aU⟩)
  ·by_cases js:j=k
   ·subst js; exact h
   ·exact aU j (by omega)
 ·obtain⟨aA,aU⟩:=an; subst aA
  refine⟨_,by simp; rfl,?_⟩
  refine .ret (.inl ⟨rfl,fun x aq=> ?_⟩)
  obtain⟨j,aE,rfl⟩:=List.mem_iff_getElem.1 aq
  rw [← ey xs aE]; exact aU j aE
end Go.Proofs.YtmnggbjcnoffeaaGreat
namespace Go.Proofs.YtmnggbjcnoffeaaGreat
open Go Gv
set_option linter.unusedVariables false
set_option linter.unusedSimpArgs false
set_option maxRecDepth 100000
structure lg (s:a2) (k:Nat) (i:aI):Prop where
 eN:hR s k i.b2
theorem Uj {i:aI} (aa:i.b2.bY.length≤1000) (ae:i.b2.mz.length≤1000):nC i=some i:=by
 unfold nC Cx BR BS
 rw [iy _ _ (by simp; omega) (by omega),iy _ _ (by simp; omega) (by omega)]
 rfl
theorem zA {s:a2} (h:c5 s) {k:Nat} (av:k < 4) {i:aI} (an:lg s k i):nC i=some i:=by
 have aa:=an.eN.len
 have ae:=an.eN.args
 have aD:=(h.hL av).2.1.2
 exact Uj (by omega) (by omega)
def kl (l:List aI) (n:Int):Bool:=l.any fun c=>c.cH ==n
theorem find_eq (x:cS) (n:Int) (ao:x.cu.length≤1000):bg (xK x n) (fun r=>(r= -1∧kl x.cu n=false)∨ ∃ i:Nat,i < x.cu.length∧r=i∧ (ax x.cu i).cH=n∧kl x.cu n=true∧ ∀ j,j < i→ (ax x.cu j).cH≠n):=by
 unfold xK
 refine(JR (g:=fun c=>c.cH ==n) (fun c ar=>rfl) (by omega)).bind fun r aQ=> .ret ?_
 rcases aQ with⟨aa,ae⟩ | ⟨i,aa,ae,aD,aV⟩
 ·exact .inl ⟨aa,by unfold kl; rw [List.any_eq_false]; exact fun c ar=>by simp [ae c ar]⟩
 ·refine .inr ⟨i,aa,ae,by simpa using aD,?_,fun j aE=>by simpa using aV j aE⟩
  unfold kl; rw [List.any_eq_true]
  exact⟨ax x.cu i,by rw [ey _ aa]; exact List.getElem_mem _,aD⟩
theorem Tr {s:a2} (h:c5 s) {k:Nat} (av:k < 4) {x:cS} (aq:x.nH=s) {a c:aI} (bn:lg s k a) (ar:lg s k c):
 bg (vo x a c) (fun r=>r < 0↔eF s k a c=true):=by
 unfold vo
 rw [aq]
 refine .eq (FO h av bn.eN ar.eN) (.cond (fun hb=> .ret ⟨fun _=>hb,fun _=>by omega⟩) fun hb=> .eq (FO h av ar.eN bn.eN) (.cond (fun _=> .ret ?_) fun _=> .ret ?_))
 ·rw [hb]; simp
 ·rw [hb]; simp
theorem UX {i j:Nat} (h:i + j < 2 ^ 62):bz ((BitVec.ofInt 64 (bz ((i:Int) + (j:Int)))) >>> (1#64).toNat).toNat=(((i + j) / 2:Nat):Int):=by
 rw [show(i:Int) + (j:Int)=((i + j:Nat):Int) by omega,hQ (x:=((i + j:Nat):Int)) (by omega) (by omega)]
 have:((BitVec.ofInt 64 ((i + j:Nat):Int)) >>> (1#64).toNat).toNat=(i + j) / 2:=by
  rw [BitVec.toNat_ushiftRight,nI (by omega)]
  rw [show(1#64).toNat=1 from rfl,Nat.shiftRight_eq_div_pow,Nat.pow_one]
 rw [this,hQ (by omega) (by omega)]
theorem SS {l:List aI} {x:aI} {b:aI→aI→Bool} (hb:ta b) (hs:l.Pairwise (fun x y=>b x y=true)) (ao:l.length≤1000)
 {f:aI→aI→Option Int} (a8:∀ a∈l,bg (f a x) (fun r=>r < 0↔b a x=true)):
 bg (xx l x f) (fun r=>r.1=(jt b l x:Int)):=by
 unfold xx
 have fV:=GS (b:=b) (l:=l) (x:=x)
 have wZ:∀ h,h < l.length→ax l h∈l:=fun h cC=>by rw [ey _ cC]; exact List.getElem_mem _
 have oB:∀ q:Bool,bg ((c4 (decide (((jt b l x:Nat):Int) < (l.length:Int))) true (idx l.length ((jt b l x:Nat):Int))).bind fun b0=>
  (c4 (decide (((jt b l x:Nat):Int) < (l.length:Int))) true (f (ax l b0) x)).bind fun aN=>some (((jt b l x:Nat):Int),(decide (((jt b l x:Nat):Int) < (l.length:Int))) && (aN ==0))) (fun r=>r.1=(jt b l x:Int)):=fun _=>by
  refine .c4 (P:=fun c=>c=jt b l x) (fun h=>⟨_,oi (by simpa using h),rfl⟩) fun b0 ae=> .c4 (P:=fun _=>True) (fun h=> ?_) fun aN _=> .ret rfl
  rw [ae h]
  exact(a8 _ (wZ _ (by simpa using h))).mono fun _ _=>trivial
 refine bg.loop l.length (fun r st=> ∃ i j:Nat,st=((i:Int),(j:Int))∧i≤jt b l x∧jt b l x≤j∧j≤l.length∧j - i≤l.length - r) (by omega) ⟨0,l.length,rfl,by omega,by omega,by omega,by omega⟩ (fun r st aQ kQ=> ?_) (fun st kQ=> ?_)
 ·obtain⟨i,j,rfl,aa,ae,aD,aV⟩:=kQ
  refine .cond (fun ar=> ?_) fun ar=> .ret ?_
  ·have fz:i < j:=by simpa using ar
   rw [UX (by omega)]
   have hm:(i + j) / 2 < l.length:=by omega
   refine .idx rfl hm ((a8 _ (wZ _ hm)).bind fun al bs=> ?_)
   have cw:=GU hb (x:=x) hs hm
   refine .bind (P:=fun m=> ∃ i j:Nat,m=((i:Int),(j:Int))∧i≤jt b l x∧jt b l x≤j∧j≤l.length∧j - i≤l.length - (r + 1)) (.cond (fun a6=> .eq rfl (.ret ?_)) fun a6=> .ret ?_) fun m hm=> .ret ?_
   ·have:=cw.1 (bs.1 (by simpa using a6))
    refine⟨(i + j) / 2 + 1,j,?_,by omega,ae,aD,by omega⟩
    simp only [ew (show(i + j) / 2 < 2 ^ 62 by omega)]
   ·have: ¬ (i + j) / 2 < jt b l x:=fun cC=>by
     have:=bs.2 (cw.2 cC)
     simp at a6; omega
    exact⟨i,(i + j) / 2,rfl,aa,by omega,by omega,by omega⟩
   ·obtain⟨rW,Pv,rfl,a1⟩:=hm
    exact⟨rW,Pv,rfl,a1⟩
  ·have fz: ¬ i < j:=by simpa using ar
   have:i=jt b l x:=by omega
   subst this
   exact oB true
 ·obtain⟨i,j,rfl,aa,ae,aD,aV⟩:=kQ
  have fz:i=jt b l x:=by omega
  have ar:decide ((i:Int) < (j:Int))=false:=by simp; omega
  simp only [ar,cond_false]
  refine⟨_,rfl,?_⟩
  subst fz
  exact oB true
structure h3 (s:a2) (k:Nat) (l:List aI):Prop where
 ok:∀ i∈l,lg s k i
 num:l.Pairwise fun a c=>a.cH≠c.cH
 len:l.length≤900
theorem h3.xi {s:a2} {k:Nat} {l:List aI} (h:h3 s k l):qf (eF s k) l:=h.num.imp fun cC=>M7 cC
theorem h3.fu {s:a2} {k:Nat} {l:List aI} (h:h3 s k l):(∀ i∈fu (eF s k) l,lg s k i)∧ (fu (eF s k) l).length≤900:=
 ⟨fun i an=>h.ok i (o0.1 an),by rw [UT]; exact h.len⟩
theorem Mn {s:a2} {k:Nat} {l:List aI} {n:Int} :kl (fu (eF s k) l) n=kl l n:=by
 unfold kl
 rw [Bool.eq_iff_iff,List.any_eq_true,List.any_eq_true]
 exact⟨fun⟨c,aa,ae⟩=>⟨c,o0.1 aa,ae⟩,fun⟨c,aa,ae⟩=>⟨c,o0.2 aa,ae⟩⟩
theorem Uk {l:List aI} {n:Int} (h:kl l n=false):∀ c∈l,c.cH≠n:=fun c ar=>by
 unfold kl at h
 rw [List.any_eq_false] at h
 simpa using h c ar
theorem h3.snoc {s:a2} {k:Nat} {l:List aI} (h:h3 s k l) {i:aI} (an:lg s k i) (aR:kl l i.cH=false) (ao:l.length < 900):h3 s k (l ++ [i]) where
 ok c ar:=by
  rcases List.mem_append.1 ar with ar | ar
  ·exact h.ok c ar
  ·rw [List.mem_singleton.1 ar]; exact an
 num:=by
  rw [List.pairwise_append]
  exact⟨h.num,by simp,fun a bn c ar=>by rw [List.mem_singleton.1 ar]; exact Uk aR a bn⟩
 len:=by simp; omega
def o6 (s:a2) (k:Nat) (l:List aI):cS:= { nH:=s,cu:=fu (eF s k) l }
theorem UY {s:a2} (h:c5 s) {k:Nat} (av:k < 4) {l:List aI} (ao:h3 s k l) {i:aI} (an:lg s k i) (hlen:l.length < 900):
 xJ (o6 s k l) i=some (!kl l i.cH,if kl l i.cH=true then o6 s k l else o6 s k (l ++ [i])):=by
 refine bg.get ?_
 unfold xJ
 obtain⟨mV,iG⟩:=ao.fu
 refine .c4 (fun _=>find_eq (o6 s k l) _ (by show(fu _ l).length≤1000; omega)) fun al aa=> ?_
 have aa:=aa rfl
 rw [Bool.false_or]
 rcases aa with⟨rfl,ae⟩ | ⟨j,ae,rfl,aD,aV,a1⟩
 ·have kt:kl l i.cH=false:=by rw [← ae]; exact Mn.symm
  refine .cond (fun ar=>by simp at ar) fun _=> ?_
  refine(SS (b:=eF s k) (pW s k) (FN (pW s k) ao.xi) (by omega) fun a bn=>Tr h av rfl (mV a bn) an).bind fun aN ck=> .eq (zA h av an) ?_
  rw [ck]
  unfold BP
  have fV:=GS (b:=eF s k) (l:=fu (eF s k) l) (x:=i)
  refine .eq (a:=fu (eF s k) (l ++ [i])) ?_ (.ret ?_)
  ·show Au 88 (fu (eF s k) l) _ _=_
   unfold Au
   have po:maxLen=9223372036854775807:=rfl
   rw [if_pos ⟨by omega,by omega,by simp,by simp <;> omega,by simp <;> omega⟩,Mk,M4]
   simp
  ·rw [kt]; rfl
 ·have u4:kl l i.cH=true:=by rw [← aV]; exact Mn.symm
  refine .cond (fun _=> .ret ?_) fun ar=>by simp at ar <;> omega
  rw [u4]; rfl
theorem SU {s:a2} (h:c5 s) {k:Nat} (av:k < 4) {l:List aI} (ao:h3 s k l) (p:Vector ak 4):
 vj (o6 s k l) p=some (match (fu (eF s k) l).find? (fun c=>mt s k p c.b2) with | some c=>(c,true) | none=>(default,false)):=by
 refine bg.get ?_
 obtain⟨mV,iG⟩:=ao.fu
 unfold vj
 refine .eq (a:=p) rfl ?_
 unfold xz
 have IS:∀ i (an:i < (fu (eF s k) l).length),r5 s (ax (fu (eF s k) l) i).b2 p=some (mt s k p (ax (fu (eF s k) l) i).b2)∧nC (ax (fu (eF s k) l) i)=some (ax (fu (eF s k) l) i):=fun i an=>by
  have hm:=mV (ax (fu (eF s k) l) i) (by rw [ey _ an]; exact List.getElem_mem _)
  exact⟨KE h av hm.eN p,zA h av hm⟩
 show bg ((Option.bind (Option.bind (ei eo _ _) _) _)) _
 rw [Option.bind_assoc]
 refine bg.loop (fu (eF s k) l).length (fun i st=>st=((i:Int),())∧ ∀ j,j < i→mt s k p (ax (fu (eF s k) l) j).b2=false) (by omega) ⟨rfl,fun j aE=>by omega⟩ (fun i st an hs=> ?_) (fun st hs=> ?_)
 ·obtain⟨rfl,hs⟩:=hs
  obtain⟨az,a5⟩:=IS i an
  refine .cond (fun _=> ?_) (fun ar=>by simp [o6] at ar; omega)
  refine .idx rfl an (.eq az (.cond (fun hm=> .eq (a:=(Sum.inr (true,ax (fu (eF s k) l) i):Unit ⊕ (Bool × aI))) (by show Option.bind (nC (ax (fu (eF s k) l) i)) _=_; rw [a5]; rfl) (.ret ?_)) fun hm=> .ret ⟨?_,fun j aE=> ?_⟩))
  ·refine .ret ?_
   rw [Me (xs:=fu (eF s k) l) (p:=fun c=>mt s k p c.b2) an hm hs]
  ·rw [ew (by omega)]
  ·by_cases jL:j=i
   ·subst jL; exact hm
   ·exact hs j (by omega)
 ·obtain⟨rfl,hs⟩:=hs
  have ar:decide (((fu (eF s k) l).length:Int) < ((o6 s k l).cu.length:Int))=false:=by simp [o6]
  simp only [ar,cond_false]
  refine⟨_,rfl,.ret ?_⟩
  rw [Mf fun c ar=> ?_]
  obtain⟨j,aE,rfl⟩:=List.mem_iff_getElem.1 ar
  rw [← ey _ aE]; exact hs j aE
theorem Sj {s:a2} (h:c5 s) {k:Nat} (av:k < 4) {l:List aI} (ao:∀ i∈l,lg s k i) (aR:l.length≤1000):vK l=some l:=by
 refine bg.get ?_
 unfold vK
 refine bg.loop l.length (fun i st=>st=((i:Int),l.take i)) (by omega) rfl (fun i st an hs=> ?_) (fun st hs=> ?_)
 ·subst hs
  refine .cond (fun _=> ?_) (fun ar=>by simp at ar; omega)
  refine .idx rfl an (.eq (zA h av (ao _ (by rw [ey _ an]; exact List.getElem_mem _))) (.eq (iy _ _ (by simp; omega) (by omega)) (.ret ?_)))
  rw [ew (by omega),r6 l an]
 ·subst hs
  refine⟨_,by simp; rfl,.ret ?_⟩
  simp
theorem UZ {s:a2} (h:c5 s) {k:Nat} (av:k < 4) {l:List aI} (ao:h3 s k l):xI (o6 s k l)=some (fu (eF s k) l):=by
 unfold xI
 obtain⟨mV,iG⟩:=ao.fu
 show Option.bind (vK (fu (eF s k) l)) _=_
 rw [Sj h av mV (by omega)]; rfl
theorem lg.small {s:a2} (h:c5 s) {k:Nat} (av:k < 4) {i:aI} (an:lg s k i):i.b2.bY.length≤1000∧i.b2.mz.length≤1000:=by
 have aa:=an.eN.len
 have ae:=an.eN.args
 have aD:=(h.hL av).2.1.2
 exact⟨by omega,by omega⟩
def xj (o:Option aI):aI × Bool:=match o with | some c=>(c,true) | none=>(default,false)
theorem Sk {s:a2} (h:c5 s) {k:Nat} (av:k < 4) {l:List aI} (ao:h3 s k l) (p:Vector ak 4):
 vj (o6 s k l) p=some (xj ((fu (eF s k) l).find? (fun c=>mt s k p c.b2))):=by
 rw [SU h av ao]; unfold xj; cases List.find? (fun c=>mt s k p c.b2) (fu (eF s k) l) <;> rfl
theorem Ts (c:bt):bg (xP c) (fun _=>True):=by
 unfold xP
 first | exact .ret trivial | exact .eq rfl (.ret trivial)
end Go.Proofs.YtmnggbjcnoffeaaGreat
namespace Go.Proofs.YtmnggbjcnoffeaaGreat
open Go Gv
set_option linter.unusedVariables false
set_option linter.unusedSimpArgs false
set_option maxRecDepth 100000
structure kH (hp:a9 Cell) (t:Nat) (g:List Bool→Option Int):Prop where
 ok:∃ c,gE hp t=some c∧c.eR=32∧pV hp c.db∧ ∀ bC,cont hp c.db bC=g bC
def Own (hp:a9 Cell) (t q:Nat):Prop:=q=t∨ ∃ c bC,gE hp t=some c∧dH hp c.db bC=some q
def eL (v:ak) (n:Nat):List Bool:=(List.range n).map fun i=>bL v (31 - i)
theorem Fy (v:ak) (n:Nat):eL v (n + 1)=eL v n ++ [bL v (31 - n)]:=by simp [eL,List.range_succ]
theorem Fz (v:ak):eL v 0= []:=rfl
theorem Lh {hp:a9 Cell} {t:Nat} {c:ga} (ar:gE hp t=some c) (hb:c.eR=32) {n:Nat} (aR:n≤32) {v:ak} (aX:∀ j,j < 128→bL v j=true→lead 32 n j=true):
 vu hp (some t) v n=some true:=by
 refine bg.get ?_
 unfold vu
 have aA:(Option.isSome (some t) && decide ((n:Int)≥0))=true:=by simp
 have aU:decide ((n:Int)≤c.eR)=true:=by rw [hb]; simp; omega
 refine .c4 (P:=fun r=>r=t) (fun _=>⟨t,rfl,rfl⟩) fun dg aa=> ?_
 rw [aa aA]
 refine .c4 (P:=fun r=>r=c) (fun _=>⟨c,ar,rfl⟩) fun cF ae=> ?_
 rw [ae aA]
 rw [aA,aU]
 refine .c4 (P:=fun r=>r=t) (fun _=>⟨t,rfl,rfl⟩) fun cK aD=> ?_
 rw [aD rfl]
 refine .c4 (P:=fun r=>r=c) (fun _=>⟨c,ar,rfl⟩) fun da aV=> ?_
 rw [aV rfl,hb]
 refine .c4 (fun _=>CG 32 n (by decide) (by decide)) fun al a1=> ?_
 refine .c4 (P:=fun r=>r=sS v al) (fun _=>⟨_,and_eq v al,rfl⟩) fun aN bo=> ?_
 refine .eq rfl (.ret ?_)
 have:aN=v:=by
  rw [bo rfl]
  refine uc fun j aE=> ?_
  rw [oW,a1 rfl j aE]
  cases e:bL v j with
  | false=>rfl
  | true=>rw [aX j aE e]; rfl
 rw [this]; simp
theorem M8 {v:ak} {i:Nat} (an:i < 32):bg (qL v (bz ((bz ((32:Int) - 1)) - (i:Int)))) (fun r=>r=bL v (31 - i)):=by
 have e:bz ((bz ((32:Int) - 1)) - (i:Int))=((31 - i:Nat):Int):=by
  rw [show bz ((32:Int) - 1)=31 from by rw [hQ (by decide) (by decide)]; rfl,hQ (by omega) (by omega)]; omega
 rw [e]
 refine(GR v _).mono fun r aQ=> ?_
 rw [aQ]
 have:decide (0≤ ((31 - i:Nat):Int)∧ ((31 - i:Nat):Int) < 128)=true:=by rw [decide_eq_true_eq]; omega
 rw [this,Bool.true_and]; rfl
theorem M9 (b:Bool):(cond b (some (1:Int)) (some 0))=some ((h5 b:Nat):Int):=by cases b <;> rfl
theorem N4 {σ ε:Type} {hp:a9 Cell} {t:Nat} {c:ga} (ar:gE hp t=some c) (hb:c.eR=32) (v:ak) {n:Nat} (aR:n≤32) {step:Int→σ→Option (σ ⊕ ε)} {cd:σ} {P:σ ⊕ ε→Prop} (fB:Nat→σ→Prop) (bW:fB 0 cd)
 (hs:∀ i s,i < n→fB i s→bg (step ((h5 (bL v (31 - i)):Nat):Int) s) (fun r=>match r with | .inl ca=>fB (i + 1) ca | .inr e=>P (.inr e))) (he:∀ s,fB n s→P (.inl s)):bg (qC hp n v (some t) step cd) P:=by
 unfold qC
 refine bg.loop n (fun i s=>s.1=(i:Int)∧fB i s.2) (by omega) ⟨rfl,bW⟩ (fun i s an fr=> ?_) (fun s fr=> ?_)
 ·obtain⟨j,s⟩:=s; obtain⟨aA,aU⟩:=fr
  simp only at aA aU; subst aA
  refine bg.cond (fun _=> ?_) (fun h=>by simp at h; omega)
  refine .eq rfl (.eq ar ?_)
  rw [hb]
  refine(M8 (by omega)).bind fun al aa=> .eq (M9 al) ?_
  rw [aa]
  refine(hs i s an aU).bind fun r aQ=> ?_
  cases r with
  | inl ca=>exact .ret ⟨ew (by omega),aQ⟩
  | inr e=>exact .ret (.ret aQ)
 ·obtain⟨j,s⟩:=s; obtain⟨aA,aU⟩:=fr
  simp only at aA aU; subst aA
  refine⟨_,by simp; rfl,?_⟩
  exact .ret (he s aU)
theorem WT {σ ε:Type} {t:Nat} (v:ak) {n:Nat} (aR:n≤32) {hq:σ→a9 Cell} {step:Int→σ→aM (σ ⊕ ε)} {cd:σ} {P:σ ⊕ ε→Prop} (fB:Nat→σ→Prop) (bW:fB 0 cd) (kA:∀ i s,fB i s→ ∃ c,gE (hq s) t=some c∧c.eR=32)
 (hs:∀ i s,i < n→fB i s→ev (step ((h5 (bL v (31 - i)):Nat):Int) s) (fun r=>match r with | .inl ca=>fB (i + 1) ca | .inr e=>P (.inr e))) (he:∀ s,fB n s→P (.inl s)):ev (tm n v (some t) hq step cd) P:=by
 unfold tm
 refine .bind (P:=fun e=>match e with | .inl e=>P (.inl e.2.2) | .inr e=>P (.inr e.2.2.2.2.2.2)) (ev.loop n (fun i s=>s.1=(i:Int)∧fB i s.2) (by omega) ⟨rfl,bW⟩ (fun i s an fr=> ?_) (fun s fr=> ?_)) fun e h=> ?_
 ·obtain⟨j,s⟩:=s; obtain⟨aA,aU⟩:=fr
  simp only at aA aU; subst aA
  refine ev.cond (fun _=> ?_) (fun h=>by simp at h; omega)
  obtain⟨c,ar,hb⟩:=kA i s aU
  refine .eq rfl (.eq ar ?_)
  rw [hb]
  refine .pC (M8 (by omega)) fun al aa=> .eq (M9 al) ?_
  rw [aa]
  refine .bind (hs i s an aU) fun r aQ=> ?_
  cases r with
  | inl ca=>exact .ret ⟨ew (by omega),aQ⟩
  | inr e=>exact .ret aQ
 ·obtain⟨j,s⟩:=s; obtain⟨aA,aU⟩:=fr
  simp only at aA aU; subst aA
  refine ev.cond (fun h=>by simp at h) fun _=> .ret (he s aU)
 ·cases e with
  | inl e=>exact .ret h
  | inr e=>exact .ret h
theorem LK {hp:a9 Cell} {t:Nat} {c:ga} (ar:gE hp t=some c) (hb:c.eR=32) (cj:pV hp c.db) {n:Nat} (aR:n≤32) {v:ak} (aX:∀ j,j < 128→bL v j=true→lead 32 n j=true):
 vA hp (some t) v n=some (dH hp c.db (eL v n)):=by
 refine bg.get ?_
 unfold vA
 refine .eq (Lh ar hb aR aX) (.cond (fun h=>by cases h) fun _=> .eq rfl (.eq ar (.eq rfl ?_)))
 show bg (Option.bind (qC hp (n:Int) v (some t) _ _) _) _
 refine bg.bind (P:=fun e:Ref ⊕ (Ref × Ref)=>e.elim (fun s=>s=dH hp c.db (eL v n)) (fun q=>q.2=dH hp c.db (eL v n))) (N4 ar hb v aR (fun i s=>s=dH hp c.db (eL v i)) pQ.symm (fun i s an hs=> ?_) (fun s hs=>hs)) fun e he=> ?_
 ·refine .cond (fun h=> .ret ?_) fun h=> ?_
  ·rw [Option.isNone_iff_eq_none] at h
   have aA:eL v n=eL v i ++ (eL v n).drop i:=by
    have:eL v i=(eL v n).take i:=by unfold eL; rw [← List.map_take,List.take_range]; congr 2; omega
    rw [this,List.take_append_drop]
   show(none:Ref)=_
   rw [aA,oj,← hs,h,iz]
  ·cases s with
   | none=>simp at h
   | some p=>
     obtain⟨cF,aa⟩:=cj.reads _ _ hs.symm
     refine .eq rfl (.idx rfl (by cases bL v (31 - i) <;> decide) (.eq aa (.ret ?_)))
     show bD cF.eK _=_
     rw [Fy,oj,← hs,kg aa,pQ]
 ·cases e with
  | inl s=>exact .ret he
  | inr q=>exact .ret he
theorem U0 {hp:a9 Cell} {t:Nat} {g:List Bool→Option Int} (h:kH hp t g) {n:Nat} (aR:n≤32) {v:ak} (aX:∀ j,j < 128→bL v j=true→lead 32 n j=true):
 vD hp (some t) v n=some (match g (eL v n) with | none=>(0,false) | some id=>(id,true)):=by
 obtain⟨c,ar,hb,cj,bP⟩:=h.ok
 refine bg.get ?_
 unfold vD
 refine .eq (LK ar hb cj aR aX) ?_
 rw [← bP]
 cases e:dH hp c.db (eL v n) with
 | none=>
   rw [nJ e]
   refine .c4 (P:=fun _=>True) (fun h=>by cases h) fun o _=> .c4 (P:=fun _=>True) (fun h=>by cases h) fun o _=> .cond (fun _=> .ret rfl) fun h=>by cases h
 | some p=>
   obtain⟨d,hd⟩:=cj.reads _ _ e
   rw [m9 e hd]
   refine .c4 (P:=fun r=>r=p) (fun _=>⟨p,rfl,rfl⟩) fun o aa=> ?_
   rw [aa rfl]
   refine .c4 (P:=fun r=>r=d) (fun _=>⟨d,hd,rfl⟩) fun cF ae=> ?_
   rw [ae rfl]
   refine .cond (fun h=> ?_) fun h=> ?_
   ·have:d.fp=false:=by simpa using h
    rw [this]; exact .ret rfl
   ·have:d.fp=true:=by simpa using h
    rw [this]; exact .eq rfl (.eq hd (.ret rfl))
end Go.Proofs.YtmnggbjcnoffeaaGreat
namespace Go.Proofs.YtmnggbjcnoffeaaGreat
open Go Gv
set_option linter.unusedVariables false
set_option linter.unusedSimpArgs false
set_option maxRecDepth 100000
structure D4 (nu hp:a9 Cell) (t:Nat) (g:List Bool→Option Int) (r:Nat):Prop where
 cell:∃ c,gE hp t=some c∧c.eR=32∧c.db=some r
 tree:pV hp (some r)
 cont:∀ bC,cont hp (some r) bC=g bC
 keeps:gS nu hp (Own nu t)
 own:∀ bC q,dH hp (some r) bC=some q→Own nu t q∨q ∉ eA nu
theorem yS {hp:a9 Cell} {a t:Nat} {k:Cell} (bn:a ∉ eA hp) (h:pat hp t=some k):a≠t:=fun e=>bn (e ▸ lr h)
theorem LL {hp:a9 Cell} {a:Nat} {x:eJ} :dx ((a,.hl x) :: hp) a=some x:=by rw [qO,si,if_pos rfl]
theorem Sl {hp:a9 Cell} {a:Nat} (bn:a ∉ eA hp):dx hp a=none:=by unfold dx; rw [Tj bn]
theorem F3 {hp:a9 Cell} {p:Nat} {k:Cell} {x:eJ} (h:pat hp p=some k):dx (dW hp p (.hl x)) p=some x:=by rw [qO,wo h]
theorem tF {hp:a9 Cell} {p q:Nat} {k:Cell} (h:p≠q):dx (dW hp p k) q=dx hp q:=yG (se h)
theorem KF {hp:a9 Cell} {a q:Nat} {k:Cell} (h:a≠q):dx ((a,k) :: hp) q=dx hp q:=yG (by rw [si,if_neg h])
theorem Tt {hp:a9 Cell} {p:Nat} {k:Cell} {x:ga} (h:pat hp p=some k):gE (dW hp p (.j0 x)) p=some x:=by rw [sf,wo h]
theorem Fs {hp:a9 Cell} {p q:Nat} {k:Cell} (h:p≠q):gE (dW hp p k) q=gE hp q:=Fq (se h)
theorem KG {hp:a9 Cell} {a q:Nat} {k:Cell} (h:a≠q):gE ((a,k) :: hp) q=gE hp q:=Fq (by rw [si,if_neg h])
theorem N5 {hp:a9 Cell} {p t:Nat} {x:eJ} {c:ga} (aa:dx hp p=some x) (ae:gE hp t=some c):p≠t:=fun e=>by
 subst e
 rw [qO] at aa; rw [sf,aa] at ae; cases ae
theorem U1 {hp:a9 Cell} {t:Nat} {g:List Bool→Option Int} {c:ga} (ar:gE hp t=some c) (hb:c.eR=32) (cj:pV hp c.db) (bP:∀ bC,cont hp c.db bC=g bC):
 ev (cond c.db.isNone (
     aM.bind (aM.mk hp (Cell.hl (default:eJ))) fun eg=>
     aM.bind (aM.of (gE eg.2 t)) fun Bw=>
     aM.bind (aM.of (some (dW eg.2 t (Cell.j0 ({ Bw with db:=(some eg.1:Ref) } :ga))))) fun AO=>
     aM.ret AO) (aM.ret hp)) (fun dV=> ∃ r,D4 hp dV t g r):=by
 have ku:=sf.1 ar
 refine .cond (fun h=> .mk fun a bn=> ?_) fun h=> ?_
 ·have aQ:c.db=none:=by rw [Option.isNone_iff_eq_none] at h; exact h
  have Pf:=yS bn ku
  have Ee:gE ((a,Cell.hl default) :: hp) t=some c:=by rw [KG Pf]; exact ar
  refine .eq Ee (.eq rfl (.ret ⟨a,?_⟩))
  have aR:dx (dW ((a,Cell.hl default) :: hp) t (.j0 { c with db:=some a })) a=some default:=by
   rw [tF Pf.symm,LL]
  have a8:=Lf aR
  refine⟨⟨_,Tt (sf.1 Ee),hb,rfl⟩,⟨fun bC p aa=> ?_,fun bC cs p aa ae=> ?_,fun bC p aa=> ?_⟩,fun bC=> ?_,?_,fun bC q aa=> ?_⟩
  ·rw [a8] at aa
   split at aa
   ·cases aa; exact⟨_,aR⟩
   ·cases aa
  ·rw [a8] at aa ae
   split at aa <;> split at ae
   ·rename_i aA aU; rw [aA,aU]
   ·cases ae
   ·cases aa
   ·cases aa
  ·rw [a8] at aa
   split at aa
   ·rename_i e; rw [e]; exact Nat.zero_le _
   ·cases aa
  ·rw [← bP,aQ,nJ iz]
   by_cases e:bC= []
   ·rw [m9 (by rw [a8,if_pos e]) aR]; rfl
   ·rw [nJ (by rw [a8,if_neg e])]
  ·exact(gS.mk' bn).trans (own':=fun q=>q=t) (gS.up (own:=fun q=>q=t) rfl) fun q _ aa=> .inl aa
  ·rw [a8] at aa
   split at aa
   ·cases aa; exact .inr bn
   ·cases aa
 ·cases aQ:c.db with
  | none=>rw [aQ] at h; cases h
  | some r=>
    rw [aQ] at cj bP
    exact .ret ⟨r,⟨c,ar,hb,aQ⟩,cj,bP,.refl,fun bC q aa=> .inl (.inr ⟨c,bC,ar,by rw [aQ]; exact aa⟩)⟩
theorem WU {hp:a9 Cell} {t:Nat} {g:List Bool→Option Int} (h:kH hp t g) {n:Nat} (aR:n≤32) {v:ak} (aX:∀ j,j < 128→bL v j=true→lead 32 n j=true) (id:Int) (gK:g (eL v n)=none):
 ev (vC hp (some t) v n id) (fun r=>r.1=true∧kH r.2 t (fun bC=>if bC=eL v n then some id else g bC)∧gS hp r.2 (Own hp t)∧ ∀ q,Own r.2 t q→Own hp t q∨q ∉ eA hp):=by
 obtain⟨c,ar,hb,cj,bP⟩:=h.ok
 unfold vC
 refine .eq (Lh ar hb aR aX) (.cond (fun h=>by cases h) fun _=> .eq (LK ar hb cj aR aX) ?_)
 refine .c4 (P:=fun o=>dH hp c.db (eL v n)=some o) (fun aa=> ?_) fun dg aa=> ?_
 ·cases e:dH hp c.db (eL v n) with
  | none=>rw [e] at aa; cases aa
  | some p=>exact⟨p,rfl,rfl⟩
 refine .c4 (P:=fun d=>dx hp dg=some d) (fun ae=> ?_) fun cF ae=> ?_
 ·obtain⟨d,hd⟩:=cj.reads _ _ (aa ae)
  exact⟨d,hd,hd⟩
 refine .cond (fun aD=> ?_) fun _=> ?_
 ·simp only [Bool.and_eq_true] at aD
  rw [← bP,m9 (aa aD.1) (ae aD.1),aD.2] at gK
  cases gK
 refine .eq rfl (.eq ar (.bind (U1 ar hb cj bP) fun bM cG=> ?_))
 obtain⟨r,cG⟩:=cG
 obtain⟨ft,lM,Bo,Zw⟩:=cG.cell
 refine .eq lM (.eq rfl ?_)
 show ev (aM.bind (tm (n:Int) v (some t) _ _ _) _) _
 refine .bind (P:=fun e:(Ref × a9 Cell) ⊕ Empty=> ∃ p e9,e= .inl (some p,e9)∧dH e9 (some r) (eL v n)=some p∧D4 hp e9 t g r) (WT v aR (fun i s=> ∃ p,s.1=some p∧dH s.2 (some r) (eL v i)=some p∧D4 hp s.2 t g r) ⟨r,Zw,pQ,cG⟩ (fun i s an=> ?_) (fun i s an hs=> ?_) (fun s hs=> ?_)) fun e he=> ?_
 ·obtain⟨p,_,_,hm⟩:=an
  obtain⟨d,aV,a1,_⟩:=hm.cell
  exact⟨d,aV,a1⟩
 ·obtain⟨Zx,e9⟩:=s
  obtain⟨p,aA,aU,hm⟩:=hs
  simp only at aA aU hm
  subst aA
  obtain⟨d,hd⟩:=hm.tree.reads _ _ aU
  have cw:h5 (bL v (31 - i)) < 2:=by cases bL v (31 - i) <;> decide
  refine .eq rfl (.idx rfl cw (.eq hd ?_))
  refine .bind (P:=fun iE=> ∃ q JH,dx iE p=some JH∧bD JH.eK (h5 (bL v (31 - i)))=some q∧dH iE (some r) (eL v i)=some p∧D4 hp iE t g r) (.cond (fun bo=> .mk fun a bn=> ?_) fun bo=> .ret ?_) fun iE cX=> ?_
  ·have xk:bD d.eK (h5 (bL v (31 - i)))=none:=by rw [Option.isNone_iff_eq_none] at bo; exact bo
   have Pg:=yS bn (qO.1 hd)
   have j4:dx ((a,Cell.hl default) :: e9) p=some d:=by rw [KF Pg]; exact hd
   refine .idx rfl cw (.eq j4 (.eq rfl (.ret ?_)))
   have fV:dx (dW ((a,Cell.hl default) :: e9) p (.hl { d with eK:=cW d.eK (h5 (bL v (31 - i))) (some a) })) a=some default:=by
    rw [tF Pg.symm,LL]
   have dZ:dx (dW ((a,Cell.hl default) :: e9) p (.hl { d with eK:=cW d.eK (h5 (bL v (31 - i))) (some a) })) p=some { d with eK:=cW d.eK (h5 (bL v (31 - i))) (some a) } :=F3 (qO.1 j4)
   obtain⟨az,a5,bu⟩:=grow (by unfold eL; simp; omega) hm.tree aU hd xk (Sl bn) dZ fV fun q pB oJ=>by rw [tF pB.symm,KF oJ.symm]
   have AF:Own hp t p∨p ∉ eA hp:=hm.own _ _ aU
   refine⟨a,_,dZ,by rw [gD _ _ cw,if_pos rfl],by rw [a5,if_neg (fun e=>by have:=congrArg List.length e; simp at this)]; exact aU,?_,az,fun bC=>by rw [bu,hm.cont],?_,fun bC q hq=> ?_⟩
   ·obtain⟨d4,aV,a1,eP⟩:=hm.cell
    have ku:=N5 hd aV
    exact⟨d4,by rw [Fs ku,KG (yS bn (sf.1 aV))]; exact aV,a1,eP⟩
   ·refine hm.keeps.trans (own':=fun q=>q=p) ((gS.mk' bn).trans (own':=fun q=>q=p) (gS.up (own:=fun q=>q=p) rfl) fun q _ fO=>fO) fun q hq fO=> ?_
    subst fO
    exact AF.resolve_right fun jK=>jK hq
   ·rw [a5] at hq
    split at hq
    ·cases hq; exact .inr fun fO=>bn (hm.keeps.keys _ fO)
    ·exact hm.own _ _ hq
  ·cases xk:bD d.eK (h5 (bL v (31 - i))) with
   | none=>rw [xk] at bo; cases bo
   | some q=>exact⟨q,d,hd,xk,aU,hm⟩
  ·obtain⟨q,JH,eP,fO,jK,oM⟩:=cX
   refine .idx rfl cw (.eq eP (.ret ⟨q,fO,?_,oM⟩))
   show dH iE (some r) (eL v (i + 1))=some q
   rw [Fy,oj,jK,kg eP,fO,pQ]
 ·obtain⟨Zx,e9⟩:=s
  obtain⟨p,aA,aU,hm⟩:=hs
  simp only at aA aU hm
  subst aA
  exact⟨p,e9,rfl,aU,hm⟩
 ·obtain⟨p,e9,rfl,aU,hm⟩:=he
  obtain⟨d,hd⟩:=hm.tree.reads _ _ aU
  have Zy:=qO.1 hd
  refine .eq rfl (.eq hd (.eq rfl (.eq rfl ?_)))
  have j4:dx (dW e9 p (.hl { d with fp:=true })) p=some { d with fp:=true } :=F3 Zy
  refine .eq j4 (.eq rfl (.ret ?_))
  have n3:dx (dW (dW e9 p (.hl { d with fp:=true })) p (.hl { d with fp:=true,j1:=id })) p=some { d with fp:=true,j1:=id } :=F3 (qO.1 j4)
  obtain⟨s1,s2⟩:=Ym hm.tree aU hd n3 rfl fun q hq=>by rw [tF hq.symm,tF hq.symm]
  obtain⟨d4,aV,a1,eP⟩:=hm.cell
  have ku:=N5 hd aV
  have u4:gE (dW (dW e9 p (.hl { d with fp:=true })) p (.hl { d with fp:=true,j1:=id })) t=some d4:=by rw [Fs ku,Fs ku]; exact aV
  have AF:Own hp t p∨p ∉ eA hp:=hm.own _ _ aU
  refine⟨rfl,⟨d4,u4,a1,by rw [eP]; exact s1,fun bC=> ?_⟩,?_,fun q hq=> ?_⟩
  ·rw [eP,s2,hm.cont]; rfl
  ·refine hm.keeps.trans (own':=fun q=>q=p) ((gS.up (own:=fun q=>q=p) rfl).trans (own':=fun q=>q=p) (gS.up (own:=fun q=>q=p) rfl) fun q _ fO=>fO) fun q hq fO=> ?_
   subst fO
   exact AF.resolve_right fun jK=>jK hq
  ·rcases hq with rfl | ⟨jP,bC,aa,ae⟩
   ·exact .inl (.inl rfl)
   ·rw [u4] at aa; cases aa
    rw [eP,CP hd n3 rfl (fun q hq=>by rw [tF hq.symm,tF hq.symm])] at ae
    exact hm.own _ _ ae
end Go.Proofs.YtmnggbjcnoffeaaGreat
namespace Go.Proofs.YtmnggbjcnoffeaaGreat
open Go Gv
set_option linter.unusedVariables false
set_option linter.unusedSimpArgs false
set_option maxRecDepth 100000
theorem le_toNat {x:BitVec 64} {k:Nat} (av:k < 2 ^ 64):decide (x≥BitVec.ofNat 64 k)=decide (k≤x.toNat):=by
 rw [decide_eq_decide,ge_iff_le,BitVec.le_def,BitVec.toNat_ofNat,Nat.mod_eq_of_lt av]
theorem SV (x:BitVec 64) (h:x.toNat < 2 ^ 32):bg (vw x) (fun r=>r≤32):=by
 unfold vw
 refine .bind (P:=fun m=>m=(x,0)) (.cond (fun ar=> ?_) fun _=> .ret rfl) fun bM aa=> ?_
 ·rw [le_toNat (by decide)] at ar; simp at ar; omega
 subst aa
 refine .bind (P:=fun m=>m.1.toNat < 65536∧0≤m.2∧m.2≤16) (.cond (fun ar=> .ret ⟨?_,?_⟩) fun ar=> .ret ⟨?_,Int.le_refl 0,by show(0:Int)≤16; decide⟩) fun cI ae=> ?_
 ·rw [BitVec.toNat_ushiftRight,show(16#64).toNat=16 from rfl,Nat.shiftRight_eq_div_pow]; simp only; omega
 ·rw [show bz ((0:Int) + 16)=16 from by rw [hQ (by decide) (by decide)]; rfl]; exact⟨by show(0:Int)≤16; decide,Int.le_refl 16⟩
 ·rw [le_toNat (by decide)] at ar; simp at ar; exact ar
 refine .bind (P:=fun m=>m.1.toNat < 256∧0≤m.2∧m.2≤24) (.cond (fun ar=> .ret ⟨?_,?_⟩) fun ar=> .ret ⟨?_,ae.2.1,by have:=ae.2.2; simp only; omega⟩) fun fb aD=> ?_
 ·rw [BitVec.toNat_ushiftRight,show(8#64).toNat=8 from rfl,Nat.shiftRight_eq_div_pow]; have:=ae.1; omega
 ·have:=ae.2; rw [hQ (by omega) (by omega)]; constructor <;> omega
 ·rw [le_toNat (by decide)] at ar; simp at ar; exact ar
 obtain⟨aD,aV,a1⟩:=aD
 have key:∀ k:Fin 256,∃ y,Av (ByteArray.mk (List.toArray (List.append (List.append [0,1,2,2,3,3,3,3,4,4,4,4,4,4,4,4,5,5,5,5,5,5,5,5,5,5,5,5,5,5,5,5,6,6,6,6,6,6,6,6,6,6,6,6,6,6,6,6,6,6,6,6,6,6,6,6,6,6,6,6,6,6,6,6] [7,7,7,7,7,7,7,7,7,7,7,7,7,7,7,7,7,7,7,7,7,7,7,7,7,7,7,7,7,7,7,7,7,7,7,7,7,7,7,7,7,7,7,7,7,7,7,7,7,7,7,7,7,7,7,7,7,7,7,7,7,7,7,7]) (List.append [8,8,8,8,8,8,8,8,8,8,8,8,8,8,8,8,8,8,8,8,8,8,8,8,8,8,8,8,8,8,8,8,8,8,8,8,8,8,8,8,8,8,8,8,8,8,8,8,8,8,8,8,8,8,8,8,8,8,8,8,8,8,8,8] [8,8,8,8,8,8,8,8,8,8,8,8,8,8,8,8,8,8,8,8,8,8,8,8,8,8,8,8,8,8,8,8,8,8,8,8,8,8,8,8,8,8,8,8,8,8,8,8,8,8,8,8,8,8,8,8,8,8,8,8,8,8,8,8])))) ((k.1:Nat):Int)=some y∧y.toNat≤8:=by
  intro k
  have aa:(match Av (ByteArray.mk (List.toArray (List.append (List.append [0,1,2,2,3,3,3,3,4,4,4,4,4,4,4,4,5,5,5,5,5,5,5,5,5,5,5,5,5,5,5,5,6,6,6,6,6,6,6,6,6,6,6,6,6,6,6,6,6,6,6,6,6,6,6,6,6,6,6,6,6,6,6,6] [7,7,7,7,7,7,7,7,7,7,7,7,7,7,7,7,7,7,7,7,7,7,7,7,7,7,7,7,7,7,7,7,7,7,7,7,7,7,7,7,7,7,7,7,7,7,7,7,7,7,7,7,7,7,7,7,7,7,7,7,7,7,7,7]) (List.append [8,8,8,8,8,8,8,8,8,8,8,8,8,8,8,8,8,8,8,8,8,8,8,8,8,8,8,8,8,8,8,8,8,8,8,8,8,8,8,8,8,8,8,8,8,8,8,8,8,8,8,8,8,8,8,8,8,8,8,8,8,8,8,8] [8,8,8,8,8,8,8,8,8,8,8,8,8,8,8,8,8,8,8,8,8,8,8,8,8,8,8,8,8,8,8,8,8,8,8,8,8,8,8,8,8,8,8,8,8,8,8,8,8,8,8,8,8,8,8,8,8,8,8,8,8,8,8,8])))) ((k.1:Nat):Int) with | some y=>decide (y.toNat≤8) | none=>false)=true:=by
   revert k; decide +kernel
  split at aa
  ·rename_i y e; exact⟨y,e,by simpa using aa⟩
  ·cases aa
 obtain⟨y,aA,aU⟩:=key ⟨(fb.1.setWidth 8).toNat,(fb.1.setWidth 8).isLt⟩
 refine .eq aA (.ret ?_)
 rw [hQ (by omega) (by omega)]; omega
def Small (v:ak):Prop:= ∀ j,j < 128→bL v j=true→j < 32
theorem Ul {v:ak} (h:Small v):yz v 32=some true:=by
 refine bg.get ?_
 have er:v.c6=0#64:=by
  apply BitVec.eq_of_getLsbD_eq
  intro i an
  have aa:=h (64 + i) (by omega)
  unfold bL at aa
  rw [if_neg (by omega),show 64 + i - 64=i by omega] at aa
  rw [BitVec.getLsbD_zero]
  cases e:v.c6.getLsbD i with
  | false=>rfl
  | true=>have:=aa e; omega
 have hC:v.bO.toNat < 2 ^ 32:=by
  refine Nat.lt_pow_two_of_testBit _ fun i an=> ?_
  cases e:v.bO.toNat.testBit i with
  | false=>rfl
  | true=>
    have cw:i < 64:=by
     rcases Nat.lt_or_ge i 64 with aa | aa
     ·exact aa
     ·rw [Nat.testBit_lt_two_pow (Nat.lt_of_lt_of_le v.bO.isLt (Nat.pow_le_pow_right (by decide) aa))] at e; cases e
    have:=h i (by omega) (by unfold bL; rw [if_pos cw,BitVec.getLsbD,e])
    omega
 unfold yz Cu
 rw [er]
 refine .bind (P:=fun r=>r≤32) (.cond (fun ar=>by simp at ar) fun _=>(SV _ hC).bind fun y a6=> .ret a6) fun y a6=> .ret ?_
 rw [decide_eq_true a6]
def iU (g:List Bool→Option Int) (v:ak):Nat→Option (Nat × Int)
 | 0=>(g []).map fun id=>(0,id)
 | k + 1=>match g (eL v (k + 1)) with
   | some id=>some (k + 1,id)
   | none=>iU g v k
def enc:Option (Nat × Int)→Int × Int × Bool
 | none=>(0,0,false)
 | some (n,id)=>((n:Int),id,true)
theorem LM {hp:a9 Cell} {root:Ref} (cj:pV hp root) (bC:List Bool) (d:Nat) (o:Option (Nat × Int)):
 tk hp (dH hp root bC) d (enc o).1 (enc o).2.1 (enc o).2.2=some (enc (match cont hp root bC with | some id=>some (d,id) | none=>o)):=by
 refine bg.get ?_
 unfold tk
 cases e:dH hp root bC with
 | none=>
   rw [nJ e]
   refine .c4 (P:=fun _=>True) (fun h=>by cases h) fun o _=> .c4 (P:=fun _=>True) (fun h=>by cases h) fun o _=> .eq rfl (.ret rfl)
 | some p=>
   obtain⟨c,ar⟩:=cj.reads _ _ e
   rw [m9 e ar]
   refine .c4 (P:=fun r=>r=p) (fun _=>⟨p,rfl,rfl⟩) fun dg aa=> ?_
   rw [aa rfl]
   refine .c4 (P:=fun r=>r=c) (fun _=>⟨c,ar,rfl⟩) fun cF ae=> ?_
   rw [ae rfl]
   cases hu:c.fp with
   | true=>exact .eq (a:=((d:Int),c.j1,true)) (by simp [ar]) (.ret rfl)
   | false=>exact .eq rfl (.ret rfl)
theorem Sm {hp:a9 Cell} {t:Nat} {g:List Bool→Option Int} (h:kH hp t g) {v:ak} (aX:Small v):x3 hp (some t) v=some (enc (iU g v 32)):=by
 obtain⟨c,ar,hb,cj,bP⟩:=h.ok
 refine bg.get ?_
 unfold x3
 refine .c4 (P:=fun r=>r=t) (fun _=>⟨t,rfl,rfl⟩) fun dg aa=> ?_
 rw [aa rfl]
 refine .c4 (P:=fun r=>r=c) (fun _=>⟨c,ar,rfl⟩) fun cF ae=> ?_
 rw [ae rfl,hb]
 refine .c4 (P:=fun r=>r=true) (fun _=>⟨true,Ul aX,rfl⟩) fun al aD=> ?_
 rw [aD rfl]
 refine .cond (fun ar=>by cases ar) fun _=> .eq rfl (.eq ar ?_)
 have v0:tk hp c.db 0 0 0 false=some (enc (iU g v 0)):=by
  have:=LM cj [] 0 none
  rw [pQ,bP] at this
  refine this.trans ?_
  unfold iU
  cases g [] <;> rfl
 rw [hb]
 refine .eq v0 (.eq rfl ?_)
 show bg (Option.bind (qC hp ((32:Nat):Int) v (some t) _ _) _) _
 refine bg.bind (P:=fun e:(Ref × Int × Int × Int × Bool) ⊕ (Ref × Int × Int × Int × Bool)=>e.elim (fun s=>s.2.2=enc (iU g v 32)) (fun q=>q.2.2=enc (iU g v 32)))
  (N4 ar hb v (Nat.le_refl 32) (fun i s=>s=(dH hp c.db (eL v i),(i:Int),enc (iU g v i))) (by rw [Fz,pQ]; rfl) (fun i s an hs=> ?_) (fun s hs=>by rw [hs]; rfl)) fun e he=> ?_
 ·subst hs
  refine .cond (fun h=> .ret ?_) fun h=> ?_
  ·have aR:dH hp c.db (eL v i)=none:=by
    simp only [Option.isNone_iff_eq_none] at h; exact h
   have key:∀ k,iU g v (i + k)=iU g v i:=fun k=>by
    induction k with
    | zero=>rfl
    | succ k b1=>
      have aA:eL v (i + k + 1)=eL v i ++ (eL v (i + k + 1)).drop i:=by
       have:eL v i=(eL v (i + k + 1)).take i:=by unfold eL; rw [← List.map_take,List.take_range]; congr 2; omega
       rw [this,List.take_append_drop]
      have:g (eL v (i + k + 1))=none:=by
       rw [← bP,nJ]
       rw [aA,oj,aR,iz]
      show(match g (eL v (i + k + 1)) with | some id=>some (i + k + 1,id) | none=>iU g v (i + k))=_
      rw [this]; exact b1
   show enc (iU g v i)=enc (iU g v 32)
   have:=key (32 - i)
   rw [show i + (32 - i)=32 by omega] at this
   rw [this]
  ·cases e:dH hp c.db (eL v i) with
   | none=>simp [e] at h
   | some p=>
     obtain⟨d,hd⟩:=cj.reads _ _ e
     refine .eq rfl (.idx rfl (by cases bL v (31 - i) <;> decide) (.eq hd ?_))
     have xk:bD d.eK (h5 (bL v (31 - i)))=dH hp c.db (eL v (i + 1)):=by rw [Fy,oj,e,kg hd,pQ]
     have hw:bz ((i:Int) + 1)=((i + 1:Nat):Int):=ew (by omega)
     simp only [xk,hw]
     refine .eq (LM cj (eL v (i + 1)) (i + 1) (iU g v i)) (.ret ?_)
     rw [bP]
     rfl
 ·cases e with
  | inl s=>exact .ret he
  | inr q=>exact .ret he
end Go.Proofs.YtmnggbjcnoffeaaGreat
namespace Go.Proofs.YtmnggbjcnoffeaaGreat
open Go Gv
set_option linter.unusedVariables false
set_option linter.unusedSimpArgs false
set_option maxRecDepth 100000
theorem c5.Ez {s:a2} (h:c5 s):∃ eE fN hx,∀ k,k < 4→ni (ax s.bm k)=ax (rr eE fN hx) k:=by
 obtain⟨eE,fN,hx,e⟩:=h.tables
 refine⟨eE,fN,hx,fun k av=> ?_⟩
 rw [← e,y0 ni (by rw [h.kk]; exact av)]
theorem tI (t:bV) {r:Int × Int} (aP:List cE) (av:t.bx=aP) (h:vF { (default:bV) with bx:=aP } =some r):vF t=some r:=by
 subst av
 exact h
def oc (k:Nat):Int:=ax [1,2,3,3] k
theorem SW {s:a2} (h:c5 s) {k:Nat} (av:k < 4):bg (vF (ax s.bm k)) (fun r=>r.1=oc k∧ (k=1→r.2=0)):=by
 obtain⟨eE,fN,hx,e⟩:=h.Ez
 have e:=e k av
 have g5:(ax s.bm k).bx=(ax (rr eE fN hx) k).2.2:=congrArg (·.2.2) e
 have:k=0∨k=1∨k=2∨k=3:=by omega
 rcases this with rfl | rfl | rfl | rfl
 ·exact⟨_,tI _ [oQ] g5 rfl,rfl,fun h=>by simp at h⟩
 ·cases eE
  ·exact⟨_,tI _ [vc] g5 rfl,rfl,fun _=>rfl⟩
  ·exact⟨_,tI _ [vc,EJ] g5 rfl,rfl,fun _=>rfl⟩
 ·cases fN
  ·exact⟨_,tI _ [BJ,Bj] g5 rfl,rfl,fun h=>by simp at h⟩
  ·exact⟨_,tI _ [BJ,Bj,JE] g5 rfl,rfl,fun h=>by simp at h⟩
 ·cases hx
  ·exact⟨_,tI _ [BK] g5 rfl,rfl,fun h=>by simp at h⟩
  ·exact⟨_,tI _ [BK,JF,vc] g5 rfl,rfl,fun h=>by simp at h⟩
structure w4 (s:a2) (k:Nat) (nu hp:a9 Cell) (p:Nat):Prop where
 cell:∃ c m,iI hp p=some c∧c.qZ=oc k∧c.oq=((ax s.bm k).bx.length:Int)∧c.lZ=⟨some m⟩∧nd hp m=some []∧
  (k=0→ ∃ q cI,c.jg= .mE ⟨some q⟩∧nV hp q=some ⟨⟨some cI⟩⟩∧mC hp cI=some []∧q ∉ eA nu∧cI ∉ eA nu)∧
  (k=1→ ∃ fb,c.jg= .mF ⟨0,32,⟨some fb⟩⟩∧jX hp fb=some []∧fb ∉ eA nu)∧
  (2≤k→ ∃ q key cap,c.jg= .mG ⟨some q⟩∧nW hp q=some (({ nH:=s,cu:= [] } :cS),key,cap)∧q ∉ eA nu)∧
  p ∉ eA nu∧m ∉ eA nu∧ (∀ q,q∈eA nu→q∈eA hp)∧ ∀ q,q∈eA nu→pat hp q=pat nu q
theorem WV {s:a2} (h:c5 s) {k:Nat} (av:k < 4) (hp:a9 Cell):ev (vP hp s ((k:Int) + 1)) (fun r=> ∃ p,r.1=some p∧w4 s k hp r.2 p):=by
 unfold vP
 refine .pC (yI h av) fun al aA=> ?_
 subst aA
 refine .cond (fun ar=>by simp at ar; omega) fun _=> ?_
 refine .idx rfl (by rw [h.kk]; exact av) (.pC (SW h av) fun aN ae=> .mk fun m hm=> .eq rfl (.mk fun p dV=> ?_))
 obtain⟨Z3,key⟩:=aN
 obtain⟨ae,aD⟩:=ae
 simp only at ae aD dV
 subst ae
 have nr:p≠m:=fun e=>by subst e; simp [eA] at dV
 have:k=0∨k=1∨2≤k:=by omega
 rcases this with rfl | rfl | de
 ·have e:(oc 0 ==1)=true:=rfl
  simp only [e,cond_true]
  unfold Cs
  refine .bind (P:=fun e9=>w4 s 0 hp e9 p) (.bind (P:=fun r=> ∃ q cI,r=((some q:Ref),(q,Cell.wO ⟨⟨some cI⟩⟩) :: (cI,Cell.o7 []) :: (p,_) :: (m,Cell.ma []) :: hp)∧cI ∉ eA ((p,_) :: (m,Cell.ma []) :: hp)∧q ∉ eA ((cI,Cell.o7 []) :: (p,_) :: (m,Cell.ma []) :: hp)) (.mk fun cI dJ=> .mk fun q hq=> .ret ⟨q,cI,rfl,dJ,hq⟩) fun a7 aV=> ?_) fun e9 a1=> .ret ⟨p,rfl,a1⟩
  obtain⟨q,cI,rfl,dJ,hq⟩:=aV
  simp only [eA,List.map_cons,List.mem_cons,not_or] at dJ hq dV
  refine .eq (by simp [iI,pat,hq.1,hq.2,dJ.1,hq.2.2.1,Ne.symm]; rfl) (.eq rfl (.ret ?_))
  refine⟨{ qZ:=oc 0,oq:=((ax s.bm 0).bx.length:Int),jg:= .mE ⟨some q⟩,lZ:=⟨some m⟩ },m,?_,rfl,rfl,rfl,?_,?_,fun ar=>by simp at ar,fun ar=>by simp at ar,dV.2,hm,fun x aq=>by rw [tS]; exact List.mem_cons_of_mem _ (List.mem_cons_of_mem _ (List.mem_cons_of_mem _ (List.mem_cons_of_mem _ aq))),fun x aq=> ?_⟩
  ·simp [iI,pat,dW,hq.1,hq.2,dJ.1,hq.2.2.1]
  ·simp [nd,pat,dW,hq.1,hq.2,dJ.1,hq.2.2.1,dJ.2.1,dV.1]
  ·intro _
   refine⟨q,cI,rfl,?_,?_,hq.2.2.2,dJ.2.2⟩
   ·simp [nV,pat,dW,hq.1,hq.2,dJ.1,hq.2.2.1,dJ.2.1,dV.1]
   ·simp [mC,pat,dW,hq.1,hq.2,dJ.1,hq.2.2.1,dJ.2.1,dV.1]
  ·have vd:q≠x:=fun e=>hq.2.2.2 (by rw [e]; exact aq)
   have JI:cI≠x:=fun e=>dJ.2.2 (by rw [e]; exact aq)
   have BL:p≠x:=fun e=>dV.2 (by rw [e]; exact aq)
   have BM:m≠x:=fun e=>hm (by rw [e]; exact aq)
   simp [zb,pat,vd,JI,BL,BM]
 ·have e:(oc 1 ==1)=false:=rfl
  have aU:(oc 1 ==2)=true:=rfl
  simp only [e,aU,cond_true,cond_false]
  have aD:=aD rfl
  subst aD
  obtain⟨t1,⟨t2,t3⟩,t4,_⟩:=h.hL av
  have a8:(ax (ax s.bm 1).bx 0).gr=((6:Nat):Int) + 1:=by
   obtain⟨eE,fN,hx,e⟩:=h.Ez
   have e:=congrArg (·.2.2) (e 1 av)
   show(ax (ni (ax s.bm 1)).2.2 0).gr=_
   rw [e]
   cases eE <;> rfl
  refine .bind (P:=fun e9=>w4 s 1 hp e9 p) (.bind (P:=fun e9=>w4 s 1 hp e9 p) ?_ fun _ bo=> .ret bo) fun e9 a1=> .ret ⟨p,rfl,a1⟩
  refine .idx (k:=0) rfl (by omega) ?_
  simp only [a8]
  refine .pC (Cy h (show 6 < 9 by decide)) fun bR eO=> ?_
  subst eO
  refine .pC (P:=fun r=>r=32) (.cond (fun _=> .idx rfl (by rw [h.oD]; decide) (.ret (h.pD (show 6 < 9 by decide)).2)) (fun ar=>by simp at ar)) fun b hb=> ?_
  subst hb
  refine .mk fun fb gx=> ?_
  simp only [eA,List.map_cons,List.mem_cons,not_or] at gx dV
  refine .eq rfl (.eq (by simp [iI,pat,gx.1]; rfl) (.eq rfl (.ret ?_)))
  refine⟨{ qZ:=oc 1,oq:=((ax s.bm 1).bx.length:Int),jg:= .mF ⟨0,32,⟨some fb⟩⟩,lZ:=⟨some m⟩ },m,?_,rfl,rfl,rfl,?_,fun ar=>by simp at ar,?_,fun ar=>by simp at ar,dV.2,hm,fun x aq=>by rw [tS]; exact List.mem_cons_of_mem _ (List.mem_cons_of_mem _ (List.mem_cons_of_mem _ aq)),fun x aq=> ?_⟩
  ·simp [iI,pat,dW,gx.1]
  ·simp [nd,pat,dW,gx.1,gx.2.1,dV.1]
  ·intro _
   refine⟨fb,rfl,?_,gx.2.2⟩
   simp [jX,pat,dW,gx.1,gx.2.1,dV.1]
  ·have vd:fb≠x:=fun e=>gx.2.2 (by rw [e]; exact aq)
   have BL:p≠x:=fun e=>dV.2 (by rw [e]; exact aq)
   have BM:m≠x:=fun e=>hm (by rw [e]; exact aq)
   simp [zb,pat,vd,BL,BM]
 ·have e:(oc k ==1)=false:=by
   have:k=2∨k=3:=by omega
   rcases this with rfl | rfl <;> rfl
  have aU:(oc k ==2)=false:=by
   have:k=2∨k=3:=by omega
   rcases this with rfl | rfl <;> rfl
  simp only [e,aU,cond_true,cond_false]
  refine .bind (P:=fun e9=>w4 s k hp e9 p) (.bind (P:=fun e9=>w4 s k hp e9 p) ?_ fun _ bo=> .ret bo) fun e9 a1=> .ret ⟨p,rfl,a1⟩
  refine .eq rfl (.any fun fs=> .mk fun q hq=> ?_)
  simp only [eA,List.map_cons,List.mem_cons,not_or] at hq dV
  refine .eq (by simp [iI,pat,hq.1]; rfl) (.eq rfl (.ret ?_))
  refine⟨{ qZ:=oc k,oq:=((ax s.bm k).bx.length:Int),jg:= .mG ⟨some q⟩,lZ:=⟨some m⟩ },m,?_,rfl,rfl,rfl,?_,fun ar=>by omega,fun ar=>by omega,fun _=>⟨q,fs.1,fs.2,rfl,?_,hq.2.2⟩,dV.2,hm,fun x aq=>by rw [tS]; exact List.mem_cons_of_mem _ (List.mem_cons_of_mem _ (List.mem_cons_of_mem _ aq)),fun x aq=> ?_⟩
  ·simp [iI,pat,dW,hq.1]
  ·simp [nd,pat,dW,hq.1,hq.2.1,dV.1]
  ·simp [nW,pat,dW,hq.1]
  ·have vd:q≠x:=fun e=>hq.2.2 (by rw [e]; exact aq)
   have BL:p≠x:=fun e=>dV.2 (by rw [e]; exact aq)
   have BM:m≠x:=fun e=>hm (by rw [e]; exact aq)
   simp [zb,pat,vd,BL,BM]
end Go.Proofs.YtmnggbjcnoffeaaGreat
namespace Go.Proofs.YtmnggbjcnoffeaaGreat
open Go Gv
set_option linter.unusedVariables false
set_option linter.unusedSimpArgs false
set_option maxRecDepth 100000
theorem LN {α:Type} {b:α→α→Bool} (hb:ta b) {q:α→Bool} :∀ {l:List α} {c:α},l.Pairwise (fun x y=>b x y=true)→c∈l→q c=true→ (∀ d∈l,q d=true→d=c∨b c d=true)→l.find? q=some c
 | [],c,_,ar,_,_=>by cases ar
 | a :: l,c,hs,ar,hq,hd=>by
   obtain⟨aa,ae⟩:=List.pairwise_cons.1 hs
   by_cases oL:q a=true
   ·rw [List.find?_cons_of_pos oL]
    rcases hd a (by simp) oL with h | h
    ·rw [h]
    ·rcases List.mem_cons.1 ar with aD | aD
     ·rw [aD]
     ·have:=hb.asymm _ _ (aa c aD)
      rw [this] at h; cases h
   ·rw [List.find?_cons_of_neg oL]
    rcases List.mem_cons.1 ar with aD | aD
    ·rw [aD] at hq; exact absurd hq oL
    ·exact LN hb ae aD hq fun d hd' Zz=>hd d (by simp [hd']) Zz
theorem C3 {α:Type} {b:α→α→Bool} (hb:ta b) {q:α→Bool} {l:List α} {c:α} (h:qf b l) (ar:c∈l) (hq:q c=true) (hd:∀ d∈l,q d=true→d=c∨b c d=true):(fu b l).find? q=some c:=
 LN hb (FN hb h) (o0.2 ar) hq fun d hd'=>hd d (o0.1 hd')
theorem Mo {α:Type} {b:α→α→Bool} {q:α→Bool} {l:List α} (hd:∀ d∈l,q d=false):(fu b l).find? q=none:=by
 rw [List.find?_eq_none]
 intro x aq
 rw [hd x (o0.1 aq)]; simp
theorem h3.uniq {s:a2} {k:Nat} :∀ {l:List aI},h3 s k l→ ∀ {a c:aI},a∈l→c∈l→a.cH=c.cH→a=c:=fun {l} h {a c} bn ar e=>by
 have aR:=h.num
 clear h
 induction l with
 | nil=>cases bn
 | cons x l b1=>
   obtain⟨aa,ae⟩:=List.pairwise_cons.1 aR
   rcases List.mem_cons.1 bn with az | az <;> rcases List.mem_cons.1 ar with a5 | a5
   ·rw [az,a5]
   ·rw [az] at e; exact absurd e (aa c a5)
   ·rw [a5] at e; exact absurd e.symm (aa a az)
   ·exact b1 az a5 ae
theorem c5.N6 {s:a2} (h:c5 s):(ax s.bm 0).bx= [oQ]:=by
 obtain⟨eE,fN,hx,e⟩:=h.Ez
 exact congrArg (·.2.2) (e 0 (by decide))
theorem c5.Aa {s:a2} (h:c5 s):∃ b,(ax s.bm 1).bx=l8 b:=by
 obtain⟨eE,fN,hx,e⟩:=h.Ez
 exact⟨eE,congrArg (·.2.2) (e 1 (by decide))⟩
def hy (s:a2) (k:Nat):Nat:=(ax s.bm k).bx.length
theorem Mp {α:Type} [Inhabited α] {n:Nat} {f:Fin n→α} {j:Nat} (h:j < n):bD (Vector.ofFn f) j=f ⟨j,h⟩:=by unfold bD; simp [h]
def gn (e:bJ):Vector ak 4:=Vector.ofFn fun i=>if i.1 < e.bY.length then(ax e.bY i.1).bI else default
def kc (n:Nat) (p:Vector ak 4):Vector ak 4:=Vector.ofFn fun i=>if i.1 < n then bD p i.1 else default
def ih (p:Vector ak 4):Vector ak 4:=cW p 0 default
theorem k3 {e:bJ} {j:Nat} (h:j < 4):bD (gn e) j=if j < e.bY.length then(ax e.bY j).bI else default:=Mp h
theorem mx {n:Nat} {p:Vector ak 4} {j:Nat} (h:j < 4):bD (kc n p) j=if j < n then bD p j else default:=Mp h
theorem C4 {p:Vector ak 4} {j:Nat} :bD (ih p) j=if j=0 then default else bD p j:=by unfold ih; rw [gD _ _ (by decide)]
theorem AG {v w:Vector ak 4} :v=w↔bD v 0=bD w 0∧bD v 1=bD w 1∧bD v 2=bD w 2∧bD v 3=bD w 3:=by
 refine⟨fun h=>by rw [h]; exact⟨rfl,rfl,rfl,rfl⟩,fun⟨bW,aa,ae,aD⟩=>yZ fun j aE=> ?_⟩
 rcases (show j=0∨j=1∨j=2∨j=3 by omega) with rfl | rfl | rfl | rfl <;> assumption
theorem Gt {s:a2} (h:c5 s) {e:bJ} (he:hR s 0 e) (p:Vector ak 4):mt s 0 p e=true↔kc (hy s 0) p=gn e:=by
 have ao:=he.len
 have hm:=he.pF 0
 unfold mt hy
 rw [h.N6] at ao hm ⊢
 have hm:=(hm (by decide)).Ew rfl
 have hm:(ax e.bY 0).gM=true:=hm
 have aA:e.bY.length=1:=ao
 have jN:((List.range [oQ].length).all fun i=>ht (ax [oQ] i).cg (eC (ax [oQ] i)) (ax e.bY i) (bD p i))=decide (bD p 0=(ax e.bY 0).bI):=by
  show(ht 1 (eC oQ) (ax e.bY 0) (bD p 0) && true)=_
  unfold ht
  rw [hm]; simp
 rw [jN,decide_eq_true_eq,AG]
 simp only [mx (show 0 < 4 by decide),mx (show 1 < 4 by decide),mx (show 2 < 4 by decide),mx (show 3 < 4 by decide),k3 (show 0 < 4 by decide),k3 (show 1 < 4 by decide),k3 (show 2 < 4 by decide),k3 (show 3 < 4 by decide),aA]
 simp
theorem WW {s:a2} (h:c5 s) {l:List aI} (ao:h3 s 0 l) (p:Vector ak 4) {o:Option Int} (bp:∀ n,o=some n↔ ∃ i∈l,gn i.b2=kc (hy s 0) p∧i.cH=n):
 (∀ n,o=some n→ ∃ i∈l,i.cH=n∧ (fu (eF s 0) l).find? (fun c=>mt s 0 p c.b2)=some i)∧ (o=none→ (fu (eF s 0) l).find? (fun c=>mt s 0 p c.b2)=none):=by
 constructor
 rotate_left
 ·intro aR
  subst aR
  refine Mo fun d hd=> ?_
  rw [Bool.eq_false_iff]
  intro hm
  have:=(bp d.cH).2 ⟨d,hd,((Gt h (ao.ok d hd).eN p).1 hm).symm,rfl⟩
  cases this
 ·intro n aR
  subst aR
  obtain⟨i,an,aa,ae⟩:=(bp n).1 rfl
  refine⟨i,an,ae,C3 (pW s 0) ao.xi an ((Gt h (ao.ok i an).eN p).2 aa.symm) fun d hd hm=> .inl ?_⟩
  have aD:=(bp d.cH).2 ⟨d,hd,((Gt h (ao.ok d hd).eN p).1 hm).symm,rfl⟩
  have aD:n=d.cH:=by simpa using aD
  exact ao.uniq hd an (by rw [ae,aD])
theorem Tu {v w:ak} {n m:Nat} :eL v n=eL w m↔n=m∧ ∀ i,i < n→bL v (31 - i)=bL w (31 - i):=by
 unfold eL
 constructor
 ·intro h
  have ao:=congrArg List.length h
  simp only [List.length_map,List.length_range] at ao
  subst ao
  refine⟨rfl,fun i an=> ?_⟩
  have:=congrArg (·[i]?) h
  simpa [an] using this
 ·rintro ⟨rfl,h⟩
  exact List.map_congr_left fun i an=>h i (List.mem_range.1 an)
def mq (e:bJ):List Bool:=eL (ax e.bY 0).bI (ax e.bY 0).eQ.toNat
theorem uG {s:a2} (h:c5 s) {e:bJ} (he:hR s 1 e):lB 2 32 (ax e.bY 0):=by
 have hm:=he.pF 0
 obtain⟨b,hb⟩:=h.Aa
 rw [hb] at hm
 cases b
 ·exact hm (by decide)
 ·exact hm (by decide)
theorem wu {k:Int} (bW:0≤k) (aa:k≤32) {j:Nat} :lead 32 k j=true↔32 - k≤ (j:Int)∧j < 32:=by
 unfold lead; rw [Bool.and_eq_true,decide_eq_true_eq,decide_eq_true_eq]; omega
theorem Gu {m:cr} (hm:lB 2 32 m) {v:ak} {n:Nat} (aR:n≤32):eL m.bI m.eQ.toNat=eL v n↔m.eQ=n∧ ∀ j,j < 128→lead 32 m.eQ j=true→bL v j=bL m.bI j:=by
 have hp:=hm.pre
 rw [Tu]
 constructor
 ·rintro ⟨aa,ae⟩
  refine⟨by omega,fun j aE ao=> ?_⟩
  rw [wu hp.1 hp.2] at ao
  have:=ae (31 - j) (by omega)
  rw [show 31 - (31 - j)=j by omega] at this
  exact this.symm
 ·rintro ⟨aa,ae⟩
  refine⟨by omega,fun i an=> ?_⟩
  exact(ae (31 - i) (by omega) ((wu hp.1 hp.2).2 (by omega))).symm
theorem Mq {s:a2} (h:c5 s) {e:bJ} (he:hR s 1 e) (p:Vector ak 4):mt s 1 p e=true↔
 ih (kc (hy s 1) p)=ih (gn e)∧ ∀ j,j < 128→lead 32 (ax e.bY 0).eQ j=true→bL (bD p 0) j=bL (ax e.bY 0).bI j:=by
 have ao:=he.len
 have hm:=he.pF 1
 have hr:=uG h he
 obtain⟨b,hb⟩:=h.Aa
 unfold mt hy
 rw [hb] at ao hm ⊢
 have jN:ht 2 32 (ax e.bY 0) (bD p 0)=true↔ ∀ j,j < 128→lead 32 (ax e.bY 0).eQ j=true→bL (bD p 0) j=bL (ax e.bY 0).bI j:=by
  unfold ht
  by_cases hp:(ax e.bY 0).gM=false
  ·rw [if_pos hp,hr.off hp]
   refine⟨fun _ j aE ao=> ?_,fun _=>rfl⟩
   have:lead 32 (default:cr).eQ j=true:=ao
   rw [wu (by decide) (by decide)] at this
   have bW:(default:cr).eQ=0:=rfl
   rw [bW] at this; omega
  ·rw [if_neg hp,if_neg (by decide),if_pos rfl,List.all_eq_true]
   refine⟨fun aa j aE ao=> ?_,fun aa j aE=> ?_⟩
   ·have:=aa j (List.mem_range.2 aE)
    rw [ao] at this; simpa using this
   ·cases ao:lead 32 (ax e.bY 0).eQ j
    ·rfl
    ·simp [aa j (List.mem_range.1 aE) ao]
 cases b
 ·have aA:e.bY.length=1:=ao
  have aU:((List.range (l8 false).length).all fun i=>ht (ax (l8 false) i).cg (eC (ax (l8 false) i)) (ax e.bY i) (bD p i))=ht 2 32 (ax e.bY 0) (bD p 0):=by
   show(ht 2 32 (ax e.bY 0) (bD p 0) && true)=_
   rw [Bool.and_true]
  rw [aU,jN,AG]
  simp only [C4,mx (show 0 < 4 by decide),mx (show 1 < 4 by decide),mx (show 2 < 4 by decide),mx (show 3 < 4 by decide),k3 (show 0 < 4 by decide),k3 (show 1 < 4 by decide),k3 (show 2 < 4 by decide),k3 (show 3 < 4 by decide),aA]
  simp [l8]
 ·have aA:e.bY.length=2:=ao
  have cG:(ax e.bY 1).gM=true:=(hm (by decide)).Ew rfl
  have aU:((List.range (l8 true).length).all fun i=>ht (ax (l8 true) i).cg (eC (ax (l8 true) i)) (ax e.bY i) (bD p i))=(ht 2 32 (ax e.bY 0) (bD p 0) && decide (bD p 1=(ax e.bY 1).bI)):=by
   show(ht 2 32 (ax e.bY 0) (bD p 0) && (ht 1 (eC EJ) (ax e.bY 1) (bD p 1) && true))=_
   rw [Bool.and_true]
   congr 1
   unfold ht
   rw [cG]; simp
  rw [aU,Bool.and_eq_true,jN,AG,decide_eq_true_eq]
  simp only [C4,mx (show 0 < 4 by decide),mx (show 1 < 4 by decide),mx (show 2 < 4 by decide),mx (show 3 < 4 by decide),k3 (show 0 < 4 by decide),k3 (show 1 < 4 by decide),k3 (show 2 < 4 by decide),k3 (show 3 < 4 by decide),aA]
  simp [l8,And.comm]
theorem Mr {g:List Bool→Option Int} {v:ak} :∀ {m n:Nat} {id:Int},iU g v m=some (n,id)→n≤m∧g (eL v n)=some id∧ ∀ k,n < k→k≤m→g (eL v k)=none
 | 0,n,id,h=>by
   unfold iU at h
   cases bP:g [] with
   | none=>rw [bP] at h; cases h
   | some x=>
     rw [bP] at h; cases h
     exact⟨Nat.le_refl 0,by rw [Fz]; exact bP,fun k aa ae=>by omega⟩
 | m + 1,n,id,h=>by
   unfold iU at h
   cases bP:g (eL v (m + 1)) with
   | none=>
     rw [bP] at h
     obtain⟨aa,ae,aD⟩:=Mr h
     refine⟨by omega,ae,fun k aV a1=> ?_⟩
     by_cases av:k=m + 1
     ·rw [av]; exact bP
     ·exact aD k aV (by omega)
   | some x=>
     rw [bP] at h; cases h
     exact⟨Nat.le_refl _,bP,fun k aa ae=>by omega⟩
theorem Ms {g:List Bool→Option Int} {v:ak} :∀ {m:Nat},iU g v m=none→ ∀ k,k≤m→g (eL v k)=none
 | 0,h,k,av=>by
   have:k=0:=by omega
   subst this
   unfold iU at h
   cases bP:g [] with
   | none=>rw [Fz]; exact bP
   | some x=>rw [bP] at h; cases h
 | m + 1,h,k,av=>by
   unfold iU at h
   cases bP:g (eL v (m + 1)) with
   | none=>
     rw [bP] at h
     by_cases uZ:k=m + 1
     ·rw [uZ]; exact bP
     ·exact Ms h k (by omega)
   | some x=>rw [bP] at h; cases h
theorem Ph {s:a2} (h:c5 s) {e:bJ} (he:hR s 1 e):tj s 1 e=(ax e.bY 0).eQ:=by
 have ao:=he.len
 unfold tj
 obtain⟨b,hb⟩:=h.Aa
 rw [hb] at ao ⊢
 refine GV (i:=0) ao ?_ ?_ fun j aE=>by omega
 ·cases b <;> decide
 ·cases b <;> rfl
theorem D5 {s:a2} (h:c5 s) {e:bJ} (he:hR s 1 e):e.hY=0:=by
 refine he.pri fun i an=> ?_
 obtain⟨b,hb⟩:=h.Aa
 rw [hb] at an ⊢
 cases b
 ·have:i=0:=by have:i < 1:=an; omega
  subst this; decide
 ·have:i=0∨i=1:=by have:i < 2:=an; omega
  rcases this with rfl | rfl <;> decide
theorem N7 {s:a2} (h:c5 s) {l:List aI} (ao:h3 s 1 l) (p:Vector ak 4) {g:List Bool→Option Int} {v:ak} (aX:∀ j,j < 128→bL v j=(bL (bD p 0) j && decide (j < 32)))
 (bP:∀ bC n,g bC=some n↔ ∃ i∈l,ih (gn i.b2)=ih (kc (hy s 1) p)∧mq i.b2=bC∧i.cH=n):
 match iU g v 32 with | some r=> ∃ i∈l,i.cH=r.2∧ (fu (eF s 1) l).find? (fun c=>mt s 1 p c.b2)=some i | none=>(fu (eF s 1) l).find? (fun c=>mt s 1 p c.b2)=none:=by
 have xf:∀ k j,j < 128→lead 32 k j=true→bL v j=bL (bD p 0) j:=fun k j aE av=>by
  rw [aX j aE]
  unfold lead at av
  rw [Bool.and_eq_true,decide_eq_true_eq] at av
  rw [decide_eq_true (show j < 32 by omega),Bool.and_true]
 have EA:∀ d∈l,mt s 1 p d.b2=true→ ∃ n:Nat,n≤32∧ (ax d.b2.bY 0).eQ=n∧g (eL v n)=some d.cH:=fun d hd hm=>by
  have he:=(ao.ok d hd).eN
  have hr:=uG h he
  have hp:=hr.pre
  obtain⟨n,aR⟩:=Int.eq_ofNat_of_zero_le hp.1
  obtain⟨aa,ae⟩:=(Mq h he p).1 hm
  refine⟨n,by omega,aR,(bP _ _).2 ⟨d,hd,aa.symm,?_,rfl⟩⟩
  exact(Gu hr (by omega)).2 ⟨aR,fun j aE rK=>by rw [xf _ j aE rK]; exact ae j aE rK⟩
 cases e:iU g v 32 with
 | none=>
   refine Mo fun d hd=> ?_
   rw [Bool.eq_false_iff]
   intro hm
   obtain⟨n,aR,_,ae⟩:=EA d hd hm
   rw [Ms e n aR] at ae; cases ae
 | some r=>
   obtain⟨n,id⟩:=r
   obtain⟨aa,ae,aD⟩:=Mr e
   obtain⟨i,an,az,a5,bu⟩:=(bP _ _).1 ae
   have he:=(ao.ok i an).eN
   obtain⟨cM,gO⟩:=(Gu (uG h he) aa).1 a5
   have IG:mt s 1 p i.b2=true:=(Mq h he p).2 ⟨az.symm,fun j aE rK=>by rw [← xf _ j aE rK]; exact gO j aE rK⟩
   refine⟨i,an,bu,C3 (pW s 1) ao.xi an IG fun d hd hm=> ?_⟩
   have Pj:=(ao.ok d hd).eN
   obtain⟨m,cG,dJ,gx⟩:=EA d hd hm
   have uU:m≤n:=by
    rcases Nat.lt_or_ge n m with cw | uX
    ·rw [aD m cw cG] at gx; cases gx
    ·exact uX
   by_cases Yp:m=n
   ·subst Yp
    rw [ae] at gx
    have:id=d.cH:=by simpa using gx
    exact .inl (ao.uniq hd an (by rw [bu,this]))
   ·right
    unfold eF
    rw [decide_eq_true_eq,Ph h he,Ph h Pj,D5 h he,D5 h Pj,dJ,cM]
    omega
end Go.Proofs.YtmnggbjcnoffeaaGreat
namespace Go.Proofs.YtmnggbjcnoffeaaGreat
open Go Gv
set_option linter.unusedVariables false
set_option linter.unusedSimpArgs false
set_option maxRecDepth 100000
end Go.Proofs.YtmnggbjcnoffeaaGreat
namespace Go.Proofs.YtmnggbjcnoffeaaGreat
open Go Gv
set_option linter.unusedVariables false
set_option linter.unusedSimpArgs false
set_option maxRecDepth 100000
def kM {α β:Type} (R:α→β→Prop) (xs:List α) (ys:List β):Prop:=xs.length=ys.length∧ ∀ t (h:t < xs.length) (cZ:t < ys.length),R xs[t] ys[t]
theorem kM.nil {α β:Type} {R:α→β→Prop} :kM R [] []:=⟨rfl,fun t h=>by cases h⟩
theorem kM.snoc {α β:Type} {R:α→β→Prop} {xs:List α} {ys:List β} {x:α} {y:β} (h:kM R xs ys) (aQ:R x y):kM R (xs ++ [x]) (ys ++ [y]):=by
 obtain⟨aa,ae⟩:=h
 refine⟨by simp [aa],fun t cj nv=> ?_⟩
 by_cases cw:t < xs.length
 ·rw [List.getElem_append_left cw,List.getElem_append_left (by omega)]
  exact ae t cw (by omega)
 ·have e:t=xs.length:=by simp at cj; omega
  subst e
  simp only [List.getElem_append_right (Nat.le_refl _),Nat.sub_self,List.getElem_cons_zero]
  rw [List.getElem_append_right (by omega)]
  simpa [aa] using aQ
def Z4 (a b:a4) (i:Nat):Bool:=bk b.bQ i && !bk a.bQ i
def part (a b:a4) (i:Nat) (c:a4):Prop:=
 (∀ j,j < 512→bk c.bQ j=(bk a.bQ j || (decide (j≤i) && bk b.bQ j)))∧
 (∀ j,j < 512→bk c.bI j=(bk a.bI j || (decide (j < i) && (Z4 a b j && bk b.bI j)) || (decide (j=i) && !bk b.bI i)))
end Go.Proofs.YtmnggbjcnoffeaaGreat
namespace Go.Proofs.YtmnggbjcnoffeaaGreat
open Go Gv
set_option linter.unusedVariables false
set_option linter.unusedSimpArgs false
theorem J1 {xs:List a4} {f:a4→Option Bool} {g:a4→Bool} (a8:∀ x∈xs,f x=some (g x)) (ao:xs.length < 2 ^ 62):
 bg (vh xs f) (fun r=>(r= -1∧ ∀ x∈xs,g x=false)∨ ∃ i:Nat,i < xs.length∧r=i∧g (ax xs i)=true∧ ∀ j,j < i→g (ax xs j)=false):=by
 unfold vh
 refine bg.loop xs.length (fun k s=>s=(k:Int)∧ ∀ j,j < k→g (ax xs j)=false) (by omega) ⟨rfl,fun j aE=>by omega⟩ (fun k s av an=> ?_) (fun s an=> ?_)
 ·obtain⟨aA,aU⟩:=an; subst aA
  refine bg.cond (fun _=> ?_) (fun h=>by simp at h; omega)
  refine .idx rfl av (.eq (a8 _ (by rw [ey xs av]; exact List.getElem_mem av)) (.cond (fun h=> .ret ?_) (fun h=> .ret ⟨ew (by omega),fun j aE=> ?_⟩)))
  ·exact .ret (.inr ⟨k,av,rfl,h,aU⟩)
  ·by_cases js:j=k
   ·subst js; exact h
   ·exact aU j (by omega)
 ·obtain⟨aA,aU⟩:=an; subst aA
  refine⟨_,by simp; rfl,?_⟩
  refine .ret (.inl ⟨rfl,fun x aq=> ?_⟩)
  obtain⟨j,aE,rfl⟩:=List.mem_iff_getElem.1 aq
  rw [← ey xs aE]; exact aU j aE
theorem Qb {xs:List a4} {f:a4→Option Bool} {g:a4→Bool} (a8:∀ x∈xs,f x=some (g x)) (ao:xs.length < 2 ^ 62):
 bg (xy xs f) (fun r=>r=xs.any g):=by
 unfold xy
 refine(J1 a8 ao).bind fun r aQ=> .ret ?_
 rcases aQ with⟨aa,ae⟩ | ⟨i,aa,ae,aD,aV⟩
 ·subst aa
  symm
  rw [List.any_eq_false.2 (fun x aq=>by rw [ae x aq]; simp)]
  rfl
 ·subst ae
  symm
  rw [List.any_eq_true.2 ⟨ax xs i,by rw [ey xs aa]; exact List.getElem_mem aa,aD⟩]
  simp
theorem Qr {xs:List a4} {f:a4→Option Bool} {g:a4→Bool} (a8:∀ x∈xs,f x=some (g x)) (ao:xs.length < 2 ^ 62):
 bg (vg xs f) (fun r=>r=xs.filter (fun x=> !g x)):=by
 unfold vg
 refine(J1 a8 ao).bind fun r aQ=> ?_
 rcases aQ with⟨aa,ae⟩ | ⟨i0,aa,ae,aD,aV⟩
 ·subst aa
  exact .cond (fun _=> .ret (List.filter_eq_self.2 fun x aq=>by rw [ae x aq]; rfl).symm) (fun h=>by simp at h)
 ·subst ae
  refine .cond (fun h=>absurd h (by simp <;> omega)) (fun _=> ?_)
  refine bg.loop (xs.length - (i0 + 1)) (fun k s=>s.2.1=((i0 + 1 + k:Nat):Int)∧s.2.2.length=xs.length∧ ∃ i:Nat,s.1=i∧i < i0 + 1 + k∧s.2.2.take i=(xs.take (i0 + 1 + k)).filter (fun x=> !g x)∧s.2.2.drop (i0 + 1 + k)=xs.drop (i0 + 1 + k)) (by omega)
   ⟨ew (by omega),rfl,i0,rfl,by omega,?_,rfl⟩ (fun k s av an=> ?_) (fun s an=> ?_)
  ·show xs.take i0=_
   rw [Nat.add_zero,List.take_add_one,List.getElem?_eq_getElem aa,List.filter_append]
   rw [ey xs aa] at aD
   simp only [Option.toList_some,List.filter_cons,aD,Bool.not_true,Bool.false_eq_true,if_false,List.filter_nil,List.append_nil]
   symm
   refine List.filter_eq_self.2 fun x aq=> ?_
   obtain⟨j,aE,rfl⟩:=List.mem_iff_getElem.1 aq
   have s6:j < i0:=by rw [List.length_take] at aE; omega
   rw [List.getElem_take,← ey xs (by omega),aV j s6]; rfl
  ·obtain⟨Z5,Z6,ys⟩:=s; obtain⟨aA,aU,i,cL,eO,gz,hE⟩:=an
   simp only at aA aU cL gz hE
   subst aA; subst cL
   have aE:i0 + 1 + k < xs.length:=by omega
   have aX:ax ys (i0 + 1 + k)=ax xs (i0 + 1 + k):=by
    unfold ax
    have:=congrArg (fun l=>l[0]?) hE
    simp only [List.getElem?_drop,Nat.add_zero] at this
    rw [this]
   refine bg.cond (fun _=> ?_) (fun h=>by simp only [decide_eq_false_iff_not] at h; omega)
   refine .idx rfl (show i0 + 1 + k < ys.length by omega) ?_
   show bg ((f (ax ys (i0 + 1 + k))).bind _) _
   rw [aX]
   refine .eq (a8 _ (by rw [ey xs aE]; exact List.getElem_mem aE)) ?_
   have DF:bz ((i0 + 1 + k:Nat) + 1:Int)=((i0 + 1 + (k + 1):Nat):Int):=by rw [ew (by omega)]; rfl
   have n4:xs.take (i0 + 1 + (k + 1))=xs.take (i0 + 1 + k) ++ [ax xs (i0 + 1 + k)]:=by
    rw [← Nat.add_assoc,List.take_add_one,List.getElem?_eq_getElem aE,ey xs aE]; rfl
   refine .bind (P:=fun m:Int × List a4=>m.2.length=xs.length∧ ∃ i:Nat,m.1=i∧i < i0 + 1 + (k + 1)∧m.2.take i=(xs.take (i0 + 1 + (k + 1))).filter (fun x=> !g x)∧m.2.drop (i0 + 1 + (k + 1))=xs.drop (i0 + 1 + (k + 1))) (.cond (fun h=> ?_) (fun h=> .ret ?_)) fun m hm=> .ret ⟨DF,hm⟩
   ·refine .idx rfl (show i < ys.length by omega) (.ret ⟨by simp [hk]; exact aU,i + 1,ew (by omega),by omega,?_,?_⟩)
    ·rw [n4,List.filter_append,← gz,hk,List.take_add_one,List.take_set,List.set_eq_of_length_le (by rw [List.length_take]; omega),List.getElem?_set_self (show i < ys.length by omega)]
     simp only [List.filter_cons,List.filter_nil,h,if_true,Option.toList_some]
    ·have:(ys.drop (i0 + 1 + k)).drop 1=(xs.drop (i0 + 1 + k)).drop 1:=by rw [hE]
     rw [List.drop_drop,List.drop_drop] at this
     rw [hk,List.drop_set_of_lt (by omega)]
     exact this
   ·refine⟨aU,i,rfl,by omega,?_,?_⟩
    ·rw [n4,List.filter_append,← gz]
     simp only [List.filter_cons,List.filter_nil,h,Bool.false_eq_true,if_false,List.append_nil]
    ·have:(ys.drop (i0 + 1 + k)).drop 1=(xs.drop (i0 + 1 + k)).drop 1:=by rw [hE]
     rw [List.drop_drop,List.drop_drop] at this
     exact this
  ·obtain⟨Z5,Z6,ys⟩:=s; obtain⟨aA,aU,i,cL,eO,gz,hE⟩:=an
   simp only at aA aU cL gz hE
   subst aA; subst cL
   refine⟨_,by simp only [aU,show ¬ (((i0 + 1 + (xs.length - (i0 + 1)):Nat):Int) < (xs.length:Int)) by omega,decide_false,cond_false]; rfl,?_⟩
   have O2:i≤ys.length:=by omega
   refine .eq (a:=(i,ys.length)) (show Aw ys.length (i:Int) (ys.length:Int)=some (i,ys.length) by unfold Aw; rw [if_pos (by omega)]; simp) (.eq rfl (.idx rfl (by simp [nM]; omega) (.eq rfl (.ret ?_))))
   rw [show i0 + 1 + (xs.length - (i0 + 1))=xs.length by omega,List.take_length] at gz
   rw [← gz]
   show(nM ys i (ys.length - i)).take i=_
   unfold nM
   rw [List.append_assoc,List.take_append_of_le_length (by rw [List.length_take]; omega),List.take_take,Nat.min_self]
theorem Q9 {xs:List a4} (ao:xs.length < 2 ^ 30):xD xs=some xs:=by
 unfold xD
 rw [show gu 128 [] xs=some xs from by unfold gu maxLen; rw [if_pos (by simp only [List.length_nil]; omega)]; rfl]
 rfl
end Go.Proofs.YtmnggbjcnoffeaaGreat
namespace Go.Proofs.YtmnggbjcnoffeaaGreat
open Go Gv
set_option linter.unusedVariables false
set_option linter.unusedSimpArgs false
set_option maxRecDepth 100000
theorem bg.HX {β:Type} {m:Option β} {v:β} (h:bg m (fun r=>r=v)):m=some v:=by
 obtain⟨r,aa,ae⟩:=h
 rw [aa,ae]
theorem Mt (b:Nat→Bool):∀ n,n≤64→ ∃ w:BitVec 64,∀ i,i < 64→w.getLsbD i=(decide (i < n) && b i):=by
 intro n
 induction n with
 | zero=>exact fun _=>⟨0#64,fun i an=>by simp⟩
 | succ n b1=>
   intro aR
   obtain⟨w,hw⟩:=b1 (by omega)
   refine⟨w ||| (if b n=true then BitVec.twoPow 64 n else 0#64),fun i an=> ?_⟩
   rw [BitVec.getLsbD_or,hw i an]
   by_cases hb:b n=true
   ·rw [if_pos hb,BitVec.getLsbD_twoPow]
    by_cases e:i=n
    ·subst e; simp [an,hb]
    ·have:(decide (i < n + 1))=decide (i < n):=by
      rw [Bool.eq_iff_iff]; simp; omega
     rw [this]
     have:decide (n=i)=false:=by simp; omega
     simp [this]
   ·rw [if_neg hb]
    by_cases e:i=n
    ·subst e; simp [hb]
    ·have:(decide (i < n + 1))=decide (i < n):=by
      rw [Bool.eq_iff_iff]; simp; omega
     rw [this]; simp
theorem LO (b:Nat→Bool):∃ q:Vector ak 4,∀ i,i < 512→bk q i=b i:=by
 have aX:∀ c:Nat→Bool,∃ v:ak,∀ i,i < 128→bL v i=c i:=fun c=>by
  obtain⟨lo,hC⟩:=Mt c 64 (by omega)
  obtain⟨an,er⟩:=Mt (fun i=>c (64 + i)) 64 (by omega)
  refine⟨⟨an,lo⟩,fun i jr=> ?_⟩
  unfold bL
  split
  ·rename_i h
   show lo.getLsbD i=c i
   rw [hC i h]; simp [h]
  ·rename_i h
   show an.getLsbD (i - 64)=c i
   rw [er (i - 64) (by omega)]
   have:64 + (i - 64)=i:=by omega
   simp only [this]
   have:i - 64 < 64:=by omega
   simp [this]
 have jG:∀ k,k≤4→ ∃ q:Vector ak 4,∀ i,i < 128 * k→bk q i=b i:=by
  intro k
  induction k with
  | zero=>exact fun _=>⟨default,fun i an=>by omega⟩
  | succ k b1=>
    intro av
    obtain⟨q,hq⟩:=b1 (by omega)
    obtain⟨v,aX⟩:=aX fun j=>b (128 * k + (127 - j))
    refine⟨cW q k v,fun i an=> ?_⟩
    unfold bk
    rw [gD q v (by omega)]
    by_cases e:i / 128=k
    ·rw [if_pos e,aX _ (by omega)]
     have:128 * k + (127 - (127 - i % 128))=i:=by omega
     rw [this]
    ·rw [if_neg e]
     exact hq i (by omega)
 obtain⟨q,hq⟩:=jG 4 (by omega)
 exact⟨q,fun i an=>hq i (by omega)⟩
theorem mA {c:a4} (ar:can c) {q:Vector ak 4} :gm c q=true↔ ∀ i,i < 512→bk c.bQ i=true→bk q i=bk c.bI i:=by
 rw [C0]
 constructor
 ·intro h i an hm
  have:=h i an
  rw [hm,Bool.and_true] at this; exact this
 ·intro h i an
  cases hm:bk c.bQ i
  ·rw [Bool.and_false]
   cases aX:bk c.bI i
   ·rfl
   ·rw [ar i an aX] at hm; cases hm
  ·rw [Bool.and_true]; exact h i an hm
def iN (c:a4) (l:List a4):Prop:= ∀ q,gm c q=true→ ∃ x∈l,gm x q=true
theorem Na {c:a4} (ar:can c):gm c c.bI=true:=(mA ar).2 fun i _ _=>rfl
theorem KH {c x:a4} (ar:can c) (aq:can x) {q:Vector ak 4} (h:gm c q=true) (cZ:gm x q=true):rb c x:=fun i an aa ae=>by
 rw [← (mA ar).1 h i an aa,← (mA aq).1 cZ i an ae]
noncomputable def j9 (c x:a4):Bool:= @decide (rb c x) (Classical.propDecidable _)
theorem C5 {c x:a4} :j9 c x=true↔rb c x:=by unfold j9; simp
theorem ze (c:a4) (l:List a4) (ao:l.length < 2 ^ 30):qJ c l=some (l.filter (j9 c)):=by
 unfold qJ
 rw [Q9 ao]
 have:vg l (fun fM=>vz fM c)=some (l.filter (fun x=> !(!j9 c x))):=by
  refine bg.HX (Qr (g:=fun x=> !j9 c x) (fun x _=>bg.HX ?_) (by omega))
  unfold vz
  refine(Mj c x).bind fun y a6=> .ret ?_
  congr 1
  rw [Bool.eq_iff_iff,C5]; exact a6.1
 simp only [Option.bind_some,this,Bool.not_not]
theorem LP {c:a4} {l:List a4} (ar:can c) (ao:∀ x∈l,can x):iN c (l.filter (j9 c))↔iN c l:=by
 constructor
 ·intro h q hq
  obtain⟨x,aq,aa⟩:=h q hq
  exact⟨x,(List.mem_filter.1 aq).1,aa⟩
 ·intro h q hq
  obtain⟨x,aq,aa⟩:=h q hq
  exact⟨x,List.mem_filter.2 ⟨aq,C5.2 (KH ar (ao x aq) hq aa)⟩,aa⟩
def D6 (c x:a4):Prop:= ∀ i,i < 512→bk x.bQ i=true→bk c.bQ i=true∧bk c.bI i=bk x.bI i
noncomputable def HY (c x:a4):Bool:= @decide (D6 c x) (Classical.propDecidable _)
theorem F4 {c x:a4} :HY c x=true↔D6 c x:=by unfold HY; simp
theorem Um {c x:a4} (ar:can c) (aq:can x) (h:D6 c x) {q:Vector ak 4} (hq:gm c q=true):gm x q=true:=
 (mA aq).2 fun i an hm=>by rw [(mA ar).1 hq i an (h i an hm).1,(h i an hm).2]
def ue (c:a4) (k:Nat) (b:Bool) (d:a4):Prop:=
 (∀ m,m < 512→bk d.bQ m=(bk c.bQ m || decide (m=k)))∧ (∀ m,m < 512→bk d.bI m=(bk c.bI m || (b && decide (m=k))))
theorem CH {c d:a4} {k:Nat} {b:Bool} (ar:can c) (h:ue c k b d):can d:=fun i an aX=>by
 rw [h.2 i an] at aX
 rw [h.1 i an]
 simp only [Bool.or_eq_true,Bool.and_eq_true] at aX ⊢
 rcases aX with aX | aX
 ·exact .inl (ar i an aX)
 ·exact .inr aX.2
theorem CQ {c:a4} (ar:can c) {k:Nat} (av:k < 512) (h:bk c.bQ k=false):bk c.bI k=false:=by
 cases aX:bk c.bI k
 ·rfl
 ·rw [ar k av aX] at h; cases h
theorem vU {c d:a4} {k:Nat} {b:Bool} (ar:can c) (av:k < 512) (a8:bk c.bQ k=false) (h:ue c k b d) (q:Vector ak 4):gm d q=(gm c q && (bk q k ==b)):=
 UQ av a8 (CQ ar av a8) h.1 h.2
theorem yT {c d e:a4} {l:List a4} {k:Nat} (ar:can c) (av:k < 512) (a8:bk c.bQ k=false) (bW:ue c k false d) (aa:ue c k true e):iN c l↔iN d l∧iN e l:=by
 constructor
 ·intro h
  refine⟨fun q hq=>h q ?_,fun q hq=>h q ?_⟩
  ·rw [vU ar av a8 bW,Bool.and_eq_true] at hq; exact hq.1
  ·rw [vU ar av a8 aa,Bool.and_eq_true] at hq; exact hq.1
 ·rintro ⟨bn,hb⟩ q hq
  cases aX:bk q k
  ·exact bn q (by rw [vU ar av a8 bW,hq,aX]; rfl)
  ·exact hb q (by rw [vU ar av a8 aa,hq,aX]; rfl)
def nfree (c:a4):Nat:=qo 512 (fun i=> !bk c.bQ i)
theorem Tv {n:Nat} {p q:Nat→Bool} (h:∀ i,i < n→p i=true→q i=true):qo n p≤qo n q:=by
 induction n with
 | zero=>exact Nat.le_refl _
 | succ n b1=>
   rw [y1,y1]
   have:=b1 fun i an=>h i (by omega)
   have ae:(p n).toNat≤ (q n).toNat:=by
    cases hp:p n
    ·simp
    ·rw [h n (by omega) hp]; simp
   omega
theorem SX {n:Nat} {p q:Nat→Bool} {k:Nat} (av:k < n) (h:∀ i,i < n→p i=true→q i=true) (hp:p k=false) (hq:q k=true):qo n p < qo n q:=by
 induction n with
 | zero=>omega
 | succ n b1=>
   rw [y1,y1]
   by_cases mg:k=n
   ·subst mg
    have:=Tv (n:=k) fun i an=>h i (by omega)
    rw [hp,hq]; simp; omega
   ·have:=b1 (by omega) fun i an=>h i (by omega)
    have ae:(p n).toNat≤ (q n).toNat:=by
     cases hp:p n
     ·simp
     ·rw [h n (by omega) hp]; simp
    omega
theorem LQ {c d:a4} {k:Nat} (av:k < 512) (h:∀ m,m < 512→bk c.bQ m=true→bk d.bQ m=true) (bW:bk c.bQ k=false) (aa:bk d.bQ k=true):nfree d < nfree c:=
 SX av (fun i an hd=>by
  cases hm:bk c.bQ i
  ·rfl
  ·rw [h i an hm] at hd; exact hd) (by rw [aa]; rfl) (by rw [bW]; rfl)
theorem Tw (c:a4):nfree c≤512:=UR
theorem Li {c d:a4} {k:Nat} {b:Bool} (av:k < 512) (a8:bk c.bQ k=false) (h:ue c k b d):nfree d < nfree c:=
 LQ av (fun m hm aa=>by rw [h.1 m hm,aa]; rfl) a8 (by rw [h.1 k av]; simp)
theorem CR {c:a4} {k:Nat} (av:k < 512) (a8:bk c.bQ k=false) (b:Bool):bg (qN c k b) (ue c k b):=(M0 c k av b).mono fun d hd=>hd.2 a8
theorem Mu (w:Vector ak 4) (n:Nat) (aR:n < 512):bg (vO w n) (fun r=>r=bk w n):=by
 unfold vO
 have aa:uB (n:Int) 128=some ((n / 128:Nat):Int):=by
  unfold uB
  rw [if_neg (by omega)]
  have aa:(n:Int).tdiv 128=((n / 128:Nat):Int):=by rw [Int.tdiv_eq_ediv_of_nonneg (by omega)]; omega
  rw [aa,hQ (by omega) (by omega)]
 have ae:nZ (n:Int) 128=some ((n % 128:Nat):Int):=by
  unfold nZ
  rw [if_neg (by omega)]
  have ae:(n:Int).tmod 128=((n % 128:Nat):Int):=by rw [Int.tmod_eq_emod_of_nonneg (by omega)]; omega
  rw [ae]
 refine .eq aa (.idx rfl (show n / 128 < 4 by omega) (.eq ae ((GR _ _).bind fun y a6=> .ret ?_)))
 rw [a6,hQ (by omega) (by omega)]
 have:(0:Int)≤127 - ((n % 128:Nat):Int)∧127 - ((n % 128:Nat):Int) < 128:=by omega
 rw [decide_eq_true this,Bool.true_and]
 unfold bk
 congr 1; omega
def jE (c:a4) (l:List a4) (b:Bool) (i:Nat):Bool:= !bk c.bQ i && l.any (fun x=>bk x.bQ i && (bk x.bI i ==b))
set_option maxHeartbeats 2000000 in
theorem SY (c:a4) (l:List a4) (ao:l.length < 2 ^ 30):bg (yu c l) (fun r=>(∀ i,i < 512→bk r.1 i=jE c l false i)∧ (∀ i,i < 512→bk r.2 i=jE c l true i)):=by
 unfold yu
 have N8:∀ k (av:k < l.length) b i,jE c (l.take (k + 1)) b i=(jE c (l.take k) b i || (!bk c.bQ i && (bk (ax l k).bQ i && (bk (ax l k).bI i ==b)))):=fun k av b i=>by
  unfold jE
  rw [List.take_add_one,List.getElem?_eq_getElem av,List.any_append,ey l av,Bool.and_or_distrib_left]
  simp
 refine bg.loop l.length (fun k s=>s.1=k∧ (∀ i,i < 512→bk s.2.1 i=jE c (l.take k) true i)∧ (∀ i,i < 512→bk s.2.2 i=jE c (l.take k) false i)) (by omega)
  ⟨rfl,fun i an=>by rw [CF]; simp [jE],fun i an=>by rw [CF]; simp [jE]⟩ (fun k s av an=> ?_) (fun s an=> ?_)
 ·obtain⟨n,o,z⟩:=s; obtain⟨aA,aU,cL⟩:=an
  simp only at aA aU cL; subst aA
  refine bg.cond (fun _=> ?_) (fun h=>by simp at h; omega)
  refine .idx rfl av ?_
  have sX:=N8 k av true
  have jb:=N8 k av false
  generalize ax l k=x at sX jb ⊢
  refine bg.loop 4 (fun j s=>s.1=j∧ (∀ i,i < 512→bk s.2.1 i=if i / 128 < j then jE c (l.take (k + 1)) true i else jE c (l.take k) true i)∧
   (∀ i,i < 512→bk s.2.2 i=if i / 128 < j then jE c (l.take (k + 1)) false i else jE c (l.take k) false i)) (by omega)
   ⟨rfl,fun i an=>by rw [if_neg (by omega)]; exact aU i an,fun i an=>by rw [if_neg (by omega)]; exact cL i an⟩ (fun j s aE an=> ?_) (fun s an=> ?_)
  ·obtain⟨n,o,z⟩:=s; obtain⟨az,a5,bu⟩:=an
   simp only at az a5 bu; subst az
   refine bg.cond (fun _=> ?_) (fun h=>by simp at h; omega)
   refine .idx rfl aE (.idx rfl aE ((M1 _).bind fun al aa=>(pR _ _).bind fun aN ae=> .idx rfl aE (.idx rfl aE ((pR _ _).bind fun a7 aD=>(ud _ _).bind fun bR aV=> .idx rfl aE (.idx rfl aE (.idx rfl aE ((M1 _).bind fun br a1=>(pR _ _).bind fun b8 bo=>(ud _ _).bind fun cD cX=> .idx rfl aE (.ret ⟨ew (by omega),fun i an=> ?_,fun i an=> ?_⟩))))))))
   ·have g:=a5 i an
    unfold bk at g ⊢
    simp only [gD _ _ aE]
    by_cases hq:i / 128=j
    ·rw [if_pos hq,if_pos (by omega),aV _ (by omega),aD _ (by omega),ae _ (by omega),aa _ (by omega),sX]
     rw [if_neg (by omega)] at g
     rw [hq] at g
     rw [g]
     unfold bk
     rw [hq]
     cases bL (bD x.bQ j) (127 - i % 128) <;> cases bL (bD c.bQ j) (127 - i % 128) <;> cases bL (bD x.bI j) (127 - i % 128) <;> simp
    ·rw [if_neg hq,g]
     have:(i / 128 < j + 1)↔i / 128 < j:=by omega
     simp [this]
   ·have g:=bu i an
    unfold bk at g ⊢
    simp only [gD _ _ aE]
    by_cases hq:i / 128=j
    ·rw [if_pos hq,if_pos (by omega),cX _ (by omega),bo _ (by omega),a1 _ (by omega),ae _ (by omega),aa _ (by omega),jb]
     rw [if_neg (by omega)] at g
     rw [hq] at g
     rw [g]
     unfold bk
     rw [hq]
     cases bL (bD x.bQ j) (127 - i % 128) <;> cases bL (bD c.bQ j) (127 - i % 128) <;> cases bL (bD x.bI j) (127 - i % 128) <;> simp
    ·rw [if_neg hq,g]
     have:(i / 128 < j + 1)↔i / 128 < j:=by omega
     simp [this]
  ·obtain⟨n,o,z⟩:=s; obtain⟨az,a5,bu⟩:=an
   simp only at az a5 bu; subst az
   refine⟨_,rfl,?_⟩
   refine .ret ⟨ew (by omega),fun i an=> ?_,fun i an=> ?_⟩
   ·rw [a5 i an,if_pos (by omega)]
   ·rw [bu i an,if_pos (by omega)]
 ·obtain⟨n,o,z⟩:=s; obtain⟨aA,aU,cL⟩:=an
  simp only at aA aU cL; subst aA
  rw [List.take_length] at aU cL
  refine⟨_,by simp; rfl,?_⟩
  exact .ret ⟨cL,aU⟩
set_option maxHeartbeats 2000000 in
theorem SZ (c:a4) (z o:Vector ak 4):bg (yt c z o) (fun r=>(∀ i,i < 512→bk r.bQ i=(bk c.bQ i || (bk z i ^^ bk o i)))∧ (∀ i,i < 512→bk r.bI i=(bk c.bI i || (bk z i && !bk o i)))):=by
 unfold yt
 refine bg.loop 4 (fun j s=>s.1=j∧ (∀ i,i < 512→bk s.2.bQ i=if i / 128 < j then(bk c.bQ i || (bk z i ^^ bk o i)) else bk c.bQ i)∧
  (∀ i,i < 512→bk s.2.bI i=if i / 128 < j then(bk c.bI i || (bk z i && !bk o i)) else bk c.bI i)) (by omega)
  ⟨rfl,fun i an=>(if_neg (Nat.not_lt_zero _)).symm,fun i an=>(if_neg (Nat.not_lt_zero _)).symm⟩ (fun j s aE an=> ?_) (fun s an=> ?_)
 ·obtain⟨n,d⟩:=s; obtain⟨az,a5,bu⟩:=an
  simp only at az a5 bu; subst az
  refine bg.cond (fun _=> ?_) (fun h=>by simp at h; omega)
  refine .idx rfl aE (.idx rfl aE ((pR _ _).bind fun al aa=> .idx rfl aE (.idx rfl aE (.idx rfl aE ((ud _ _).bind fun aN ae=>(CZ _ _).bind fun a7 aD=>(ud _ _).bind fun bR aV=> .idx rfl aE (.idx rfl aE (.idx rfl aE ((CZ _ _).bind fun br a1=>(ud _ _).bind fun b8 bo=> ?_))))))))
  refine .idx rfl aE ?_
  refine .eq rfl ?_
  refine .ret ?_
  refine⟨ew (by omega),fun i an=> ?_,fun i an=> ?_⟩
  ·have g:=a5 i an
   unfold bk at g ⊢
   simp only [gD _ _ aE]
   by_cases hq:i / 128=j
   ·rw [if_pos hq,if_pos (by omega),aV _ (by omega),aD _ (by omega),ae _ (by omega),aa _ (by omega),hq]
    rw [if_neg (by omega)] at g
    rw [hq] at g
    rw [g]
    cases bL (bD z j) (127 - i % 128) <;> cases bL (bD o j) (127 - i % 128) <;> simp
   ·rw [if_neg hq,g]
    have:(i / 128 < j + 1)↔i / 128 < j:=by omega
    simp [this]
  ·have g:=bu i an
   unfold bk at g ⊢
   simp only [gD _ _ aE]
   by_cases hq:i / 128=j
   ·rw [if_pos hq,if_pos (by omega),bo _ (by omega),a1 _ (by omega),aa _ (by omega),hq]
    rw [if_neg (by omega)] at g
    rw [hq] at g
    rw [g]
    cases bL (bD z j) (127 - i % 128) <;> cases bL (bD o j) (127 - i % 128) <;> simp
   ·rw [if_neg hq,g]
    have:(i / 128 < j + 1)↔i / 128 < j:=by omega
    simp [this]
 ·obtain⟨n,d⟩:=s; obtain⟨az,a5,bu⟩:=an
  simp only at az a5 bu; subst az
  refine⟨_,rfl,?_⟩
  refine .ret ⟨fun i an=> ?_,fun i an=> ?_⟩
  ·rw [a5 i an,if_pos (by omega)]
  ·rw [bu i an,if_pos (by omega)]
set_option maxHeartbeats 2000000 in
theorem Sn (p:Vector ak 4) (l:List a4) (ao:l.length < 2 ^ 30):bg (ym p l) (fun r=> ∃ b:Nat,r=b∧b < 512∧ ((∃ i,i < 512∧bk p i=true∧ ∃ x∈l,bk x.bQ i=true)→bk p b=true)):=by
 unfold ym
 refine bg.loop 512 (fun k s=>s.2.2=(k:Int)∧ (∃ b:Nat,s.1=b∧b < 512∧ ∃ m:Nat,s.2.1=m∧m≤l.length∧ (0 < m→bk p b=true)∧ (m=0→ ∀ i,i < k→bk p i=true→ ∀ x∈l,bk x.bQ i=false))) (by omega)
  ⟨rfl,0,rfl,by omega,0,rfl,by omega,by omega,fun _ i an=>by omega⟩ (fun k s av an=> ?_) (fun s an=> ?_)
 ·obtain⟨Z7,Z8,n⟩:=s; obtain⟨aA,b,aU,cL,m,eO,gz,hE,qz⟩:=an
  simp only at aA aU eO; subst aA; subst aU; subst eO
  refine bg.cond (fun _=> ?_) (fun h=>by simp at h; omega)
  refine(Mu p k av).bind fun al aa=> .cond (fun h=> .ret ⟨ew (by omega),b,rfl,cL,m,rfl,gz,hE,fun hm i an hp=> ?_⟩) (fun h=> ?_)
  ·by_cases j6:i=k
   ·subst j6; rw [aa,hp] at h; simp at h
   ·exact qz hm i (by omega) hp
  ·have ZA:bk p k=true:=by rw [aa] at h; simpa using h
   refine bg.loop l.length (fun j s=>s.2=(j:Int)∧s.1=(((l.take j).countP (fun x=>bk x.bQ k):Nat):Int)) (by omega) ⟨rfl,by simp⟩ (fun j s aE an=> ?_) (fun s an=> ?_)
   ·obtain⟨c,i⟩:=s; obtain⟨az,a5⟩:=an
    simp only at az a5; subst az; subst a5
    refine bg.cond (fun _=> ?_) (fun h=>by simp at h; omega)
    have hle:(l.take j).countP (fun x=>bk x.bQ k)≤j:=Nat.le_trans List.countP_le_length (by rw [List.length_take]; omega)
    have n4:(l.take (j + 1)).countP (fun x=>bk x.bQ k)=(l.take j).countP (fun x=>bk x.bQ k) + (bk (ax l j).bQ k).toNat:=by
     rw [List.take_add_one,List.getElem?_eq_getElem aE,List.countP_append,ey l aE]
     simp [List.countP_cons,List.countP_nil]
     cases bk l[j].bQ k <;> rfl
    refine .idx rfl aE ((Mu _ k av).bind fun aN ae=> .bind (P:=fun r=>r=(((l.take (j + 1)).countP (fun x=>bk x.bQ k):Nat):Int)) (.cond (fun h=> .ret ?_) (fun h=> .ret ?_)) fun r aQ=> .ret ⟨ew (by omega),aQ⟩)
    ·rw [n4,← ae,h,ew (by omega)]; rfl
    ·rw [n4,← ae,h]; rfl
   ·obtain⟨c,i⟩:=s; obtain⟨az,a5⟩:=an
    simp only at az a5; subst az; subst a5
    rw [List.take_length]
    refine⟨_,by simp; rfl,?_⟩
    simp only
    refine .bind (P:=fun r:Int × Int=> ∃ b:Nat,r.1=b∧b < 512∧ ∃ m:Nat,r.2=m∧m≤l.length∧ (0 < m→bk p b=true)∧ (m=0→ ∀ i,i < k + 1→bk p i=true→ ∀ x∈l,bk x.bQ i=false)) (.cond (fun h=> .ret ?_) (fun h=> .ret ?_)) fun r aQ=> .ret ⟨ew (by omega),aQ⟩
    ·simp only [gt_iff_lt,decide_eq_true_eq] at h
     exact⟨k,rfl,av,_,rfl,List.countP_le_length,fun _=>ZA,fun bW=>by omega⟩
    ·simp only [gt_iff_lt,decide_eq_false_iff_not] at h
     refine⟨b,rfl,cL,m,rfl,gz,hE,fun hm i an hp=> ?_⟩
     by_cases j6:i=k
     ·subst j6
      have bW:l.countP (fun x=>bk x.bQ i)=0:=by omega
      intro x aq
      have:=List.countP_eq_zero.1 bW x aq
      simpa using this
     ·exact qz hm i (by omega) hp
 ·obtain⟨Z7,Z8,n⟩:=s; obtain⟨aA,b,aU,cL,m,eO,gz,hE,qz⟩:=an
  simp only at aA aU eO; subst aA; subst aU; subst eO
  refine⟨_,rfl,?_⟩
  refine .ret ⟨b,rfl,cL,fun⟨i,an,hp,x,aq,hm⟩=> ?_⟩
  rcases Nat.eq_zero_or_pos m with bW | bW
  ·have:=qz bW i an hp x aq
   rw [hm] at this; cases this
  ·exact hE bW
set_option maxHeartbeats 2000000 in
theorem RF:∀ (n:Nat) (c:a4) (l:List a4),can c→ (∀ x∈l,can x)→l.length < 2 ^ 30→nfree c < n→bg (qG n c l) (fun r=>r=true↔iN c l):=by
 intro n
 induction n with
 | zero=>intro c l _ _ _ h; omega
 | succ n b1=>
   intro c nz ar Pk hlen aR
   unfold qG
   refine .eq (ze c nz hlen) ?_
   have ao:∀ x∈nz.filter (j9 c),can x:=fun x aq=>Pk x (List.mem_filter.1 aq).1
   have Eo:∀ x∈nz.filter (j9 c),rb c x:=fun x aq=>C5.1 (List.mem_filter.1 aq).2
   have nh:(nz.filter (j9 c)).length < 2 ^ 30:=Nat.lt_of_le_of_lt (List.length_filter_le _ _) hlen
   rw [← LP ar Pk]
   generalize nz.filter (j9 c)=l at ao Eo nh
   refine(Qb (g:=HY c) (fun x aq=>bg.HX ?_) (by omega)).bind fun aN ae=> .cond (fun h=> .ret ?_) (fun h=> ?_)
   ·unfold x5
    refine(SN c x ar (ao x aq)).bind fun r aQ=> .ret ?_
    rw [Bool.eq_iff_iff,F4]; exact aQ
   ·rw [ae,List.any_eq_true] at h
    obtain⟨x,aq,an⟩:=h
    have an:=F4.1 an
    exact⟨fun _ q hq=>⟨x,aq,Um ar (ao x aq) an hq⟩,fun _=>rfl⟩
   ·rw [ae,List.any_eq_false] at h
    have Yq:∀ x∈l,¬ D6 c x:=fun x aq an=>h x aq (F4.2 an)
    refine .cond (fun bW=> .ret ?_) (fun bW=> ?_)
    ·have:l= []:=by
      simp only [beq_iff_eq] at bW
      exact List.length_eq_zero_iff.1 (by omega)
     subst this
     refine⟨fun h=>(by cases h),fun AH=> ?_⟩
     obtain⟨x,aq,_⟩:=AH _ (Na ar)
     cases aq
    ·refine(SY c l nh).bind fun a7 aD=>(SZ c a7.1 a7.2).bind fun bR aV=> ?_
     have Ht:∀ m,m < 512→bk c.bQ m=true→bk bR.bQ m=true:=fun m hm aa=>by rw [aV.1 m hm,aa]; rfl
     have AI:∀ m,m < 512→bk c.bQ m=true→bk bR.bI m=bk c.bI m:=fun m hm aa=>by
      rw [aV.2 m hm,aD.1 m hm]; unfold jE; rw [aa]; simp
     have DJ:can bR:=fun i an aX=>by
      rw [aV.2 i an] at aX
      rw [aV.1 i an]
      simp only [Bool.or_eq_true,Bool.and_eq_true,Bool.not_eq_true'] at aX
      rcases aX with aX | aX
      ·rw [ar i an aX]; rfl
      ·rw [aX.1,aX.2]; simp
     have WX:iN bR l↔iN c l:=by
      constructor
      ·intro AH q hq
       obtain⟨dw,fI⟩:=LO fun i=>if bk c.bQ i=false∧bk bR.bQ i=true then bk bR.bI i else bk q i
       have e3:gm bR dw=true:=(mA DJ).2 fun i an hm=>by
        rw [fI i an]
        cases oI:bk c.bQ i
        ·rw [if_pos ⟨rfl,hm⟩]
        ·rw [if_neg (by simp),(mA ar).1 hq i an oI,AI i an oI]
       obtain⟨x,aq,It⟩:=AH dw e3
       refine⟨x,aq,(mA (ao x aq)).2 fun i an hm=> ?_⟩
       have a1:=(mA (ao x aq)).1 It i an hm
       rw [fI i an] at a1
       by_cases aH:bk c.bQ i=false∧bk bR.bQ i=true
       ·exfalso
        rw [if_pos aH] at a1
        have Bp:=aH.2
        rw [aV.1 i an,aH.1,aD.1 i an,aD.2 i an] at Bp
        rw [aV.2 i an,aD.1 i an,aD.2 i an,CQ ar an aH.1] at a1
        have hw:jE c l (bk x.bI i) i=true:=by
         unfold jE
         rw [aH.1,Bool.not_false,Bool.true_and,List.any_eq_true]
         exact⟨x,aq,by rw [hm]; simp⟩
        cases Bq:bk x.bI i
        ·rw [Bq] at hw a1
         rw [hw] at Bp a1
         cases bo:jE c l true i <;> simp [bo] at Bp a1
        ·rw [Bq] at hw a1
         rw [hw] at Bp a1
         cases bo:jE c l false i <;> simp [bo] at Bp a1
       ·rw [if_neg aH] at a1; exact a1
      ·intro AH q hq
       exact AH q ((mA ar).2 fun i an hm=>by rw [(mA DJ).1 hq i an (Ht i an hm),AI i an hm])
     refine .cond (fun dz=> ?_) (fun he=> ?_)
     ·have dz:bR≠c:=by simpa using dz
      have cw:nfree bR < nfree c:=by
       have:∃ k,k < 512∧bk c.bQ k=false∧bk bR.bQ k=true:=by
        false_or_by_contra
        rename_i gK
        have hm:∀ i,i < 512→bk bR.bQ i=bk c.bQ i:=fun i an=>by
         cases a1:bk c.bQ i
         ·cases bo:bk bR.bQ i
          ·rfl
          ·exact absurd ⟨i,an,a1,bo⟩ gK
         ·exact Ht i an a1
        have aX:∀ i,i < 512→bk bR.bI i=bk c.bI i:=fun i an=>by
         cases a1:bk c.bQ i
         ·rw [CQ ar an a1]
          exact CQ DJ an (by rw [hm i an,a1])
         ·exact AI i an a1
        apply dz
        obtain⟨a,b⟩:=bR; obtain⟨ie,b'⟩:=c
        simp only at hm aX
        rw [wq hm,wq aX]
       obtain⟨k,a1,bo,cX⟩:=this
       exact LQ a1 Ht bo cX
      refine(b1 bR l DJ ao nh (by omega)).bind fun br a1=> .ret ?_
      rw [a1,WX]
     ·have he:bR=c:=by simpa using he
      have Yr:∃ i,i < 512∧bk a7.1 i=true∧ ∃ x∈l,bk x.bQ i=true:=by
       have dz:l≠ []:=fun e=>by subst e; simp at bW
       obtain⟨x,r,Iz⟩:=List.exists_cons_of_ne_nil dz
       have aq:x∈l:=by rw [Iz]; simp
       have:∃ i,i < 512∧bk x.bQ i=true∧bk c.bQ i=false:=by
        false_or_by_contra
        rename_i gK
        refine Yq x aq fun i an hm=> ?_
        cases a1:bk c.bQ i
        ·exact absurd ⟨i,an,hm,a1⟩ gK
        ·exact⟨rfl,Eo x aq i an a1 hm⟩
       obtain⟨i,an,Bl,oI⟩:=this
       refine⟨i,an,?_,x,aq,Bl⟩
       have a1:=aV.1 i an
       rw [he,oI] at a1
       simp only [Bool.false_or] at a1
       have hw:jE c l (bk x.bI i) i=true:=by
        unfold jE
        rw [oI,Bool.not_false,Bool.true_and,List.any_eq_true]
        exact⟨x,aq,by rw [Bl]; simp⟩
       rw [aD.1 i an,aD.2 i an] at a1
       rw [aD.1 i an]
       cases Bq:bk x.bI i
       ·rw [Bq] at hw; exact hw
       ·rw [Bq] at hw
        rw [hw] at a1
        cases bo:jE c l false i
        ·rw [bo] at a1; simp at a1
        ·rfl
      refine(Sn a7.1 l nh).bind fun b8 bo=> ?_
      obtain⟨b,rfl,hb,pn⟩:=bo
      have Bo:=pn Yr
      have p6:bk c.bQ b=false:=by
       rw [aD.1 b hb] at Bo
       unfold jE at Bo
       simp only [Bool.and_eq_true,Bool.not_eq_true'] at Bo
       exact Bo.1
      refine(CR hb p6 false).bind fun cD cX=>(b1 cD l (CH ar cX) ao nh (by have:=Li hb p6 cX; omega)).bind fun dL eP=> ?_
      refine .c4 (P:=ue c b true) (fun _=>CR hb p6 true) fun fU fO=> ?_
      refine .c4 (P:=fun r=>r=true↔iN fU l) (fun lb=>b1 fU l (CH ar (fO lb)) ao nh (by have:=Li hb p6 (fO lb); omega)) fun hJ jK=> .ret ?_
      rw [Bool.and_eq_true]
      obtain⟨aaA,_,I9⟩:=CR hb p6 true
      rw [yT ar hb p6 cX I9]
      constructor
      ·rintro ⟨bn,pt⟩
       refine⟨eP.1 bn,?_⟩
       have:=(yT (l:=l) ar hb p6 cX (fO bn)).2 ⟨eP.1 bn,(jK bn).1 pt⟩
       exact((yT (l:=l) ar hb p6 cX I9).1 this).2
      ·rintro ⟨bn,pt⟩
       have Ja:=eP.2 bn
       refine⟨Ja,(jK Ja).2 ?_⟩
       have:=(yT (l:=l) ar hb p6 cX I9).2 ⟨bn,pt⟩
       exact((yT (l:=l) ar hb p6 cX (fO Ja)).1 this).2
theorem Ft (c:a4) (l:List a4) (ar:can c) (ao:∀ x∈l,can x) (hlen:l.length < 2 ^ 30):bg (yn c l) (fun r=>r=true↔iN c l):=
 RF eo c l ar ao hlen (by have:=Tw c; unfold eo; omega)
theorem RX (c:a4) (l:List a4) (ar:can c) (ao:∀ x∈l,can x) (hlen:l.length < 2 ^ 30):
 bg (vB c l) (fun r=>if (l.filter (j9 c)).length > 16 then r=(false,26) else(r.2=0∧ (r.1=true↔iN c l))):=by
 unfold vB
 refine .eq (ze c l hlen) (.cond (fun h=> .ret ?_) (fun h=> ?_))
 ·rw [if_pos (by have:=of_decide_eq_true h; omega)]
 ·have xl:∀ x∈l.filter (j9 c),can x:=fun x aq=>ao x (List.mem_filter.1 aq).1
  have nh:(l.filter (j9 c)).length < 2 ^ 30:=Nat.lt_of_le_of_lt (List.length_filter_le _ _) hlen
  refine(Ft c _ ar xl nh).bind fun y a6=> .ret ?_
  rw [if_neg (by have:=of_decide_eq_false h; omega)]
  exact⟨rfl,by rw [a6,LP ar ao]⟩
end Go.Proofs.YtmnggbjcnoffeaaGreat
namespace Go.Proofs.YtmnggbjcnoffeaaGreat
open Go Gv
set_option linter.unusedVariables false
set_option linter.unusedSimpArgs false
set_option maxRecDepth 100000
theorem kM.cons_inv {α β:Type} {R:α→β→Prop} {x:α} {xs:List α} {ys:List β} (h:kM R (x :: xs) ys):∃ y r,ys=y :: r∧R x y∧kM R xs r:=by
 obtain⟨aa,ae⟩:=h
 cases ys with
 | nil=>simp at aa
 | cons y r=>
   refine⟨y,r,rfl,ae 0 (by simp) (by simp),by simpa using aa,fun t cj nv=> ?_⟩
   have:=ae (t + 1) (by simp; omega) (by simp; omega)
   simpa using this
theorem kM.Un {α β:Type} {R:α→β→Prop} {ys:List β} (h:kM R [] ys):ys= []:=by
 have:=h.1
 cases ys with
 | nil=>rfl
 | cons y r=>simp at this
theorem kM.cons {α β:Type} {R:α→β→Prop} {x:α} {y:β} :∀ {xs:List α} {ys:List β},R x y→kM R xs ys→kM R (x :: xs) (y :: ys):=fun {xs ys} h k=>
 ⟨by simp [k.1],fun t cj nv=>by
  cases t with
  | zero=>exact h
  | succ t=>simpa using k.2 t (by simpa using cj) (by simpa using nv)⟩
theorem kM.filter {α β:Type} {R:α→β→Prop} {f:α→Bool} {g:β→Bool} :∀ {xs:List α} {ys:List β},kM R xs ys→ (∀ x∈xs,∀ y,R x y→f x=g y)→kM R (xs.filter f) (ys.filter g)
 | [],ys,h,_=>by rw [h.Un]; exact .nil
 | x :: xs,ys,h,a8=>by
   obtain⟨y,r,rfl,aa,ae⟩:=h.cons_inv
   have b1:=kM.filter ae (fun x aq=>a8 x (by simp [aq]))
   have:=a8 x (by simp) y aa
   simp only [List.filter_cons,this]
   cases g y
   ·exact b1
   ·exact .cons aa b1
theorem kM.ex {α β:Type} {R:α→β→Prop} {xs:List α} {ys:List β} (h:kM R xs ys) {P:α→Prop} {Q:β→Prop} (hp:∀ x∈xs,∀ y,R x y→ (P x↔Q y)):(∃ x∈xs,P x)↔ ∃ y∈ys,Q y:=by
 constructor
 ·rintro ⟨x,aq,aa⟩
  obtain⟨t,cj,rfl⟩:=List.mem_iff_getElem.1 aq
  have nv:t < ys.length:=by rw [← h.1]; exact cj
  exact⟨ys[t],List.getElem_mem nv,(hp _ (List.getElem_mem cj) _ (h.2 t cj nv)).1 aa⟩
 ·rintro ⟨y,a6,aa⟩
  obtain⟨t,nv,rfl⟩:=List.mem_iff_getElem.1 a6
  have cj:t < xs.length:=by rw [h.1]; exact nv
  exact⟨xs[t],List.getElem_mem cj,(hp _ (List.getElem_mem cj) _ (h.2 t cj nv)).2 aa⟩
abbrev n6:=Vector ak 4
end Go.Proofs.YtmnggbjcnoffeaaGreat
namespace Go.Proofs.YtmnggbjcnoffeaaGreat
open Go Gv
set_option linter.unusedVariables false
set_option linter.unusedSimpArgs false
set_option maxRecDepth 100000
theorem Ru (c:a4) (l:List a4) (ar:can c) (ao:∀ x∈l,can x) (hlen:l.length≤16):bg (vB c l) (fun r=>r.2=0∧ (r.1=true↔iN c l)):=
 (RX c l ar ao (by omega)).mono fun r h=>by
  rw [if_neg (by have:=List.length_filter_le (j9 c) l; omega)] at h; exact h
end Go.Proofs.YtmnggbjcnoffeaaGreat
namespace Go.Proofs.YtmnggbjcnoffeaaGreat
open Go Gv
set_option linter.unusedVariables false
set_option linter.unusedSimpArgs false
set_option maxRecDepth 100000
structure mB (C U:n6→Prop) (k:Nat) (S:n6→Prop):Prop where
 some_:∃ q,S q∧U q
 sub:∀ q,S q→C q
 same:∀ q dw,S q→S dw→ ∀ j,j < k→bk q j=bk dw j
 least:∀ dw,C dw→U dw→S dw∨ ∀ q,S q→ ∃ i,i < k∧bk q i=false∧bk dw i=true∧ ∀ j,j < i→bk q j=bk dw j
theorem mB.skip {C U S:n6→Prop} {k:Nat} (g:mB C U k S) (h:∀ q dw,S q→S dw→bk q k=bk dw k):mB C U (k + 1) S where
 some_:=g.some_
 sub:=g.sub
 same q dw hq fI j aE:=by
  by_cases js:j=k
  ·subst js; exact h q dw hq fI
  ·exact g.same q dw hq fI j (by omega)
 least dw ar hu:=by
  rcases g.least dw ar hu with aa | aa
  ·exact .inl aa
  ·refine .inr fun q hq=> ?_
   obtain⟨i,ae,aD⟩:=aa q hq
   exact⟨i,by omega,aD⟩
theorem mB.zero {C U S:n6→Prop} {k:Nat} (g:mB C U k S) (h:∃ q,(S q∧bk q k=false)∧U q):mB C U (k + 1) (fun q=>S q∧bk q k=false) where
 some_:=h
 sub q hq:=g.sub q hq.1
 same q dw hq fI j aE:=by
  by_cases js:j=k
  ·subst js; rw [hq.2,fI.2]
  ·exact g.same q dw hq.1 fI.1 j (by omega)
 least dw ar hu:=by
  rcases g.least dw ar hu with aa | aa
  ·cases ae:bk dw k
   ·exact .inl ⟨aa,rfl⟩
   ·exact .inr fun q hq=>⟨k,by omega,hq.2,ae,fun j aE=>g.same q dw hq.1 aa j aE⟩
  ·refine .inr fun q hq=> ?_
   obtain⟨i,ae,aD⟩:=aa q hq.1
   exact⟨i,by omega,aD⟩
theorem mB.one {C U S:n6→Prop} {k:Nat} (g:mB C U k S) (h: ¬ ∃ q,(S q∧bk q k=false)∧U q):mB C U (k + 1) (fun q=>S q∧bk q k=true) where
 some_:=by
  obtain⟨q,aa,ae⟩:=g.some_
  refine⟨q,⟨aa,?_⟩,ae⟩
  cases aD:bk q k
  ·exact absurd ⟨q,⟨aa,aD⟩,ae⟩ h
  ·rfl
 sub q hq:=g.sub q hq.1
 same q dw hq fI j aE:=by
  by_cases js:j=k
  ·subst js; rw [hq.2,fI.2]
  ·exact g.same q dw hq.1 fI.1 j (by omega)
 least dw ar hu:=by
  rcases g.least dw ar hu with aa | aa
  ·cases ae:bk dw k
   ·exact absurd ⟨dw,⟨aa,ae⟩,hu⟩ h
   ·exact .inl ⟨aa,rfl⟩
  ·refine .inr fun q hq=> ?_
   obtain⟨i,ae,aD⟩:=aa q hq.1
   exact⟨i,by omega,aD⟩
theorem mB.congr {C U S JJ:n6→Prop} {k:Nat} (g:mB C U k S) (h:∀ q,JJ q↔S q):mB C U k JJ:=by
 have:JJ=S:=funext fun q=>propext (h q)
 rw [this]; exact g
def su (C U:n6→Prop) (q:n6):Prop:=C q∧U q∧ ∀ dw,C dw→U dw→dw=q∨ ∃ i,i < 512∧bk q i=false∧bk dw i=true∧ ∀ j,j < i→bk q j=bk dw j
theorem su.uniq {C U:n6→Prop} {q dw:n6} (h:su C U q) (cZ:su C U dw):q=dw:=by
 rcases h.2.2 dw cZ.1 cZ.2.1 with aa | ⟨i,_,ae,aD,aV⟩
 ·exact aa.symm
 rcases cZ.2.2 q h.1 h.2.1 with aa | ⟨j,_,a5,bu,cM⟩
 ·exact aa
 exfalso
 rcases Nat.lt_trichotomy i j with ao | ao | ao
 ·have:=cM i ao; rw [ae,aD] at this; cases this
 ·subst ao; rw [ae] at bu; cases bu
 ·have:=aV j ao; rw [a5,bu] at this; cases this
theorem mB.done {C U S:n6→Prop} (g:mB C U 512 S) {q:n6} (hq:S q):su C U q:=by
 have jG:∀ dw,S dw→dw=q:=fun dw fI=>wq fun i an=>g.same dw q fI hq i an
 obtain⟨w,aa,ae⟩:=g.some_
 rw [jG w aa] at ae
 refine⟨g.sub q hq,ae,fun dw ar hu=> ?_⟩
 rcases g.least dw ar hu with aD | aD
 ·exact .inl (jG dw aD)
 ·exact .inr (aD q hq)
def out (l:List a4) (q:n6):Prop:= ∀ x∈l,¬ gm x q=true
theorem v9 {c:a4} {l:List a4} : ¬ iN c l↔ ∃ q,gm c q=true∧out l q:=by
 constructor
 ·intro h
  false_or_by_contra
  rename_i aa
  refine h fun q hq=> ?_
  false_or_by_contra
  rename_i ae
  exact aa ⟨q,hq,fun x aq an=>ae ⟨x,aq,an⟩⟩
 ·rintro ⟨q,aa,ae⟩ ar
  obtain⟨x,aq,an⟩:=ar q aa
  exact ae x aq an
def asks (c:a4) (n l:List a4):Prop:= ∀ q,gm c q=true→ (out n q↔out l q)
theorem FP {c d:a4} {n l:List a4} (hd:can d) (aR:∀ x∈n,can x) (h:asks c n l) (kJ:∀ q,gm d q=true→gm c q=true):asks d (n.filter (j9 d)) l:=fun q hq=>by
 rw [← h q (kJ q hq)]
 constructor
 ·intro aa x aq an
  exact aa x (List.mem_filter.2 ⟨aq,C5.2 (KH hd (aR x aq) hq an)⟩) an
 ·intro aa x aq an
  exact aa x (List.mem_filter.1 aq).1 an
theorem LR {c:a4} {n l:List a4} (h:asks c n l):iN c n↔iN c l:=by
 constructor
 ·intro aa
  false_or_by_contra
  rename_i ae
  obtain⟨q,aD,aV⟩:=v9.1 ae
  exact v9.2 ⟨q,aD,(h q aD).2 aV⟩ aa
 ·intro aa
  false_or_by_contra
  rename_i ae
  obtain⟨q,aD,aV⟩:=v9.1 ae
  exact v9.2 ⟨q,aD,(h q aD).1 aV⟩ aa
set_option maxHeartbeats 2000000 in
theorem RY (c:a4) (l:List a4) (ar:can c) (ao:∀ x∈l,can x) (hlen:l.length < 2 ^ 30):
 bg (yo c l) (fun r=>if (l.filter (j9 c)).length > 16 then r=(default,false,26) else((iN c l→r=(default,false,0))∧ (¬ iN c l→ ∃ q,r=(q,true,0)∧su (fun q=>gm c q=true) (out l) q))):=by
 unfold yo
 refine .eq (ze c l hlen) (.cond (fun h=> .ret ?_) (fun h=> ?_))
 ·rw [if_pos (by have:=of_decide_eq_true h; omega)]
 have rC: ¬ (l.filter (j9 c)).length > 16:=by have:=of_decide_eq_false h; omega
 simp only [if_neg rC]
 have xl:∀ x∈l.filter (j9 c),can x:=fun x aq=>ao x (List.mem_filter.1 aq).1
 have nh:(l.filter (j9 c)).length < 2 ^ 30:=Nat.lt_of_le_of_lt (List.length_filter_le _ _) hlen
 have OB:asks c (l.filter (j9 c)) l:=FP ar ao (fun q _=>Iff.rfl) fun q hq=>hq
 refine(Ft c _ ar xl nh).bind fun aN ae=> ?_
 rw [LR OB] at ae
 refine .cond (fun aD=> .ret ⟨fun _=>rfl,fun aR=>absurd (ae.1 aD) aR⟩) (fun aD=> ?_)
 have Pl: ¬ iN c l:=fun qp=>by rw [ae.2 qp] at aD; cases aD
 refine bg.loop 512 (fun k s=>s.2.1=(k:Int)∧can s.2.2∧ (∀ x∈s.1,can x)∧s.1.length < 2 ^ 30∧asks s.2.2 s.1 l∧ (∀ j,j < k→bk s.2.2.bQ j=true)∧mB (fun q=>gm c q=true) (out l) k (fun q=>gm s.2.2 q=true)) (by omega)
  ⟨rfl,ar,xl,nh,OB,fun j aE=>by omega,⟨v9.1 Pl,fun q hq=>hq,fun _ _ _ _ j aE=>by omega,fun dw aa _=> .inl aa⟩⟩ (fun k s av an=> ?_) (fun s an=> ?_)
 ·obtain⟨n,pI,d⟩:=s; obtain⟨aA,hd,aR,lP,xm,xn,bP⟩:=an
  simp only at aA hd aR lP xm xn bP; subst aA
  refine bg.cond (fun _=> ?_) (fun h=>by simp at h; omega)
  refine(M0 d k av false).bind fun a7 bu=> .cond (fun h=> .ret ?_) (fun h=> ?_)
  ·have he:a7=d:=by simpa using h
   have hm:bk d.bQ k=true:=by
    cases hm:bk d.bQ k
    ·have:=(bu.2 hm).1 k av
     rw [he,hm] at this; simp at this
    ·rfl
   refine⟨ew (by omega),hd,aR,lP,xm,fun j aE=> ?_,bP.skip fun q dw hq fI=> ?_⟩
   ·by_cases js:j=k
    ·subst js; exact hm
    ·exact xn j (by omega)
   ·rw [(mA hd).1 hq k av hm,(mA hd).1 fI k av hm]
  ·have hm:bk d.bQ k=false:=by
    cases hm:bk d.bQ k
    ·rfl
    ·rw [bu.1 hm] at h; simp at h
   have bu:=bu.2 hm
   have n3:can a7:=CH hd bu
   have HZ:=vU hd av hm bu
   have WY:∀ q,gm a7 q=true→gm d q=true:=fun q hq=>by rw [HZ,Bool.and_eq_true] at hq; exact hq.1
   refine .eq (ze a7 n lP) ((Ft a7 _ n3 (fun x aq=>aR x (List.mem_filter.1 aq).1) (Nat.lt_of_le_of_lt (List.length_filter_le _ _) lP)).bind fun br gO=> ?_)
   have OC:=FP n3 aR xm WY
   rw [LR OC] at gO
   refine .cond (fun a1=> .ret ?_) (fun a1=> ?_)
   ·have Ys: ¬ iN a7 l:=fun qp=>by rw [gO.2 qp] at a1; cases a1
    obtain⟨w,sW,qj⟩:=v9.1 Ys
    have hs:∀ q,gm a7 q=true↔gm d q=true∧bk q k=false:=fun q=>by rw [HZ,Bool.and_eq_true,beq_iff_eq]
    refine⟨ew (by omega),n3,fun x aq=>aR x (List.mem_filter.1 aq).1,Nat.lt_of_le_of_lt (List.length_filter_le _ _) lP,OC,fun j aE=> ?_,(bP.zero ⟨w,(hs w).1 sW,qj⟩).congr hs⟩
    rw [bu.1 j (by omega)]
    by_cases js:j=k
    ·subst js; simp
    ·rw [xn j (by omega)]; rfl
   ·have lM:iN a7 l:=gO.1 (by simpa using a1)
    refine(CR av hm true).bind fun b8 kX=> ?_
    have Pm:can b8:=CH hd kX
    have OD:=vU hd av hm kX
    have WZ:∀ q,gm b8 q=true→gm d q=true:=fun q hq=>by rw [OD,Bool.and_eq_true] at hq; exact hq.1
    refine .eq (ze b8 n lP) (.ret ?_)
    have hs:∀ q,gm b8 q=true↔gm d q=true∧bk q k=true:=fun q=>by rw [OD,Bool.and_eq_true,beq_iff_eq]
    refine⟨ew (by omega),Pm,fun x aq=>aR x (List.mem_filter.1 aq).1,Nat.lt_of_le_of_lt (List.length_filter_le _ _) lP,FP Pm aR xm WZ,fun j aE=> ?_,(bP.one ?_).congr hs⟩
    ·rw [kX.1 j (by omega)]
     by_cases js:j=k
     ·subst js; simp
     ·rw [xn j (by omega)]; rfl
    ·rintro ⟨q,⟨aa,ae⟩,aD⟩
     obtain⟨x,aq,an⟩:=lM q (by rw [HZ,aa,ae]; rfl)
     exact aD x aq an
 ·obtain⟨n,pI,d⟩:=s; obtain⟨aA,hd,aR,lP,xm,xn,bP⟩:=an
  simp only at aA hd aR lP xm xn bP; subst aA
  refine⟨_,by simp; rfl,?_⟩
  exact .ret ⟨fun qp=>absurd qp Pl,fun _=>⟨d.bI,rfl,bP.done (Na hd)⟩⟩
end Go.Proofs.YtmnggbjcnoffeaaGreat
namespace Go.Proofs.YtmnggbjcnoffeaaGreat
open Go Gv
set_option linter.unusedVariables false
set_option linter.unusedSimpArgs false
set_option maxRecDepth 100000
def km (s:a2) (k:Nat):Bool:=(ax s.bm k).bx.any fun key=>key.cg ==4
def ig (s:a2) (e:bJ):a4:=((sd s e).getD default).1
theorem C6 {s:a2} {k:Nat} (h:km s k=false):∀ i,i < (ax s.bm k).bx.length→ (ax (ax s.bm k).bx i).cg≠4:=fun i an=>by
 unfold km at h
 rw [List.any_eq_false] at h
 have:=h (ax (ax s.bm k).bx i) (by rw [ey _ an]; exact List.getElem_mem _)
 simpa using this
theorem Ab {s:a2} (h:c5 s) {k:Nat} (av:k < 4) (aQ:km s k=false) {e:bJ} (he:hR s k e):sd s e=some (ig s e,true)∧ ∀ c j,c < 4→j < 128→
 bL (bD (ig s e).bQ c) j=(decide (c < (ax s.bm k).bx.length) && lW (ax (ax s.bm k).bx c) (ax e.bY c) j)∧
 bL (bD (ig s e).bI c) j=(decide (c < (ax s.bm k).bx.length) && (bL (ax e.bY c).bI j && lW (ax (ax s.bm k).bx c) (ax e.bY c) j)):=by
 obtain⟨r,aa,ae⟩:=Uh h av he
 rcases ae with⟨_,_,i,an,aV⟩ | ⟨ae,_,aD⟩
 ·exact absurd aV (C6 aQ i an)
 ·obtain⟨a,b⟩:=r
  simp only at ae aD
  subst ae
  have:ig s e=a:=by unfold ig; rw [aa]; rfl
  rw [this]
  exact⟨aa,aD⟩
theorem De {s:a2} (h:c5 s) {k:Nat} (av:k < 4) (aQ:km s k=false) {e:bJ} (he:hR s k e):can (ig s e):=fun i an aX=>by
 obtain⟨_,ae⟩:=Ab h av aQ he
 have aD:=ae (i / 128) (127 - i % 128) (by omega) (by omega)
 unfold bk at aX ⊢
 rw [aD.2] at aX
 rw [aD.1]
 simp only [Bool.and_eq_true] at aX ⊢
 exact⟨aX.1,aX.2.2⟩
def EB (s:a2) (k:Nat) (p:Vector ak 4):Prop:= ∀ c j,c < (ax s.bm k).bx.length→j < 128→bL (bD p c) j=true→ (j:Int) < eC (ax (ax s.bm k).bx c)
theorem DK {s:a2} (h:c5 s) {k:Nat} (av:k < 4) (aQ:km s k=false) {e:bJ} (he:hR s k e) {p:Vector ak 4} (hp:EB s k p):gm (ig s e) p=true↔mt s k p e=true:=by
 have cT:=(RW h av he p hp).of_eq (KE h av he p) (C6 aQ)
 obtain⟨_,aq⟩:=Ab h av aQ he
 obtain⟨t1,⟨t2,t3⟩,t4,_⟩:=h.hL av
 rw [cT,C0]
 constructor
 ·intro e3 c j ar aE
  have Jb:=e3 (c * 128 + (127 - j)) (by omega)
  unfold bk at Jb
  rw [show(c * 128 + (127 - j)) / 128=c by omega,show 127 - (c * 128 + (127 - j)) % 128=j by omega,(aq c j (by omega) aE).1,(aq c j (by omega) aE).2,decide_eq_true ar,Bool.true_and,Bool.true_and] at Jb
  exact Jb
 ·intro jG i an
  unfold bk
  rw [(aq (i / 128) (127 - i % 128) (by omega) (by omega)).1,(aq (i / 128) (127 - i % 128) (by omega) (by omega)).2]
  by_cases ar:i / 128 < (ax s.bm k).bx.length
  ·rw [decide_eq_true ar,Bool.true_and,Bool.true_and]
   exact jG _ _ ar (by omega)
  ·rw [decide_eq_false ar]; simp
def ju (s:a2) (k:Nat) (l:List aI) (i:aI):List a4:=(l.filter fun c=>eF s k c i).map fun c=>ig s c.b2
theorem Mv {s:a2} (h:c5 s) {k:Nat} (av:k < 4) (aQ:km s k=false) {l:List aI} (ao:h3 s k l) (i:aI):∀ x∈ju s k l i,can x:=fun x aq=>by
 obtain⟨c,ar,rfl⟩:=List.mem_map.1 aq
 exact De h av aQ (ao.ok c (List.mem_filter.1 ar).1).eN
theorem Gw {s:a2} {k:Nat} {l:List aI} {i:aI} :(ju s k l i).length≤l.length:=by
 unfold ju; rw [List.length_map]; exact List.length_filter_le _ _
theorem W0 {s:a2} (h:c5 s) {k:Nat} (av:k < 4):xA (ax s.bm k).bx BZ=some (km s k):=by
 refine bg.get ?_
 unfold xA
 have ao:=(h.hL av).2.1
 refine(J7 (g:=fun key=>key.cg ==4) (fun x aq=>rfl) (by omega)).bind fun r aQ=> .ret ?_
 unfold km
 rcases aQ with⟨rfl,aQ⟩ | ⟨i,aa,rfl,aD,aV⟩
 ·rw [List.any_eq_false.2 fun x aq=>by simp [aQ x aq]]; rfl
 ·rw [List.any_eq_true.2 ⟨ax (ax s.bm k).bx i,by rw [ey _ aa]; exact List.getElem_mem _,aD⟩]
  simp
theorem KI {s:a2} (h:c5 s) {k:Nat} (av:k < 4) {l:List aI} (ao:h3 s k l) {i:aI} (an:i∈l):
 vy s l i.cH=some (if km s k=true then(default,[],13) else(ig s i.b2,ju s k l i,0)):=by
 refine bg.get ?_
 unfold vy
 have hlen:=ao.len
 have ef:=(ao.ok i an).eN
 refine(JR (g:=fun c=>c.cH ==i.cH) (fun x aq=>rfl) (by omega)).bind fun r aQ=> ?_
 rcases aQ with⟨_,aQ⟩ | ⟨a,aa,rfl,aD,_⟩
 ·have:=aQ i an; simp at this
 have hm:ax l a∈l:=by rw [ey _ aa]; exact List.getElem_mem _
 have Jc:ax l a=i:=ao.uniq hm an (by simpa using aD)
 refine .cond (fun ar=>by simp at ar; omega) fun _=> .idx rfl aa ?_
 rw [Jc,ef.hL]
 refine(yI h av).bind fun aN aU=> ?_
 subst aU
 have PD:decide ((k:Int)≥0)=true:=by rw [decide_eq_true_eq]; omega
 rw [PD]
 refine .c4 (P:=fun c=>c=k) (fun _=>⟨k,oi (by rw [h.kk]; exact av),rfl⟩) fun b0 cL=> ?_
 rw [cL rfl]
 refine .c4 (P:=fun c=>c=km s k) (fun _=>⟨_,W0 h av,rfl⟩) fun a7 eO=> ?_
 rw [eO rfl,Bool.true_and]
 refine .cond (fun aQ=> .ret (by rw [if_pos aQ])) fun aQ=> .idx rfl aa ?_
 rw [Jc]
 refine .eq (Ab h av aQ ef).1 (.idx rfl aa ?_)
 rw [Jc]
 refine .eq rfl ?_
 rw [if_neg (by simp [aQ])]
 unfold xU
 simp only
 refine .bind (P:=fun e:(List a4 × List a4) ⊕ Empty=>e= .inl (ju s k l i,[])) (.bind (P:=fun e=> ∃ a b,e= .inl (a,b,ju s k l i,[])) (bg.DI l.length (fun j st=>st=((j:Int),(ju s k (l.take j) i,[]))) (by omega) rfl (fun j st aE hs=> ?_) (fun st hs=> ?_)) fun e he=>by obtain⟨a,b,rfl⟩:=he; exact .ret rfl) fun e he=>by subst he; exact .ret rfl
 ·subst hs
  refine .cond (fun _=> ?_) (fun ar=>by simp at ar; omega)
  have aq:ax l j∈l:=by rw [ey _ aE]; exact List.getElem_mem _
  have Pn:=(ao.ok _ aq).eN
  have hw:ju s k (l.take (j + 1)) i=if eF s k (ax l j) i=true then ju s k (l.take j) i ++ [ig s (ax l j).b2] else ju s k (l.take j) i:=by
   unfold ju
   rw [r6 l aE,List.filter_append]
   by_cases hb:eF s k (ax l j) i=true
   ·rw [if_pos hb,show [ax l j].filter (fun c=>eF s k c i)= [ax l j] from by simp [hb],List.map_append]; rfl
   ·rw [if_neg hb,show [ax l j].filter (fun c=>eF s k c i)= [] from by simp [hb],List.append_nil]
  refine .idx rfl aE (.eq (FO h av Pn ef) (.cond (fun aR=> .ret ?_) fun hb=> .eq (Ab h av aQ Pn).1 (.cond (fun _=> ?_) fun ar=>by cases ar)))
  ·rw [Bool.not_eq_true'] at aR
   rw [hw,aR,ew (by omega)]; rfl
  ·rw [Bool.not_eq_false'] at hb
   have hle:=Gw (s:=s) (k:=k) (l:=l.take j) (i:=i)
   rw [List.length_take] at hle
   refine .eq (a:=(Sum.inl (ju s k (l.take j) i ++ [ig s (ax l j).b2],[]):(List a4 × List a4) ⊕ Empty)) ?_ ?_
   ·show(gu 128 (ju s k (l.take j) i) [ig s (ax l j).b2]).bind _=_
    rw [iy _ _ (by simp; omega) (by omega)]; rfl
   ·simp only [Sum.elim_inl]
    refine .ret ?_
    rw [hw,if_pos hb,ew (by omega)]
 ·subst hs
  refine .cond (fun ar=>by simp at ar) fun _=> .ret ?_
  rw [List.take_length]
  exact⟨_,_,rfl⟩
theorem Tx {s:a2} (h:c5 s) {k:Nat} (av:k < 4) {l:List aI} (ao:h3 s k l) (hlen:l.length≤16) {i:aI} (an:i∈l):
 bg (tw s l i.cH) (fun r=>(km s k=true→r=(false,13))∧ (km s k=false→r.2=0∧ (r.1=true↔iN (ig s i.b2) (ju s k l i)))):=by
 unfold tw
 refine .eq (KI h av ao an) ?_
 cases aQ:km s k with
 | true=>
   refine .cond (fun _=> .ret ⟨fun _=>rfl,fun ar=>by cases ar⟩) fun ar=>by simp at ar
 | false=>
   refine .cond (fun ar=>by simp at ar) fun _=> ?_
   simp only [Bool.false_eq_true,if_false]
   have hw:=Gw (s:=s) (k:=k) (l:=l) (i:=i)
   refine(Ru _ _ (De h av aQ (ao.ok i an).eN) (Mv h av aQ ao i) (by omega)).bind fun y a6=> .ret ⟨fun ar=>(by cases ar),fun _=>a6⟩
theorem U2 {s:a2} (h:c5 s) {k:Nat} (av:k < 4) {l:List aI} (ao:h3 s k l) (hlen:l.length≤16) {i:aI} (an:i∈l) (aQ:km s k=false):
 bg (yf s l i.cH) (fun r=>(iN (ig s i.b2) (ju s k l i)→r=(default,false,0))∧ (¬ iN (ig s i.b2) (ju s k l i)→ ∃ q,r=(q,true,0)∧su (fun q=>gm (ig s i.b2) q=true) (out (ju s k l i)) q)):=by
 unfold yf
 refine .eq (KI h av ao an) ?_
 simp only [aQ,Bool.false_eq_true,if_false]
 refine .cond (fun ar=>by simp at ar) fun _=> ?_
 have hw:=Gw (s:=s) (k:=k) (l:=l) (i:=i)
 refine(RY _ _ (De h av aQ (ao.ok i an).eN) (Mv h av aQ ao i) (by omega)).bind fun y a6=> .ret ?_
 rw [if_neg (by have:=List.length_filter_le (j9 (ig s i.b2)) (ju s k l i); omega)] at a6
 exact a6
end Go.Proofs.YtmnggbjcnoffeaaGreat
namespace Go.Proofs.YtmnggbjcnoffeaaGreat
open Go Gv
set_option linter.unusedVariables false
set_option linter.unusedSimpArgs false
set_option maxRecDepth 100000
theorem Own.iff {hp hp':a9 Cell} {t:Nat} {c:ga} (ar:gE hp t=some c) (h:∀ q,Own hp t q→pat hp' q=pat hp q):gE hp' t=some c∧ (∀ bC,dH hp' c.db bC=dH hp c.db bC)∧ ∀ q,Own hp' t q↔Own hp t q:=by
 have aa:gE hp' t=some c:=by rw [Fq (h t (.inl rfl))]; exact ar
 have ae:∀ bC,dH hp' c.db bC=dH hp c.db bC:=fun bC=>Le fun p cs hp=>yG (h p (.inr ⟨c,cs,ar,hp⟩))
 refine⟨aa,ae,fun q=>⟨fun hq=> ?_,fun hq=> ?_⟩⟩
 ·rcases hq with rfl | ⟨jP,bC,az,a5⟩
  ·exact .inl rfl
  ·rw [aa] at az; cases az
   rw [ae] at a5
   exact .inr ⟨c,bC,ar,a5⟩
 ·rcases hq with rfl | ⟨jP,bC,az,a5⟩
  ·exact .inl rfl
  ·rw [ar] at az; cases az
   exact .inr ⟨c,bC,aa,by rw [ae]; exact a5⟩
theorem kH.congr {hp hp':a9 Cell} {t:Nat} {g:List Bool→Option Int} (h:kH hp t g) (bn:∀ q,Own hp t q→pat hp' q=pat hp q):kH hp' t g∧ ∀ q,Own hp' t q↔Own hp t q:=by
 obtain⟨c,ar,hb,cj,bP⟩:=h.ok
 obtain⟨aa,ae,aD⟩:=Own.iff ar bn
 refine⟨⟨⟨c,aa,hb,⟨fun bC p hp=> ?_,fun bC cs p az a5=> ?_,fun bC p az=>cj.dep bC p (by rw [← ae]; exact az)⟩,fun bC=> ?_⟩⟩,aD⟩
 ·rw [ae] at hp
  obtain⟨d,hd⟩:=cj.reads bC p hp
  exact⟨d,by rw [yG (bn p (.inr ⟨c,bC,ar,hp⟩))]; exact hd⟩
 ·rw [ae] at az a5
  exact cj.inj bC cs p az a5
 ·rw [← bP]
  cases e:dH hp c.db bC with
  | none=>rw [nJ e,nJ (by rw [ae]; exact e)]
  | some p=>
    obtain⟨d,hd⟩:=cj.reads bC p e
    rw [m9 e hd,m9 (by rw [ae]; exact e) (by rw [yG (bn p (.inr ⟨c,bC,ar,e⟩))]; exact hd)]
theorem kH.wv {hp:a9 Cell} {t:Nat} {g:List Bool→Option Int} (h:kH hp t g) {q:Nat} (hq:Own hp t q):q∈eA hp:=by
 obtain⟨c,ar,hb,cj,bP⟩:=h.ok
 rcases hq with rfl | ⟨jP,bC,az,a5⟩
 ·exact lr (sf.1 ar)
 ·rw [ar] at az; cases az
  obtain⟨d,hd⟩:=cj.reads bC q a5
  exact lr (qO.1 hd)
theorem kH.Nb {hp:a9 Cell} {t:Nat} {g:List Bool→Option Int} (h:kH hp t g) {q:Nat} (hq:Own hp t q):(∃ c,pat hp q=some (.j0 c))∨ ∃ c,pat hp q=some (.hl c):=by
 obtain⟨c,ar,hb,cj,bP⟩:=h.ok
 rcases hq with rfl | ⟨jP,bC,az,a5⟩
 ·exact .inl ⟨c,sf.1 ar⟩
 ·rw [ar] at az; cases az
  obtain⟨d,hd⟩:=cj.reads bC q a5
  exact .inr ⟨d,qO.1 hd⟩
def kZ (a c:bJ):Bool:=decide (a.dO=c.dO∧a.bY=c.bY∧a.hY=c.hY)
theorem zB {a c:bJ} :kZ a c=true↔a.dO=c.dO∧a.bY=c.bY∧a.hY=c.hY:=by unfold kZ; rw [decide_eq_true_eq]
theorem Mw (a c:bJ):kZ a c=kZ c a:=by
 rw [Bool.eq_iff_iff,zB,zB]
 exact⟨fun⟨x,y,z⟩=>⟨x.symm,y.symm,z.symm⟩,fun⟨x,y,z⟩=>⟨x.symm,y.symm,z.symm⟩⟩
theorem Ty {a c d:bJ} (aa:kZ a c=true) (ae:kZ c d=true):kZ a d=true:=by
 rw [zB] at *
 exact⟨aa.1.trans ae.1,aa.2.1.trans ae.2.1,aa.2.2.trans ae.2.2⟩
theorem Mx {a c:cr} (aa:a.gM=c.gM) (ae:a.bI=c.bI) (aD:a.bQ=c.bQ) (aV:a.eQ=c.eQ) (a1:a.l4=c.l4):a=c:=by
 cases a; cases c; simp_all
theorem My {b:Int} {m oR:cr} (h:lB 1 b m) (cZ:lB 1 b oR) (e:m.bI=oR.bI):m=oR:=
 Mx (by rw [h.Ew rfl,cZ.Ew rfl]) e (by rw [h.g6 (by decide),cZ.g6 (by decide)]) (by rw [h.I3 (by decide),cZ.I3 (by decide)]) (by rw [h.Ex (by decide),cZ.Ex (by decide)])
theorem Uo {m oR:cr} (h:lB 2 32 m) (cZ:lB 2 32 oR) (e:eL m.bI m.eQ.toNat=eL oR.bI oR.eQ.toNat):m=oR:=by
 have hp:=h.pre
 have hp':=cZ.pre
 obtain⟨n,aR⟩:=Int.eq_ofNat_of_zero_le hp'.1
 rw [aR,Int.toNat_natCast] at e
 obtain⟨aA,aU⟩:=(Gu h (by omega)).1 e
 have cL:m.eQ=oR.eQ:=by omega
 have Br:m.gM=oR.gM:=by
  cases az:m.gM <;> cases a5:oR.gM
  ·rfl
  ·have:=cZ.I2 rfl a5
   have:=h.off az
   have bW:(default:cr).eQ=0:=rfl
   rw [this,bW] at cL; omega
  ·have:=h.I2 rfl az
   have:=cZ.off a5
   have bW:(default:cr).eQ=0:=rfl
   rw [this,bW] at cL; omega
  ·rfl
 refine Mx Br (uc fun j aE=> ?_) (by rw [h.g6 (by decide),cZ.g6 (by decide)]) cL (by rw [h.Ex (by decide),cZ.Ex (by decide)])
 cases ao:lead 32 m.eQ j with
 | true=>exact(aU j aE ao).symm
 | false=>
   have mQ:bL m.bI j=false:=by
    rw [Bool.eq_false_iff]; intro aX
    have:=h.I4 rfl j aE aX
    rw [(wu hp.1 hp.2).2 this] at ao; cases ao
   have qn:bL oR.bI j=false:=by
    rw [Bool.eq_false_iff]; intro aX
    have:=cZ.I4 rfl j aE aX
    rw [cL,(wu hp'.1 hp'.2).2 this] at ao; cases ao
   rw [mQ,qn]
theorem D7 {α:Type} [Inhabited α] {l:List α} (h:l.length=1):l= [ax l 0]:=by
 match l,h with
 | [x],_=>rfl
theorem OE {α:Type} [Inhabited α] {l:List α} (h:l.length=2):l= [ax l 0,ax l 1]:=by
 match l,h with
 | [x,y],_=>rfl
theorem Jd {s:a2} (h:c5 s) {a c:bJ} (bn:hR s 0 a) (ar:hR s 0 c):kZ a c=true↔gn a=gn c:=by
 rw [zB]
 have pH:=bn.len; have lc:=ar.len
 have BN:=bn.pF 0; have BO:=ar.pF 0
 have EK:=bn.pri; have EL:=ar.pri
 rw [h.N6] at pH lc BN BO EK EL
 have av:∀ i,i < [oQ].length→ (ax [oQ] i).cg≤2:=by decide
 refine⟨fun⟨aa,ae,aD⟩=>by unfold gn; rw [ae],fun e=>⟨by rw [bn.hL,ar.hL],?_,by rw [EK av,EL av]⟩⟩
 have jN:=(AG.1 e).1
 rw [k3 (by decide),k3 (by decide),pH,lc] at jN
 have jN:(ax a.bY 0).bI=(ax c.bY 0).bI:=jN
 rw [D7 (l:=a.bY) pH,D7 (l:=c.bY) lc,My (BN (by decide)) (BO (by decide)) jN]
theorem EC {s:a2} (h:c5 s) {a c:bJ} (bn:hR s 1 a) (ar:hR s 1 c):kZ a c=true↔ih (gn a)=ih (gn c)∧mq a=mq c:=by
 rw [zB]
 have pH:=bn.len; have lc:=ar.len
 have BN:=bn.pF 1; have BO:=ar.pF 1
 have EK:=D5 h bn; have EL:=D5 h ar
 have Z9:=uG h bn; have ZB:=uG h ar
 obtain⟨b,hb⟩:=h.Aa
 rw [hb] at pH lc BN BO
 refine⟨fun⟨aa,ae,aD⟩=>by unfold gn mq; rw [ae]; exact⟨rfl,rfl⟩,fun⟨e,e'⟩=>⟨by rw [bn.hL,ar.hL],?_,by rw [EK,EL]⟩⟩
 have bW:=Uo Z9 ZB e'
 cases b
 ·rw [D7 (l:=a.bY) pH,D7 (l:=c.bY) lc,bW]
 ·have aA:=(AG.1 e).2.1
  rw [C4,C4,if_neg (by decide),if_neg (by decide),k3 (by decide),k3 (by decide),pH,lc] at aA
  have aA:(ax a.bY 1).bI=(ax c.bY 1).bI:=aA
  rw [OE (l:=a.bY) pH,OE (l:=c.bY) lc,bW,My (BN (by decide)) (BO (by decide)) aA]
end Go.Proofs.YtmnggbjcnoffeaaGreat
