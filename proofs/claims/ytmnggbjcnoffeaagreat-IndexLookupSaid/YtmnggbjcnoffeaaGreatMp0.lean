/-
  What the programs compute, in plain Lean. Conditions: none.
-/
import Derived.Test.YtmnggbjcnoffeaaGreatMl0
import Derived.Test.YtmnggbjcnoffeaaGreatMl2
import Derived.Test.YtmnggbjcnoffeaaGreatMd
namespace Gv
open Go
theorem Jn {σ ε:Type} {body:σ→Option (σ ⊕ ε)} {Q:ε→Prop} {b1:σ} (m:Nat) (fg:Nat→σ→Prop)
 (hm:m < 2 ^ 80) (bT:fg 0 b1)
 (hs:∀ k s,k < m→fg k s→ (∃ bZ,body s=some (.inl bZ)∧fg (k + 1) bZ)∨ (∃ e,body s=some (.inr e)∧Q e))
 (he:∀ s,fg m s→ ∃ e,body s=some (.inr e)∧Q e):∃ e,dW eu body b1=some e∧Q e:=by
 have key:∀ n k s,k≤m→m - k < n→fg k s→ ∃ e,dW n body s=some e∧Q e:=by
  intro n
  induction n with
  | zero=>intro k s _ h; omega
  | succ n b0=>
    intro k s ax aP au
    by_cases tI:k=m
    ·subst tI
     obtain⟨e,aa,ae⟩:=he s au
     exact⟨e,by simp [dW,aa],ae⟩
    ·rcases hs k s (by omega) au with⟨bZ,aa,ae⟩ | ⟨e,aa,ae⟩
     ·obtain⟨e,aD,aZ⟩:=b0 (k + 1) bZ (by omega) (by omega) ae
      exact⟨e,by simp [dW,aa,aD],aZ⟩
     ·exact⟨e,by simp [dW,aa],ae⟩
 exact key eu 0 b1 (by omega) (by unfold eu; omega) bT
def bm {β:Type} (m:Option β) (P:β→Prop):Prop:= ∃ r,m=some r∧P r
theorem bm.ret {β:Type} {P:β→Prop} {r:β} (h:P r):bm (some r) P:=⟨r,rfl,h⟩
theorem bm.bind {α β:Type} {m:Option α} {f:α→Option β} {P:α→Prop} {Q:β→Prop} (h:bm m P) (k:∀ a,P a→bm (f a) Q):bm (m.bind f) Q:=by
 obtain⟨a,aa,ae⟩:=h
 rw [aa]; exact k a ae
theorem bm.eq {α β:Type} {m:Option α} {a:α} {f:α→Option β} {Q:β→Prop} (h:m=some a) (k:bm (f a) Q):bm (m.bind f) Q:=by
 rw [h]; exact k
theorem bm.mono {β:Type} {m:Option β} {P Q:β→Prop} (h:bm m P) (k:∀ a,P a→Q a):bm m Q:=by
 obtain⟨a,aa,ae⟩:=h
 exact⟨a,aa,k a ae⟩
theorem bm.cond {β:Type} {b:Bool} {m n:Option β} {P:β→Prop} (aa:b=true→bm m P) (ae:b=false→bm n P):bm (cond b m n) P:=by
 cases b
 ·exact ae rfl
 ·exact aa rfl
theorem bm.cC {α β:Type} [Inhabited α] {b w:Bool} {m:Option α} {f:α→Option β} {P:α→Prop} {Q:β→Prop} (h:b=w→bm m P) (k:∀ a,(b=w→P a)→bm (f a) Q):bm ((cC b w m).bind f) Q:=by
 unfold Gv.cC
 by_cases hb:b=w
 ·rw [if_pos hb]; exact(h hb).bind fun a bn=>k a fun _=>bn
 ·rw [if_neg hb]; exact k default fun h=>absurd h hb
theorem bm.loop {σ ε β:Type} {body:σ→Option (σ ⊕ ε)} {f:ε→Option β} {P:β→Prop} {b1:σ} (m:Nat) (fg:Nat→σ→Prop)
 (hm:m < 2 ^ 80) (bT:fg 0 b1)
 (hs:∀ k s,k < m→fg k s→bm (body s) (fun x=>match x with | .inl bZ=>fg (k + 1) bZ | .inr e=>bm (f e) P))
 (he:∀ s,fg m s→ ∃ e,body s=some (.inr e)∧bm (f e) P):bm ((dW eu body b1).bind f) P:=by
 obtain⟨e,aa,ae⟩:=Jn (Q:=fun e=>bm (f e) P) m fg hm bT (fun k s ax au=>by
  obtain⟨r,aa,ae⟩:=hs k s ax au
  cases r with
  | inl bZ=>exact .inl ⟨bZ,aa,ae⟩
  | inr e=>exact .inr ⟨e,aa,ae⟩) he
 rw [aa]; exact ae
theorem bm.Lq {σ ε:Type} {body:σ→Option (σ ⊕ ε)} {P:ε→Prop} {b1:σ} (m:Nat) (fg:Nat→σ→Prop)
 (hm:m < 2 ^ 80) (bT:fg 0 b1)
 (hs:∀ k s,k < m→fg k s→bm (body s) (fun x=>match x with | .inl bZ=>fg (k + 1) bZ | .inr e=>P e))
 (he:∀ s,fg m s→bm (body s) (fun x=>match x with | .inl _=>False | .inr e=>P e)):bm (dW eu body b1) P:=by
 obtain⟨e,aa,ae⟩:=Jn (Q:=P) m fg hm bT (fun k s ax au=>by
  obtain⟨r,aa,ae⟩:=hs k s ax au
  cases r with
  | inl bZ=>exact .inl ⟨bZ,aa,ae⟩
  | inr e=>exact .inr ⟨e,aa,ae⟩) fun s au=>by
  obtain⟨r,aa,ae⟩:=he s au
  cases r with
  | inl bZ=>exact ae.elim
  | inr e=>exact⟨e,aa,ae⟩
 exact⟨e,aa,ae⟩
theorem bm.idx {β:Type} {n:Nat} {i:Int} {k:Nat} {f:Nat→Option β} {Q:β→Prop} (au:i=k) (ax:k < n) (h:bm (f k) Q):bm ((Gv.idx n i).bind f) Q:=by
 subst au
 have:Gv.idx n (k:Int)=some k:=by unfold Gv.idx; rw [if_pos (by omega)]; simp
 rw [this]; exact h
theorem hB {α:Type} [Inhabited α] {n:Nat} (v:Vector α n) {k:Nat} (x:α) (ax:k < n) (j:Nat):bJ (c2 v k x) j=if j=k then x else bJ v j:=by
 unfold bJ c2
 by_cases h:j=k
 ·subst h; simp [ax]
 ·rw [if_neg h,Vector.getElem?_setIfInBounds_ne (by omega)]
theorem D0 {α:Type} [Inhabited α] {n:Nat} {v w:Vector α n} (h:∀ j,j < n→bJ v j=bJ w j):v=w:=by
 apply Vector.ext
 intro i au
 have:=h i au
 simpa [bJ,au] using this
theorem Ia {α:Type} [Inhabited α] {n:Nat} (j:Nat):bJ (default:Vector α n) j=default:=by
 show bJ (Vector.replicate n default) j=default
 unfold bJ
 by_cases h:j < n <;> simp [h]
theorem nC {n k:Nat} (h:k < n):idx n (k:Int)=some k:=by
 unfold idx; rw [if_pos (by omega)]; simp
theorem sB {n:Nat} {i:Int} (h:0≤i) (cX:i < n):idx n i=some i.toNat:=by
 unfold idx; rw [if_pos ⟨h,cX⟩]
theorem eU {k:Nat} (h:k < 2 ^ 62):bw ((k:Int) + 1)=((k + 1:Nat):Int):=by
 rw [hD (by omega) (by omega)]; simp
theorem nD {k:Nat} (h:k < 2 ^ 64):(BitVec.ofInt 64 (k:Int)).toNat=k:=by
 simp; omega
theorem JQ (x:BitVec 64):((x &&& 1#64) ==1#64)=x.getLsbD 0:=by
 rw [BitVec.and_one_eq_setWidth_ofBool_getLsbD]
 cases x.getLsbD 0 <;> rfl
theorem QG (x:BitVec 64) (n:Nat):(((x >>> n) &&& 1#64) ==1#64)=x.getLsbD n:=by
 rw [JQ]; simp
theorem IY (k j:Nat):((1#64) <<< k).getLsbD j=(decide (j=k) && decide (j < 64)):=by
 rw [BitVec.getLsbD_shiftLeft]
 by_cases h:j=k
 ·subst h; simp
 ·have:(1#64).getLsbD (j - k)=decide (j - k=0):=by
   rw [BitVec.getLsbD_one]; simp
  rw [this]
  by_cases ae:j < k
  ·simp [ae,h]
  ·have: ¬ (j - k=0):=by omega
   simp [h,this]
theorem uW {α β:Type} [Inhabited α] [Inhabited β] (f:α→β) {l:List α} {k:Nat} (ax:k < l.length):aF (l.map f) k=f (aF l k):=by
 rw [fx l ax,fx _ (by simpa using ax),List.getElem_map]
theorem pK {α:Type} [Inhabited α] (l:List α) {k:Nat} (ax:k < l.length):l.take (k + 1)=l.take k ++ [aF l k]:=by
 rw [List.take_add_one,List.getElem?_eq_getElem ax,fx l ax]; rfl
theorem JR {α:Type} [Inhabited α] {xs:List α} {p:α→Bool} {k:Nat} (ax:k < xs.length) (hp:p (aF xs k)=true) (aG:∀ j,j < k→p (aF xs j)=false):xs.find? p=some (aF xs k):=by
 rw [List.find?_eq_some_iff_getElem]
 refine⟨hp,k,ax,(fx xs ax).symm,fun j qx=> ?_⟩
 have:=aG j qx
 rw [fx xs (by omega)] at this
 simp [this]
theorem JS {α:Type} {xs:List α} {p:α→Bool} (h:∀ x∈xs,p x=false):xs.find? p=none:=
 List.find?_eq_none.2 fun x aq=>by simp [h x aq]
end Gv
namespace Gv
open Go
set_option linter.unusedVariables false
def dU {α:Type} (m:aC α) (P:α→Prop):Prop:= ∀ Q:α→Prop,(∀ r,P r→Q r)→m Q
theorem dU.run {α:Type} {m:aC α} {P:α→Prop} (h:dU m P):m P:=h P fun _ h=>h
theorem dU.ret {α:Type} {P:α→Prop} {x:α} (h:P x):dU (aC.ret x) P:=fun Q k=>k x h
theorem dU.bind {α β:Type} {m:aC α} {f:α→aC β} {P:α→Prop} {oT:β→Prop} (h:dU m P) (k:∀ r,P r→dU (f r) oT):dU (aC.bind m f) oT:=fun Q hq=>h _ fun r aU=>k r aU Q hq
theorem dU.of {α:Type} {o:Option α} {P:α→Prop} (h:bm o P):dU (aC.of o) P:=fun Q hq=>let⟨r,aa,ae⟩:=h; ⟨r,aa,hq r ae⟩
theorem dU.lJ {α β:Type} {o:Option α} {f:α→aC β} {P:α→Prop} {oT:β→Prop} (h:bm o P) (k:∀ r,P r→dU (f r) oT):dU (aC.bind (aC.of o) f) oT:= .bind (.of h) k
theorem dU.eq {α β:Type} {o:Option α} {a:α} {f:α→aC β} {oT:β→Prop} (h:o=some a) (k:dU (f a) oT):dU (aC.bind (aC.of o) f) oT:=fun Q hq=>⟨a,h,k Q hq⟩
theorem dU.mono {α:Type} {m:aC α} {P oT:α→Prop} (h:dU m P) (k:∀ r,P r→oT r):dU m oT:=fun Q hq=>h Q fun r aU=>hq r (k r aU)
theorem dU.cond {α:Type} {b:Bool} {m n:aC α} {P:α→Prop} (aa:b=true→dU m P) (ae:b=false→dU n P):dU (cond b m n) P:=by
 cases b
 ·exact ae rfl
 ·exact aa rfl
theorem dU.cC {α β:Type} [Inhabited α] {b w:Bool} {m:Option α} {f:α→aC β} {P:α→Prop} {Q:β→Prop} (h:b=w→bm m P) (k:∀ a,(b=w→P a)→dU (f a) Q):dU (aC.bind (aC.of (cC b w m)) f) Q:=by
 unfold Gv.cC
 by_cases hb:b=w
 ·rw [if_pos hb]; exact .lJ (h hb) fun a bn=>k a fun _=>bn
 ·rw [if_neg hb]; exact .eq rfl (k default fun h=>absurd h hb)
theorem dU.idx {β:Type} {n:Nat} {i:Int} {k:Nat} {f:Nat→aC β} {Q:β→Prop} (au:i=k) (ax:k < n) (h:dU (f k) Q):dU (aC.bind (aC.of (Gv.idx n i)) f) Q:=by
 subst au
 exact .eq (nC ax) h
theorem dU.mk {bU β:Type} {hp:a1 bU} {c:bU} {f:Nat × a1 bU→aC β} {P:β→Prop} (k:∀ p,p ∉ ee hp→dU (f (p,(p,c) :: hp)) P):dU (aC.bind (aC.mk hp c) f) P:=fun Q hq=>fun a bn=>by
 obtain⟨p,hp'⟩:=a
 obtain⟨aa,ae⟩:=bn
 simp only at aa ae
 subst ae
 exact k p aa Q hq
theorem dU.any {α β:Type} {f:α→aC β} {P:β→Prop} (k:∀ x,dU (f x) P):dU (aC.bind (aC.any α) f) P:=fun Q hq x=>k x Q hq
theorem dU.loop {σ ε:Type} {body:σ→aC (σ ⊕ ε)} {P:ε→Prop} {b1:σ} (m:Nat) (fg:Nat→σ→Prop) (hm:m < 2 ^ 80) (bT:fg 0 b1)
 (hs:∀ k s,k < m→fg k s→dU (body s) (fun x=>match x with | .inl bZ=>fg (k + 1) bZ | .inr e=>P e))
 (he:∀ s,fg m s→dU (body s) (fun x=>match x with | .inl _=>False | .inr e=>P e)):dU (oi eu body b1) P:=by
 have key:∀ n k s,k≤m→m - k < n→fg k s→dU (oi n body s) P:=by
  intro n
  induction n with
  | zero=>intro k s _ h; omega
  | succ n b0=>
    intro k s ax aP au Q hq
    by_cases tI:k=m
    ·subst tI
     exact he s au _ fun r aU=>by
      cases r with
      | inl bZ=>exact aU.elim
      | inr e=>exact hq e aU
    ·exact hs k s (by omega) au _ fun r aU=>by
      cases r with
      | inl bZ=>exact b0 (k + 1) bZ (by omega) (by omega) aU Q hq
      | inr e=>exact hq e aU
 exact key eu 0 b1 (by omega) (by unfold eu; omega) bT
theorem q2 {bU:Type} {hp:a1 bU} {p q:Nat} {k:bU} :pat ((p,k) :: hp) q=if p=q then some k else pat hp q:=rfl
theorem QH {bU:Type} {hp:a1 bU} {p:Nat} (h:p ∉ ee hp):pat hp p=none:=by
 cases e:pat hp p with
 | none=>rfl
 | some k=>exact absurd (kT e) h
theorem vi {bU:Type} {hp:a1 bU} {p:Nat} {k k':bU} (h:pat hp p=some k'):pat (dH hp p k) p=some k:=by rw [x0,if_pos rfl,h]; rfl
theorem qY {bU:Type} {hp:a1 bU} {p q:Nat} {k:bU} (h:p≠q):pat (dH hp p k) q=pat hp q:=by rw [x0,if_neg h]
theorem xJ {α β:Type} [DecidableEq α] {l:List (α × β)} {x y:α} {v:β} :dX (g3 l x v) y=if y=x then some v else dX l y:=by
 induction l with
 | nil=>
   show(if y=x then some v else dX [] y)=_
   rfl
 | cons a r b0=>
   obtain⟨k,w⟩:=a
   simp only [g3]
   by_cases h:x=k
   ·rw [if_pos h]
    simp only [dX]
    by_cases ae:y=x
    ·simp [ae]
    ·simp [ae,show ¬ y=k from fun e=>ae (by rw [e,h])]
   ·rw [if_neg h]
    simp only [dX]
    by_cases ae:y=k
    ·subst ae; simp [show ¬ y=x from fun e=>h e.symm]
    ·rw [if_neg ae,b0,if_neg ae]
end Gv
namespace Go.Proofs.YtmnggbjcnoffeaaGreat
open Go Gv
set_option linter.unusedVariables false
set_option linter.unusedSimpArgs false
def hH (b:Bool):Nat:=bif b then 1 else 0
def dv (hp:a1 Cell):Ref→List Bool→Ref
 | none,_=>none
 | some p,[]=>some p
 | some p,b :: bz=>match de hp p with
   | none=>none
   | some c=>dv hp (bJ c.er (hH b)) bz
theorem ib {hp:a1 Cell} {bz:List Bool} :dv hp none bz=none:=by cases bz <;> rfl
theorem o2 {hp:a1 Cell} {r:Ref} :dv hp r []=r:=by cases r <;> rfl
theorem jS {hp:a1 Cell} {p:Nat} {c:ep} {b:Bool} {bz:List Bool} (h:de hp p=some c):dv hp (some p) (b :: bz)=dv hp (bJ c.er (hH b)) bz:=by
 show(match de hp p with | none=>none | some c=>dv hp (bJ c.er (hH b)) bz)=_
 rw [h]
theorem nE {hp:a1 Cell} :∀ {r:Ref} {bz cs:List Bool},dv hp r (bz ++ cs)=dv hp (dv hp r bz) cs
 | none,bz,cs=>by rw [ib,ib,ib]
 | some p,[],cs=>by rw [List.nil_append,o2]
 | some p,b :: bz,cs=>by
   cases e:de hp p with
   | none=>
     have aa:∀ xs,dv hp (some p) (b :: xs)=none:=fun xs=>by
      show(match de hp p with | none=>none | some c=>dv hp (bJ c.er (hH b)) xs)=_
      rw [e]
     rw [List.cons_append,aa,aa,ib]
   | some c=>rw [List.cons_append,jS e,jS e,nE]
theorem IZ {hp hp':a1 Cell} :∀ {r:Ref} {bz:List Bool},(∀ p cs,dv hp r cs=some p→de hp' p=de hp p)→dv hp' r bz=dv hp r bz
 | none,bz,_=>by rw [ib,ib]
 | some p,[],_=>rfl
 | some p,b :: bz,h=>by
   have bT:=h p [] rfl
   show(match de hp' p with | none=>none | some c=>dv hp' (bJ c.er (hH b)) bz)=(match de hp p with | none=>none | some c=>dv hp (bJ c.er (hH b)) bz)
   rw [bT]
   cases e:de hp p with
   | none=>rfl
   | some c=>
     refine IZ fun q cs hq=>h q (b :: cs) ?_
     rw [jS e]; exact hq
structure o5 (hp:a1 Cell) (root:Ref):Prop where
 reads:∀ bz p,dv hp root bz=some p→ ∃ c,de hp p=some c
 inj:∀ bz cs p,dv hp root bz=some p→dv hp root cs=some p→bz=cs
def cont (hp:a1 Cell) (root:Ref) (bz:List Bool):Option Int:=match dv hp root bz with
 | none=>none
 | some p=>match de hp p with
   | none=>none
   | some c=>bif c.eV then some c.jC else none
theorem mA {hp:a1 Cell} {root:Ref} {bz:List Bool} {p:Nat} {c:ep} (h:dv hp root bz=some p) (ar:de hp p=some c):cont hp root bz=bif c.eV then some c.jC else none:=by
 unfold cont; rw [h]; simp only [ar]
theorem nb {hp:a1 Cell} {root:Ref} {bz:List Bool} (h:dv hp root bz=none):cont hp root bz=none:=by
 unfold cont; rw [h]
theorem pL {hp:a1 Cell} {p:Nat} {c:ep} :de hp p=some c↔pat hp p=some (.gS c):=by
 refine⟨lp,fun h=> ?_⟩
 unfold de; rw [h]
theorem qZ {hp:a1 Cell} {p:Nat} {c:fM} :gd hp p=some c↔pat hp p=some (.jB c):=by
 refine⟨nG,fun h=> ?_⟩
 unfold gd; rw [h]
theorem xD {hp hp':a1 Cell} {p:Nat} (h:pat hp' p=pat hp p):de hp' p=de hp p:=by unfold de; rw [h]
theorem Dx {hp hp':a1 Cell} {p:Nat} (h:pat hp' p=pat hp p):gd hp' p=gd hp p:=by unfold gd; rw [h]
structure gw (hp hp':a1 Cell) (own:Nat→Prop):Prop where
 keys:∀ q,q∈ee hp→q∈ee hp'
 rest:∀ q,q∈ee hp→ ¬ own q→pat hp' q=pat hp q
theorem gw.refl {hp:a1 Cell} {own:Nat→Prop} :gw hp hp own:=⟨fun _ h=>h,fun _ _ _=>rfl⟩
theorem gw.mk' {hp:a1 Cell} {own:Nat→Prop} {a:Nat} {k:Cell} (bn:a ∉ ee hp):gw hp ((a,k) :: hp) own:=
 ⟨fun q h=>List.mem_cons_of_mem _ h,fun q h _=>by rw [q2,if_neg (fun e:a=q=>bn (by rw [e]; exact h))]⟩
theorem gw.up {hp:a1 Cell} {own:Nat→Prop} {p:Nat} {k:Cell} (hp':own p):gw hp (dH hp p k) own:=
 ⟨fun q h=>by rw [sA]; exact h,fun q h hq=>qY (fun e:p=q=>hq (by rw [← e]; exact hp'))⟩
theorem gw.trans {aa ae aD:a1 Cell} {own own':Nat→Prop} (a:gw aa ae own) (b:gw ae aD own') (bh:∀ q,q∈ee aa→own' q→own q):gw aa aD own:=
 ⟨fun q h=>b.keys q (a.keys q h),fun q h hq=>by rw [b.rest q (a.keys q h) fun cX=>hq (bh q h cX),a.rest q h hq]⟩
theorem Qc (b:Bool):bJ (default:ep).er (hH b)=none:=by cases b <;> rfl
theorem I0 {hp:a1 Cell} {a:Nat} (h:de hp a=some (default:ep)):∀ bz,dv hp (some a) bz=if bz= [] then some a else none
 | []=>rfl
 | b :: bz=>by rw [jS h,Qc,ib]; rfl
theorem D1 {hp hp':a1 Cell} {root:Ref} {ws:List Bool} {b:Bool} {p a:Nat} {c:ep} (cr:o5 hp root) (hw:dv hp root ws=some p) (ar:de hp p=some c) (aP:bJ c.er (hH b)=none) (bn:de hp a=none)
 (dF:de hp' p=some { c with er:=c2 c.er (hH b) (some a) }) (eJ:de hp' a=some default) (h7:∀ q,q≠p→q≠a→de hp' q=de hp q):
 ∀ (bz us:List Bool) (q:Nat),dv hp root us=some q→dv hp' (some q) bz=if us ++ bz=ws ++ [b] then some a else dv hp (some q) bz
 | [],us,q,hu=>by
   have: ¬ us ++ []=ws ++ [b]:=fun e=>by
    rw [List.append_nil] at e
    rw [e,nE,hw,jS ar,aP,ib] at hu; cases hu
   rw [if_neg this]; rfl
 | x :: xs,us,q,hu=>by
   obtain⟨Nf,rS⟩:=cr.reads us q hu
   have rT:q≠a:=fun e=>by rw [e,bn] at rS; cases rS
   by_cases zZ:q=p
   ·subst zZ
    have Wa:=cr.inj us ws q hu hw
    subst Wa
    rw [ar] at rS; cases rS
    rw [jS dF,jS ar]
    simp only
    have cl:hH b < 2:=by cases b <;> decide
    rw [hB _ _ cl]
    by_cases GC:x=b
    ·subst GC
     rw [if_pos rfl,aP,ib,I0 eJ]
     by_cases h:xs= []
     ·subst h; rw [if_pos rfl,if_pos rfl]
     ·rw [if_neg h,if_neg fun e=>h ?_]
      have:=List.append_cancel_left e
      simpa using this
    ·have dn: ¬ hH x=hH b:=fun e=>GC (by cases x <;> cases b <;> first | rfl | cases e)
     have gM: ¬ us ++ x :: xs=us ++ [b]:=fun e=>GC (by have:=List.append_cancel_left e; simpa using (List.cons.inj this).1)
     rw [if_neg dn,if_neg gM]
     cases e:bJ c.er (hH x) with
     | none=>rw [ib,ib]
     | some qN=>
       have nt:dv hp root (us ++ [x])=some qN:=by rw [nE,hu,jS ar,e,o2]
       rw [D1 cr hw ar aP bn dF eJ h7 xs (us ++ [x]) qN nt,List.append_assoc,List.singleton_append,if_neg gM]
   ·have aa:de hp' q=some Nf:=by rw [h7 q zZ rT]; exact rS
    rw [jS aa,jS rS]
    cases e:bJ Nf.er (hH x) with
    | none=>
      have gM: ¬ us ++ x :: xs=ws ++ [b]:=fun aX=>by
       have Wb:dv hp root (us ++ [x])=none:=by rw [nE,hu,jS rS,e,ib]
       rcases List.eq_nil_or_concat xs with rfl | ⟨ys,y,rfl⟩
       ·have:=(List.append_inj_left' aX rfl)
        subst this
        rw [hu] at hw; cases hw; exact zZ rfl
       ·have aD:us ++ x :: ys=ws:=by
         have:(us ++ x :: ys) ++ [y]=ws ++ [b]:=by simpa using aX
         exact List.append_inj_left' this rfl
        rw [← aD,show us ++ x :: ys=(us ++ [x]) ++ ys by simp,nE,Wb,ib] at hw
        cases hw
      rw [ib,ib,if_neg gM]
    | some qN=>
      have nt:dv hp root (us ++ [x])=some qN:=by rw [nE,hu,jS rS,e,o2]
      rw [D1 cr hw ar aP bn dF eJ h7 xs (us ++ [x]) qN nt,List.append_assoc,List.singleton_append]
theorem grow {hp hp':a1 Cell} {r:Nat} {ws:List Bool} {b:Bool} {p a:Nat} {c:ep} (cr:o5 hp (some r)) (hw:dv hp (some r) ws=some p) (ar:de hp p=some c) (aP:bJ c.er (hH b)=none) (bn:de hp a=none)
 (dF:de hp' p=some { c with er:=c2 c.er (hH b) (some a) }) (eJ:de hp' a=some default) (h7:∀ q,q≠p→q≠a→de hp' q=de hp q):
 o5 hp' (some r)∧ (∀ bz,dv hp' (some r) bz=if bz=ws ++ [b] then some a else dv hp (some r) bz)∧ ∀ bz,cont hp' (some r) bz=cont hp (some r) bz:=by
 have ba:∀ bz,dv hp' (some r) bz=if bz=ws ++ [b] then some a else dv hp (some r) bz:=fun bz=>D1 cr hw ar aP bn dF eJ h7 bz [] r rfl
 have CD:∀ bz,dv hp (some r) bz≠some a:=fun bz h=>by
  obtain⟨c,aa⟩:=cr.reads bz a h
  rw [bn] at aa; cases aa
 have Wc:dv hp (some r) (ws ++ [b])=none:=by rw [nE,hw,jS ar,aP,ib]
 refine⟨⟨fun bz q h=> ?_,fun bz cs q aa ae=> ?_⟩,ba,fun bz=> ?_⟩
 ·rw [ba] at h
  split at h
  ·cases h; exact⟨_,eJ⟩
  ·obtain⟨jr,aa⟩:=cr.reads bz q h
   by_cases e:q=p
   ·subst e; exact⟨_,dF⟩
   ·exact⟨jr,by rw [h7 q e fun aX=>CD bz (aX ▸ h)]; exact aa⟩
 ·rw [ba] at aa ae
  split at aa <;> split at ae
  ·rename_i av aX; rw [av,aX]
  ·cases aa; exact absurd ae (CD cs)
  ·cases ae; exact absurd aa (CD bz)
  ·exact cr.inj bz cs q aa ae
 ·by_cases e:bz=ws ++ [b]
  ·subst e
   rw [nb Wc,mA (by rw [ba,if_pos rfl]) eJ]; rfl
  ·have GD:dv hp' (some r) bz=dv hp (some r) bz:=by rw [ba,if_neg e]
   cases h:dv hp (some r) bz with
   | none=>rw [nb h,nb (GD.trans h)]
   | some q=>
     obtain⟨jr,aa⟩:=cr.reads bz q h
     by_cases eq:q=p
     ·subst eq
      rw [ar] at aa; cases aa
      rw [mA h ar,mA (GD.trans h) dF]
     ·rw [mA h aa,mA (GD.trans h) (by rw [h7 q eq fun aX=>CD bz (aX ▸ h)]; exact aa)]
theorem Bg {hp hp':a1 Cell} {p:Nat} {c jr:ep} (ar:de hp p=some c) (mf:de hp' p=some jr) (he:jr.er=c.er) (h:∀ q,q≠p→de hp' q=de hp q):∀ (bz:List Bool) (r:Ref),dv hp' r bz=dv hp r bz
 | bz,none=>by rw [ib,ib]
 | [],some q=>rfl
 | b :: bz,some q=>by
   by_cases e:q=p
   ·subst e
    rw [jS ar,jS mf,he]; exact Bg ar mf he h bz _
   ·cases aX:de hp q with
    | none=>
      show(match de hp' q with | none=>none | some c=>dv hp' (bJ c.er (hH b)) bz)=(match de hp q with | none=>none | some c=>dv hp (bJ c.er (hH b)) bz)
      rw [h q e,aX]
    | some d=>rw [jS aX,jS (by rw [h q e]; exact aX)]; exact Bg ar mf he h bz _
theorem Vb {hp hp':a1 Cell} {root:Ref} {ws:List Bool} {p:Nat} {c jr:ep} (cr:o5 hp root) (hw:dv hp root ws=some p) (ar:de hp p=some c) (mf:de hp' p=some jr) (he:jr.er=c.er) (h:∀ q,q≠p→de hp' q=de hp q):
 o5 hp' root∧ ∀ bz,cont hp' root bz=if bz=ws then(bif jr.eV then some jr.jC else none) else cont hp root bz:=by
 have ba:=Bg ar mf he h
 refine⟨⟨fun bz q hq=> ?_,fun bz cs q aa ae=>cr.inj bz cs q (by rw [← ba]; exact aa) (by rw [← ba]; exact ae)⟩,fun bz=> ?_⟩
 ·rw [ba] at hq
  obtain⟨d,aa⟩:=cr.reads bz q hq
  by_cases e:q=p
  ·subst e; exact⟨_,mf⟩
  ·exact⟨d,by rw [h q e]; exact aa⟩
 ·by_cases e:bz=ws
  ·subst e; rw [if_pos rfl,mA (by rw [ba]; exact hw) mf]
  ·rw [if_neg e]
   cases aa:dv hp root bz with
   | none=>rw [nb aa,nb (by rw [ba]; exact aa)]
   | some q=>
     obtain⟨d,ae⟩:=cr.reads bz q aa
     have zZ:q≠p:=fun aX=>e (cr.inj bz ws p (aX ▸ aa) hw)
     rw [mA aa ae,mA (by rw [ba]; exact aa) (by rw [h q zZ]; exact ae)]
end Go.Proofs.YtmnggbjcnoffeaaGreat
namespace Go.Proofs.YtmnggbjcnoffeaaGreat
open Go Gv
set_option linter.unusedVariables false
set_option linter.unusedSimpArgs false
set_option maxRecDepth 100000
theorem h0 {α:Type} {b:Nat} (xs ys:List α) (h:xs.length + ys.length≤1000000) (hb:b≤100000):gB b xs ys=some (xs ++ ys):=by
 unfold gB
 rw [if_pos]
 unfold maxLen
 refine⟨Nat.le_trans (Nat.mul_le_mul h hb) (by omega),by omega⟩
def gi (c:bk):Prop:=0≤c.qc∧c.cb.length≤1000
theorem Eo (l:List (BitVec 8)) (n:Int) (bT:0≤n) (aa:n≤1000):bm (sj l n) gi:=by
 unfold sj
 refine .eq (a:=(l.drop 0).take ((min (l.length:Int) n).toNat - 0)) ?_ (.ret ⟨Int.le_refl 0,?_⟩)
 ·unfold pW; rw [if_pos ⟨by omega,by omega,by omega⟩]; rfl
 ·simp only [List.length_take,List.length_drop]; omega
theorem fN (c:bk) (n:Int) (ar:gi c) (aP:1≤n):bm (fp c n) (fun r=>gi r.2∧0≤r.1∧r.1 < n∧r.1 < 256):=by
 unfold fp AQ
 obtain⟨l,a⟩:=c
 obtain⟨bT,aa⟩:=ar
 simp only at bT aa
 obtain⟨k,rfl⟩:=Int.eq_ofNat_of_zero_le bT
 refine .eq rfl (.cond (fun _=> .ret ⟨⟨bT,aa⟩,by omega,by omega,by omega⟩) fun h=> ?_)
 simp only [Bool.or_eq_false_iff,Bool.not_eq_false',decide_eq_true_eq,decide_eq_false_iff_not] at h
 have av:bw ((k:Int) + 1)=((k + 1:Nat):Int):=eU (by omega)
 simp only [av]
 have aX:bw (((k + 1:Nat):Int) - 1)=(k:Int):=by rw [hD (by omega) (by omega)]; omega
 rw [aX]
 refine .idx rfl (by omega) (.eq (by unfold rB; rw [if_neg (by omega)]) (.ret ⟨⟨by simp only; omega,aa⟩,?_,?_,?_⟩))
 ·exact Int.tmod_nonneg _ (by omega)
 ·exact Int.tmod_lt_of_pos _ (by omega)
 ·simp only
  have aD:(aF l k).toNat < 256:=(aF l k).isLt
  obtain⟨m,rfl⟩:=Int.eq_ofNat_of_zero_le (show 0≤n by omega)
  have aZ:(((aF l k).toNat:Int)).tmod m=(((aF l k).toNat % m:Nat):Int):=(Int.ofNat_tmod _ _).symm
  have a6:=Nat.mod_le (aF l k).toNat m
  omega
theorem mx (c:bk) (ar:gi c):bm (kC c) (fun r=>gi r.2):=by
 unfold kC
 exact .bind (fN c 2 ar (by omega)) fun y h=> .ret h.1
theorem PB (c:bk) (ar:gi c):bm (wO c) (fun r=>gi r.2∧r.1.length=3):=by
 unfold wO
 refine .bind (fN c 4 ar (by omega)) fun ak aa=> ?_
 refine .eq (sB aa.2.1 (by simpa using aa.2.2.1)) (.eq rfl (.eq rfl (.bind (mx _ aa.1) fun aO ae=> ?_)))
 refine .bind (P:=fun m=>gi m.1) (.cond (fun _=> ?_) (fun _=> .ret ae)) fun bB cz=> ?_
 ·refine .bind (fN _ 2 ae (by omega)) fun dr bl=> .eq rfl (.bind (fN _ 4 bl.1 (by omega)) fun dC cZ=> ?_)
  exact .eq (sB cZ.2.1 (by simpa using cZ.2.2.1)) (.eq rfl (.eq (h0 _ _ (by simp) (by omega)) (.ret cZ.1)))
 ·refine .bind (fN _ 4 cz (by omega)) fun bc aD=> .eq (sB aD.2.1 (by simpa using aD.2.2.1)) (.eq rfl (.eq rfl ?_))
  refine .bind (fN _ 3 aD.1 (by omega)) fun br aZ=> ?_
  refine .bind (P:=fun m=>gi m.1) (.cond (fun _=> ?_) (fun _=> .ret aZ.1)) fun cu du=> .ret ⟨du,rfl⟩
  exact .bind (fN _ 3 aZ.1 (by omega)) fun cx a6=> .eq rfl (.ret a6.1)
def oj (a:dy):Int × List Int:=(a.bG,a.jt.map (·.eP))
def vP:List (Int × List Int):= [(1,[]),(2,[]),(3,[16]),(4,[4]),(5,[4,12]),(6,[])]
theorem QI {α β:Type} [Inhabited α] (f:α→β) (l:List α) (k:Nat) (x:α) (h:f x=f (aF l k)):(iB l k x).map f=l.map f:=by
 unfold iB
 apply List.ext_getElem
 ·simp
 ·intro i aa ae
  simp only [List.length_map,List.length_set] at aa
  simp only [List.getElem_map,List.getElem_set]
  split
  ·rename_i e; subst e; rw [h,fx l aa]
  ·rfl
theorem DP {α β:Type} [Inhabited α] (f:α→β) {l:List α} {k:Nat} {x:α} {r:List β} (h:f x=f (aF l k)) (an:l.map f=r):(iB l k x).map f=r:=(QI f l k x h).trans an
theorem Pk (c:bk) (ar:gi c):bm (wK c) (fun r=>gi r.2∧r.1.map oj=vP):=by
 unfold wK
 refine .eq rfl (.eq rfl (.eq rfl (.eq rfl (.eq rfl (.eq rfl (.eq rfl (.eq rfl (.eq rfl (.eq rfl (.eq rfl (.eq rfl (.eq rfl ?_))))))))))))
 refine .bind (fN _ 2 ar (by omega)) fun ak aa=> .eq rfl (.bind (fN _ 256 aa.1 (by omega)) fun aO ae=> .eq rfl (.eq rfl (.eq rfl ?_)))
 refine .bind (mx _ ae.1) fun bc aD=> ?_
 refine .bind (P:=fun m=>m.map oj=vP) (.cond (fun _=> ?_) (fun _=> .ret rfl)) fun bB cz=> ?_
 ·exact .idx (k:=2) rfl (by simp) (.eq rfl (.ret (DP oj rfl rfl)))
 ·refine .bind (mx _ aD) fun br aZ=> .bind (P:=fun m=>m.map oj=vP) (.cond (fun _=> ?_) (fun _=> .ret cz)) fun cu du=> .ret ⟨aZ,du⟩
  have an:bB.length=6:=by rw [← List.length_map (f:=oj),cz]; rfl
  exact .idx (k:=4) rfl (by omega) (.eq rfl (.ret (DP oj rfl cz)))
def n1:cB:= { b7:=ByteArray.mk #[97],gb:=4,cH:=1 }
def tV:cB:= { b7:=ByteArray.mk #[100],gb:=7,cH:=2 }
def CX:cB:= { b7:=ByteArray.mk #[109],gb:=3,cH:=1 }
def Ak:cB:= { b7:=ByteArray.mk #[101],gb:=6,cH:=3 }
def z0:cB:= { b7:=ByteArray.mk #[97],gb:=4,cH:=3 }
def Hg:cB:= { b7:=ByteArray.mk #[98],gb:=5,cH:=1 }
def Al:cB:= { b7:=ByteArray.mk #[102],gb:=8,cH:=4 }
def Hh:cB:= { b7:=ByteArray.mk #[103],gb:=9,cH:=1 }
def mK (t:bN):Int × List Int × List cB:=(t.bG,t.c4,t.bX)
def lv (b:Bool):List cB:=if b then [tV,CX] else [tV]
def sW (b:Bool):List cB:=if b then [Ak,z0,Hg] else [Ak,z0]
def sX (b:Bool):List cB:=if b then [Al,Hh,tV] else [Al]
def qg (ei fA hi:Bool):List (Int × List Int × List cB):=
 [(1,[1,2,4],[n1]),(2,[1,2,3,4],lv ei),(3,[1,2,3,5,6],sW fA),(4,[1,3,5],sX hi)]
theorem PC (c:bk) (ar:gi c):bm (wQ c) (fun r=>gi r.2∧ ∃ ei fA hi,r.1.map mK=qg ei fA hi):=by
 unfold wQ
 refine .eq rfl (.bind (fN _ 2 ar (by omega)) fun ak aa=> .bind (fN _ 5 aa.1 (by omega)) fun aO ae=> .eq rfl (.eq rfl ?_))
 refine .bind (fN _ 6 ae.1 (by omega)) fun bc aD=> .bind (mx _ aD.1) fun br aZ=> ?_
 refine .bind (P:=fun m=>(m.1.bG=2∧m.1.c4= [1,2,3,4])∧ ∃ b,m.2=lv b) (.cond (fun _=> ?_) (fun _=> .ret ⟨⟨rfl,rfl⟩,false,rfl⟩)) fun bB cz=> ?_
 ·exact .eq rfl (.eq (h0 _ _ (by simp) (by omega)) (.ret ⟨⟨rfl,rfl⟩,true,rfl⟩))
 refine .eq rfl (.eq rfl (.bind (fN _ 6 aZ (by omega)) fun cx a6=> .bind (mx _ a6.1) fun dr bl=> ?_))
 refine .bind (P:=fun m=>(m.1.bG=3∧m.1.c4= [1,2,3,5,6])∧ ∃ b,m.2=sW b) (.cond (fun _=> ?_) (fun _=> .ret ⟨⟨rfl,rfl⟩,false,rfl⟩)) fun cu du=> ?_
 ·exact .eq rfl (.eq (h0 _ _ (by simp) (by omega)) (.ret ⟨⟨rfl,rfl⟩,true,rfl⟩))
 refine .eq rfl (.bind (fN _ 5 bl (by omega)) fun dC cZ=> .bind (mx _ cZ.1) fun e7 eN=> ?_)
 refine .bind (P:=fun m=>(m.1.bG=4∧m.1.c4= [1,3,5])∧ ∃ b,m.2=sX b) (.cond (fun _=> ?_) (fun _=> .ret ⟨⟨rfl,rfl⟩,false,rfl⟩)) fun eL fX=> ?_
 ·exact .eq rfl (.eq rfl (.eq (h0 _ _ (by simp) (by omega)) (.ret ⟨⟨rfl,rfl⟩,true,rfl⟩)))
 refine .eq rfl (.eq rfl (.eq rfl (.eq rfl (.eq rfl ?_))))
 obtain⟨⟨dL,ef⟩,ei,jq⟩:=cz
 obtain⟨⟨cd,cS⟩,fA,e2⟩:=du
 obtain⟨⟨d1,d2⟩,hi,d3⟩:=fX
 refine bm.loop 4 (fun k s=>s.1=(k:Int)∧s.2.1.map mK=qg ei fA hi∧gi s.2.2) (by omega) ⟨rfl,?_,eN⟩ (fun k s ax au=> ?_) (fun s au=> ?_)
 ·simp only [List.map_cons,List.map_nil,mK,dL,ef,jq,cd,cS,e2,d1,d2,d3,qg]; rfl
 ·obtain⟨i,gQ,tW⟩:=s; obtain⟨av,aX,dk⟩:=au
  simp only at av aX dk; subst av
  refine bm.cond (fun _=> ?_) (fun h=>by simp at h; omega)
  have an:gQ.length=4:=by rw [← List.length_map (f:=mK),aX]; rfl
  refine .idx rfl (by simpa using ax) (.bind (fN _ 3 dk (by omega)) fun fT gl=> .eq (sB gl.2.1 ?_) (.idx rfl (by simp only; omega) (.eq rfl (.ret ⟨eU (by omega),?_,gl.1⟩))))
  ·have kt:=gl.2.2.1
   have:k=0∨k=1∨k=2∨k=3:=by omega
   rcases this with rfl | rfl | rfl | rfl <;> exact kt
  ·exact DP mK rfl aX
 ·obtain⟨i,gQ,tW⟩:=s; obtain⟨av,aX,dk⟩:=au
  simp only at av aX dk; subst av
  refine⟨_,rfl,?_⟩
  exact .ret ⟨dk,ei,fA,hi,aX⟩
theorem JT (n:Nat) (h:n≤1000):tt (α:=Bool) 1 (n:Int)=some (List.replicate n default):=by
 unfold tt; rw [if_pos ⟨by omega,by omega,by omega⟩]; simp
theorem Qd (c:bk) (gQ:List bN) (ar:gi c) (an:gQ.length≤1000) (ax:∀ t∈gQ,t.bX.length≤1000):bm (wY c gQ) (fun r=>gi r.2∧r.1.map (·.bG)= [1,2,7]):=by
 unfold wY
 refine .bind (fN _ 3 ar (by omega)) fun ak aa=> .bind (fN _ 6 aa.1 (by omega)) fun aO ae=> .bind (fN _ 6 ae.1 (by omega)) fun bc aD=> .bind (fN _ 4 aD.1 (by omega)) fun br aZ=> ?_
 refine bm.loop gQ.length (fun k s=>s.1=(k:Int)∧gi s.2.2.2.1∧s.2.2.1.length≤k∧s.2.2.2.2.2.1.length≤k∧s.2.2.2.2.2.2.2.length≤k∧s.2.1.bG=7∧s.2.2.2.2.1.bG=2∧s.2.2.2.2.2.2.1.bG=1) (by omega) ⟨rfl,aZ.1,by simp,by simp,by simp,rfl,rfl,rfl⟩ (fun k s ks au=> ?_) (fun s au=> ?_)
 ·obtain⟨i,mj,aw,tW,ia,a5,pC,bA⟩:=s; obtain⟨av,aX,dk,gz,hN,i1,i2,i3⟩:=au
  simp only at av aX dk gz hN i1 i2 i3; subst av
  refine bm.cond (fun _=> ?_) (fun h=>by simp at h; omega)
  have L8:(aF gQ k).bX.length≤1000:=ax _ (by rw [fx gQ ks]; exact List.getElem_mem ks)
  refine .idx rfl ks (.eq (JT _ L8) (.eq (JT _ L8) ?_))
  refine bm.loop (aF gQ k).bX.length (fun j s=>s.1=(j:Int)∧s.2.1.length=(aF gQ k).bX.length∧s.2.2.1.length=(aF gQ k).bX.length∧gi s.2.2.2) (by omega) ⟨rfl,by simp,by simp,aX⟩ (fun j s aG au=> ?_) (fun s au=> ?_)
  ·obtain⟨i,ei,fA,Wd⟩:=s; obtain⟨f1,f2,f3,f4⟩:=au
   simp only at f1 f2 f3 f4; subst f1
   refine bm.cond (fun _=> ?_) (fun h=>by simp at h; omega)
   exact .bind (fN _ 4 f4 (by omega)) fun dC cZ=> .idx rfl (by simp only; omega) (.idx rfl (by simp only; omega) (.ret ⟨eU (by omega),by simp [iB,f2],by simp [iB,f3],cZ.1⟩))
  ·obtain⟨i,ei,fA,Wd⟩:=s; obtain⟨f1,f2,f3,f4⟩:=au
   simp only at f1 f2 f3 f4; subst f1
   refine⟨_,by simp; rfl,?_⟩
   refine .eq rfl (.eq (h0 _ _ (by simp; omega) (by omega)) (.bind (fN _ 4 f4 (by omega)) fun fT gl=> ?_))
   refine .bind (P:=fun m=>gi m.1∧m.2.2.length≤k + 1∧m.2.1.bG=2) (.cond (fun _=> ?_) (fun _=> .ret ⟨gl.1,by simp only; omega,i2⟩)) fun bB cz=> ?_
   ·exact .bind (fN _ 4 gl.1 (by omega)) fun hU CE=> .bind (mx _ CE.1) fun kL rU=> .eq rfl (.eq (h0 _ _ (by simp; omega) (by omega)) (.ret ⟨rU,by simp; omega,i2⟩))
   refine .bind (mx _ cz.1) fun gL kt=> ?_
   refine .bind (P:=fun m=>gi m.1∧m.2.2.length≤k + 1∧m.2.1.bG=7) (.cond (fun _=> ?_) (fun _=> .ret ⟨kt,by simp only; omega,i1⟩)) fun cu du=> ?_
   ·exact .bind (mx _ kt) fun gF py=> .bind (mx _ py) fun gT z1=> .eq rfl (.eq (h0 _ _ (by simp; omega) (by omega)) (.ret ⟨z1,by simp; omega,i1⟩))
   exact .ret ⟨eU (by omega),du.1,du.2.1,cz.2.1,by simp; omega,du.2.2,cz.2.2,i3⟩
 ·obtain⟨i,mj,aw,tW,ia,a5,pC,bA⟩:=s; obtain⟨av,aX,dk,gz,hN,i1,i2,i3⟩:=au
  simp only at av aX dk gz hN i1 i2 i3; subst av
  refine⟨_,by simp; rfl,?_⟩
  exact .eq rfl (.eq rfl (.ret ⟨aX,by simp only [List.map_cons,List.map_nil,i1,i2,i3]⟩))
def FK:List (Int × Int):= [(1,16),(2,16),(3,8),(4,4),(5,4),(6,8),(7,32),(8,12),(9,4)]
def yU (f:fa):Int × Int:=(f.bG,f.eP)
structure c0 (s:aY):Prop where
 fields:s.e3.map yU=FK
 headers:s.kQ.length=3
 Ku:s.ln.length=3
 Ep:s.c4.map oj=vP
 tables:∃ ei fA hi,s.bQ.map mK=qg ei fA hi
 Lt:s.iP.map (·.bG)= [1,2,7]
theorem c0.Vc {s:aY} (h:c0 s):s.iP.length=3:=by rw [← List.length_map (f:=(·.bG)),h.Lt]; rfl
theorem c0.pk {s:aY} (h:c0 s):s.e3.length=9:=by rw [← List.length_map (f:=yU),h.fields]; rfl
theorem c0.jZ {s:aY} (h:c0 s):s.bQ.length=4:=by obtain⟨ei,fA,hi,aa⟩:=h.tables; rw [← List.length_map (f:=mK),aa]; rfl
theorem c0.FL {s:aY} (h:c0 s):s.c4.length=6:=by rw [← List.length_map (f:=oj),h.Ep]; rfl
theorem IC (c:bk) (ar:gi c):bm (ug c) (fun r=>c0 r.1∧gi r.2):=by
 unfold ug
 refine .bind (fN _ 8 ar (by omega)) fun ak aa=> .bind (fN _ 30 aa.1 (by omega)) fun aO ae=> ?_
 refine .eq rfl (.eq rfl (.eq rfl (.eq rfl (.eq rfl (.eq rfl (.eq rfl (.eq rfl (.eq rfl (.eq rfl (.eq rfl (.eq rfl ?_)))))))))))
 refine .bind (PB _ ae.1) fun bc aD=> .bind (Pk _ aD.1) fun br aZ=> .bind (PC _ aZ.1) fun cx a6=> .eq rfl (.eq rfl ?_)
 obtain⟨We,ei,fA,hi,a6⟩:=a6
 have an:cx.1.length=4:=by rw [← List.length_map (f:=mK),a6]; rfl
 have TF:∀ t∈cx.1,t.bX.length≤1000:=fun t cr=>by
  have bl:mK t∈qg ei fA hi:=a6 ▸ List.mem_map_of_mem cr
  have cZ:∀ p∈qg ei fA hi,p.2.2.length≤1000:=by
   intro p hp
   simp only [qg,List.mem_cons,List.not_mem_nil,or_false] at hp
   rcases hp with rfl | rfl | rfl | rfl
   ·simp
   ·cases ei <;> simp [lv]
   ·cases fA <;> simp [sW]
   ·cases hi <;> simp [sX]
  exact cZ _ bl
 refine .bind (Qd _ _ We (by simp only; omega) TF) fun dr bl=> .eq rfl (.bind (mx _ bl.1) fun dC cZ=> ?_)
 let Inv (s:aY):Prop:=s.e3.map yU=FK∧s.kQ.length=3∧s.ln.length=3∧s.c4.map oj=vP∧s.bQ=cx.1∧s.iP.map (·.bG)= [1,2,7]
 have hinv:∀ (st:List fr) (Ng:List eG) (s:aY),Inv s→Inv { s with mu:=st,nf:=Ng } :=fun st Ng s h=>h
 refine .bind (P:=fun _=>True) (.cond (fun _=> .eq (h0 _ _ (by simp) (by omega)) (.ret trivial)) (fun _=> .ret trivial)) fun bB _=> ?_
 refine .bind (mx _ cZ) fun e7 eN=> ?_
 refine .bind (P:=fun m=>Inv m.1∧m.2.length≤10) (.cond (fun _=> .eq rfl (.eq (h0 _ _ (by simp) (by omega)) (.ret ⟨⟨rfl,rfl,aD.2,aZ.2,rfl,bl.2⟩,by simp⟩))) (fun _=> .ret ⟨⟨rfl,rfl,aD.2,aZ.2,rfl,bl.2⟩,by simp⟩)) fun cu du=> ?_
 refine .bind (mx _ eN) fun fT gl=> ?_
 refine .cC (P:=fun _=>True) (fun _=>⟨2,nC (k:=2) (by rw [du.1.2.2.2.2.1]; omega),trivial⟩) fun aW _=> ?_
 refine .bind (P:=fun m=>Inv m.1∧m.2.length≤11) (.cond (fun _=> .eq rfl (.eq (h0 _ _ (by have:=du.2; simp; omega) (by omega)) (.ret ⟨du.1,by have:=du.2; simp; omega⟩))) (fun _=> .ret ⟨du.1,by have:=du.2; simp only; omega⟩)) fun eL fX=> ?_
 refine .bind (mx _ gl) fun gL kt=> ?_
 refine .cC (P:=fun _=>True) (fun _=>⟨3,nC (k:=3) (by rw [fX.1.2.2.2.2.1]; omega),trivial⟩) fun bR _=> ?_
 refine .bind (P:=fun m=>Inv m.1∧m.2.length≤13) (.cond (fun _=> .eq rfl (.eq rfl (.eq (h0 _ _ (by have:=fX.2; simp; omega) (by omega)) (.ret ⟨fX.1,by have:=fX.2; simp; omega⟩)))) (fun _=> .ret ⟨fX.1,by have:=fX.2; simp only; omega⟩)) fun nW zs=> ?_
 obtain⟨⟨i1,i2,i3,i4,i5,i6⟩,_⟩:=zs
 exact .eq rfl (.ret ⟨⟨i1,i2,i3,i4,⟨ei,fA,hi,by simp only [i5]; exact a6⟩,i6⟩,kt⟩)
theorem JU (x:Int) (n:Int) (aa:1≤n) (ae:n≤1000000):bm (qT x n) (fun r=>0≤r∧r < n):=by
 unfold qT
 refine .cond (fun h=>by simp at h; omega) fun _=> ?_
 have hm:∀ y:Int,rB y n=some (y.tmod n):=fun y=>by unfold rB; rw [if_neg (by omega)]
 refine .eq (hm _) ?_
 have aD:=Int.tmod_lt_of_pos x (show 0 < n by omega)
 have aZ: -n < x.tmod n:=by
  have:=Int.tmod_lt_of_pos (-x) (show 0 < n by omega)
  rw [Int.neg_tmod] at this; omega
 rw [hD (by omega) (by omega)]
 exact .eq (hm _) (.ret ⟨Int.tmod_nonneg _ (by omega),Int.tmod_lt_of_pos _ (by omega)⟩)
end Go.Proofs.YtmnggbjcnoffeaaGreat
namespace Go.Proofs.YtmnggbjcnoffeaaGreat
open Go Gv
set_option linter.unusedVariables false
set_option linter.unusedSimpArgs false
def b5 (v:al) (i:Nat):Bool:=if i < 64 then v.bS.getLsbD i else v.dt.getLsbD (i - 64)
theorem ym {v w:al} (h:∀ j,j < 128→b5 v j=b5 w j):v=w:=by
 cases v with | mk WM WN=>cases w with | mk WO wl=>
 have aa:WM=WO:=by
  apply BitVec.eq_of_getLsbD_eq
  intro i au
  have:=h (i + 64) (by omega)
  simpa [b5,show ¬ (i + 64 < 64) by omega] using this
 have ae:WN=wl:=by
  apply BitVec.eq_of_getLsbD_eq
  intro i au
  have:=h i (by omega)
  simpa [b5,au] using this
 rw [aa,ae]
theorem x2 (j:Nat):b5 default j=false:=by
 unfold b5; split <;> exact BitVec.getLsbD_zero
def qh (x y:al):al:= { dt:=x.dt &&& y.dt,bS:=x.bS &&& y.bS }
def ML (x y:al):al:= { dt:=x.dt ||| y.dt,bS:=x.bS ||| y.bS }
def FM (x y:al):al:= { dt:=x.dt ^^^ y.dt,bS:=x.bS ^^^ y.bS }
@[simp] theorem u5 (x y:al) (j:Nat):b5 (qh x y) j=(b5 x j && b5 y j):=by unfold b5 qh; split <;> simp
@[simp] theorem WX (x y:al) (j:Nat):b5 (ML x y) j=(b5 x j || b5 y j):=by unfold b5 ML; split <;> simp
@[simp] theorem Rr (x y:al) (j:Nat):b5 (FM x y) j=(b5 x j ^^ b5 y j):=by unfold b5 FM; split <;> simp
theorem and_eq (x y:al):qV x y=some (qh x y):=rfl
theorem xor_eq (x y:al):xA x y=some (FM x y):=rfl
theorem u6 (x:al):bm (oW x) (fun r=> ∀ j,j < 128→bJ r j=b5 x j):=by
 unfold oW
 refine bm.loop 64 (fun k s=>s.1=k∧ ∀ j,j < 128→bJ s.2 j=(decide (j % 64 < k) && b5 x j)) (by omega)
  ⟨rfl,fun j aG=>by simp [Ia]⟩ (fun k s ax au=> ?_) (fun s au=> ?_)
 ·obtain⟨i,v⟩:=s; obtain⟨aa,ae⟩:=au
  simp only at aa ae; subst aa
  have av:bw ((k:Int) + 64)=((k + 64:Nat):Int):=by rw [hD (by omega) (by omega)]; simp
  refine bm.cond (fun _=> ?_) (fun h=>by simp at h; omega)
  refine bm.idx rfl (show k < 128 by omega) (.eq rfl (.idx av (show k + 64 < 128 by omega) (.eq rfl (.ret ⟨eU (by omega),fun j aG=> ?_⟩))))
  simp only [hB _ _ (show k < 128 by omega),hB _ _ (show k + 64 < 128 by omega),nD (show k < 2 ^ 64 by omega),QG,ae j aG]
  by_cases qp:j=k + 64
  ·subst qp
   have aa:(k + 64) % 64 < k + 1:=by omega
   have ae: ¬ (k + 64 < 64):=by omega
   simp only [b5,aa,ae,if_true,if_false,decide_true,Bool.true_and,Nat.add_sub_cancel]
  ·by_cases k8:j=k
   ·subst k8
    have:j % 64 < j + 1:=by omega
    simp [b5,this,ax]
   ·rw [if_neg qp,if_neg k8]
    congr 1
    rw [decide_eq_decide]; omega
 ·obtain⟨i,v⟩:=s; obtain⟨aa,ae⟩:=au
  simp only at aa ae; subst aa
  refine⟨_,rfl,.ret fun j aG=> ?_⟩
  have:j % 64 < 64:=by omega
  simp [ae j aG,this]
theorem Rs (x:Vector Bool 128):bm (xw x) (fun r=> ∀ j,j < 128→b5 r j=bJ x j):=by
 unfold xw
 refine bm.loop 64 (fun k s=>s.1=k∧ ∀ j,j < 128→b5 s.2 j=(decide (j % 64 < k) && bJ x j)) (by omega)
  ⟨rfl,fun j aG=>by simp [x2]⟩ (fun k s ax au=> ?_) (fun s au=> ?_)
 ·obtain⟨i,v⟩:=s; obtain⟨aa,ae⟩:=au
  simp only at aa ae; subst aa
  have av:bw ((k:Int) + 64)=((k + 64:Nat):Int):=by rw [hD (by omega) (by omega)]; simp
  refine bm.cond (fun _=> ?_) (fun h=>by simp at h; omega)
  refine bm.idx rfl (show k < 128 by omega) (.bind (P:=fun w=> ∀ j,j < 128→b5 w j=(b5 v j || (bJ x k && decide (j=k)))) (.cond (fun hb=> .ret fun j aG=> ?_) (fun hb=> .ret fun j aG=>by simp [hb])) fun w hw=> ?_)
  ·simp only [b5,nD (show k < 2 ^ 64 by omega),BitVec.getLsbD_or,IY,hb,Bool.true_and]
   split
   ·rename_i h; simp [h]
   ·have:j≠k:=by omega
    simp [this]
  refine .idx av (show k + 64 < 128 by omega) (.bind (P:=fun u=> ∀ j,j < 128→b5 u j=(b5 w j || (bJ x (k + 64) && decide (j=k + 64)))) (.cond (fun hb=> .ret fun j aG=> ?_) (fun hb=> .ret fun j aG=>by simp [hb])) fun u hu=> .ret ⟨eU (by omega),fun j aG=> ?_⟩)
  ·simp only [b5,nD (show k < 2 ^ 64 by omega),BitVec.getLsbD_or,IY,hb,Bool.true_and]
   split
   ·have:j≠k + 64:=by omega
    simp [this]
   ·have:(j - 64=k)↔j=k + 64:=by omega
    have bl:j - 64 < 64:=by omega
    simp [this,bl]
  simp only [hu j aG,hw j aG,ae j aG]
  by_cases qp:j=k + 64
  ·subst qp
   simp [Nat.mod_eq_of_lt ax]
  ·by_cases k8:j=k
   ·subst k8
    have aa:j % 64 < j + 1:=by omega
    have ae: ¬ (j % 64 < j):=by omega
    simp [aa,ae]
   ·have aa:(j % 64 < k + 1)↔j % 64 < k:=by omega
    simp [aa,qp,k8]
 ·obtain⟨i,v⟩:=s; obtain⟨aa,ae⟩:=au
  simp only at aa ae; subst aa
  refine⟨_,rfl,.ret fun j aG=> ?_⟩
  have:j % 64 < 64:=by omega
  simp [ae j aG,this]
theorem Qe (x y:al):bm (xC x y) (fun r=>r=qh x y):=by
 unfold xC
 refine(u6 x).bind fun a bn=>(u6 y).bind fun b hb=> ?_
 refine bm.loop 128 (fun k s=>s.1=k∧ ∀ j,j < 128→bJ s.2 j=(b5 x j && (decide (k≤j) || b5 y j))) (by omega)
  ⟨rfl,fun j aG=>by simp [bn j aG]⟩ (fun k s ax au=> ?_) (fun s au=> ?_)
 ·obtain⟨i,v⟩:=s; obtain⟨aa,ae⟩:=au
  simp only at aa ae; subst aa
  refine bm.cond (fun _=> ?_) (fun h=>by simp at h; omega)
  refine .idx rfl ax (.cC (P:=fun q=>q=k) (fun _=>⟨k,nC ax,rfl⟩) fun q hq=> .idx rfl ax (.ret ⟨eU (by omega),fun j aG=> ?_⟩))
  simp only [hB _ _ ax]
  by_cases qp:j=k
  ·subst qp
   have aD:=ae j aG
   have aZ: ¬ (j + 1≤j):=by omega
   cases a2:bJ v j
   ·simp [a2] at aD; simp [aD,aZ]
   ·simp [a2] at aD; rw [hq a2,hb j aG]; simp [aD,aZ]
  ·have aZ:(k + 1≤j)↔k≤j:=by omega
   simp [qp,ae j aG,aZ]
 ·obtain⟨i,v⟩:=s; obtain⟨aa,ae⟩:=au
  simp only at aa ae; subst aa
  refine⟨_,rfl,(Rs v).bind fun r aU=> .ret (ym fun j aG=> ?_)⟩
  have: ¬ (128≤j):=by omega
  simp [aU j aG,ae j aG,this]
end Go.Proofs.YtmnggbjcnoffeaaGreat
namespace Go.Proofs.YtmnggbjcnoffeaaGreat
open Go Gv
set_option linter.unusedVariables false
set_option linter.unusedSimpArgs false
theorem Jo (v:al) (n:Nat) (aP:n < 2 ^ 62):bm (uH v n) (fun r=> ∀ j,j < 128→b5 r j=b5 v (j + n)):=by
 unfold uH
 refine .cond (fun h=> .ret fun j aG=> ?_) (fun h=> .cond (fun cX=> .eq rfl (.ret fun j aG=> ?_)) (fun cX=> .eq rfl (.eq rfl (.ret fun j aG=> ?_))))
 ·have:n=0:=by simp at h; omega
  simp [this]
 ·simp only [decide_eq_true_eq] at cX
  have av:bw ((n:Int) - 64)=((n - 64:Nat):Int):=by rw [hD (by omega) (by omega)]; omega
  rw [av,nD (by omega)]
  unfold b5
  by_cases aG:j < 64
  ·rw [if_pos aG,if_neg (by omega)]
   simp only [BitVec.getLsbD_ushiftRight]
   congr 1; omega
  ·rw [if_neg aG,if_neg (by omega)]
   rw [show(default:al).dt=0#64 from rfl,BitVec.getLsbD_zero,BitVec.getLsbD_of_ge _ _ (by omega)]
 ·simp only [decide_eq_false_iff_not] at h cX
  have av:bw (64 - (n:Int))=((64 - n:Nat):Int):=by rw [hD (by omega) (by omega)]; omega
  rw [av,nD (by omega),nD (by omega)]
  unfold b5
  by_cases aG:j < 64
  ·rw [if_pos aG]
   simp only [BitVec.getLsbD_or,BitVec.getLsbD_ushiftRight,BitVec.getLsbD_shiftLeft]
   by_cases aD:j + n < 64
   ·rw [if_pos aD]
    have:j < 64 - n:=by omega
    simp [this,Nat.add_comm]
   ·rw [if_neg aD,BitVec.getLsbD_of_ge _ (n + j) (by omega)]
    have: ¬ (j < 64 - n):=by omega
    simp only [aG,this,decide_true,decide_false,Bool.true_and,Bool.not_false,Bool.false_or]
    congr 1; omega
  ·rw [if_neg aG,if_neg (by omega)]
   simp only [BitVec.getLsbD_ushiftRight]
   congr 1; omega
theorem R1 (v:al) (i:Int):bm (sl v i) (fun r=>r=(decide (0≤i∧i < 128) && b5 v i.toNat)):=by
 unfold sl
 refine .cC (P:=fun r=> ∀ j,j < 128→b5 r j=b5 v (j + i.toNat)) (fun h=> ?_) fun y a9=> .eq rfl (.ret ?_)
 ·simp at h
  obtain⟨n,rfl⟩:=Int.eq_ofNat_of_zero_le h.1
  exact Jo v n (by omega)
 ·by_cases h:0≤i∧i < 128
  ·have aa:(decide (i≥0) && decide (i < 128))=true:=by simp; omega
   rw [aa,JQ]
   have:=a9 aa 0 (by omega)
   rw [show b5 y 0=y.bS.getLsbD 0 from rfl,Nat.zero_add] at this
   rw [this,decide_eq_true h]
  ·have aa:(decide (i≥0) && decide (i < 128))=false:=by simp; omega
   simp [aa,h]
def Nh (w:Vector al 4) (i:Nat):Bool:=b5 (bJ w (i / 128)) (127 - i % 128)
def cell (val mask:Vector al 4) (i:Nat):BitVec 8:=if Nh mask i then(if Nh val i then 1#8 else 0#8) else 2#8
end Go.Proofs.YtmnggbjcnoffeaaGreat
namespace Go.Proofs.YtmnggbjcnoffeaaGreat
open Go Gv
set_option linter.unusedVariables false
set_option linter.unusedSimpArgs false
set_option maxRecDepth 100000
theorem Rt (x y:al):bm (xA x y) (fun r=> ∀ j,j < 128→b5 r j=(b5 x j ^^ b5 y j)):=⟨_,xor_eq x y,fun j _=>Rr x y j⟩
theorem Er (n:Int):bm (sh n) (fun r=> ∀ j,j < 128→b5 r j=decide ((j:Int) < n)):=by
 unfold sh uD
 refine .eq rfl (.eq rfl ?_)
 have hm:bw (128 - min (max 0 n) 128)=((128 - min (max 0 n) 128).toNat:Int):=by rw [hD (by omega) (by omega)]; omega
 rw [hm]
 refine(Jo _ _ (by omega)).bind fun r aU=> .ret fun j aG=> ?_
 rw [aU j aG]
 have k1:∀ i,b5 { dt:=18446744073709551615#64,bS:=18446744073709551615#64 } i=decide (i < 128):=by
  intro i
  have bh:(18446744073709551615#64)=BitVec.allOnes 64:=by rfl
  unfold b5
  simp only [bh,BitVec.getLsbD_allOnes]
  by_cases h:i < 64
  ·simp [h]; omega
  ·simp [h]; omega
 rw [k1,decide_eq_decide]; omega
end Go.Proofs.YtmnggbjcnoffeaaGreat
namespace Go.Proofs.YtmnggbjcnoffeaaGreat
open Go Gv
set_option linter.unusedVariables false
set_option linter.unusedSimpArgs false
set_option maxRecDepth 100000
def val (w:Nat):Nat→ (Nat→Nat)→Nat
 | 0,_=>0
 | n + 1,d=>d 0 + 2 ^ w * val w n (fun k=>d (k + 1))
end Go.Proofs.YtmnggbjcnoffeaaGreat
namespace Go.Proofs.YtmnggbjcnoffeaaGreat
open Go Gv
set_option linter.unusedVariables false
set_option linter.unusedSimpArgs false
set_option maxRecDepth 100000
end Go.Proofs.YtmnggbjcnoffeaaGreat
namespace Go.Proofs.YtmnggbjcnoffeaaGreat
open Go Gv
set_option linter.unusedVariables false
set_option linter.unusedSimpArgs false
set_option maxRecDepth 100000
end Go.Proofs.YtmnggbjcnoffeaaGreat
namespace Go.Proofs.YtmnggbjcnoffeaaGreat
open Go Gv
set_option linter.unusedVariables false
set_option linter.unusedSimpArgs false
set_option maxRecDepth 100000
end Go.Proofs.YtmnggbjcnoffeaaGreat
namespace Go.Proofs.YtmnggbjcnoffeaaGreat
open Go Gv
set_option linter.unusedVariables false
set_option linter.unusedSimpArgs false
set_option maxRecDepth 100000
def pn:List Int:= [16,16,8,4,4,8,32,12,4]
theorem c0.qy {s:aY} (h:c0 s) {k:Nat} (ax:k < 9):(aF s.e3 k).bG=(k:Int) + 1∧ (aF s.e3 k).eP=aF pn k:=by
 have aa:=uW yU (l:=s.e3) (k:=k) (by rw [h.pk]; exact ax)
 rw [h.fields] at aa
 have ae:aF FK k=((k:Int) + 1,aF pn k):=by
  have:k=0∨k=1∨k=2∨k=3∨k=4∨k=5∨k=6∨k=7∨k=8:=by omega
  rcases this with rfl | rfl | rfl | rfl | rfl | rfl | rfl | rfl | rfl <;> rfl
 rw [ae] at aa
 simp only [yU,Prod.mk.injEq] at aa
 exact⟨aa.1.symm,aa.2.symm⟩
def rG:List (List Int):= [[],[],[16],[4],[4,12],[]]
theorem c0.act {s:aY} (h:c0 s) {k:Nat} (ax:k < 6):(aF s.c4 k).bG=(k:Int) + 1∧ (aF s.c4 k).jt.map (·.eP)=aF rG k:=by
 have aa:=uW oj (l:=s.c4) (k:=k) (by rw [h.FL]; exact ax)
 rw [h.Ep] at aa
 have ae:aF vP k=((k:Int) + 1,aF rG k):=by
  have:k=0∨k=1∨k=2∨k=3∨k=4∨k=5:=by omega
  rcases this with rfl | rfl | rfl | rfl | rfl | rfl <;> rfl
 rw [ae] at aa
 simp only [oj,Prod.mk.injEq] at aa
 exact⟨aa.1.symm,aa.2.symm⟩
def jX (key:cB):Prop:= ∃ j:Nat,j < 9∧key.gb=(j:Int) + 1∧1≤key.cH∧key.cH≤4∧4≤aF pn j∧aF pn j≤32∧ (key.cH=2→j=6)
def fK (key:cB):Int:=aF pn (key.gb - 1).toNat
theorem c0.ik {s:aY} (h:c0 s) {k:Nat} (ax:k < 4):(aF s.bQ k).bG=(k:Int) + 1∧
 (1≤ (aF s.bQ k).bX.length∧ (aF s.bQ k).bX.length≤3)∧ (∀ key∈ (aF s.bQ k).bX,jX key)∧
 (1≤ (aF s.bQ k).c4.length∧ (aF s.bQ k).c4.length≤5)∧ (∀ a∈ (aF s.bQ k).c4,1≤a∧a≤6):=by
 obtain⟨ei,fA,hi,cr⟩:=h.tables
 have aa:=uW mK (l:=s.bQ) (k:=k) (by rw [h.jZ]; exact ax)
 rw [cr] at aa
 have ae:∀ p:Int × List Int × List cB,p=mK (aF s.bQ k)→p.1=(k:Int) + 1→ (1≤p.2.2.length∧p.2.2.length≤3)→ (∀ key∈p.2.2,jX key)→
  (1≤p.2.1.length∧p.2.1.length≤5)→ (∀ a∈p.2.1,1≤a∧a≤6)→ (aF s.bQ k).bG=(k:Int) + 1∧
  (1≤ (aF s.bQ k).bX.length∧ (aF s.bQ k).bX.length≤3)∧ (∀ key∈ (aF s.bQ k).bX,jX key)∧
  (1≤ (aF s.bQ k).c4.length∧ (aF s.bQ k).c4.length≤5)∧ (∀ a∈ (aF s.bQ k).c4,1≤a∧a≤6):=by
  rintro p rfl a b c d e
  exact⟨a,b,c,d,e⟩
 have hF:(1≤ ([1,2,4]:List Int).length∧ ([1,2,4]:List Int).length≤5)∧ ∀ a∈ ([1,2,4]:List Int),1≤a∧a≤6:=by decide
 have dL:(1≤ ([1,2,3,4]:List Int).length∧ ([1,2,3,4]:List Int).length≤5)∧ ∀ a∈ ([1,2,3,4]:List Int),1≤a∧a≤6:=by decide
 have ef:(1≤ ([1,2,3,5,6]:List Int).length∧ ([1,2,3,5,6]:List Int).length≤5)∧ ∀ a∈ ([1,2,3,5,6]:List Int),1≤a∧a≤6:=by decide
 have jq:(1≤ ([1,3,5]:List Int).length∧ ([1,3,5]:List Int).length≤5)∧ ∀ a∈ ([1,3,5]:List Int),1≤a∧a≤6:=by decide
 have TG:jX n1:=⟨3,by decide,rfl,by decide,by decide,by decide,by decide,by decide⟩
 have Kv:jX z0:=⟨3,by decide,rfl,by decide,by decide,by decide,by decide,by decide⟩
 have TH:jX Hg:=⟨4,by decide,rfl,by decide,by decide,by decide,by decide,by decide⟩
 have Fl:jX tV:=⟨6,by decide,rfl,by decide,by decide,by decide,by decide,by decide⟩
 have TI:jX CX:=⟨2,by decide,rfl,by decide,by decide,by decide,by decide,by decide⟩
 have Lu:jX Ak:=⟨5,by decide,rfl,by decide,by decide,by decide,by decide,by decide⟩
 have Lv:jX Al:=⟨7,by decide,rfl,by decide,by decide,by decide,by decide,by decide⟩
 have TJ:jX Hh:=⟨8,by decide,rfl,by decide,by decide,by decide,by decide,by decide⟩
 have:k=0∨k=1∨k=2∨k=3:=by omega
 rcases this with rfl | rfl | rfl | rfl
 ·refine ae _ aa rfl (show 1≤ [n1].length∧ [n1].length≤3 by decide) ?_ hF.1 hF.2
  intro key iV
  rcases List.mem_singleton.1 iV with rfl
  exact TG
 ·refine ae _ aa rfl ?_ ?_ dL.1 dL.2
  ·show 1≤ (lv ei).length∧ (lv ei).length≤3
   cases ei <;> decide
  ·intro key iV
   replace iV:key∈lv ei:=iV
   cases ei <;> simp only [lv,List.mem_cons,List.not_mem_nil,or_false,if_true,if_false,Bool.false_eq_true] at iV
   ·subst iV; exact Fl
   ·rcases iV with rfl | rfl; exact Fl; exact TI
 ·refine ae _ aa rfl ?_ ?_ ef.1 ef.2
  ·show 1≤ (sW fA).length∧ (sW fA).length≤3
   cases fA <;> decide
  ·intro key iV
   replace iV:key∈sW fA:=iV
   cases fA <;> simp only [sW,List.mem_cons,List.not_mem_nil,or_false,if_true,if_false,Bool.false_eq_true] at iV
   ·rcases iV with rfl | rfl; exact Lu; exact Kv
   ·rcases iV with rfl | rfl | rfl; exact Lu; exact Kv; exact TH
 ·refine ae _ aa rfl ?_ ?_ jq.1 jq.2
  ·show 1≤ (sX hi).length∧ (sX hi).length≤3
   cases hi <;> decide
  ·intro key iV
   replace iV:key∈sX hi:=iV
   cases hi <;> simp only [sX,List.mem_cons,List.not_mem_nil,or_false,if_true,if_false,Bool.false_eq_true] at iV
   ·subst iV; exact Lv
   ·rcases iV with rfl | rfl | rfl; exact Lv; exact TJ; exact Fl
theorem PD {s:aY} (h:c0 s) {j:Nat} (aG:j < 9):bm (xl s ((j:Int) + 1)) (fun r=>r=aF pn j):=by
 unfold xl
 have an:=h.pk
 refine bm.loop j (fun k s=>s=(k:Int)) (by omega) rfl (fun k i ax au=> ?_) (fun i au=> ?_)
 ·subst au
  refine bm.cond (fun _=> ?_) (fun h=>by simp at h; omega)
  refine .idx rfl (by omega) (.cond (fun ar=> ?_) (fun ar=> .ret (eU (by omega))))
  have:=(h.qy (show k < 9 by omega)).1
  simp only [this,beq_iff_eq] at ar
  omega
 ·subst au
  have aa:decide ((j:Int) < (s.e3.length:Int))=true:=by simp; omega
  have ae:((aF s.e3 j).bG ==(j:Int) + 1)=true:=by rw [(h.qy aG).1]; simp
  rw [aa]
  simp only [cond_true]
  rw [nC (by omega)]
  simp only [Option.bind_some,ae,cond_true]
  exact⟨_,rfl,.ret (h.qy aG).2⟩
theorem Pl {s:aY} (h:c0 s) {j:Nat} (aG:j < 6):bm (w9 s ((j:Int) + 1)) (fun r=>r=aF s.c4 j):=by
 unfold w9
 have an:=h.FL
 refine bm.loop j (fun k s=>s=(k:Int)) (by omega) rfl (fun k i ax au=> ?_) (fun i au=> ?_)
 ·subst au
  refine bm.cond (fun _=> ?_) (fun h=>by simp at h; omega)
  refine .idx rfl (by omega) (.cond (fun ar=> ?_) (fun ar=> .ret (eU (by omega))))
  have:=(h.act (show k < 6 by omega)).1
  simp only [this,beq_iff_eq] at ar
  omega
 ·subst au
  have aa:decide ((j:Int) < (s.c4.length:Int))=true:=by simp; omega
  have ae:((aF s.c4 j).bG ==(j:Int) + 1)=true:=by rw [(h.act aG).1]; simp
  rw [aa]
  simp only [cond_true]
  rw [nC (by omega)]
  simp only [Option.bind_some,ae,cond_true]
  exact⟨_,rfl,.ret rfl⟩
theorem xR {n:Nat} (aP:n < 64) (j:Nat):(((1#64) <<< n) - 1#64).getLsbD j=decide (j < n):=by
 have aa:(((1#64) <<< n) - 1#64).toNat=2 ^ n - 1:=by
  have ae:((1#64) <<< n).toNat=2 ^ n:=by
   rw [BitVec.toNat_shiftLeft,BitVec.toNat_ofNat,Nat.shiftLeft_eq]
   have:=Nat.pow_lt_pow_right (show 1 < 2 by omega) aP
   rw [show(1 % 2 ^ 64:Nat)=1 from rfl,Nat.one_mul]
   exact Nat.mod_eq_of_lt this
  have aD:1≤2 ^ n:=Nat.one_le_two_pow
  have aZ:=Nat.pow_lt_pow_right (show 1 < 2 by omega) aP
  rw [BitVec.toNat_sub,ae]
  simp only [BitVec.toNat_ofNat]
  omega
 rw [← BitVec.testBit_toNat,aa,Nat.testBit_two_pow_sub_one]
theorem EO (x:al) (n:Int) (bT:0≤n) (aa:n < 1000):bm (sk x n) (fun r=> ∀ j,j < 128→b5 r j=(b5 x j && decide ((j:Int) < n))):=by
 unfold sk
 obtain⟨m,rfl⟩:=Int.eq_ofNat_of_zero_le bT
 refine .cond (fun h=> .ret fun j aG=> ?_) fun h=> .cond (fun cX=> .eq rfl (.ret fun j aG=> ?_)) fun cX=> .cond (fun GF=> .ret fun j aG=> ?_) fun GF=> .eq rfl (.eq rfl (.ret fun j aG=> ?_))
 ·simp only [decide_eq_true_eq] at h
  have:decide ((j:Int) < (m:Int))=true:=by simp; omega
  rw [this,Bool.and_true]
 ·simp only [decide_eq_true_eq,decide_eq_false_iff_not] at h cX
  have e:bw ((m:Int) - 64)=((m - 64:Nat):Int):=by rw [hD (by omega) (by omega)]; omega
  simp only [b5,e,nD (show m - 64 < 2 ^ 64 by omega),BitVec.getLsbD_and,xR (show m - 64 < 64 by omega)]
  split
  ·have:decide ((j:Int) < (m:Int))=true:=by simp; omega
   rw [this,Bool.and_true]
  ·congr 1; rw [decide_eq_decide]; omega
 ·simp only [decide_eq_true_eq] at GF
  have:decide ((j:Int) < (m:Int))=false:=by simp; omega
  rw [x2,this,Bool.and_false]
 ·simp only [decide_eq_true_eq,decide_eq_false_iff_not] at h cX GF
  simp only [b5,nD (show m < 2 ^ 64 by omega),BitVec.getLsbD_and,xR (show m < 64 by omega)]
  split
  ·congr 1; rw [decide_eq_decide]; omega
  ·have:decide ((j:Int) < (m:Int))=false:=by simp; omega
   rw [this,Bool.and_false]; exact BitVec.getLsbD_zero
theorem Lw (w:BitVec 64) (j:Nat):b5 { (default:al) with bS:=w } j=w.getLsbD j:=by
 unfold b5
 split
 ·rfl
 ·rw [BitVec.getLsbD_of_ge w j (by omega)]; exact BitVec.getLsbD_zero
structure nQ (kind b:Int) (m:ca):Prop where
 off:m.gu=false→m=default
 CF:kind=1→m.gu=true
 low:kind=1→ ∀ j,j < 128→b5 m.cL j=true→ (j:Int) < b
 Xl:kind=3→ ∀ j,j < 128→b5 m.gK j=true→ (j:Int) < b
 Xm:kind=3→ ∀ j,j < 128→b5 m.cL j=true→b5 m.gK j=true
 pre:0≤m.dO∧m.dO≤32
 GG:kind=2→m.gu=true→1≤m.dO
 MM:kind≠2→m.dO=0
 gN:kind≠3→m.gK=default
 Xn:kind=3→m.gu=true→m.gK≠default
 Xo:kind=4→m.gu=true→m.cL.dt=m.jg.dt∧m.cL.bS≤m.jg.bS
 GH:kind=2→ ∀ j,j < 128→b5 m.cL j=true→32 - m.dO≤ (j:Int)∧j < 32
 CG:kind≠4→m.jg=default
theorem Cf:(0:Int)≤0∧ (0:Int)≤32:=⟨Int.le_refl 0,by decide⟩
theorem DQ {kind b:Int} (h:kind≠1):nQ kind b default:=
 ⟨fun _=>rfl,fun k=>absurd k h,fun k=>absurd k h,fun _ j _ a2=>(by rw [show(default:ca).gK=default from rfl,x2] at a2; cases a2),
  fun _ j _ a2=>(by rw [show(default:ca).cL=default from rfl,x2] at a2; cases a2),
  Cf,fun _ k=>(by cases k),fun _=>rfl,fun _=>rfl,fun _ k=>(by cases k),fun _ k=>(by cases k),
  fun _ j _ a2=>(by rw [show(default:ca).cL=default from rfl,x2] at a2; cases a2),fun _=>rfl⟩
theorem Ru {a x y:BitVec 64} (aa:a≤x) (ae:a≤y):a≤ta x y:=by
 unfold ta; split <;> assumption
theorem Rv {v:al} {b c:Int} (hb:0≤b∧b≤32) (ar:0≤c∧c < 256) (a2:∀ j,j < 128→b5 v j=true→ (j:Int) < b):
 v.dt=0#64∧v.bS≤ta (v.bS + BitVec.ofInt 64 c) (((1#64) <<< (BitVec.ofInt 64 b).toNat) - (1#64)):=by
 have ed:v.dt=0#64:=by
  apply BitVec.eq_of_getLsbD_eq
  intro i au
  have h:=a2 (64 + i) (by omega)
  unfold b5 at h
  rw [if_neg (by omega),Nat.add_sub_cancel_left] at h
  rw [BitVec.getLsbD_zero]
  cases aq:v.dt.getLsbD i
  ·rfl
  ·have:=h aq; omega
 obtain⟨n,rfl⟩:=Int.eq_ofNat_of_zero_le hb.1
 have aP:n≤32:=by omega
 have Wf:(BitVec.ofInt 64 (n:Int)).toNat=n:=nD (by omega)
 rw [Wf]
 have Ly:v.bS≤ ((1#64) <<< n) - 1#64:=by
  have hand:v.bS &&& (((1#64) <<< n) - 1#64)=v.bS:=by
   apply BitVec.eq_of_getLsbD_eq
   intro i au
   rw [BitVec.getLsbD_and,xR (by omega)]
   have h:=a2 i (by omega)
   unfold b5 at h
   rw [if_pos au] at h
   cases aq:v.bS.getLsbD i
   ·rfl
   ·have:=h aq
    simp; omega
  rw [← hand]
  rw [BitVec.le_def,BitVec.toNat_and]
  exact Nat.and_le_right
 have r3:(((1#64) <<< n) - 1#64).toNat < 2 ^ 33:=by
  have CH:(((1#64) <<< n) - 1#64) &&& (((1#64) <<< 32) - 1#64)=(((1#64) <<< n) - 1#64):=by
   apply BitVec.eq_of_getLsbD_eq
   intro i au
   rw [BitVec.getLsbD_and,xR (by omega),xR (by omega)]
   simp; omega
  rw [← CH,BitVec.toNat_and]
  exact Nat.lt_of_le_of_lt Nat.and_le_right (by decide)
 refine⟨ed,Ru ?_ Ly⟩
 rw [BitVec.le_def] at Ly ⊢
 obtain⟨m,rfl⟩:=Int.eq_ofNat_of_zero_le ar.1
 rw [BitVec.toNat_add,nD (by omega),Nat.mod_eq_of_lt (by omega)]
 omega
theorem QJ (x:BitVec 64) {n:Int} (aa:1≤n) (ae:n≤32) {i:Nat} (au:i < 128)
 (a2:b5 { (default:al) with bS:=x &&& ((((1#64) <<< (BitVec.ofInt 64 32).toNat) - (1#64)) - (((1#64) <<< (BitVec.ofInt 64 (bw (32 - n))).toNat) - (1#64))) } i=true):32 - n≤ (i:Int)∧i < 32:=by
 rw [Lw,BitVec.getLsbD_and,Bool.and_eq_true] at a2
 have aD:=a2.2
 obtain⟨k,ax⟩:=Int.eq_ofNat_of_zero_le (show 0≤32 - n by omega)
 have cN:k < 32:=by omega
 have e:bw (32 - n)=(k:Int):=by rw [ax,hD (by omega) (by omega)]
 rw [e,nD (by omega)] at aD
 have GI:i < 64:=by
  rcases Nat.lt_or_ge i 64 with h | h
  ·exact h
  ·rw [BitVec.getLsbD_of_ge _ i h] at aD; cases aD
 have key:∀ (k:Fin 32) (i:Fin 64),((((1#64) <<< (BitVec.ofInt 64 32).toNat) - (1#64)) - (((1#64) <<< k.1) - (1#64))).getLsbD i.1=true→k.1≤i.1∧i.1 < 32:=by decide +kernel
 have:=key ⟨k,cN⟩ ⟨i,GI⟩ aD
 simp only at this
 omega
theorem Qf (c:bk) {s:aY} (key:cB) (ar:gi c) (h:c0 s) (ax:jX key):
 bm (w3 c s key) (fun r=>gi r.2∧nQ key.cH (fK key) r.1):=by
 obtain⟨j,aG,ba,aW,hM,Ni,Wg,cN⟩:=ax
 have hb:fK key=aF pn j:=by unfold fK; rw [ba]; congr 1; omega
 unfold w3
 rw [ba]
 refine(PD h aG).bind fun ak av=> ?_
 rw [hb]
 subst av
 generalize iF:aF pn j=b at *
 refine .bind (fN _ 256 ar (by omega)) fun aO ae=> .bind (fN _ 16 ae.1 (by omega)) fun bc aD=> .eq rfl (.bind (fN _ 16 aD.1 (by omega)) fun br aZ=> .eq rfl ?_)
 refine .bind (EO _ b (by omega) (by omega)) fun cx a6=> ?_
 refine .cond (fun q=> ?_) fun q=> ?_
 ·have q:key.cH=2:=by simpa using q
  refine .bind (fN _ 5 aZ.1 (by omega)) fun dr bl=> .cond (fun _=> ?_) fun _=> .ret ⟨bl.1,DQ (by omega)⟩
  refine .bind (fN _ b bl.1 (by omega)) fun dC cZ=> .bind (fN _ 5 cZ.1 (by omega)) fun e7 eN=> ?_
  refine .eq (sB eN.2.1 (by simpa using eN.2.2.1)) ?_
  have lI:1≤aF [b,8,16,1,bw (1 + dC.1)] e7.1.toNat∧aF [b,8,16,1,bw (1 + dC.1)] e7.1.toNat≤32:=by
   have cl:e7.1.toNat < [b,8,16,1,bw (1 + dC.1)].length:=by have:=eN.2.1; have:=eN.2.2.1; simp; omega
   have hm:=List.getElem_mem cl
   rw [← fx _ cl] at hm
   have hw:bw (1 + dC.1)=1 + dC.1:=hD (by have:=cZ.2.1; omega) (by have:=cZ.2.2.1; omega)
   have:=cZ.2.1; have:=cZ.2.2.1
   simp only [List.mem_cons,List.not_mem_nil,or_false] at hm
   rcases hm with hm | hm | hm | hm | hm <;> rw [hm] <;> omega
  unfold AZ
  refine .eq rfl (.eq rfl (.eq rfl (.ret ⟨eN.1,fun h=>(by cases h),fun h=>(by omega),fun h=>by omega,fun h=>(by omega),fun h=>(by omega),⟨by have:=lI.1; show 0≤aF _ _; omega,lI.2⟩,fun _ _=>lI.1,fun h=>absurd q h,fun _=>rfl,fun h=>(by omega),fun h=>(by omega),fun _ i au a2=> ?_,fun _=>rfl⟩)))
  have CH:b=32:=by rw [← iF,cN q]; rfl
  rw [CH] at lI a2
  rw [CH]
  exact QJ _ lI.1 lI.2 au a2
 refine .cond (fun e6=> ?_) fun e6=> ?_
 ·have e6:key.cH=3:=by simpa using e6
  refine .bind (fN _ 256 aZ.1 (by omega)) fun gL kt=> .bind (fN _ 5 kt.1 (by omega)) fun gF py=> ?_
  refine .eq (sB py.2.1 (by simpa using py.2.2.1)) (.eq rfl (.bind (EO _ b (by omega) (by omega)) fun gT z1=> ?_))
  refine .cond (fun GJ=> ?_) fun _=> .ret ⟨py.1,DQ (by omega)⟩
  refine .eq rfl (.eq rfl (.ret ⟨py.1,fun h=>(by cases h),fun h=>(by omega),fun h=>by omega,fun _ i au a2=> ?_,fun _ i au a2=> ?_,Cf,fun h=>(by omega),fun _=>rfl,fun h=>absurd e6 h,fun _ _ hd=> ?_,fun h=>(by omega),fun h=>(by omega),fun _=>rfl⟩))
  ·have qz:=z1 i au
   simp only at a2
   rw [a2] at qz
   have:=qz.symm
   simp only [Bool.and_eq_true,decide_eq_true_eq] at this
   exact this.2
  ·simp only at a2 ⊢
   rw [Lw,BitVec.getLsbD_and,Bool.and_eq_true] at a2
   have GI:i < 64:=by
    rcases Nat.lt_or_ge i 64 with h | h
    ·exact h
    ·rw [BitVec.getLsbD_of_ge _ i h] at a2; cases a2.1
   unfold b5; rw [if_pos GI]; exact a2.2
  ·have hd':gT=default:=hd
   rw [hd'] at GJ; simp at GJ
   exact GJ rfl
 refine .cond (fun h9=> ?_) fun h9=> ?_
 ·have h9:key.cH=4:=by simpa using h9
  refine .bind (fN _ 256 aZ.1 (by omega)) fun gU qz=> .eq rfl (.bind (fN _ 5 qz.1 (by omega)) fun hU CE=> .eq rfl (.cond (fun _=> ?_) fun _=> .ret ⟨CE.1,DQ (by omega)⟩))
  have Wh:=Rv (v:=cx) (b:=b) (c:=gU.1) ⟨by omega,Wg⟩ ⟨qz.2.1,qz.2.2.1⟩ fun i au a2=>by
   have rU:=a6 i au
   rw [a2] at rU
   have:=rU.symm
   simp only [Bool.and_eq_true,decide_eq_true_eq] at this
   exact this.2
  exact .eq rfl (.ret ⟨CE.1,fun h=>(by cases h),fun h=>(by omega),fun h=>by omega,fun h=>(by omega),fun h=>(by omega),Cf,fun h=>(by omega),fun _=>rfl,fun _=>rfl,fun h=>(by omega),fun _ _=>Wh,fun h=>(by omega),fun h=>absurd h9 h⟩)
 ·have az:key.cH=1:=by
   simp only [beq_eq_false_iff_ne] at q e6 h9
   omega
  refine .eq rfl (.ret ⟨aZ.1,fun h=>(by cases h),fun _=>rfl,fun _ i au a2=> ?_,fun h=>(by omega),fun h=>(by omega),Cf,fun h=>(by omega),fun _=>rfl,fun _=>rfl,fun h=>(by omega),fun h=>(by omega),fun h=>(by omega),fun _=>rfl⟩)
  have qz:=a6 i au
  simp only at a2
  rw [a2] at qz
  have:=qz.symm
  simp only [Bool.and_eq_true,decide_eq_true_eq] at this
  exact this.2
structure h3 (s:aY) (k:Nat) (e:bu):Prop where
 ik:e.dD=(k:Int) + 1
 len:e.bW.length=(aF s.bQ k).bX.length
 rV:∀ i,i < (aF s.bQ k).bX.length→nQ (aF (aF s.bQ k).bX i).cH (fK (aF (aF s.bQ k).bX i)) (aF e.bW i)
 args:e.jU.length≤10
 pri:(∀ i,i < (aF s.bQ k).bX.length→ (aF (aF s.bQ k).bX i).cH≤2)→e.g7=0
theorem Qg {α:Type} [Inhabited α] (l:List α) (x:α) (i:Nat):aF (l ++ [x]) i=if i=l.length then x else aF l i:=by
 unfold aF
 by_cases h:i=l.length
 ·subst h; simp
 ·rw [if_neg h]
  rcases Nat.lt_or_ge i l.length with aa | aa
  ·rw [List.getElem?_append_left aa]
  ·rw [List.getElem?_eq_none (by simp; omega),List.getElem?_eq_none aa]
theorem Qh (c:bk) {s:aY} (x:Int) (ar:gi c) (h:c0 s):
 bm (w4 c s x) (fun r=>gi r.2∧ ∃ k:Nat,k < 4∧qT x (s.bQ.length:Int)=some (k:Int)∧h3 s k r.1):=by
 unfold w4
 obtain⟨ak,av,bT,aa⟩:=JU x (s.bQ.length:Int) (by rw [h.jZ]; omega) (by rw [h.jZ]; omega)
 obtain⟨k,rfl⟩:=Int.eq_ofNat_of_zero_le bT
 have ax:k < 4:=by have:=h.jZ; omega
 obtain⟨t1,⟨t2,t3⟩,t4,⟨t5,t6⟩,t7⟩:=h.ik ax
 refine .eq av (.idx rfl (by have:=h.jZ; omega) ?_)
 refine bm.loop (aF s.bQ k).bX.length (fun i st=>st.1=(i:Int)∧st.2.1.dD=(k:Int) + 1∧st.2.2.1.length=i∧gi st.2.2.2∧
  (∀ j,j < i→nQ (aF (aF s.bQ k).bX j).cH (fK (aF (aF s.bQ k).bX j)) (aF st.2.2.1 j))∧ ((∀ j,j < i→ (aF (aF s.bQ k).bX j).cH≤2)→st.2.1.g7=0)) (by omega) ⟨rfl,t1,rfl,ar,fun j aG=>by omega,fun _=>rfl⟩ (fun i st au hs=> ?_) (fun st hs=> ?_)
 ·obtain⟨Am,e,ms,tW⟩:=st; obtain⟨aX,dk,gz,hN,jn,An⟩:=hs
  simp only at aX dk gz hN jn An; subst aX
  refine bm.cond (fun _=> ?_) (fun h=>by simp at h; omega)
  refine .idx rfl au (.bind (Qf _ _ hN h (t4 _ (by rw [fx _ au]; exact List.getElem_mem au))) fun aO ae=> .eq (h0 _ _ (by simp; omega) (by omega)) (.eq rfl ?_))
  refine .bind (P:=fun m=>m.1.dD=(k:Int) + 1∧gi m.2∧ ((aF (aF s.bQ k).bX i).cH≤2→m.1.g7=e.g7)) (.cond (fun eS=> .bind (fN _ 5 ae.1 (by omega)) fun br aZ=> .eq rfl (.ret ⟨dk,aZ.1,fun h=>by simp at eS; omega⟩)) (fun _=> .ret ⟨dk,ae.1,fun _=>rfl⟩)) fun bB cz=> ?_
  refine .ret ⟨eU (by omega),cz.1,by simp; omega,cz.2.1,fun j aG=> ?_,fun h=> ?_⟩
  ·simp only [Qg]
   by_cases k8:j=ms.length
   ·rw [if_pos k8]; rw [k8,gz]; exact ae.2
   ·rw [if_neg k8]; exact jn j (by omega)
  ·exact(cz.2.2 (h i (by omega))).trans (An fun j aG=>h j (by omega))
 ·obtain⟨Am,e,ms,tW⟩:=st; obtain⟨aX,dk,gz,hN,jn,An⟩:=hs
  simp only at aX dk gz hN jn An; subst aX
  refine⟨_,by simp; rfl,?_⟩
  refine .bind (fN _ _ hN (by omega)) fun cx a6=> ?_
  refine .eq (sB a6.2.1 a6.2.2.1) (.eq rfl ?_)
  have bn:1≤aF (aF s.bQ k).c4 cx.1.toNat∧aF (aF s.bQ k).c4 cx.1.toNat≤6:=t7 _ (by
   have cl:cx.1.toNat < (aF s.bQ k).c4.length:=by have:=a6.2.1; have:=a6.2.2.1; omega
   rw [fx _ cl]; exact List.getElem_mem cl)
  obtain⟨a,fU⟩:=Int.eq_ofNat_of_zero_le (show 0≤aF (aF s.bQ k).c4 cx.1.toNat - 1 by omega)
  have Wi:aF (aF s.bQ k).c4 cx.1.toNat=(a:Int) + 1:=by omega
  simp only [Wi]
  refine .bind (Pl h (show a < 6 by omega)) fun dr bl=> ?_
  obtain⟨aR,a0⟩:=h.act (show a < 6 by omega)
  rw [← bl] at a0
  have hp:dr.jt.length≤10∧ ∀ i,i < dr.jt.length→0≤ (aF dr.jt i).eP∧ (aF dr.jt i).eP < 1000:=by
   have hq:∀ l∈rG,l.length≤10∧ ∀ b∈l,0≤b∧b < 1000:=by decide
   have hm:aF rG a∈rG:=by rw [fx rG (show a < rG.length by simp [rG]; omega)]; exact List.getElem_mem _
   obtain⟨az,c6⟩:=hq _ hm
   rw [← a0] at az c6
   refine⟨by simpa using az,fun i au=>c6 _ ?_⟩
   rw [fx _ au]
   exact List.mem_map.2 ⟨_,List.getElem_mem au,rfl⟩
  refine bm.loop dr.jt.length (fun i st=>st.1=(i:Int)∧st.2.1.dD=(k:Int) + 1∧st.2.2.1.length=i∧gi st.2.2.2∧st.2.1.g7=e.g7) (by omega) ⟨rfl,dk,rfl,a6.1,rfl⟩ (fun i st au hs=> ?_) (fun st hs=> ?_)
  ·obtain⟨Am,e',vs,Wj⟩:=st; obtain⟨f2,f3,f4,f5,f6⟩:=hs
   simp only at f2 f3 f4 f5 f6; subst f2
   refine bm.cond (fun _=> ?_) (fun h=>by simp at h; omega)
   refine .idx rfl au (.bind (fN _ 256 f5 (by omega)) fun dC cZ=> .eq rfl (.bind (EO _ _ (hp.2 i au).1 (hp.2 i au).2) fun e7 eN=> .eq (h0 _ _ (by have:=hp.1; simp; omega) (by omega)) (.ret ⟨eU (by have:=hp.1; omega),f3,by simp; omega,cZ.1,f6⟩)))
  ·obtain⟨Am,e',vs,Wj⟩:=st; obtain⟨f2,f3,f4,f5,f6⟩:=hs
   simp only at f2 f3 f4 f5 f6; subst f2
   refine⟨_,by simp; rfl,?_⟩
   exact .eq rfl (.ret ⟨f5,k,ax,av,f3,gz,jn,by show vs.length≤10; have:=hp.1; omega,fun h=>f6.trans (An h)⟩)
end Go.Proofs.YtmnggbjcnoffeaaGreat
namespace Go.Proofs.YtmnggbjcnoffeaaGreat
open Go Gv
set_option linter.unusedVariables false
set_option linter.unusedSimpArgs false
set_option maxRecDepth 100000
structure TK (s:aY) (r:Vector (List Int) 6):Prop where
 fields:bJ r 0=s.e3.map (·.bG)
 headers:bJ r 1=s.kQ.map (·.bG)
 Ku:bJ r 2=s.ln.map (·.bG)
 Ep:bJ r 3=s.c4.map (·.bG)
 tables:bJ r 4=s.bQ.map (·.bG)
 Lt:bJ r 5=s.iP.map (·.bG)
theorem Kw {s:aY} (h:c0 s):bm (uP s) (TK s):=by
 unfold uP
 have wu:=h.pk; have Nb:=h.headers; have XJ:=h.Ku; have XK:=h.FL; have XL:=h.jZ; have XM:=h.Vc
 refine bm.loop s.e3.length (fun k st=>st.1=(k:Int)∧st.2.1=(s.e3.take k).map (·.bG)) (by omega) ⟨rfl,rfl⟩ (fun k st ax au=> ?_) (fun st au=> ?_)
 ·obtain⟨i,a,v⟩:=st; obtain⟨av,aX⟩:=au; simp only at av aX; subst av; subst aX
  refine bm.cond (fun _=> ?_) (fun h=>by simp at h; omega)
  exact .idx rfl ax (.eq (h0 _ _ (by simp; omega) (by omega)) (.ret ⟨eU (by omega),by rw [pK _ ax,List.map_append]; rfl⟩))
 obtain⟨i,hF,v⟩:=st; obtain⟨av,aX⟩:=au; simp only at av aX; subst av; subst aX
 refine⟨_,by simp only [show decide ((s.e3.length:Int) < (s.e3.length:Int))=false by simp,cond_false]; rfl,?_⟩
 refine bm.loop s.kQ.length (fun k st=>st.1=(k:Int)∧st.2.1=(s.kQ.take k).map (·.bG)) (by omega) ⟨rfl,rfl⟩ (fun k st ax au=> ?_) (fun st au=> ?_)
 ·obtain⟨i,a,v⟩:=st; obtain⟨av,aX⟩:=au; simp only at av aX; subst av; subst aX
  refine bm.cond (fun _=> ?_) (fun h=>by simp at h; omega)
  exact .idx rfl ax (.eq (h0 _ _ (by simp; omega) (by omega)) (.ret ⟨eU (by omega),by rw [pK _ ax,List.map_append]; rfl⟩))
 obtain⟨i,dL,v⟩:=st; obtain⟨av,aX⟩:=au; simp only at av aX; subst av; subst aX
 refine⟨_,by simp only [show decide ((s.kQ.length:Int) < (s.kQ.length:Int))=false by simp,cond_false]; rfl,?_⟩
 refine bm.loop s.ln.length (fun k st=>st.1=(k:Int)∧st.2.1=(s.ln.take k).map (·.bG)) (by omega) ⟨rfl,rfl⟩ (fun k st ax au=> ?_) (fun st au=> ?_)
 ·obtain⟨i,a,v⟩:=st; obtain⟨av,aX⟩:=au; simp only at av aX; subst av; subst aX
  refine bm.cond (fun _=> ?_) (fun h=>by simp at h; omega)
  exact .idx rfl ax (.eq (h0 _ _ (by simp; omega) (by omega)) (.ret ⟨eU (by omega),by rw [pK _ ax,List.map_append]; rfl⟩))
 obtain⟨i,ef,v⟩:=st; obtain⟨av,aX⟩:=au; simp only at av aX; subst av; subst aX
 refine⟨_,by simp only [show decide ((s.ln.length:Int) < (s.ln.length:Int))=false by simp,cond_false]; rfl,?_⟩
 refine bm.loop s.c4.length (fun k st=>st.1=(k:Int)∧st.2.1=(s.c4.take k).map (·.bG)) (by omega) ⟨rfl,rfl⟩ (fun k st ax au=> ?_) (fun st au=> ?_)
 ·obtain⟨i,a,v⟩:=st; obtain⟨av,aX⟩:=au; simp only at av aX; subst av; subst aX
  refine bm.cond (fun _=> ?_) (fun h=>by simp at h; omega)
  exact .idx rfl ax (.eq (h0 _ _ (by simp; omega) (by omega)) (.ret ⟨eU (by omega),by rw [pK _ ax,List.map_append]; rfl⟩))
 obtain⟨i,jq,v⟩:=st; obtain⟨av,aX⟩:=au; simp only at av aX; subst av; subst aX
 refine⟨_,by simp only [show decide ((s.c4.length:Int) < (s.c4.length:Int))=false by simp,cond_false]; rfl,?_⟩
 refine bm.loop s.bQ.length (fun k st=>st.1=(k:Int)∧st.2.1=(s.bQ.take k).map (·.bG)) (by omega) ⟨rfl,rfl⟩ (fun k st ax au=> ?_) (fun st au=> ?_)
 ·obtain⟨i,a,v⟩:=st; obtain⟨av,aX⟩:=au; simp only at av aX; subst av; subst aX
  refine bm.cond (fun _=> ?_) (fun h=>by simp at h; omega)
  exact .idx rfl ax (.eq (h0 _ _ (by simp; omega) (by omega)) (.ret ⟨eU (by omega),by rw [pK _ ax,List.map_append]; rfl⟩))
 obtain⟨i,mh,v⟩:=st; obtain⟨av,aX⟩:=au; simp only at av aX; subst av; subst aX
 refine⟨_,by simp only [show decide ((s.bQ.length:Int) < (s.bQ.length:Int))=false by simp,cond_false]; rfl,?_⟩
 refine bm.loop s.iP.length (fun k st=>st.1=(k:Int)∧st.2.1=(s.iP.take k).map (·.bG)) (by omega) ⟨rfl,rfl⟩ (fun k st ax au=> ?_) (fun st au=> ?_)
 ·obtain⟨i,a,v⟩:=st; obtain⟨av,aX⟩:=au; simp only at av aX; subst av; subst aX
  refine bm.cond (fun _=> ?_) (fun h=>by simp at h; omega)
  exact .idx rfl ax (.eq (h0 _ _ (by simp; omega) (by omega)) (.ret ⟨eU (by omega),by rw [pK _ ax,List.map_append]; rfl⟩))
 obtain⟨i,qL,v⟩:=st; obtain⟨av,aX⟩:=au; simp only at av aX; subst av; subst aX
 refine⟨_,by simp only [show decide ((s.iP.length:Int) < (s.iP.length:Int))=false by simp,cond_false]; rfl,?_⟩
 refine .eq rfl (.ret ⟨?_,?_,?_,?_,?_,?_⟩)
 ·simp only [List.take_length]
  rw [hB _ _ (by omega),if_neg (by omega),hB _ _ (by omega),if_neg (by omega),hB _ _ (by omega),if_neg (by omega),hB _ _ (by omega),if_neg (by omega),hB _ _ (by omega),if_neg (by omega),hB _ _ (by omega),if_pos rfl]
 ·simp only [List.take_length]
  rw [hB _ _ (by omega),if_neg (by omega),hB _ _ (by omega),if_neg (by omega),hB _ _ (by omega),if_neg (by omega),hB _ _ (by omega),if_neg (by omega),hB _ _ (by omega),if_pos rfl]
 ·simp only [List.take_length]
  rw [hB _ _ (by omega),if_neg (by omega),hB _ _ (by omega),if_neg (by omega),hB _ _ (by omega),if_neg (by omega),hB _ _ (by omega),if_pos rfl]
 ·simp only [List.take_length]
  rw [hB _ _ (by omega),if_neg (by omega),hB _ _ (by omega),if_neg (by omega),hB _ _ (by omega),if_pos rfl]
 ·simp only [List.take_length]
  rw [hB _ _ (by omega),if_neg (by omega),hB _ _ (by omega),if_pos rfl]
 ·simp only [List.take_length]
  rw [hB _ _ (by omega),if_pos rfl]
end Go.Proofs.YtmnggbjcnoffeaaGreat
namespace Go.Proofs.YtmnggbjcnoffeaaGreat
open Go Gv
set_option linter.unusedVariables false
set_option linter.unusedSimpArgs false
theorem Hz {xs:List bN} {f:bN→Option Bool} {g:bN→Bool} (ba:∀ x∈xs,f x=some (g x)) (an:xs.length < 2 ^ 62):
 bm (wz xs f) (fun r=>(r= -1∧ ∀ x∈xs,g x=false)∨ ∃ i:Nat,i < xs.length∧r=i∧g (aF xs i)=true∧ ∀ j,j < i→g (aF xs j)=false):=by
 unfold wz
 refine bm.loop xs.length (fun k s=>s=(k:Int)∧ ∀ j,j < k→g (aF xs j)=false) (by omega) ⟨rfl,fun j aG=>by omega⟩ (fun k s ax au=> ?_) (fun s au=> ?_)
 ·obtain⟨av,aX⟩:=au; subst av
  refine bm.cond (fun _=> ?_) (fun h=>by simp at h; omega)
  refine .idx rfl ax (.eq (ba _ (by rw [fx xs ax]; exact List.getElem_mem ax)) (.cond (fun h=> .ret ?_) (fun h=> .ret ⟨eU (by omega),fun j aG=> ?_⟩)))
  ·exact .ret (.inr ⟨k,ax,rfl,h,aX⟩)
  ·by_cases qx:j=k
   ·subst qx; exact h
   ·exact aX j (by omega)
 ·obtain⟨av,aX⟩:=au; subst av
  refine⟨_,by simp; rfl,?_⟩
  refine .ret (.inl ⟨rfl,fun x aq=> ?_⟩)
  obtain⟨j,aG,rfl⟩:=List.mem_iff_getElem.1 aq
  rw [← fx xs aG]; exact aX j aG
end Go.Proofs.YtmnggbjcnoffeaaGreat
namespace Go.Proofs.YtmnggbjcnoffeaaGreat
open Go Gv
set_option linter.unusedVariables false
set_option linter.unusedSimpArgs false
theorem N6 {xs:List fa} {f:fa→Option Bool} {g:fa→Bool} (ba:∀ x∈xs,f x=some (g x)) (an:xs.length < 2 ^ 62):
 bm (wA xs f) (fun r=>(r= -1∧ ∀ x∈xs,g x=false)∨ ∃ i:Nat,i < xs.length∧r=i∧g (aF xs i)=true∧ ∀ j,j < i→g (aF xs j)=false):=by
 unfold wA
 refine bm.loop xs.length (fun k s=>s=(k:Int)∧ ∀ j,j < k→g (aF xs j)=false) (by omega) ⟨rfl,fun j aG=>by omega⟩ (fun k s ax au=> ?_) (fun s au=> ?_)
 ·obtain⟨av,aX⟩:=au; subst av
  refine bm.cond (fun _=> ?_) (fun h=>by simp at h; omega)
  refine .idx rfl ax (.eq (ba _ (by rw [fx xs ax]; exact List.getElem_mem ax)) (.cond (fun h=> .ret ?_) (fun h=> .ret ⟨eU (by omega),fun j aG=> ?_⟩)))
  ·exact .ret (.inr ⟨k,ax,rfl,h,aX⟩)
  ·by_cases qx:j=k
   ·subst qx; exact h
   ·exact aX j (by omega)
 ·obtain⟨av,aX⟩:=au; subst av
  refine⟨_,by simp; rfl,?_⟩
  refine .ret (.inl ⟨rfl,fun x aq=> ?_⟩)
  obtain⟨j,aG,rfl⟩:=List.mem_iff_getElem.1 aq
  rw [← fx xs aG]; exact aX j aG
end Go.Proofs.YtmnggbjcnoffeaaGreat
namespace Go.Proofs.YtmnggbjcnoffeaaGreat
open Go Gv
set_option linter.unusedVariables false
set_option linter.unusedSimpArgs false
set_option maxRecDepth 100000
theorem Ij {s:aY} (h:c0 s) {k:Nat} (ax:k < 4):bm (qS s ((k:Int) + 1)) (fun r=>r=(k:Int)):=by
 unfold qS
 refine(Hz (g:=fun t=>t.bG ==(k:Int) + 1) (fun x aq=>rfl) (by rw [h.jZ]; omega)).bind fun r aU=> .ret ?_
 have cN:k < s.bQ.length:=by rw [h.jZ]; exact ax
 rcases aU with⟨_,aU⟩ | ⟨i,aa,ae,aD,aZ⟩
 ·have:=aU (aF s.bQ k) (by rw [fx _ cN]; exact List.getElem_mem cN)
  simp only [(h.ik ax).1,beq_self_eq_true] at this; cases this
 ·have a6:=(h.ik (show i < 4 by have:=h.jZ; omega)).1
  simp only [a6,beq_iff_eq] at aD; omega
theorem Ik {s:aY} (h:c0 s) {k:Nat} (ax:k < 9):bm (ur s ((k:Int) + 1)) (fun r=>r=(k:Int)):=by
 unfold ur
 refine(N6 (g:=fun t=>t.bG ==(k:Int) + 1) (fun x aq=>rfl) (by rw [h.pk]; omega)).bind fun r aU=> .ret ?_
 have cN:k < s.e3.length:=by rw [h.pk]; exact ax
 rcases aU with⟨_,aU⟩ | ⟨i,aa,ae,aD,aZ⟩
 ·have:=aU (aF s.e3 k) (by rw [fx _ cN]; exact List.getElem_mem cN)
  simp only [(h.qy ax).1,beq_self_eq_true] at this; cases this
 ·have a6:=(h.qy (show i < 9 by have:=h.pk; omega)).1
  simp only [a6,beq_iff_eq] at aD; omega
theorem Jp (l:List Int) {k:Nat} (ax:k < l.length) (an:l.length < 2 ^ 30) (h:∀ j,j < l.length→aF l j=(j:Int) + 1):bm (uI l ((k:Int) + 1)) (fun r=>r=(k:Int)):=by
 unfold uI
 refine bm.loop k (fun j s=>s=(j:Int)) (by omega) rfl (fun j i aG au=> ?_) (fun i au=> ?_)
 ·subst au
  refine bm.cond (fun _=> ?_) (fun h=>by simp at h; omega)
  refine .idx rfl (by omega) (.cond (fun ar=> ?_) (fun ar=> .ret (eU (by omega))))
  rw [h j (by omega),beq_iff_eq] at ar; omega
 ·subst au
  have aa:decide ((k:Int) < (l.length:Int))=true:=by simp; omega
  have ae:(aF l k ==(k:Int) + 1)=true:=by rw [h k ax]; simp
  rw [aa]
  simp only [cond_true]
  rw [nC (by omega)]
  simp only [Option.bind_some,ae,cond_true]
  exact⟨_,rfl,.ret rfl⟩
theorem Il {s:aY} (h:c0 s) {k:Nat} (ax:k < 4):bm (uv s ((k:Int) + 1)) (fun r=>r=(k:Int)):=by
 unfold uv
 refine(Kw h).bind fun y a9=> ?_
 have an:=h.jZ
 rw [a9.tables]
 refine(Jp _ (by simp; omega) (by simp; omega) fun j aG=> ?_).bind fun r aU=> .ret aU
 rw [uW _ (by simpa using aG)]; exact(h.ik (by simp at aG; omega)).1
theorem Pm {s:aY} (h:c0 s) {k:Nat} (ax:k < 9):bm (xd s ((k:Int) + 1)) (fun r=>r=(k:Int)):=by
 unfold xd
 refine(Kw h).bind fun y a9=> ?_
 have an:=h.pk
 rw [a9.fields]
 refine(Jp _ (by simp; omega) (by simp; omega) fun j aG=> ?_).bind fun r aU=> .ret aU
 rw [uW _ (by simpa using aG)]; exact(h.qy (by simp at aG; omega)).1
theorem Fm {key:cB} {j:Nat} (h:key.gb=(j:Int) + 1):fK key=aF pn j:=by unfold fK; rw [h]; congr 1; omega
theorem PE {s:aY} (h:c0 s) {t:bN} {i:Nat} (au:i < t.bX.length) (ax:jX (aF t.bX i)):bm (xf s t (i:Int)) (fun r=>r=fK (aF t.bX i)):=by
 obtain⟨j,aG,ba,_⟩:=ax
 unfold xf A0
 refine .idx rfl au ?_
 rw [Fm ba,ba]
 refine .bind (P:=fun r=>r=aF pn j) ((Pm h aG).bind fun y a9=> .idx a9 (by rw [h.pk]; exact aG) (.ret (h.qy aG).2)) fun y a9=> .ret a9
def lead (n k:Int) (j:Nat):Bool:=decide ((j:Int) < n) && decide (n - max 0 (min k n)≤ (j:Int))
theorem ID (n k:Int) (bT:0≤n) (aa:n≤128):bm (uw n k) (fun r=> ∀ j,j < 128→b5 r j=lead n k j):=by
 unfold uw uD
 have e:min (max 0 n) 128=n:=by omega
 rw [e]
 have aX:bw (n - min (max 0 k) n)=n - min (max 0 k) n:=hD (by omega) (by omega)
 refine .eq rfl ((Er n).bind fun a bn=> ?_)
 rw [aX]
 refine(Er _).bind fun b hb=>(Rt a b).bind fun r aU=> .ret fun j aG=> ?_
 rw [aU j aG,bn j aG,hb j aG]
 unfold lead
 by_cases p:(j:Int) < n
 ·rw [decide_eq_true p]
  by_cases q:(j:Int) < n - min (max 0 k) n
  ·rw [decide_eq_true q,decide_eq_false (by omega)]; rfl
  ·rw [decide_eq_false q,decide_eq_true (by omega)]; rfl
 ·rw [decide_eq_false p,decide_eq_false (by omega)]; rfl
theorem jX.fK {key:cB} (h:jX key):4≤Go.Proofs.YtmnggbjcnoffeaaGreat.fK key∧Go.Proofs.YtmnggbjcnoffeaaGreat.fK key≤32:=by
 obtain⟨j,aG,ba,_,_,aa,ae,_⟩:=h
 rw [Fm ba]; exact⟨aa,ae⟩
end Go.Proofs.YtmnggbjcnoffeaaGreat
namespace Go.Proofs.YtmnggbjcnoffeaaGreat
open Go Gv
set_option linter.unusedVariables false
set_option linter.unusedSimpArgs false
set_option maxRecDepth 100000
theorem Rw {v w:al} :decide (v=w)=true↔ ∀ j,j < 128→b5 v j=b5 w j:=by
 rw [decide_eq_true_eq]; exact⟨fun h j _=>by rw [h],ym⟩
theorem I1 (c:bk) (ar:gi c):bm (ui c) (fun r=>gi r.2):=by
 unfold ui
 refine bm.loop 4 (fun k st=>st.1=(k:Int)∧gi st.2.2) (by omega) ⟨rfl,ar⟩ (fun k st ax au=> ?_) (fun st au=> ?_)
 ·obtain⟨i,p,tW⟩:=st; obtain⟨av,aX⟩:=au
  simp only at av aX; subst av
  refine bm.cond (fun _=> ?_) (fun h=>by simp at h; omega)
  refine .bind (fN _ 256 aX (by omega)) fun ak aa=> .eq rfl (.idx rfl ax (.bind (fN _ 4 aa.1 (by omega)) fun aO ae=> ?_))
  refine .bind (P:=fun m=>gi m.1) (.cond (fun _=> ?_) fun _=> .ret ae.1) fun bB cz=> .ret ⟨eU (by omega),cz⟩
  exact .idx rfl ax (.bind (fN _ 256 ae.1 (by omega)) fun bc aD=> .eq rfl (.idx rfl ax (.eq rfl (.ret aD.1))))
 ·obtain⟨i,p,tW⟩:=st; obtain⟨av,aX⟩:=au
  simp only at av aX; subst av
  refine⟨_,rfl,?_⟩
  exact .ret aX
theorem PF (e:bu) (p:Vector al 4) (an:e.bW.length < 2 ^ 30):bm (xk e p) (fun _=>True):=by
 unfold xk
 refine bm.loop e.bW.length (fun k st=>st.1=(k:Int)) (by omega) rfl (fun k st ax au=> ?_) (fun st au=> ?_)
 ·obtain⟨i,p⟩:=st
  simp only at au; subst au
  refine bm.cond (fun _=> ?_) (fun h=>by simp at h; omega)
  refine .idx rfl ax (.cond (fun _=> .ret (eU (by omega))) fun eS=> ?_)
  simp only [Bool.or_eq_false_iff,decide_eq_false_iff_not] at eS
  have jE:k < 4:=by have:=eS.1; omega
  refine .bind (P:=fun _=>True) (.cond (fun _=> .idx rfl jE (.eq rfl (.idx rfl jE (.eq rfl (.idx rfl jE (.idx rfl jE (.eq rfl (.ret trivial)))))))) fun _=> .eq rfl ?_) fun _ _=> .ret (eU (by omega))
  exact .bind (P:=fun _=>True) (.cond (fun _=> .idx rfl jE (.eq rfl (.eq rfl (.idx rfl jE (.eq rfl (.ret trivial)))))) fun _=> .idx rfl jE (.ret trivial)) fun _ _=> .ret trivial
 ·obtain⟨i,p⟩:=st
  simp only at au; subst au
  refine⟨_,by simp; rfl,?_⟩
  exact .ret trivial
end Go.Proofs.YtmnggbjcnoffeaaGreat
namespace Go.Proofs.YtmnggbjcnoffeaaGreat
open Go Gv
set_option linter.unusedVariables false
set_option linter.unusedSimpArgs false
set_option maxRecDepth 100000
def jm (a b:al):Bool:=decide (a.dt < b.dt) || (a.dt ==b.dt && decide (a.bS < b.bS))
theorem Bn {a b:al} :jm a b=true↔a.dt < b.dt∨ (a.dt=b.dt∧a.bS < b.bS):=by simp [jm]
theorem sr (a:al):jm a a=false:=by simp [jm]
theorem uU {a b:al} (h:jm a b=true):jm b a=false:=by
 rw [Bool.eq_false_iff]
 intro ae
 rw [Bn] at h ae
 simp only [BitVec.lt_def,BitVec.toNat_eq] at h ae
 omega
theorem PG {x y i:Nat} (aa:x.testBit i=false) (ae:y.testBit i=true) (aD:∀ j,i < j→x.testBit j=y.testBit j):x < y:=by
 have aZ:x / 2 ^ (i + 1)=y / 2 ^ (i + 1):=Nat.eq_of_testBit_eq fun j=>by
  rw [Nat.testBit_div_two_pow,Nat.testBit_div_two_pow]; exact aD _ (by omega)
 rw [Nat.testBit_eq_decide_div_mod_eq] at aa ae
 simp only [decide_eq_false_iff_not,decide_eq_true_eq] at aa ae
 rw [Nat.pow_succ,← Nat.div_div_eq_div_mul,← Nat.div_div_eq_div_mul] at aZ
 have a6:x / 2 ^ i < y / 2 ^ i:=by omega
 exact Nat.lt_of_div_lt_div a6
theorem JV {x y:BitVec 64} {i:Nat} (aa:x.getLsbD i=false) (ae:y.getLsbD i=true) (aD:∀ j,i < j→j < 64→x.getLsbD j=y.getLsbD j):x < y:=by
 rw [BitVec.lt_def]
 refine PG aa ae fun j aG=> ?_
 by_cases k8:j < 64
 ·exact aD j aG k8
 ·show x.getLsbD j=y.getLsbD j
  rw [BitVec.getLsbD_of_ge _ _ (by omega),BitVec.getLsbD_of_ge _ _ (by omega)]
theorem Jq {a b:al} {i:Nat} (au:i < 128) (aa:b5 a i=false) (ae:b5 b i=true) (aD:∀ j,i < j→j < 128→b5 a j=b5 b j):jm a b=true:=by
 rw [Bn]
 by_cases h:i < 64
 ·right
  unfold b5 at aa ae
  rw [if_pos h] at aa ae
  constructor
  ·apply BitVec.eq_of_getLsbD_eq
   intro j aG
   have:=aD (j + 64) (by omega) (by omega)
   unfold b5 at this
   rw [if_neg (by omega),if_neg (by omega)] at this
   simpa using this
  ·refine JV aa ae fun j aG k8=> ?_
   have:=aD j aG (by omega)
   unfold b5 at this
   rwa [if_pos k8,if_pos k8] at this
 ·left
  unfold b5 at aa ae
  rw [if_neg h] at aa ae
  refine JV aa ae fun j aG k8=> ?_
  have:=aD (j + 64) (by omega) (by omega)
  unfold b5 at this
  rw [if_neg (by omega),if_neg (by omega)] at this
  simpa using this
theorem IE (a b:al):bm (uu a b) (fun r=>(r < 0↔jm a b=true)∧ (r=0↔a=b)∧ (-1≤r∧r≤1)):=by
 unfold uu
 refine .cond (fun h=> .ret ?_) fun h=> .eq rfl (.cond (fun ae=> .ret ?_) fun ae=> .ret ?_)
 ·simp only [decide_eq_true_eq] at h
  subst h
  simp [sr]
 ·simp only [decide_eq_false_iff_not] at h
  exact⟨⟨fun _=>ae,fun _=>by omega⟩,⟨fun aD=>by omega,fun aD=>absurd aD h⟩,by omega,by omega⟩
 ·simp only [decide_eq_false_iff_not] at h
  have la:jm a b=false:=ae
  exact⟨⟨fun aD=>by omega,fun aD=>by rw [la] at aD; cases aD⟩,⟨fun aD=>by omega,fun aD=>absurd aD h⟩,by omega,by omega⟩
theorem Dy (a b:al):bm (n5 a b) (fun r=>(r > 0↔jm b a=true)∧ (r < 0↔jm a b=true)):=by
 unfold n5
 refine(u6 a).bind fun x aq=>(u6 b).bind fun y a9=> ?_
 refine bm.loop 128 (fun k s=>s=127 - (k:Int)∧ ∀ j,128≤j + k→j < 128→b5 a j=b5 b j) (by omega) ⟨rfl,fun j aa ae=>by omega⟩ (fun k s ax au=> ?_) (fun s au=> ?_)
 ·obtain⟨rfl,aX⟩:=au
  refine bm.cond (fun _=> ?_) (fun h=>by simp at h; omega)
  have ks:(127 - (k:Int))=((127 - k:Nat):Int):=by omega
  have rH:127 - k < 128:=by omega
  refine .idx ks rH (.idx ks rH ?_)
  rw [aq _ rH,a9 _ rH]
  refine .cond (fun dn=> .idx ks rH ?_) fun heq=> .ret ⟨?_,fun j aa ae=> ?_⟩
  ·have heq:∀ j,127 - k < j→j < 128→b5 a j=b5 b j:=fun j aa ae=>aX j (by omega) ae
   rw [a9 _ rH]
   refine .cond (fun hb=> .ret (.ret ?_)) fun hb=> .ret (.ret ?_)
   ·have bn:b5 a (127 - k)=false:=by rw [hb] at dn; simpa using dn
    have:=Jq rH bn hb heq
    exact⟨⟨fun h=>by simp at h,fun h=>by rw [uU this] at h; cases h⟩,fun _=>this,fun _=>by simp⟩
   ·have bn:b5 a (127 - k)=true:=by rw [hb] at dn; simpa using dn
    have:=Jq rH hb bn fun j aa ae=>(heq j aa ae).symm
    exact⟨⟨fun _=>this,fun _=>by simp⟩,fun h=>by simp at h,fun h=>by rw [uU this] at h; cases h⟩
  ·rw [hD (by omega) (by omega)]; omega
  ·by_cases aG:j=127 - k
   ·subst aG; simpa using heq
   ·exact aX j (by omega) ae
 ·obtain⟨rfl,aX⟩:=au
  refine⟨_,rfl,?_⟩
  have:a=b:=ym fun j aG=>aX j (by omega) aG
  subst this
  refine .ret ⟨?_,?_⟩ <;> simp [sr]
end Go.Proofs.YtmnggbjcnoffeaaGreat
namespace Gv
set_option linter.unusedVariables false
structure rW {α:Type} (b:α→α→Bool):Prop where
 asymm:∀ x y,b x y=true→b y x=false
 trans:∀ x y z,b x y=true→b y z=true→b x z=true
def ins {α:Type} (b:α→α→Bool):List α→α→List α
 | [],x=> [x]
 | a :: l,x=>if b a x=true then a :: ins b l x else x :: a :: l
def ew {α:Type} (b:α→α→Bool) (l:List α):List α:=l.foldl (ins b) []
def iX {α:Type} (b:α→α→Bool):List α→α→Nat
 | [],_=>0
 | a :: l,x=>if b a x=true then iX b l x + 1 else 0
def qA {α:Type} (b:α→α→Bool) (x y:α):Prop:=b x y=true∨b y x=true
variable {α:Type} {b:α→α→Bool}
theorem EP:∀ {l:List α} {x:α},iX b l x≤l.length
 | [],_=>Nat.le_refl _
 | a :: l,x=>by
   have:=EP (l:=l) (x:=x)
   unfold iX; split <;> simp <;> omega
theorem Kx:∀ (l:List α) (x:α),ins b l x=l.take (iX b l x) ++ x :: l.drop (iX b l x)
 | [],x=>rfl
 | a :: l,x=>by
   unfold ins iX
   split
   ·rw [Kx l x]; rfl
   ·rfl
theorem D2:∀ (l:List α) (x:α),(ins b l x).Perm (x :: l)
 | [],x=>List.Perm.refl _
 | a :: l,x=>by
   unfold ins
   split
   ·exact((D2 l x).cons a).trans (List.Perm.swap x a l)
   ·exact List.Perm.refl _
theorem Rx {l:List α} {x y:α} :y∈ins b l x↔y=x∨y∈l:=by
 rw [(D2 l x).mem_iff]; simp
theorem Es (l:List α) (x:α):ew b (l ++ [x])=ins b (ew b l) x:=by
 simp [ew,List.foldl_append]
theorem JW (l:List α):(ew b l).Perm l:=by
 have key:∀ (l m:List α),(l.foldl (ins b) m).Perm (m ++ l):=by
  intro l
  induction l with
  | nil=>intro m; simp
  | cons a l b0=>
    intro m
    refine(b0 (ins b m a)).trans ?_
    refine((D2 m a).append_right l).trans ?_
    exact(List.perm_middle (a:=a) (l₁:=m) (l₂:=l)).symm
 exact key l []
theorem od {l:List α} {y:α} :y∈ew b l↔y∈l:=(JW l).mem_iff
theorem R2 {l:List α} :(ew b l).length=l.length:=(JW l).length_eq
theorem IF (hb:rW b):∀ {l:List α} {x:α},l.Pairwise (fun x y=>b x y=true)→ (∀ a∈l,qA b a x)→ (ins b l x).Pairwise (fun x y=>b x y=true)
 | [],x,_,_=>by simp [ins]
 | a :: l,x,hs,cr=>by
   obtain⟨aa,ae⟩:=List.pairwise_cons.1 hs
   unfold ins
   split
   ·rename_i pz
    refine List.pairwise_cons.2 ⟨fun c ar=> ?_,IF hb ae fun a bn=>cr a (by simp [bn])⟩
    rcases Rx.1 ar with rfl | ar
    ·exact pz
    ·exact aa c ar
   ·rename_i pz
    have z2:b x a=true:=(cr a (by simp)).resolve_left pz
    refine List.pairwise_cons.2 ⟨fun c ar=> ?_,hs⟩
    rcases List.mem_cons.1 ar with rfl | ar
    ·exact z2
    ·exact hb.trans _ _ _ z2 (aa c ar)
theorem Jr (hb:rW b) {p:α→Bool} :∀ {l:List α} {x:α},l.Pairwise (fun x y=>b x y=true)→ (∀ a∈l,qA b a x)→
 (ins b l x).find? p=if p x=true then(match l.find? p with | none=>some x | some c=>if b x c=true then some x else some c) else l.find? p
 | [],x,_,_=>by
   unfold ins
   by_cases hp:p x=true
   ·simp [hp]
   ·simp only [Bool.not_eq_true] at hp; simp [hp]
 | a :: l,x,hs,cr=>by
   obtain⟨aa,ae⟩:=List.pairwise_cons.1 hs
   unfold ins
   by_cases pz:b a x=true
   ·rw [if_pos pz]
    by_cases CI:p a=true
    ·rw [List.find?_cons_of_pos CI,List.find?_cons_of_pos CI]
     simp [hb.asymm _ _ pz]
    ·rw [List.find?_cons_of_neg CI,List.find?_cons_of_neg CI]
     exact Jr hb ae fun a bn=>cr a (by simp [bn])
   ·rw [if_neg pz]
    have z2:b x a=true:=(cr a (by simp)).resolve_left pz
    by_cases hp:p x=true
    ·rw [List.find?_cons_of_pos hp,if_pos hp]
     cases ba:(a :: l).find? p with
     | none=>rfl
     | some c=>
       have ar:=List.mem_of_find?_eq_some ba
       have:b x c=true:=by
        rcases List.mem_cons.1 ar with rfl | ar
        ·exact z2
        ·exact hb.trans _ _ _ z2 (aa c ar)
       simp [this]
    ·rw [List.find?_cons_of_neg hp,if_neg hp]
def ox (b:α→α→Bool) (l:List α):Prop:=l.Pairwise (qA b)
theorem qA.symm {x y:α} (h:qA b x y):qA b y x:=h.elim .inr .inl
theorem ox.snoc {l:List α} {x:α} (h:ox b (l ++ [x])):ox b l∧ ∀ a∈l,qA b a x:=by
 unfold ox at *
 rw [List.pairwise_append] at h
 exact⟨h.1,fun a bn=>h.2.2 a bn x (by simp)⟩
theorem ox.perm {l m:List α} (h:ox b l) (p:l.Perm m):ox b m:=(p.pairwise_iff fun h=>h.symm).1 h
theorem QK {P:List α→Prop} (bT:P []) (aa:∀ l x,P l→P (l ++ [x])) (l:List α):P l:=by
 have:∀ r:List α,P r.reverse:=by
  intro r
  induction r with
  | nil=>exact bT
  | cons a r b0=>rw [List.reverse_cons]; exact aa _ _ b0
 have:=this l.reverse
 rwa [List.reverse_reverse] at this
theorem DR (hb:rW b) {l:List α} (h:ox b l):(ew b l).Pairwise (fun x y=>b x y=true):=by
 induction l using QK with
 | bT=>exact List.Pairwise.nil
 | aa l x b0=>
   obtain⟨aa,ae⟩:=h.snoc
   rw [Es]
   exact IF hb (b0 aa) fun a bn=>ae a (od.1 bn)
theorem ER [Inhabited α] (hb:rW b):∀ {l:List α} {x:α} {k:Nat},l.Pairwise (fun x y=>b x y=true)→k < l.length→ (b (aF l k) x=true↔k < iX b l x)
 | [],x,k,_,ax=>by simp at ax
 | a :: l,x,k,hs,ax=>by
   obtain⟨aa,ae⟩:=List.pairwise_cons.1 hs
   unfold iX
   cases k with
   | zero=>
     have:aF (a :: l) 0=a:=rfl
     rw [this]
     split <;> simp_all
   | succ k=>
     have jI:k < l.length:=by simpa using ax
     have he:aF (a :: l) (k + 1)=aF l k:=by rw [fx _ ax,fx _ jI]; rfl
     rw [he,ER hb ae jI]
     split
     ·omega
     ·rename_i pz
      constructor
      ·intro cl
       have a6:=(ER hb ae jI).2 cl
       have bl:=aa (aF l k) (by rw [fx _ jI]; exact List.getElem_mem _)
       exact absurd (hb.trans _ _ _ bl a6) pz
      ·intro h; omega
end Gv
namespace Go.Proofs.YtmnggbjcnoffeaaGreat
open Go Gv
set_option linter.unusedVariables false
set_option linter.unusedSimpArgs false
theorem Og {xs:List cB} {f:cB→Option Bool} {g:cB→Bool} (ba:∀ x∈xs,f x=some (g x)) (an:xs.length < 2 ^ 62):
 bm (wB xs f) (fun r=>(r= -1∧ ∀ x∈xs,g x=false)∨ ∃ i:Nat,i < xs.length∧r=i∧g (aF xs i)=true∧ ∀ j,j < i→g (aF xs j)=false):=by
 unfold wB
 refine bm.loop xs.length (fun k s=>s=(k:Int)∧ ∀ j,j < k→g (aF xs j)=false) (by omega) ⟨rfl,fun j aG=>by omega⟩ (fun k s ax au=> ?_) (fun s au=> ?_)
 ·obtain⟨av,aX⟩:=au; subst av
  refine bm.cond (fun _=> ?_) (fun h=>by simp at h; omega)
  refine .idx rfl ax (.eq (ba _ (by rw [fx xs ax]; exact List.getElem_mem ax)) (.cond (fun h=> .ret ?_) (fun h=> .ret ⟨eU (by omega),fun j aG=> ?_⟩)))
  ·exact .ret (.inr ⟨k,ax,rfl,h,aX⟩)
  ·by_cases qx:j=k
   ·subst qx; exact h
   ·exact aX j (by omega)
 ·obtain⟨av,aX⟩:=au; subst av
  refine⟨_,by simp; rfl,?_⟩
  refine .ret (.inl ⟨rfl,fun x aq=> ?_⟩)
  obtain⟨j,aG,rfl⟩:=List.mem_iff_getElem.1 aq
  rw [← fx xs aG]; exact aX j aG
end Go.Proofs.YtmnggbjcnoffeaaGreat
namespace Go.Proofs.YtmnggbjcnoffeaaGreat
open Go Gv
set_option linter.unusedVariables false
set_option linter.unusedSimpArgs false
set_option maxRecDepth 100000
theorem _root_.Gv.bm.get {β:Type} {m:Option β} {v:β} (h:bm m (fun r=>r=v)):m=some v:=by
 obtain⟨r,aa,rfl⟩:=h; exact aa
theorem JX (a b:al):jm a b=true∨a=b∨jm b a=true:=by
 rw [Bn,Bn]
 rcases a with⟨XN,c9⟩
 rcases b with⟨XO,XP⟩
 simp only [BitVec.lt_def,al.mk.injEq,← BitVec.toNat_inj]
 omega
def jL (kind b:Int) (m:ca) (x:al):Bool:=
 if m.gu=false then true
 else if kind=1 then decide (x=m.cL)
 else if kind=2 then(List.range 128).all fun j=> !lead b m.dO j || (b5 x j ==b5 m.cL j)
 else if kind=3 then decide (qh x m.gK=m.cL)
 else !jm x m.cL && !jm m.jg x
theorem PH {key:cB} (ax:jX key) (m:ca) (x:al):xo m key.cH (fK key) x=some (jL key.cH (fK key) m x):=by
 have hb:=ax.fK
 obtain⟨_,_,_,aW,hM,_⟩:=ax
 refine bm.get ?_
 unfold xo jL
 refine .cond (fun hp=> .ret ?_) fun hp=> ?_
 ·simp only [Bool.not_eq_true'] at hp
  rw [if_pos hp]; simp; omega
 simp only [Bool.not_eq_false'] at hp
 rw [if_neg (by simp [hp])]
 refine .cond (fun aa=> .ret ?_) fun aa=> .cond (fun ae=> ?_) fun ae=> .cond (fun aD=> ?_) fun aD=> ?_
 ·rw [if_pos (by simpa using aa)]
 ·rw [if_neg (by simpa using aa),if_pos (by simpa using ae)]
  refine(ID _ _ (by omega) (by omega)).bind fun ak av=> .eq (and_eq _ _) (.eq (and_eq _ _) (.ret ?_))
  rw [Bool.eq_iff_iff,Rw,List.all_eq_true]
  constructor
  ·intro h j aG
   have wc:=List.mem_range.1 aG
   have:=h j wc
   rw [u5,u5,av j wc] at this
   cases an:lead (fK key) m.dO j
   ·rfl
   ·rw [an] at this; simpa using this
  ·intro h j aG
   have:=h j (List.mem_range.2 aG)
   rw [u5,u5,av j aG]
   cases an:lead (fK key) m.dO j
   ·simp
   ·rw [an] at this; simpa using this
 ·rw [if_neg (by simpa using aa),if_neg (by simpa using ae),if_pos (by simpa using aD)]
  exact .eq (and_eq _ _) (.ret rfl)
 ·have jE:key.cH=4:=by simp only [beq_eq_false_iff_ne] at aa ae aD; omega
  rw [if_neg (by simpa using aa),if_neg (by simpa using ae),if_neg (by simpa using aD)]
  refine .cond (fun _=> ?_) fun h=>by rw [jE] at h; cases h
  refine(IE _ _).bind fun cx ⟨dL,ef,jq⟩=> .cC (P:=fun r=>(r < 0↔jm x m.jg=true)∧ (r=0↔x=m.jg)∧ -1≤r∧r≤1) (fun _=>IE _ _) fun dr bl=> .ret ?_
  have gR:decide (cx≤0)= !jm x m.cL:=by
   rw [Bool.eq_iff_iff,decide_eq_true_eq,Bool.not_eq_true']
   rcases JX m.cL x with h | h | h
   ·have:=dL.2 h; rw [uU h]; simp; omega
   ·have:=ef.2 h; rw [h,sr]; simp; omega
   ·rw [h]; simp
    have cZ: ¬ cx < 0:=fun ch=>by rw [uU h] at dL; simpa using dL.1 ch
    have eN:cx≠0:=fun ch=>by rw [ef.1 ch,sr] at h; cases h
    omega
  rw [gR]
  cases aq:jm x m.cL
  ·rw [gR,aq] at bl
   obtain⟨ei,fA,hi⟩:=bl rfl
   simp only [Bool.not_false,Bool.true_and]
   rw [Bool.eq_iff_iff,decide_eq_true_eq,Bool.not_eq_true']
   rcases JX x m.jg with h | h | h
   ·have:=ei.2 h; rw [uU h]; simp; omega
   ·have:=fA.2 h; rw [h,sr]; simp; omega
   ·rw [h]; simp
    have cZ: ¬ dr < 0:=fun ch=>by rw [uU h] at ei; simpa using ei.1 ch
    have eN:dr≠0:=fun ch=>by rw [fA.1 ch,sr] at h; cases h
    omega
  ·simp
theorem PI {key:cB} (ax:jX key) {m:ca} (hm:nQ key.cH (fK key) m) (x:al):xn m key.cH (fK key) x=some (jL key.cH (fK key) m x):=by
 have hb:=ax.fK
 obtain⟨_,_,_,aW,hM,_⟩:=ax
 refine bm.get ?_
 unfold xn jL
 refine .cond (fun hp=> .ret ?_) fun hp=> ?_
 ·simp only [Bool.not_eq_true'] at hp
  rw [if_pos hp]; simp; omega
 simp only [Bool.not_eq_false'] at hp
 rw [if_neg (by simp [hp])]
 refine .cond (fun aa=> .ret ?_) fun aa=> .cond (fun ae=> ?_) fun ae=> .cond (fun aD=> ?_) fun aD=> ?_
 ·rw [if_pos (by simpa using aa)]
 ·rw [if_neg (by simpa using aa),if_pos (by simpa using ae)]
  have MN:=hm.GG (by simpa using ae) hp
  have W6:=hm.pre.2
  refine(u6 _).bind fun ak av=>(u6 _).bind fun aO aX=> ?_
  rw [hD (by omega) (by omega)]
  refine bm.loop m.dO.toNat (fun r s=>s=fK key - m.dO + (r:Int)∧ ∀ j:Nat,j < 128→fK key - m.dO≤ (j:Int)→ (j:Int) < fK key - m.dO + (r:Int)→b5 x j=b5 m.cL j) (by omega) ⟨by simp,fun j aG aa ae=>by omega⟩ (fun r s aU hs=> ?_) (fun s hs=> ?_)
  ·obtain⟨rfl,hs⟩:=hs
   refine .cond (fun _=> ?_) (fun h=>by simp at h; omega)
   by_cases bT:0≤fK key - m.dO + (r:Int)
   ·obtain⟨j,aG⟩:=Int.eq_ofNat_of_zero_le bT
    rw [aG]
    have yV:j < 128:=by omega
    refine .cC (P:=fun k=>k=j) (fun _=>⟨j,nC yV,rfl⟩) fun aW cc=> .cC (P:=fun k=>k=j) (fun _=>⟨j,nC yV,rfl⟩) fun bR cN=> .eq rfl ?_
    have CV:(decide ((j:Int)≥0) && decide ((j:Int) < 128))=true:=by simp; omega
    rw [cc CV,cN CV,CV,Bool.true_and,av j yV,aX j yV]
    refine .cond (fun dn=> .ret ?_) fun heq=> .ret ⟨by rw [hD (by omega) (by omega)]; omega,fun i au aD aZ=> ?_⟩
    ·simp only [Sum.elim_inr]
     refine .ret ?_
     refine(Bool.eq_false_iff.2 fun k1=> ?_).symm
     have:=List.all_eq_true.1 k1 j (List.mem_range.2 yV)
     have an:lead (fK key) m.dO j=true:=by unfold lead; simp; omega
     rw [an] at this
     simp at this dn
     exact dn this
    ·by_cases eY:i=j
     ·subst eY; simpa using heq
     ·exact hs i au aD (by omega)
   ·have lh:(decide (fK key - m.dO + (r:Int)≥0) && decide (fK key - m.dO + (r:Int) < 128))=false:=by simp; omega
    refine .cC (P:=fun _=>True) (fun h=>by rw [lh] at h; cases h) fun aW _=> .cC (P:=fun _=>True) (fun h=>by rw [lh] at h; cases h) fun bR _=> .eq rfl ?_
    rw [lh,Bool.false_and]
    refine .cond (fun h=>by cases h) fun _=> .ret ⟨by rw [hD (by omega) (by omega)]; omega,fun i au aD aZ=>hs i au aD (by omega)⟩
  ·obtain⟨rfl,hs⟩:=hs
   have mR:decide (fK key - m.dO + (m.dO.toNat:Int) < fK key)=false:=by simp; omega
   rw [mR]
   refine⟨_,rfl,?_⟩
   simp only [Sum.elim_inl]
   refine .ret ?_
   refine(List.all_eq_true.2 fun j aG=> ?_).symm
   have wc:=List.mem_range.1 aG
   cases an:lead (fK key) m.dO j
   ·rfl
   ·unfold lead at an
    simp only [Bool.and_eq_true,decide_eq_true_eq] at an
    have:=hs j wc (by omega) (by omega)
    simp [this]
 ·rw [if_neg (by simpa using aa),if_neg (by simpa using ae),if_pos (by simpa using aD)]
  refine(Qe _ _).bind fun y a9=> .ret ?_
  rw [a9]
 ·have jE:key.cH=4:=by simp only [beq_eq_false_iff_ne] at aa ae aD; omega
  rw [if_neg (by simpa using aa),if_neg (by simpa using ae),if_neg (by simpa using aD)]
  refine .cond (fun _=> ?_) fun h=>by rw [jE] at h; cases h
  refine(Dy _ _).bind fun cx ⟨dL,ef⟩=> .cC (P:=fun r=>(r > 0↔jm m.jg x=true)∧ (r < 0↔jm x m.jg=true)) (fun _=>Dy _ _) fun dr bl=> .ret ?_
  have gR:decide (cx≤0)= !jm x m.cL:=by
   rw [Bool.eq_iff_iff,decide_eq_true_eq,Bool.not_eq_true',← Bool.not_eq_true,← dL]; omega
  rw [gR]
  cases aq:jm x m.cL
  ·rw [gR,aq] at bl
   obtain⟨ei,fA⟩:=bl rfl
   simp only [Bool.not_false,Bool.true_and]
   rw [Bool.eq_iff_iff,decide_eq_true_eq,Bool.not_eq_true',← Bool.not_eq_true,← ei]; omega
  ·simp
def mt (s:aY) (k:Nat) (p:Vector al 4) (e:bu):Bool:=
 (List.range (aF s.bQ k).bX.length).all fun i=>jL (aF (aF s.bQ k).bX i).cH (fK (aF (aF s.bQ k).bX i)) (aF e.bW i) (bJ p i)
theorem PJ {s:aY} (h:c0 s) {key:cB} (ax:jX key):xm s key=some (fK key):=by
 obtain⟨j,aG,ba,_⟩:=ax
 refine bm.get ?_
 unfold xm
 rw [ba]
 refine(Ik h aG).bind fun r aU=> ?_
 subst aU
 rw [show decide ((j:Int) < 0)=false from decide_eq_false (by omega),cond_false]
 refine .idx rfl (by have:=h.pk; omega) (.ret ?_)
 rw [(h.qy aG).2,Fm ba]
theorem I2 {s:aY} (h:c0 s) {k:Nat} (ax:k < 4) {e:bu} (he:e.dD=(k:Int) + 1):uJ s e=some (aF s.bQ k,true):=by
 refine bm.get ?_
 unfold uJ
 rw [he]
 refine(Ij h ax).bind fun r aU=> ?_
 subst aU
 rw [show decide ((k:Int) < 0)=false from decide_eq_false (by omega),cond_false]
 exact .idx rfl (by have:=h.jZ; omega) (.ret rfl)
theorem Ky {n i:Nat} {f:Nat→Bool} (h:∀ c,c < n→f c=true) (aP:i=n):(List.range i).all f=true:=by
 subst aP; exact List.all_eq_true.2 fun c ar=>h c (List.mem_range.1 ar)
theorem Kz {n i:Nat} {f:Nat→Bool} (au:i < n) (h:f i=false):(List.range n).all f=false:=by
 rw [Bool.eq_false_iff]; intro aa
 have:=List.all_eq_true.1 aa i (List.mem_range.2 au)
 rw [h] at this; cases this
theorem Pn {s:aY} (h:c0 s) {k:Nat} (ax:k < 4) {e:bu} (he:h3 s k e) (p:Vector al 4):uy s e p=some (mt s k p e):=by
 obtain⟨t1,⟨t2,t3⟩,t4,_⟩:=h.ik ax
 refine bm.get ?_
 unfold uy mt
 refine .eq (I2 h ax he.ik) (.cond (fun h=>by cases h) fun _=> ?_)
 have hm:=he.len
 simp only
 refine bm.loop (aF s.bQ k).bX.length (fun i st=>st=(i:Int)∧ ∀ c,c < i→jL (aF (aF s.bQ k).bX c).cH (fK (aF (aF s.bQ k).bX c)) (aF e.bW c) (bJ p c)=true) (by omega) ⟨rfl,fun c ar=>by omega⟩ (fun i st au hs=> ?_) (fun st hs=> ?_)
 ·obtain⟨rfl,hs⟩:=hs
  have ks:jX (aF (aF s.bQ k).bX i):=t4 _ (by rw [fx _ au]; exact List.getElem_mem au)
  refine .cond (fun _=> ?_) (fun h=>by simp at h; omega)
  refine .idx rfl au ?_
  have lh:(decide ((i:Int)≥ (e.bW.length:Int)) || decide ((i:Int)≥4))=false:=by simp; omega
  rw [lh]
  refine .cC (P:=fun c=>c=i) (fun _=>⟨i,nC (by omega),rfl⟩) fun bR aX=> .cC (P:=fun c=>c=fK (aF (aF s.bQ k).bX i)) (fun _=>⟨_,PJ h ks,rfl⟩) fun aO dk=> .cC (P:=fun c=>c=i) (fun _=>⟨i,nC (by omega),rfl⟩) fun dj gz=> ?_
  rw [aX rfl,dk rfl,gz rfl]
  refine .cC (P:=fun c=>c=jL (aF (aF s.bQ k).bX i).cH (fK (aF (aF s.bQ k).bX i)) (aF e.bW i) (bJ p i)) (fun _=>⟨_,PH ks _ _,rfl⟩) fun bc hN=> .eq rfl ?_
  rw [hN rfl,Bool.false_or]
  refine .cond (fun aP=> .ret ?_) fun a9=> .ret ⟨eU (by omega),fun c ar=> ?_⟩
  ·simp only [Sum.elim_inr]
   exact .ret (Kz au (by simpa using aP)).symm
  ·by_cases GK:c=i
   ·subst GK; simpa using a9
   ·exact hs c (by omega)
 ·obtain⟨rfl,hs⟩:=hs
  rw [show decide (((aF s.bQ k).bX.length:Int) < ((aF s.bQ k).bX.length:Int))=false by simp]
  refine⟨_,rfl,?_⟩
  simp only [Sum.elim_inl]
  exact .ret (Ky hs rfl).symm
theorem Po {s:aY} (h:c0 s) {k:Nat} (ax:k < 4) {e:bu} (he:h3 s k e) (p:Vector al 4):xh s e p=some (mt s k p e):=by
 obtain⟨t1,⟨t2,t3⟩,t4,_⟩:=h.ik ax
 refine bm.get ?_
 unfold xh mt
 rw [he.ik]
 refine(Il h ax).bind fun r aU=> ?_
 subst aU
 refine .idx rfl (by have:=h.jZ; omega) ?_
 have hm:=he.len
 refine bm.loop (aF s.bQ k).bX.length (fun i st=>st=(i:Int)∧ ∀ c,c < i→jL (aF (aF s.bQ k).bX c).cH (fK (aF (aF s.bQ k).bX c)) (aF e.bW c) (bJ p c)=true) (by omega) ⟨rfl,fun c ar=>by omega⟩ (fun i st au hs=> ?_) (fun st hs=> ?_)
 ·obtain⟨rfl,hs⟩:=hs
  have ks:jX (aF (aF s.bQ k).bX i):=t4 _ (by rw [fx _ au]; exact List.getElem_mem au)
  refine .cond (fun _=> ?_) (fun h=>by simp at h; omega)
  refine .idx rfl au (.idx rfl (by omega) ((PE h au ks).bind fun aO dk=> .idx rfl (by omega) ?_))
  rw [dk]
  refine .eq (PI ks (he.rV i au) _) (.cond (fun aP=> .ret ?_) fun a9=> .ret ⟨eU (by omega),fun c ar=> ?_⟩)
  ·simp only [Sum.elim_inr]
   exact .ret (Kz au (by simpa using aP)).symm
  ·by_cases GK:c=i
   ·subst GK; simpa using a9
   ·exact hs c (by omega)
 ·obtain⟨rfl,hs⟩:=hs
  rw [show decide (((aF s.bQ k).bX.length:Int) < ((aF s.bQ k).bX.length:Int))=false by simp]
  refine⟨_,rfl,?_⟩
  simp only [Sum.elim_inl]
  exact .ret (Ky hs rfl).symm
def qB:List cB→List ca→Int
 | key :: aN,m :: ms=>if key.cH=2 then m.dO else qB aN ms
 | _,_=>0
theorem Bx:∀ {aN:List cB} {ms:List ca} {i:Nat},ms.length=aN.length→i < aN.length→ (aF aN i).cH=2→ (∀ j,j < i→ (aF aN j).cH≠2)→qB aN ms=(aF ms i).dO
 | [],_,i,_,au,_,_=>by simp at au
 | key :: aN,[],i,an,_,_,_=>by simp at an
 | key :: aN,m :: ms,0,_,_,ae,_=>by
   have:(aF (key :: aN) 0)=key:=rfl
   rw [this] at ae
   unfold qB; rw [if_pos ae]; rfl
 | key :: aN,m :: ms,i + 1,an,au,ae,aP=>by
   have bT:=aP 0 (by omega)
   have:(aF (key :: aN) 0)=key:=rfl
   rw [this] at bT
   unfold qB; rw [if_neg bT]
   have bx:∀ {β:Type} [Inhabited β] (x:β) (l:List β) (n:Nat),aF (x :: l) (n + 1)=aF l n:=fun x l n=>by simp [aF]
   rw [bx] at ae ⊢
   exact Bx (by simpa using an) (by simpa using au) ae fun j aG=>by have:=aP (j + 1) (by omega); rwa [bx] at this
theorem ES:∀ {aN:List cB} {ms:List ca},(∀ key∈aN,key.cH≠2)→qB aN ms=0
 | [],_,_=>by unfold qB; rfl
 | key :: aN,[],_=>by unfold qB; rfl
 | key :: aN,m :: ms,aP=>by
   unfold qB; rw [if_neg (aP key (by simp))]
   exact ES fun k ax=>aP k (by simp [ax])
def pE (s:aY) (k:Nat) (e:bu):Int:=qB (aF s.bQ k).bX e.bW
theorem IG {s:aY} (h:c0 s) {k:Nat} (ax:k < 4) {e:bu} (he:h3 s k e):uG s e=some (pE s k e):=by
 obtain⟨t1,⟨t2,t3⟩,t4,_⟩:=h.ik ax
 have hm:=he.len
 refine bm.get ?_
 unfold uG pE
 refine .eq (I2 h ax he.ik) ?_
 simp only
 refine(Og (g:=fun key=>key.cH ==2) (fun x aq=>rfl) (by omega)).bind fun r aU=> .eq rfl ?_
 rcases aU with⟨rfl,aU⟩ | ⟨i,aa,rfl,aD,aZ⟩
 ·refine .cond (fun _=> .ret ?_) (fun h=>by simp at h)
  rw [ES fun key iV=>by simpa using aU key iV]
 ·have eS:(!true || decide ((i:Int) < 0) || decide ((i:Int)≥ (e.bW.length:Int)))=false:=by simp; omega
  rw [eS,cond_false]
  refine .idx rfl (by omega) (.ret ?_)
  rw [Bx hm aa (by simpa using aD) fun j aG=>by simpa using aZ j aG]
theorem IH {s:aY} (h:c0 s) {k:Nat} (ax:k < 4) {e:bu} (he:h3 s k e):uF s e=some (pE s k e):=by
 obtain⟨t1,⟨t2,t3⟩,t4,_⟩:=h.ik ax
 have hm:=he.len
 refine bm.get ?_
 unfold uF pE
 rw [he.ik]
 refine(Il h ax).bind fun r aU=> ?_
 subst aU
 rw [show decide ((k:Int) < 0)=false from decide_eq_false (by omega),cond_false]
 refine .idx rfl (by have:=h.jZ; omega) ?_
 refine bm.loop (aF s.bQ k).bX.length (fun i st=>st=(i:Int)∧ ∀ j,j < i→ (aF (aF s.bQ k).bX j).cH≠2) (by omega) ⟨rfl,fun j aG=>by omega⟩ (fun i st au hs=> ?_) (fun st hs=> ?_)
 ·obtain⟨rfl,hs⟩:=hs
  refine .cond (fun _=> ?_) (fun h=>by simp at h; omega)
  refine .idx rfl au (.eq rfl (.cond (fun ar=> ?_) fun ar=> .ret ⟨eU (by omega),fun j aG=> ?_⟩))
  ·simp only [Bool.and_eq_true,beq_iff_eq] at ar
   refine .idx rfl (by omega) (.ret ?_)
   simp only [Sum.elim_inr]
   exact .ret (Bx hm au ar.1 hs).symm
  ·by_cases iD:j=i
   ·subst iD
    have hd:decide ((j:Int) < (e.bW.length:Int))=true:=by simp; omega
    rw [hd,Bool.and_true] at ar
    simpa using ar
   ·exact hs j (by omega)
 ·obtain⟨rfl,hs⟩:=hs
  rw [show decide (((aF s.bQ k).bX.length:Int) < ((aF s.bQ k).bX.length:Int))=false by simp]
  refine⟨_,rfl,?_⟩
  simp only [Sum.elim_inl]
  refine .ret (ES fun key iV=> ?_).symm
  obtain⟨j,aG,rfl⟩:=List.mem_iff_getElem.1 iV
  rw [← fx _ aG]; exact hs j aG
def eb (s:aY) (k:Nat) (a c:aJ):Bool:=
 decide (c.bH.g7 < a.bH.g7∨ (a.bH.g7=c.bH.g7∧ (pE s k c.bH < pE s k a.bH∨ (pE s k a.bH=pE s k c.bH∧c.cI < a.cI))))
theorem sL (s:aY) (k:Nat):rW (eb s k) where
 asymm x y h:=by
  unfold eb at *
  rw [decide_eq_true_eq] at h
  rw [decide_eq_false_iff_not]; omega
 trans x y z h cX:=by
  unfold eb at *
  rw [decide_eq_true_eq] at *
  omega
theorem R3 {s:aY} {k:Nat} {a c:aJ} (h:a.cI≠c.cI):qA (eb s k) a c:=by
 unfold qA eb
 rw [decide_eq_true_eq,decide_eq_true_eq]; omega
def Hi (x y:Int):Int:=if x < y then -1 else if y < x then 1 else 0
theorem ET (x y:Int):sc x y=some (Hi x y):=by
 unfold sc xc Hi
 have:∀ z:Int,(z !=z)=false:=fun z=>by simp
 rw [this,this]
 simp only [Option.bind_some,cond_false]
 by_cases aa:x < y
 ·simp [aa]
 ·by_cases ae:y < x
  ·simp [aa,ae]
  ·simp [aa,ae]
theorem QL (a c d:Int):xu [a,c,d]=some (if a≠0 then a else if c≠0 then c else d):=by
 refine bm.get ?_
 unfold xu
 refine bm.loop 3 (fun i st=>st=(i:Int)∧ ∀ j,j < i→aF [a,c,d] j=0) (by omega) ⟨rfl,fun j aG=>by omega⟩ (fun i st au hs=> ?_) (fun st hs=> ?_)
 ·obtain⟨rfl,hs⟩:=hs
  refine .cond (fun _=> ?_) (fun h=>by simp at h; omega)
  refine .idx rfl (by simpa using au) (.cond (fun ar=> .ret ?_) fun ar=> .ret ⟨eU (by omega),fun j aG=> ?_⟩)
  ·simp only [Sum.elim_inr]
   refine .ret ?_
   have bT:=hs 0
   have aa:=hs 1
   rcases (show i=0∨i=1∨i=2 by omega) with rfl | rfl | rfl
   ·have:a≠0:=by simpa [aF] using ar
    rw [if_pos this]; rfl
   ·have:c≠0:=by simpa [aF] using ar
    have GL:a=0:=by simpa [aF] using bT (by omega)
    rw [if_neg (by simpa using GL),if_pos this]; rfl
   ·have GL:a=0:=by simpa [aF] using bT (by omega)
    have Wk:c=0:=by simpa [aF] using aa (by omega)
    rw [if_neg (by simpa using GL),if_neg (by simpa using Wk)]; rfl
  ·by_cases iD:j=i
   ·subst iD; simpa using ar
   ·exact hs j (by omega)
 ·obtain⟨rfl,hs⟩:=hs
  refine⟨_,rfl,?_⟩
  simp only [Sum.elim_inl]
  refine .ret ?_
  have bT:a=0:=by simpa [aF] using hs 0 (by omega)
  have aa:c=0:=by simpa [aF] using hs 1 (by omega)
  have ae:d=0:=by simpa [aF] using hs 2 (by omega)
  simp [bT,aa,ae]
theorem I3 {s:aY} (h:c0 s) {k:Nat} (ax:k < 4) {a c:aJ} (bn:h3 s k a.bH) (ar:h3 s k c.bH):uK s a c=some (eb s k a c):=by
 unfold uK eb
 rw [ET,Option.bind_some,IG h ax bn,Option.bind_some,IG h ax ar,Option.bind_some,ET,Option.bind_some,ET,Option.bind_some,QL,Option.bind_some]
 congr 1
 rw [decide_eq_decide]
 unfold Hi
 split <;> split <;> (repeat' split) <;> omega
theorem Qi {s:aY} (h:c0 s) {k:Nat} (ax:k < 4) {a c:aJ} (bn:h3 s k a.bH) (ar:h3 s k c.bH):xr s a c=some (eb s k a c):=by
 refine bm.get ?_
 unfold xr eb
 refine .cond (fun aa=> .ret ?_) fun aa=> .eq (IH h ax bn) (.eq (IH h ax ar) (.cond (fun ae=> .ret ?_) fun ae=> .ret ?_))
 ·rw [decide_eq_decide]; simp at aa; omega
 ·rw [decide_eq_decide]; simp at aa ae; omega
 ·rw [decide_eq_decide]; simp at aa ae; omega
end Go.Proofs.YtmnggbjcnoffeaaGreat
namespace Go.Proofs.YtmnggbjcnoffeaaGreat
open Go Gv
set_option linter.unusedVariables false
set_option linter.unusedSimpArgs false
theorem NA {xs:List aJ} {f:aJ→Option Bool} {g:aJ→Bool} (ba:∀ x∈xs,f x=some (g x)) (an:xs.length < 2 ^ 62):
 bm (wx xs f) (fun r=>(r= -1∧ ∀ x∈xs,g x=false)∨ ∃ i:Nat,i < xs.length∧r=i∧g (aF xs i)=true∧ ∀ j,j < i→g (aF xs j)=false):=by
 unfold wx
 refine bm.loop xs.length (fun k s=>s=(k:Int)∧ ∀ j,j < k→g (aF xs j)=false) (by omega) ⟨rfl,fun j aG=>by omega⟩ (fun k s ax au=> ?_) (fun s au=> ?_)
 ·obtain⟨av,aX⟩:=au; subst av
  refine bm.cond (fun _=> ?_) (fun h=>by simp at h; omega)
  refine .idx rfl ax (.eq (ba _ (by rw [fx xs ax]; exact List.getElem_mem ax)) (.cond (fun h=> .ret ?_) (fun h=> .ret ⟨eU (by omega),fun j aG=> ?_⟩)))
  ·exact .ret (.inr ⟨k,ax,rfl,h,aX⟩)
  ·by_cases qx:j=k
   ·subst qx; exact h
   ·exact aX j (by omega)
 ·obtain⟨av,aX⟩:=au; subst av
  refine⟨_,by simp; rfl,?_⟩
  refine .ret (.inl ⟨rfl,fun x aq=> ?_⟩)
  obtain⟨j,aG,rfl⟩:=List.mem_iff_getElem.1 aq
  rw [← fx xs aG]; exact aX j aG
end Go.Proofs.YtmnggbjcnoffeaaGreat
namespace Go.Proofs.YtmnggbjcnoffeaaGreat
open Go Gv
set_option linter.unusedVariables false
set_option linter.unusedSimpArgs false
set_option maxRecDepth 100000
structure jM (s:aY) (k:Nat) (i:aJ):Prop where
 fo:h3 s k i.bH
theorem Ry {i:aJ} (aa:i.bH.bW.length≤1000) (ae:i.bH.jU.length≤1000):m4 i=some i:=by
 unfold m4 A3 Au Av
 rw [h0 _ _ (by simp; omega) (by omega),h0 _ _ (by simp; omega) (by omega)]
 rfl
theorem yn {s:aY} (h:c0 s) {k:Nat} (ax:k < 4) {i:aJ} (au:jM s k i):m4 i=some i:=by
 have aa:=au.fo.len
 have ae:=au.fo.args
 have aD:=(h.ik ax).2.1.2
 exact Ry (by omega) (by omega)
def j0 (l:List aJ) (n:Int):Bool:=l.any fun c=>c.cI ==n
theorem find_eq (x:cF) (n:Int) (an:x.cb.length≤1000):bm (wI x n) (fun r=>(r= -1∧j0 x.cb n=false)∨ ∃ i:Nat,i < x.cb.length∧r=i∧ (aF x.cb i).cI=n∧j0 x.cb n=true∧ ∀ j,j < i→ (aF x.cb j).cI≠n):=by
 unfold wI
 refine(NA (g:=fun c=>c.cI ==n) (fun c ar=>rfl) (by omega)).bind fun r aU=> .ret ?_
 rcases aU with⟨aa,ae⟩ | ⟨i,aa,ae,aD,aZ⟩
 ·exact .inl ⟨aa,by unfold j0; rw [List.any_eq_false]; exact fun c ar=>by simp [ae c ar]⟩
 ·refine .inr ⟨i,aa,ae,by simpa using aD,?_,fun j aG=>by simpa using aZ j aG⟩
  unfold j0; rw [List.any_eq_true]
  exact⟨aF x.cb i,by rw [fx _ aa]; exact List.getElem_mem _,aD⟩
theorem QM {s:aY} (h:c0 s) {k:Nat} (ax:k < 4) {x:cF} (aq:x.m8=s) {a c:aJ} (bn:jM s k a) (ar:jM s k c):
 bm (ud x a c) (fun r=>r < 0↔eb s k a c=true):=by
 unfold ud
 rw [aq]
 refine .eq (I3 h ax bn.fo ar.fo) (.cond (fun hb=> .ret ⟨fun _=>hb,fun _=>by omega⟩) fun hb=> .eq (I3 h ax ar.fo bn.fo) (.cond (fun _=> .ret ?_) fun _=> .ret ?_))
 ·rw [hb]; simp
 ·rw [hb]; simp
theorem R4 {i j:Nat} (h:i + j < 2 ^ 62):bw ((BitVec.ofInt 64 (bw ((i:Int) + (j:Int)))) >>> (1#64).toNat).toNat=(((i + j) / 2:Nat):Int):=by
 rw [show(i:Int) + (j:Int)=((i + j:Nat):Int) by omega,hD (x:=((i + j:Nat):Int)) (by omega) (by omega)]
 have:((BitVec.ofInt 64 ((i + j:Nat):Int)) >>> (1#64).toNat).toNat=(i + j) / 2:=by
  rw [BitVec.toNat_ushiftRight,nD (by omega)]
  rw [show(1#64).toNat=1 from rfl,Nat.shiftRight_eq_div_pow,Nat.pow_one]
 rw [this,hD (by omega) (by omega)]
theorem Qj {l:List aJ} {x:aJ} {b:aJ→aJ→Bool} (hb:rW b) (hs:l.Pairwise (fun x y=>b x y=true)) (an:l.length≤1000)
 {f:aJ→aJ→Option Int} (ba:∀ a∈l,bm (f a x) (fun r=>r < 0↔b a x=true)):
 bm (wv l x f) (fun r=>r.1=(iX b l x:Int)):=by
 unfold wv
 have fU:=EP (b:=b) (l:=l) (x:=x)
 have rE:∀ h,h < l.length→aF l h∈l:=fun h ch=>by rw [fx _ ch]; exact List.getElem_mem _
 have mR:∀ q:Bool,bm ((cC (decide (((iX b l x:Nat):Int) < (l.length:Int))) true (idx l.length ((iX b l x:Nat):Int))).bind fun bR=>
  (cC (decide (((iX b l x:Nat):Int) < (l.length:Int))) true (f (aF l bR) x)).bind fun aO=>some (((iX b l x:Nat):Int),(decide (((iX b l x:Nat):Int) < (l.length:Int))) && (aO ==0))) (fun r=>r.1=(iX b l x:Int)):=fun _=>by
  refine .cC (P:=fun c=>c=iX b l x) (fun h=>⟨_,nC (by simpa using h),rfl⟩) fun bR ae=> .cC (P:=fun _=>True) (fun h=> ?_) fun aO _=> .ret rfl
  rw [ae h]
  exact(ba _ (rE _ (by simpa using h))).mono fun _ _=>trivial
 refine bm.loop l.length (fun r st=> ∃ i j:Nat,st=((i:Int),(j:Int))∧i≤iX b l x∧iX b l x≤j∧j≤l.length∧j - i≤l.length - r) (by omega) ⟨0,l.length,rfl,by omega,by omega,by omega,by omega⟩ (fun r st aU kr=> ?_) (fun st kr=> ?_)
 ·obtain⟨i,j,rfl,aa,ae,aD,aZ⟩:=kr
  refine .cond (fun ar=> ?_) fun ar=> .ret ?_
  ·have eY:i < j:=by simpa using ar
   rw [R4 (by omega)]
   have hm:(i + j) / 2 < l.length:=by omega
   refine .idx rfl hm ((ba _ (rE _ hm)).bind fun ak bt=> ?_)
   have cl:=ER hb (x:=x) hs hm
   refine .bind (P:=fun m=> ∃ i j:Nat,m=((i:Int),(j:Int))∧i≤iX b l x∧iX b l x≤j∧j≤l.length∧j - i≤l.length - (r + 1)) (.cond (fun a9=> .eq rfl (.ret ?_)) fun a9=> .ret ?_) fun m hm=> .ret ?_
   ·have:=cl.1 (bt.1 (by simpa using a9))
    refine⟨(i + j) / 2 + 1,j,?_,by omega,ae,aD,by omega⟩
    simp only [eU (show(i + j) / 2 < 2 ^ 62 by omega)]
   ·have: ¬ (i + j) / 2 < iX b l x:=fun ch=>by
     have:=bt.2 (cl.2 ch)
     simp at a9; omega
    exact⟨i,(i + j) / 2,rfl,aa,by omega,by omega,by omega⟩
   ·obtain⟨Am,MY,rfl,a6⟩:=hm
    exact⟨Am,MY,rfl,a6⟩
  ·have eY: ¬ i < j:=by simpa using ar
   have:i=iX b l x:=by omega
   subst this
   exact mR true
 ·obtain⟨i,j,rfl,aa,ae,aD,aZ⟩:=kr
  have eY:i=iX b l x:=by omega
  have ar:decide ((i:Int) < (j:Int))=false:=by simp; omega
  simp only [ar,cond_false]
  refine⟨_,rfl,?_⟩
  subst eY
  exact mR true
structure kx (s:aY) (k:Nat) (l:List aJ):Prop where
 ok:∀ i∈l,jM s k i
 num:l.Pairwise fun a c=>a.cI≠c.cI
 len:l.length≤900
theorem kx.z3 {s:aY} {k:Nat} {l:List aJ} (h:kx s k l):ox (eb s k) l:=h.num.imp fun ch=>R3 ch
theorem kx.ew {s:aY} {k:Nat} {l:List aJ} (h:kx s k l):(∀ i∈ew (eb s k) l,jM s k i)∧ (ew (eb s k) l).length≤900:=
 ⟨fun i au=>h.ok i (od.1 au),by rw [R2]; exact h.len⟩
theorem JY {s:aY} {k:Nat} {l:List aJ} {n:Int} :j0 (ew (eb s k) l) n=j0 l n:=by
 unfold j0
 rw [Bool.eq_iff_iff,List.any_eq_true,List.any_eq_true]
 exact⟨fun⟨c,aa,ae⟩=>⟨c,od.1 aa,ae⟩,fun⟨c,aa,ae⟩=>⟨c,od.2 aa,ae⟩⟩
theorem Rz {l:List aJ} {n:Int} (h:j0 l n=false):∀ c∈l,c.cI≠n:=fun c ar=>by
 unfold j0 at h
 rw [List.any_eq_false] at h
 simpa using h c ar
theorem kx.snoc {s:aY} {k:Nat} {l:List aJ} (h:kx s k l) {i:aJ} (au:jM s k i) (aP:j0 l i.cI=false) (an:l.length < 900):kx s k (l ++ [i]) where
 ok c ar:=by
  rcases List.mem_append.1 ar with ar | ar
  ·exact h.ok c ar
  ·rw [List.mem_singleton.1 ar]; exact au
 num:=by
  rw [List.pairwise_append]
  exact⟨h.num,by simp,fun a bn c ar=>by rw [List.mem_singleton.1 ar]; exact Rz aP a bn⟩
 len:=by simp; omega
def om (s:aY) (k:Nat) (l:List aJ):cF:= { m8:=s,cb:=ew (eb s k) l }
theorem R5 {s:aY} (h:c0 s) {k:Nat} (ax:k < 4) {l:List aJ} (an:kx s k l) {i:aJ} (au:jM s k i) (hlen:l.length < 900):
 wH (om s k l) i=some (!j0 l i.cI,if j0 l i.cI=true then om s k l else om s k (l ++ [i])):=by
 refine bm.get ?_
 unfold wH
 obtain⟨mj,ia⟩:=an.ew
 refine .cC (fun _=>find_eq (om s k l) _ (by show(ew _ l).length≤1000; omega)) fun ak aa=> ?_
 have aa:=aa rfl
 rw [Bool.false_or]
 rcases aa with⟨rfl,ae⟩ | ⟨j,ae,rfl,aD,aZ,a6⟩
 ·have la:j0 l i.cI=false:=by rw [← ae]; exact JY.symm
  refine .cond (fun ar=>by simp at ar) fun _=> ?_
  refine(Qj (b:=eb s k) (sL s k) (DR (sL s k) an.z3) (by omega) fun a bn=>QM h ax rfl (mj a bn) au).bind fun aO cq=> .eq (yn h ax au) ?_
  rw [cq]
  unfold As
  have fU:=EP (b:=eb s k) (l:=ew (eb s k) l) (x:=i)
  refine .eq (a:=ew (eb s k) (l ++ [i])) ?_ (.ret ?_)
  ·show zg 88 (ew (eb s k) l) _ _=_
   unfold zg
   have oC:maxLen=9223372036854775807:=rfl
   rw [if_pos ⟨by omega,by omega,by simp,by simp <;> omega,by simp <;> omega⟩,Es,Kx]
   simp
  ·rw [la]; rfl
 ·have CJ:j0 l i.cI=true:=by rw [← aZ]; exact JY.symm
  refine .cond (fun _=> .ret ?_) fun ar=>by simp at ar <;> omega
  rw [CJ]; rfl
theorem Qk {s:aY} (h:c0 s) {k:Nat} (ax:k < 4) {l:List aJ} (an:kx s k l) (p:Vector al 4):
 tY (om s k l) p=some (match (ew (eb s k) l).find? (fun c=>mt s k p c.bH) with | some c=>(c,true) | none=>(default,false)):=by
 refine bm.get ?_
 obtain⟨mj,ia⟩:=an.ew
 unfold tY
 refine .eq (a:=p) rfl ?_
 unfold wy
 have Gu:∀ i (au:i < (ew (eb s k) l).length),uy s (aF (ew (eb s k) l) i).bH p=some (mt s k p (aF (ew (eb s k) l) i).bH)∧m4 (aF (ew (eb s k) l) i)=some (aF (ew (eb s k) l) i):=fun i au=>by
  have hm:=mj (aF (ew (eb s k) l) i) (by rw [fx _ au]; exact List.getElem_mem _)
  exact⟨Pn h ax hm.fo p,yn h ax hm⟩
 show bm ((Option.bind (Option.bind (dW eu _ _) _) _)) _
 rw [Option.bind_assoc]
 refine bm.loop (ew (eb s k) l).length (fun i st=>st=((i:Int),())∧ ∀ j,j < i→mt s k p (aF (ew (eb s k) l) j).bH=false) (by omega) ⟨rfl,fun j aG=>by omega⟩ (fun i st au hs=> ?_) (fun st hs=> ?_)
 ·obtain⟨rfl,hs⟩:=hs
  obtain⟨aw,a5⟩:=Gu i au
  refine .cond (fun _=> ?_) (fun ar=>by simp [om] at ar; omega)
  refine .idx rfl au (.eq aw (.cond (fun hm=> .eq (a:=(Sum.inr (true,aF (ew (eb s k) l) i):Unit ⊕ (Bool × aJ))) (by show Option.bind (m4 (aF (ew (eb s k) l) i)) _=_; rw [a5]; rfl) (.ret ?_)) fun hm=> .ret ⟨?_,fun j aG=> ?_⟩))
  ·refine .ret ?_
   rw [JR (xs:=ew (eb s k) l) (p:=fun c=>mt s k p c.bH) au hm hs]
  ·rw [eU (by omega)]
  ·by_cases iD:j=i
   ·subst iD; exact hm
   ·exact hs j (by omega)
 ·obtain⟨rfl,hs⟩:=hs
  have ar:decide (((ew (eb s k) l).length:Int) < ((om s k l).cb.length:Int))=false:=by simp [om]
  simp only [ar,cond_false]
  refine⟨_,rfl,.ret ?_⟩
  rw [JS fun c ar=> ?_]
  obtain⟨j,aG,rfl⟩:=List.mem_iff_getElem.1 ar
  rw [← fx _ aG]; exact hs j aG
theorem PK {s:aY} (h:c0 s) {k:Nat} (ax:k < 4) {l:List aJ} (an:∀ i∈l,jM s k i) (aP:l.length≤1000):uM l=some l:=by
 refine bm.get ?_
 unfold uM
 refine bm.loop l.length (fun i st=>st=((i:Int),l.take i)) (by omega) rfl (fun i st au hs=> ?_) (fun st hs=> ?_)
 ·subst hs
  refine .cond (fun _=> ?_) (fun ar=>by simp at ar; omega)
  refine .idx rfl au (.eq (yn h ax (an _ (by rw [fx _ au]; exact List.getElem_mem _))) (.eq (h0 _ _ (by simp; omega) (by omega)) (.ret ?_)))
  rw [eU (by omega),pK l au]
 ·subst hs
  refine⟨_,by simp; rfl,.ret ?_⟩
  simp
theorem R6 {s:aY} (h:c0 s) {k:Nat} (ax:k < 4) {l:List aJ} (an:kx s k l):wG (om s k l)=some (ew (eb s k) l):=by
 unfold wG
 obtain⟨mj,ia⟩:=an.ew
 show Option.bind (uM (ew (eb s k) l)) _=_
 rw [PK h ax mj (by omega)]; rfl
theorem Bd (v:al):n5 v v=some 0:=by
 obtain⟨r,aa,ae,aD⟩:=Dy v v
 rw [sr] at ae aD
 have:r=0:=by
  have dL: ¬ r > 0:=fun h=>by simpa using ae.1 h
  have ef: ¬ r < 0:=fun h=>by simpa using aD.1 h
  omega
 rw [aa,this]
theorem Pp (m:ca):xt m m=some 0:=by
 unfold xt
 rw [Bd,Bd,Bd]
 simp
theorem xK (n:Int):oU n n=some 0:=by
 unfold oU
 simp
theorem OS (l:List ca) (an:l.length≤1000):xg l l=some 0:=by
 refine bm.get ?_
 unfold xg
 refine bm.loop l.length (fun i st=>st=(i:Int)) (by omega) rfl (fun i st au hs=> ?_) (fun st hs=> ?_)
 ·subst hs
  refine .cond (fun _=> ?_) (fun ar=>by simp at ar; omega)
  exact .idx rfl au (.idx rfl au (.eq (Pp _) (.cond (fun ar=>by simp at ar) fun _=> .ret (eU (by omega)))))
 ·subst hs
  refine⟨_,by simp; rfl,?_⟩
  simp only [Sum.elim_inl]
  exact .eq (xK _) (.ret rfl)
theorem O5 (l:List al) (an:l.length≤1000):xp l l=some 0:=by
 refine bm.get ?_
 unfold xp
 refine bm.loop l.length (fun i st=>st=(i:Int)) (by omega) rfl (fun i st au hs=> ?_) (fun st hs=> ?_)
 ·subst hs
  refine .cond (fun _=> ?_) (fun ar=>by simp at ar; omega)
  exact .idx rfl au (.idx rfl au (.eq (Bd _) (.cond (fun ar=>by simp at ar) fun _=> .ret (eU (by omega)))))
 ·subst hs
  refine⟨_,by simp; rfl,?_⟩
  simp only [Sum.elim_inl]
  exact .eq (xK _) (.ret rfl)
theorem Ql {e:bu} (aa:e.bW.length≤1000) (ae:e.jU.length≤1000):xi e e=some 0:=by
 unfold xi
 rw [xK,Option.bind_some,xK,Option.bind_some,OS _ aa,Option.bind_some,xK,Option.bind_some]
 refine bm.get ?_
 refine bm.loop 4 (fun i st=>st=(i:Int)) (by omega) rfl (fun i st au hs=> ?_) (fun st hs=> ?_)
 ·subst hs
  refine .cond (fun _=> ?_) (fun ar=>by simp at ar; omega)
  have bT:aF [(0:Int),0,0,0] i=0:=by
   rcases (show i=0∨i=1∨i=2∨i=3 by omega) with rfl | rfl | rfl | rfl <;> rfl
  refine .idx rfl (by simpa using au) (.cond (fun ar=>by rw [bT] at ar; simp at ar) fun _=> .ret (eU (by omega)))
 ·subst hs
  refine⟨_,rfl,?_⟩
  simp only [Sum.elim_inl]
  exact .eq (O5 _ ae) (.ret rfl)
theorem Qm {i:aJ} (aa:i.bH.bW.length≤1000) (ae:i.bH.jU.length≤1000):uN i i=some true:=by
 unfold uN A1
 rw [Ql aa ae]
 simp
theorem jM.small {s:aY} (h:c0 s) {k:Nat} (ax:k < 4) {i:aJ} (au:jM s k i):i.bH.bW.length≤1000∧i.bH.jU.length≤1000:=by
 have aa:=au.fo.len
 have ae:=au.fo.args
 have aD:=(h.ik ax).2.1.2
 exact⟨by omega,by omega⟩
def il (o:Option aJ):aJ × Bool:=match o with | some c=>(c,true) | none=>(default,false)
theorem RA {s:aY} (h:c0 s) {k:Nat} (ax:k < 4) {l:List aJ} (an:kx s k l) (p:Vector al 4):
 xy s l p=some (il ((ew (eb s k) l).find? (fun c=>mt s k p c.bH))):=by
 refine bm.get ?_
 unfold xy
 have hlen:=an.len
 refine bm.loop l.length (fun i st=>st=((il ((ew (eb s k) (l.take i)).find? (fun c=>mt s k p c.bH))).2,(i:Int),(il ((ew (eb s k) (l.take i)).find? (fun c=>mt s k p c.bH))).1)) (by omega) rfl (fun i st au hs=> ?_) (fun st hs=> ?_)
 ·subst hs
  refine .cond (fun _=> ?_) (fun ar=>by simp at ar; omega)
  have aq:jM s k (aF l i):=an.ok _ (by rw [fx _ au]; exact List.getElem_mem _)
  refine .idx rfl au (.eq (Po h ax aq.fo p) ?_)
  have v8:ox (eb s k) (l.take (i + 1)):=an.z3.sublist (List.take_sublist _ _)
  rw [pK l au] at v8
  obtain⟨ff,gD⟩:=v8.snoc
  have ba:=Jr (sL s k) (p:=fun c=>mt s k p c.bH) (x:=aF l i) (DR (sL s k) ff) fun a bn=>gD a (od.1 bn)
  rw [← Es,← pK l au] at ba
  have rE:∀ c,(ew (eb s k) (l.take i)).find? (fun c=>mt s k p c.bH)=some c→jM s k c:=fun c ar=>an.ok c (List.mem_of_mem_take (od.1 (List.mem_of_find?_eq_some ar)))
  rw [ba]
  cases hm:mt s k p (aF l i).bH
  ·refine .cC (P:=fun _=>True) (fun ar=>by simp at ar) fun aO _=> ?_
   refine .eq rfl (.ret ?_)
   simp only [eU (show i < 2 ^ 62 by omega)]
   simp
  ·cases Wl:(ew (eb s k) (l.take i)).find? (fun c=>mt s k p c.bH) with
   | none=>
     refine .cC (P:=fun _=>True) (fun ar=>by simp [il] at ar) fun aO _=> ?_
     refine .eq (a:=(true,aF l i)) (by simp [il]) (.ret ?_)
     simp only [eU (show i < 2 ^ 62 by omega)]
     simp [il]
   | some c=>
     refine .cC (P:=fun r=>r=eb s k (aF l i) c) (fun ar=>⟨_,Qi h ax aq.fo (rE c Wl).fo,rfl⟩) fun aO ae=> ?_
     rw [ae (by simp [il])]
     cases MO:eb s k (aF l i) c
     ·refine .eq (a:=(true,c)) (by simp [il]) (.ret ?_)
      simp only [eU (show i < 2 ^ 62 by omega)]
      simp [il,MO]
     ·refine .eq (a:=(true,aF l i)) (by simp [il]) (.ret ?_)
      simp only [eU (show i < 2 ^ 62 by omega)]
      simp [il,MO]
 ·subst hs
  refine⟨_,by simp; rfl,.ret ?_⟩
  simp
theorem PL {s:aY} (h:c0 s) {k:Nat} (ax:k < 4) {l:List aJ} (an:kx s k l) (p:Vector al 4):
 tY (om s k l) p=some (il ((ew (eb s k) l).find? (fun c=>mt s k p c.bH))):=by
 rw [Qk h ax an]; unfold il; cases List.find? (fun c=>mt s k p c.bH) (ew (eb s k) l) <;> rfl
theorem Qn {s:aY} (h:c0 s) {k:Nat} (ax:k < 4) {l:List aJ} (an:∀ i∈l,jM s k i) (q:aJ→Bool):
 (il (l.find? q)).1.bH.bW.length≤1000∧ (il (l.find? q)).1.bH.jU.length≤1000:=by
 cases ba:l.find? q with
 | none=>exact⟨Nat.zero_le _,Nat.zero_le _⟩
 | some c=>exact(an c (List.mem_of_find?_eq_some ba)).small h ax
theorem QN (c:bk):bm (wN c) (fun _=>True):=by
 unfold wN
 first | exact .ret trivial | exact .eq rfl (.ret trivial)
end Go.Proofs.YtmnggbjcnoffeaaGreat
namespace Go.Proofs.YtmnggbjcnoffeaaGreat
open Go Gv
set_option linter.unusedVariables false
set_option linter.unusedSimpArgs false
set_option maxRecDepth 100000
structure ki (hp:a1 Cell) (t:Nat) (g:List Bool→Option Int):Prop where
 ok:∃ c,gd hp t=some c∧c.ey=32∧o5 hp c.cV∧ ∀ bz,cont hp c.cV bz=g bz
def Own (hp:a1 Cell) (t q:Nat):Prop:=q=t∨ ∃ c bz,gd hp t=some c∧dv hp c.cV bz=some q
def ez (v:al) (n:Nat):List Bool:=(List.range n).map fun i=>b5 v (31 - i)
theorem DC (v:al) (n:Nat):ez v (n + 1)=ez v n ++ [b5 v (31 - n)]:=by simp [ez,List.range_succ]
theorem DD (v:al):ez v 0= []:=rfl
theorem I4 {hp:a1 Cell} {t:Nat} {c:fM} (ar:gd hp t=some c) (hb:c.ey=32) {n:Nat} (aP:n≤32) {v:al} (a2:∀ j,j < 128→b5 v j=true→lead 32 n j=true):
 uj hp (some t) v n=some true:=by
 refine bm.get ?_
 unfold uj
 have av:(Option.isSome (some t) && decide ((n:Int)≥0))=true:=by simp
 have aX:decide ((n:Int)≤c.ey)=true:=by rw [hb]; simp; omega
 refine .cC (P:=fun r=>r=t) (fun _=>⟨t,rfl,rfl⟩) fun cW aa=> ?_
 rw [aa av]
 refine .cC (P:=fun r=>r=c) (fun _=>⟨c,ar,rfl⟩) fun cd ae=> ?_
 rw [ae av]
 rw [av,aX]
 refine .cC (P:=fun r=>r=t) (fun _=>⟨t,rfl,rfl⟩) fun ct aD=> ?_
 rw [aD rfl]
 refine .cC (P:=fun r=>r=c) (fun _=>⟨c,ar,rfl⟩) fun cS aZ=> ?_
 rw [aZ rfl,hb]
 refine .cC (fun _=>ID 32 n (by decide) (by decide)) fun ak a6=> ?_
 refine .cC (P:=fun r=>r=qh v ak) (fun _=>⟨_,and_eq v ak,rfl⟩) fun aO bl=> ?_
 refine .eq rfl (.ret ?_)
 have:aO=v:=by
  rw [bl rfl]
  refine ym fun j aG=> ?_
  rw [u5,a6 rfl j aG]
  cases e:b5 v j with
  | false=>rfl
  | true=>rw [a2 j aG e]; rfl
 rw [this]; simp
theorem KA {v:al} {i:Nat} (au:i < 32):bm (sl v (bw ((bw ((32:Int) - 1)) - (i:Int)))) (fun r=>r=b5 v (31 - i)):=by
 have e:bw ((bw ((32:Int) - 1)) - (i:Int))=((31 - i:Nat):Int):=by
  rw [show bw ((32:Int) - 1)=31 from by rw [hD (by decide) (by decide)]; rfl,hD (by omega) (by omega)]; omega
 rw [e]
 refine(R1 v _).mono fun r aU=> ?_
 rw [aU]
 have:decide (0≤ ((31 - i:Nat):Int)∧ ((31 - i:Nat):Int) < 128)=true:=by rw [decide_eq_true_eq]; omega
 rw [this,Bool.true_and]; rfl
theorem KB (b:Bool):(cond b (some (1:Int)) (some 0))=some ((hH b:Nat):Int):=by cases b <;> rfl
theorem Lz {σ ε:Type} {hp:a1 Cell} {t:Nat} {c:fM} (ar:gd hp t=some c) (hb:c.ey=32) (v:al) {n:Nat} (aP:n≤32) {step:Int→σ→Option (σ ⊕ ε)} {b1:σ} {P:σ ⊕ ε→Prop} (fg:Nat→σ→Prop) (bT:fg 0 b1)
 (hs:∀ i s,i < n→fg i s→bm (step ((hH (b5 v (31 - i)):Nat):Int) s) (fun r=>match r with | .inl bZ=>fg (i + 1) bZ | .inr e=>P (.inr e))) (he:∀ s,fg n s→P (.inl s)):bm (pG hp n v (some t) step b1) P:=by
 unfold pG
 refine bm.loop n (fun i s=>s.1=(i:Int)∧fg i s.2) (by omega) ⟨rfl,bT⟩ (fun i s au eZ=> ?_) (fun s eZ=> ?_)
 ·obtain⟨j,s⟩:=s; obtain⟨av,aX⟩:=eZ
  simp only at av aX; subst av
  refine bm.cond (fun _=> ?_) (fun h=>by simp at h; omega)
  refine .eq rfl (.eq ar ?_)
  rw [hb]
  refine(KA (by omega)).bind fun ak aa=> .eq (KB ak) ?_
  rw [aa]
  refine(hs i s au aX).bind fun r aU=> ?_
  cases r with
  | inl bZ=>exact .ret ⟨eU (by omega),aU⟩
  | inr e=>exact .ret (.ret aU)
 ·obtain⟨j,s⟩:=s; obtain⟨av,aX⟩:=eZ
  simp only at av aX; subst av
  refine⟨_,by simp; rfl,?_⟩
  exact .ret (he s aX)
theorem TL {σ ε:Type} {t:Nat} (v:al) {n:Nat} (aP:n≤32) {hq:σ→a1 Cell} {step:Int→σ→aC (σ ⊕ ε)} {b1:σ} {P:σ ⊕ ε→Prop} (fg:Nat→σ→Prop) (bT:fg 0 b1) (j9:∀ i s,fg i s→ ∃ c,gd (hq s) t=some c∧c.ey=32)
 (hs:∀ i s,i < n→fg i s→dU (step ((hH (b5 v (31 - i)):Nat):Int) s) (fun r=>match r with | .inl bZ=>fg (i + 1) bZ | .inr e=>P (.inr e))) (he:∀ s,fg n s→P (.inl s)):dU (r8 n v (some t) hq step b1) P:=by
 unfold r8
 refine .bind (P:=fun e=>match e with | .inl e=>P (.inl e.2.2) | .inr e=>P (.inr e.2.2.2.2.2.2)) (dU.loop n (fun i s=>s.1=(i:Int)∧fg i s.2) (by omega) ⟨rfl,bT⟩ (fun i s au eZ=> ?_) (fun s eZ=> ?_)) fun e h=> ?_
 ·obtain⟨j,s⟩:=s; obtain⟨av,aX⟩:=eZ
  simp only at av aX; subst av
  refine dU.cond (fun _=> ?_) (fun h=>by simp at h; omega)
  obtain⟨c,ar,hb⟩:=j9 i s aX
  refine .eq rfl (.eq ar ?_)
  rw [hb]
  refine .lJ (KA (by omega)) fun ak aa=> .eq (KB ak) ?_
  rw [aa]
  refine .bind (hs i s au aX) fun r aU=> ?_
  cases r with
  | inl bZ=>exact .ret ⟨eU (by omega),aU⟩
  | inr e=>exact .ret aU
 ·obtain⟨j,s⟩:=s; obtain⟨av,aX⟩:=eZ
  simp only at av aX; subst av
  refine dU.cond (fun h=>by simp at h) fun _=> .ret (he s aX)
 ·cases e with
  | inl e=>exact .ret h
  | inr e=>exact .ret h
theorem Js {hp:a1 Cell} {t:Nat} {c:fM} (ar:gd hp t=some c) (hb:c.ey=32) (cr:o5 hp c.cV) {n:Nat} (aP:n≤32) {v:al} (a2:∀ j,j < 128→b5 v j=true→lead 32 n j=true):
 uq hp (some t) v n=some (dv hp c.cV (ez v n)):=by
 refine bm.get ?_
 unfold uq
 refine .eq (I4 ar hb aP a2) (.cond (fun h=>by cases h) fun _=> .eq rfl (.eq ar (.eq rfl ?_)))
 show bm (Option.bind (pG hp (n:Int) v (some t) _ _) _) _
 refine bm.bind (P:=fun e:Ref ⊕ (Ref × Ref)=>e.elim (fun s=>s=dv hp c.cV (ez v n)) (fun q=>q.2=dv hp c.cV (ez v n))) (Lz ar hb v aP (fun i s=>s=dv hp c.cV (ez v i)) o2.symm (fun i s au hs=> ?_) (fun s hs=>hs)) fun e he=> ?_
 ·refine .cond (fun h=> .ret ?_) fun h=> ?_
  ·rw [Option.isNone_iff_eq_none] at h
   have av:ez v n=ez v i ++ (ez v n).drop i:=by
    have:ez v i=(ez v n).take i:=by unfold ez; rw [← List.map_take,List.take_range]; congr 2; omega
    rw [this,List.take_append_drop]
   show(none:Ref)=_
   rw [av,nE,← hs,h,ib]
  ·cases s with
   | none=>simp at h
   | some p=>
     obtain⟨cd,aa⟩:=cr.reads _ _ hs.symm
     refine .eq rfl (.idx rfl (by cases b5 v (31 - i) <;> decide) (.eq aa (.ret ?_)))
     show bJ cd.er _=_
     rw [DC,nE,← hs,jS aa,o2]
 ·cases e with
  | inl s=>exact .ret he
  | inr q=>exact .ret he
theorem R7 {hp:a1 Cell} {t:Nat} {g:List Bool→Option Int} (h:ki hp t g) {n:Nat} (aP:n≤32) {v:al} (a2:∀ j,j < 128→b5 v j=true→lead 32 n j=true):
 uz hp (some t) v n=some (match g (ez v n) with | none=>(0,false) | some id=>(id,true)):=by
 obtain⟨c,ar,hb,cr,bx⟩:=h.ok
 refine bm.get ?_
 unfold uz
 refine .eq (Js ar hb cr aP a2) ?_
 rw [← bx]
 cases e:dv hp c.cV (ez v n) with
 | none=>
   rw [nb e]
   refine .cC (P:=fun _=>True) (fun h=>by cases h) fun o _=> .cC (P:=fun _=>True) (fun h=>by cases h) fun o _=> .cond (fun _=> .ret rfl) fun h=>by cases h
 | some p=>
   obtain⟨d,hd⟩:=cr.reads _ _ e
   rw [mA e hd]
   refine .cC (P:=fun r=>r=p) (fun _=>⟨p,rfl,rfl⟩) fun o aa=> ?_
   rw [aa rfl]
   refine .cC (P:=fun r=>r=d) (fun _=>⟨d,hd,rfl⟩) fun cd ae=> ?_
   rw [ae rfl]
   refine .cond (fun h=> ?_) fun h=> ?_
   ·have:d.eV=false:=by simpa using h
    rw [this]; exact .ret rfl
   ·have:d.eV=true:=by simpa using h
    rw [this]; exact .eq rfl (.eq hd (.ret rfl))
end Go.Proofs.YtmnggbjcnoffeaaGreat
namespace Go.Proofs.YtmnggbjcnoffeaaGreat
open Go Gv
set_option linter.unusedVariables false
set_option linter.unusedSimpArgs false
set_option maxRecDepth 100000
structure Cg (lK hp:a1 Cell) (t:Nat) (g:List Bool→Option Int) (r:Nat):Prop where
 cell:∃ c,gd hp t=some c∧c.ey=32∧c.cV=some r
 tree:o5 hp (some r)
 cont:∀ bz,cont hp (some r) bz=g bz
 keeps:gw lK hp (Own lK t)
 own:∀ bz q,dv hp (some r) bz=some q→Own lK t q∨q ∉ ee lK
theorem xL {hp:a1 Cell} {a t:Nat} {k:Cell} (bn:a ∉ ee hp) (h:pat hp t=some k):a≠t:=fun e=>bn (e ▸ kT h)
theorem Jt {hp:a1 Cell} {a:Nat} {x:ep} :de ((a,.gS x) :: hp) a=some x:=by rw [pL,q2,if_pos rfl]
theorem PM {hp:a1 Cell} {a:Nat} (bn:a ∉ ee hp):de hp a=none:=by unfold de; rw [QH bn]
theorem D3 {hp:a1 Cell} {p:Nat} {k:Cell} {x:ep} (h:pat hp p=some k):de (dH hp p (.gS x)) p=some x:=by rw [pL,vi h]
theorem sn {hp:a1 Cell} {p q:Nat} {k:Cell} (h:p≠q):de (dH hp p k) q=de hp q:=xD (qY h)
theorem Im {hp:a1 Cell} {a q:Nat} {k:Cell} (h:a≠q):de ((a,k) :: hp) q=de hp q:=xD (by rw [q2,if_neg h])
theorem QO {hp:a1 Cell} {p:Nat} {k:Cell} {x:fM} (h:pat hp p=some k):gd (dH hp p (.jB x)) p=some x:=by rw [qZ,vi h]
theorem Dz {hp:a1 Cell} {p q:Nat} {k:Cell} (h:p≠q):gd (dH hp p k) q=gd hp q:=Dx (qY h)
theorem Io {hp:a1 Cell} {a q:Nat} {k:Cell} (h:a≠q):gd ((a,k) :: hp) q=gd hp q:=Dx (by rw [q2,if_neg h])
theorem LA {hp:a1 Cell} {p t:Nat} {x:ep} {c:fM} (aa:de hp p=some x) (ae:gd hp t=some c):p≠t:=fun e=>by
 subst e
 rw [pL] at aa; rw [qZ,aa] at ae; cases ae
theorem R8 {hp:a1 Cell} {t:Nat} {g:List Bool→Option Int} {c:fM} (ar:gd hp t=some c) (hb:c.ey=32) (cr:o5 hp c.cV) (bx:∀ bz,cont hp c.cV bz=g bz):
 dU (cond c.cV.isNone (
     aC.bind (aC.mk hp (Cell.gS (default:ep))) fun ef=>
     aC.bind (aC.of (gd ef.2 t)) fun z7=>
     aC.bind (aC.of (some (dH ef.2 t (Cell.jB ({ z7 with cV:=(some ef.1:Ref) } :fM))))) fun zt=>
     aC.ret zt) (aC.ret hp)) (fun dF=> ∃ r,Cg hp dF t g r):=by
 have j6:=qZ.1 ar
 refine .cond (fun h=> .mk fun a bn=> ?_) fun h=> ?_
 ·have aU:c.cV=none:=by rw [Option.isNone_iff_eq_none] at h; exact h
  have MP:=xL bn j6
  have Cq:gd ((a,Cell.gS default) :: hp) t=some c:=by rw [Io MP]; exact ar
  refine .eq Cq (.eq rfl (.ret ⟨a,?_⟩))
  have aP:de (dH ((a,Cell.gS default) :: hp) t (.jB { c with cV:=some a })) a=some default:=by
   rw [sn MP.symm,Jt]
  have ba:=I0 aP
  refine⟨⟨_,QO (qZ.1 Cq),hb,rfl⟩,⟨fun bz p aa=> ?_,fun bz cs p aa ae=> ?_⟩,fun bz=> ?_,?_,fun bz q aa=> ?_⟩
  ·rw [ba] at aa
   split at aa
   ·cases aa; exact⟨_,aP⟩
   ·cases aa
  ·rw [ba] at aa ae
   split at aa <;> split at ae
   ·rename_i av aX; rw [av,aX]
   ·cases ae
   ·cases aa
   ·cases aa
  ·rw [← bx,aU,nb ib]
   by_cases e:bz= []
   ·rw [mA (by rw [ba,if_pos e]) aP]; rfl
   ·rw [nb (by rw [ba,if_neg e])]
  ·exact(gw.mk' bn).trans (own':=fun q=>q=t) (gw.up (own:=fun q=>q=t) rfl) fun q _ aa=> .inl aa
  ·rw [ba] at aa
   split at aa
   ·cases aa; exact .inr bn
   ·cases aa
 ·cases aU:c.cV with
  | none=>rw [aU] at h; cases h
  | some r=>
    rw [aU] at cr bx
    exact .ret ⟨r,⟨c,ar,hb,aU⟩,cr,bx,.refl,fun bz q aa=> .inl (.inr ⟨c,bz,ar,by rw [aU]; exact aa⟩)⟩
theorem TM {hp:a1 Cell} {t:Nat} {g:List Bool→Option Int} (h:ki hp t g) {n:Nat} (aP:n≤32) {v:al} (a2:∀ j,j < 128→b5 v j=true→lead 32 n j=true) (id:Int) (gM:g (ez v n)=none):
 dU (uA hp (some t) v n id) (fun r=>r.1=true∧ki r.2 t (fun bz=>if bz=ez v n then some id else g bz)∧gw hp r.2 (Own hp t)∧ ∀ q,Own r.2 t q→Own hp t q∨q ∉ ee hp):=by
 obtain⟨c,ar,hb,cr,bx⟩:=h.ok
 unfold uA
 refine .eq (I4 ar hb aP a2) (.cond (fun h=>by cases h) fun _=> .eq (Js ar hb cr aP a2) ?_)
 refine .cC (P:=fun o=>dv hp c.cV (ez v n)=some o) (fun aa=> ?_) fun cW aa=> ?_
 ·cases e:dv hp c.cV (ez v n) with
  | none=>rw [e] at aa; cases aa
  | some p=>exact⟨p,rfl,rfl⟩
 refine .cC (P:=fun d=>de hp cW=some d) (fun ae=> ?_) fun cd ae=> ?_
 ·obtain⟨d,hd⟩:=cr.reads _ _ (aa ae)
  exact⟨d,hd,hd⟩
 refine .cond (fun aD=> ?_) fun _=> ?_
 ·simp only [Bool.and_eq_true] at aD
  rw [← bx,mA (aa aD.1) (ae aD.1),aD.2] at gM
  cases gM
 refine .eq rfl (.eq ar (.bind (R8 ar hb cr bx) fun bB cz=> ?_))
 obtain⟨r,cz⟩:=cz
 obtain⟨e2,l9,Xp,Wm⟩:=cz.cell
 refine .eq l9 (.eq rfl ?_)
 show dU (aC.bind (r8 (n:Int) v (some t) _ _ _) _) _
 refine .bind (P:=fun e:(Ref × a1 Cell) ⊕ Empty=> ∃ p eJ,e= .inl (some p,eJ)∧dv eJ (some r) (ez v n)=some p∧Cg hp eJ t g r) (TL v aP (fun i s=> ∃ p,s.1=some p∧dv s.2 (some r) (ez v i)=some p∧Cg hp s.2 t g r) ⟨r,Wm,o2,cz⟩ (fun i s au=> ?_) (fun i s au hs=> ?_) (fun s hs=> ?_)) fun e he=> ?_
 ·obtain⟨p,_,_,hm⟩:=au
  obtain⟨d,aZ,a6,_⟩:=hm.cell
  exact⟨d,aZ,a6⟩
 ·obtain⟨Wn,eJ⟩:=s
  obtain⟨p,av,aX,hm⟩:=hs
  simp only at av aX hm
  subst av
  obtain⟨d,hd⟩:=hm.tree.reads _ _ aX
  have cl:hH (b5 v (31 - i)) < 2:=by cases b5 v (31 - i) <;> decide
  refine .eq rfl (.idx rfl cl (.eq hd ?_))
  refine .bind (P:=fun h7=> ∃ q Hj,de h7 p=some Hj∧bJ Hj.er (hH (b5 v (31 - i)))=some q∧dv h7 (some r) (ez v i)=some p∧Cg hp h7 t g r) (.cond (fun bl=> .mk fun a bn=> ?_) fun bl=> .ret ?_) fun h7 cZ=> ?_
  ·have wg:bJ d.er (hH (b5 v (31 - i)))=none:=by rw [Option.isNone_iff_eq_none] at bl; exact bl
   have MQ:=xL bn (pL.1 hd)
   have jH:de ((a,Cell.gS default) :: eJ) p=some d:=by rw [Im MQ]; exact hd
   refine .idx rfl cl (.eq jH (.eq rfl (.ret ?_)))
   have fU:de (dH ((a,Cell.gS default) :: eJ) p (.gS { d with er:=c2 d.er (hH (b5 v (31 - i))) (some a) })) a=some default:=by
    rw [sn MQ.symm,Jt]
   have dB:de (dH ((a,Cell.gS default) :: eJ) p (.gS { d with er:=c2 d.er (hH (b5 v (31 - i))) (some a) })) p=some { d with er:=c2 d.er (hH (b5 v (31 - i))) (some a) } :=D3 (pL.1 jH)
   obtain⟨aw,a5,bA⟩:=grow hm.tree aX hd wg (PM bn) dB fU fun q oN pt=>by rw [sn oN.symm,Im pt.symm]
   have zp:Own hp t p∨p ∉ ee hp:=hm.own _ _ aX
   refine⟨a,_,dB,by rw [hB _ _ cl,if_pos rfl],by rw [a5,if_neg (fun e=>by have:=congrArg List.length e; simp at this)]; exact aX,?_,aw,fun bz=>by rw [bA,hm.cont],?_,fun bz q hq=> ?_⟩
   ·obtain⟨d4,aZ,a6,eN⟩:=hm.cell
    have j6:=LA hd aZ
    exact⟨d4,by rw [Dz j6,Io (xL bn (qZ.1 aZ))]; exact aZ,a6,eN⟩
   ·refine hm.keeps.trans (own':=fun q=>q=p) ((gw.mk' bn).trans (own':=fun q=>q=p) (gw.up (own:=fun q=>q=p) rfl) fun q _ gl=>gl) fun q hq gl=> ?_
    subst gl
    exact zp.resolve_right fun kt=>kt hq
   ·rw [a5] at hq
    split at hq
    ·cases hq; exact .inr fun gl=>bn (hm.keeps.keys _ gl)
    ·exact hm.own _ _ hq
  ·cases wg:bJ d.er (hH (b5 v (31 - i))) with
   | none=>rw [wg] at bl; cases bl
   | some q=>exact⟨q,d,hd,wg,aX,hm⟩
  ·obtain⟨q,Hj,eN,gl,kt,py⟩:=cZ
   refine .idx rfl cl (.eq eN (.ret ⟨q,gl,?_,py⟩))
   show dv h7 (some r) (ez v (i + 1))=some q
   rw [DC,nE,kt,jS eN,gl,o2]
 ·obtain⟨Wn,eJ⟩:=s
  obtain⟨p,av,aX,hm⟩:=hs
  simp only at av aX hm
  subst av
  exact⟨p,eJ,rfl,aX,hm⟩
 ·obtain⟨p,eJ,rfl,aX,hm⟩:=he
  obtain⟨d,hd⟩:=hm.tree.reads _ _ aX
  have Wo:=pL.1 hd
  refine .eq rfl (.eq hd (.eq rfl (.eq rfl ?_)))
  have jH:de (dH eJ p (.gS { d with eV:=true })) p=some { d with eV:=true } :=D3 Wo
  refine .eq jH (.eq rfl (.ret ?_))
  have qm:de (dH (dH eJ p (.gS { d with eV:=true })) p (.gS { d with eV:=true,jC:=id })) p=some { d with eV:=true,jC:=id } :=D3 (pL.1 jH)
  obtain⟨s1,s2⟩:=Vb hm.tree aX hd qm rfl fun q hq=>by rw [sn hq.symm,sn hq.symm]
  obtain⟨d4,aZ,a6,eN⟩:=hm.cell
  have j6:=LA hd aZ
  have CJ:gd (dH (dH eJ p (.gS { d with eV:=true })) p (.gS { d with eV:=true,jC:=id })) t=some d4:=by rw [Dz j6,Dz j6]; exact aZ
  have zp:Own hp t p∨p ∉ ee hp:=hm.own _ _ aX
  refine⟨rfl,⟨d4,CJ,a6,by rw [eN]; exact s1,fun bz=> ?_⟩,?_,fun q hq=> ?_⟩
  ·rw [eN,s2,hm.cont]; rfl
  ·refine hm.keeps.trans (own':=fun q=>q=p) ((gw.up (own:=fun q=>q=p) rfl).trans (own':=fun q=>q=p) (gw.up (own:=fun q=>q=p) rfl) fun q _ gl=>gl) fun q hq gl=> ?_
   subst gl
   exact zp.resolve_right fun kt=>kt hq
  ·rcases hq with rfl | ⟨jr,bz,aa,ae⟩
   ·exact .inl (.inl rfl)
   ·rw [CJ] at aa; cases aa
    rw [eN,Bg hd qm rfl (fun q hq=>by rw [sn hq.symm,sn hq.symm])] at ae
    exact hm.own _ _ ae
end Go.Proofs.YtmnggbjcnoffeaaGreat
namespace Go.Proofs.YtmnggbjcnoffeaaGreat
open Go Gv
set_option linter.unusedVariables false
set_option linter.unusedSimpArgs false
set_option maxRecDepth 100000
theorem le_toNat {x:BitVec 64} {k:Nat} (ax:k < 2 ^ 64):decide (x≥BitVec.ofNat 64 k)=decide (k≤x.toNat):=by
 rw [decide_eq_decide,ge_iff_le,BitVec.le_def,BitVec.toNat_ofNat,Nat.mod_eq_of_lt ax]
theorem Qo (x:BitVec 64) (h:x.toNat < 2 ^ 32):bm (um x) (fun r=>r≤32):=by
 unfold um
 refine .bind (P:=fun m=>m=(x,0)) (.cond (fun ar=> ?_) fun _=> .ret rfl) fun bB aa=> ?_
 ·rw [le_toNat (by decide)] at ar; simp at ar; omega
 subst aa
 refine .bind (P:=fun m=>m.1.toNat < 65536∧0≤m.2∧m.2≤16) (.cond (fun ar=> .ret ⟨?_,?_⟩) fun ar=> .ret ⟨?_,Int.le_refl 0,by show(0:Int)≤16; decide⟩) fun cu ae=> ?_
 ·rw [BitVec.toNat_ushiftRight,show(16#64).toNat=16 from rfl,Nat.shiftRight_eq_div_pow]; simp only; omega
 ·rw [show bw ((0:Int) + 16)=16 from by rw [hD (by decide) (by decide)]; rfl]; exact⟨by show(0:Int)≤16; decide,Int.le_refl 16⟩
 ·rw [le_toNat (by decide)] at ar; simp at ar; exact ar
 refine .bind (P:=fun m=>m.1.toNat < 256∧0≤m.2∧m.2≤24) (.cond (fun ar=> .ret ⟨?_,?_⟩) fun ar=> .ret ⟨?_,ae.2.1,by have:=ae.2.2; simp only; omega⟩) fun eL aD=> ?_
 ·rw [BitVec.toNat_ushiftRight,show(8#64).toNat=8 from rfl,Nat.shiftRight_eq_div_pow]; have:=ae.1; omega
 ·have:=ae.2; rw [hD (by omega) (by omega)]; constructor <;> omega
 ·rw [le_toNat (by decide)] at ar; simp at ar; exact ar
 obtain⟨aD,aZ,a6⟩:=aD
 have key:∀ k:Fin 256,∃ y,zh (ByteArray.mk (List.toArray (List.append (List.append [0,1,2,2,3,3,3,3,4,4,4,4,4,4,4,4,5,5,5,5,5,5,5,5,5,5,5,5,5,5,5,5,6,6,6,6,6,6,6,6,6,6,6,6,6,6,6,6,6,6,6,6,6,6,6,6,6,6,6,6,6,6,6,6] [7,7,7,7,7,7,7,7,7,7,7,7,7,7,7,7,7,7,7,7,7,7,7,7,7,7,7,7,7,7,7,7,7,7,7,7,7,7,7,7,7,7,7,7,7,7,7,7,7,7,7,7,7,7,7,7,7,7,7,7,7,7,7,7]) (List.append [8,8,8,8,8,8,8,8,8,8,8,8,8,8,8,8,8,8,8,8,8,8,8,8,8,8,8,8,8,8,8,8,8,8,8,8,8,8,8,8,8,8,8,8,8,8,8,8,8,8,8,8,8,8,8,8,8,8,8,8,8,8,8,8] [8,8,8,8,8,8,8,8,8,8,8,8,8,8,8,8,8,8,8,8,8,8,8,8,8,8,8,8,8,8,8,8,8,8,8,8,8,8,8,8,8,8,8,8,8,8,8,8,8,8,8,8,8,8,8,8,8,8,8,8,8,8,8,8])))) ((k.1:Nat):Int)=some y∧y.toNat≤8:=by
  intro k
  have aa:(match zh (ByteArray.mk (List.toArray (List.append (List.append [0,1,2,2,3,3,3,3,4,4,4,4,4,4,4,4,5,5,5,5,5,5,5,5,5,5,5,5,5,5,5,5,6,6,6,6,6,6,6,6,6,6,6,6,6,6,6,6,6,6,6,6,6,6,6,6,6,6,6,6,6,6,6,6] [7,7,7,7,7,7,7,7,7,7,7,7,7,7,7,7,7,7,7,7,7,7,7,7,7,7,7,7,7,7,7,7,7,7,7,7,7,7,7,7,7,7,7,7,7,7,7,7,7,7,7,7,7,7,7,7,7,7,7,7,7,7,7,7]) (List.append [8,8,8,8,8,8,8,8,8,8,8,8,8,8,8,8,8,8,8,8,8,8,8,8,8,8,8,8,8,8,8,8,8,8,8,8,8,8,8,8,8,8,8,8,8,8,8,8,8,8,8,8,8,8,8,8,8,8,8,8,8,8,8,8] [8,8,8,8,8,8,8,8,8,8,8,8,8,8,8,8,8,8,8,8,8,8,8,8,8,8,8,8,8,8,8,8,8,8,8,8,8,8,8,8,8,8,8,8,8,8,8,8,8,8,8,8,8,8,8,8,8,8,8,8,8,8,8,8])))) ((k.1:Nat):Int) with | some y=>decide (y.toNat≤8) | none=>false)=true:=by
   revert k; decide +kernel
  split at aa
  ·rename_i y e; exact⟨y,e,by simpa using aa⟩
  ·cases aa
 obtain⟨y,av,aX⟩:=key ⟨(eL.1.setWidth 8).toNat,(eL.1.setWidth 8).isLt⟩
 refine .eq av (.ret ?_)
 rw [hD (by omega) (by omega)]; omega
def Small (v:al):Prop:= ∀ j,j < 128→b5 v j=true→j < 32
theorem RB {v:al} (h:Small v):xx v 32=some true:=by
 refine bm.get ?_
 have ed:v.dt=0#64:=by
  apply BitVec.eq_of_getLsbD_eq
  intro i au
  have aa:=h (64 + i) (by omega)
  unfold b5 at aa
  rw [if_neg (by omega),show 64 + i - 64=i by omega] at aa
  rw [BitVec.getLsbD_zero]
  cases e:v.dt.getLsbD i with
  | false=>rfl
  | true=>have:=aa e; omega
 have hv:v.bS.toNat < 2 ^ 32:=by
  refine Nat.lt_pow_two_of_testBit _ fun i au=> ?_
  cases e:v.bS.toNat.testBit i with
  | false=>rfl
  | true=>
    have cl:i < 64:=by
     rcases Nat.lt_or_ge i 64 with aa | aa
     ·exact aa
     ·rw [Nat.testBit_lt_two_pow (Nat.lt_of_lt_of_le v.bS.isLt (Nat.pow_le_pow_right (by decide) aa))] at e; cases e
    have:=h i (by omega) (by unfold b5; rw [if_pos cl,BitVec.getLsbD,e])
    omega
 unfold xx A4
 rw [ed]
 refine .bind (P:=fun r=>r≤32) (.cond (fun ar=>by simp at ar) fun _=>(Qo _ hv).bind fun y a9=> .ret a9) fun y a9=> .ret ?_
 rw [decide_eq_true a9]
def iw (g:List Bool→Option Int) (v:al):Nat→Option (Nat × Int)
 | 0=>(g []).map fun id=>(0,id)
 | k + 1=>match g (ez v (k + 1)) with
   | some id=>some (k + 1,id)
   | none=>iw g v k
def enc:Option (Nat × Int)→Int × Int × Bool
 | none=>(0,0,false)
 | some (n,id)=>((n:Int),id,true)
theorem Ju {hp:a1 Cell} {root:Ref} (cr:o5 hp root) (bz:List Bool) (d:Nat) (o:Option (Nat × Int)):
 r6 hp (dv hp root bz) d (enc o).1 (enc o).2.1 (enc o).2.2=some (enc (match cont hp root bz with | some id=>some (d,id) | none=>o)):=by
 refine bm.get ?_
 unfold r6
 cases e:dv hp root bz with
 | none=>
   rw [nb e]
   refine .cC (P:=fun _=>True) (fun h=>by cases h) fun o _=> .cC (P:=fun _=>True) (fun h=>by cases h) fun o _=> .eq rfl (.ret rfl)
 | some p=>
   obtain⟨c,ar⟩:=cr.reads _ _ e
   rw [mA e ar]
   refine .cC (P:=fun r=>r=p) (fun _=>⟨p,rfl,rfl⟩) fun cW aa=> ?_
   rw [aa rfl]
   refine .cC (P:=fun r=>r=c) (fun _=>⟨c,ar,rfl⟩) fun cd ae=> ?_
   rw [ae rfl]
   cases hu:c.eV with
   | true=>exact .eq (a:=((d:Int),c.jC,true)) (by simp [ar]) (.ret rfl)
   | false=>exact .eq rfl (.ret rfl)
theorem PN {hp:a1 Cell} {t:Nat} {g:List Bool→Option Int} (h:ki hp t g) {v:al} (a2:Small v):w0 hp (some t) v=some (enc (iw g v 32)):=by
 obtain⟨c,ar,hb,cr,bx⟩:=h.ok
 refine bm.get ?_
 unfold w0
 refine .cC (P:=fun r=>r=t) (fun _=>⟨t,rfl,rfl⟩) fun cW aa=> ?_
 rw [aa rfl]
 refine .cC (P:=fun r=>r=c) (fun _=>⟨c,ar,rfl⟩) fun cd ae=> ?_
 rw [ae rfl,hb]
 refine .cC (P:=fun r=>r=true) (fun _=>⟨true,RB a2,rfl⟩) fun ak aD=> ?_
 rw [aD rfl]
 refine .cond (fun ar=>by cases ar) fun _=> .eq rfl (.eq ar ?_)
 have v0:r6 hp c.cV 0 0 0 false=some (enc (iw g v 0)):=by
  have:=Ju cr [] 0 none
  rw [o2,bx] at this
  refine this.trans ?_
  unfold iw
  cases g [] <;> rfl
 rw [hb]
 refine .eq v0 (.eq rfl ?_)
 show bm (Option.bind (pG hp ((32:Nat):Int) v (some t) _ _) _) _
 refine bm.bind (P:=fun e:(Ref × Int × Int × Int × Bool) ⊕ (Ref × Int × Int × Int × Bool)=>e.elim (fun s=>s.2.2=enc (iw g v 32)) (fun q=>q.2.2=enc (iw g v 32)))
  (Lz ar hb v (Nat.le_refl 32) (fun i s=>s=(dv hp c.cV (ez v i),(i:Int),enc (iw g v i))) (by rw [DD,o2]; rfl) (fun i s au hs=> ?_) (fun s hs=>by rw [hs]; rfl)) fun e he=> ?_
 ·subst hs
  refine .cond (fun h=> .ret ?_) fun h=> ?_
  ·have aP:dv hp c.cV (ez v i)=none:=by
    simp only [Option.isNone_iff_eq_none] at h; exact h
   have key:∀ k,iw g v (i + k)=iw g v i:=fun k=>by
    induction k with
    | zero=>rfl
    | succ k b0=>
      have av:ez v (i + k + 1)=ez v i ++ (ez v (i + k + 1)).drop i:=by
       have:ez v i=(ez v (i + k + 1)).take i:=by unfold ez; rw [← List.map_take,List.take_range]; congr 2; omega
       rw [this,List.take_append_drop]
      have:g (ez v (i + k + 1))=none:=by
       rw [← bx,nb]
       rw [av,nE,aP,ib]
      show(match g (ez v (i + k + 1)) with | some id=>some (i + k + 1,id) | none=>iw g v (i + k))=_
      rw [this]; exact b0
   show enc (iw g v i)=enc (iw g v 32)
   have:=key (32 - i)
   rw [show i + (32 - i)=32 by omega] at this
   rw [this]
  ·cases e:dv hp c.cV (ez v i) with
   | none=>simp [e] at h
   | some p=>
     obtain⟨d,hd⟩:=cr.reads _ _ e
     refine .eq rfl (.idx rfl (by cases b5 v (31 - i) <;> decide) (.eq hd ?_))
     have wg:bJ d.er (hH (b5 v (31 - i)))=dv hp c.cV (ez v (i + 1)):=by rw [DC,nE,e,jS hd,o2]
     have hw:bw ((i:Int) + 1)=((i + 1:Nat):Int):=eU (by omega)
     simp only [wg,hw]
     refine .eq (Ju cr (ez v (i + 1)) (i + 1) (iw g v i)) (.ret ?_)
     rw [bx]
     rfl
 ·cases e with
  | inl s=>exact .ret he
  | inr q=>exact .ret he
end Go.Proofs.YtmnggbjcnoffeaaGreat
namespace Go.Proofs.YtmnggbjcnoffeaaGreat
open Go Gv
set_option linter.unusedVariables false
set_option linter.unusedSimpArgs false
set_option maxRecDepth 100000
theorem c0.CK {s:aY} (h:c0 s):∃ ei fA hi,∀ k,k < 4→mK (aF s.bQ k)=aF (qg ei fA hi) k:=by
 obtain⟨ei,fA,hi,e⟩:=h.tables
 refine⟨ei,fA,hi,fun k ax=> ?_⟩
 rw [← e,uW mK (by rw [h.jZ]; exact ax)]
theorem ss (t:bN) {r:Int × Int} (aN:List cB) (ax:t.bX=aN) (h:uC { (default:bN) with bX:=aN } =some r):uC t=some r:=by
 subst ax
 exact h
def jO (k:Nat):Int:=aF [1,2,3,3] k
theorem Qp {s:aY} (h:c0 s) {k:Nat} (ax:k < 4):bm (uC (aF s.bQ k)) (fun r=>r.1=jO k∧ (k=1→r.2=0)):=by
 obtain⟨ei,fA,hi,e⟩:=h.CK
 have e:=e k ax
 have gG:(aF s.bQ k).bX=(aF (qg ei fA hi) k).2.2:=congrArg (·.2.2) e
 have:k=0∨k=1∨k=2∨k=3:=by omega
 rcases this with rfl | rfl | rfl | rfl
 ·exact⟨_,ss _ [n1] gG rfl,rfl,fun h=>by simp at h⟩
 ·cases ei
  ·exact⟨_,ss _ [tV] gG rfl,rfl,fun _=>rfl⟩
  ·exact⟨_,ss _ [tV,CX] gG rfl,rfl,fun _=>rfl⟩
 ·cases fA
  ·exact⟨_,ss _ [Ak,z0] gG rfl,rfl,fun h=>by simp at h⟩
  ·exact⟨_,ss _ [Ak,z0,Hg] gG rfl,rfl,fun h=>by simp at h⟩
 ·cases hi
  ·exact⟨_,ss _ [Al] gG rfl,rfl,fun h=>by simp at h⟩
  ·exact⟨_,ss _ [Al,Hh,tV] gG rfl,rfl,fun h=>by simp at h⟩
theorem Pq {s:aY} (h:c0 s) {x:Int} (aq:x < 1∨4 < x):bm (qS s x) (fun r=>r= -1):=by
 unfold qS
 have an:=h.jZ
 refine(Hz (g:=fun t=>t.bG ==x) (fun _ _=>rfl) (by omega)).bind fun r aU=> .ret ?_
 rcases aU with⟨aa,_⟩ | ⟨i,aa,ae,aD,aZ⟩
 ·exact aa
 ·have au:i < 4:=by omega
  have:=(h.ik au).1
  simp only [beq_iff_eq] at aD
  omega
structure tf (s:aY) (k:Nat) (lK hp:a1 Cell) (p:Nat):Prop where
 cell:∃ c m,h2 hp p=some c∧c.oa=jO k∧c.nH=((aF s.bQ k).bX.length:Int)∧c.ll=⟨some m⟩∧mH hp m=some []∧
  (k=0→ ∃ q cu,c.iM= .lX ⟨some q⟩∧nk hp q=some ⟨⟨some cu⟩⟩∧lU hp cu=some []∧q ∉ ee lK∧cu ∉ ee lK)∧
  (k=1→ ∃ eL,c.iM= .lY ⟨0,32,⟨some eL⟩⟩∧jz hp eL=some []∧eL ∉ ee lK)∧
  (2≤k→ ∃ q key cap,c.iM= .lZ ⟨some q⟩∧nm hp q=some (({ m8:=s,cb:= [] } :cF),key,cap)∧q ∉ ee lK)∧
  p ∉ ee lK∧m ∉ ee lK∧ (∀ q,q∈ee lK→q∈ee hp)∧ ∀ q,q∈ee lK→pat hp q=pat lK q
theorem yW {s:aY} (h:c0 s) {k:Nat} (ax:k < 4) (hp:a1 Cell):dU (m5 hp s ((k:Int) + 1)) (fun r=> ∃ p,r.1=some p∧tf s k hp r.2 p):=by
 unfold m5
 refine .lJ (Ij h ax) fun ak av=> ?_
 subst av
 refine .cond (fun ar=>by simp at ar; omega) fun _=> ?_
 refine .idx rfl (by rw [h.jZ]; exact ax) (.lJ (Qp h ax) fun aO ae=> .mk fun m hm=> .eq rfl (.mk fun p dF=> ?_))
 obtain⟨WQ,key⟩:=aO
 obtain⟨ae,aD⟩:=ae
 simp only at ae aD dF
 subst ae
 have mU:p≠m:=fun e=>by subst e; simp [ee] at dF
 have:k=0∨k=1∨2≤k:=by omega
 rcases this with rfl | rfl | cN
 ·have e:(jO 0 ==1)=true:=rfl
  simp only [e,cond_true]
  unfold A2
  refine .bind (P:=fun eJ=>tf s 0 hp eJ p) (.bind (P:=fun r=> ∃ q cu,r=((some q:Ref),(q,Cell.vD ⟨⟨some cu⟩⟩) :: (cu,Cell.oo []) :: (p,_) :: (m,Cell.lz []) :: hp)∧cu ∉ ee ((p,_) :: (m,Cell.lz []) :: hp)∧q ∉ ee ((cu,Cell.oo []) :: (p,_) :: (m,Cell.lz []) :: hp)) (.mk fun cu du=> .mk fun q hq=> .ret ⟨q,cu,rfl,du,hq⟩) fun bc aZ=> ?_) fun eJ a6=> .ret ⟨p,rfl,a6⟩
  obtain⟨q,cu,rfl,du,hq⟩:=aZ
  simp only [ee,List.map_cons,List.mem_cons,not_or] at du hq dF
  refine .eq (by simp [h2,pat,hq.1,hq.2,du.1,hq.2.2.1,Ne.symm]; rfl) (.eq rfl (.ret ?_))
  refine⟨{ oa:=jO 0,nH:=((aF s.bQ 0).bX.length:Int),iM:= .lX ⟨some q⟩,ll:=⟨some m⟩ },m,?_,rfl,rfl,rfl,?_,?_,fun ar=>by simp at ar,fun ar=>by simp at ar,dF.2,hm,fun x aq=>by rw [sA]; exact List.mem_cons_of_mem _ (List.mem_cons_of_mem _ (List.mem_cons_of_mem _ (List.mem_cons_of_mem _ aq))),fun x aq=> ?_⟩
  ·simp [h2,pat,dH,hq.1,hq.2,du.1,hq.2.2.1]
  ·simp [mH,pat,dH,hq.1,hq.2,du.1,hq.2.2.1,du.2.1,dF.1]
  ·intro _
   refine⟨q,cu,rfl,?_,?_,hq.2.2.2,du.2.2⟩
   ·simp [nk,pat,dH,hq.1,hq.2,du.1,hq.2.2.1,du.2.1,dF.1]
   ·simp [lU,pat,dH,hq.1,hq.2,du.1,hq.2.2.1,du.2.1,dF.1]
  ·have tX:q≠x:=fun e=>hq.2.2.2 (by rw [e]; exact aq)
   have Hk:cu≠x:=fun e=>du.2.2 (by rw [e]; exact aq)
   have Ao:p≠x:=fun e=>dF.2 (by rw [e]; exact aq)
   have Ap:m≠x:=fun e=>hm (by rw [e]; exact aq)
   simp [x0,pat,tX,Hk,Ao,Ap]
 ·have e:(jO 1 ==1)=false:=rfl
  have aX:(jO 1 ==2)=true:=rfl
  simp only [e,aX,cond_true,cond_false]
  have aD:=aD rfl
  subst aD
  obtain⟨t1,⟨t2,t3⟩,t4,_⟩:=h.ik ax
  have ba:(aF (aF s.bQ 1).bX 0).gb=((6:Nat):Int) + 1:=by
   obtain⟨ei,fA,hi,e⟩:=h.CK
   have e:=congrArg (·.2.2) (e 1 ax)
   show(aF (mK (aF s.bQ 1)).2.2 0).gb=_
   rw [e]
   cases ei <;> rfl
  refine .bind (P:=fun eJ=>tf s 1 hp eJ p) (.bind (P:=fun eJ=>tf s 1 hp eJ p) ?_ fun _ bl=> .ret bl) fun eJ a6=> .ret ⟨p,rfl,a6⟩
  refine .idx (k:=0) rfl (by omega) ?_
  simp only [ba]
  refine .lJ (Ik h (show 6 < 9 by decide)) fun br gz=> ?_
  subst gz
  refine .lJ (P:=fun r=>r=32) (.cond (fun _=> .idx rfl (by rw [h.pk]; decide) (.ret (h.qy (show 6 < 9 by decide)).2)) (fun ar=>by simp at ar)) fun b hb=> ?_
  subst hb
  refine .mk fun eL fX=> ?_
  simp only [ee,List.map_cons,List.mem_cons,not_or] at fX dF
  refine .eq rfl (.eq (by simp [h2,pat,fX.1]; rfl) (.eq rfl (.ret ?_)))
  refine⟨{ oa:=jO 1,nH:=((aF s.bQ 1).bX.length:Int),iM:= .lY ⟨0,32,⟨some eL⟩⟩,ll:=⟨some m⟩ },m,?_,rfl,rfl,rfl,?_,fun ar=>by simp at ar,?_,fun ar=>by simp at ar,dF.2,hm,fun x aq=>by rw [sA]; exact List.mem_cons_of_mem _ (List.mem_cons_of_mem _ (List.mem_cons_of_mem _ aq)),fun x aq=> ?_⟩
  ·simp [h2,pat,dH,fX.1]
  ·simp [mH,pat,dH,fX.1,fX.2.1,dF.1]
  ·intro _
   refine⟨eL,rfl,?_,fX.2.2⟩
   simp [jz,pat,dH,fX.1,fX.2.1,dF.1]
  ·have tX:eL≠x:=fun e=>fX.2.2 (by rw [e]; exact aq)
   have Ao:p≠x:=fun e=>dF.2 (by rw [e]; exact aq)
   have Ap:m≠x:=fun e=>hm (by rw [e]; exact aq)
   simp [x0,pat,tX,Ao,Ap]
 ·have e:(jO k ==1)=false:=by
   have:k=2∨k=3:=by omega
   rcases this with rfl | rfl <;> rfl
  have aX:(jO k ==2)=false:=by
   have:k=2∨k=3:=by omega
   rcases this with rfl | rfl <;> rfl
  simp only [e,aX,cond_true,cond_false]
  refine .bind (P:=fun eJ=>tf s k hp eJ p) (.bind (P:=fun eJ=>tf s k hp eJ p) ?_ fun _ bl=> .ret bl) fun eJ a6=> .ret ⟨p,rfl,a6⟩
  refine .eq rfl (.any fun e6=> .mk fun q hq=> ?_)
  simp only [ee,List.map_cons,List.mem_cons,not_or] at hq dF
  refine .eq (by simp [h2,pat,hq.1]; rfl) (.eq rfl (.ret ?_))
  refine⟨{ oa:=jO k,nH:=((aF s.bQ k).bX.length:Int),iM:= .lZ ⟨some q⟩,ll:=⟨some m⟩ },m,?_,rfl,rfl,rfl,?_,fun ar=>by omega,fun ar=>by omega,fun _=>⟨q,e6.1,e6.2,rfl,?_,hq.2.2⟩,dF.2,hm,fun x aq=>by rw [sA]; exact List.mem_cons_of_mem _ (List.mem_cons_of_mem _ (List.mem_cons_of_mem _ aq)),fun x aq=> ?_⟩
  ·simp [h2,pat,dH,hq.1]
  ·simp [mH,pat,dH,hq.1,hq.2.1,dF.1]
  ·simp [nm,pat,dH,hq.1]
  ·have tX:q≠x:=fun e=>hq.2.2 (by rw [e]; exact aq)
   have Ao:p≠x:=fun e=>dF.2 (by rw [e]; exact aq)
   have Ap:m≠x:=fun e=>hm (by rw [e]; exact aq)
   simp [x0,pat,tX,Ao,Ap]
theorem R9 {s:aY} (h:c0 s) {x:Int} (aq:x < 1∨4 < x) (hp:a1 Cell):dU (m5 hp s x) (fun r=>r.1=none):=by
 unfold m5
 refine .lJ (Pq h aq) fun ak av=> ?_
 subst av
 exact .cond (fun _=> .ret rfl) fun ar=>by simp at ar
theorem Bo {s:aY} {k:Nat} {lK hp:a1 Cell} {p:Nat} (h:tf s k lK hp p):qR hp (some p)=some (jO k):=by
 obtain⟨c,m,aa,ae,_⟩:=h.cell
 unfold qR
 simp [aa,ae]
theorem RC (hp:a1 Cell):dU (xv hp) (fun r=>r.1=true):=by
 unfold xv
 refine .lJ (Eo [] 0 (by decide) (by decide)) fun ak aa=> .lJ (IC _ aa) fun aO ae=> ?_
 obtain⟨ae,_⟩:=ae
 refine .bind (yW ae (k:=0) (by decide) _) fun bc aD=> ?_
 obtain⟨p,e,aD⟩:=aD
 rw [e]
 refine .eq (Bo aD) ?_
 have iH:(jO 0 ==1)=true:=rfl
 simp only [iH,decide_true,cond_true]
 refine .bind (yW ae (k:=1) (by decide) _) fun br aZ=> ?_
 obtain⟨cA,gz,aZ⟩:=aZ
 rw [gz]
 refine .eq (a:=jO 1) (by unfold cC; rw [if_pos rfl]; exact Bo aZ) ?_
 have av:(true && jO 1 ==2)=true:=rfl
 simp only [av,decide_true,cond_true]
 refine .bind (yW ae (k:=2) (by decide) _) fun cx a6=> ?_
 obtain⟨hW,hN,a6⟩:=a6
 rw [hN]
 refine .eq (a:=jO 2) (by unfold cC; rw [if_pos rfl]; exact Bo a6) ?_
 have aX:(true && jO 2 ==3)=true:=rfl
 simp only [aX,decide_true,cond_true]
 refine .bind (yW ae (k:=3) (by decide) _) fun dr bl=> ?_
 obtain⟨j8,jn,bl⟩:=bl
 rw [jn]
 refine .eq (a:=jO 3) (by unfold cC; rw [if_pos rfl]; exact Bo bl) ?_
 have dk:(true && jO 3 ==3)=true:=rfl
 simp only [dk,decide_true,cond_true]
 refine .bind (R9 ae (x:=9) (by decide) _) fun dC cZ=> ?_
 refine .eq rfl (.ret ?_)
 rw [cZ]; rfl
end Go.Proofs.YtmnggbjcnoffeaaGreat
namespace Go.Proofs.YtmnggbjcnoffeaaGreat
open Go Gv
set_option linter.unusedVariables false
set_option linter.unusedSimpArgs false
set_option maxRecDepth 100000
theorem Jv {α:Type} {b:α→α→Bool} (hb:rW b) {q:α→Bool} :∀ {l:List α} {c:α},l.Pairwise (fun x y=>b x y=true)→c∈l→q c=true→ (∀ d∈l,q d=true→d=c∨b c d=true)→l.find? q=some c
 | [],c,_,ar,_,_=>by cases ar
 | a :: l,c,hs,ar,hq,hd=>by
   obtain⟨aa,ae⟩:=List.pairwise_cons.1 hs
   by_cases rT:q a=true
   ·rw [List.find?_cons_of_pos rT]
    rcases hd a (by simp) rT with h | h
    ·rw [h]
    ·rcases List.mem_cons.1 ar with aD | aD
     ·rw [aD]
     ·have:=hb.asymm _ _ (aa c aD)
      rw [this] at h; cases h
   ·rw [List.find?_cons_of_neg rT]
    rcases List.mem_cons.1 ar with aD | aD
    ·rw [aD] at hq; exact absurd hq rT
    ·exact Jv hb ae aD hq fun d hd' Wp=>hd d (by simp [hd']) Wp
theorem Et {α:Type} {b:α→α→Bool} (hb:rW b) {q:α→Bool} {l:List α} {c:α} (h:ox b l) (ar:c∈l) (hq:q c=true) (hd:∀ d∈l,q d=true→d=c∨b c d=true):(ew b l).find? q=some c:=
 Jv hb (DR hb h) (od.2 ar) hq fun d hd'=>hd d (od.1 hd')
theorem JZ {α:Type} {b:α→α→Bool} {q:α→Bool} {l:List α} (hd:∀ d∈l,q d=false):(ew b l).find? q=none:=by
 rw [List.find?_eq_none]
 intro x aq
 rw [hd x (od.1 aq)]; simp
theorem kx.uniq {s:aY} {k:Nat} :∀ {l:List aJ},kx s k l→ ∀ {a c:aJ},a∈l→c∈l→a.cI=c.cI→a=c:=fun {l} h {a c} bn ar e=>by
 have aP:=h.num
 clear h
 induction l with
 | nil=>cases bn
 | cons x l b0=>
   obtain⟨aa,ae⟩:=List.pairwise_cons.1 aP
   rcases List.mem_cons.1 bn with aw | aw <;> rcases List.mem_cons.1 ar with a5 | a5
   ·rw [aw,a5]
   ·rw [aw] at e; exact absurd e (aa c a5)
   ·rw [a5] at e; exact absurd e.symm (aa a aw)
   ·exact b0 aw a5 ae
theorem c0.LB {s:aY} (h:c0 s):(aF s.bQ 0).bX= [n1]:=by
 obtain⟨ei,fA,hi,e⟩:=h.CK
 exact congrArg (·.2.2) (e 0 (by decide))
theorem c0.yX {s:aY} (h:c0 s):∃ b,(aF s.bQ 1).bX=lv b:=by
 obtain⟨ei,fA,hi,e⟩:=h.CK
 exact⟨ei,congrArg (·.2.2) (e 1 (by decide))⟩
def gZ (s:aY) (k:Nat):Nat:=(aF s.bQ k).bX.length
theorem J0 {α:Type} [Inhabited α] {n:Nat} {f:Fin n→α} {j:Nat} (h:j < n):bJ (Vector.ofFn f) j=f ⟨j,h⟩:=by unfold bJ; simp [h]
def fS (e:bu):Vector al 4:=Vector.ofFn fun i=>if i.1 < e.bW.length then(aF e.bW i.1).cL else default
def jP (n:Nat) (p:Vector al 4):Vector al 4:=Vector.ofFn fun i=>if i.1 < n then bJ p i.1 else default
def hO (p:Vector al 4):Vector al 4:=c2 p 0 default
theorem kD {e:bu} {j:Nat} (h:j < 4):bJ (fS e) j=if j < e.bW.length then(aF e.bW j).cL else default:=J0 h
theorem lR {n:Nat} {p:Vector al 4} {j:Nat} (h:j < 4):bJ (jP n p) j=if j < n then bJ p j else default:=J0 h
theorem Bp {p:Vector al 4} {j:Nat} :bJ (hO p) j=if j=0 then default else bJ p j:=by unfold hO; rw [hB _ _ (by decide)]
theorem zq {v w:Vector al 4} :v=w↔bJ v 0=bJ w 0∧bJ v 1=bJ w 1∧bJ v 2=bJ w 2∧bJ v 3=bJ w 3:=by
 refine⟨fun h=>by rw [h]; exact⟨rfl,rfl,rfl,rfl⟩,fun⟨bT,aa,ae,aD⟩=>D0 fun j aG=> ?_⟩
 rcases (show j=0∨j=1∨j=2∨j=3 by omega) with rfl | rfl | rfl | rfl <;> assumption
theorem Eu {s:aY} (h:c0 s) {e:bu} (he:h3 s 0 e) (p:Vector al 4):mt s 0 p e=true↔jP (gZ s 0) p=fS e:=by
 have an:=he.len
 have hm:=he.rV 0
 unfold mt gZ
 rw [h.LB] at an hm ⊢
 have hm:=(hm (by decide)).CF rfl
 have hm:(aF e.bW 0).gu=true:=hm
 have av:e.bW.length=1:=an
 have iH:((List.range [n1].length).all fun i=>jL (aF [n1] i).cH (fK (aF [n1] i)) (aF e.bW i) (bJ p i))=decide (bJ p 0=(aF e.bW 0).cL):=by
  show(jL 1 (fK n1) (aF e.bW 0) (bJ p 0) && true)=_
  unfold jL
  rw [hm]; simp
 rw [iH,decide_eq_true_eq,zq]
 simp only [lR (show 0 < 4 by decide),lR (show 1 < 4 by decide),lR (show 2 < 4 by decide),lR (show 3 < 4 by decide),kD (show 0 < 4 by decide),kD (show 1 < 4 by decide),kD (show 2 < 4 by decide),kD (show 3 < 4 by decide),av]
 simp
theorem TN {s:aY} (h:c0 s) {l:List aJ} (an:kx s 0 l) (p:Vector al 4) {o:Option Int} (bh:∀ n,o=some n↔ ∃ i∈l,fS i.bH=jP (gZ s 0) p∧i.cI=n):
 (∀ n,o=some n→ ∃ i∈l,i.cI=n∧ (ew (eb s 0) l).find? (fun c=>mt s 0 p c.bH)=some i)∧ (o=none→ (ew (eb s 0) l).find? (fun c=>mt s 0 p c.bH)=none):=by
 constructor
 rotate_left
 ·intro aP
  subst aP
  refine JZ fun d hd=> ?_
  rw [Bool.eq_false_iff]
  intro hm
  have:=(bh d.cI).2 ⟨d,hd,((Eu h (an.ok d hd).fo p).1 hm).symm,rfl⟩
  cases this
 ·intro n aP
  subst aP
  obtain⟨i,au,aa,ae⟩:=(bh n).1 rfl
  refine⟨i,au,ae,Et (sL s 0) an.z3 au ((Eu h (an.ok i au).fo p).2 aa.symm) fun d hd hm=> .inl ?_⟩
  have aD:=(bh d.cI).2 ⟨d,hd,((Eu h (an.ok d hd).fo p).1 hm).symm,rfl⟩
  have aD:n=d.cI:=by simpa using aD
  exact an.uniq hd au (by rw [ae,aD])
theorem QP {v w:al} {n m:Nat} :ez v n=ez w m↔n=m∧ ∀ i,i < n→b5 v (31 - i)=b5 w (31 - i):=by
 unfold ez
 constructor
 ·intro h
  have an:=congrArg List.length h
  simp only [List.length_map,List.length_range] at an
  subst an
  refine⟨rfl,fun i au=> ?_⟩
  have:=congrArg (·[i]?) h
  simpa [au] using this
 ·rintro ⟨rfl,h⟩
  exact List.map_congr_left fun i au=>h i (List.mem_range.1 au)
def lL (e:bu):List Bool:=ez (aF e.bW 0).cL (aF e.bW 0).dO.toNat
theorem tg {s:aY} (h:c0 s) {e:bu} (he:h3 s 1 e):nQ 2 32 (aF e.bW 0):=by
 have hm:=he.rV 0
 obtain⟨b,hb⟩:=h.yX
 rw [hb] at hm
 cases b
 ·exact hm (by decide)
 ·exact hm (by decide)
theorem vj {k:Int} (bT:0≤k) (aa:k≤32) {j:Nat} :lead 32 k j=true↔32 - k≤ (j:Int)∧j < 32:=by
 unfold lead; rw [Bool.and_eq_true,decide_eq_true_eq,decide_eq_true_eq]; omega
theorem Ev {m:ca} (hm:nQ 2 32 m) {v:al} {n:Nat} (aP:n≤32):ez m.cL m.dO.toNat=ez v n↔m.dO=n∧ ∀ j,j < 128→lead 32 m.dO j=true→b5 v j=b5 m.cL j:=by
 have hp:=hm.pre
 rw [QP]
 constructor
 ·rintro ⟨aa,ae⟩
  refine⟨by omega,fun j aG an=> ?_⟩
  rw [vj hp.1 hp.2] at an
  have:=ae (31 - j) (by omega)
  rw [show 31 - (31 - j)=j by omega] at this
  exact this.symm
 ·rintro ⟨aa,ae⟩
  refine⟨by omega,fun i au=> ?_⟩
  exact(ae (31 - i) (by omega) ((vj hp.1 hp.2).2 (by omega))).symm
theorem J1 {s:aY} (h:c0 s) {e:bu} (he:h3 s 1 e) (p:Vector al 4):mt s 1 p e=true↔
 hO (jP (gZ s 1) p)=hO (fS e)∧ ∀ j,j < 128→lead 32 (aF e.bW 0).dO j=true→b5 (bJ p 0) j=b5 (aF e.bW 0).cL j:=by
 have an:=he.len
 have hm:=he.rV 1
 have gV:=tg h he
 obtain⟨b,hb⟩:=h.yX
 unfold mt gZ
 rw [hb] at an hm ⊢
 have iH:jL 2 32 (aF e.bW 0) (bJ p 0)=true↔ ∀ j,j < 128→lead 32 (aF e.bW 0).dO j=true→b5 (bJ p 0) j=b5 (aF e.bW 0).cL j:=by
  unfold jL
  by_cases hp:(aF e.bW 0).gu=false
  ·rw [if_pos hp,gV.off hp]
   refine⟨fun _ j aG an=> ?_,fun _=>rfl⟩
   have:lead 32 (default:ca).dO j=true:=an
   rw [vj (by decide) (by decide)] at this
   have bT:(default:ca).dO=0:=rfl
   rw [bT] at this; omega
  ·rw [if_neg hp,if_neg (by decide),if_pos rfl,List.all_eq_true]
   refine⟨fun aa j aG an=> ?_,fun aa j aG=> ?_⟩
   ·have:=aa j (List.mem_range.2 aG)
    rw [an] at this; simpa using this
   ·cases an:lead 32 (aF e.bW 0).dO j
    ·rfl
    ·simp [aa j (List.mem_range.1 aG) an]
 cases b
 ·have av:e.bW.length=1:=an
  have aX:((List.range (lv false).length).all fun i=>jL (aF (lv false) i).cH (fK (aF (lv false) i)) (aF e.bW i) (bJ p i))=jL 2 32 (aF e.bW 0) (bJ p 0):=by
   show(jL 2 32 (aF e.bW 0) (bJ p 0) && true)=_
   rw [Bool.and_true]
  rw [aX,iH,zq]
  simp only [Bp,lR (show 0 < 4 by decide),lR (show 1 < 4 by decide),lR (show 2 < 4 by decide),lR (show 3 < 4 by decide),kD (show 0 < 4 by decide),kD (show 1 < 4 by decide),kD (show 2 < 4 by decide),kD (show 3 < 4 by decide),av]
  simp [lv]
 ·have av:e.bW.length=2:=an
  have cz:(aF e.bW 1).gu=true:=(hm (by decide)).CF rfl
  have aX:((List.range (lv true).length).all fun i=>jL (aF (lv true) i).cH (fK (aF (lv true) i)) (aF e.bW i) (bJ p i))=(jL 2 32 (aF e.bW 0) (bJ p 0) && decide (bJ p 1=(aF e.bW 1).cL)):=by
   show(jL 2 32 (aF e.bW 0) (bJ p 0) && (jL 1 (fK CX) (aF e.bW 1) (bJ p 1) && true))=_
   rw [Bool.and_true]
   congr 1
   unfold jL
   rw [cz]; simp
  rw [aX,Bool.and_eq_true,iH,zq,decide_eq_true_eq]
  simp only [Bp,lR (show 0 < 4 by decide),lR (show 1 < 4 by decide),lR (show 2 < 4 by decide),lR (show 3 < 4 by decide),kD (show 0 < 4 by decide),kD (show 1 < 4 by decide),kD (show 2 < 4 by decide),kD (show 3 < 4 by decide),av]
  simp [lv,And.comm]
theorem J2 {g:List Bool→Option Int} {v:al} :∀ {m n:Nat} {id:Int},iw g v m=some (n,id)→n≤m∧g (ez v n)=some id∧ ∀ k,n < k→k≤m→g (ez v k)=none
 | 0,n,id,h=>by
   unfold iw at h
   cases bx:g [] with
   | none=>rw [bx] at h; cases h
   | some x=>
     rw [bx] at h; cases h
     exact⟨Nat.le_refl 0,by rw [DD]; exact bx,fun k aa ae=>by omega⟩
 | m + 1,n,id,h=>by
   unfold iw at h
   cases bx:g (ez v (m + 1)) with
   | none=>
     rw [bx] at h
     obtain⟨aa,ae,aD⟩:=J2 h
     refine⟨by omega,ae,fun k aZ a6=> ?_⟩
     by_cases ax:k=m + 1
     ·rw [ax]; exact bx
     ·exact aD k aZ (by omega)
   | some x=>
     rw [bx] at h; cases h
     exact⟨Nat.le_refl _,bx,fun k aa ae=>by omega⟩
theorem J3 {g:List Bool→Option Int} {v:al} :∀ {m:Nat},iw g v m=none→ ∀ k,k≤m→g (ez v k)=none
 | 0,h,k,ax=>by
   have:k=0:=by omega
   subst this
   unfold iw at h
   cases bx:g [] with
   | none=>rw [DD]; exact bx
   | some x=>rw [bx] at h; cases h
 | m + 1,h,k,ax=>by
   unfold iw at h
   cases bx:g (ez v (m + 1)) with
   | none=>
     rw [bx] at h
     by_cases tI:k=m + 1
     ·rw [tI]; exact bx
     ·exact J3 h k (by omega)
   | some x=>rw [bx] at h; cases h
theorem MR {s:aY} (h:c0 s) {e:bu} (he:h3 s 1 e):pE s 1 e=(aF e.bW 0).dO:=by
 have an:=he.len
 unfold pE
 obtain⟨b,hb⟩:=h.yX
 rw [hb] at an ⊢
 refine Bx (i:=0) an ?_ ?_ fun j aG=>by omega
 ·cases b <;> decide
 ·cases b <;> rfl
theorem Ch {s:aY} (h:c0 s) {e:bu} (he:h3 s 1 e):e.g7=0:=by
 refine he.pri fun i au=> ?_
 obtain⟨b,hb⟩:=h.yX
 rw [hb] at au ⊢
 cases b
 ·have:i=0:=by have:i < 1:=au; omega
  subst this; decide
 ·have:i=0∨i=1:=by have:i < 2:=au; omega
  rcases this with rfl | rfl <;> decide
theorem LC {s:aY} (h:c0 s) {l:List aJ} (an:kx s 1 l) (p:Vector al 4) {g:List Bool→Option Int} {v:al} (a2:∀ j,j < 128→b5 v j=(b5 (bJ p 0) j && decide (j < 32)))
 (bx:∀ bz n,g bz=some n↔ ∃ i∈l,hO (fS i.bH)=hO (jP (gZ s 1) p)∧lL i.bH=bz∧i.cI=n):
 match iw g v 32 with | some r=> ∃ i∈l,i.cI=r.2∧ (ew (eb s 1) l).find? (fun c=>mt s 1 p c.bH)=some i | none=>(ew (eb s 1) l).find? (fun c=>mt s 1 p c.bH)=none:=by
 have wb:∀ k j,j < 128→lead 32 k j=true→b5 v j=b5 (bJ p 0) j:=fun k j aG ax=>by
  rw [a2 j aG]
  unfold lead at ax
  rw [Bool.and_eq_true,decide_eq_true_eq] at ax
  rw [decide_eq_true (show j < 32 by omega),Bool.and_true]
 have CL:∀ d∈l,mt s 1 p d.bH=true→ ∃ n:Nat,n≤32∧ (aF d.bH.bW 0).dO=n∧g (ez v n)=some d.cI:=fun d hd hm=>by
  have he:=(an.ok d hd).fo
  have gV:=tg h he
  have hp:=gV.pre
  obtain⟨n,aP⟩:=Int.eq_ofNat_of_zero_le hp.1
  obtain⟨aa,ae⟩:=(J1 h he p).1 hm
  refine⟨n,by omega,aP,(bx _ _).2 ⟨d,hd,aa.symm,?_,rfl⟩⟩
  exact(Ev gV (by omega)).2 ⟨aP,fun j aG qC=>by rw [wb _ j aG qC]; exact ae j aG qC⟩
 cases e:iw g v 32 with
 | none=>
   refine JZ fun d hd=> ?_
   rw [Bool.eq_false_iff]
   intro hm
   obtain⟨n,aP,_,ae⟩:=CL d hd hm
   rw [J3 e n aP] at ae; cases ae
 | some r=>
   obtain⟨n,id⟩:=r
   obtain⟨aa,ae,aD⟩:=J2 e
   obtain⟨i,au,aw,a5,bA⟩:=(bx _ _).1 ae
   have he:=(an.ok i au).fo
   obtain⟨cD,gW⟩:=(Ev (tg h he) aa).1 a5
   have Gj:mt s 1 p i.bH=true:=(J1 h he p).2 ⟨aw.symm,fun j aG qC=>by rw [← wb _ j aG qC]; exact gW j aG qC⟩
   refine⟨i,au,bA,Et (sL s 1) an.z3 au Gj fun d hd hm=> ?_⟩
   have MS:=(an.ok d hd).fo
   obtain⟨m,cz,du,fX⟩:=CL d hd hm
   have tC:m≤n:=by
    rcases Nat.lt_or_ge n m with cl | tG
    ·rw [aD m cl cz] at fX; cases fX
    ·exact tG
   by_cases Vd:m=n
   ·subst Vd
    rw [ae] at fX
    have:id=d.cI:=by simpa using fX
    exact .inl (an.uniq hd au (by rw [bA,this]))
   ·right
    unfold eb
    rw [decide_eq_true_eq,MR h he,MR h MS,Ch h he,Ch h MS,du,cD]
    omega
end Go.Proofs.YtmnggbjcnoffeaaGreat
namespace Go.Proofs.YtmnggbjcnoffeaaGreat
open Go Gv
set_option linter.unusedVariables false
set_option linter.unusedSimpArgs false
set_option maxRecDepth 100000
theorem Own.iff {hp hp':a1 Cell} {t:Nat} {c:fM} (ar:gd hp t=some c) (h:∀ q,Own hp t q→pat hp' q=pat hp q):gd hp' t=some c∧ (∀ bz,dv hp' c.cV bz=dv hp c.cV bz)∧ ∀ q,Own hp' t q↔Own hp t q:=by
 have aa:gd hp' t=some c:=by rw [Dx (h t (.inl rfl))]; exact ar
 have ae:∀ bz,dv hp' c.cV bz=dv hp c.cV bz:=fun bz=>IZ fun p cs hp=>xD (h p (.inr ⟨c,cs,ar,hp⟩))
 refine⟨aa,ae,fun q=>⟨fun hq=> ?_,fun hq=> ?_⟩⟩
 ·rcases hq with rfl | ⟨jr,bz,aw,a5⟩
  ·exact .inl rfl
  ·rw [aa] at aw; cases aw
   rw [ae] at a5
   exact .inr ⟨c,bz,ar,a5⟩
 ·rcases hq with rfl | ⟨jr,bz,aw,a5⟩
  ·exact .inl rfl
  ·rw [ar] at aw; cases aw
   exact .inr ⟨c,bz,aa,by rw [ae]; exact a5⟩
theorem ki.congr {hp hp':a1 Cell} {t:Nat} {g:List Bool→Option Int} (h:ki hp t g) (bn:∀ q,Own hp t q→pat hp' q=pat hp q):ki hp' t g∧ ∀ q,Own hp' t q↔Own hp t q:=by
 obtain⟨c,ar,hb,cr,bx⟩:=h.ok
 obtain⟨aa,ae,aD⟩:=Own.iff ar bn
 refine⟨⟨⟨c,aa,hb,⟨fun bz p hp=> ?_,fun bz cs p aw a5=> ?_⟩,fun bz=> ?_⟩⟩,aD⟩
 ·rw [ae] at hp
  obtain⟨d,hd⟩:=cr.reads bz p hp
  exact⟨d,by rw [xD (bn p (.inr ⟨c,bz,ar,hp⟩))]; exact hd⟩
 ·rw [ae] at aw a5
  exact cr.inj bz cs p aw a5
 ·rw [← bx]
  cases e:dv hp c.cV bz with
  | none=>rw [nb e,nb (by rw [ae]; exact e)]
  | some p=>
    obtain⟨d,hd⟩:=cr.reads bz p e
    rw [mA e hd,mA (by rw [ae]; exact e) (by rw [xD (bn p (.inr ⟨c,bz,ar,e⟩))]; exact hd)]
theorem ki.vk {hp:a1 Cell} {t:Nat} {g:List Bool→Option Int} (h:ki hp t g) {q:Nat} (hq:Own hp t q):q∈ee hp:=by
 obtain⟨c,ar,hb,cr,bx⟩:=h.ok
 rcases hq with rfl | ⟨jr,bz,aw,a5⟩
 ·exact kT (qZ.1 ar)
 ·rw [ar] at aw; cases aw
  obtain⟨d,hd⟩:=cr.reads bz q a5
  exact kT (pL.1 hd)
theorem ki.KC {hp:a1 Cell} {t:Nat} {g:List Bool→Option Int} (h:ki hp t g) {q:Nat} (hq:Own hp t q):(∃ c,pat hp q=some (.jB c))∨ ∃ c,pat hp q=some (.gS c):=by
 obtain⟨c,ar,hb,cr,bx⟩:=h.ok
 rcases hq with rfl | ⟨jr,bz,aw,a5⟩
 ·exact .inl ⟨c,qZ.1 ar⟩
 ·rw [ar] at aw; cases aw
  obtain⟨d,hd⟩:=cr.reads bz q a5
  exact .inr ⟨d,pL.1 hd⟩
def kB (a c:bu):Bool:=decide (a.dD=c.dD∧a.bW=c.bW∧a.g7=c.g7)
theorem yo {a c:bu} :kB a c=true↔a.dD=c.dD∧a.bW=c.bW∧a.g7=c.g7:=by unfold kB; rw [decide_eq_true_eq]
theorem J4 (a c:bu):kB a c=kB c a:=by
 rw [Bool.eq_iff_iff,yo,yo]
 exact⟨fun⟨x,y,z⟩=>⟨x.symm,y.symm,z.symm⟩,fun⟨x,y,z⟩=>⟨x.symm,y.symm,z.symm⟩⟩
theorem QQ {a c d:bu} (aa:kB a c=true) (ae:kB c d=true):kB a d=true:=by
 rw [yo] at *
 exact⟨aa.1.trans ae.1,aa.2.1.trans ae.2.1,aa.2.2.trans ae.2.2⟩
theorem J5 {a c:ca} (aa:a.gu=c.gu) (ae:a.cL=c.cL) (aD:a.gK=c.gK) (aZ:a.dO=c.dO) (a6:a.jg=c.jg):a=c:=by
 cases a; cases c; simp_all
theorem J6 {b:Int} {m n2:ca} (h:nQ 1 b m) (cX:nQ 1 b n2) (e:m.cL=n2.cL):m=n2:=
 J5 (by rw [h.CF rfl,cX.CF rfl]) e (by rw [h.gN (by decide),cX.gN (by decide)]) (by rw [h.MM (by decide),cX.MM (by decide)]) (by rw [h.CG (by decide),cX.CG (by decide)])
theorem RD {m n2:ca} (h:nQ 2 32 m) (cX:nQ 2 32 n2) (e:ez m.cL m.dO.toNat=ez n2.cL n2.dO.toNat):m=n2:=by
 have hp:=h.pre
 have hp':=cX.pre
 obtain⟨n,aP⟩:=Int.eq_ofNat_of_zero_le hp'.1
 rw [aP,Int.toNat_natCast] at e
 obtain⟨av,aX⟩:=(Ev h (by omega)).1 e
 have dk:m.dO=n2.dO:=by omega
 have MN:m.gu=n2.gu:=by
  cases aw:m.gu <;> cases a5:n2.gu
  ·rfl
  ·have:=cX.GG rfl a5
   have:=h.off aw
   have bT:(default:ca).dO=0:=rfl
   rw [this,bT] at dk; omega
  ·have:=h.GG rfl aw
   have:=cX.off a5
   have bT:(default:ca).dO=0:=rfl
   rw [this,bT] at dk; omega
  ·rfl
 refine J5 MN (ym fun j aG=> ?_) (by rw [h.gN (by decide),cX.gN (by decide)]) dk (by rw [h.CG (by decide),cX.CG (by decide)])
 cases an:lead 32 m.dO j with
 | true=>exact(aX j aG an).symm
 | false=>
   have mc:b5 m.cL j=false:=by
    rw [Bool.eq_false_iff]; intro a2
    have:=h.GH rfl j aG a2
    rw [(vj hp.1 hp.2).2 this] at an; cases an
   have px:b5 n2.cL j=false:=by
    rw [Bool.eq_false_iff]; intro a2
    have:=cX.GH rfl j aG a2
    rw [dk,(vj hp'.1 hp'.2).2 this] at an; cases an
   rw [mc,px]
theorem Ci {α:Type} [Inhabited α] {l:List α} (h:l.length=1):l= [aF l 0]:=by
 match l,h with
 | [x],_=>rfl
theorem L9 {α:Type} [Inhabited α] {l:List α} (h:l.length=2):l= [aF l 0,aF l 1]:=by
 match l,h with
 | [x,y],_=>rfl
theorem GM {s:aY} (h:c0 s) {a c:bu} (bn:h3 s 0 a) (ar:h3 s 0 c):kB a c=true↔fS a=fS c:=by
 rw [yo]
 have oR:=bn.len; have lc:=ar.len
 have Aq:=bn.rV 0; have Ar:=ar.rV 0
 have CY:=bn.pri; have CZ:=ar.pri
 rw [h.LB] at oR lc Aq Ar CY CZ
 have ax:∀ i,i < [n1].length→ (aF [n1] i).cH≤2:=by decide
 refine⟨fun⟨aa,ae,aD⟩=>by unfold fS; rw [ae],fun e=>⟨by rw [bn.ik,ar.ik],?_,by rw [CY ax,CZ ax]⟩⟩
 have iH:=(zq.1 e).1
 rw [kD (by decide),kD (by decide),oR,lc] at iH
 have iH:(aF a.bW 0).cL=(aF c.bW 0).cL:=iH
 rw [Ci (l:=a.bW) oR,Ci (l:=c.bW) lc,J6 (Aq (by decide)) (Ar (by decide)) iH]
theorem CM {s:aY} (h:c0 s) {a c:bu} (bn:h3 s 1 a) (ar:h3 s 1 c):kB a c=true↔hO (fS a)=hO (fS c)∧lL a=lL c:=by
 rw [yo]
 have oR:=bn.len; have lc:=ar.len
 have Aq:=bn.rV 1; have Ar:=ar.rV 1
 have CY:=Ch h bn; have CZ:=Ch h ar
 have WR:=tg h bn; have Wq:=tg h ar
 obtain⟨b,hb⟩:=h.yX
 rw [hb] at oR lc Aq Ar
 refine⟨fun⟨aa,ae,aD⟩=>by unfold fS lL; rw [ae]; exact⟨rfl,rfl⟩,fun⟨e,e'⟩=>⟨by rw [bn.ik,ar.ik],?_,by rw [CY,CZ]⟩⟩
 have bT:=RD WR Wq e'
 cases b
 ·rw [Ci (l:=a.bW) oR,Ci (l:=c.bW) lc,bT]
 ·have av:=(zq.1 e).2.1
  rw [Bp,Bp,if_neg (by decide),if_neg (by decide),kD (by decide),kD (by decide),oR,lc] at av
  have av:(aF a.bW 1).cL=(aF c.bW 1).cL:=av
  rw [L9 (l:=a.bW) oR,L9 (l:=c.bW) lc,bT,J6 (Aq (by decide)) (Ar (by decide)) av]
end Go.Proofs.YtmnggbjcnoffeaaGreat
namespace Go.Proofs.YtmnggbjcnoffeaaGreat
open Go Gv
set_option linter.unusedVariables false
set_option linter.unusedSimpArgs false
set_option maxRecDepth 100000
structure js (s:aY) (k:Nat) (l:List aJ):Prop where
 ok:kx s k l
 key:l.Pairwise fun a c=>kB a.bH c.bH=false
theorem js.uniq {s:aY} {k:Nat} {l:List aJ} (h:js s k l) {a c:aJ} (bn:a∈l) (ar:c∈l) (e:kB a.bH c.bH=true):a=c:=by
 have aP:=h.key
 clear h
 induction l with
 | nil=>cases bn
 | cons x l b0=>
   obtain⟨aa,ae⟩:=List.pairwise_cons.1 aP
   rcases List.mem_cons.1 bn with aw | aw <;> rcases List.mem_cons.1 ar with a5 | a5
   ·rw [aw,a5]
   ·rw [aw,aa c a5] at e; cases e
   ·rw [a5,J4,aa a aw] at e; cases e
   ·exact b0 aw a5 ae
def hL (l:List aJ) (e:bu):Option aJ:=l.find? fun i=>kB i.bH e
theorem Bh {l:List aJ} {e:bu} {i:aJ} (h:hL l e=some i):i∈l∧kB i.bH e=true:=by
 unfold hL at h
 have ae:=List.find?_some h
 exact⟨List.mem_of_find?_eq_some h,ae⟩
theorem uX {l:List aJ} {e:bu} (h:hL l e=none):∀ i∈l,kB i.bH e=false:=fun i au=>by
 have:=List.find?_eq_none.1 h i au
 simpa using this
def ml (o:Option aJ):Int × Bool:=match o with | some i=>(i.cI,true) | none=>(0,false)
theorem J7 {i:aJ} {n:Int} (h:i.cI=n):ml (some i)=(n,true):=by rw [← h]; rfl
structure yp (s:aY) (hp:a1 Cell) (q:Nat) (l:List aJ) (own:Nat→Prop):Prop where
 ok:∃ m em,nk hp q=some ⟨⟨some m⟩⟩∧lU hp m=some em∧own q∧own m∧ ∀ dg n,dX em dg=some n↔ ∃ i∈l,fS i.bH=dg∧i.cI=n
structure nh (s:aY) (hp:a1 Cell) (m:Nat) (l:List aJ) (own:Nat→Prop):Prop where
 ok:∃ em,jz hp m=some em∧own m∧
  (∀ dg r,dX em dg=some r→ ∃ t g,r=some t∧ki hp t g∧ (∀ q,Own hp t q→own q)∧ ∀ bz n,g bz=some n↔ ∃ i∈l,hO (fS i.bH)=dg∧lL i.bH=bz∧i.cI=n)∧
  (∀ dg,dX em dg=none→ ∀ i∈l,hO (fS i.bH)≠dg)∧
  ∀ dg j7 t hP,dX em dg=some (some t)→dX em j7=some (some hP)→dg≠j7→ ∀ q,Own hp t q→ ¬ Own hp hP q
structure yq (s:aY) (k:Nat) (hp:a1 Cell) (q:Nat) (l:List aJ) (own:Nat→Prop):Prop where
 ok:∃ key cap,nm hp q=some (om s k l,key,cap)∧own q
def p6 (s:aY) (k:Nat) (hp:a1 Cell) (f:gm) (l:List aJ) (own:Nat→Prop):Prop:=
 (k=0∧ ∃ q,f= .lX ⟨some q⟩∧yp s hp q l own)∨ (k=1∧ ∃ m,f= .lY ⟨0,32,⟨some m⟩⟩∧nh s hp m l own)∨ (2≤k∧ ∃ q,f= .lZ ⟨some q⟩∧yq s k hp q l own)
theorem Ip {hp hp':a1 Cell} {p:Nat} (h:pat hp' p=pat hp p):nk hp' p=nk hp p:=by unfold nk; rw [h]
theorem Pr {hp hp':a1 Cell} {p:Nat} (h:pat hp' p=pat hp p):lU hp' p=lU hp p:=by unfold lU; rw [h]
theorem DA {hp hp':a1 Cell} {p:Nat} (h:pat hp' p=pat hp p):jz hp' p=jz hp p:=by unfold jz; rw [h]
theorem Ps {hp hp':a1 Cell} {p:Nat} (h:pat hp' p=pat hp p):nm hp' p=nm hp p:=by unfold nm; rw [h]
theorem Pt {hp hp':a1 Cell} {p:Nat} (h:pat hp' p=pat hp p):h2 hp' p=h2 hp p:=by unfold h2; rw [h]
theorem Pu {hp hp':a1 Cell} {p:Nat} (h:pat hp' p=pat hp p):mH hp' p=mH hp p:=by unfold mH; rw [h]
theorem p6.congr {s:aY} {k:Nat} {hp hp':a1 Cell} {f:gm} {l:List aJ} {own:Nat→Prop} (h:p6 s k hp f l own) {own':Nat→Prop} (bh:∀ q,q∈ee hp→own q→own' q) (bn:∀ q,own q→pat hp' q=pat hp q):p6 s k hp' f l own':=by
 rcases h with⟨rfl,q,rfl,h⟩ | ⟨rfl,m,rfl,h⟩ | ⟨ax,q,rfl,h⟩
 ·obtain⟨m,em,aa,ae,aD,aZ,a6⟩:=h.ok
  refine .inl ⟨rfl,q,rfl,⟨m,em,by rw [Ip (bn q aD)]; exact aa,by rw [Pr (bn m aZ)]; exact ae,bh q (kT (u7 aa)) aD,bh m (kT (sF ae)) aZ,a6⟩⟩
 ·obtain⟨em,aa,ae,aD,aZ,a6⟩:=h.ok
  have key:∀ dg r,dX em dg=some r→ ∃ t g,r=some t∧ki hp t g∧ki hp' t g∧ (∀ q,Own hp t q→own q)∧ (∀ q,Own hp' t q↔Own hp t q)∧ ∀ bz n,g bz=some n↔ ∃ i∈l,hO (fS i.bH)=dg∧lL i.bH=bz∧i.cI=n:=fun dg r aU=>by
   obtain⟨t,g,rfl,aw,a5,bA⟩:=aD dg r aU
   obtain⟨cD,gW⟩:=aw.congr fun q hq=>bn q (a5 q hq)
   exact⟨t,g,rfl,aw,cD,a5,gW,bA⟩
  refine .inr (.inl ⟨rfl,m,rfl,⟨em,by rw [DA (bn m ae)]; exact aa,bh m (kT (oc aa)) ae,fun dg r aU=> ?_,aZ,fun dg j7 t hP cr CN dn q hq=> ?_⟩⟩)
  ·obtain⟨t,g,rfl,g0,aw,a5,bA,cD⟩:=key dg r aU
   exact⟨t,g,rfl,aw,fun q hq=>bh q (g0.vk ((bA q).1 hq)) (a5 q ((bA q).1 hq)),cD⟩
  ·obtain⟨_,g,e,g0,aw,a5,bA,cD⟩:=key dg _ cr
   obtain⟨_,e8,e',Xq,Xr,Xs,Wr,Xt⟩:=key j7 _ CN
   cases e; cases e'
   rw [Wr]
   exact a6 dg j7 t hP cr CN dn q ((bA q).1 hq)
 ·obtain⟨key,cap,aa,ae⟩:=h.ok
  exact .inr (.inr ⟨ax,q,rfl,⟨key,cap,by rw [Ps (bn q ae)]; exact aa,bh q (kT (vb aa)) ae⟩⟩)
theorem Ew {e:bu} (an:e.bW.length≤4):sf e=some (fS e):=by
 refine bm.get ?_
 unfold sf
 refine .eq (a:=e.bW) (by unfold pW; rw [if_pos ⟨by omega,by omega,by omega⟩,Int.toNat_zero,List.drop_zero,Nat.sub_zero,List.take_of_length_le (by omega)]) ?_
 refine bm.loop e.bW.length (fun i st=>st.1=(i:Int)∧ ∀ j,j < 4→bJ st.2 j=if j < i then(aF e.bW j).cL else default) (by omega) ⟨rfl,fun j aG=>by rw [Ia]; rfl⟩ (fun i st au hs=> ?_) (fun st hs=> ?_)
 ·obtain⟨j,v⟩:=st
  obtain⟨av,aX⟩:=hs
  simp only at av aX; subst av
  refine .cond (fun _=> ?_) (fun ar=>by simp at ar; omega)
  refine .idx rfl au (.idx rfl (by omega) (.ret ⟨eU (by omega),fun j aG=> ?_⟩))
  rw [hB _ _ (by omega)]
  by_cases iD:j=i
  ·rw [if_pos iD,if_pos (by omega),iD]
  ·rw [if_neg iD,aX j aG]
   by_cases h:j < i
   ·rw [if_pos h,if_pos (by omega)]
   ·rw [if_neg h,if_neg (by omega)]
 ·obtain⟨j,v⟩:=st
  obtain⟨av,aX⟩:=hs
  simp only at av aX; subst av
  refine⟨_,by simp; rfl,.ret ?_⟩
  exact D0 fun j aG=>by rw [aX j aG,kD aG]
theorem h3.FN {s:aY} (h:c0 s) {k:Nat} (ax:k < 4) {e:bu} (he:h3 s k e):e.bW.length≤4∧1≤e.bW.length:=by
 have:=(h.ik ax).2.1
 rw [he.len]; omega
theorem QR {a c:List ca} (an:a.length≤1000):wC a c=some (decide (a=c)):=by
 refine bm.get ?_
 unfold wC
 refine .cond (fun h=> .ret ?_) fun h=> ?_
 ·have:a≠c:=fun e=>by rw [e] at h; simp at h
  simp [this]
 have Ws:c.length=a.length:=by
  have:(a.length:Int)=c.length:=by simpa using h
  omega
 refine bm.loop a.length (fun i st=>st=(i:Int)∧ ∀ j,j < i→aF a j=aF c j) (by omega) ⟨rfl,fun j aG=>by omega⟩ (fun i st au hs=> ?_) (fun st hs=> ?_)
 ·obtain⟨rfl,hs⟩:=hs
  refine .cond (fun _=> ?_) (fun ar=>by simp at ar; omega)
  refine .idx rfl au (.idx rfl (by omega) (.cond (fun dn=> .ret ?_) fun he=> .ret ⟨eU (by omega),fun j aG=> ?_⟩))
  ·simp only [Sum.elim_inr]
   refine .ret ?_
   have:a≠c:=fun e=>by rw [e] at dn; simp at dn
   simp [this]
  ·by_cases iD:j=i
   ·subst iD; simpa using he
   ·exact hs j (by omega)
 ·obtain⟨rfl,hs⟩:=hs
  refine⟨_,by simp; rfl,?_⟩
  simp only [Sum.elim_inl]
  refine .ret ?_
  have:a=c:=List.ext_getElem Ws.symm fun j aa ae=>by
   have:=hs j aa
   rwa [fx _ aa,fx _ ae] at this
  simp [this]
theorem PO {a c:bu} (an:a.bW.length≤1000):xb a c=some (kB a c):=by
 refine bm.get ?_
 unfold xb kB
 refine .cC (P:=fun r=>r=decide (a.bW=c.bW)) (fun _=>⟨_,QR an,rfl⟩) fun y a9=> .ret ?_
 by_cases h:a.dD=c.dD
 ·rw [a9 (by simpa using h)]
  rw [Bool.eq_iff_iff]
  simp [h]
 ·simp [h]
theorem TO {s:aY} (h:c0 s) {hp:a1 Cell} {q:Nat} {l:List aJ} {own:Nat→Prop} (hq:yp s hp q l own) (an:js s 0 l) {e:bu} (he:h3 s 0 e):wW hp ⟨some q⟩ e=some (ml (hL l e)):=by
 obtain⟨m,em,aa,ae,_,_,a6⟩:=hq.ok
 refine bm.get ?_
 unfold wW uk
 refine .eq (Ew (he.FN h (by decide)).1) ?_
 have hm:dX em (fS e)=(hL l e).map (·.cI):=by
  cases ba:hL l e with
  | none=>
    cases bx:dX em (fS e) with
    | none=>rfl
    | some n=>
      obtain⟨i,au,bl,_⟩:=(a6 _ _).1 bx
      have:=uX ba i au
      rw [(GM h (an.ok.ok i au).fo he).2 bl] at this; cases this
  | some i=>
    obtain⟨au,ax⟩:=Bh ba
    exact(a6 _ _).2 ⟨i,au,(GM h (an.ok.ok i au).fo he).1 ax,rfl⟩
 refine .eq (a:=ml (hL l e)) ?_ (.ret rfl)
 show(nk hp q).bind _=_
 rw [aa]
 show(lU hp m).bind _=_
 rw [ae]
 show some ((dX em (fS e)).getD default,(dX em (fS e)).isSome)=_
 rw [hm]
 cases hL l e <;> rfl
theorem J8 {s:aY} (h:c0 s) {e:bu} (he:h3 s 1 e) (m:gf):tZ ⟨0,32,m⟩ e=some (hO (fS e),(aF e.bW 0).cL,(aF e.bW 0).dO):=by
 have an:=he.FN h (by decide)
 refine bm.get ?_
 unfold tZ ub
 refine .eq (Ew an.1) (.eq (a:=(hO (fS e),bJ (fS e) 0)) rfl (.cond (fun ar=>by have ar:(0:Int)≥ (e.bW.length:Int):=of_decide_eq_true ar; omega) fun _=> .idx (k:=0) rfl (by omega) (.ret ?_)))
 rw [kD (by decide),if_pos (by omega)]
theorem Jw {m:ca} (h:nQ 2 32 m):∀ j,j < 128→b5 m.cL j=true→lead 32 m.dO j=true:=fun j aG a2=>
 (vj h.pre.1 h.pre.2).2 (h.GH rfl j aG a2)
theorem TP {s:aY} (h:c0 s) {hp:a1 Cell} {m:Nat} {l:List aJ} {own:Nat→Prop} (hq:nh s hp m l own) (an:js s 1 l) {e:bu} (he:h3 s 1 e):wL hp ⟨0,32,⟨some m⟩⟩ e=some (ml (hL l e)):=by
 obtain⟨em,aa,_,aD,aZ,_⟩:=hq.ok
 have gV:=tg h he
 refine bm.get ?_
 unfold wL
 refine .eq (J8 h he _) (.eq rfl (.eq aa (.eq rfl ?_)))
 obtain⟨n,aP⟩:=Int.eq_ofNat_of_zero_le gV.pre.1
 have FO:n≤32:=by have:=gV.pre.2; omega
 have yY:=Jw gV
 refine .eq (a:=ml (hL l e)) ?_ (.ret rfl)
 simp only
 cases aU:dX em (hO (fS e)) with
 | none=>
   have ba:hL l e=none:=by
    cases ba:hL l e with
    | none=>rfl
    | some i=>
      obtain⟨au,ax⟩:=Bh ba
      exact absurd ((CM h (an.ok.ok i au).fo he).1 ax).1 (aZ _ aU i au)
   rw [ba]; rfl
 | some r=>
   obtain⟨t,g,rfl,aw,_,bA⟩:=aD _ _ aU
   have bx:g (lL e)=(hL l e).map (·.cI):=by
    cases ba:hL l e with
    | none=>
      cases GN:g (lL e) with
      | none=>rfl
      | some n=>
        obtain⟨i,au,bl,cZ,_⟩:=(bA _ _).1 GN
        have:=uX ba i au
        rw [(CM h (an.ok.ok i au).fo he).2 ⟨bl,cZ⟩] at this; cases this
    | some i=>
      obtain⟨au,ax⟩:=Bh ba
      obtain⟨bl,cZ⟩:=(CM h (an.ok.ok i au).fo he).1 ax
      exact(bA _ _).2 ⟨i,au,bl,cZ,rfl⟩
   rw [aP] at yY ⊢
   show uz hp (some t) _ (n:Int)=_
   rw [R7 aw FO yY]
   have hp':ez (aF e.bW 0).cL n=lL e:=by unfold lL; rw [aP]; rfl
   rw [hp',bx]
   cases hL l e <;> rfl
theorem TQ {s:aY} (h:c0 s) {k:Nat} (ax:k < 4) {hp:a1 Cell} {q:Nat} {l:List aJ} {own:Nat→Prop} (hq:yq s k hp q l own) (an:js s k l) {e:bu} (he:h3 s k e):w2 hp ⟨some q⟩ e=some (ml (hL l e)):=by
 obtain⟨key,cap,aa,_⟩:=hq.ok
 refine bm.get ?_
 unfold w2
 refine .eq rfl (.eq aa (.eq (R6 h ax an.ok) ?_))
 obtain⟨mj,ia⟩:=an.ok.ew
 have ba:hL l e=(ew (eb s k) l).find? fun i=>kB i.bH e:=by
  cases ba:hL l e with
  | none=>
    symm
    rw [List.find?_eq_none]
    intro x aq
    rw [uX ba x (od.1 aq)]; simp
  | some i=>
    obtain⟨au,zK⟩:=Bh ba
    exact(Et (sL s k) an.ok.z3 au zK fun d hd Wt=> .inl (an.uniq hd au (QQ Wt (by rw [J4]; exact zK)))).symm
 rw [ba]
 refine bm.loop (ew (eb s k) l).length (fun i st=>st=(i:Int)∧ ∀ j,j < i→kB (aF (ew (eb s k) l) j).bH e=false) (by omega) ⟨rfl,fun j aG=>by omega⟩ (fun i st au hs=> ?_) (fun st hs=> ?_)
 ·obtain⟨rfl,hs⟩:=hs
  refine .cond (fun _=> ?_) (fun ar=>by simp at ar; omega)
  have hm:=mj (aF (ew (eb s k) l) i) (by rw [fx _ au]; exact List.getElem_mem _)
  refine .idx rfl au (.eq (PO (hm.small h ax).1) (.cond (fun ar=> .ret ?_) fun ar=> .ret ⟨eU (by omega),fun j aG=> ?_⟩))
  ·simp only [Sum.elim_inr]
   refine .ret ?_
   rw [JR (p:=fun i=>kB i.bH e) au ar hs]; rfl
  ·by_cases iD:j=i
   ·subst iD; exact ar
   ·exact hs j (by omega)
 ·obtain⟨rfl,hs⟩:=hs
  refine⟨_,by simp; rfl,?_⟩
  simp only [Sum.elim_inl]
  refine .ret ?_
  rw [JS fun c ar=> ?_]
  ·rfl
  ·obtain⟨j,aG,rfl⟩:=List.mem_iff_getElem.1 ar
   rw [← fx _ aG]; exact hs j aG
theorem TR {s:aY} (h:c0 s) {k:Nat} (ax:k < 4) {hp:a1 Cell} {f:gm} {l:List aJ} {own:Nat→Prop} (hq:p6 s k hp f l own) (an:js s k l) {e:bu} (he:h3 s k e):Dd hp f e=some (ml (hL l e)):=by
 rcases hq with⟨rfl,q,rfl,hq⟩ | ⟨rfl,m,rfl,hq⟩ | ⟨cN,q,rfl,hq⟩
 ·exact TO h hq an he
 ·exact TP h hq an he
 ·exact TQ h ax hq an he
end Go.Proofs.YtmnggbjcnoffeaaGreat
namespace Go.Proofs.YtmnggbjcnoffeaaGreat
open Go Gv
set_option linter.unusedVariables false
set_option linter.unusedSimpArgs false
set_option maxRecDepth 100000
def im (s:aY) (k:Nat) (l:List aJ) (p:Vector al 4):Option aJ:=(ew (eb s k) l).find? fun c=>mt s k p c.bH
theorem RE {s:aY} {k:Nat} {l:List aJ} {p:Vector al 4} {i:aJ} (h:im s k l p=some i):i∈l:=by
 unfold im at h
 exact od.1 (List.mem_of_find?_eq_some h)
theorem TS {s:aY} (h:c0 s) {k:Nat} (ax:k < 4) (p:Vector al 4) (e:bu):mt s k (jP (gZ s k) p) e=mt s k p e:=by
 unfold mt
 rw [Bool.eq_iff_iff,List.all_eq_true,List.all_eq_true]
 have an:=(h.ik ax).2.1
 have key:∀ i∈List.range (aF s.bQ k).bX.length,bJ (jP (gZ s k) p) i=bJ p i:=fun i au=>by
  have:=List.mem_range.1 au
  rw [lR (by omega),if_pos (show i < gZ s k from this)]
 exact⟨fun aa i au=>by have:=aa i au; rwa [key i au] at this,fun aa i au=>by rw [key i au]; exact aa i au⟩
theorem TT {s:aY} (h:c0 s) {hp:a1 Cell} {q:Nat} {l:List aJ} {own:Nat→Prop} (hq:yp s hp q l own) (an:js s 0 l) (p:Vector al 4):wJ hp ⟨some q⟩ (jP (gZ s 0) p)=some (ml (im s 0 l p)):=by
 obtain⟨m,em,aa,ae,_,_,a6⟩:=hq.ok
 have hb:=TN h an.ok p (o:=dX em (jP (gZ s 0) p)) fun n=>a6 _ n
 refine bm.get ?_
 unfold wJ uk
 refine .eq (a:=ml (im s 0 l p)) ?_ (.ret rfl)
 show(nk hp q).bind _=_
 rw [aa]
 show(lU hp m).bind _=_
 rw [ae]
 show some ((dX em (jP (gZ s 0) p)).getD default,(dX em (jP (gZ s 0) p)).isSome)=_
 cases bx:dX em (jP (gZ s 0) p) with
 | none=>
   have hb:im s 0 l p=none:=hb.2 bx
   rw [hb]; rfl
 | some n=>
   obtain⟨i,_,av,aX⟩:=hb.1 n bx
   have aX:im s 0 l p=some i:=aX
   rw [aX,J7 av]; rfl
theorem LD {g:List Bool→Option Int} (h:∀ bz,g bz=none) (v:al):∀ m,iw g v m=none
 | 0=>by unfold iw; rw [h]; rfl
 | m + 1=>by unfold iw; rw [h]; exact LD h v m
theorem TU {s:aY} (h:c0 s) {hp:a1 Cell} {m:Nat} {l:List aJ} {own:Nat→Prop} (hq:nh s hp m l own) (an:js s 1 l) (p:Vector al 4):wF hp ⟨0,32,⟨some m⟩⟩ (jP (gZ s 1) p)=some (ml (im s 1 l p)):=by
 obtain⟨em,aa,_,aD,aZ,_⟩:=hq.ok
 have aP:1≤gZ s 1:=(h.ik (show 1 < 4 by decide)).2.1.1
 refine bm.get ?_
 unfold wF ub
 refine .eq (a:=(hO (jP (gZ s 1) p),bJ p 0)) (by show some (hO (jP (gZ s 1) p),bJ (jP (gZ s 1) p) 0)=_; rw [lR (by decide),if_pos (by omega)]) (.eq rfl (.eq aa (.eq rfl ((Er 32).bind fun aO aX=> .eq (and_eq _ _) ?_))))
 simp only
 have a2:∀ j,j < 128→b5 (qh (bJ p 0) aO) j=(b5 (bJ p 0) j && decide (j < 32)):=fun j aG=>by
  rw [u5,aX j aG]
  congr 1
  rw [decide_eq_decide]; omega
 cases aU:dX em (hO (jP (gZ s 1) p)) with
 | none=>
   have hb:=LC h an.ok p a2 (g:=fun _=>none) fun bz n=>⟨fun h=>(by cases h),fun⟨i,au,bl,_⟩=>absurd bl (aZ _ aU i au)⟩
   rw [LD (fun _=>rfl)] at hb
   have hb:im s 1 l p=none:=hb
   rw [hb]
   exact .eq rfl (.ret rfl)
 | some r=>
   obtain⟨t,g,rfl,aw,_,bA⟩:=aD _ _ aU
   have hb:=LC h an.ok p a2 bA
   have hs:Small (qh (bJ p 0) aO):=fun j aG hb=>by
    rw [a2 j aG,Bool.and_eq_true,decide_eq_true_eq] at hb
    exact hb.2
   refine .eq (PN aw hs) (.ret ?_)
   cases MT:iw g (qh (bJ p 0) aO) 32 with
   | none=>
     rw [MT] at hb
     have hb:im s 1 l p=none:=hb
     rw [hb]; rfl
   | some r=>
     rw [MT] at hb
     obtain⟨i,_,av,dk⟩:=hb
     have dk:im s 1 l p=some i:=dk
     rw [dk,J7 av]; rfl
theorem TV {s:aY} (h:c0 s) {k:Nat} (ax:k < 4) {hp:a1 Cell} {q:Nat} {l:List aJ} {own:Nat→Prop} (hq:yq s k hp q l own) (an:js s k l) (p:Vector al 4):wM hp ⟨some q⟩ (jP (gZ s k) p)=some (ml (im s k l p)):=by
 obtain⟨key,cap,aa,_⟩:=hq.ok
 refine bm.get ?_
 unfold wM
 refine .eq rfl (.eq aa (.eq (PL h ax an.ok _) (.ret ?_)))
 have:((ew (eb s k) l).find? fun c=>mt s k (jP (gZ s k) p) c.bH)=im s k l p:=by
  unfold im; congr 1; funext c; exact TS h ax p c.bH
 rw [this]
 cases im s k l p <;> rfl
theorem TW {s:aY} (h:c0 s) {k:Nat} (ax:k < 4) {hp:a1 Cell} {f:gm} {l:List aJ} {own:Nat→Prop} (hq:p6 s k hp f l own) (an:js s k l) (p:Vector al 4):C6 hp f (jP (gZ s k) p)=some (ml (im s k l p)):=by
 rcases hq with⟨rfl,q,rfl,hq⟩ | ⟨rfl,m,rfl,hq⟩ | ⟨cN,q,rfl,hq⟩
 ·exact TT h hq an p
 ·exact TU h hq an p
 ·exact TV h ax hq an p
def lV (own:Nat→Prop) (hp hp':a1 Cell) (q:Nat):Prop:=own q∨ (q ∉ ee hp∧q∈ee hp')
theorem QS {hp:a1 Cell} {p:Nat} {k:Cell} {x:List (Vector al 4 × Int)} (h:pat hp p=some k):lU (dH hp p (.oo x)) p=some x:=by unfold lU; rw [vi h]
theorem QT {hp:a1 Cell} {p:Nat} {k:Cell} {x:List (Vector al 4 × Ref)} (h:pat hp p=some k):jz (dH hp p (.mQ x)) p=some x:=by unfold jz; rw [vi h]
theorem Ve {s:aY} (h:c0 s) {hp:a1 Cell} {q:Nat} {l:List aJ} {own:Nat→Prop} (hq:yp s hp q l own) (an:js s 0 l) {i:aJ} (au:jM s 0 i) (ba:hL l i.bH=none):
 bm (w6 hp ⟨some q⟩ i) (fun hp'=>yp s hp' q (l ++ [i]) (lV own hp hp')∧gw hp hp' own):=by
 obtain⟨m,em,aa,ae,aD,aZ,a6⟩:=hq.ok
 have gM:dX em (fS i.bH)=none:=by
  cases bx:dX em (fS i.bH) with
  | none=>rfl
  | some n=>
    obtain⟨c,ar,bl,_⟩:=(a6 _ _).1 bx
    have:=uX ba c ar
    rw [(GM h (an.ok.ok c ar).fo au.fo).2 bl] at this; cases this
 unfold w6 AW
 refine .eq (Ew (au.fo.FN h (by decide)).1) ?_
 refine .eq (a:=(true,dH hp m (Cell.oo (g3 em (fS i.bH) i.cI)))) ?_ (.ret ?_)
 ·show(nk hp q).bind _=_
  rw [aa]
  show(lU hp m).bind _=_
  rw [ae]
  show cond (dX em (fS i.bH)).isSome _ _=_
  rw [gM]; rfl
 have GO:q≠m:=fun e=>by
  subst e
  have:=u7 aa
  rw [sF ae] at this; cases this
 refine⟨⟨m,_,by rw [Ip (qY GO.symm)]; exact aa,QS (sF ae),.inl aD,.inl aZ,fun dg n=> ?_⟩,.up aZ⟩
 rw [xJ]
 by_cases j6:dg=fS i.bH
 ·rw [if_pos j6]
  constructor
  ·intro e
   cases e
   exact⟨i,by simp,j6.symm,rfl⟩
  ·rintro ⟨c,ar,bl,cZ⟩
   rcases List.mem_append.1 ar with ar | ar
   ·have:=(a6 _ _).2 ⟨c,ar,bl,cZ⟩
    rw [j6,gM] at this; cases this
   ·rw [List.mem_singleton.1 ar] at cZ; rw [cZ]
 ·rw [if_neg j6,a6]
  constructor
  ·rintro ⟨c,ar,bl⟩; exact⟨c,by simp [ar],bl⟩
  ·rintro ⟨c,ar,bl,cZ⟩
   rcases List.mem_append.1 ar with ar | ar
   ·exact⟨c,ar,bl,cZ⟩
   ·rw [List.mem_singleton.1 ar] at bl; exact absurd bl.symm j6
theorem Vf {s:aY} (h:c0 s) {hp:a1 Cell} {m:Nat} {l:List aJ} {own:Nat→Prop} (hq:nh s hp m l own) (fc:∀ q,own q→q∈ee hp) (an:js s 1 l) {i:aJ} (au:jM s 1 i) (ba:hL l i.bH=none)
 {em:List (Vector al 4 × Ref)} (nu:jz hp m=some em) {t:Nat} (cr:dX em (hO (fS i.bH))=some (some t)):
 dU (uA hp (some t) (aF i.bH.bW 0).cL (aF i.bH.bW 0).dO i.cI) (fun r=>nh s r.2 m (l ++ [i]) (lV own hp r.2)∧gw hp r.2 own):=by
 obtain⟨Wu,aa,ae,aD,aZ,a6⟩:=hq.ok
 rw [nu] at aa; cases aa
 have gV:=tg h au.fo
 obtain⟨hP,g,e,aw,a5,bA⟩:=aD _ _ cr
 cases e
 obtain⟨n,aP⟩:=Int.eq_ofNat_of_zero_le gV.pre.1
 have FO:n≤32:=by have:=gV.pre.2; omega
 have yY:=Jw gV
 have hp':ez (aF i.bH.bW 0).cL n=lL i.bH:=by unfold lL; rw [aP]; rfl
 have gM:g (lL i.bH)=none:=by
  cases GN:g (lL i.bH) with
  | none=>rfl
  | some n=>
    obtain⟨c,ar,bl,cZ,_⟩:=(bA _ _).1 GN
    have:=uX ba c ar
    rw [(CM h (an.ok.ok c ar).fo au.fo).2 ⟨bl,cZ⟩] at this; cases this
 rw [aP] at yY ⊢
 refine(TM aw FO yY i.cI (by rw [hp']; exact gM)).mono fun r aU=> ?_
 obtain⟨_,mj,ia,pC⟩:=aU
 rw [hp'] at mj
 have CL:∀ q,Own hp t q→q≠m:=fun q Wv e=>by
  have:=oc nu
  rw [← e] at this
  rcases aw.KC Wv with⟨c,ar⟩ | ⟨c,ar⟩ <;> rw [ar] at this <;> cases this
 have mU:pat r.2 m=pat hp m:=ia.rest m (kT (oc nu)) fun hq=>CL m hq rfl
 have By:∀ dg hP,dg≠hO (fS i.bH)→dX em dg=some (some hP)→ ∃ e8,ki hp hP e8∧ki r.2 hP e8∧ (∀ q,Own hp hP q→own q)∧ (∀ q,Own r.2 hP q↔Own hp hP q)∧ ∀ bz n,e8 bz=some n↔ ∃ i∈l,hO (fS i.bH)=dg∧lL i.bH=bz∧i.cI=n:=fun dg hP dn aU=>by
  obtain⟨Xu,e8,e,dL,ef,jq⟩:=aD dg _ aU
  cases e
  obtain⟨ei,fA⟩:=dL.congr (hp':=r.2) fun q hq=>ia.rest q (dL.vk hq) fun j5=>a6 _ _ _ _ cr aU dn.symm q j5 hq
  exact⟨e8,dL,ei,ef,fA,jq⟩
 have zp:∀ q,Own r.2 t q→lV own hp r.2 q:=fun q hq=>by
  rcases pC q hq with bl | bl
  ·exact .inl (a5 q bl)
  ·exact .inr ⟨bl,mj.vk hq⟩
 refine⟨⟨em,by rw [DA mU]; exact nu,.inl ae,fun dg qK lM=> ?_,fun dg j6 c ar=> ?_,fun dg j7 t1 t2 nv mX dn q oN pt=> ?_⟩,⟨ia.keys,fun q hq gM=>ia.rest q hq fun j5=>gM (a5 q j5)⟩⟩
 ·by_cases j6:dg=hO (fS i.bH)
  ·subst j6
   rw [cr] at lM; cases lM
   refine⟨t,_,rfl,mj,zp,fun bz Hb=> ?_⟩
   by_cases z4:bz=lL i.bH
   ·simp only [if_pos z4]
    constructor
    ·intro e; cases e
     exact⟨i,by simp,rfl,z4.symm,rfl⟩
    ·rintro ⟨c,ar,bl,cZ,eN⟩
     rcases List.mem_append.1 ar with ar | ar
     ·have:=(bA _ _).2 ⟨c,ar,bl,cZ,eN⟩
      rw [z4,gM] at this; cases this
     ·rw [List.mem_singleton.1 ar] at eN; rw [eN]
   ·simp only [if_neg z4]
    rw [bA]
    constructor
    ·rintro ⟨c,ar,bl⟩; exact⟨c,by simp [ar],bl⟩
    ·rintro ⟨c,ar,bl,cZ,eN⟩
     rcases List.mem_append.1 ar with ar | ar
     ·exact⟨c,ar,bl,cZ,eN⟩
     ·rw [List.mem_singleton.1 ar] at cZ; exact absurd cZ.symm z4
  ·obtain⟨hP,e8,e,_⟩:=aD dg qK lM
   subst e
   obtain⟨MU,dL,ef,jq,mh,qL⟩:=By dg hP j6 lM
   refine⟨hP,MU,rfl,ef,fun q hq=> .inl (jq q ((mh q).1 hq)),fun bz Hb=> ?_⟩
   rw [qL]
   constructor
   ·rintro ⟨c,ar,bl⟩; exact⟨c,by simp [ar],bl⟩
   ·rintro ⟨c,ar,bl,cZ⟩
    rcases List.mem_append.1 ar with ar | ar
    ·exact⟨c,ar,bl,cZ⟩
    ·rw [List.mem_singleton.1 ar] at bl; exact absurd bl.symm j6
 ·rcases List.mem_append.1 ar with ar | ar
  ·exact aZ dg j6 c ar
  ·rw [List.mem_singleton.1 ar]
   intro e
   rw [← e,cr] at j6; cases j6
 ·
  have KD:∀ dg hP,dg≠hO (fS i.bH)→dX em dg=some (some hP)→ ∀ q,Own r.2 t q→ ¬ Own r.2 hP q:=fun dg hP dn aU q hq j5=>by
   obtain⟨MU,dL,ef,jq,mh,qL⟩:=By dg hP dn aU
   have j5:=(mh q).1 j5
   rcases pC q hq with bl | bl
   ·exact a6 _ _ _ _ cr aU dn.symm q bl j5
   ·exact bl (dL.vk j5)
  by_cases av:dg=hO (fS i.bH)
  ·subst av
   rw [cr] at nv; cases nv
   exact KD j7 t2 dn.symm mX q oN pt
  ·by_cases aX:j7=hO (fS i.bH)
   ·subst aX
    rw [cr] at mX; cases mX
    exact KD dg t1 av nv q pt oN
   ·obtain⟨_,_,_,_,mh,_⟩:=By dg t1 av nv
    obtain⟨_,_,_,_,Ni,_⟩:=By j7 t2 aX mX
    exact a6 _ _ _ _ nv mX dn q ((mh q).1 oN) ((Ni q).1 pt)
end Go.Proofs.YtmnggbjcnoffeaaGreat
namespace Go.Proofs.YtmnggbjcnoffeaaGreat
open Go Gv
set_option linter.unusedVariables false
set_option linter.unusedSimpArgs false
set_option maxRecDepth 100000
theorem OT {own:Nat→Prop} {bT aa ae:a1 Cell} {q:Nat} (ax:∀ q,q∈ee bT→q∈ee aa) (cN:∀ q,q∈ee aa→q∈ee ae) (h:lV (lV own bT aa) aa ae q):lV own bT ae q:=by
 rcases h with(h | ⟨h,cX⟩) | ⟨h,cX⟩
 ·exact .inl h
 ·exact .inr ⟨h,cN q cX⟩
 ·exact .inr ⟨fun aD=>h (ax q aD),cX⟩
theorem nh.mono {s:aY} {hp:a1 Cell} {m:Nat} {l:List aJ} {own own':Nat→Prop} (h:nh s hp m l own) (bh:∀ q,own q→own' q):nh s hp m l own':=by
 obtain⟨em,aa,ae,aD,aZ,a6⟩:=h.ok
 exact⟨em,aa,bh m ae,fun dg r aU=>by obtain⟨t,g,e,a,b,c⟩:=aD dg r aU; exact⟨t,g,e,a,fun q hq=>bh q (b q hq),c⟩,aZ,a6⟩
theorem gw.grow {bT aa ae:a1 Cell} {own:Nat→Prop} (a:gw bT aa own) (b:gw aa ae (lV own bT aa)):gw bT ae own:=
 a.trans b fun q hq h=>h.elim (fun h=>h) fun h=>absurd hq h.1
theorem Vg {s:aY} {hp:a1 Cell} {m:Nat} {l:List aJ} {own:Nat→Prop} (hq:nh s hp m l own)
 {em:List (Vector al 4 × Ref)} (nu:jz hp m=some em) {dg:Vector al 4} (gM:dX em dg=none) {a:Nat} (bn:a ∉ ee hp) {z:fM} (eS:z.ey=32) (aU:z.cV=none):
 nh s (dH ((a,Cell.jB z) :: hp) m (.mQ (g3 em dg (some a)))) m l (lV own hp (dH ((a,Cell.jB z) :: hp) m (.mQ (g3 em dg (some a)))))∧gw hp (dH ((a,Cell.jB z) :: hp) m (.mQ (g3 em dg (some a)))) own∧
  jz (dH ((a,Cell.jB z) :: hp) m (.mQ (g3 em dg (some a)))) m=some (g3 em dg (some a)):=by
 obtain⟨Wu,aa,ae,aD,aZ,a6⟩:=hq.ok
 rw [nu] at aa; cases aa
 have mU:=oc nu
 have MV:=xL bn mU
 have cz:pat ((a,Cell.jB z) :: hp) m=some (.mQ em):=by rw [q2,if_neg MV]; exact mU
 generalize dB:dH ((a,Cell.jB z) :: hp) m (.mQ (g3 em dg (some a)))=dF
 have aw:jz dF m=some (g3 em dg (some a)):=by rw [← dB]; exact QT cz
 have a5:pat dF a=some (.jB z):=by rw [← dB,qY MV.symm,q2,if_pos rfl]
 have bA:∀ q,q≠m→q≠a→pat dF q=pat hp q:=fun q GO rT=>by rw [← dB,qY GO.symm,q2,if_neg rT.symm]
 have ax:gw hp dF own:=by
  rw [← dB]
  exact(gw.mk' (own:=own) bn).trans (gw.up ae) fun q _ h=>h
 have MW:gd dF a=some z:=qZ.2 a5
 have TX:ki dF a (fun _=>none):=⟨z,MW,eS,by rw [aU]; exact⟨fun bz p h=>(by rw [ib] at h; cases h),fun bz cs p h _=>(by rw [ib] at h; cases h)⟩,fun bz=>by rw [aU]; exact nb ib⟩
 have Fo:∀ q,Own dF a q→q=a:=fun q pA=>by
  rcases pA with h | ⟨c,bz,bl,cZ⟩
  ·exact h
  ·rw [MW] at bl; cases bl
   rw [aU,ib] at cZ; cases cZ
 have hold:∀ t g,ki hp t g→ki dF t g∧ ∀ q,Own dF t q↔Own hp t q:=fun t g cr=>cr.congr fun q pA=>by
  refine bA q (fun e=> ?_) fun e=>bn (by rw [← e]; exact cr.vk pA)
  rw [← e] at mU
  rcases cr.KC pA with⟨c,ar⟩ | ⟨c,ar⟩ <;> rw [ar] at mU <;> cases mU
 refine⟨⟨_,aw,.inl ae,fun j7 r lM=> ?_,fun j7 lM=> ?_,fun GP CO t1 t2 nv mX dn q oN pt=> ?_⟩,ax,aw⟩
 ·rw [xJ] at lM
  by_cases e:j7=dg
  ·rw [if_pos e] at lM; cases lM
   exact⟨a,_,rfl,TX,fun q pA=>by rw [Fo q pA]; exact .inr ⟨bn,kT a5⟩,fun bz n=>⟨fun h=>(by cases h),fun⟨i,au,bl,_⟩=>absurd (bl.trans e) (aZ dg gM i au)⟩⟩
  ·rw [if_neg e] at lM
   obtain⟨t,g,rfl,dL,ef,jq⟩:=aD j7 r lM
   obtain⟨ei,fA⟩:=hold t g dL
   exact⟨t,g,rfl,ei,fun q pA=> .inl (ef q ((fA q).1 pA)),jq⟩
 ·rw [xJ] at lM
  by_cases e:j7=dg
  ·rw [if_pos e] at lM; cases lM
  ·rw [if_neg e] at lM; exact aZ j7 lM
 ·rw [xJ] at nv mX
  have aq:∀ j7 hP,dX em j7=some (some hP)→ ∀ q,q=a→ ¬ Own dF hP q:=fun j7 hP CN q e pA=>by
   obtain⟨t,g,e',dL,_⟩:=aD j7 _ CN
   cases e'
   have:=(hold hP g dL).2 q |>.1 pA
   exact bn (by rw [← e]; exact dL.vk this)
  by_cases av:GP=dg
  ·rw [if_pos av] at nv; cases nv
   by_cases aX:CO=dg
   ·exact dn (av.trans aX.symm)
   ·rw [if_neg aX] at mX
    exact aq CO t2 mX q (Fo q oN) pt
  ·rw [if_neg av] at nv
   by_cases aX:CO=dg
   ·rw [if_pos aX] at mX; cases mX
    exact aq GP t1 nv q (Fo q pt) oN
   ·rw [if_neg aX] at mX
    obtain⟨t,g,e',dL,_⟩:=aD GP _ nv
    cases e'
    obtain⟨hP,e8,Gx,Ww,_⟩:=aD CO _ mX
    cases Gx
    exact a6 _ _ _ _ nv mX dn q (((hold _ _ dL).2 q).1 oN) (((hold _ _ Ww).2 q).1 pt)
theorem TY {s:aY} (h:c0 s) {hp:a1 Cell} {m:Nat} {l:List aJ} {own:Nat→Prop} (hq:nh s hp m l own) (fc:∀ q,own q→q∈ee hp) (an:js s 1 l) {i:aJ} (au:jM s 1 i) (ba:hL l i.bH=none):
 dU (wS hp ⟨0,32,⟨some m⟩⟩ i) (fun hp'=>nh s hp' m (l ++ [i]) (lV own hp hp')∧gw hp hp' own):=by
 obtain⟨em,nu,ae,aD,aZ,a6⟩:=hq.ok
 unfold wS
 refine .eq (J8 h au.fo _) (.eq rfl (.eq nu (.eq rfl ?_)))
 simp only
 refine .bind (P:=fun bB=>nh s bB m l (lV own hp bB)∧gw hp bB own∧ ∃ GQ t,jz bB m=some GQ∧dX GQ (hO (fS i.bH))=some (some t)) (.cond (fun ar=> ?_) fun ar=> .ret ?_) fun bB cz=> ?_
 ·have gM:dX em (hO (fS i.bH))=none:=by
   cases bx:dX em (hO (fS i.bH)) with
   | none=>rfl
   | some r=>
     obtain⟨t,_,rfl,_⟩:=aD _ _ bx
     rw [bx] at ar; cases ar
  unfold A5
  refine .bind (P:=fun r=> ∃ a,a ∉ ee hp∧r=((some a:Ref),(a,Cell.jB ({ (default:fM) with ey:=32 })) :: hp)) (.eq rfl (.mk fun a bn=> .ret ⟨a,bn,rfl⟩)) fun bc bl=> ?_
  obtain⟨a,bn,rfl⟩:=bl
  have l9:jz ((a,Cell.jB ({ (default:fM) with ey:=32 })) :: hp) m=some em:=(DA (hp:=hp) (by rw [q2,if_neg (xL bn (oc nu))])).trans nu
  obtain⟨aw,a5,bA⟩:=Vg hq nu gM bn (z:= { (default:fM) with ey:=32 }) rfl rfl
  refine .eq l9 (.eq rfl (.ret ⟨aw,a5,_,a,bA,by rw [xJ,if_pos rfl]⟩))
 ·cases bx:dX em (hO (fS i.bH)) with
  | none=>rw [bx] at ar; cases ar
  | some r=>
    obtain⟨t,_,rfl,_⟩:=aD _ _ bx
    exact⟨hq.mono fun q hq=> .inl hq,.refl,em,t,nu,bx⟩
 ·obtain⟨aw,a5,GQ,t,bA,cD⟩:=cz
  refine .eq bA (.eq rfl ?_)
  simp only [cD]
  refine .bind (Vf h aw (fun q hq=>hq.elim (fun hq=>a5.keys q (fc q hq)) fun hq=>hq.2) an au ba bA cD) fun r aU=> .ret ?_
  exact⟨aU.1.mono fun q hq=>OT a5.keys aU.2.keys hq,a5.grow aU.2⟩
theorem QU {hp:a1 Cell} {p:Nat} {k:Cell} {x:cF} {y:Option Nat} {n:Nat} (h:pat hp p=some k):nm (dH hp p (.rA x y n)) p=some (x,y,n):=by unfold nm; rw [vi h]
theorem TZ {s:aY} (h:c0 s) {k:Nat} (ax:k < 4) {hp:a1 Cell} {q:Nat} {l:List aJ} {own:Nat→Prop} (hq:yq s k hp q l own) (an:js s k l) {i:aJ} (au:jM s k i) (kA:j0 l i.cI=false) (hlen:l.length < 900):
 dU (w7 hp ⟨some q⟩ i) (fun hp'=>yq s k hp' q (l ++ [i]) (lV own hp hp')∧gw hp hp' own):=by
 obtain⟨key,cap,aa,ae⟩:=hq.ok
 unfold w7
 refine .eq rfl (.eq aa (.eq (R5 h ax an.ok au hlen) (.any fun az=> .eq rfl (.ret ?_))))
 rw [kA]
 exact⟨⟨az.1,az.2,QU (vb aa),.inl ae⟩,.up ae⟩
theorem T0 {s:aY} (h:c0 s) {k:Nat} (ax:k < 4) {hp:a1 Cell} {f:gm} {l:List aJ} {own:Nat→Prop} (hq:p6 s k hp f l own) (fc:∀ q,own q→q∈ee hp) (an:js s k l) {i:aJ} (au:jM s k i) (ba:hL l i.bH=none) (kA:j0 l i.cI=false) (hlen:l.length < 900):
 dU (Dh hp f i) (fun hp'=>p6 s k hp' f (l ++ [i]) (lV own hp hp')∧gw hp hp' own):=by
 rcases hq with⟨rfl,q,rfl,hq⟩ | ⟨rfl,m,rfl,hq⟩ | ⟨cN,q,rfl,hq⟩
 ·exact dU.of ((Ve h hq an au ba).mono fun hp' aU=>⟨.inl ⟨rfl,q,rfl,aU.1⟩,aU.2⟩)
 ·exact(TY h hq fc an au ba).mono fun hp' aU=>⟨.inr (.inl ⟨rfl,m,rfl,aU.1⟩),aU.2⟩
 ·exact(TZ h ax hq an au kA hlen).mono fun hp' aU=>⟨.inr (.inr ⟨cN,q,rfl,aU.1⟩),aU.2⟩
theorem Jx {α β:Type} [DecidableEq α]:∀ {l:List (α × β)} {x:α} {v:β},dX l x=some v→ (x,v)∈l
 | [],_,_,h=>by cases h
 | (k,w) :: r,x,v,h=>by
   unfold dX at h
   split at h
   ·rename_i e; cases h; rw [e]; simp
   ·exact List.mem_cons_of_mem _ (Jx h)
theorem J9 {α β:Type} [DecidableEq α]:∀ {l:List (α × β)} {x:α} {v:β},l.Pairwise (fun a c=>a.1≠c.1)→ (x,v)∈l→dX l x=some v
 | [],_,_,_,h=>by cases h
 | (k,w) :: r,x,v,aP,h=>by
   obtain⟨aa,ae⟩:=List.pairwise_cons.1 aP
   unfold dX
   rcases List.mem_cons.1 h with h | h
   ·cases h; rw [if_pos rfl]
   ·rw [if_neg (fun e=>aa _ h e.symm),J9 ae h]
theorem Jy {α β:Type} [DecidableEq α]:∀ {l:List (α × β)} {x:α} {v:β},dX l x=none→g3 l x v=l ++ [(x,v)]
 | [],_,_,_=>rfl
 | (k,w) :: r,x,v,h=>by
   unfold dX at h
   split at h
   ·cases h
   ·rename_i e
    show(if x=k then _ else _)=_
    rw [if_neg e,Jy h]; rfl
def vQ (em:List (Int × aJ)) (l:List aJ):Prop:=em.Perm (l.map fun i=>(i.cI,i))
theorem vQ.get {s:aY} {k:Nat} {em:List (Int × aJ)} {l:List aJ} (h:vQ em l) (an:kx s k l) (n:Int) (i:aJ):dX em n=some i↔i∈l∧i.cI=n:=by
 have hd:em.Pairwise (fun a c=>a.1≠c.1):=by
  refine(h.pairwise_iff fun ch=>Ne.symm ch).2 ?_
  rw [List.pairwise_map]
  exact an.num.imp fun ch=>ch
 have hm:(n,i)∈em↔i∈l∧i.cI=n:=by
  rw [h.mem_iff,List.mem_map]
  constructor
  ·rintro ⟨c,ar,e⟩
   cases e; exact⟨ar,rfl⟩
  ·rintro ⟨au,rfl⟩
   exact⟨i,au,rfl⟩
 rw [← hm]
 exact⟨Jx,J9 hd⟩
theorem vQ.no {s:aY} {k:Nat} {em:List (Int × aJ)} {l:List aJ} (h:vQ em l) (an:kx s k l) (n:Int):(dX em n).isSome=j0 l n:=by
 rw [Bool.eq_iff_iff,Option.isSome_iff_exists]
 unfold j0
 rw [List.any_eq_true]
 constructor
 ·rintro ⟨i,au⟩
  obtain⟨aa,ae⟩:=(h.get an n i).1 au
  exact⟨i,aa,by simpa using ae⟩
 ·rintro ⟨i,au,ae⟩
  exact⟨i,(h.get an n i).2 ⟨au,by simpa using ae⟩⟩
structure k4 (s:aY) (k:Nat) (hp:a1 Cell) (p:Nat) (l:List aJ) (own:Nat→Prop):Prop where
 pF:js s k l
 cell:∃ f m em,h2 hp p=some ⟨jO k,(gZ s k:Int),f,⟨some m⟩⟩∧mH hp m=some em∧own p∧own m∧vQ em l∧p6 s k hp f l (fun q=>own q∧q≠m∧q≠p)
 z5:∀ q,own q→q∈ee hp
theorem k4.congr {s:aY} {k:Nat} {hp hp':a1 Cell} {p:Nat} {l:List aJ} {own:Nat→Prop} (h:k4 s k hp p l own) (ax:∀ q,q∈ee hp→q∈ee hp') (bn:∀ q,own q→pat hp' q=pat hp q):k4 s k hp' p l own:=by
 obtain⟨f,m,em,aa,ae,aD,aZ,a6,bl⟩:=h.cell
 exact⟨h.pF,⟨f,m,em,by rw [Pt (bn p aD)]; exact aa,by rw [Pu (bn m aZ)]; exact ae,aD,aZ,a6,bl.congr (fun q _ hq=>hq) fun q hq=>bn q hq.1⟩,fun q hq=>ax q (h.z5 q hq)⟩
theorem k4.p7 {s:aY} {k:Nat} {hp hp':a1 Cell} {p:Nat} {l:List aJ} {own own':Nat→Prop} (h:k4 s k hp p l own) (ax:gw hp hp' own') (hd:∀ q,own q→ ¬ own' q):k4 s k hp' p l own:=
 h.congr ax.keys fun q hq=>ax.rest q (h.z5 q hq) (hd q hq)
theorem entry_eq {s:aY} (h:c0 s) {k:Nat} (ax:k < 4) {hp:a1 Cell} {p:Nat} {l:List aJ} {own:Nat→Prop} (aq:k4 s k hp p l own) {o:Option aJ} (bh:∀ i,o=some i→i∈l):wZ hp (some p) (ml o).1 (ml o).2=some (il o):=by
 obtain⟨f,m,em,aa,ae,aD,aZ,a6,bl⟩:=aq.cell
 refine bm.get ?_
 unfold wZ
 cases o with
 | none=>exact .cond (fun _=> .ret rfl) fun ar=>by cases ar
 | some i=>
   have au:=bh i rfl
   refine .cond (fun ar=>by cases ar) fun _=> .eq rfl (.eq aa (.eq rfl (.eq ae (.eq rfl ?_))))
   have bx:dX em i.cI=some i:=(a6.get aq.pF.ok _ _).2 ⟨au,rfl⟩
   show bm (Option.bind (m4 ((dX em i.cI).getD default)) _) _
   rw [bx]
   exact .eq (yn h ax (aq.pF.ok.ok i au)) (.ret rfl)
theorem Qq {s:aY} (h:c0 s) {k:Nat} (ax:k < 4) {hp:a1 Cell} {p:Nat} {l:List aJ} {own:Nat→Prop} (aq:k4 s k hp p l own) (dg:Vector al 4):wT hp (some p) dg=some (il (im s k l dg)):=by
 obtain⟨f,m,em,aa,ae,aD,aZ,a6,bl⟩:=aq.cell
 refine bm.get ?_
 unfold wT
 refine .cond (fun ar=>by cases ar) fun _=> ?_
 refine bm.loop 4 (fun i st=>st.1=(i:Int)∧ ∀ j,j < 4→bJ st.2 j=if j < i then(if j < gZ s k then bJ dg j else default) else bJ dg j) (by decide) ⟨rfl,fun j aG=>rfl⟩ (fun i st au hs=> ?_) (fun st hs=> ?_)
 ·obtain⟨j,v⟩:=st
  obtain⟨av,aX⟩:=hs
  simp only at av aX; subst av
  refine .cond (fun _=> .eq rfl (.eq aa ?_)) (fun ar=>by simp at ar; omega)
  refine .bind (P:=fun tU=> ∀ j,j < 4→bJ tU j=if j < i + 1 then(if j < gZ s k then bJ dg j else default) else bJ dg j) (.cond (fun ar=> .idx rfl au (.ret fun j aG=> ?_)) fun ar=> .ret fun j aG=> ?_) fun tU lG=> .ret ⟨eU (by omega),lG⟩
  ·have ar:gZ s k≤i:=by simp at ar; omega
   rw [hB _ _ au]
   by_cases iD:j=i
   ·rw [if_pos iD,if_pos (show j < i + 1 by omega),if_neg (show ¬ j < gZ s k by omega)]
   ·rw [if_neg iD,aX j aG]
    by_cases cl:j < i
    ·rw [if_pos cl,if_pos (show j < i + 1 by omega)]
    ·rw [if_neg cl,if_neg (show ¬ j < i + 1 by omega)]
  ·have ar:i < gZ s k:=by simp at ar; omega
   rw [aX j aG]
   by_cases iD:j=i
   ·rw [if_neg (show ¬ j < i by omega),if_pos (show j < i + 1 by omega),if_pos (show j < gZ s k by omega)]
   ·by_cases cl:j < i
    ·rw [if_pos cl,if_pos (show j < i + 1 by omega)]
    ·rw [if_neg cl,if_neg (show ¬ j < i + 1 by omega)]
 ·obtain⟨j,v⟩:=st
  obtain⟨av,aX⟩:=hs
  simp only at av aX; subst av
  refine⟨_,by simp; rfl,?_⟩
  have a2:v=jP (gZ s k) dg:=D0 fun j aG=>by rw [aX j aG,if_pos aG,lR aG]
  subst a2
  exact .eq rfl (.eq aa (.eq (TW h ax bl aq.pF dg) (.eq (entry_eq h ax aq fun i au=>RE au) (.ret rfl))))
end Go.Proofs.YtmnggbjcnoffeaaGreat
namespace Go.Proofs.YtmnggbjcnoffeaaGreat
open Go Gv
set_option linter.unusedVariables false
set_option linter.unusedSimpArgs false
set_option maxRecDepth 100000
theorem k4.mono {s:aY} {k:Nat} {hp:a1 Cell} {p:Nat} {l:List aJ} {own own':Nat→Prop} (h:k4 s k hp p l own) (bh:∀ q,own q→own' q) (au:∀ q,own' q→q∈ee hp):k4 s k hp p l own':=by
 obtain⟨f,m,em,aa,ae,aD,aZ,a6,bl⟩:=h.cell
 exact⟨h.pF,⟨f,m,em,aa,ae,bh p aD,bh m aZ,a6,bl.congr (fun q _ hq=>⟨bh q hq.1,hq.2⟩) fun q hq=>rfl⟩,au⟩
theorem js.nil {s:aY} {k:Nat} :js s k []:=⟨⟨fun i au=>by(cases au),.nil,by simp⟩,.nil⟩
def GR:Nat→Prop:=fun _=>False
theorem Sa {s:aY} (h:c0 s) {k:Nat} (ax:k < 4) (hp:a1 Cell):dU (m5 hp s ((k:Int) + 1)) (fun r=> ∃ p,r.1=some p∧k4 s k r.2 p [] (lV GR hp r.2)∧gw hp r.2 GR):=by
 refine(yW h ax hp).mono fun r aU=> ?_
 obtain⟨p,e,aU⟩:=aU
 obtain⟨c,m,aa,ae,aD,aZ,a6,bl,cZ,eN,gl,kt,py,z1⟩:=aU.cell
 obtain⟨WQ,aN,f,dS⟩:=c
 simp only at ae aD aZ bl cZ eN
 subst ae aD aZ
 have hm:=x7 a6
 have hp':=nc aa
 refine⟨p,e,⟨js.nil,⟨f,m,[],aa,a6,.inr ⟨gl,kT hp'⟩,.inr ⟨kt,kT hm⟩,List.Perm.refl _,?_⟩,fun q hq=>hq.elim (fun h=>h.elim) fun h=>h.2⟩,⟨py,fun q hq _=>z1 q hq⟩⟩
 have key:∀ q c,pat r.2 q=some c→ (∀ x,c≠ .lz x)→ (∀ x,c≠ .mP x)→q ∉ ee hp→lV GR hp r.2 q∧q≠m∧q≠p:=fun q c ar tX Hk aP=>
  ⟨.inr ⟨aP,kT ar⟩,fun e=>by rw [e,hm] at ar; cases ar; exact tX _ rfl,fun e=>by rw [e,hp'] at ar; cases ar; exact Hk _ rfl⟩
 have:k=0∨k=1∨2≤k:=by omega
 rcases this with rfl | rfl | cN
 ·obtain⟨q,cu,rfl,aw,a5,bA,cD⟩:=bl rfl
  exact .inl ⟨rfl,q,rfl,⟨cu,[],aw,a5,key q _ (u7 aw) (fun _ h=>by cases h) (fun _ h=>by cases h) bA,key cu _ (sF a5) (fun _ h=>by cases h) (fun _ h=>by cases h) cD,fun dg n=>⟨fun h=>(by cases h),fun⟨i,au,_⟩=>(by cases au)⟩⟩⟩
 ·obtain⟨eL,rfl,aw,a5⟩:=cZ rfl
  exact .inr (.inl ⟨rfl,eL,rfl,⟨[],aw,key eL _ (oc aw) (fun _ h=>by cases h) (fun _ h=>by cases h) a5,fun dg r h=>(by cases h),fun dg _ i au=>(by cases au),fun dg j7 t hP h=>(by cases h)⟩⟩)
 ·obtain⟨q,WS,cap,rfl,aw,a5⟩:=eN cN
  exact .inr (.inr ⟨cN,q,rfl,⟨WS,cap,aw,key q _ (vb aw) (fun _ h=>by cases h) (fun _ h=>by cases h) a5⟩⟩)
theorem js.snoc {s:aY} {k:Nat} {l:List aJ} (h:js s k l) {i:aJ} (au:jM s k i) (ba:hL l i.bH=none) (aP:j0 l i.cI=false) (an:l.length < 900):js s k (l ++ [i]) where
 ok:=h.ok.snoc au aP an
 key:=by
  rw [List.pairwise_append]
  exact⟨h.key,by simp,fun a bn c ar=>by rw [List.mem_singleton.1 ar]; exact uX ba a bn⟩
theorem KE (o:Option aJ):(ml o).2=o.isSome:=by cases o <;> rfl
def tN (l:List aJ) (i:aJ):Bool:=(hL l i.bH).isNone && !j0 l i.cI
def added (l:List aJ) (i:aJ):List aJ:=if tN l i=true then l ++ [i] else l
theorem Sb {s:aY} (h:c0 s) {k:Nat} (ax:k < 4) {hp:a1 Cell} {p:Nat} {l:List aJ} {own:Nat→Prop} (aq:k4 s k hp p l own) {i:aJ} (au:jM s k i) (hlen:l.length < 900):
 dU (w8 hp (some p) i) (fun r=>r.1=tN l i∧k4 s k r.2 p (added l i) (lV own hp r.2)∧gw hp r.2 own):=by
 obtain⟨f,m,em,aa,ae,aD,aZ,a6,bl⟩:=aq.cell
 have hm:=x7 ae
 have hp':=nc aa
 have mU:p≠m:=fun e=>by rw [e,hm] at hp'; cases hp'
 have gM:=a6.no aq.pF.ok i.cI
 unfold w8
 refine .cond (fun ar=>by cases ar) fun _=> .eq rfl (.eq aa (.eq rfl (.eq ae (.eq rfl (.eq rfl (.eq aa (.eq (TR h ax bl aq.pF au.fo) (.cond (fun ar=> .ret ?_) fun ar=> ?_))))))))
 ·rw [gM,KE,Bool.or_eq_true] at ar
  have cr:tN l i=false:=by
   unfold tN
   rcases ar with ar | ar
   ·cases ba:hL l i.bH with
    | none=>rw [ba] at ar; cases ar
    | some _=>rfl
   ·rw [ar]; simp
  refine⟨cr.symm,?_,.refl⟩
  unfold added
  rw [cr]
  exact aq.mono (fun q hq=> .inl hq) fun q hq=>hq.elim (aq.z5 q) fun hq=>absurd hq.2 hq.1
 ·rw [gM,KE,Bool.or_eq_false_iff] at ar
  obtain⟨cd,cS⟩:=ar
  have ba:hL l i.bH=none:=by
   cases ba:hL l i.bH with
   | none=>rfl
   | some _=>rw [ba] at cd; cases cd
  have cr:tN l i=true:=by unfold tN; rw [ba,cS]; rfl
  have bx:dX em i.cI=none:=by
   cases bx:dX em i.cI with
   | none=>rfl
   | some _=>rw [bx,cS] at gM; cases gM
  have az:pat (dH hp m (Cell.lz (g3 em i.cI i))) p=some (.mP ⟨jO k,(gZ s k:Int),f,⟨some m⟩⟩):=by rw [qY mU.symm]; exact hp'
  have f1:p6 s k (dH hp m (Cell.lz (g3 em i.cI i))) f l (fun q=>own q∧q≠m∧q≠p):=bl.congr (fun q _ hq=>hq) fun q hq=>qY hq.2.1.symm
  refine .eq rfl (.eq aa (.eq (yn h ax au) (.eq rfl (.eq ae (.eq rfl (.eq (by unfold h2; rw [az]) (.bind (T0 h ax f1 (fun q hq=>by rw [sA]; exact aq.z5 q hq.1) aq.pF au ba cS hlen) fun h7 aU=> .ret ⟨cr.symm,?_,?_⟩)))))))
  ·obtain⟨mj,ia⟩:=aU
   have dL:pat h7 p=some (.mP ⟨jO k,(gZ s k:Int),f,⟨some m⟩⟩):=by rw [ia.rest p (kT az) (fun hq=>hq.2.2 rfl)]; exact az
   have ef:pat h7 m=some (.lz (g3 em i.cI i)):=by
    have:pat (dH hp m (Cell.lz (g3 em i.cI i))) m=some (.lz (g3 em i.cI i)):=vi hm
    rw [ia.rest m (kT this) (fun hq=>hq.2.1 rfl)]; exact this
   unfold added
   rw [if_pos cr]
   refine⟨aq.pF.snoc au ba cS hlen,⟨f,m,_,by unfold h2; rw [dL],by unfold mH; rw [ef],.inl aD,.inl aZ,?_,mj.congr (fun q _ hq=> ?_) fun q _=>rfl⟩,fun q hq=> ?_⟩
   ·unfold vQ
    rw [Jy bx,List.map_append]
    exact List.Perm.append_right _ a6
   ·rcases hq with hq | ⟨aw,a5⟩
    ·exact⟨.inl hq.1,hq.2⟩
    ·rw [sA] at aw
     exact⟨.inr ⟨aw,a5⟩,fun e=>aw (e ▸ kT hm),fun e=>aw (e ▸ kT hp')⟩
   ·rcases hq with hq | hq
    ·exact ia.keys q (by rw [sA]; exact aq.z5 q hq)
    ·exact hq.2
  ·exact(gw.up (own:=own) aZ).trans aU.2 fun q _ hq=>hq.1
end Go.Proofs.YtmnggbjcnoffeaaGreat
namespace Go.Proofs.YtmnggbjcnoffeaaGreat
open Go Gv
set_option linter.unusedVariables false
set_option linter.unusedSimpArgs false
set_option maxRecDepth 100000
theorem QV {s:aY} (h:c0 s) {k:Nat} (ax:k < 4) {x:Int} (em:qT x (s.bQ.length:Int)=some (k:Int)) (hp:a1 Cell) (c:bk) (ar:gi c) (n:Nat) (aP:n≤100):
 dU (xq hp s c x (n:Int)) (fun r=> ∃ p own,r.1=some p∧k4 s k r.2.2.2 p r.2.1 own∧r.2.1.length≤n∧ (∀ i∈r.2.1,0≤i.cI∧i.cI < (n:Int))∧gi r.2.2.1):=by
 unfold xq
 have Wx:=(h.ik ax).1
 refine .eq em (.idx rfl (by rw [h.jZ]; exact ax) ?_)
 rw [Wx]
 refine .bind (Sa h ax hp) fun aO ae=> ?_
 obtain⟨p,e,aq,_⟩:=ae
 obtain⟨Xv,dF⟩:=aO
 simp only at e aq
 subst e
 refine .bind (P:=fun av=> ∃ own,k4 s k av.2.2.2.2 p av.2.2.1 own∧av.2.2.1.length≤n∧ (∀ i∈av.2.2.1,0≤i.cI∧i.cI < (n:Int))∧gi av.2.2.2.1)
  (dU.loop n (fun j st=> ∃ l jr hp' own,st=((j:Int),l,jr,hp')∧k4 s k hp' p l own∧l.length≤j∧ (∀ i∈l,0≤i.cI∧i.cI < (j:Int))∧gi jr) (by omega) ⟨[],c,dF,_,rfl,aq,by simp,by simp,ar⟩ (fun j st aG hs=> ?_) (fun st hs=> ?_)) fun av aa=> .ret ⟨p,aa.elim fun own h=>⟨own,rfl,h⟩⟩
 ·obtain⟨l,jr,hp',own,rfl,aq,qC,vR,mf⟩:=hs
  refine .cC (P:=fun _=>True) (fun _=>QN _) fun bc _=> .cond (fun ar=> ?_) fun ar=> .ret ⟨own,aq,Nat.le_trans qC (by omega),fun i au=>by have:=vR i au; omega,mf⟩
  refine .lJ (Qh jr x mf h) fun br ⟨aZ,k',jI,qu,he⟩=> .eq rfl ?_
  have ks:k'=k:=by rw [em] at qu; simp only [Option.some.injEq] at qu; omega
  subst ks
  have au:jM s k' { bH:=br.1,cI:=(j:Int),kE:=1 } :=⟨he⟩
  refine .bind (Sb h ax aq au (by omega)) fun cx a6=> ?_
  obtain⟨aw,a5,bA⟩:=a6
  obtain⟨Xw,h7⟩:=cx
  simp only at aw a5 bA
  refine .eq (a:=added l { bH:=br.1,cI:=(j:Int),kE:=1 }) ?_ (.ret ⟨_,br.2,h7,_,by rw [eU (by omega)],a5,?_,?_,aZ⟩)
  ·simp only [aw]
   unfold added
   cases tN l { bH:=br.1,cI:=(j:Int),kE:=1 }
   ·rfl
   ·show(gB 88 l [_]).bind (fun dr=>some dr)=_
    rw [h0 _ _ (by simp; omega) (by omega)]; rfl
  ·unfold added; split
   ·simp; omega
   ·omega
  ·intro i v3
   have:i∈l∨i= { bH:=br.1,cI:=(j:Int),kE:=1 } :=by
    unfold added at v3
    split at v3
    ·simpa using v3
    ·exact .inl v3
   rcases this with bl | rfl
   ·have:=vR i bl; omega
   ·simp only; omega
 ·obtain⟨l,jr,hp',own,rfl,aq,qC,vR,mf⟩:=hs
  refine .cC (P:=fun _=>True) (fun ar=>by simp at ar) fun bc _=> .cond (fun ar=>by simp at ar) fun ar=> .ret ⟨own,aq,qC,vR,mf⟩
theorem OU (hp:a1 Cell) (J aj:List (BitVec 8)) (aS:Int) (cn:List (Vector al 4)):dU (w5 hp J aj aS cn) (fun r=>r.1=true):=by
 unfold w5
 refine .lJ (Eo J 120 (by omega) (by omega)) fun ak aa=> .lJ (IC ak aa) fun aO ae=> .lJ (Eo aj 200 (by omega) (by omega)) fun bc aD=> ?_
 obtain⟨s,XQ⟩:=aO
 obtain⟨h,_⟩:=ae
 simp only at h ⊢
 obtain⟨m,em,gV,cz⟩:=JU aS (s.bQ.length:Int) (by rw [h.jZ]; omega) (by rw [h.jZ]; omega)
 obtain⟨k,rfl⟩:=Int.eq_ofNat_of_zero_le gV
 have ax:k < 4:=by have:=h.jZ; omega
 refine .bind (QV h ax em hp bc aD 12 (by omega)) fun br aZ=> ?_
 obtain⟨XR,l,jr,dF⟩:=br
 obtain⟨p,own,rfl,aq,hlen,vR,mf⟩:=aZ
 simp only at aq hlen vR mf
 have an:=aq.pF.ok
 refine .eq (a:=cn.take 4) (by unfold pW; rw [if_pos ⟨by omega,by omega,by omega⟩]; congr 1; simp only [List.drop_zero,Int.toNat_zero,Nat.sub_zero]; rw [show(min (cn.length:Int) 4).toNat=min cn.length 4 by omega]; rw [List.take_eq_take_iff]; omega) ?_
 have Xx:(cn.take 4).length≤4:=by rw [List.length_take]; omega
 refine .eq (h0 _ _ (by simp only [List.length_nil]; omega) (by omega)) (.lJ (I1 _ mf) fun dC cZ=> .eq (h0 _ _ (by simp only [List.nil_append,List.length_cons,List.length_nil]; omega) (by omega)) ?_)
 refine .lJ (P:=fun av=>av.2.2.2.length≤5 + l.length) (bm.Lq l.length (fun i st=> ∃ (c:bk) (bf:List (Vector al 4)),st=((i:Int),c,bf)∧gi c∧bf.length≤5 + i) (by omega) ⟨_,_,rfl,cZ,by simp only [List.nil_append,List.length_append,List.length_cons,List.length_nil]; omega⟩ (fun i st au hs=> ?_) (fun st hs=> ?_)) fun av Wy=> ?_
 ·obtain⟨c,bf,rfl,aw,a5⟩:=hs
  refine .cond (fun _=> ?_) (fun ar=>by simp at ar; omega)
  have zM:=((an.ok (aF l i) (by rw [fx _ au]; exact List.getElem_mem _)).small h ax).1
  refine .idx rfl au ((I1 _ aw).bind fun kL rU=>(PF _ _ (show(aF l i).bH.bW.length < 2 ^ 30 by omega)).bind fun pr _=> .eq (h0 _ _ (by simp only [List.length_cons,List.length_nil]; omega) (by omega)) (.ret ⟨kL.2,bf ++ [pr],?_,rU,by simp; omega⟩))
  rw [eU (by omega)]
 ·obtain⟨c,bf,rfl,aw,a5⟩:=hs
  exact .cond (fun ar=>by simp at ar) fun _=> .ret a5
 obtain⟨i0,G9,cd,bf⟩:=av
 simp only at Wy ⊢
 refine .lJ (P:=fun aX=> ∃ a,aX= .inl a) (bm.Lq bf.length (fun i st=>st=(i:Int)) (by omega) rfl (fun i st au hs=> ?_) (fun st hs=> ?_)) fun aX Wz=> ?_
 ·subst hs
  refine .cond (fun _=> ?_) (fun ar=>by simp at ar; omega)
  refine .idx rfl au (.eq (Qq h ax aq _) (.eq (RA h ax an _) ?_))
  have hw:=Qn h ax an.ew.1 (fun c=>mt s k (aF bf i) c.bH)
  show bm (Option.bind (cC ((il (im s k l (aF bf i))).2 !=(il (im s k l (aF bf i))).2) false (uN (il (im s k l (aF bf i))).1 (il (im s k l (aF bf i))).1)) _) _
  rw [show((il (im s k l (aF bf i))).2 !=(il (im s k l (aF bf i))).2)=false by simp]
  unfold cC
  rw [if_pos rfl]
  refine .eq (Qm hw.1 hw.2) (.cond (fun ar=> ?_) fun _=> .ret (eU (by omega)))
  have:((il (im s k l (aF bf i))).2 !=(il (im s k l (aF bf i))).2)=false:=by simp
  simp only [im] at this ar
  rw [this] at ar; cases ar
 ·subst hs
  exact .cond (fun ar=>by simp at ar) fun _=> .ret ⟨_,rfl⟩
 obtain⟨a,rfl⟩:=Wz
 simp only [Sum.elim_inl]
 exact .bind (RC dF) fun kL rU=> .ret rU
theorem OH (J aj:List (BitVec 8)) (aS:Int) (cn:List (Vector al 4)):w5 [] J aj aS cn (fun r=>r.1=true):=(OU [] J aj aS cn).run
end Go.Proofs.YtmnggbjcnoffeaaGreat
