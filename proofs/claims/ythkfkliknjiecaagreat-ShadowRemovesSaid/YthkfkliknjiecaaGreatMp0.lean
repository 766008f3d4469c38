/-
  What the programs compute, in plain Lean. Conditions: none.
-/
import Derived.Test.YthkfkliknjiecaaGreatMl0
import Derived.Test.YthkfkliknjiecaaGreatMl2
import Derived.Test.YthkfkliknjiecaaGreatMd
set_option maxRecDepth 100000
namespace Gv
open Go
theorem NS {σ ε:Type} {body:σ→Option (σ ⊕ ε)} {Q:ε→Prop} {cw:σ} (m:Nat) (fS:Nat→σ→Prop)
 (hm:m<2 ^ 80) (bT:fS 0 cw)
 (hs:∀ k s,k<m→fS k s→ (∃ cl,body s=some (.inl cl)∧fS (k+1) cl)∨ (∃ e,body s=some (.inr e)∧Q e))
 (he:∀ s,fS m s→ ∃ e,body s=some (.inr e)∧Q e):∃ e,ey ec body cw=some e∧Q e:=by
 have key:∀ n k s,k≤m→m - k<n→fS k s→ ∃ e,ey n body s=some e∧Q e:=by
  intro n
  induction n with
  | zero=>intro k s _ h; omega
  | succ n bR=>
    intro k s aw aR ak
    by_cases tq:k=m
    ·subst tq
     obtain⟨e,aa,ad⟩:=he s ak
     exact⟨e,by simp [ey,aa],ad⟩
    rcases hs k s (by omega) ak with⟨cl,aa,ad⟩ | ⟨e,aa,ad⟩
    ·obtain⟨e,aF,aX⟩:=bR (k+1) cl (by omega) (by omega) ad
     exact⟨e,by simp [ey,aa,aF],aX⟩
    exact⟨e,by simp [ey,aa],ad⟩
 exact key ec 0 cw (by omega) (by unfold ec; omega) bT
def bl {β:Type} (m:Option β) (P:β→Prop):Prop:= ∃ r,m=some r∧P r
theorem bl.ret {β:Type} {P:β→Prop} {r:β} (h:P r):bl (some r) P:=⟨r,rfl,h⟩
theorem bl.bind {α β:Type} {m:Option α} {f:α→Option β} {P:α→Prop} {Q:β→Prop} (h:bl m P) (k:∀ a,P a→bl (f a) Q):bl (m.bind f) Q:=by
 obtain⟨a,aa,ad⟩:=h
 rw [aa]; exact k a ad
theorem bl.eq {α β:Type} {m:Option α} {a:α} {f:α→Option β} {Q:β→Prop} (h:m=some a) (k:bl (f a) Q):bl (m.bind f) Q:=by
 rw [h]; exact k
theorem bl.mono {β:Type} {m:Option β} {P Q:β→Prop} (h:bl m P) (k:∀ a,P a→Q a):bl m Q:=by
 obtain⟨a,aa,ad⟩:=h
 exact⟨a,aa,k a ad⟩
theorem bl.of_eq {β:Type} {m:Option β} {r:β} {P:β→Prop} (h:bl m P) (k:m=some r):P r:=by
 obtain⟨a,aa,ad⟩:=h
 rw [k] at aa; cases aa; exact ad
theorem bl.cond {β:Type} {b:Bool} {m n:Option β} {P:β→Prop} (aa:b=true→bl m P) (ad:b=false→bl n P):bl (cond b m n) P:=by
 cases b
 ·exact ad rfl
 exact aa rfl
theorem bl.c0 {α β:Type} [Inhabited α] {b w:Bool} {m:Option α} {f:α→Option β} {P:α→Prop} {Q:β→Prop} (h:b=w→bl m P) (k:∀ a,(b=w→P a)→bl (f a) Q):bl ((c0 b w m).bind f) Q:=by
 unfold Gv.c0
 by_cases hb:b=w
 ·rw [if_pos hb]; exact(h hb).bind fun a bp=>k a fun _=>bp
 rw [if_neg hb]; exact k default fun h=>absurd h hb
theorem bl.loop {σ ε β:Type} {body:σ→Option (σ ⊕ ε)} {f:ε→Option β} {P:β→Prop} {cw:σ} (m:Nat) (fS:Nat→σ→Prop)
 (hm:m<2 ^ 80) (bT:fS 0 cw)
 (hs:∀ k s,k<m→fS k s→bl (body s) (fun x=>match x with | .inl cl=>fS (k+1) cl | .inr e=>bl (f e) P))
 (he:∀ s,fS m s→ ∃ e,body s=some (.inr e)∧bl (f e) P):bl ((ey ec body cw).bind f) P:=by
 obtain⟨e,aa,ad⟩:=NS (Q:=fun e=>bl (f e) P) m fS hm bT (fun k s aw ak=>by
  obtain⟨r,aa,ad⟩:=hs k s aw ak
  cases r with
  | inl cl=>exact .inl ⟨cl,aa,ad⟩
  | inr e=>exact .inr ⟨e,aa,ad⟩) he
 rw [aa]; exact ad
theorem bl.yI {σ ε:Type} {body:σ→Option (σ ⊕ ε)} {P:ε→Prop} {cw:σ} (m:Nat) (fS:Nat→σ→Prop)
 (hm:m<2 ^ 80) (bT:fS 0 cw)
 (hs:∀ k s,k<m→fS k s→bl (body s) (fun x=>match x with | .inl cl=>fS (k+1) cl | .inr e=>P e))
 (he:∀ s,fS m s→bl (body s) (fun x=>match x with | .inl _=>False | .inr e=>P e)):bl (ey ec body cw) P:=by
 obtain⟨e,aa,ad⟩:=NS (Q:=P) m fS hm bT (fun k s aw ak=>by
  obtain⟨r,aa,ad⟩:=hs k s aw ak
  cases r with
  | inl cl=>exact .inl ⟨cl,aa,ad⟩
  | inr e=>exact .inr ⟨e,aa,ad⟩) fun s ak=>by
  obtain⟨r,aa,ad⟩:=he s ak
  cases r with
  | inl cl=>exact ad.elim
  | inr e=>exact⟨e,aa,ad⟩
 exact⟨e,aa,ad⟩
theorem bl.idx {β:Type} {n:Nat} {i:Int} {k:Nat} {f:Nat→Option β} {Q:β→Prop} (ak:i=k) (aw:k<n) (h:bl (f k) Q):bl ((Gv.idx n i).bind f) Q:=by
 subst ak
 have:Gv.idx n (k:Int)=some k:=by unfold Gv.idx; rw [if_pos (by omega)]; simp
 rw [this]; exact h
theorem gp {α:Type} [Inhabited α] {n:Nat} (v:Vector α n) {k:Nat} (x:α) (aw:k<n) (j:Nat):br (c5 v k x) j=if j=k then x else br v j:=by
 unfold br c5
 by_cases h:j=k
 ·subst h; simp [aw]
 rw [if_neg h,Vector.getElem?_setIfInBounds_ne (by omega)]
theorem EG {α:Type} [Inhabited α] {n:Nat} {v w:Vector α n} (h:∀ j,j<n→br v j=br w j):v=w:=by
 apply Vector.ext
 intro i ak
 have:=h i ak
 simpa [br,ak] using this
theorem x3 {α:Type} [Inhabited α] {n:Nat} (j:Nat):br (default:Vector α n) j=default:=by
 show br (Vector.replicate n default) j=default
 unfold br
 by_cases h:j<n <;> simp [h]
theorem oS {n k:Nat} (h:k<n):idx n (k:Int)=some k:=by
 unfold idx; rw [if_pos (by omega)]; simp
theorem vT {n:Nat} {i:Int} (h:0≤i) (dc:i<n):idx n i=some i.toNat:=by
 unfold idx; rw [if_pos ⟨h,dc⟩]
theorem eT {k:Nat} (h:k<2 ^ 62):bs ((k:Int)+1)=((k+1:Nat):Int):=by
 rw [hC (by omega) (by omega)]; simp
theorem oT {k:Nat} (h:k<2 ^ 64):(BitVec.ofInt 64 (k:Int)).toNat=k:=by
 simp; omega
theorem Ox (x:BitVec 64):((x&&&1#64)==1#64)=x.getLsbD 0:=by
 rw [BitVec.and_one_eq_setWidth_ofBool_getLsbD]
 cases x.getLsbD 0 <;> rfl
theorem WD (x:BitVec 64) (n:Nat):(((x >>> n)&&&1#64)==1#64)=x.getLsbD n:=by
 rw [Ox]; simp
theorem yd {α β:Type} [Inhabited α] [Inhabited β] (f:α→β) {l:List α} {k:Nat} (aw:k<l.length):az (l.map f) k=f (az l k):=by
 rw [e0 l aw,e0 _ (by simpa using aw),List.getElem_map]
theorem sn {α:Type} [Inhabited α] (l:List α) {k:Nat} (aw:k<l.length):l.take (k+1)=l.take k++[az l k]:=by
 rw [List.take_add_one,List.getElem?_eq_getElem aw,e0 l aw]; rfl
theorem Oy {α:Type} [Inhabited α] {xs:List α} {p:α→Bool} {k:Nat} (aw:k<xs.length) (hp:p (az xs k)=true) (aE:∀ j,j<k→p (az xs j)=false):xs.find? p=some (az xs k):=by
 rw [List.find?_eq_some_iff_getElem]
 refine⟨hp,k,aw,(e0 xs aw).symm,fun j qX=>?_⟩
 have:=aE j qX
 rw [e0 xs (by omega)] at this
 simp [this]
theorem Oz {α:Type} {xs:List α} {p:α→Bool} (h:∀ x∈xs,p x=false):xs.find? p=none:=
 List.find?_eq_none.2 fun x aq=>by simp [h x aq]
def eC {α:Type} (m:aI α) (P:α→Prop):Prop:= ∀ Q:α→Prop,(∀ r,P r→Q r)→m Q
theorem eC.run {α:Type} {m:aI α} {P:α→Prop} (h:eC m P):m P:=h P fun _ h=>h
theorem eC.ret {α:Type} {P:α→Prop} {x:α} (h:P x):eC (aI.ret x) P:=fun Q k=>k x h
theorem eC.bind {α β:Type} {m:aI α} {f:α→aI β} {P:α→Prop} {rb:β→Prop} (h:eC m P) (k:∀ r,P r→eC (f r) rb):eC (aI.bind m f) rb:=fun Q hq=>h _ fun r aQ=>k r aQ Q hq
theorem eC.of {α:Type} {o:Option α} {P:α→Prop} (h:bl o P):eC (aI.of o) P:=fun Q hq=>let⟨r,aa,ad⟩:=h; ⟨r,aa,hq r ad⟩
theorem eC.nJ {α β:Type} {o:Option α} {f:α→aI β} {P:α→Prop} {rb:β→Prop} (h:bl o P) (k:∀ r,P r→eC (f r) rb):eC (aI.bind (aI.of o) f) rb:= .bind (.of h) k
theorem eC.eq {α β:Type} {o:Option α} {a:α} {f:α→aI β} {rb:β→Prop} (h:o=some a) (k:eC (f a) rb):eC (aI.bind (aI.of o) f) rb:=fun Q hq=>⟨a,h,k Q hq⟩
theorem eC.mono {α:Type} {m:aI α} {P rb:α→Prop} (h:eC m P) (k:∀ r,P r→rb r):eC m rb:=fun Q hq=>h Q fun r aQ=>hq r (k r aQ)
theorem eC.cond {α:Type} {b:Bool} {m n:aI α} {P:α→Prop} (aa:b=true→eC m P) (ad:b=false→eC n P):eC (cond b m n) P:=by
 cases b
 ·exact ad rfl
 exact aa rfl
theorem eC.c0 {α β:Type} [Inhabited α] {b w:Bool} {m:Option α} {f:α→aI β} {P:α→Prop} {Q:β→Prop} (h:b=w→bl m P) (k:∀ a,(b=w→P a)→eC (f a) Q):eC (aI.bind (aI.of (c0 b w m)) f) Q:=by
 unfold Gv.c0
 by_cases hb:b=w
 ·rw [if_pos hb]; exact .nJ (h hb) fun a bp=>k a fun _=>bp
 rw [if_neg hb]; exact .eq rfl (k default fun h=>absurd h hb)
theorem eC.idx {β:Type} {n:Nat} {i:Int} {k:Nat} {f:Nat→aI β} {Q:β→Prop} (ak:i=k) (aw:k<n) (h:eC (f k) Q):eC (aI.bind (aI.of (Gv.idx n i)) f) Q:=by
 subst ak
 exact .eq (oS aw) h
theorem eC.mk {cd β:Type} {hp:a1 cd} {c:cd} {f:Nat×a1 cd→aI β} {P:β→Prop} (k:∀ p,p ∉ fh hp→eC (f (p,(p,c)::hp)) P):eC (aI.bind (aI.mk hp c) f) P:=fun Q hq=>fun a bp=>by
 obtain⟨p,hp'⟩:=a
 obtain⟨aa,ad⟩:=bp
 simp only at aa ad
 subst ad
 exact k p aa Q hq
theorem eC.any {α β:Type} {f:α→aI β} {P:β→Prop} (k:∀ x,eC (f x) P):eC (aI.bind (aI.any α) f) P:=fun Q hq x=>k x Q hq
theorem eC.loop {σ ε:Type} {body:σ→aI (σ ⊕ ε)} {P:ε→Prop} {cw:σ} (m:Nat) (fS:Nat→σ→Prop) (hm:m<2 ^ 80) (bT:fS 0 cw)
 (hs:∀ k s,k<m→fS k s→eC (body s) (fun x=>match x with | .inl cl=>fS (k+1) cl | .inr e=>P e))
 (he:∀ s,fS m s→eC (body s) (fun x=>match x with | .inl _=>False | .inr e=>P e)):eC (pK ec body cw) P:=by
 have key:∀ n k s,k≤m→m - k<n→fS k s→eC (pK n body s) P:=by
  intro n
  induction n with
  | zero=>intro k s _ h; omega
  | succ n bR=>
    intro k s aw aR ak Q hq
    by_cases tq:k=m
    ·subst tq
     exact he s ak _ fun r aQ=>by
      cases r with
      | inl cl=>exact aQ.elim
      | inr e=>exact hq e aQ
    exact hs k s (by omega) ak _ fun r aQ=>by
     cases r with
     | inl cl=>exact bR (k+1) cl (by omega) (by omega) aQ Q hq
     | inr e=>exact hq e aQ
 exact key ec 0 cw (by omega) (by unfold ec; omega) bT
theorem ue {cd:Type} {hp:a1 cd} {p q:Nat} {k:cd} :pat ((p,k)::hp) q=if p=q then some k else pat hp q:=rfl
theorem WE {cd:Type} {hp:a1 cd} {p:Nat} (h:p ∉ fh hp):pat hp p=none:=by
 cases e:pat hp p with
 | none=>rfl
 | some k=>exact absurd (k7 e) h
theorem wb {cd:Type} {hp:a1 cd} {p:Nat} {k k':cd} (h:pat hp p=some k'):pat (dr hp p k) p=some k:=by rw [Bb,if_pos rfl,h]; rfl
theorem nX {cd:Type} {hp:a1 cd} {p q:Nat} {k:cd} (h:p≠q):pat (dr hp p k) q=pat hp q:=by rw [Bb,if_neg h]
theorem AQ {α β:Type} [DecidableEq α] {l:List (α×β)} {x y:α} {v:β} :dX (hc l x v) y=if y=x then some v else dX l y:=by
 induction l with
 | nil=>
   show(if y=x then some v else dX [] y)=_
   rfl
 | cons a r bR=>
   obtain⟨k,w⟩:=a
   simp only [hc]
   by_cases h:x=k
   ·rw [if_pos h]
    simp only [dX]
    by_cases ad:y=x
    ·simp [ad]
    simp [ad,show ¬ y=k from fun e=>ad (by rw [e,h])]
   rw [if_neg h]
   simp only [dX]
   by_cases ad:y=k
   ·subst ad; simp [show ¬ y=x from fun e=>h e.symm]
   rw [if_neg ad,bR,if_neg ad]
end Gv
namespace Go.Proofs.YthkfkliknjiecaaGreat
open Go Gv
def fE (b:Bool):Nat:=bif b then 1 else 0
def c4 (hp:a1 Cell):Ref→List Bool→Ref
 | none,_=>none
 | some p,[]=>some p
 | some p,b::a5=>match cW hp p with
   | none=>none
   | some c=>c4 hp (br c.c8 (fE b)) a5
theorem gO {hp:a1 Cell} {a5:List Bool} :c4 hp none a5=none:=by cases a5 <;> rfl
theorem mu {hp:a1 Cell} {r:Ref} :c4 hp r []=r:=by cases r <;> rfl
theorem hY {hp:a1 Cell} {p:Nat} {c:dM} {b:Bool} {a5:List Bool} (h:cW hp p=some c):c4 hp (some p) (b::a5)=c4 hp (br c.c8 (fE b)) a5:=by
 show(match cW hp p with | none=>none | some c=>c4 hp (br c.c8 (fE b)) a5)=_
 rw [h]
theorem lZ {hp:a1 Cell} :∀ {r:Ref} {a5 cs:List Bool},c4 hp r (a5++cs)=c4 hp (c4 hp r a5) cs
 | none,a5,cs=>by rw [gO,gO,gO]
 | some p,[],cs=>by rw [List.nil_append,mu]
 | some p,b::a5,cs=>by
   cases e:cW hp p with
   | none=>
     have aa:∀ xs,c4 hp (some p) (b::xs)=none:=fun xs=>by
      show(match cW hp p with | none=>none | some c=>c4 hp (br c.c8 (fE b)) xs)=_
      rw [e]
     rw [List.cons_append,aa,aa,gO]
   | some c=>rw [List.cons_append,hY e,hY e,lZ]
theorem Nt {hp hp':a1 Cell} :∀ {r:Ref} {a5:List Bool},(∀ p cs,c4 hp r cs=some p→cW hp' p=cW hp p)→c4 hp' r a5=c4 hp r a5
 | none,a5,_=>by rw [gO,gO]
 | some p,[],_=>rfl
 | some p,b::a5,h=>by
   have bT:=h p [] rfl
   show(match cW hp' p with | none=>none | some c=>c4 hp' (br c.c8 (fE b)) a5)=(match cW hp p with | none=>none | some c=>c4 hp (br c.c8 (fE b)) a5)
   rw [bT]
   cases e:cW hp p with
   | none=>rfl
   | some c=>
     refine Nt fun q cs hq=>h q (b::cs) ?_
     rw [hY e]; exact hq
structure oc (hp:a1 Cell) (root:Ref):Prop where
 reads:∀ a5 p,c4 hp root a5=some p→ ∃ c,cW hp p=some c
 inj:∀ a5 cs p,c4 hp root a5=some p→c4 hp root cs=some p→a5=cs
 dep:∀ a5 p,c4 hp root a5=some p→a5.length≤32
def cont (hp:a1 Cell) (root:Ref) (a5:List Bool):Option Int:=match c4 hp root a5 with
 | none=>none
 | some p=>match cW hp p with
   | none=>none
   | some c=>bif c.dP then some c.hO else none
theorem kd {hp:a1 Cell} {root:Ref} {a5:List Bool} {p:Nat} {c:dM} (h:c4 hp root a5=some p) (al:cW hp p=some c):cont hp root a5=bif c.dP then some c.hO else none:=by
 unfold cont; rw [h]; simp only [al]
theorem kv {hp:a1 Cell} {root:Ref} {a5:List Bool} (h:c4 hp root a5=none):cont hp root a5=none:=by
 unfold cont; rw [h]
theorem py {hp:a1 Cell} {p:Nat} {c:dM} :cW hp p=some c↔pat hp p=some (.gk c):=by
 refine⟨ju,fun h=>?_⟩
 unfold cW; rw [h]
theorem ss {hp:a1 Cell} {p:Nat} {c:fK} :fR hp p=some c↔pat hp p=some (.j4 c):=by
 refine⟨mv,fun h=>?_⟩
 unfold fR; rw [h]
theorem vC {hp hp':a1 Cell} {p:Nat} (h:pat hp' p=pat hp p):cW hp' p=cW hp p:=by unfold cW; rw [h]
theorem Ef {hp hp':a1 Cell} {p:Nat} (h:pat hp' p=pat hp p):fR hp' p=fR hp p:=by unfold fR; rw [h]
structure fi (hp hp':a1 Cell) (own:Nat→Prop):Prop where
 keys:∀ q,q∈fh hp→q∈fh hp'
 rest:∀ q,q∈fh hp→ ¬ own q→pat hp' q=pat hp q
theorem fi.refl {hp:a1 Cell} {own:Nat→Prop} :fi hp hp own:=⟨fun _ h=>h,fun _ _ _=>rfl⟩
theorem fi.mk' {hp:a1 Cell} {own:Nat→Prop} {a:Nat} {k:Cell} (bp:a ∉ fh hp):fi hp ((a,k)::hp) own:=
 ⟨fun q h=>List.mem_cons_of_mem _ h,fun q h _=>by rw [ue,if_neg (fun e:a=q=>bp (by rw [e]; exact h))]⟩
theorem fi.up {hp:a1 Cell} {own:Nat→Prop} {p:Nat} {k:Cell} (hp':own p):fi hp (dr hp p k) own:=
 ⟨fun q h=>by rw [vS]; exact h,fun q h hq=>nX (fun e:p=q=>hq (by rw [← e]; exact hp'))⟩
theorem fi.trans {aa ad aF:a1 Cell} {own own':Nat→Prop} (a:fi aa ad own) (b:fi ad aF own') (bm:∀ q,q∈fh aa→own' q→own q):fi aa aF own:=
 ⟨fun q h=>b.keys q (a.keys q h),fun q h hq=>by rw [b.rest q (a.keys q h) fun dc=>hq (bm q h dc),a.rest q h hq]⟩
theorem VW (b:Bool):br (default:dM).c8 (fE b)=none:=by cases b <;> rfl
theorem Nu {hp:a1 Cell} {a:Nat} (h:cW hp a=some (default:dM)):∀ a5,c4 hp (some a) a5=if a5= [] then some a else none
 | []=>rfl
 | b::a5=>by rw [hY h,VW,gO]; rfl
theorem H3 {hp hp':a1 Cell} {root:Ref} {ws:List Bool} {b:Bool} {p a:Nat} {c:dM} (b1:oc hp root) (hw:c4 hp root ws=some p) (al:cW hp p=some c) (aR:br c.c8 (fE b)=none) (bp:cW hp a=none)
 (de:cW hp' p=some { c with c8:=c5 c.c8 (fE b) (some a) }) (dk:cW hp' a=some default) (hi:∀ q,q≠p→q≠a→cW hp' q=cW hp q):
 ∀ (a5 us:List Bool) (q:Nat),c4 hp root us=some q→c4 hp' (some q) a5=if us++a5=ws++[b] then some a else c4 hp (some q) a5
 | [],us,q,hu=>by
   have: ¬ us++[]=ws++[b]:=fun e=>by
    rw [List.append_nil] at e
    rw [e,lZ,hw,hY al,aR,gO] at hu; cases hu
   rw [if_neg this]; rfl
 | x::xs,us,q,hu=>by
   obtain⟨tJ,mO⟩:=b1.reads us q hu
   have mP:q≠a:=fun e=>by rw [e,bp] at mO; cases mO
   by_cases CY:q=p
   ·subst CY
    have K3:=b1.inj us ws q hu hw
    subst K3
    rw [al] at mO; cases mO
    rw [hY de,hY al]
    simp only
    have cD:fE b<2:=by cases b <;> decide
    rw [gp _ _ cD]
    by_cases xc:x=b
    ·subst xc
     rw [if_pos rfl,aR,gO,Nu dk]
     by_cases h:xs= []
     ·subst h; rw [if_pos rfl,if_pos rfl]
     rw [if_neg h,if_neg fun e=>h ?_]
     have:=List.append_cancel_left e
     simpa using this
    have dm: ¬ fE x=fE b:=fun e=>xc (by cases x <;> cases b <;> first | rfl | cases e)
    have fq: ¬ us++x::xs=us++[b]:=fun e=>xc (by have:=List.append_cancel_left e; simpa using (List.cons.inj this).1)
    rw [if_neg dm,if_neg fq]
    cases e:br c.c8 (fE x) with
    | none=>rw [gO,gO]
    | some oK=>
      have mM:c4 hp root (us++[x])=some oK:=by rw [lZ,hu,hY al,e,mu]
      rw [H3 b1 hw al aR bp de dk hi xs (us++[x]) oK mM,List.append_assoc,List.singleton_append,if_neg fq]
   have aa:cW hp' q=some tJ:=by rw [hi q CY mP]; exact mO
   rw [hY aa,hY mO]
   cases e:br tJ.c8 (fE x) with
   | none=>
     have fq: ¬ us++x::xs=ws++[b]:=fun aO=>by
      have adg:c4 hp root (us++[x])=none:=by rw [lZ,hu,hY mO,e,gO]
      rcases List.eq_nil_or_concat xs with rfl | ⟨ys,y,rfl⟩
      ·have:=(List.append_inj_left' aO rfl)
       subst this
       rw [hu] at hw; cases hw; exact CY rfl
      have aF:us++x::ys=ws:=by
       have:(us++x::ys)++[y]=ws++[b]:=by simpa using aO
       exact List.append_inj_left' this rfl
      rw [← aF,show us++x::ys=(us++[x])++ys by simp,lZ,adg,gO] at hw
      cases hw
     rw [gO,gO,if_neg fq]
   | some oK=>
     have mM:c4 hp root (us++[x])=some oK:=by rw [lZ,hu,hY mO,e,mu]
     rw [H3 b1 hw al aR bp de dk hi xs (us++[x]) oK mM,List.append_assoc,List.singleton_append]
theorem grow {hp hp':a1 Cell} {r:Nat} {ws:List Bool} (hd:ws.length<32) {b:Bool} {p a:Nat} {c:dM} (b1:oc hp (some r)) (hw:c4 hp (some r) ws=some p) (al:cW hp p=some c) (aR:br c.c8 (fE b)=none) (bp:cW hp a=none)
 (de:cW hp' p=some { c with c8:=c5 c.c8 (fE b) (some a) }) (dk:cW hp' a=some default) (hi:∀ q,q≠p→q≠a→cW hp' q=cW hp q):
 oc hp' (some r)∧ (∀ a5,c4 hp' (some r) a5=if a5=ws++[b] then some a else c4 hp (some r) a5)∧ ∀ a5,cont hp' (some r) a5=cont hp (some r) a5:=by
 have a7:∀ a5,c4 hp' (some r) a5=if a5=ws++[b] then some a else c4 hp (some r) a5:=fun a5=>H3 b1 hw al aR bp de dk hi a5 [] r rfl
 have Gy:∀ a5,c4 hp (some r) a5≠some a:=fun a5 h=>by
  obtain⟨c,aa⟩:=b1.reads a5 a h
  rw [bp] at aa; cases aa
 have K4:c4 hp (some r) (ws++[b])=none:=by rw [lZ,hw,hY al,aR,gO]
 refine⟨⟨fun a5 q h=>?_,fun a5 cs q aa ad=>?_,fun a5 q h=>?_⟩,a7,fun a5=>?_⟩
 ·rw [a7] at h
  split at h
  ·cases h; exact⟨_,dk⟩
  obtain⟨iC,aa⟩:=b1.reads a5 q h
  by_cases e:q=p
  ·subst e; exact⟨_,de⟩
  exact⟨iC,by rw [hi q e fun aO=>Gy a5 (aO ▸ h)]; exact aa⟩
 ·rw [a7] at aa ad
  split at aa <;> split at ad
  ·rename_i ay aO; rw [ay,aO]
  ·cases aa; exact absurd ad (Gy cs)
  ·cases ad; exact absurd aa (Gy a5)
  exact b1.inj a5 cs q aa ad
 ·rw [a7] at h
  split at h
  ·rename_i e; rw [e]; simp; omega
  exact b1.dep a5 q h
 by_cases e:a5=ws++[b]
 ·subst e
  rw [kv K4,kd (by rw [a7,if_pos rfl]) dk]; rfl
 have xd:c4 hp' (some r) a5=c4 hp (some r) a5:=by rw [a7,if_neg e]
 cases h:c4 hp (some r) a5 with
 | none=>rw [kv h,kv (xd.trans h)]
 | some q=>
   obtain⟨iC,aa⟩:=b1.reads a5 q h
   by_cases eq:q=p
   ·subst eq
    rw [al] at aa; cases aa
    rw [kd h al,kd (xd.trans h) de]
   rw [kd h aa,kd (xd.trans h) (by rw [hi q eq fun aO=>Gy a5 (aO ▸ h)]; exact aa)]
theorem A1 {hp hp':a1 Cell} {p:Nat} {c iC:dM} (al:cW hp p=some c) (hT:cW hp' p=some iC) (he:iC.c8=c.c8) (h:∀ q,q≠p→cW hp' q=cW hp q):∀ (a5:List Bool) (r:Ref),c4 hp' r a5=c4 hp r a5
 | a5,none=>by rw [gO,gO]
 | [],some q=>rfl
 | b::a5,some q=>by
   by_cases e:q=p
   ·subst e
    rw [hY al,hY hT,he]; exact A1 al hT he h a5 _
   cases aO:cW hp q with
   | none=>
     show(match cW hp' q with | none=>none | some c=>c4 hp' (br c.c8 (fE b)) a5)=(match cW hp q with | none=>none | some c=>c4 hp (br c.c8 (fE b)) a5)
     rw [h q e,aO]
   | some d=>rw [hY aO,hY (by rw [h q e]; exact aO)]; exact A1 al hT he h a5 _
theorem Rn {hp hp':a1 Cell} {root:Ref} {ws:List Bool} {p:Nat} {c iC:dM} (b1:oc hp root) (hw:c4 hp root ws=some p) (al:cW hp p=some c) (hT:cW hp' p=some iC) (he:iC.c8=c.c8) (h:∀ q,q≠p→cW hp' q=cW hp q):
 oc hp' root∧ ∀ a5,cont hp' root a5=if a5=ws then(bif iC.dP then some iC.hO else none) else cont hp root a5:=by
 have a7:=A1 al hT he h
 refine⟨⟨fun a5 q hq=>?_,fun a5 cs q aa ad=>b1.inj a5 cs q (by rw [← a7]; exact aa) (by rw [← a7]; exact ad),fun a5 q hq=>b1.dep a5 q (by rw [← a7]; exact hq)⟩,fun a5=>?_⟩
 ·rw [a7] at hq
  obtain⟨d,aa⟩:=b1.reads a5 q hq
  by_cases e:q=p
  ·subst e; exact⟨_,hT⟩
  exact⟨d,by rw [h q e]; exact aa⟩
 by_cases e:a5=ws
 ·subst e; rw [if_pos rfl,kd (by rw [a7]; exact hw) hT]
 rw [if_neg e]
 cases aa:c4 hp root a5 with
 | none=>rw [kv aa,kv (by rw [a7]; exact aa)]
 | some q=>
   obtain⟨d,ad⟩:=b1.reads a5 q aa
   have CY:q≠p:=fun aO=>e (b1.inj a5 ws p (aO ▸ aa) hw)
   rw [kd aa ad,kd (by rw [a7]; exact aa) (by rw [h q CY]; exact ad)]
theorem il {α:Type} {b:Nat} (xs ys:List α) (h:xs.length+ys.length≤1000000) (hb:b≤100000):fV b xs ys=some (xs++ys):=by
 unfold fV
 rw [if_pos]
 unfold maxLen
 refine⟨Nat.le_trans (Nat.mul_le_mul h hb) (by omega),by omega⟩
def hv (c:bu):Prop:=0≤c.s7∧c.ch.length≤1000
theorem OA (l:List (BitVec 8)) (n:Int) (bT:0≤n) (aa:n≤1000):bl (vA l n) hv:=by
 unfold vA
 refine .eq (a:=(l.drop 0).take ((min (l.length:Int) n).toNat - 0)) ?_ (.ret ⟨Int.le_refl 0,?_⟩)
 ·unfold sL; rw [if_pos ⟨by omega,by omega,by omega⟩]; rfl
 simp only [List.length_take,List.length_drop]; omega
theorem gP (c:bu) (n:Int) (al:hv c) (aR:1≤n):bl (fZ c n) (fun r=>hv r.2∧0≤r.1∧r.1<n∧r.1<256):=by
 unfold fZ DT
 obtain⟨l,a⟩:=c
 obtain⟨bT,aa⟩:=al
 simp only at bT aa
 obtain⟨k,rfl⟩:=Int.eq_ofNat_of_zero_le bT
 refine .eq rfl (.cond (fun _=>.ret ⟨⟨bT,aa⟩,by omega,by omega,by omega⟩) fun h=>?_)
 simp only [Bool.or_eq_false_iff,Bool.not_eq_false',decide_eq_true_eq,decide_eq_false_iff_not] at h
 have ay:bs ((k:Int)+1)=((k+1:Nat):Int):=eT (by omega)
 simp only [ay]
 have aO:bs (((k+1:Nat):Int) - 1)=(k:Int):=by rw [hC (by omega) (by omega)]; omega
 rw [aO]
 refine .idx rfl (by omega) (.eq (by unfold o2; rw [if_neg (by omega)]) (.ret ⟨⟨by simp only; omega,aa⟩,?_,?_,?_⟩))
 ·exact Int.tmod_nonneg _ (by omega)
 ·exact Int.tmod_lt_of_pos _ (by omega)
 simp only
 have aF:(az l k).toNat<256:=(az l k).isLt
 obtain⟨m,rfl⟩:=Int.eq_ofNat_of_zero_le (show 0≤n by omega)
 have aX:(((az l k).toNat:Int)).tmod m=(((az l k).toNat % m:Nat):Int):=(Int.ofNat_tmod _ _).symm
 have a0:=Nat.mod_le (az l k).toNat m
 omega
theorem n2 (c:bu) (al:hv c):bl (lV c) (fun r=>hv r.2):=by
 unfold lV
 exact .bind (gP c 2 al (by omega)) fun y h=>.ret h.1
theorem Vg (c:bu) (al:hv c):bl (zI c) (fun r=>hv r.2∧r.1.length=3):=by
 unfold zI
 refine .bind (gP c 4 al (by omega)) fun aD aa=>?_
 refine .eq (vT aa.2.1 (by simpa using aa.2.2.1)) (.eq rfl (.eq rfl (.bind (n2 _ aa.1) fun aK ad=>?_)))
 refine .bind (P:=fun m=>hv m.1) (.cond (fun _=>?_) (fun _=>.ret ad)) fun bx cy=>?_
 ·refine .bind (gP _ 2 ad (by omega)) fun b6 bn=>.eq rfl (.bind (gP _ 4 bn.1 (by omega)) fun eB cZ=>?_)
  exact .eq (vT cZ.2.1 (by simpa using cZ.2.2.1)) (.eq rfl (.eq (il _ _ (by simp) (by omega)) (.ret cZ.1)))
 refine .bind (gP _ 4 cy (by omega)) fun bb aF=>.eq (vT aF.2.1 (by simpa using aF.2.2.1)) (.eq rfl (.eq rfl ?_))
 refine .bind (gP _ 3 aF.1 (by omega)) fun bJ aX=>?_
 refine .bind (P:=fun m=>hv m.1) (.cond (fun _=>?_) (fun _=>.ret aX.1)) fun cY eg=>.ret ⟨eg,rfl⟩
 exact .bind (gP _ 3 aX.1 (by omega)) fun bq a0=>.eq rfl (.ret a0.1)
def qp (a:ei):Int×List Int:=(a.b0,a.kL.map (·.fB))
def yU:List (Int×List Int):= [(1,[]),(2,[]),(3,[16]),(4,[4]),(5,[4,12]),(6,[])]
theorem WG {α β:Type} [Inhabited α] (f:α→β) (l:List α) (k:Nat) (x:α) (h:f x=f (az l k)):(h5 l k x).map f=l.map f:=by
 unfold h5
 apply List.ext_getElem
 ·simp
 intro i aa ad
 simp only [List.length_map,List.length_set] at aa
 simp only [List.getElem_map,List.getElem_set]
 split
 ·rename_i e; subst e; rw [h,e0 l aa]
 rfl
theorem Ey {α β:Type} [Inhabited α] (f:α→β) {l:List α} {k:Nat} {x:α} {r:List β} (h:f x=f (az l k)) (ao:l.map f=r):(h5 l k x).map f=r:=(WG f l k x h).trans ao
theorem UU (c:bu) (al:hv c):bl (zB c) (fun r=>hv r.2∧r.1.map qp=yU):=by
 unfold zB
 refine .eq rfl (.eq rfl (.eq rfl (.eq rfl (.eq rfl (.eq rfl (.eq rfl (.eq rfl (.eq rfl (.eq rfl (.eq rfl (.eq rfl (.eq rfl ?_))))))))))))
 refine .bind (gP _ 2 al (by omega)) fun aD aa=>.eq rfl (.bind (gP _ 256 aa.1 (by omega)) fun aK ad=>.eq rfl (.eq rfl (.eq rfl ?_)))
 refine .bind (n2 _ ad.1) fun bb aF=>?_
 refine .bind (P:=fun m=>m.map qp=yU) (.cond (fun _=>?_) (fun _=>.ret rfl)) fun bx cy=>?_
 ·exact .idx (k:=2) rfl (by simp) (.eq rfl (.ret (Ey qp rfl rfl)))
 refine .bind (n2 _ aF) fun bJ aX=>.bind (P:=fun m=>m.map qp=yU) (.cond (fun _=>?_) (fun _=>.ret cy)) fun cY eg=>.ret ⟨aX,eg⟩
 have ao:bx.length=6:=by rw [← List.length_map (f:=qp),cy]; rfl
 exact .idx (k:=4) rfl (by omega) (.eq rfl (.ret (Ey qp rfl cy)))
def p6:cR:= { cF:=ByteArray.mk #[97],g3:=4,cS:=1 }
def xl:cR:= { cF:=ByteArray.mk #[100],g3:=7,cS:=2 }
def GR:cR:= { cF:=ByteArray.mk #[109],g3:=3,cS:=1 }
def Dn:cR:= { cF:=ByteArray.mk #[101],g3:=6,cS:=3 }
def CZ:cR:= { cF:=ByteArray.mk #[97],g3:=4,cS:=3 }
def LP:cR:= { cF:=ByteArray.mk #[98],g3:=5,cS:=1 }
def Dp:cR:= { cF:=ByteArray.mk #[102],g3:=8,cS:=4 }
def LQ:cR:= { cF:=ByteArray.mk #[103],g3:=9,cS:=1 }
def om (t:bX):Int×List Int×List cR:=(t.b0,t.dH,t.bN)
def m8 (b:Bool):List cR:=if b then [xl,GR] else [xl]
def wB (b:Bool):List cR:=if b then [Dn,CZ,LP] else [Dn,CZ]
def wC (b:Bool):List cR:=if b then [Dp,LQ,xl] else [Dp]
def ta (eo fb ij:Bool):List (Int×List Int×List cR):=
 [(1,[1,2,4],[p6]),(2,[1,2,3,4],m8 eo),(3,[1,2,3,5,6],wB fb),(4,[1,3,5],wC ij)]
theorem Vh (c:bu) (al:hv c):bl (zK c) (fun r=>hv r.2∧ (∀ x∈r.1.map (·.j1),2≤x∧x≤12)∧ ∃ eo fb ij,r.1.map om=ta eo fb ij):=by
 unfold zK
 refine .eq rfl (.bind (gP _ 2 al (by omega)) fun aD aa=>.bind (gP _ 5 aa.1 (by omega)) fun aK ad=>.eq rfl (.eq rfl ?_))
 refine .bind (gP _ 6 ad.1 (by omega)) fun bb aF=>.bind (n2 _ aF.1) fun bJ aX=>?_
 refine .bind (P:=fun m=>(m.1.b0=2∧m.1.dH= [1,2,3,4]∧m.1.j1=bs (3+bb.1))∧ ∃ b,m.2=m8 b) (.cond (fun _=>?_) (fun _=>.ret ⟨⟨rfl,rfl,rfl⟩,false,rfl⟩)) fun bx cy=>?_
 ·exact .eq rfl (.eq (il _ _ (by simp) (by omega)) (.ret ⟨⟨rfl,rfl,rfl⟩,true,rfl⟩))
 refine .eq rfl (.eq rfl (.bind (gP _ 6 aX (by omega)) fun bq a0=>.bind (n2 _ a0.1) fun b6 bn=>?_))
 refine .bind (P:=fun m=>(m.1.b0=3∧m.1.dH= [1,2,3,5,6]∧m.1.j1=bs (4+bq.1))∧ ∃ b,m.2=wB b) (.cond (fun _=>?_) (fun _=>.ret ⟨⟨rfl,rfl,rfl⟩,false,rfl⟩)) fun cY eg=>?_
 ·exact .eq rfl (.eq (il _ _ (by simp) (by omega)) (.ret ⟨⟨rfl,rfl,rfl⟩,true,rfl⟩))
 refine .eq rfl (.bind (gP _ 5 bn (by omega)) fun eB cZ=>.bind (n2 _ cZ.1) fun fN e5=>?_)
 refine .bind (P:=fun m=>(m.1.b0=4∧m.1.dH= [1,3,5]∧m.1.j1=bs (3+eB.1))∧ ∃ b,m.2=wC b) (.cond (fun _=>?_) (fun _=>.ret ⟨⟨rfl,rfl,rfl⟩,false,rfl⟩)) fun fA g6=>?_
 ·exact .eq rfl (.eq rfl (.eq (il _ _ (by simp) (by omega)) (.ret ⟨⟨rfl,rfl,rfl⟩,true,rfl⟩)))
 refine .eq rfl (.eq rfl (.eq rfl (.eq rfl (.eq rfl ?_))))
 obtain⟨⟨dA,dK,jV⟩,eo,hH⟩:=cy
 obtain⟨⟨bY,cN,oE⟩,fb,e4⟩:=eg
 obtain⟨⟨d1,d2,d4⟩,ij,d3⟩:=g6
 refine bl.loop 4 (fun k s=>s.1=(k:Int)∧s.2.1.map om=ta eo fb ij∧hv s.2.2∧s.2.1.map (·.j1)= [bs (2+aK.1),bs (3+bb.1),bs (4+bq.1),bs (3+eB.1)]) (by omega) ⟨rfl,?_,e5,?_⟩ (fun k s aw ak=>?_) (fun s ak=>?_)
 ·simp only [List.map_cons,List.map_nil,om,dA,dK,hH,bY,cN,e4,d1,d2,d3,ta]; rfl
 ·simp only [List.map_cons,List.map_nil,jV,oE,d4]
 ·obtain⟨i,h2,xm⟩:=s; obtain⟨ay,aO,cK,di⟩:=ak
  simp only at ay aO cK di; subst ay
  refine bl.cond (fun _=>?_) (fun h=>by simp at h; omega)
  have ao:h2.length=4:=by rw [← List.length_map (f:=om),aO]; rfl
  refine .idx rfl (by simpa using aw) (.bind (gP _ 3 cK (by omega)) fun e8 fX=>.eq (vT fX.2.1 ?_) (.idx rfl (by simp only; omega) (.eq rfl (.ret ⟨eT (by omega),?_,fX.1,?_⟩))))
  ·have kI:=fX.2.2.1
   have:k=0∨k=1∨k=2∨k=3:=by omega
   rcases this with rfl | rfl | rfl | rfl <;> exact kI
  ·exact Ey om rfl aO
  exact Ey bX.j1 rfl di
 obtain⟨i,h2,xm⟩:=s; obtain⟨ay,aO,cK,di⟩:=ak
 simp only at ay aO cK di; subst ay
 refine⟨_,rfl,?_⟩
 refine .ret ⟨cK,fun x aq=>?_,eo,fb,ij,aO⟩
 rw [di] at aq
 have aW:=ad.2; have bB:=aF.2; have gy:=a0.2; have aeV:=cZ.2
 simp only [List.mem_cons,List.not_mem_nil,or_false] at aq
 rcases aq with rfl | rfl | rfl | rfl <;> (rw [hC (by omega) (by omega)]; omega)
theorem OB (n:Nat) (h:n≤1000):tf (α:=Bool) 1 (n:Int)=some (List.replicate n default):=by
 unfold tf; rw [if_pos ⟨by omega,by omega,by omega⟩]; simp
theorem VX (c:bu) (h2:List bX) (al:hv c) (ao:h2.length≤1000) (aw:∀ t∈h2,t.bN.length≤1000):bl (zU c h2) (fun r=>hv r.2∧r.1.map (·.b0)= [1,2,7]):=by
 unfold zU
 refine .bind (gP _ 3 al (by omega)) fun aD aa=>.bind (gP _ 6 aa.1 (by omega)) fun aK ad=>.bind (gP _ 6 ad.1 (by omega)) fun bb aF=>.bind (gP _ 4 aF.1 (by omega)) fun bJ aX=>?_
 refine bl.loop h2.length (fun k s=>s.1=(k:Int)∧hv s.2.2.2.1∧s.2.2.1.length≤k∧s.2.2.2.2.2.1.length≤k∧s.2.2.2.2.2.2.2.length≤k∧s.2.1.b0=7∧s.2.2.2.2.1.b0=2∧s.2.2.2.2.2.2.1.b0=1) (by omega) ⟨rfl,aX.1,by simp,by simp,by simp,rfl,rfl,rfl⟩ (fun k s lL ak=>?_) (fun s ak=>?_)
 ·obtain⟨i,js,av,xm,hl,aW,oF,bB⟩:=s; obtain⟨ay,aO,cK,di,fQ,i1,i2,i3⟩:=ak
  simp only at ay aO cK di fQ i1 i2 i3; subst ay
  refine bl.cond (fun _=>?_) (fun h=>by simp at h; omega)
  have Ro:(az h2 k).bN.length≤1000:=aw _ (by rw [e0 h2 lL]; exact List.getElem_mem lL)
  refine .idx rfl lL (.eq (OB _ Ro) (.eq (OB _ Ro) ?_))
  refine bl.loop (az h2 k).bN.length (fun j s=>s.1=(j:Int)∧s.2.1.length=(az h2 k).bN.length∧s.2.2.1.length=(az h2 k).bN.length∧hv s.2.2.2) (by omega) ⟨rfl,by simp,by simp,aO⟩ (fun j s aE ak=>?_) (fun s ak=>?_)
  ·obtain⟨i,eo,fb,adh⟩:=s; obtain⟨f1,f2,f3,f4⟩:=ak
   simp only at f1 f2 f3 f4; subst f1
   refine bl.cond (fun _=>?_) (fun h=>by simp at h; omega)
   exact .bind (gP _ 4 f4 (by omega)) fun eB cZ=>.idx rfl (by simp only; omega) (.idx rfl (by simp only; omega) (.ret ⟨eT (by omega),by simp [h5,f2],by simp [h5,f3],cZ.1⟩))
  obtain⟨i,eo,fb,adh⟩:=s; obtain⟨f1,f2,f3,f4⟩:=ak
  simp only at f1 f2 f3 f4; subst f1
  refine⟨_,by simp; rfl,?_⟩
  refine .eq rfl (.eq (il _ _ (by simp; omega) (by omega)) (.bind (gP _ 4 f4 (by omega)) fun e8 fX=>?_))
  refine .bind (P:=fun m=>hv m.1∧m.2.2.length≤k+1∧m.2.1.b0=2) (.cond (fun _=>?_) (fun _=>.ret ⟨fX.1,by simp only; omega,i2⟩)) fun bx cy=>?_
  ·exact .bind (gP _ 4 fX.1 (by omega)) fun kG Gz=>.bind (n2 _ Gz.1) fun o9 C0=>.eq rfl (.eq (il _ _ (by simp; omega) (by omega)) (.ret ⟨C0,by simp; omega,i2⟩))
  refine .bind (n2 _ cy.1) fun ee kI=>?_
  refine .bind (P:=fun m=>hv m.1∧m.2.2.length≤k+1∧m.2.1.b0=7) (.cond (fun _=>?_) (fun _=>.ret ⟨kI,by simp only; omega,i1⟩)) fun cY eg=>?_
  ·exact .bind (n2 _ kI) fun jl qY=>.bind (n2 _ qY) fun jb C1=>.eq rfl (.eq (il _ _ (by simp; omega) (by omega)) (.ret ⟨C1,by simp; omega,i1⟩))
  exact .ret ⟨eT (by omega),eg.1,eg.2.1,cy.2.1,by simp; omega,eg.2.2,cy.2.2,i3⟩
 obtain⟨i,js,av,xm,hl,aW,oF,bB⟩:=s; obtain⟨ay,aO,cK,di,fQ,i1,i2,i3⟩:=ak
 simp only at ay aO cK di fQ i1 i2 i3; subst ay
 refine⟨_,by simp; rfl,?_⟩
 exact .eq rfl (.eq rfl (.ret ⟨aO,by simp only [List.map_cons,List.map_nil,i1,i2,i3]⟩))
def J6:List (Int×Int):= [(1,16),(2,16),(3,8),(4,4),(5,4),(6,8),(7,32),(8,12),(9,4)]
def BO (f:fO):Int×Int:=(f.b0,f.fB)
structure db (s:a3):Prop where
 fields:s.fF.map BO=J6
 headers:s.mo.length=3
 Pp:s.mW.length=3
 It:s.dH.map qp=yU
 tables:∃ eo fb ij,s.bt.map om=ta eo fb ij
 QF:s.kc.map (·.b0)= [1,2,7]
 aeg:∀ x∈s.bt.map (·.j1),2≤x∧x≤12
theorem db.ab4 {s:a3} (h:db s):s.kc.length=3:=by rw [← List.length_map (f:=(·.b0)),h.QF]; rfl
theorem db.pS {s:a3} (h:db s):s.fF.length=9:=by rw [← List.length_map (f:=BO),h.fields]; rfl
theorem db.lj {s:a3} (h:db s):s.bt.length=4:=by obtain⟨eo,fb,ij,aa⟩:=h.tables; rw [← List.length_map (f:=om),aa]; rfl
theorem db.J7 {s:a3} (h:db s):s.dH.length=6:=by rw [← List.length_map (f:=qp),h.It]; rfl
theorem Vi (c:bu) (al:hv c):bl (xA c) (fun r=>db r.1∧hv r.2):=by
 unfold xA
 refine .bind (gP _ 8 al (by omega)) fun aD aa=>.bind (gP _ 30 aa.1 (by omega)) fun aK ad=>?_
 refine .eq rfl (.eq rfl (.eq rfl (.eq rfl (.eq rfl (.eq rfl (.eq rfl (.eq rfl (.eq rfl (.eq rfl (.eq rfl (.eq rfl ?_)))))))))))
 refine .bind (Vg _ ad.1) fun bb aF=>.bind (UU _ aF.1) fun bJ aX=>.bind (Vh _ aX.1) fun bq a0=>.eq rfl (.eq rfl ?_)
 obtain⟨adi,eX,eo,fb,ij,a0⟩:=a0
 have ao:bq.1.length=4:=by rw [← List.length_map (f:=om),a0]; rfl
 have Z6:∀ t∈bq.1,t.bN.length≤1000:=fun t b1=>by
  have bn:om t∈ta eo fb ij:=a0 ▸ List.mem_map_of_mem b1
  have cZ:∀ p∈ta eo fb ij,p.2.2.length≤1000:=by
   intro p hp
   simp only [ta,List.mem_cons,List.not_mem_nil,or_false] at hp
   rcases hp with rfl | rfl | rfl | rfl
   ·simp
   ·cases eo <;> simp [m8]
   ·cases fb <;> simp [wB]
   cases ij <;> simp [wC]
  exact cZ _ bn
 refine .bind (VX _ _ adi (by simp only; omega) Z6) fun b6 bn=>.eq rfl (.bind (n2 _ bn.1) fun eB cZ=>?_)
 let Inv (s:a3):Prop:=s.fF.map BO=J6∧s.mo.length=3∧s.mW.length=3∧s.dH.map qp=yU∧s.bt=bq.1∧s.kc.map (·.b0)= [1,2,7]
 have hinv:∀ (st:List gb) (So:List fu) (s:a3),Inv s→Inv { s with nZ:=st,oW:=So } :=fun st So s h=>h
 refine .bind (P:=fun _=>True) (.cond (fun _=>.eq (il _ _ (by simp) (by omega)) (.ret trivial)) (fun _=>.ret trivial)) fun bx _=>?_
 refine .bind (n2 _ cZ) fun fN e5=>?_
 refine .bind (P:=fun m=>Inv m.1∧m.2.length≤10) (.cond (fun _=>.eq rfl (.eq (il _ _ (by simp) (by omega)) (.ret ⟨⟨rfl,rfl,aF.2,aX.2,rfl,bn.2⟩,by simp⟩))) (fun _=>.ret ⟨⟨rfl,rfl,aF.2,aX.2,rfl,bn.2⟩,by simp⟩)) fun cY eg=>?_
 refine .bind (n2 _ e5) fun e8 fX=>?_
 refine .c0 (P:=fun _=>True) (fun _=>⟨2,oS (k:=2) (by rw [eg.1.2.2.2.2.1]; omega),trivial⟩) fun aZ _=>?_
 refine .bind (P:=fun m=>Inv m.1∧m.2.length≤11) (.cond (fun _=>.eq rfl (.eq (il _ _ (by have:=eg.2; simp; omega) (by omega)) (.ret ⟨eg.1,by have:=eg.2; simp; omega⟩))) (fun _=>.ret ⟨eg.1,by have:=eg.2; simp only; omega⟩)) fun fA g6=>?_
 refine .bind (n2 _ fX) fun ee kI=>?_
 refine .c0 (P:=fun _=>True) (fun _=>⟨3,oS (k:=3) (by rw [g6.1.2.2.2.2.1]; omega),trivial⟩) fun bP _=>?_
 refine .bind (P:=fun m=>Inv m.1∧m.2.length≤13) (.cond (fun _=>.eq rfl (.eq rfl (.eq (il _ _ (by have:=g6.2; simp; omega) (by omega)) (.ret ⟨g6.1,by have:=g6.2; simp; omega⟩)))) (fun _=>.ret ⟨g6.1,by have:=g6.2; simp only; omega⟩)) fun p2 Cm=>?_
 obtain⟨⟨i1,i2,i3,i4,i5,i6⟩,_⟩:=Cm
 exact .eq rfl (.ret ⟨⟨i1,i2,i3,i4,⟨eo,fb,ij,by simp only [i5]; exact a0⟩,i6,by simp only [i5]; exact eX⟩,kI⟩)
theorem OC (x:Int) (n:Int) (aa:1≤n) (ad:n≤1000000):bl (sq x n) (fun r=>0≤r∧r<n):=by
 unfold sq
 refine .cond (fun h=>by simp at h; omega) fun _=>?_
 have hm:∀ y:Int,o2 y n=some (y.tmod n):=fun y=>by unfold o2; rw [if_neg (by omega)]
 refine .eq (hm _) ?_
 have aF:=Int.tmod_lt_of_pos x (show 0<n by omega)
 have aX: -n<x.tmod n:=by
  have:=Int.tmod_lt_of_pos (-x) (show 0<n by omega)
  rw [Int.neg_tmod] at this; omega
 rw [hC (by omega) (by omega)]
 exact .eq (hm _) (.ret ⟨Int.tmod_nonneg _ (by omega),Int.tmod_lt_of_pos _ (by omega)⟩)
def bA (v:an) (i:Nat):Bool:=if i<64 then v.b2.getLsbD i else v.dv.getLsbD (i - 64)
theorem sN {v w:an} (h:∀ j,j<128→bA v j=bA w j):v=w:=by
 cases v with | mk ad0 ad1=>cases w with | mk ad2 wl=>
 have aa:ad0=ad2:=by
  apply BitVec.eq_of_getLsbD_eq
  intro i ak
  have:=h (i+64) (by omega)
  simpa [bA,show ¬ (i+64<64) by omega] using this
 have ad:ad1=wl:=by
  apply BitVec.eq_of_getLsbD_eq
  intro i ak
  have:=h i (by omega)
  simpa [bA,ak] using this
 rw [aa,ad]
theorem vU (j:Nat):bA default j=false:=by
 unfold bA; split <;> exact BitVec.getLsbD_zero
def uQ (x y:an):an:= { dv:=x.dv&&&y.dv,b2:=x.b2&&&y.b2 }
def GA (x y:an):an:= { dv:=x.dv|||y.dv,b2:=x.b2|||y.b2 }
def J8 (x y:an):an:= { dv:=x.dv ^^^ y.dv,b2:=x.b2 ^^^ y.b2 }
@[simp] theorem pC (x y:an) (j:Nat):bA (uQ x y) j=(bA x j&&bA y j):=by unfold bA uQ; split <;> simp
@[simp] theorem Pq (x y:an) (j:Nat):bA (GA x y) j=(bA x j||bA y j):=by unfold bA GA; split <;> simp
@[simp] theorem Xt (x y:an) (j:Nat):bA (J8 x y) j=(bA x j ^^ bA y j):=by unfold bA J8; split <;> simp
theorem and_eq (x y:an):mn x y=some (uQ x y):=rfl
theorem or_eq (x y:an):nW x y=some (GA x y):=rfl
theorem xor_eq (x y:an):tY x y=some (J8 x y):=rfl
theorem OD (x:an):bl (xZ x) (fun r=> ∀ j,j<128→br r j=bA x j):=by
 unfold xZ
 refine bl.loop 64 (fun k s=>s.1=k∧ ∀ j,j<128→br s.2 j=(decide (j % 64<k)&&bA x j)) (by omega)
  ⟨rfl,fun j aE=>by simp [x3]⟩ (fun k s aw ak=>?_) (fun s ak=>?_)
 ·obtain⟨i,v⟩:=s; obtain⟨aa,ad⟩:=ak
  simp only at aa ad; subst aa
  have ay:bs ((k:Int)+64)=((k+64:Nat):Int):=by rw [hC (by omega) (by omega)]; simp
  refine bl.cond (fun _=>?_) (fun h=>by simp at h; omega)
  refine bl.idx rfl (show k<128 by omega) (.eq rfl (.idx ay (show k+64<128 by omega) (.eq rfl (.ret ⟨eT (by omega),fun j aE=>?_⟩))))
  simp only [gp _ _ (show k<128 by omega),gp _ _ (show k+64<128 by omega),oT (show k<2 ^ 64 by omega),WD,ad j aE]
  by_cases y0:j=k+64
  ·subst y0
   have aa:(k+64) % 64<k+1:=by omega
   have ad: ¬ (k+64<64):=by omega
   simp only [bA,aa,ad,if_true,if_false,decide_true,Bool.true_and,Nat.add_sub_cancel]
  by_cases k0:j=k
  ·subst k0
   have:j % 64<j+1:=by omega
   simp [bA,this,aw]
  rw [if_neg y0,if_neg k0]
  congr 1
  rw [decide_eq_decide]; omega
 obtain⟨i,v⟩:=s; obtain⟨aa,ad⟩:=ak
 simp only at aa ad; subst aa
 refine⟨_,rfl,.ret fun j aE=>?_⟩
 have:j % 64<64:=by omega
 simp [ad j aE,this]
theorem NT (v:an) (n:Nat) (aR:n<2 ^ 62):bl (xX v n) (fun r=> ∀ j,j<128→bA r j=bA v (j+n)):=by
 unfold xX
 refine .cond (fun h=>.ret fun j aE=>?_) (fun h=>.cond (fun dc=>.eq rfl (.ret fun j aE=>?_)) (fun dc=>.eq rfl (.eq rfl (.ret fun j aE=>?_))))
 ·have:n=0:=by simp at h; omega
  simp [this]
 ·simp only [decide_eq_true_eq] at dc
  have ay:bs ((n:Int) - 64)=((n - 64:Nat):Int):=by rw [hC (by omega) (by omega)]; omega
  rw [ay,oT (by omega)]
  unfold bA
  by_cases aE:j<64
  ·rw [if_pos aE,if_neg (by omega)]
   simp only [BitVec.getLsbD_ushiftRight]
   congr 1; omega
  rw [if_neg aE,if_neg (by omega)]
  rw [show(default:an).dv=0#64 from rfl,BitVec.getLsbD_zero,BitVec.getLsbD_of_ge _ _ (by omega)]
 simp only [decide_eq_false_iff_not] at h dc
 have ay:bs (64 - (n:Int))=((64 - n:Nat):Int):=by rw [hC (by omega) (by omega)]; omega
 rw [ay,oT (by omega),oT (by omega)]
 unfold bA
 by_cases aE:j<64
 ·rw [if_pos aE]
  simp only [BitVec.getLsbD_or,BitVec.getLsbD_ushiftRight,BitVec.getLsbD_shiftLeft]
  by_cases aF:j+n<64
  ·rw [if_pos aF]
   have:j<64 - n:=by omega
   simp [this,Nat.add_comm]
  rw [if_neg aF,BitVec.getLsbD_of_ge _ (n+j) (by omega)]
  have: ¬ (j<64 - n):=by omega
  simp only [aE,this,decide_true,decide_false,Bool.true_and,Bool.not_false,Bool.false_or]
  congr 1; omega
 rw [if_neg aE,if_neg (by omega)]
 simp only [BitVec.getLsbD_ushiftRight]
 congr 1; omega
theorem Xu (v:an) (n:Nat) (aR:n<2 ^ 62):bl (tW v n) (fun r=> ∀ j,j<128→bA r j=(decide (n≤j)&&bA v (j - n))):=by
 unfold tW
 refine .cond (fun h=>.ret fun j aE=>?_) (fun h=>.cond (fun dc=>.eq rfl (.ret fun j aE=>?_)) (fun dc=>.eq rfl (.eq rfl (.ret fun j aE=>?_))))
 ·have:n=0:=by simp at h; omega
  simp [this]
 ·simp only [decide_eq_true_eq] at dc
  have ay:bs ((n:Int) - 64)=((n - 64:Nat):Int):=by rw [hC (by omega) (by omega)]; omega
  rw [ay,oT (by omega)]
  unfold bA
  by_cases k0:j<64
  ·rw [if_pos k0,show(default:an).b2=0#64 from rfl,BitVec.getLsbD_zero]
   have: ¬ (n≤j):=by omega
   simp [this]
  rw [if_neg k0]
  simp only [BitVec.getLsbD_shiftLeft]
  by_cases aF:n≤j
  ·rw [if_pos (by omega)]
   have aX: ¬ (j - 64<n - 64):=by omega
   have a0:j - 64<64:=by omega
   simp only [aF,aX,a0,decide_true,decide_false,Bool.true_and,Bool.not_false]
   congr 1; omega
  have aX:j - 64<n - 64:=by omega
  simp [aF,aX]
 simp only [decide_eq_false_iff_not] at h dc
 have ay:bs (64 - (n:Int))=((64 - n:Nat):Int):=by rw [hC (by omega) (by omega)]; omega
 rw [ay,oT (by omega),oT (by omega)]
 unfold bA
 by_cases k0:j<64
 ·rw [if_pos k0]
  simp only [BitVec.getLsbD_shiftLeft]
  by_cases aF:n≤j
  ·rw [if_pos (by omega)]
   have aX: ¬ (j<n):=by omega
   simp [aF,aX,k0]
  have aX:j<n:=by omega
  simp [aF,aX]
 rw [if_neg k0]
 simp only [BitVec.getLsbD_or,BitVec.getLsbD_ushiftRight,BitVec.getLsbD_shiftLeft]
 have aF:n≤j:=by omega
 by_cases aX:j - 64<n
 ·rw [if_pos (by omega)]
  simp only [aF,aX,decide_true,Bool.not_true,Bool.and_false,Bool.false_and,Bool.false_or,Bool.true_and]
  congr 1; omega
 rw [if_neg (by omega),BitVec.getLsbD_of_ge v.b2 _ (by omega)]
 have a0:j - 64<64:=by omega
 simp only [aF,aX,a0,decide_true,decide_false,Bool.not_false,Bool.true_and,Bool.or_false]
 congr 1; omega
theorem IW (v:an) (i:Int):bl (sr v i) (fun r=>r=(decide (0≤i∧i<128)&&bA v i.toNat)):=by
 unfold sr
 refine .c0 (P:=fun r=> ∀ j,j<128→bA r j=bA v (j+i.toNat)) (fun h=>?_) fun y a6=>.eq rfl (.ret ?_)
 ·simp at h
  obtain⟨n,rfl⟩:=Int.eq_ofNat_of_zero_le h.1
  exact NT v n (by omega)
 by_cases h:0≤i∧i<128
 ·have aa:(decide (i≥0)&&decide (i<128))=true:=by simp; omega
  rw [aa,Ox]
  have:=a6 aa 0 (by omega)
  rw [show bA y 0=y.b2.getLsbD 0 from rfl,Nat.zero_add] at this
  rw [this,decide_eq_true h]
 have aa:(decide (i≥0)&&decide (i<128))=false:=by simp; omega
 simp [aa,h]
def bL (w:Vector an 4) (i:Nat):Bool:=bA (br w (i / 128)) (127 - i % 128)
theorem Bp {v w:Vector an 4} (h:∀ i,i<512→bL v i=bL w i):v=w:=by
 refine EG fun k aw=>sN fun j aE=>?_
 have:=h (128 * k+(127 - j)) (by omega)
 unfold bL at this
 rw [show(128 * k+(127 - j)) / 128=k by omega,show 127 - (128 * k+(127 - j)) % 128=j by omega] at this
 exact this
theorem NU (n:Nat) (aR:n<512):xY (n:Int)=some (((n / 128:Nat):Int),((127 - n % 128:Nat):Int)):=by
 unfold xY wP o2
 have aa:(n:Int).tdiv 128=((n / 128:Nat):Int):=by rw [Int.tdiv_eq_ediv_of_nonneg (by omega)]; omega
 have ad:(n:Int).tmod 128=((n % 128:Nat):Int):=by rw [Int.tmod_eq_emod_of_nonneg (by omega)]; omega
 simp only [aa,ad,if_neg (show ¬ ((128:Int)=0) by omega),Option.bind_some]
 rw [hC (by omega) (by omega),hC (by omega) (by omega)]
 congr 2; omega
theorem has_eq (w:Vector an 4) (n:Nat) (aR:n<512):bl (AE w n) (fun r=>r=bL w n):=by
 unfold AE
 refine .eq (NU n aR) (.idx rfl (show n / 128<4 by omega) ((IW _ _).bind fun y a6=>.ret ?_))
 rw [a6]
 have:(0:Int)≤ ((127 - n % 128:Nat):Int)∧ ((127 - n % 128:Nat):Int)<128:=by omega
 simp [this,bL]
theorem Iu (w:Vector an 4) {n:Nat} (aR:n<512) (x:an) (h:∀ j,j<128→bA x j=(bA (br w (n / 128)) j||decide (j=127 - n % 128))) (m:Nat) (hm:m<512):
 bL (c5 w (n / 128) x) m=(bL w m||decide (m=n)):=by
 unfold bL
 rw [gp _ _ (show n / 128<4 by omega)]
 by_cases hq:m / 128=n / 128
 ·rw [if_pos hq,h _ (by omega),hq]
  congr 1
  rw [decide_eq_decide]; omega
 rw [if_neg hq]
 have:m≠n:=by intro h; subst h; exact hq rfl
 simp [this]
theorem Ya (x:bc) (n:Nat) (aR:n<512) (b:Bool):bl (vD x n b) (fun c=>
 (bL x.b3 n=true→c=x)∧ (bL x.b3 n=false→ (∀ m,m<512→bL c.b3 m=(bL x.b3 m||decide (m=n)))∧ (∀ m,m<512→bL c.bS m=(bL x.bS m||(b&&decide (m=n)))))):=by
 unfold vD
 have bT:(decide ((n:Int)<0)||decide ((n:Int)≥512))=false:=by simp; omega
 rw [bT]
 refine .c0 (P:=fun r=>r=bL x.b3 n) (fun _=>has_eq _ _ aR) fun y a6=>.cond (fun h=>.ret ⟨fun _=>rfl,fun dc=>?_⟩) (fun h=>?_)
 ·rw [a6 rfl,dc] at h; simp at h
 have hm:bL x.b3 n=false:=by simpa [a6 rfl] using h
 refine .eq (NU n aR) (.eq rfl ((Xu _ (127 - n % 128) (by omega)).bind fun bJ e2=>?_))
 have aX:∀ (w:an) j,j<128→bA (GA w bJ) j=(bA w j||decide (j=127 - n % 128)):=by
  intro w j aE
  rw [Pq,e2 j aE]
  congr 1
  by_cases hq:j=127 - n % 128
  ·subst hq; simp [bA]
  by_cases nf:127 - n % 128≤j
  ·have df:bA { (default:an) with b2:=1#64 } (j - (127 - n % 128))=false:=by
    unfold bA
    split
    ·simp only [BitVec.getLsbD_one]; simp; omega
    rw [show(default:an).dv=0#64 from rfl]; exact BitVec.getLsbD_zero
   rw [df]; simp [hq]
  simp [hq,nf]
 have aw:n / 128<4:=by omega
 refine .idx rfl aw ?_
 refine .eq (or_eq _ _) ?_
 refine .idx rfl aw ?_
 refine .bind (P:=fun c=>(∀ m,m<512→bL c.b3 m=(bL x.b3 m||decide (m=n)))∧ (∀ m,m<512→bL c.bS m=(bL x.bS m||(b&&decide (m=n))))) (.cond (fun hb=>?_) (fun hb=>?_)) fun c al=>?_
 ·refine .idx rfl aw ?_
  first
  | refine .eq (or_eq _ _) ?_
  | refine .eq rfl (.eq (or_eq _ _) ?_)
  refine .idx rfl aw ?_
  refine .eq rfl ?_
  refine .ret ⟨fun m hm=>?_,fun m hm=>?_⟩
  ·exact Iu _ aR _ (aX _) m hm
  rw [hb,Bool.true_and]; exact Iu _ aR _ (aX _) m hm
 ·refine .ret ⟨fun m hm=>?_,fun m hm=>?_⟩
  ·exact Iu _ aR _ (aX _) m hm
  simp [hb]
 refine .ret ⟨fun h=>?_,fun _=>al⟩
 rw [hm] at h; cases h
theorem AB {f:an→an→Option an} {g:Bool→Bool→Bool} (a7:∀ x y,bl (f x y) (fun r=> ∀ j,j<128→bA r j=g (bA x j) (bA y j))) (a b:Vector an 4):
 bl (sl a b f) (fun r=> ∀ i,i<512→bL r i=g (bL a i) (bL b i)):=by
 unfold sl
 refine bl.loop 4 (fun k s=>s.1=k∧ ∀ j,j<4→ ∀ i,i<128→bA (br s.2 j) i=if j<k then g (bA (br a j) i) (bA (br b j) i) else bA (br a j) i) (by omega)
  ⟨rfl,fun j aE i ak=>by simp⟩ (fun k s aw ak=>?_) (fun s ak=>?_)
 ·obtain⟨i,v⟩:=s; obtain⟨aa,ad⟩:=ak
  simp only at aa ad; subst aa
  refine bl.cond (fun _=>?_) (fun h=>by simp at h; omega)
  refine .idx rfl aw (.idx rfl aw ((a7 _ _).bind fun y a6=>.idx rfl aw (.ret ⟨eT (by omega),fun j aE i ak=>?_⟩)))
  simp only [gp _ _ aw]
  by_cases y0:j=k
  ·subst y0; rw [if_pos rfl,if_pos (by omega),a6 i ak,ad j aE i ak,if_neg (by omega)]
  rw [if_neg y0,ad j aE i ak]
  have aX:(j<k+1)↔j<k:=by omega
  simp [aX]
 obtain⟨i,v⟩:=s; obtain⟨aa,ad⟩:=ak
 simp only at aa ad; subst aa
 refine⟨_,rfl,.ret fun m hm=>?_⟩
 unfold bL
 rw [ad _ (by omega) _ (by omega),if_pos (by omega)]
theorem rA (x y:an):bl (mn x y) (fun r=> ∀ j,j<128→bA r j=(bA x j&&bA y j)):=⟨_,and_eq x y,fun j _=>pC x y j⟩
theorem wc (x y:an):bl (nW x y) (fun r=> ∀ j,j<128→bA r j=(bA x j||bA y j)):=⟨_,or_eq x y,fun j _=>Pq x y j⟩
theorem EU (x y:an):bl (tY x y) (fun r=> ∀ j,j<128→bA r j=(bA x j ^^ bA y j)):=⟨_,xor_eq x y,fun j _=>Xt x y j⟩
theorem Bc (n:Int):bl (so n) (fun r=> ∀ j,j<128→bA r j=decide ((j:Int)<n)):=by
 unfold so xU
 refine .eq rfl (.eq rfl ?_)
 have hm:bs (128 - min (max 0 n) 128)=((128 - min (max 0 n) 128).toNat:Int):=by rw [hC (by omega) (by omega)]; omega
 rw [hm]
 refine(NT _ _ (by omega)).bind fun r aQ=>.ret fun j aE=>?_
 rw [aQ j aE]
 have jG:∀ i,bA { dv:=18446744073709551615#64,b2:=18446744073709551615#64 } i=decide (i<128):=by
  intro i
  have bm:(18446744073709551615#64)=BitVec.allOnes 64:=by rfl
  unfold bA
  simp only [bm,BitVec.getLsbD_allOnes]
  by_cases h:i<64
  ·simp [h]; omega
  simp [h]; omega
 rw [jG,decide_eq_decide]; omega
theorem Pr (x:an):bl (x5 x 128) (fun r=> ∀ j,j<128→bA r j= !bA x j):=by
 unfold x5
 refine(Bc 128).bind fun a bp=>.eq (and_eq _ _) (.ret fun j aE=>?_)
 rw [pC,bp j aE]
 have:((j:Int)<128):=by omega
 unfold bA
 by_cases h:j<64
 ·simp [h,this]
 simp [h,this]; omega
def can (c:bc):Prop:= ∀ i,i<512→bL c.bS i=true→bL c.b3 i=true
theorem En (i:Nat):bL default i=false:=by unfold bL; rw [x3]; exact vU _
theorem eq_zero_iff {w:Vector an 4} :w=default↔ ∀ i,i<512→bL w i=false:=
 ⟨fun h i _=>by rw [h]; exact En i,fun h=>Bp fun i ak=>by rw [h i ak,En]⟩
def sY (x y:bc):Prop:= ∀ i,i<512→bL x.b3 i=true→bL y.b3 i=true→bL x.bS i=bL y.bS i
theorem OE (x y:bc):bl (x4 x y) (fun r=>(r.2=true↔sY x y)∧ (r.2=false→r.1=default)∧
 (r.2=true→ (∀ i,i<512→bL r.1.bS i=(bL x.bS i||bL y.bS i))∧ ∀ i,i<512→bL r.1.b3 i=(bL x.b3 i||bL y.b3 i))):=by
 unfold x4
 refine(AB rA _ _).bind fun aD aa=>(AB EU _ _).bind fun aK ad=>(AB rA _ _).bind fun bb aF=>?_
 have key:bb=default↔sY x y:=by
  rw [eq_zero_iff]
  constructor
  ·intro h i ak aq a6
   have:=h i ak
   rw [aF i ak,aa i ak,ad i ak,aq,a6] at this
   simpa using this
  intro h i ak
  rw [aF i ak,aa i ak,ad i ak]
  cases aq:bL x.b3 i
  ·simp
  cases a6:bL y.b3 i
  ·simp
  simp [h i ak aq a6]
 refine .cond (fun h=>.ret ?_) (fun h=>?_)
 ·have: ¬ sY x y:=fun bp=>by rw [key.2 bp] at h; simp at h
  simp [this]
 have bp:sY x y:=key.1 (by simpa using h)
 exact(AB wc _ _).bind fun bJ aX=>(AB wc _ _).bind fun bq a0=>.ret (by simp [bp]; exact⟨aX,a0⟩)
def nm (c:bc) (q:Vector an 4):Bool:=decide (∀ i:Fin 512,(bL q i.1&&bL c.b3 i.1)=bL c.bS i.1)
theorem EV {c:bc} {q:Vector an 4} :nm c q=true↔ ∀ i,i<512→ (bL q i&&bL c.b3 i)=bL c.bS i:=by
 unfold nm
 rw [decide_eq_true_iff]
 exact⟨fun h i ak=>h ⟨i,ak⟩,fun h i=>h i.1 i.2⟩
theorem Yb {c d:bc} {q:Vector an 4} {k:Nat} {b:Bool} (aw:k<512) (aa:bL c.b3 k=false) (ad:bL c.bS k=false)
 (hm:∀ m,m<512→bL d.b3 m=(bL c.b3 m||decide (m=k))) (a2:∀ m,m<512→bL d.bS m=(bL c.bS m||(b&&decide (m=k)))):nm d q=(nm c q&&(bL q k==b)):=by
 rw [Bool.eq_iff_iff,Bool.and_eq_true,EV,EV,beq_iff_eq]
 constructor
 ·intro h
  refine⟨fun i ak=>?_,?_⟩
  ·by_cases iS:i=k
   ·subst iS; simp [aa,ad]
   have:=h i ak
   rw [hm i ak,a2 i ak] at this
   simpa [iS] using this
  have:=h k aw
  rw [hm k aw,a2 k aw] at this
  simpa [aa,ad] using this
 rintro ⟨h,hq⟩ i ak
 rw [hm i ak,a2 i ak]
 by_cases iS:i=k
 ·subst iS; simp [ad,hq]
 simpa [iS] using h i ak
def val (w:Nat):Nat→ (Nat→Nat)→Nat
 | 0,_=>0
 | n+1,d=>d 0+2 ^ w * val w n (fun k=>d (k+1))
theorem WH {w n:Nat} {d:Nat→Nat} :val w (n+1) d=val w n d+2 ^ (w * n) * d n:=by
 induction n generalizing d with
 | zero=>simp [val]
 | succ n bR=>
   rw [val,bR,val,Nat.mul_add,← Nat.mul_assoc,← Nat.pow_add,show w+w * n=w * (n+1) by rw [Nat.mul_add]; omega]
   omega
def r6 (n:Nat) (p:Nat→Bool):Nat:=val 0 n (fun i=>(p i).toNat)
theorem A2 {n:Nat} {p:Nat→Bool} :r6 (n+1) p=r6 n p+(p n).toNat:=by unfold r6; rw [WH]; simp
theorem Yc {n:Nat} {p:Nat→Bool} :r6 n p≤n:=by
 induction n with
 | zero=>simp [r6,val]
 | succ n bR=>rw [A2]; have:=Bool.toNat_le (p n); omega
theorem VY (x y:bc) (aq:can x) (a6:can y):bl (Ap x y) (fun r=>r=true↔ ∀ i,i<512→bL y.b3 i=true→bL x.b3 i=true∧bL x.bS i=bL y.bS i):=by
 unfold Ap
 refine(OE x y).bind fun m ⟨aa,ad,aF⟩=>.ret ?_
 rw [Bool.and_eq_true,decide_eq_true_iff]
 constructor
 ·rintro ⟨b1,he⟩ i ak hm
  obtain⟨aX,a0⟩:=aF b1
  rw [he] at aX a0
  have C2:bL x.b3 i=true:=by rw [a0 i ak,hm]; simp
  exact⟨C2,aa.1 b1 i ak C2 hm⟩
 intro h
 have bp:sY x y:=fun i ak _ hm=>(h i ak hm).2
 have b1:=aa.2 bp
 obtain⟨aX,a0⟩:=aF b1
 refine⟨b1,?_⟩
 have ay:m.1.bS=x.bS:=Bp fun i ak=>by
  rw [aX i ak]
  cases a2:bL y.bS i
  ·simp
  simp [(h i ak (a6 i ak a2)).2,a2]
 have aO:m.1.b3=x.b3:=Bp fun i ak=>by
  rw [a0 i ak]
  cases a2:bL y.b3 i
  ·simp
  simp [(h i ak a2).1]
 cases hm:m.1; cases x; simp_all
def rU:List Int:= [16,16,8,4,4,8,32,12,4]
theorem db.qZ {s:a3} (h:db s) {k:Nat} (aw:k<9):(az s.fF k).b0=(k:Int)+1∧ (az s.fF k).fB=az rU k:=by
 have aa:=yd BO (l:=s.fF) (k:=k) (by rw [h.pS]; exact aw)
 rw [h.fields] at aa
 have ad:az J6 k=((k:Int)+1,az rU k):=by
  have:k=0∨k=1∨k=2∨k=3∨k=4∨k=5∨k=6∨k=7∨k=8:=by omega
  rcases this with rfl | rfl | rfl | rfl | rfl | rfl | rfl | rfl | rfl <;> rfl
 rw [ad] at aa
 simp only [BO,Prod.mk.injEq] at aa
 exact⟨aa.1.symm,aa.2.symm⟩
def uR:List (List Int):= [[],[],[16],[4],[4,12],[]]
theorem db.act {s:a3} (h:db s) {k:Nat} (aw:k<6):(az s.dH k).b0=(k:Int)+1∧ (az s.dH k).kL.map (·.fB)=az uR k:=by
 have aa:=yd qp (l:=s.dH) (k:=k) (by rw [h.J7]; exact aw)
 rw [h.It] at aa
 have ad:az yU k=((k:Int)+1,az uR k):=by
  have:k=0∨k=1∨k=2∨k=3∨k=4∨k=5:=by omega
  rcases this with rfl | rfl | rfl | rfl | rfl | rfl <;> rfl
 rw [ad] at aa
 simp only [qp,Prod.mk.injEq] at aa
 exact⟨aa.1.symm,aa.2.symm⟩
def kz (key:cR):Prop:= ∃ j:Nat,j<9∧key.g3=(j:Int)+1∧1≤key.cS∧key.cS≤4∧4≤az rU j∧az rU j≤32∧ (key.cS=2→j=6)
def gh (key:cR):Int:=az rU (key.g3 - 1).toNat
theorem db.iJ {s:a3} (h:db s) {k:Nat} (aw:k<4):(az s.bt k).b0=(k:Int)+1∧
 (1≤ (az s.bt k).bN.length∧ (az s.bt k).bN.length≤3)∧ (∀ key∈ (az s.bt k).bN,kz key)∧
 (1≤ (az s.bt k).dH.length∧ (az s.bt k).dH.length≤5)∧ (∀ a∈ (az s.bt k).dH,1≤a∧a≤6):=by
 obtain⟨eo,fb,ij,b1⟩:=h.tables
 have aa:=yd om (l:=s.bt) (k:=k) (by rw [h.lj]; exact aw)
 rw [b1] at aa
 have ad:∀ p:Int×List Int×List cR,p=om (az s.bt k)→p.1=(k:Int)+1→ (1≤p.2.2.length∧p.2.2.length≤3)→ (∀ key∈p.2.2,kz key)→
  (1≤p.2.1.length∧p.2.1.length≤5)→ (∀ a∈p.2.1,1≤a∧a≤6)→ (az s.bt k).b0=(k:Int)+1∧
  (1≤ (az s.bt k).bN.length∧ (az s.bt k).bN.length≤3)∧ (∀ key∈ (az s.bt k).bN,kz key)∧
  (1≤ (az s.bt k).dH.length∧ (az s.bt k).dH.length≤5)∧ (∀ a∈ (az s.bt k).dH,1≤a∧a≤6):=by
  rintro p rfl a b c d e
  exact⟨a,b,c,d,e⟩
 have fJ:(1≤ ([1,2,4]:List Int).length∧ ([1,2,4]:List Int).length≤5)∧ ∀ a∈ ([1,2,4]:List Int),1≤a∧a≤6:=by decide
 have dA:(1≤ ([1,2,3,4]:List Int).length∧ ([1,2,3,4]:List Int).length≤5)∧ ∀ a∈ ([1,2,3,4]:List Int),1≤a∧a≤6:=by decide
 have dK:(1≤ ([1,2,3,5,6]:List Int).length∧ ([1,2,3,5,6]:List Int).length≤5)∧ ∀ a∈ ([1,2,3,5,6]:List Int),1≤a∧a≤6:=by decide
 have hH:(1≤ ([1,3,5]:List Int).length∧ ([1,3,5]:List Int).length≤5)∧ ∀ a∈ ([1,3,5]:List Int),1≤a∧a≤6:=by decide
 have Z7:kz p6:=⟨3,by decide,rfl,by decide,by decide,by decide,by decide,by decide⟩
 have Ps:kz CZ:=⟨3,by decide,rfl,by decide,by decide,by decide,by decide,by decide⟩
 have Z8:kz LP:=⟨4,by decide,rfl,by decide,by decide,by decide,by decide,by decide⟩
 have JD:kz xl:=⟨6,by decide,rfl,by decide,by decide,by decide,by decide,by decide⟩
 have Z9:kz GR:=⟨2,by decide,rfl,by decide,by decide,by decide,by decide,by decide⟩
 have QG:kz Dn:=⟨5,by decide,rfl,by decide,by decide,by decide,by decide,by decide⟩
 have QH:kz Dp:=⟨7,by decide,rfl,by decide,by decide,by decide,by decide,by decide⟩
 have aaa:kz LQ:=⟨8,by decide,rfl,by decide,by decide,by decide,by decide,by decide⟩
 have:k=0∨k=1∨k=2∨k=3:=by omega
 rcases this with rfl | rfl | rfl | rfl
 ·refine ad _ aa rfl (show 1≤ [p6].length∧ [p6].length≤3 by decide) ?_ fJ.1 fJ.2
  intro key ic
  rcases List.mem_singleton.1 ic with rfl
  exact Z7
 ·refine ad _ aa rfl ?_ ?_ dA.1 dA.2
  ·show 1≤ (m8 eo).length∧ (m8 eo).length≤3
   cases eo <;> decide
  intro key ic
  replace ic:key∈m8 eo:=ic
  cases eo <;> simp only [m8,List.mem_cons,List.not_mem_nil,or_false,if_true,if_false,Bool.false_eq_true] at ic
  ·subst ic; exact JD
  rcases ic with rfl | rfl; exact JD; exact Z9
 ·refine ad _ aa rfl ?_ ?_ dK.1 dK.2
  ·show 1≤ (wB fb).length∧ (wB fb).length≤3
   cases fb <;> decide
  intro key ic
  replace ic:key∈wB fb:=ic
  cases fb <;> simp only [wB,List.mem_cons,List.not_mem_nil,or_false,if_true,if_false,Bool.false_eq_true] at ic
  ·rcases ic with rfl | rfl; exact QG; exact Ps
  rcases ic with rfl | rfl | rfl; exact QG; exact Ps; exact Z8
 refine ad _ aa rfl ?_ ?_ hH.1 hH.2
 ·show 1≤ (wC ij).length∧ (wC ij).length≤3
  cases ij <;> decide
 intro key ic
 replace ic:key∈wC ij:=ic
 cases ij <;> simp only [wC,List.mem_cons,List.not_mem_nil,or_false,if_true,if_false,Bool.false_eq_true] at ic
 ·subst ic; exact QH
 rcases ic with rfl | rfl | rfl; exact QH; exact aaa; exact JD
theorem Vj {s:a3} (h:db s) {j:Nat} (aE:j<9):bl (Ah s ((j:Int)+1)) (fun r=>r=az rU j):=by
 unfold Ah
 have ao:=h.pS
 refine bl.loop j (fun k s=>s=(k:Int)) (by omega) rfl (fun k i aw ak=>?_) (fun i ak=>?_)
 ·subst ak
  refine bl.cond (fun _=>?_) (fun h=>by simp at h; omega)
  refine .idx rfl (by omega) (.cond (fun al=>?_) (fun al=>.ret (eT (by omega))))
  have:=(h.qZ (show k<9 by omega)).1
  simp only [this,beq_iff_eq] at al
  omega
 subst ak
 have aa:decide ((j:Int)<(s.fF.length:Int))=true:=by simp; omega
 have ad:((az s.fF j).b0==(j:Int)+1)=true:=by rw [(h.qZ aE).1]; simp
 rw [aa]
 simp only [cond_true]
 rw [oS (by omega)]
 simp only [Option.bind_some,ad,cond_true]
 exact⟨_,rfl,.ret (h.qZ aE).2⟩
theorem UW {s:a3} (h:db s) {j:Nat} (aE:j<6):bl (z6 s ((j:Int)+1)) (fun r=>r=az s.dH j):=by
 unfold z6
 have ao:=h.J7
 refine bl.loop j (fun k s=>s=(k:Int)) (by omega) rfl (fun k i aw ak=>?_) (fun i ak=>?_)
 ·subst ak
  refine bl.cond (fun _=>?_) (fun h=>by simp at h; omega)
  refine .idx rfl (by omega) (.cond (fun al=>?_) (fun al=>.ret (eT (by omega))))
  have:=(h.act (show k<6 by omega)).1
  simp only [this,beq_iff_eq] at al
  omega
 subst ak
 have aa:decide ((j:Int)<(s.dH.length:Int))=true:=by simp; omega
 have ad:((az s.dH j).b0==(j:Int)+1)=true:=by rw [(h.act aE).1]; simp
 rw [aa]
 simp only [cond_true]
 rw [oS (by omega)]
 simp only [Option.bind_some,ad,cond_true]
 exact⟨_,rfl,.ret rfl⟩
theorem A3 {n:Nat} (aR:n<64) (j:Nat):(((1#64) <<< n) - 1#64).getLsbD j=decide (j<n):=by
 have aa:(((1#64) <<< n) - 1#64).toNat=2 ^ n - 1:=by
  have ad:((1#64) <<< n).toNat=2 ^ n:=by
   rw [BitVec.toNat_shiftLeft,BitVec.toNat_ofNat,Nat.shiftLeft_eq]
   have:=Nat.pow_lt_pow_right (show 1<2 by omega) aR
   rw [show(1 % 2 ^ 64:Nat)=1 from rfl,Nat.one_mul]
   exact Nat.mod_eq_of_lt this
  have aF:1≤2 ^ n:=Nat.one_le_two_pow
  have aX:=Nat.pow_lt_pow_right (show 1<2 by omega) aR
  rw [BitVec.toNat_sub,ad]
  simp only [BitVec.toNat_ofNat]
  omega
 rw [← BitVec.testBit_toNat,aa,Nat.testBit_two_pow_sub_one]
theorem Bq (x:an) (n:Int) (bT:0≤n) (aa:n<1000):bl (tX x n) (fun r=> ∀ j,j<128→bA r j=(bA x j&&decide ((j:Int)<n))):=by
 unfold tX
 obtain⟨m,rfl⟩:=Int.eq_ofNat_of_zero_le bT
 refine .cond (fun h=>.ret fun j aE=>?_) fun h=>.cond (fun dc=>.eq rfl (.ret fun j aE=>?_)) fun dc=>.cond (fun K5=>.ret fun j aE=>?_) fun K5=>.eq rfl (.eq rfl (.ret fun j aE=>?_))
 ·simp only [decide_eq_true_eq] at h
  have:decide ((j:Int)<(m:Int))=true:=by simp; omega
  rw [this,Bool.and_true]
 ·simp only [decide_eq_true_eq,decide_eq_false_iff_not] at h dc
  have e:bs ((m:Int) - 64)=((m - 64:Nat):Int):=by rw [hC (by omega) (by omega)]; omega
  simp only [bA,e,oT (show m - 64<2 ^ 64 by omega),BitVec.getLsbD_and,A3 (show m - 64<64 by omega)]
  split
  ·have:decide ((j:Int)<(m:Int))=true:=by simp; omega
   rw [this,Bool.and_true]
  congr 1; rw [decide_eq_decide]; omega
 ·simp only [decide_eq_true_eq] at K5
  have:decide ((j:Int)<(m:Int))=false:=by simp; omega
  rw [vU,this,Bool.and_false]
 simp only [decide_eq_true_eq,decide_eq_false_iff_not] at h dc K5
 simp only [bA,oT (show m<2 ^ 64 by omega),BitVec.getLsbD_and,A3 (show m<64 by omega)]
 split
 ·congr 1; rw [decide_eq_decide]; omega
 have:decide ((j:Int)<(m:Int))=false:=by simp; omega
 rw [this,Bool.and_false]; exact BitVec.getLsbD_zero
theorem QI (w:BitVec 64) (j:Nat):bA { (default:an) with b2:=w } j=w.getLsbD j:=by
 unfold bA
 split
 ·rfl
 rw [BitVec.getLsbD_of_ge w j (by omega)]; exact BitVec.getLsbD_zero
structure oo (kind b:Int) (m:cA):Prop where
 off:m.g1=false→m=default
 C3:kind=1→m.g1=true
 low:kind=1→ ∀ j,j<128→bA m.bS j=true→ (j:Int)<b
 RV:kind=3→ ∀ j,j<128→bA m.b3 j=true→ (j:Int)<b
 adj:kind=3→ ∀ j,j<128→bA m.bS j=true→bA m.b3 j=true
 pre:0≤m.fp∧m.fp≤32
 RW:kind=2→m.g1=true→1≤m.fp
 RX:kind≠2→m.fp=0
 gX:kind≠3→m.b3=default
 aez:kind=3→m.g1=true→m.b3≠default
 u6:kind=4→m.g1=true→m.bS.dv=m.l0.dv∧m.bS.b2≤m.l0.b2
 K6:kind=2→ ∀ j,j<128→bA m.bS j=true→32 - m.fp≤ (j:Int)∧j<32
 GB:kind≠4→m.l0=default
theorem FZ:(0:Int)≤0∧ (0:Int)≤32:=⟨Int.le_refl 0,by decide⟩
theorem HO {kind b:Int} (h:kind≠1):oo kind b default:=
 ⟨fun _=>rfl,fun k=>absurd k h,fun k=>absurd k h,fun _ j _ a2=>(by rw [show(default:cA).b3=default from rfl,vU] at a2; cases a2),
  fun _ j _ a2=>(by rw [show(default:cA).bS=default from rfl,vU] at a2; cases a2),
  FZ,fun _ k=>(by cases k),fun _=>rfl,fun _=>rfl,fun _ k=>(by cases k),fun _ k=>(by cases k),
  fun _ j _ a2=>(by rw [show(default:cA).bS=default from rfl,vU] at a2; cases a2),fun _=>rfl⟩
theorem Xv {a x y:BitVec 64} (aa:a≤x) (ad:a≤y):a≤wO x y:=by
 unfold wO; split <;> assumption
theorem Xw {v:an} {b c:Int} (hb:0≤b∧b≤32) (al:0≤c∧c<256) (a2:∀ j,j<128→bA v j=true→ (j:Int)<b):
 v.dv=0#64∧v.b2≤wO (v.b2+BitVec.ofInt 64 c) (((1#64) <<< (BitVec.ofInt 64 b).toNat) - (1#64)):=by
 have dD:v.dv=0#64:=by
  apply BitVec.eq_of_getLsbD_eq
  intro i ak
  have h:=a2 (64+i) (by omega)
  unfold bA at h
  rw [if_neg (by omega),Nat.add_sub_cancel_left] at h
  rw [BitVec.getLsbD_zero]
  cases aq:v.dv.getLsbD i
  ·rfl
  have:=h aq; omega
 obtain⟨n,rfl⟩:=Int.eq_ofNat_of_zero_le hb.1
 have aR:n≤32:=by omega
 have KY:(BitVec.ofInt 64 (n:Int)).toNat=n:=oT (by omega)
 rw [KY]
 have QJ:v.b2≤ ((1#64) <<< n) - 1#64:=by
  have hand:v.b2&&&(((1#64) <<< n) - 1#64)=v.b2:=by
   apply BitVec.eq_of_getLsbD_eq
   intro i ak
   rw [BitVec.getLsbD_and,A3 (by omega)]
   have h:=a2 i (by omega)
   unfold bA at h
   rw [if_pos ak] at h
   cases aq:v.b2.getLsbD i
   ·rfl
   have:=h aq
   simp; omega
  rw [← hand]
  rw [BitVec.le_def,BitVec.toNat_and]
  exact Nat.and_le_right
 have vd:(((1#64) <<< n) - 1#64).toNat<2 ^ 33:=by
  have GC:(((1#64) <<< n) - 1#64)&&&(((1#64) <<< 32) - 1#64)=(((1#64) <<< n) - 1#64):=by
   apply BitVec.eq_of_getLsbD_eq
   intro i ak
   rw [BitVec.getLsbD_and,A3 (by omega),A3 (by omega)]
   simp; omega
  rw [← GC,BitVec.toNat_and]
  exact Nat.lt_of_le_of_lt Nat.and_le_right (by decide)
 refine⟨dD,Xv ?_ QJ⟩
 rw [BitVec.le_def] at QJ ⊢
 obtain⟨m,rfl⟩:=Int.eq_ofNat_of_zero_le al.1
 rw [BitVec.toNat_add,oT (by omega),Nat.mod_eq_of_lt (by omega)]
 omega
theorem WI (x:BitVec 64) {n:Int} (aa:1≤n) (ad:n≤32) {i:Nat} (ak:i<128)
 (a2:bA { (default:an) with b2:=x&&&((((1#64) <<< (BitVec.ofInt 64 32).toNat) - (1#64)) - (((1#64) <<< (BitVec.ofInt 64 (bs (32 - n))).toNat) - (1#64))) } i=true):32 - n≤ (i:Int)∧i<32:=by
 rw [QI,BitVec.getLsbD_and,Bool.and_eq_true] at a2
 have aF:=a2.2
 obtain⟨k,aw⟩:=Int.eq_ofNat_of_zero_le (show 0≤32 - n by omega)
 have c6:k<32:=by omega
 have e:bs (32 - n)=(k:Int):=by rw [aw,hC (by omega) (by omega)]
 rw [e,oT (by omega)] at aF
 have K7:i<64:=by
  rcases Nat.lt_or_ge i 64 with h | h
  ·exact h
  rw [BitVec.getLsbD_of_ge _ i h] at aF; cases aF
 have key:∀ (k:Fin 32) (i:Fin 64),((((1#64) <<< (BitVec.ofInt 64 32).toNat) - (1#64)) - (((1#64) <<< k.1) - (1#64))).getLsbD i.1=true→k.1≤i.1∧i.1<32:=by decide +kernel
 have:=key ⟨k,c6⟩ ⟨i,K7⟩ aF
 simp only at this
 omega
theorem VZ (c:bu) {s:a3} (key:cR) (al:hv c) (h:db s) (aw:kz key):
 bl (zZ c s key) (fun r=>hv r.2∧oo key.cS (gh key) r.1):=by
 obtain⟨j,aE,a7,aZ,eY,GS,adk,c6⟩:=aw
 have hb:gh key=az rU j:=by unfold gh; rw [a7]; congr 1; omega
 unfold zZ
 rw [a7]
 refine(Vj h aE).bind fun aD ay=>?_
 rw [hb]
 subst ay
 generalize h1:az rU j=b at *
 refine .bind (gP _ 256 al (by omega)) fun aK ad=>.bind (gP _ 16 ad.1 (by omega)) fun bb aF=>.eq rfl (.bind (gP _ 16 aF.1 (by omega)) fun bJ aX=>.eq rfl ?_)
 refine .bind (Bq _ b (by omega) (by omega)) fun bq a0=>?_
 refine .cond (fun q=>?_) fun q=>?_
 ·have q:key.cS=2:=by simpa using q
  refine .bind (gP _ 5 aX.1 (by omega)) fun b6 bn=>.cond (fun _=>?_) fun _=>.ret ⟨bn.1,HO (by omega)⟩
  refine .bind (gP _ b bn.1 (by omega)) fun eB cZ=>.bind (gP _ 5 cZ.1 (by omega)) fun fN e5=>?_
  refine .eq (vT e5.2.1 (by simpa using e5.2.2.1)) ?_
  have jz:1≤az [b,8,16,1,bs (1+eB.1)] fN.1.toNat∧az [b,8,16,1,bs (1+eB.1)] fN.1.toNat≤32:=by
   have cD:fN.1.toNat<[b,8,16,1,bs (1+eB.1)].length:=by have:=e5.2.1; have:=e5.2.2.1; simp; omega
   have hm:=List.getElem_mem cD
   rw [← e0 _ cD] at hm
   have hw:bs (1+eB.1)=1+eB.1:=hC (by have:=cZ.2.1; omega) (by have:=cZ.2.2.1; omega)
   have:=cZ.2.1; have:=cZ.2.2.1
   simp only [List.mem_cons,List.not_mem_nil,or_false] at hm
   rcases hm with hm | hm | hm | hm | hm <;> rw [hm] <;> omega
  unfold D6
  refine .eq rfl (.eq rfl (.eq rfl (.ret ⟨e5.1,fun h=>(by cases h),fun h=>(by omega),fun h=>by omega,fun h=>(by omega),fun h=>(by omega),⟨by have:=jz.1; show 0≤az _ _; omega,jz.2⟩,fun _ _=>jz.1,fun h=>absurd q h,fun _=>rfl,fun h=>(by omega),fun h=>(by omega),fun _ i ak a2=>?_,fun _=>rfl⟩)))
  have GC:b=32:=by rw [← h1,c6 q]; rfl
  rw [GC] at jz a2
  rw [GC]
  exact WI _ jz.1 jz.2 ak a2
 refine .cond (fun et=>?_) fun et=>?_
 ·have et:key.cS=3:=by simpa using et
  refine .bind (gP _ 256 aX.1 (by omega)) fun ee kI=>.bind (gP _ 5 kI.1 (by omega)) fun jl qY=>?_
  refine .eq (vT qY.2.1 (by simpa using qY.2.2.1)) (.eq rfl (.bind (Bq _ b (by omega) (by omega)) fun jb C1=>?_))
  refine .cond (fun K8=>?_) fun _=>.ret ⟨qY.1,HO (by omega)⟩
  refine .eq rfl (.eq rfl (.ret ⟨qY.1,fun h=>(by cases h),fun h=>(by omega),fun h=>by omega,fun _ i ak a2=>?_,fun _ i ak a2=>?_,FZ,fun h=>(by omega),fun _=>rfl,fun h=>absurd et h,fun _ _ hd=>?_,fun h=>(by omega),fun h=>(by omega),fun _=>rfl⟩))
  ·have tu:=C1 i ak
   simp only at a2
   rw [a2] at tu
   have:=tu.symm
   simp only [Bool.and_eq_true,decide_eq_true_eq] at this
   exact this.2
  ·simp only at a2 ⊢
   rw [QI,BitVec.getLsbD_and,Bool.and_eq_true] at a2
   have K7:i<64:=by
    rcases Nat.lt_or_ge i 64 with h | h
    ·exact h
    rw [BitVec.getLsbD_of_ge _ i h] at a2; cases a2.1
   unfold bA; rw [if_pos K7]; exact a2.2
  have hd':jb=default:=hd
  rw [hd'] at K8; simp at K8
  exact K8 rfl
 refine .cond (fun jS=>?_) fun jS=>?_
 ·have jS:key.cS=4:=by simpa using jS
  refine .bind (gP _ 256 aX.1 (by omega)) fun jx tu=>.eq rfl (.bind (gP _ 5 tu.1 (by omega)) fun kG Gz=>.eq rfl (.cond (fun _=>?_) fun _=>.ret ⟨Gz.1,HO (by omega)⟩))
  have GD:=Xw (v:=bq) (b:=b) (c:=jx.1) ⟨by omega,adk⟩ ⟨tu.2.1,tu.2.2.1⟩ fun i ak a2=>by
   have C0:=a0 i ak
   rw [a2] at C0
   have:=C0.symm
   simp only [Bool.and_eq_true,decide_eq_true_eq] at this
   exact this.2
  exact .eq rfl (.ret ⟨Gz.1,fun h=>(by cases h),fun h=>(by omega),fun h=>by omega,fun h=>(by omega),fun h=>(by omega),FZ,fun h=>(by omega),fun _=>rfl,fun _=>rfl,fun h=>(by omega),fun _ _=>GD,fun h=>(by omega),fun h=>absurd jS h⟩)
 have aA:key.cS=1:=by
  simp only [beq_eq_false_iff_ne] at q et jS
  omega
 refine .eq rfl (.ret ⟨aX.1,fun h=>(by cases h),fun _=>rfl,fun _ i ak a2=>?_,fun h=>(by omega),fun h=>(by omega),FZ,fun h=>(by omega),fun _=>rfl,fun _=>rfl,fun h=>(by omega),fun h=>(by omega),fun h=>(by omega),fun _=>rfl⟩)
 have tu:=a0 i ak
 simp only at a2
 rw [a2] at tu
 have:=tu.symm
 simp only [Bool.and_eq_true,decide_eq_true_eq] at this
 exact this.2
structure ia (s:a3) (k:Nat) (e:bC):Prop where
 iJ:e.ef=(k:Int)+1
 len:e.b4.length=(az s.bt k).bN.length
 q0:∀ i,i<(az s.bt k).bN.length→oo (az (az s.bt k).bN i).cS (gh (az (az s.bt k).bN i)) (az e.b4 i)
 args:e.lb.length≤10
 pri:(∀ i,i<(az s.bt k).bN.length→ (az (az s.bt k).bN i).cS≤2)→e.ik=0
theorem HP {α:Type} [Inhabited α] (l:List α) (x:α) (i:Nat):az (l++[x]) i=if i=l.length then x else az l i:=by
 unfold az
 by_cases h:i=l.length
 ·subst h; simp
 rw [if_neg h]
 rcases Nat.lt_or_ge i l.length with aa | aa
 ·rw [List.getElem?_append_left aa]
 rw [List.getElem?_eq_none (by simp; omega),List.getElem?_eq_none aa]
theorem V0 (c:bu) {s:a3} (x:Int) (al:hv c) (h:db s):
 bl (z0 c s x) (fun r=>hv r.2∧ ∃ k:Nat,k<4∧sq x (s.bt.length:Int)=some (k:Int)∧ia s k r.1):=by
 unfold z0
 obtain⟨aD,ay,bT,aa⟩:=OC x (s.bt.length:Int) (by rw [h.lj]; omega) (by rw [h.lj]; omega)
 obtain⟨k,rfl⟩:=Int.eq_ofNat_of_zero_le bT
 have aw:k<4:=by have:=h.lj; omega
 obtain⟨t1,⟨t2,t3⟩,t4,⟨t5,t6⟩,t7⟩:=h.iJ aw
 refine .eq ay (.idx rfl (by have:=h.lj; omega) ?_)
 refine bl.loop (az s.bt k).bN.length (fun i st=>st.1=(i:Int)∧st.2.1.ef=(k:Int)+1∧st.2.2.1.length=i∧hv st.2.2.2∧
  (∀ j,j<i→oo (az (az s.bt k).bN j).cS (gh (az (az s.bt k).bN j)) (az st.2.2.1 j))∧ ((∀ j,j<i→ (az (az s.bt k).bN j).cS≤2)→st.2.1.ik=0)) (by omega) ⟨rfl,t1,rfl,al,fun j aE=>by omega,fun _=>rfl⟩ (fun i st ak hs=>?_) (fun st hs=>?_)
 ·obtain⟨xn,e,ms,xm⟩:=st; obtain⟨aO,cK,di,fQ,ig,se⟩:=hs
  simp only at aO cK di fQ ig se; subst aO
  refine bl.cond (fun _=>?_) (fun h=>by simp at h; omega)
  refine .idx rfl ak (.bind (VZ _ _ fQ h (t4 _ (by rw [e0 _ ak]; exact List.getElem_mem ak))) fun aK ad=>.eq (il _ _ (by simp; omega) (by omega)) (.eq rfl ?_))
  refine .bind (P:=fun m=>m.1.ef=(k:Int)+1∧hv m.2∧ ((az (az s.bt k).bN i).cS≤2→m.1.ik=e.ik)) (.cond (fun df=>.bind (gP _ 5 ad.1 (by omega)) fun bJ aX=>.eq rfl (.ret ⟨cK,aX.1,fun h=>by simp at df; omega⟩)) (fun _=>.ret ⟨cK,ad.1,fun _=>rfl⟩)) fun bx cy=>?_
  refine .ret ⟨eT (by omega),cy.1,by simp; omega,cy.2.1,fun j aE=>?_,fun h=>?_⟩
  ·simp only [HP]
   by_cases k0:j=ms.length
   ·rw [if_pos k0]; rw [k0,di]; exact ad.2
   rw [if_neg k0]; exact ig j (by omega)
  exact(cy.2.2 (h i (by omega))).trans (se fun j aE=>h j (by omega))
 obtain⟨xn,e,ms,xm⟩:=st; obtain⟨aO,cK,di,fQ,ig,se⟩:=hs
 simp only at aO cK di fQ ig se; subst aO
 refine⟨_,by simp; rfl,?_⟩
 refine .bind (gP _ _ fQ (by omega)) fun bq a0=>?_
 refine .eq (vT a0.2.1 a0.2.2.1) (.eq rfl ?_)
 have bp:1≤az (az s.bt k).dH bq.1.toNat∧az (az s.bt k).dH bq.1.toNat≤6:=t7 _ (by
  have cD:bq.1.toNat<(az s.bt k).dH.length:=by have:=a0.2.1; have:=a0.2.2.1; omega
  rw [e0 _ cD]; exact List.getElem_mem cD)
 obtain⟨a,gA⟩:=Int.eq_ofNat_of_zero_le (show 0≤az (az s.bt k).dH bq.1.toNat - 1 by omega)
 have adl:az (az s.bt k).dH bq.1.toNat=(a:Int)+1:=by omega
 simp only [adl]
 refine .bind (UW h (show a<6 by omega)) fun b6 bn=>?_
 obtain⟨a4,ba⟩:=h.act (show a<6 by omega)
 rw [← bn] at ba
 have hp:b6.kL.length≤10∧ ∀ i,i<b6.kL.length→0≤ (az b6.kL i).fB∧ (az b6.kL i).fB<1000:=by
  have hq:∀ l∈uR,l.length≤10∧ ∀ b∈l,0≤b∧b<1000:=by decide
  have hm:az uR a∈uR:=by rw [e0 uR (show a<uR.length by simp [uR]; omega)]; exact List.getElem_mem _
  obtain⟨aA,cU⟩:=hq _ hm
  rw [← ba] at aA cU
  refine⟨by simpa using aA,fun i ak=>cU _ ?_⟩
  rw [e0 _ ak]
  exact List.mem_map.2 ⟨_,List.getElem_mem ak,rfl⟩
 refine bl.loop b6.kL.length (fun i st=>st.1=(i:Int)∧st.2.1.ef=(k:Int)+1∧st.2.2.1.length=i∧hv st.2.2.2∧st.2.1.ik=e.ik) (by omega) ⟨rfl,cK,rfl,a0.1,rfl⟩ (fun i st ak hs=>?_) (fun st hs=>?_)
 ·obtain⟨xn,e',vs,adm⟩:=st; obtain⟨f2,f3,f4,f5,f6⟩:=hs
  simp only at f2 f3 f4 f5 f6; subst f2
  refine bl.cond (fun _=>?_) (fun h=>by simp at h; omega)
  refine .idx rfl ak (.bind (gP _ 256 f5 (by omega)) fun eB cZ=>.eq rfl (.bind (Bq _ _ (hp.2 i ak).1 (hp.2 i ak).2) fun fN e5=>.eq (il _ _ (by have:=hp.1; simp; omega) (by omega)) (.ret ⟨eT (by have:=hp.1; omega),f3,by simp; omega,cZ.1,f6⟩)))
 obtain⟨xn,e',vs,adm⟩:=st; obtain⟨f2,f3,f4,f5,f6⟩:=hs
 simp only at f2 f3 f4 f5 f6; subst f2
 refine⟨_,by simp; rfl,?_⟩
 exact .eq rfl (.ret ⟨f5,k,aw,ay,f3,di,ig,by show vs.length≤10; have:=hp.1; omega,fun h=>f6.trans (se h)⟩)
structure aab (s:a3) (r:Vector (List Int) 6):Prop where
 fields:br r 0=s.fF.map (·.b0)
 headers:br r 1=s.mo.map (·.b0)
 Pp:br r 2=s.mW.map (·.b0)
 It:br r 3=s.dH.map (·.b0)
 tables:br r 4=s.bt.map (·.b0)
 QF:br r 5=s.kc.map (·.b0)
theorem Yd {s:a3} (h:db s):bl (Az s) (aab s):=by
 unfold Az
 have ve:=h.pS; have Dl:=h.headers; have aeW:=h.Pp; have aeX:=h.J7; have aeY:=h.lj; have aeZ:=h.ab4
 refine bl.loop s.fF.length (fun k st=>st.1=(k:Int)∧st.2.1=(s.fF.take k).map (·.b0)) (by omega) ⟨rfl,rfl⟩ (fun k st aw ak=>?_) (fun st ak=>?_)
 ·obtain⟨i,a,v⟩:=st; obtain⟨ay,aO⟩:=ak; simp only at ay aO; subst ay; subst aO
  refine bl.cond (fun _=>?_) (fun h=>by simp at h; omega)
  exact .idx rfl aw (.eq (il _ _ (by simp; omega) (by omega)) (.ret ⟨eT (by omega),by rw [sn _ aw,List.map_append]; rfl⟩))
 obtain⟨i,fJ,v⟩:=st; obtain⟨ay,aO⟩:=ak; simp only at ay aO; subst ay; subst aO
 refine⟨_,by simp only [show decide ((s.fF.length:Int)<(s.fF.length:Int))=false by simp,cond_false]; rfl,?_⟩
 refine bl.loop s.mo.length (fun k st=>st.1=(k:Int)∧st.2.1=(s.mo.take k).map (·.b0)) (by omega) ⟨rfl,rfl⟩ (fun k st aw ak=>?_) (fun st ak=>?_)
 ·obtain⟨i,a,v⟩:=st; obtain⟨ay,aO⟩:=ak; simp only at ay aO; subst ay; subst aO
  refine bl.cond (fun _=>?_) (fun h=>by simp at h; omega)
  exact .idx rfl aw (.eq (il _ _ (by simp; omega) (by omega)) (.ret ⟨eT (by omega),by rw [sn _ aw,List.map_append]; rfl⟩))
 obtain⟨i,dA,v⟩:=st; obtain⟨ay,aO⟩:=ak; simp only at ay aO; subst ay; subst aO
 refine⟨_,by simp only [show decide ((s.mo.length:Int)<(s.mo.length:Int))=false by simp,cond_false]; rfl,?_⟩
 refine bl.loop s.mW.length (fun k st=>st.1=(k:Int)∧st.2.1=(s.mW.take k).map (·.b0)) (by omega) ⟨rfl,rfl⟩ (fun k st aw ak=>?_) (fun st ak=>?_)
 ·obtain⟨i,a,v⟩:=st; obtain⟨ay,aO⟩:=ak; simp only at ay aO; subst ay; subst aO
  refine bl.cond (fun _=>?_) (fun h=>by simp at h; omega)
  exact .idx rfl aw (.eq (il _ _ (by simp; omega) (by omega)) (.ret ⟨eT (by omega),by rw [sn _ aw,List.map_append]; rfl⟩))
 obtain⟨i,dK,v⟩:=st; obtain⟨ay,aO⟩:=ak; simp only at ay aO; subst ay; subst aO
 refine⟨_,by simp only [show decide ((s.mW.length:Int)<(s.mW.length:Int))=false by simp,cond_false]; rfl,?_⟩
 refine bl.loop s.dH.length (fun k st=>st.1=(k:Int)∧st.2.1=(s.dH.take k).map (·.b0)) (by omega) ⟨rfl,rfl⟩ (fun k st aw ak=>?_) (fun st ak=>?_)
 ·obtain⟨i,a,v⟩:=st; obtain⟨ay,aO⟩:=ak; simp only at ay aO; subst ay; subst aO
  refine bl.cond (fun _=>?_) (fun h=>by simp at h; omega)
  exact .idx rfl aw (.eq (il _ _ (by simp; omega) (by omega)) (.ret ⟨eT (by omega),by rw [sn _ aw,List.map_append]; rfl⟩))
 obtain⟨i,hH,v⟩:=st; obtain⟨ay,aO⟩:=ak; simp only at ay aO; subst ay; subst aO
 refine⟨_,by simp only [show decide ((s.dH.length:Int)<(s.dH.length:Int))=false by simp,cond_false]; rfl,?_⟩
 refine bl.loop s.bt.length (fun k st=>st.1=(k:Int)∧st.2.1=(s.bt.take k).map (·.b0)) (by omega) ⟨rfl,rfl⟩ (fun k st aw ak=>?_) (fun st ak=>?_)
 ·obtain⟨i,a,v⟩:=st; obtain⟨ay,aO⟩:=ak; simp only at ay aO; subst ay; subst aO
  refine bl.cond (fun _=>?_) (fun h=>by simp at h; omega)
  exact .idx rfl aw (.eq (il _ _ (by simp; omega) (by omega)) (.ret ⟨eT (by omega),by rw [sn _ aw,List.map_append]; rfl⟩))
 obtain⟨i,jV,v⟩:=st; obtain⟨ay,aO⟩:=ak; simp only at ay aO; subst ay; subst aO
 refine⟨_,by simp only [show decide ((s.bt.length:Int)<(s.bt.length:Int))=false by simp,cond_false]; rfl,?_⟩
 refine bl.loop s.kc.length (fun k st=>st.1=(k:Int)∧st.2.1=(s.kc.take k).map (·.b0)) (by omega) ⟨rfl,rfl⟩ (fun k st aw ak=>?_) (fun st ak=>?_)
 ·obtain⟨i,a,v⟩:=st; obtain⟨ay,aO⟩:=ak; simp only at ay aO; subst ay; subst aO
  refine bl.cond (fun _=>?_) (fun h=>by simp at h; omega)
  exact .idx rfl aw (.eq (il _ _ (by simp; omega) (by omega)) (.ret ⟨eT (by omega),by rw [sn _ aw,List.map_append]; rfl⟩))
 obtain⟨i,pq,v⟩:=st; obtain⟨ay,aO⟩:=ak; simp only at ay aO; subst ay; subst aO
 refine⟨_,by simp only [show decide ((s.kc.length:Int)<(s.kc.length:Int))=false by simp,cond_false]; rfl,?_⟩
 refine .eq rfl (.ret ⟨?_,?_,?_,?_,?_,?_⟩)
 ·simp only [List.take_length]
  rw [gp _ _ (by omega),if_neg (by omega),gp _ _ (by omega),if_neg (by omega),gp _ _ (by omega),if_neg (by omega),gp _ _ (by omega),if_neg (by omega),gp _ _ (by omega),if_neg (by omega),gp _ _ (by omega),if_pos rfl]
 ·simp only [List.take_length]
  rw [gp _ _ (by omega),if_neg (by omega),gp _ _ (by omega),if_neg (by omega),gp _ _ (by omega),if_neg (by omega),gp _ _ (by omega),if_neg (by omega),gp _ _ (by omega),if_pos rfl]
 ·simp only [List.take_length]
  rw [gp _ _ (by omega),if_neg (by omega),gp _ _ (by omega),if_neg (by omega),gp _ _ (by omega),if_neg (by omega),gp _ _ (by omega),if_pos rfl]
 ·simp only [List.take_length]
  rw [gp _ _ (by omega),if_neg (by omega),gp _ _ (by omega),if_neg (by omega),gp _ _ (by omega),if_pos rfl]
 ·simp only [List.take_length]
  rw [gp _ _ (by omega),if_neg (by omega),gp _ _ (by omega),if_pos rfl]
 simp only [List.take_length]
 rw [gp _ _ (by omega),if_pos rfl]
theorem Tz {xs:List bX} {f:bX→Option Bool} {g:bX→Bool} (a7:∀ x∈xs,f x=some (g x)) (ao:xs.length<2 ^ 62):
 bl (zo xs f) (fun r=>(r= -1∧ ∀ x∈xs,g x=false)∨ ∃ i:Nat,i<xs.length∧r=i∧g (az xs i)=true∧ ∀ j,j<i→g (az xs j)=false):=by
 unfold zo
 refine bl.loop xs.length (fun k s=>s=(k:Int)∧ ∀ j,j<k→g (az xs j)=false) (by omega) ⟨rfl,fun j aE=>by omega⟩ (fun k s aw ak=>?_) (fun s ak=>?_)
 ·obtain⟨ay,aO⟩:=ak; subst ay
  refine bl.cond (fun _=>?_) (fun h=>by simp at h; omega)
  refine .idx rfl aw (.eq (a7 _ (by rw [e0 xs aw]; exact List.getElem_mem aw)) (.cond (fun h=>.ret ?_) (fun h=>.ret ⟨eT (by omega),fun j aE=>?_⟩)))
  ·exact .ret (.inr ⟨k,aw,rfl,h,aO⟩)
  by_cases qX:j=k
  ·subst qX; exact h
  exact aO j (by omega)
 obtain⟨ay,aO⟩:=ak; subst ay
 refine⟨_,by simp; rfl,?_⟩
 refine .ret (.inl ⟨rfl,fun x aq=>?_⟩)
 obtain⟨j,aE,rfl⟩:=List.mem_iff_getElem.1 aq
 rw [← e0 xs aE]; exact aO j aE
theorem TA {xs:List fO} {f:fO→Option Bool} {g:fO→Bool} (a7:∀ x∈xs,f x=some (g x)) (ao:xs.length<2 ^ 62):
 bl (zp xs f) (fun r=>(r= -1∧ ∀ x∈xs,g x=false)∨ ∃ i:Nat,i<xs.length∧r=i∧g (az xs i)=true∧ ∀ j,j<i→g (az xs j)=false):=by
 unfold zp
 refine bl.loop xs.length (fun k s=>s=(k:Int)∧ ∀ j,j<k→g (az xs j)=false) (by omega) ⟨rfl,fun j aE=>by omega⟩ (fun k s aw ak=>?_) (fun s ak=>?_)
 ·obtain⟨ay,aO⟩:=ak; subst ay
  refine bl.cond (fun _=>?_) (fun h=>by simp at h; omega)
  refine .idx rfl aw (.eq (a7 _ (by rw [e0 xs aw]; exact List.getElem_mem aw)) (.cond (fun h=>.ret ?_) (fun h=>.ret ⟨eT (by omega),fun j aE=>?_⟩)))
  ·exact .ret (.inr ⟨k,aw,rfl,h,aO⟩)
  by_cases qX:j=k
  ·subst qX; exact h
  exact aO j (by omega)
 obtain⟨ay,aO⟩:=ak; subst ay
 refine⟨_,by simp; rfl,?_⟩
 refine .ret (.inl ⟨rfl,fun x aq=>?_⟩)
 obtain⟨j,aE,rfl⟩:=List.mem_iff_getElem.1 aq
 rw [← e0 xs aE]; exact aO j aE
theorem AD {s:a3} (h:db s) {k:Nat} (aw:k<4):bl (tQ s ((k:Int)+1)) (fun r=>r=(k:Int)):=by
 unfold tQ
 refine(Tz (g:=fun t=>t.b0==(k:Int)+1) (fun x aq=>rfl) (by rw [h.lj]; omega)).bind fun r aQ=>.ret ?_
 have c6:k<s.bt.length:=by rw [h.lj]; exact aw
 rcases aQ with⟨_,aQ⟩ | ⟨i,aa,ad,aF,aX⟩
 ·have:=aQ (az s.bt k) (by rw [e0 _ c6]; exact List.getElem_mem c6)
  simp only [(h.iJ aw).1,beq_self_eq_true] at this; cases this
 have a0:=(h.iJ (show i<4 by have:=h.lj; omega)).1
 simp only [a0,beq_iff_eq] at aF; omega
theorem Eg {s:a3} (h:db s) {k:Nat} (aw:k<9):bl (vp s ((k:Int)+1)) (fun r=>r=(k:Int)):=by
 unfold vp
 refine(TA (g:=fun t=>t.b0==(k:Int)+1) (fun x aq=>rfl) (by rw [h.pS]; omega)).bind fun r aQ=>.ret ?_
 have c6:k<s.fF.length:=by rw [h.pS]; exact aw
 rcases aQ with⟨_,aQ⟩ | ⟨i,aa,ad,aF,aX⟩
 ·have:=aQ (az s.fF k) (by rw [e0 _ c6]; exact List.getElem_mem c6)
  simp only [(h.qZ aw).1,beq_self_eq_true] at this; cases this
 have a0:=(h.qZ (show i<9 by have:=h.pS; omega)).1
 simp only [a0,beq_iff_eq] at aF; omega
theorem WJ (l:List Int) {k:Nat} (aw:k<l.length) (ao:l.length<2 ^ 30) (h:∀ j,j<l.length→az l j=(j:Int)+1):bl (Ao l ((k:Int)+1)) (fun r=>r=(k:Int)):=by
 unfold Ao
 refine bl.loop k (fun j s=>s=(j:Int)) (by omega) rfl (fun j i aE ak=>?_) (fun i ak=>?_)
 ·subst ak
  refine bl.cond (fun _=>?_) (fun h=>by simp at h; omega)
  refine .idx rfl (by omega) (.cond (fun al=>?_) (fun al=>.ret (eT (by omega))))
  rw [h j (by omega),beq_iff_eq] at al; omega
 subst ak
 have aa:decide ((k:Int)<(l.length:Int))=true:=by simp; omega
 have ad:(az l k==(k:Int)+1)=true:=by rw [h k aw]; simp
 rw [aa]
 simp only [cond_true]
 rw [oS (by omega)]
 simp only [Option.bind_some,ad,cond_true]
 exact⟨_,rfl,.ret rfl⟩
theorem UX {s:a3} (h:db s) {k:Nat} (aw:k<9):bl (Aa s ((k:Int)+1)) (fun r=>r=(k:Int)):=by
 unfold Aa
 refine(Yd h).bind fun y a6=>?_
 have ao:=h.pS
 rw [a6.fields]
 refine(WJ _ (by simp; omega) (by simp; omega) fun j aE=>?_).bind fun r aQ=>.ret aQ
 rw [yd _ (by simpa using aE)]; exact(h.qZ (by simp at aE; omega)).1
theorem BP {key:cR} {j:Nat} (h:key.g3=(j:Int)+1):gh key=az rU j:=by unfold gh; rw [h]; congr 1; omega
theorem Vk {s:a3} (h:db s) {t:bX} {i:Nat} (ak:i<t.bN.length) (aw:kz (az t.bN i)):bl (Ab s t (i:Int)) (fun r=>r=gh (az t.bN i)):=by
 obtain⟨j,aE,a7,_⟩:=aw
 unfold Ab D7
 refine .idx rfl ak ?_
 rw [BP a7,a7]
 refine .bind (P:=fun r=>r=az rU j) ((UX h aE).bind fun y a6=>.idx a6 (by rw [h.pS]; exact aE) (.ret (h.qZ aE).2)) fun y a6=>.ret a6
def lead (n k:Int) (j:Nat):Bool:=decide ((j:Int)<n)&&decide (n - max 0 (min k n)≤ (j:Int))
theorem Eo (n k:Int) (bT:0≤n) (aa:n≤128):bl (vq n k) (fun r=> ∀ j,j<128→bA r j=lead n k j):=by
 unfold vq xU
 have e:min (max 0 n) 128=n:=by omega
 rw [e]
 have aO:bs (n - min (max 0 k) n)=n - min (max 0 k) n:=hC (by omega) (by omega)
 refine .eq rfl ((Bc n).bind fun a bp=>?_)
 rw [aO]
 refine(Bc _).bind fun b hb=>(EU a b).bind fun r aQ=>.ret fun j aE=>?_
 rw [aQ j aE,bp j aE,hb j aE]
 unfold lead
 by_cases p:(j:Int)<n
 ·rw [decide_eq_true p]
  by_cases q:(j:Int)<n - min (max 0 k) n
  ·rw [decide_eq_true q,decide_eq_false (by omega)]; rfl
  rw [decide_eq_false q,decide_eq_true (by omega)]; rfl
 rw [decide_eq_false p,decide_eq_false (by omega)]; rfl
def nN (key:cR) (m:cA) (j:Nat):Bool:=m.g1&&(if key.cS=1 then decide ((j:Int)<gh key) else if key.cS=2 then lead (gh key) m.fp j else bA m.b3 j)
theorem kz.gh {key:cR} (h:kz key):4≤Go.Proofs.YthkfkliknjiecaaGreat.gh key∧Go.Proofs.YthkfkliknjiecaaGreat.gh key≤32:=by
 obtain⟨j,aE,a7,_,_,aa,ad,_⟩:=h
 rw [BP a7]; exact⟨aa,ad⟩
theorem WK {key:cR} (aw:kz key) (m:cA):bl (Av m key.cS (gh key)) (fun r=> ∀ j,j<128→bA r j=nN key m j):=by
 have hb:=aw.gh
 unfold Av nN
 refine .cond (fun h=>.ret fun j aE=>?_) fun h=>.cond (fun aa=>(Bc _).bind fun y a6=>.ret fun j aE=>?_) fun aa=>.cond (fun ad=>(Eo _ _ (by omega) (by omega)).bind fun y a6=>.ret fun j aE=>?_) fun ad=>.ret fun j aE=>?_
 ·rw [vU]; simp only [Bool.not_eq_true'] at h; rw [h]; rfl
 all_goals (simp only [Bool.not_eq_false'] at h; rw [h,Bool.true_and])
 ·rw [if_pos (by simpa using aa)]; exact a6 j aE
 ·rw [if_neg (by simpa using aa),if_pos (by simpa using ad)]; exact a6 j aE
 rw [if_neg (by simpa using aa),if_neg (by simpa using ad)]
theorem Xx {s:a3} (h:db s) {k:Nat} (aw:k<4) {e:bC} (he:ia s k e):bl (uc s e) (fun r=>
 (r.2=false∧r.1=default∧ ∃ i,i<(az s.bt k).bN.length∧ (az (az s.bt k).bN i).cS=4)∨
 (r.2=true∧ (∀ i,i<(az s.bt k).bN.length→ (az (az s.bt k).bN i).cS≠4)∧ ∀ c j,c<4→j<128→
   bA (br r.1.b3 c) j=(decide (c<(az s.bt k).bN.length)&&nN (az (az s.bt k).bN c) (az e.b4 c) j)∧
   bA (br r.1.bS c) j=(decide (c<(az s.bt k).bN.length)&&(bA (az e.b4 c).bS j&&nN (az (az s.bt k).bN c) (az e.b4 c) j)))):=by
 unfold uc
 obtain⟨t1,⟨t2,t3⟩,t4,_⟩:=h.iJ aw
 rw [he.iJ]
 refine(AD h aw).bind fun aD ay=>?_
 subst ay
 refine .cond (fun h=>by simp at h; omega) fun _=>.idx rfl (by rw [h.lj]; exact aw) ?_
 have hm:=he.len
 generalize vb:(az s.bt k).bN=K at *
 refine bl.loop K.length (fun i st=>st.1=(i:Int)∧ (∀ c,c<i→ (az K c).cS≠4)∧ ∀ c j,c<4→j<128→
  bA (br st.2.b3 c) j=(decide (c<i)&&nN (az K c) (az e.b4 c) j)∧
  bA (br st.2.bS c) j=(decide (c<i)&&(bA (az e.b4 c).bS j&&nN (az K c) (az e.b4 c) j))) (by omega)
  ⟨rfl,fun c al=>by omega,fun c j al aE=>?_⟩ (fun i st ak hs=>?_) (fun st hs=>?_)
 ·rw [show(default:bc).b3=default from rfl,show(default:bc).bS=default from rfl,x3,vU]; simp
 ·obtain⟨xn,x⟩:=st; obtain⟨aO,cK,di⟩:=hs
  simp only at aO cK di; subst aO
  refine bl.cond (fun _=>?_) (fun h=>by simp at h; omega)
  have ic:kz (az K i):=t4 _ (by rw [e0 _ ak]; exact List.getElem_mem ak)
  have JE:=ic
  obtain⟨j,aE,a7,_⟩:=JE
  refine .idx rfl ak ?_
  rw [a7]
  refine(Eg h aE).bind fun aK aO=>?_
  subst aO
  refine .eq rfl (.eq rfl (.cond (fun df=>?_) fun df=>?_))
  ·refine .ret (.ret (.inl ⟨rfl,rfl,i,ak,?_⟩))
   simp only [Bool.or_eq_true,beq_iff_eq,decide_eq_true_eq] at df
   omega
  simp only [Bool.or_eq_false_iff,beq_eq_false_iff_ne,decide_eq_false_iff_not] at df
  refine .idx rfl (by omega) (.idx rfl (by rw [h.pS]; exact aE) ?_)
  rw [(h.qZ aE).2,← BP a7]
  have u6:i<4:=by omega
  refine(WK ic _).bind fun bb aF=>.idx rfl u6 (.idx rfl (by omega) (.idx rfl u6 ((rA _ _).bind fun bJ aX=>.idx rfl u6 (.eq rfl (.ret ⟨eT (by omega),fun c al=>?_,fun c j al aE=>?_⟩)))))
  ·by_cases ph:c=i
   ·subst ph; exact df.1.1.1
   exact cK c (by omega)
  simp only [gp _ _ u6]
  by_cases ph:c=i
  ·subst ph
   rw [if_pos rfl,if_pos rfl]
   have tv:=aX j aE
   simp only [gp _ _ u6,if_true] at tv
   rw [aF j aE,tv,aF j aE,decide_eq_true (show c<c+1 by omega)]
   exact⟨rfl,rfl⟩
  rw [if_neg ph,if_neg ph,(di c j al aE).1,(di c j al aE).2]
  have:decide (c<i+1)=decide (c<i):=by rw [decide_eq_decide]; omega
  rw [this]; exact⟨rfl,rfl⟩
 obtain⟨xn,x⟩:=st; obtain⟨aO,cK,di⟩:=hs
 simp only at aO cK di; subst aO
 have al:decide ((K.length:Int)<(K.length:Int))=false:=by simp
 rw [al]
 refine⟨_,rfl,?_⟩
 exact .ret (.inr ⟨rfl,cK,di⟩)
theorem EW {v w:an} :decide (v=w)=true↔ ∀ j,j<128→bA v j=bA w j:=by
 rw [decide_eq_true_eq]; exact⟨fun h j _=>by rw [h],sN⟩
theorem MR (x y:an):bl (tS x y) (fun _=>True):=by
 unfold tS
 exact .cond (fun _=>.ret trivial) fun _=>.eq rfl (.cond (fun _=>.ret trivial) fun _=>.ret trivial)
theorem Vl {key:cR} (aw:kz key) {m:cA} (hm:oo key.cS (gh key) m) (x:an):
 bl (vu m key.cS (gh key) x) (fun r=>key.cS≠4→ (∀ j,j<128→bA x j=true→ (j:Int)<gh key)→ (r=true↔ ∀ j,j<128→ (bA x j&&nN key m j)=(bA m.bS j&&nN key m j))):=by
 have hb:=aw.gh
 obtain⟨_,_,_,aZ,eY,_⟩:=aw
 unfold vu nN
 refine .cond (fun hp=>.ret fun _ _=>?_) fun hp=>?_
 ·simp only [Bool.not_eq_true'] at hp
  rw [hp]
  simp only [Bool.false_and,Bool.and_false,Bool.and_eq_true,decide_eq_true_eq]
  exact⟨fun _ j _=>trivial,fun _=>⟨by omega,by omega⟩⟩
 simp only [Bool.not_eq_false'] at hp
 simp only [hp,Bool.true_and]
 refine .cond (fun aa=>.ret fun _ aq=>?_) fun aa=>.cond (fun ad=>?_) fun ad=>.cond (fun aF=>?_) fun aF=>?_
 ·have aa:key.cS=1:=by simpa using aa
  have ao:=hm.low aa
  rw [EW]
  simp only [if_pos aa]
  refine⟨fun h j aE=>by rw [h j aE],fun h j aE=>?_⟩
  have aX:=h j aE
  cases K9:bA x j
  ·cases GF:bA m.bS j
   ·rfl
   rw [K9,GF,decide_eq_true (ao j aE GF)] at aX; cases aX
  rw [K9,decide_eq_true (aq j aE K9)] at aX
  simpa using aX
 ·have aa: ¬ key.cS=1:=by simpa using aa
  have ad:key.cS=2:=by simpa using ad
  refine(Eo _ _ (by omega) (by omega)).bind fun aD ay=>(rA _ _).bind fun aK aO=>(rA _ _).bind fun bb cK=>.ret fun _ _=>?_
  rw [EW]
  simp only [if_neg aa,if_pos ad]
  refine⟨fun h j aE=>?_,fun h j aE=>?_⟩
  ·rw [← ay j aE,← aO j aE,← cK j aE]; exact h j aE
  rw [aO j aE,cK j aE,ay j aE]; exact h j aE
 ·have aa: ¬ key.cS=1:=by simpa using aa
  have ad: ¬ key.cS=2:=by simpa using ad
  have aF:key.cS=3:=by simpa using aF
  have b1:=hm.adj aF
  refine(rA _ _).bind fun aK aO=>.ret fun _ _=>?_
  rw [EW]
  simp only [if_neg aa,if_neg ad]
  have a2:∀ j,j<128→ (bA m.bS j&&bA m.b3 j)=bA m.bS j:=fun j aE=>by
   cases GF:bA m.bS j
   ·rfl
   rw [b1 j aE GF]; rfl
  refine⟨fun h j aE=>?_,fun h j aE=>?_⟩
  ·rw [← aO j aE,a2 j aE]; exact h j aE
  rw [aO j aE,← a2 j aE]; exact h j aE
 refine .cond (fun aX=>(MR _ _).bind fun bq _=>.c0 (P:=fun _=>True) (fun _=>MR _ _) fun b6 _=>.ret fun h=>absurd (by simpa using aX) h) fun aX=>?_
 simp only [beq_eq_false_iff_ne] at aa ad aF aX
 omega
theorem UY {s:a3} (h:db s) {k:Nat} (aw:k<4) {e:bC} (he:ia s k e) (p:Vector an 4)
 (hp:∀ c j,c<(az s.bt k).bN.length→j<128→bA (br p c) j=true→ (j:Int)<gh (az (az s.bt k).bN c)):
 bl (tT s e p) (fun r=>(∀ i,i<(az s.bt k).bN.length→ (az (az s.bt k).bN i).cS≠4)→
  (r=true↔ ∀ c j,c<(az s.bt k).bN.length→j<128→ (bA (br p c) j&&nN (az (az s.bt k).bN c) (az e.b4 c) j)=(bA (az e.b4 c).bS j&&nN (az (az s.bt k).bN c) (az e.b4 c) j))):=by
 obtain⟨t1,⟨t2,t3⟩,t4,_⟩:=h.iJ aw
 have ab5:tV s e=some (az s.bt k,true):=by
  unfold tV
  rw [he.iJ]
  obtain⟨y,aa,ad⟩:=AD h aw
  subst ad
  rw [aa,Option.bind_some,show decide ((k:Int)<0)=false from decide_eq_false (by omega),cond_false,oS (by rw [h.lj]; exact aw)]
  first | done | rfl
 unfold tT
 refine .eq ab5 (.cond (fun h=>by cases h) fun _=>?_)
 have hm:=he.len
 simp only
 refine bl.loop (az s.bt k).bN.length (fun i st=>st=(i:Int)∧ ((∀ i,i<(az s.bt k).bN.length→ (az (az s.bt k).bN i).cS≠4)→ ∀ c j,c<i→j<128→
  (bA (br p c) j&&nN (az (az s.bt k).bN c) (az e.b4 c) j)=(bA (az e.b4 c).bS j&&nN (az (az s.bt k).bN c) (az e.b4 c) j))) (by omega)
  ⟨rfl,fun _ c j al=>by omega⟩ (fun i st ak hs=>?_) (fun st hs=>?_)
 ·obtain⟨aO,di⟩:=hs
  subst aO
  refine bl.cond (fun _=>?_) (fun h=>by simp at h; omega)
  have ic:kz (az (az s.bt k).bN i):=t4 _ (by rw [e0 _ ak]; exact List.getElem_mem ak)
  have JE:=ic
  obtain⟨q,hq,a7,_⟩:=JE
  have u6:i<4:=by omega
  have hd:(decide ((i:Int)≥ (e.b4.length:Int))||decide ((i:Int)≥4))=false:=by simp; omega
  refine .idx rfl ak ?_
  have aac:vt s (az (az s.bt k).bN i)=some (gh (az (az s.bt k).bN i)):=by
   unfold vt
   rw [a7]
   obtain⟨y,aa,ad⟩:=Eg h hq
   subst ad
   rw [aa,Option.bind_some,show decide ((q:Int)<0)=false from decide_eq_false (by omega),cond_false,oS (by rw [h.pS]; exact hq),Option.bind_some,(h.qZ hq).2,← BP a7]
  simp only [hd,c0,if_true]
  refine .idx rfl (by omega) (.eq aac (.idx rfl u6 ((Vl ic (he.q0 i ak) _).bind fun bb aF=>.eq rfl (.cond (fun df=>?_) fun df=>?_))))
  ·refine .ret (.ret fun aX=>?_)
   simp only [Bool.false_or,Bool.not_eq_true'] at df
   have a0:=aF (aX i ak) (fun j aE=>hp i j ak aE)
   rw [df] at a0
   refine⟨fun h=>(by cases h),fun h=>?_⟩
   exact a0.2 fun j aE=>h i j ak aE
  refine .ret ⟨eT (by omega),fun aX c j al aE=>?_⟩
  simp only [Bool.false_or,Bool.not_eq_false'] at df
  by_cases ph:c=i
  ·subst ph
   exact(aF (aX c ak) (fun j aE=>hp c j ak aE)).1 df j aE
  exact di aX c j (by omega) aE
 obtain⟨aO,di⟩:=hs
 subst aO
 have al:decide (((az s.bt k).bN.length:Int)<((az s.bt k).bN.length:Int))=false:=by simp
 rw [al]
 refine⟨_,rfl,?_⟩
 simp only [Sum.elim_inl]
 exact .ret fun aX=>⟨fun _=>di aX,fun _=>rfl⟩
theorem V1 (c:bu) (al:hv c):bl (zS c) (fun r=>hv r.2):=by
 unfold zS
 refine bl.loop 4 (fun k st=>st.1=(k:Int)∧hv st.2.2) (by omega) ⟨rfl,al⟩ (fun k st aw ak=>?_) (fun st ak=>?_)
 ·obtain⟨i,p,xm⟩:=st; obtain⟨ay,aO⟩:=ak
  simp only at ay aO; subst ay
  refine bl.cond (fun _=>?_) (fun h=>by simp at h; omega)
  refine .bind (gP _ 256 aO (by omega)) fun aD aa=>.eq rfl (.idx rfl aw (.bind (gP _ 4 aa.1 (by omega)) fun aK ad=>?_))
  refine .bind (P:=fun m=>hv m.1) (.cond (fun _=>?_) fun _=>.ret ad.1) fun bx cy=>.ret ⟨eT (by omega),cy⟩
  exact .idx rfl aw (.bind (gP _ 256 ad.1 (by omega)) fun bb aF=>.eq rfl (.idx rfl aw (.eq rfl (.ret aF.1))))
 obtain⟨i,p,xm⟩:=st; obtain⟨ay,aO⟩:=ak
 simp only at ay aO; subst ay
 refine⟨_,rfl,?_⟩
 exact .ret aO
theorem Vm (e:bC) (p:Vector an 4) (ao:e.b4.length<2 ^ 30):bl (Ai e p) (fun _=>True):=by
 unfold Ai
 refine bl.loop e.b4.length (fun k st=>st.1=(k:Int)) (by omega) rfl (fun k st aw ak=>?_) (fun st ak=>?_)
 ·obtain⟨i,p⟩:=st
  simp only at ak; subst ak
  refine bl.cond (fun _=>?_) (fun h=>by simp at h; omega)
  refine .idx rfl aw (.cond (fun _=>.ret (eT (by omega))) fun df=>?_)
  simp only [Bool.or_eq_false_iff,decide_eq_false_iff_not] at df
  have hy:k<4:=by have:=df.1; omega
  refine .bind (P:=fun _=>True) (.cond (fun _=>.idx rfl hy (.eq rfl (.idx rfl hy (.eq rfl (.idx rfl hy (.idx rfl hy (.eq rfl (.ret trivial)))))))) fun _=>.eq rfl ?_) fun _ _=>.ret (eT (by omega))
  exact .bind (P:=fun _=>True) (.cond (fun _=>.idx rfl hy (.eq rfl (.eq rfl (.idx rfl hy (.eq rfl (.ret trivial)))))) fun _=>.idx rfl hy (.ret trivial)) fun _ _=>.ret trivial
 obtain⟨i,p⟩:=st
 simp only at ak; subst ak
 refine⟨_,by simp; rfl,?_⟩
 exact .ret trivial
def mh (a b:an):Bool:=decide (a.dv<b.dv)||(a.dv==b.dv&&decide (a.b2<b.b2))
theorem EX {a b:an} :mh a b=true↔a.dv<b.dv∨ (a.dv=b.dv∧a.b2<b.b2):=by simp [mh]
theorem vH (a:an):mh a a=false:=by simp [mh]
theorem ya {a b:an} (h:mh a b=true):mh b a=false:=by
 rw [Bool.eq_false_iff]
 intro ad
 rw [EX] at h ad
 simp only [BitVec.lt_def,BitVec.toNat_eq] at h ad
 omega
theorem Vn {x y i:Nat} (aa:x.testBit i=false) (ad:y.testBit i=true) (aF:∀ j,i<j→x.testBit j=y.testBit j):x<y:=by
 have aX:x / 2 ^ (i+1)=y / 2 ^ (i+1):=Nat.eq_of_testBit_eq fun j=>by
  rw [Nat.testBit_div_two_pow,Nat.testBit_div_two_pow]; exact aF _ (by omega)
 rw [Nat.testBit_eq_decide_div_mod_eq] at aa ad
 simp only [decide_eq_false_iff_not,decide_eq_true_eq] at aa ad
 rw [Nat.pow_succ,← Nat.div_div_eq_div_mul,← Nat.div_div_eq_div_mul] at aX
 have a0:x / 2 ^ i<y / 2 ^ i:=by omega
 exact Nat.lt_of_div_lt_div a0
theorem OF {x y:BitVec 64} {i:Nat} (aa:x.getLsbD i=false) (ad:y.getLsbD i=true) (aF:∀ j,i<j→j<64→x.getLsbD j=y.getLsbD j):x<y:=by
 rw [BitVec.lt_def]
 refine Vn aa ad fun j aE=>?_
 by_cases k0:j<64
 ·exact aF j aE k0
 show x.getLsbD j=y.getLsbD j
 rw [BitVec.getLsbD_of_ge _ _ (by omega),BitVec.getLsbD_of_ge _ _ (by omega)]
theorem NV {a b:an} {i:Nat} (ak:i<128) (aa:bA a i=false) (ad:bA b i=true) (aF:∀ j,i<j→j<128→bA a j=bA b j):mh a b=true:=by
 rw [EX]
 by_cases h:i<64
 ·right
  unfold bA at aa ad
  rw [if_pos h] at aa ad
  constructor
  ·apply BitVec.eq_of_getLsbD_eq
   intro j aE
   have:=aF (j+64) (by omega) (by omega)
   unfold bA at this
   rw [if_neg (by omega),if_neg (by omega)] at this
   simpa using this
  refine OF aa ad fun j aE k0=>?_
  have:=aF j aE (by omega)
  unfold bA at this
  rwa [if_pos k0,if_pos k0] at this
 left
 unfold bA at aa ad
 rw [if_neg h] at aa ad
 refine OF aa ad fun j aE k0=>?_
 have:=aF (j+64) (by omega) (by omega)
 unfold bA at this
 rw [if_neg (by omega),if_neg (by omega)] at this
 simpa using this
theorem M9 (a b:an):bl (tS a b) (fun r=>(r<0↔mh a b=true)∧ (r=0↔a=b)∧ (-1≤r∧r≤1)):=by
 unfold tS
 refine .cond (fun h=>.ret ?_) fun h=>.eq rfl (.cond (fun ad=>.ret ?_) fun ad=>.ret ?_)
 ·simp only [decide_eq_true_eq] at h
  subst h
  simp [vH]
 ·simp only [decide_eq_false_iff_not] at h
  exact⟨⟨fun _=>ad,fun _=>by omega⟩,⟨fun aF=>by omega,fun aF=>absurd aF h⟩,by omega,by omega⟩
 simp only [decide_eq_false_iff_not] at h
 have kn:mh a b=false:=ad
 exact⟨⟨fun aF=>by omega,fun aF=>by rw [kn] at aF; cases aF⟩,⟨fun aF=>by omega,fun aF=>absurd aF h⟩,by omega,by omega⟩
theorem UZ (a b:an):bl (sm a b) (fun r=>(r>0↔mh b a=true)∧ (r<0↔mh a b=true)):=by
 unfold sm
 refine(OD a).bind fun x aq=>(OD b).bind fun y a6=>?_
 refine bl.loop 128 (fun k s=>s=127 - (k:Int)∧ ∀ j,128≤j+k→j<128→bA a j=bA b j) (by omega) ⟨rfl,fun j aa ad=>by omega⟩ (fun k s aw ak=>?_) (fun s ak=>?_)
 ·obtain⟨rfl,aO⟩:=ak
  refine bl.cond (fun _=>?_) (fun h=>by simp at h; omega)
  have lL:(127 - (k:Int))=((127 - k:Nat):Int):=by omega
  have uS:127 - k<128:=by omega
  refine .idx lL uS (.idx lL uS ?_)
  rw [aq _ uS,a6 _ uS]
  refine .cond (fun dm=>.idx lL uS ?_) fun heq=>.ret ⟨?_,fun j aa ad=>?_⟩
  ·have heq:∀ j,127 - k<j→j<128→bA a j=bA b j:=fun j aa ad=>aO j (by omega) ad
   rw [a6 _ uS]
   refine .cond (fun hb=>.ret (.ret ?_)) fun hb=>.ret (.ret ?_)
   ·have bp:bA a (127 - k)=false:=by rw [hb] at dm; simpa using dm
    have:=NV uS bp hb heq
    exact⟨⟨fun h=>by simp at h,fun h=>by rw [ya this] at h; cases h⟩,fun _=>this,fun _=>by simp⟩
   have bp:bA a (127 - k)=true:=by rw [hb] at dm; simpa using dm
   have:=NV uS hb bp fun j aa ad=>(heq j aa ad).symm
   exact⟨⟨fun _=>this,fun _=>by simp⟩,fun h=>by simp at h,fun h=>by rw [ya this] at h; cases h⟩
  ·rw [hC (by omega) (by omega)]; omega
  by_cases aE:j=127 - k
  ·subst aE; simpa using heq
  exact aO j (by omega) ad
 obtain⟨rfl,aO⟩:=ak
 refine⟨_,rfl,?_⟩
 have:a=b:=sN fun j aE=>aO j (by omega) aE
 subst this
 refine .ret ⟨?_,?_⟩ <;> simp [vH]
end Go.Proofs.YthkfkliknjiecaaGreat
namespace Gv
structure r7 {α:Type} (b:α→α→Bool):Prop where
 asymm:∀ x y,b x y=true→b y x=false
 trans:∀ x y z,b x y=true→b y z=true→b x z=true
def ins {α:Type} (b:α→α→Bool):List α→α→List α
 | [],x=>[x]
 | a::l,x=>if b a x=true then a::ins b l x else x::a::l
def e9 {α:Type} (b:α→α→Bool) (l:List α):List α:=l.foldl (ins b) []
def ko {α:Type} (b:α→α→Bool):List α→α→Nat
 | [],_=>0
 | a::l,x=>if b a x=true then ko b l x+1 else 0
def tw {α:Type} (b:α→α→Bool) (x y:α):Prop:=b x y=true∨b y x=true
variable {α:Type} {b:α→α→Bool}
theorem NW (a:α) (l:List α) (x:α):ins b (a::l) x=if b a x=true then a::ins b l x else x::a::l:=rfl
theorem IX:∀ {l:List α} {x:α},ko b l x≤l.length
 | [],_=>Nat.le_refl _
 | a::l,x=>by
   have:=IX (l:=l) (x:=x)
   unfold ko; split <;> simp <;> omega
theorem Pt:∀ (l:List α) (x:α),ins b l x=l.take (ko b l x)++x::l.drop (ko b l x)
 | [],x=>rfl
 | a::l,x=>by
   unfold ins ko
   split
   ·rw [Pt l x]; rfl
   rfl
theorem H4:∀ (l:List α) (x:α),(ins b l x).Perm (x::l)
 | [],x=>List.Perm.refl _
 | a::l,x=>by
   unfold ins
   split
   ·exact((H4 l x).cons a).trans (List.Perm.swap x a l)
   exact List.Perm.refl _
theorem Xy {l:List α} {x y:α} :y∈ins b l x↔y=x∨y∈l:=by
 rw [(H4 l x).mem_iff]; simp
theorem EY (l:List α) (x:α):e9 b (l++[x])=ins b (e9 b l) x:=by
 simp [e9,List.foldl_append]
theorem Iv (l:List α):(e9 b l).Perm l:=by
 have key:∀ (l m:List α),(l.foldl (ins b) m).Perm (m++l):=by
  intro l
  induction l with
  | nil=>intro m; simp
  | cons a l bR=>
    intro m
    refine(bR (ins b m a)).trans ?_
    refine((H4 m a).append_right l).trans ?_
    exact(List.perm_middle (a:=a) (l₁:=m) (l₂:=l)).symm
 exact key l []
theorem pF {l:List α} {y:α} :y∈e9 b l↔y∈l:=(Iv l).mem_iff
theorem Ye {l:List α} :(e9 b l).length=l.length:=(Iv l).length_eq
theorem Na (hb:r7 b):∀ {l:List α} {x:α},l.Pairwise (fun x y=>b x y=true)→ (∀ a∈l,tw b a x)→ (ins b l x).Pairwise (fun x y=>b x y=true)
 | [],x,_,_=>by simp [ins]
 | a::l,x,hs,b1=>by
   obtain⟨aa,ad⟩:=List.pairwise_cons.1 hs
   unfold ins
   split
   ·rename_i r8
    refine List.pairwise_cons.2 ⟨fun c al=>?_,Na hb ad fun a bp=>b1 a (by simp [bp])⟩
    rcases Xy.1 al with rfl | al
    ·exact r8
    exact aa c al
   rename_i r8
   have C4:b x a=true:=(b1 a (by simp)).resolve_left r8
   refine List.pairwise_cons.2 ⟨fun c al=>?_,hs⟩
   rcases List.mem_cons.1 al with rfl | al
   ·exact C4
   exact hb.trans _ _ _ C4 (aa c al)
theorem V2 {l:List α} {x:α} (h:∀ c∈l,b c x=false):ins b l x=x::l:=by
 cases l with
 | nil=>rfl
 | cons a l=>unfold ins; rw [if_neg (by simp [h a (by simp)])]
theorem Nb (hb:r7 b) {q:α→Bool} :∀ {l:List α} {x:α},l.Pairwise (fun x y=>b x y=true)→ (∀ a∈l,tw b a x)→
 (ins b l x).filter q=if q x=true then ins b (l.filter q) x else l.filter q
 | [],x,_,_=>by
   show [x].filter q=if q x=true then [x] else []
   by_cases hp:q x=true
   ·simp [hp]
   simp only [Bool.not_eq_true] at hp; simp [hp]
 | a::l,x,hs,b1=>by
   obtain⟨aa,ad⟩:=List.pairwise_cons.1 hs
   have bR:=Nb hb (q:=q) (x:=x) ad fun a bp=>b1 a (by simp [bp])
   rw [NW]
   by_cases r8:b a x=true
   ·rw [if_pos r8]
    by_cases mP:q a=true
    ·rw [List.filter_cons_of_pos mP,List.filter_cons_of_pos mP,bR]
     by_cases hq:q x=true
     ·rw [if_pos hq,if_pos hq,NW,if_pos r8]
     rw [if_neg hq,if_neg hq]
    rw [List.filter_cons_of_neg mP,List.filter_cons_of_neg mP,bR]
   rw [if_neg r8]
   have C4:b x a=true:=(b1 a (by simp)).resolve_left r8
   by_cases hq:q x=true
   ·rw [List.filter_cons_of_pos hq,if_pos hq,V2]
    intro c al
    have hT:=(List.mem_filter.1 al).1
    refine hb.asymm _ _ ?_
    rcases List.mem_cons.1 hT with rfl | hT
    ·exact C4
    exact hb.trans _ _ _ C4 (aa c hT)
   rw [List.filter_cons_of_neg hq,if_neg hq]
def uT (b:α→α→Bool) (l:List α):Prop:=l.Pairwise (tw b)
theorem tw.symm {x y:α} (h:tw b x y):tw b y x:=h.elim .inr .inl
theorem uT.snoc {l:List α} {x:α} (h:uT b (l++[x])):uT b l∧ ∀ a∈l,tw b a x:=by
 unfold uT at *
 rw [List.pairwise_append] at h
 exact⟨h.1,fun a bp=>h.2.2 a bp x (by simp)⟩
theorem NX {P:List α→Prop} (bT:P []) (aa:∀ l x,P l→P (l++[x])) (l:List α):P l:=by
 have:∀ r:List α,P r.reverse:=by
  intro r
  induction r with
  | nil=>exact bT
  | cons a r bR=>rw [List.reverse_cons]; exact aa _ _ bR
 have:=this l.reverse
 rwa [List.reverse_reverse] at this
theorem Ez (hb:r7 b) {l:List α} (h:uT b l):(e9 b l).Pairwise (fun x y=>b x y=true):=by
 induction l using NX with
 | bT=>exact List.Pairwise.nil
 | aa l x bR=>
   obtain⟨aa,ad⟩:=h.snoc
   rw [EY]
   exact Na hb (bR aa) fun a bp=>ad a (pF.1 bp)
theorem V3 (hb:r7 b) {q:α→Bool} {l:List α} (h:uT b l):(e9 b l).filter q=e9 b (l.filter q):=by
 induction l using NX with
 | bT=>rfl
 | aa l x bR=>
   obtain⟨aa,ad⟩:=h.snoc
   rw [EY,Nb hb (Ez hb aa) fun a bp=>ad a (pF.1 bp),bR aa,List.filter_append]
   by_cases hq:q x=true
   ·rw [if_pos hq,List.filter_cons_of_pos hq,List.filter_nil,EY]
   rw [if_neg hq,List.filter_cons_of_neg hq,List.filter_nil,List.append_nil]
theorem IY [Inhabited α] (hb:r7 b):∀ {l:List α} {x:α} {k:Nat},l.Pairwise (fun x y=>b x y=true)→k<l.length→ (b (az l k) x=true↔k<ko b l x)
 | [],x,k,_,aw=>by simp at aw
 | a::l,x,k,hs,aw=>by
   obtain⟨aa,ad⟩:=List.pairwise_cons.1 hs
   unfold ko
   cases k with
   | zero=>
     have:az (a::l) 0=a:=rfl
     rw [this]
     split <;> simp_all
   | succ k=>
     have jL:k<l.length:=by simpa using aw
     have he:az (a::l) (k+1)=az l k:=by rw [e0 _ aw,e0 _ jL]; rfl
     rw [he,IY hb ad jL]
     split
     ·omega
     rename_i r8
     constructor
     ·intro cD
      have a0:=(IY hb ad jL).2 cD
      have bn:=aa (az l k) (by rw [e0 _ jL]; exact List.getElem_mem _)
      exact absurd (hb.trans _ _ _ bn a0) r8
     intro h; omega
end Gv
namespace Go.Proofs.YthkfkliknjiecaaGreat
open Go Gv
theorem Mm {xs:List cR} {f:cR→Option Bool} {g:cR→Bool} (a7:∀ x∈xs,f x=some (g x)) (ao:xs.length<2 ^ 62):
 bl (xr xs f) (fun r=>(r= -1∧ ∀ x∈xs,g x=false)∨ ∃ i:Nat,i<xs.length∧r=i∧g (az xs i)=true∧ ∀ j,j<i→g (az xs j)=false):=by
 unfold xr
 refine bl.loop xs.length (fun k s=>s=(k:Int)∧ ∀ j,j<k→g (az xs j)=false) (by omega) ⟨rfl,fun j aE=>by omega⟩ (fun k s aw ak=>?_) (fun s ak=>?_)
 ·obtain⟨ay,aO⟩:=ak; subst ay
  refine bl.cond (fun _=>?_) (fun h=>by simp at h; omega)
  refine .idx rfl aw (.eq (a7 _ (by rw [e0 xs aw]; exact List.getElem_mem aw)) (.cond (fun h=>.ret ?_) (fun h=>.ret ⟨eT (by omega),fun j aE=>?_⟩)))
  ·exact .ret (.inr ⟨k,aw,rfl,h,aO⟩)
  by_cases qX:j=k
  ·subst qX; exact h
  exact aO j (by omega)
 obtain⟨ay,aO⟩:=ak; subst ay
 refine⟨_,by simp; rfl,?_⟩
 refine .ret (.inl ⟨rfl,fun x aq=>?_⟩)
 obtain⟨j,aE,rfl⟩:=List.mem_iff_getElem.1 aq
 rw [← e0 xs aE]; exact aO j aE
theorem _root_.Gv.bl.get {β:Type} {m:Option β} {v:β} (h:bl m (fun r=>r=v)):m=some v:=by
 obtain⟨r,aa,rfl⟩:=h; exact aa
theorem OG (a b:an):mh a b=true∨a=b∨mh b a=true:=by
 rw [EX,EX]
 rcases a with⟨ae0,dL⟩
 rcases b with⟨ae1,ae2⟩
 simp only [BitVec.lt_def,an.mk.injEq,← BitVec.toNat_inj]
 omega
def jO (kind b:Int) (m:cA) (x:an):Bool:=
 if m.g1=false then true
 else if kind=1 then decide (x=m.bS)
 else if kind=2 then(List.range 128).all fun j=> !lead b m.fp j||(bA x j==bA m.bS j)
 else if kind=3 then decide (uQ x m.b3=m.bS)
 else !mh x m.bS&& !mh m.l0 x
theorem Vo {key:cR} (aw:kz key) (m:cA) (x:an):vu m key.cS (gh key) x=some (jO key.cS (gh key) m x):=by
 have hb:=aw.gh
 obtain⟨_,_,_,aZ,eY,_⟩:=aw
 refine bl.get ?_
 unfold vu jO
 refine .cond (fun hp=>.ret ?_) fun hp=>?_
 ·simp only [Bool.not_eq_true'] at hp
  rw [if_pos hp]; simp; omega
 simp only [Bool.not_eq_false'] at hp
 rw [if_neg (by simp [hp])]
 refine .cond (fun aa=>.ret ?_) fun aa=>.cond (fun ad=>?_) fun ad=>.cond (fun aF=>?_) fun aF=>?_
 ·rw [if_pos (by simpa using aa)]
 ·rw [if_neg (by simpa using aa),if_pos (by simpa using ad)]
  refine(Eo _ _ (by omega) (by omega)).bind fun aD ay=>.eq (and_eq _ _) (.eq (and_eq _ _) (.ret ?_))
  rw [Bool.eq_iff_iff,EW,List.all_eq_true]
  constructor
  ·intro h j aE
   have r5:=List.mem_range.1 aE
   have:=h j r5
   rw [pC,pC,ay j r5] at this
   cases ao:lead (gh key) m.fp j
   ·rfl
   rw [ao] at this; simpa using this
  intro h j aE
  have:=h j (List.mem_range.2 aE)
  rw [pC,pC,ay j aE]
  cases ao:lead (gh key) m.fp j
  ·simp
  rw [ao] at this; simpa using this
 ·rw [if_neg (by simpa using aa),if_neg (by simpa using ad),if_pos (by simpa using aF)]
  exact .eq (and_eq _ _) (.ret rfl)
 have hy:key.cS=4:=by simp only [beq_eq_false_iff_ne] at aa ad aF; omega
 rw [if_neg (by simpa using aa),if_neg (by simpa using ad),if_neg (by simpa using aF)]
 refine .cond (fun _=>?_) fun h=>by rw [hy] at h; cases h
 refine(M9 _ _).bind fun bq ⟨dA,dK,hH⟩=>.c0 (P:=fun r=>(r<0↔mh x m.l0=true)∧ (r=0↔x=m.l0)∧ -1≤r∧r≤1) (fun _=>M9 _ _) fun b6 bn=>.ret ?_
 have gD:decide (bq≤0)= !mh x m.bS:=by
  rw [Bool.eq_iff_iff,decide_eq_true_eq,Bool.not_eq_true']
  rcases OG m.bS x with h | h | h
  ·have:=dA.2 h; rw [ya h]; simp; omega
  ·have:=dK.2 h; rw [h,vH]; simp; omega
  rw [h]; simp
  have cZ: ¬ bq<0:=fun cE=>by rw [ya h] at dA; simpa using dA.1 cE
  have e5:bq≠0:=fun cE=>by rw [dK.1 cE,vH] at h; cases h
  omega
 rw [gD]
 cases aq:mh x m.bS
 ·rw [gD,aq] at bn
  obtain⟨eo,fb,ij⟩:=bn rfl
  simp only [Bool.not_false,Bool.true_and]
  rw [Bool.eq_iff_iff,decide_eq_true_eq,Bool.not_eq_true']
  rcases OG x m.l0 with h | h | h
  ·have:=eo.2 h; rw [ya h]; simp; omega
  ·have:=fb.2 h; rw [h,vH]; simp; omega
  rw [h]; simp
  have cZ: ¬ b6<0:=fun cE=>by rw [ya h] at eo; simpa using eo.1 cE
  have e5:b6≠0:=fun cE=>by rw [fb.1 cE,vH] at h; cases h
  omega
 simp
def mt (s:a3) (k:Nat) (p:Vector an 4) (e:bC):Bool:=
 (List.range (az s.bt k).bN.length).all fun i=>jO (az (az s.bt k).bN i).cS (gh (az (az s.bt k).bN i)) (az e.b4 i) (br p i)
theorem Vp {s:a3} (h:db s) {key:cR} (aw:kz key):vt s key=some (gh key):=by
 obtain⟨j,aE,a7,_⟩:=aw
 refine bl.get ?_
 unfold vt
 rw [a7]
 refine(Eg h aE).bind fun r aQ=>?_
 subst aQ
 rw [show decide ((j:Int)<0)=false from decide_eq_false (by omega),cond_false]
 refine .idx rfl (by have:=h.pS; omega) (.ret ?_)
 rw [(h.qZ aE).2,BP a7]
theorem Nv {s:a3} (h:db s) {k:Nat} (aw:k<4) {e:bC} (he:e.ef=(k:Int)+1):tV s e=some (az s.bt k,true):=by
 refine bl.get ?_
 unfold tV
 rw [he]
 refine(AD h aw).bind fun r aQ=>?_
 subst aQ
 rw [show decide ((k:Int)<0)=false from decide_eq_false (by omega),cond_false]
 exact .idx rfl (by have:=h.lj; omega) (.ret rfl)
theorem Yf {n i:Nat} {f:Nat→Bool} (h:∀ c,c<n→f c=true) (aR:i=n):(List.range i).all f=true:=by
 subst aR; exact List.all_eq_true.2 fun c al=>h c (List.mem_range.1 al)
theorem Yg {n i:Nat} {f:Nat→Bool} (ak:i<n) (h:f i=false):(List.range n).all f=false:=by
 rw [Bool.eq_false_iff]; intro aa
 have:=List.all_eq_true.1 aa i (List.mem_range.2 ak)
 rw [h] at this; cases this
theorem MS {s:a3} (h:db s) {k:Nat} (aw:k<4) {e:bC} (he:ia s k e) (p:Vector an 4):tT s e p=some (mt s k p e):=by
 obtain⟨t1,⟨t2,t3⟩,t4,_⟩:=h.iJ aw
 refine bl.get ?_
 unfold tT mt
 refine .eq (Nv h aw he.iJ) (.cond (fun h=>by cases h) fun _=>?_)
 have hm:=he.len
 simp only
 refine bl.loop (az s.bt k).bN.length (fun i st=>st=(i:Int)∧ ∀ c,c<i→jO (az (az s.bt k).bN c).cS (gh (az (az s.bt k).bN c)) (az e.b4 c) (br p c)=true) (by omega) ⟨rfl,fun c al=>by omega⟩ (fun i st ak hs=>?_) (fun st hs=>?_)
 ·obtain⟨rfl,hs⟩:=hs
  have lL:kz (az (az s.bt k).bN i):=t4 _ (by rw [e0 _ ak]; exact List.getElem_mem ak)
  refine .cond (fun _=>?_) (fun h=>by simp at h; omega)
  refine .idx rfl ak ?_
  have nL:(decide ((i:Int)≥ (e.b4.length:Int))||decide ((i:Int)≥4))=false:=by simp; omega
  rw [nL]
  refine .c0 (P:=fun c=>c=i) (fun _=>⟨i,oS (by omega),rfl⟩) fun bP aO=>.c0 (P:=fun c=>c=gh (az (az s.bt k).bN i)) (fun _=>⟨_,Vp h lL,rfl⟩) fun aK cK=>.c0 (P:=fun c=>c=i) (fun _=>⟨i,oS (by omega),rfl⟩) fun cT di=>?_
  rw [aO rfl,cK rfl,di rfl]
  refine .c0 (P:=fun c=>c=jO (az (az s.bt k).bN i).cS (gh (az (az s.bt k).bN i)) (az e.b4 i) (br p i)) (fun _=>⟨_,Vo lL _ _,rfl⟩) fun bb fQ=>.eq rfl ?_
  rw [fQ rfl,Bool.false_or]
  refine .cond (fun aR=>.ret ?_) fun a6=>.ret ⟨eT (by omega),fun c al=>?_⟩
  ·simp only [Sum.elim_inr]
   exact .ret (Yg ak (by simpa using aR)).symm
  by_cases ph:c=i
  ·subst ph; simpa using a6
  exact hs c (by omega)
 obtain⟨rfl,hs⟩:=hs
 rw [show decide (((az s.bt k).bN.length:Int)<((az s.bt k).bN.length:Int))=false by simp]
 refine⟨_,rfl,?_⟩
 simp only [Sum.elim_inl]
 exact .ret (Yf hs rfl).symm
def tx:List cR→List cA→Int
 | key::aV,m::ms=>if key.cS=2 then m.fp else tx aV ms
 | _,_=>0
theorem IZ:∀ {aV:List cR} {ms:List cA} {i:Nat},ms.length=aV.length→i<aV.length→ (az aV i).cS=2→ (∀ j,j<i→ (az aV j).cS≠2)→tx aV ms=(az ms i).fp
 | [],_,i,_,ak,_,_=>by simp at ak
 | key::aV,[],i,ao,_,_,_=>by simp at ao
 | key::aV,m::ms,0,_,_,ad,_=>by
   have:(az (key::aV) 0)=key:=rfl
   rw [this] at ad
   unfold tx; rw [if_pos ad]; rfl
 | key::aV,m::ms,i+1,ao,ak,ad,aR=>by
   have bT:=aR 0 (by omega)
   have:(az (key::aV) 0)=key:=rfl
   rw [this] at bT
   unfold tx; rw [if_neg bT]
   have bQ:∀ {β:Type} [Inhabited β] (x:β) (l:List β) (n:Nat),az (x::l) (n+1)=az l n:=fun x l n=>by simp [az]
   rw [bQ] at ad ⊢
   exact IZ (by simpa using ao) (by simpa using ak) ad fun j aE=>by have:=aR (j+1) (by omega); rwa [bQ] at this
theorem Pu:∀ {aV:List cR} {ms:List cA},(∀ key∈aV,key.cS≠2)→tx aV ms=0
 | [],_,_=>by unfold tx; rfl
 | key::aV,[],_=>by unfold tx; rfl
 | key::aV,m::ms,aR=>by
   unfold tx; rw [if_neg (aR key (by simp))]
   exact Pu fun k aw=>aR k (by simp [aw])
def vf (s:a3) (k:Nat) (e:bC):Int:=tx (az s.bt k).bN e.b4
theorem Nc {s:a3} (h:db s) {k:Nat} (aw:k<4) {e:bC} (he:ia s k e):xW s e=some (vf s k e):=by
 obtain⟨t1,⟨t2,t3⟩,t4,_⟩:=h.iJ aw
 have hm:=he.len
 refine bl.get ?_
 unfold xW vf
 refine .eq (Nv h aw he.iJ) ?_
 simp only
 refine(Mm (g:=fun key=>key.cS==2) (fun x aq=>rfl) (by omega)).bind fun r aQ=>.eq rfl ?_
 rcases aQ with⟨rfl,aQ⟩ | ⟨i,aa,rfl,aF,aX⟩
 ·refine .cond (fun _=>.ret ?_) (fun h=>by simp at h)
  rw [Pu fun key ic=>by simpa using aQ key ic]
 have df:(!true||decide ((i:Int)<0)||decide ((i:Int)≥ (e.b4.length:Int)))=false:=by simp; omega
 rw [df,cond_false]
 refine .idx rfl (by omega) (.ret ?_)
 rw [IZ hm aa (by simpa using aF) fun j aE=>by simpa using aX j aE]
def eS (s:a3) (k:Nat) (a c:aJ):Bool:=
 decide (c.bK.ik<a.bK.ik∨ (a.bK.ik=c.bK.ik∧ (vf s k c.bK<vf s k a.bK∨ (vf s k a.bK=vf s k c.bK∧c.cH<a.cH))))
theorem pG (s:a3) (k:Nat):r7 (eS s k) where
 asymm x y h:=by
  unfold eS at *
  rw [decide_eq_true_eq] at h
  rw [decide_eq_false_iff_not]; omega
 trans x y z h dc:=by
  unfold eS at *
  rw [decide_eq_true_eq] at *
  omega
theorem Yh {s:a3} {k:Nat} {a c:aJ} (h:a.cH≠c.cH):tw (eS s k) a c:=by
 unfold tw eS
 rw [decide_eq_true_eq,decide_eq_true_eq]; omega
def LR (x y:Int):Int:=if x<y then -1 else if y<x then 1 else 0
theorem I0 (x y:Int):vn x y=some (LR x y):=by
 unfold vn z8 LR
 have:∀ z:Int,(z !=z)=false:=fun z=>by simp
 rw [this,this]
 simp only [Option.bind_some,cond_false]
 by_cases aa:x<y
 ·simp [aa]
 by_cases ad:y<x
 ·simp [aa,ad]
 simp [aa,ad]
theorem WL (a c d:Int):Ar [a,c,d]=some (if a≠0 then a else if c≠0 then c else d):=by
 refine bl.get ?_
 unfold Ar
 refine bl.loop 3 (fun i st=>st=(i:Int)∧ ∀ j,j<i→az [a,c,d] j=0) (by omega) ⟨rfl,fun j aE=>by omega⟩ (fun i st ak hs=>?_) (fun st hs=>?_)
 ·obtain⟨rfl,hs⟩:=hs
  refine .cond (fun _=>?_) (fun h=>by simp at h; omega)
  refine .idx rfl (by simpa using ak) (.cond (fun al=>.ret ?_) fun al=>.ret ⟨eT (by omega),fun j aE=>?_⟩)
  ·simp only [Sum.elim_inr]
   refine .ret ?_
   have bT:=hs 0
   have aa:=hs 1
   rcases (show i=0∨i=1∨i=2 by omega) with rfl | rfl | rfl
   ·have:a≠0:=by simpa [az] using al
    rw [if_pos this]; rfl
   ·have:c≠0:=by simpa [az] using al
    have La:a=0:=by simpa [az] using bT (by omega)
    rw [if_neg (by simpa using La),if_pos this]; rfl
   have La:a=0:=by simpa [az] using bT (by omega)
   have adn:c=0:=by simpa [az] using aa (by omega)
   rw [if_neg (by simpa using La),if_neg (by simpa using adn)]; rfl
  by_cases hE:j=i
  ·subst hE; simpa using al
  exact hs j (by omega)
 obtain⟨rfl,hs⟩:=hs
 refine⟨_,rfl,?_⟩
 simp only [Sum.elim_inl]
 refine .ret ?_
 have bT:a=0:=by simpa [az] using hs 0 (by omega)
 have aa:c=0:=by simpa [az] using hs 1 (by omega)
 have ad:d=0:=by simpa [az] using hs 2 (by omega)
 simp [bT,aa,ad]
theorem HQ {s:a3} (h:db s) {k:Nat} (aw:k<4) {a c:aJ} (bp:ia s k a.bK) (al:ia s k c.bK):vy s a c=some (eS s k a c):=by
 unfold vy eS
 rw [I0,Option.bind_some,Nc h aw bp,Option.bind_some,Nc h aw al,Option.bind_some,I0,Option.bind_some,I0,Option.bind_some,WL,Option.bind_some]
 congr 1
 rw [decide_eq_decide]
 unfold LR
 split <;> split <;> (repeat' split) <;> omega
theorem L5 {xs:List aJ} {f:aJ→Option Bool} {g:aJ→Bool} (a7:∀ x∈xs,f x=some (g x)) (ao:xs.length<2 ^ 62):
 bl (tK xs f) (fun r=>(r= -1∧ ∀ x∈xs,g x=false)∨ ∃ i:Nat,i<xs.length∧r=i∧g (az xs i)=true∧ ∀ j,j<i→g (az xs j)=false):=by
 unfold tK
 refine bl.loop xs.length (fun k s=>s=(k:Int)∧ ∀ j,j<k→g (az xs j)=false) (by omega) ⟨rfl,fun j aE=>by omega⟩ (fun k s aw ak=>?_) (fun s ak=>?_)
 ·obtain⟨ay,aO⟩:=ak; subst ay
  refine bl.cond (fun _=>?_) (fun h=>by simp at h; omega)
  refine .idx rfl aw (.eq (a7 _ (by rw [e0 xs aw]; exact List.getElem_mem aw)) (.cond (fun h=>.ret ?_) (fun h=>.ret ⟨eT (by omega),fun j aE=>?_⟩)))
  ·exact .ret (.inr ⟨k,aw,rfl,h,aO⟩)
  by_cases qX:j=k
  ·subst qX; exact h
  exact aO j (by omega)
 obtain⟨ay,aO⟩:=ak; subst ay
 refine⟨_,by simp; rfl,?_⟩
 refine .ret (.inl ⟨rfl,fun x aq=>?_⟩)
 obtain⟨j,aE,rfl⟩:=List.mem_iff_getElem.1 aq
 rw [← e0 xs aE]; exact aO j aE
structure lO (s:a3) (k:Nat) (i:aJ):Prop where
 eV:ia s k i.bK
theorem Xz {i:aJ} (aa:i.bK.b4.length≤1000) (ad:i.bK.lb.length≤1000):oM i=some i:=by
 unfold oM Ed Dx Dy
 rw [il _ _ (by simp; omega) (by omega),il _ _ (by simp; omega) (by omega)]
 rfl
theorem Br {s:a3} (h:db s) {k:Nat} (aw:k<4) {i:aJ} (ak:lO s k i):oM i=some i:=by
 have aa:=ak.eV.len
 have ad:=ak.eV.args
 have aF:=(h.iJ aw).2.1.2
 exact Xz (by omega) (by omega)
def ji (l:List aJ) (n:Int):Bool:=l.any fun c=>c.cH==n
theorem QK (x:cL) (n:Int) (ao:x.ch.length≤1000):bl ((tK x.ch (fun fJ=>vk fJ n)).bind fun aD=>some aD) (fun r=>(r= -1∧ji x.ch n=false)∨ ∃ i:Nat,i<x.ch.length∧r=i∧ (az x.ch i).cH=n∧ji x.ch n=true∧ ∀ j,j<i→ (az x.ch j).cH≠n):=by
 refine(L5 (g:=fun c=>c.cH==n) (fun c al=>rfl) (by omega)).bind fun r aQ=>.ret ?_
 rcases aQ with⟨aa,ad⟩ | ⟨i,aa,ad,aF,aX⟩
 ·exact .inl ⟨aa,by unfold ji; rw [List.any_eq_false]; exact fun c al=>by simp [ad c al]⟩
 refine .inr ⟨i,aa,ad,by simpa using aF,?_,fun j aE=>by simpa using aX j aE⟩
 unfold ji; rw [List.any_eq_true]
 exact⟨az x.ch i,by rw [e0 _ aa]; exact List.getElem_mem _,aF⟩
theorem WM {s:a3} (h:db s) {k:Nat} (aw:k<4) {x:cL} (aq:x.oQ=s) {a c:aJ} (bp:lO s k a) (al:lO s k c):
 bl (xw x a c) (fun r=>r<0↔eS s k a c=true):=by
 unfold xw
 rw [aq]
 refine .eq (HQ h aw bp.eV al.eV) (.cond (fun hb=>.ret ⟨fun _=>hb,fun _=>by omega⟩) fun hb=>.eq (HQ h aw al.eV bp.eV) (.cond (fun _=>.ret ?_) fun _=>.ret ?_))
 ·rw [hb]; simp
 rw [hb]; simp
theorem Yi {i j:Nat} (h:i+j<2 ^ 62):bs ((BitVec.ofInt 64 (bs ((i:Int)+(j:Int)))) >>> (1#64).toNat).toNat=(((i+j) / 2:Nat):Int):=by
 rw [show(i:Int)+(j:Int)=((i+j:Nat):Int) by omega,hC (x:=((i+j:Nat):Int)) (by omega) (by omega)]
 have:((BitVec.ofInt 64 ((i+j:Nat):Int)) >>> (1#64).toNat).toNat=(i+j) / 2:=by
  rw [BitVec.toNat_ushiftRight,oT (by omega)]
  rw [show(1#64).toNat=1 from rfl,Nat.shiftRight_eq_div_pow,Nat.pow_one]
 rw [this,hC (by omega) (by omega)]
theorem V4 {l:List aJ} {x:aJ} {b:aJ→aJ→Bool} (hb:r7 b) (hs:l.Pairwise (fun x y=>b x y=true)) (ao:l.length≤1000)
 {f:aJ→aJ→Option Int} (a7:∀ a∈l,bl (f a x) (fun r=>r<0↔b a x=true)):
 bl (zk l x f) (fun r=>r.1=(ko b l x:Int)):=by
 unfold zk
 have gA:=IX (b:=b) (l:=l) (x:=x)
 have uO:∀ h,h<l.length→az l h∈l:=fun h cE=>by rw [e0 _ cE]; exact List.getElem_mem _
 have ox:∀ q:Bool,bl ((c0 (decide (((ko b l x:Nat):Int)<(l.length:Int))) true (idx l.length ((ko b l x:Nat):Int))).bind fun bP=>
  (c0 (decide (((ko b l x:Nat):Int)<(l.length:Int))) true (f (az l bP) x)).bind fun aK=>some (((ko b l x:Nat):Int),(decide (((ko b l x:Nat):Int)<(l.length:Int)))&&(aK==0))) (fun r=>r.1=(ko b l x:Int)):=fun _=>by
  refine .c0 (P:=fun c=>c=ko b l x) (fun h=>⟨_,oS (by simpa using h),rfl⟩) fun bP ad=>.c0 (P:=fun _=>True) (fun h=>?_) fun aK _=>.ret rfl
  rw [ad h]
  exact(a7 _ (uO _ (by simpa using h))).mono fun _ _=>trivial
 refine bl.loop l.length (fun r st=> ∃ i j:Nat,st=((i:Int),(j:Int))∧i≤ko b l x∧ko b l x≤j∧j≤l.length∧j - i≤l.length - r) (by omega) ⟨0,l.length,rfl,by omega,by omega,by omega,by omega⟩ (fun r st aQ kH=>?_) (fun st kH=>?_)
 ·obtain⟨i,j,rfl,aa,ad,aF,aX⟩:=kH
  refine .cond (fun al=>?_) fun al=>.ret ?_
  ·have hR:i<j:=by simpa using al
   rw [Yi (by omega)]
   have hm:(i+j) / 2<l.length:=by omega
   refine .idx rfl hm ((a7 _ (uO _ hm)).bind fun aD bo=>?_)
   have cD:=IY hb (x:=x) hs hm
   refine .bind (P:=fun m=> ∃ i j:Nat,m=((i:Int),(j:Int))∧i≤ko b l x∧ko b l x≤j∧j≤l.length∧j - i≤l.length - (r+1)) (.cond (fun a6=>.eq rfl (.ret ?_)) fun a6=>.ret ?_) fun m hm=>.ret ?_
   ·have:=cD.1 (bo.1 (by simpa using a6))
    refine⟨(i+j) / 2+1,j,?_,by omega,ad,aF,by omega⟩
    simp only [eT (show(i+j) / 2<2 ^ 62 by omega)]
   ·have: ¬ (i+j) / 2<ko b l x:=fun cE=>by
     have:=bo.2 (cD.2 cE)
     simp at a6; omega
    exact⟨i,(i+j) / 2,rfl,aa,by omega,by omega,by omega⟩
   obtain⟨xn,GL,rfl,a0⟩:=hm
   exact⟨xn,GL,rfl,a0⟩
  have hR: ¬ i<j:=by simpa using al
  have:i=ko b l x:=by omega
  subst this
  exact ox true
 obtain⟨i,j,rfl,aa,ad,aF,aX⟩:=kH
 have hR:i=ko b l x:=by omega
 have al:decide ((i:Int)<(j:Int))=false:=by simp; omega
 simp only [al,cond_false]
 refine⟨_,rfl,?_⟩
 subst hR
 exact ox true
structure iV (s:a3) (k:Nat) (l:List aJ):Prop where
 ok:∀ i∈l,lO s k i
 num:l.Pairwise fun a c=>a.cH≠c.cH
 len:l.length≤900
theorem iV.xe {s:a3} {k:Nat} {l:List aJ} (h:iV s k l):uT (eS s k) l:=h.num.imp fun cE=>Yh cE
theorem iV.e9 {s:a3} {k:Nat} {l:List aJ} (h:iV s k l):(∀ i∈e9 (eS s k) l,lO s k i)∧ (e9 (eS s k) l).length≤900:=
 ⟨fun i ak=>h.ok i (pF.1 ak),by rw [Ye]; exact h.len⟩
theorem EZ {s:a3} {k:Nat} {l:List aJ} {n:Int} :ji (e9 (eS s k) l) n=ji l n:=by
 unfold ji
 rw [Bool.eq_iff_iff,List.any_eq_true,List.any_eq_true]
 exact⟨fun⟨c,aa,ad⟩=>⟨c,pF.1 aa,ad⟩,fun⟨c,aa,ad⟩=>⟨c,pF.2 aa,ad⟩⟩
theorem OH {l:List aJ} {n:Int} (h:ji l n=false):∀ c∈l,c.cH≠n:=fun c al=>by
 unfold ji at h
 rw [List.any_eq_false] at h
 simpa using h c al
theorem iV.snoc {s:a3} {k:Nat} {l:List aJ} (h:iV s k l) {i:aJ} (ak:lO s k i) (aR:ji l i.cH=false) (ao:l.length<900):iV s k (l++[i]) where
 ok c al:=by
  rcases List.mem_append.1 al with al | al
  ·exact h.ok c al
  rw [List.mem_singleton.1 al]; exact ak
 num:=by
  rw [List.pairwise_append]
  exact⟨h.num,by simp,fun a bp c al=>by rw [List.mem_singleton.1 al]; exact OH aR a bp⟩
 len:=by simp; omega
def oq (s:a3) (k:Nat) (l:List aJ):cL:= { oQ:=s,ch:=e9 (eS s k) l }
theorem Yj {s:a3} (h:db s) {k:Nat} (aw:k<4) {l:List aJ} (ao:iV s k l) {i:aJ} (ak:lO s k i) (hlen:l.length<900):
 zy (oq s k l) i=some (!ji l i.cH,if ji l i.cH=true then oq s k l else oq s k (l++[i])):=by
 refine bl.get ?_
 unfold zy
 obtain⟨js,hl⟩:=ao.e9
 refine .c0 (fun _=>QK (oq s k l) _ (by show(e9 _ l).length≤1000; omega)) fun aD aa=>?_
 have aa:=aa rfl
 rw [Bool.false_or]
 rcases aa with⟨rfl,ad⟩ | ⟨j,ad,rfl,aF,aX,a0⟩
 ·have kn:ji l i.cH=false:=by rw [← ad]; exact EZ.symm
  refine .cond (fun al=>by simp at al) fun _=>?_
  refine(V4 (b:=eS s k) (pG s k) (Ez (pG s k) ao.xe) (by omega) fun a bp=>WM h aw rfl (js a bp) ak).bind fun aK cb=>.eq (Br h aw ak) ?_
  rw [cb]
  unfold Du
  have gA:=IX (b:=eS s k) (l:=e9 (eS s k) l) (x:=i)
  refine .eq (a:=e9 (eS s k) (l++[i])) ?_ (.ret ?_)
  ·show B3 88 (e9 (eS s k) l) _ _=_
   unfold B3
   have nd:maxLen=9223372036854775807:=rfl
   rw [if_pos ⟨by omega,by omega,by simp,by simp <;> omega,by simp <;> omega⟩,EY,Pt]
   simp
  rw [kn]; rfl
 have tv:ji l i.cH=true:=by rw [← aX]; exact EZ.symm
 refine .cond (fun _=>.ret ?_) fun al=>by simp at al <;> omega
 rw [tv]; rfl
theorem V5 {s:a3} (h:db s) {k:Nat} (aw:k<4) {l:List aJ} (ao:iV s k l) (p:Vector an 4):
 xt (oq s k l) p=some (match (e9 (eS s k) l).find? (fun c=>mt s k p c.bK) with | some c=>(c,true) | none=>(default,false)):=by
 refine bl.get ?_
 obtain⟨js,hl⟩:=ao.e9
 unfold xt
 refine .eq (a:=p) rfl ?_
 unfold zm
 have KS:∀ i (ak:i<(e9 (eS s k) l).length),tT s (az (e9 (eS s k) l) i).bK p=some (mt s k p (az (e9 (eS s k) l) i).bK)∧oM (az (e9 (eS s k) l) i)=some (az (e9 (eS s k) l) i):=fun i ak=>by
  have hm:=js (az (e9 (eS s k) l) i) (by rw [e0 _ ak]; exact List.getElem_mem _)
  exact⟨MS h aw hm.eV p,Br h aw hm⟩
 show bl ((Option.bind (Option.bind (ey ec _ _) _) _)) _
 rw [Option.bind_assoc]
 refine bl.loop (e9 (eS s k) l).length (fun i st=>st=((i:Int),())∧ ∀ j,j<i→mt s k p (az (e9 (eS s k) l) j).bK=false) (by omega) ⟨rfl,fun j aE=>by omega⟩ (fun i st ak hs=>?_) (fun st hs=>?_)
 ·obtain⟨rfl,hs⟩:=hs
  obtain⟨av,aW⟩:=KS i ak
  refine .cond (fun _=>?_) (fun al=>by simp [oq] at al; omega)
  refine .idx rfl ak (.eq av (.cond (fun hm=>.eq (a:=(Sum.inr (true,az (e9 (eS s k) l) i):Unit ⊕ (Bool×aJ))) (by show Option.bind (oM (az (e9 (eS s k) l) i)) _=_; rw [aW]; rfl) (.ret ?_)) fun hm=>.ret ⟨?_,fun j aE=>?_⟩))
  ·refine .ret ?_
   rw [Oy (xs:=e9 (eS s k) l) (p:=fun c=>mt s k p c.bK) ak hm hs]
  ·rw [eT (by omega)]
  by_cases hE:j=i
  ·subst hE; exact hm
  exact hs j (by omega)
 obtain⟨rfl,hs⟩:=hs
 have al:decide (((e9 (eS s k) l).length:Int)<((oq s k l).ch.length:Int))=false:=by simp [oq]
 simp only [al,cond_false]
 refine⟨_,rfl,.ret ?_⟩
 rw [Oz fun c al=>?_]
 obtain⟨j,aE,rfl⟩:=List.mem_iff_getElem.1 al
 rw [← e0 _ aE]; exact hs j aE
theorem Vq {s:a3} (h:db s) {k:Nat} (aw:k<4) {l:List aJ} (ao:∀ i∈l,lO s k i) (aR:l.length≤1000):x0 l=some l:=by
 refine bl.get ?_
 unfold x0
 refine bl.loop l.length (fun i st=>st=((i:Int),l.take i)) (by omega) rfl (fun i st ak hs=>?_) (fun st hs=>?_)
 ·subst hs
  refine .cond (fun _=>?_) (fun al=>by simp at al; omega)
  refine .idx rfl ak (.eq (Br h aw (ao _ (by rw [e0 _ ak]; exact List.getElem_mem _))) (.eq (il _ _ (by simp; omega) (by omega)) (.ret ?_)))
  rw [eT (by omega),sn l ak]
 subst hs
 refine⟨_,by simp; rfl,.ret ?_⟩
 simp
theorem Yk {s:a3} (h:db s) {k:Nat} (aw:k<4) {l:List aJ} (ao:iV s k l):zx (oq s k l)=some (e9 (eS s k) l):=by
 unfold zx
 obtain⟨js,hl⟩:=ao.e9
 show Option.bind (x0 (e9 (eS s k) l)) _=_
 rw [Vq h aw js (by omega)]; rfl
theorem EA (v:an):sm v v=some 0:=by
 obtain⟨r,aa,ad,aF⟩:=UZ v v
 rw [vH] at ad aF
 have:r=0:=by
  have dA: ¬ r>0:=fun h=>by simpa using ad.1 h
  have dK: ¬ r<0:=fun h=>by simpa using aF.1 h
  omega
 rw [aa,this]
theorem U0 (m:cA):Aq m m=some 0:=by
 unfold Aq
 rw [EA,EA,EA]
 simp
theorem AR (n:Int):rj n n=some 0:=by
 unfold rj
 simp
theorem Us (l:List cA) (ao:l.length≤1000):Ad l l=some 0:=by
 refine bl.get ?_
 unfold Ad
 refine bl.loop l.length (fun i st=>st=(i:Int)) (by omega) rfl (fun i st ak hs=>?_) (fun st hs=>?_)
 ·subst hs
  refine .cond (fun _=>?_) (fun al=>by simp at al; omega)
  exact .idx rfl ak (.idx rfl ak (.eq (U0 _) (.cond (fun al=>by simp at al) fun _=>.ret (eT (by omega)))))
 subst hs
 refine⟨_,by simp; rfl,?_⟩
 simp only [Sum.elim_inl]
 exact .eq (AR _) (.ret rfl)
theorem UF (l:List an) (ao:l.length≤1000):Ak l l=some 0:=by
 refine bl.get ?_
 unfold Ak
 refine bl.loop l.length (fun i st=>st=(i:Int)) (by omega) rfl (fun i st ak hs=>?_) (fun st hs=>?_)
 ·subst hs
  refine .cond (fun _=>?_) (fun al=>by simp at al; omega)
  exact .idx rfl ak (.idx rfl ak (.eq (EA _) (.cond (fun al=>by simp at al) fun _=>.ret (eT (by omega)))))
 subst hs
 refine⟨_,by simp; rfl,?_⟩
 simp only [Sum.elim_inl]
 exact .eq (AR _) (.ret rfl)
theorem V6 {e:bC} (aa:e.b4.length≤1000) (ad:e.lb.length≤1000):Ae e e=some 0:=by
 unfold Ae
 rw [AR,Option.bind_some,AR,Option.bind_some,Us _ aa,Option.bind_some,AR,Option.bind_some]
 refine bl.get ?_
 refine bl.loop 4 (fun i st=>st=(i:Int)) (by omega) rfl (fun i st ak hs=>?_) (fun st hs=>?_)
 ·subst hs
  refine .cond (fun _=>?_) (fun al=>by simp at al; omega)
  have bT:az [(0:Int),0,0,0] i=0:=by
   rcases (show i=0∨i=1∨i=2∨i=3 by omega) with rfl | rfl | rfl | rfl <;> rfl
  refine .idx rfl (by simpa using ak) (.cond (fun al=>by rw [bT] at al; simp at al) fun _=>.ret (eT (by omega)))
 subst hs
 refine⟨_,rfl,?_⟩
 simp only [Sum.elim_inl]
 exact .eq (UF _ ad) (.ret rfl)
theorem V7 {i:aJ} (aa:i.bK.b4.length≤1000) (ad:i.bK.lb.length≤1000):Aw i i=some true:=by
 unfold Aw D8
 rw [V6 aa ad]
 simp
theorem lO.small {s:a3} (h:db s) {k:Nat} (aw:k<4) {i:aJ} (ak:lO s k i):i.bK.b4.length≤1000∧i.bK.lb.length≤1000:=by
 have aa:=ak.eV.len
 have ad:=ak.eV.args
 have aF:=(h.iJ aw).2.1.2
 exact⟨by omega,by omega⟩
def q1 (o:Option aJ):aJ×Bool:=match o with | some c=>(c,true) | none=>(default,false)
theorem Vr {s:a3} (h:db s) {k:Nat} (aw:k<4) {l:List aJ} (ao:iV s k l) (p:Vector an 4):
 xt (oq s k l) p=some (q1 ((e9 (eS s k) l).find? (fun c=>mt s k p c.bK))):=by
 rw [V5 h aw ao]; unfold q1; cases List.find? (fun c=>mt s k p c.bK) (e9 (eS s k) l) <;> rfl
theorem V8 {s:a3} (h:db s) {k:Nat} (aw:k<4) {l:List aJ} (ao:∀ i∈l,lO s k i) (q:aJ→Bool):
 (q1 (l.find? q)).1.bK.b4.length≤1000∧ (q1 (l.find? q)).1.bK.lb.length≤1000:=by
 cases a7:l.find? q with
 | none=>exact⟨Nat.zero_le _,Nat.zero_le _⟩
 | some c=>exact(ao c (List.mem_of_find?_eq_some a7)).small h aw
theorem WN (c:bu):bl (zH c) (fun _=>True):=by
 unfold zH
 first | exact .ret trivial | exact .eq rfl (.ret trivial)
structure jg (hp:a1 Cell) (t:Nat) (g:List Bool→Option Int):Prop where
 ok:∃ c,fR hp t=some c∧c.fL=32∧oc hp c.cQ∧ ∀ a5,cont hp c.cQ a5=g a5
def Own (hp:a1 Cell) (t q:Nat):Prop:=q=t∨ ∃ c a5,fR hp t=some c∧c4 hp c.cQ a5=some q
def dC (v:an) (n:Nat):List Bool:=(List.range n).map fun i=>bA v (31 - i)
theorem AJ (v:an) (n:Nat):dC v (n+1)=dC v n++[bA v (31 - n)]:=by simp [dC,List.range_succ]
theorem AK (v:an):dC v 0= []:=rfl
theorem Nw {hp:a1 Cell} {t:Nat} {c:fK} (al:fR hp t=some c) (hb:c.fL=32) {n:Nat} (aR:n≤32) {v:an} (a2:∀ j,j<128→bA v j=true→lead 32 n j=true):
 xG hp (some t) v n=some true:=by
 refine bl.get ?_
 unfold xG
 have ay:(Option.isSome (some t)&&decide ((n:Int)≥0))=true:=by simp
 have aO:decide ((n:Int)≤c.fL)=true:=by rw [hb]; simp; omega
 refine .c0 (P:=fun r=>r=t) (fun _=>⟨t,rfl,rfl⟩) fun cG aa=>?_
 rw [aa ay]
 refine .c0 (P:=fun r=>r=c) (fun _=>⟨c,al,rfl⟩) fun bY ad=>?_
 rw [ad ay]
 rw [ay,aO]
 refine .c0 (P:=fun r=>r=t) (fun _=>⟨t,rfl,rfl⟩) fun cv aF=>?_
 rw [aF rfl]
 refine .c0 (P:=fun r=>r=c) (fun _=>⟨c,al,rfl⟩) fun cN aX=>?_
 rw [aX rfl,hb]
 refine .c0 (fun _=>Eo 32 n (by decide) (by decide)) fun aD a0=>?_
 refine .c0 (P:=fun r=>r=uQ v aD) (fun _=>⟨_,and_eq v aD,rfl⟩) fun aK bn=>?_
 refine .eq rfl (.ret ?_)
 have:aK=v:=by
  rw [bn rfl]
  refine sN fun j aE=>?_
  rw [pC,a0 rfl j aE]
  cases e:bA v j with
  | false=>rfl
  | true=>rw [a2 j aE e]; rfl
 rw [this]; simp
theorem Pv {v:an} {i:Nat} (ak:i<32):bl (sr v (bs ((bs ((32:Int) - 1)) - (i:Int)))) (fun r=>r=bA v (31 - i)):=by
 have e:bs ((bs ((32:Int) - 1)) - (i:Int))=((31 - i:Nat):Int):=by
  rw [show bs ((32:Int) - 1)=31 from by rw [hC (by decide) (by decide)]; rfl,hC (by omega) (by omega)]; omega
 rw [e]
 refine(IW v _).mono fun r aQ=>?_
 rw [aQ]
 have:decide (0≤ ((31 - i:Nat):Int)∧ ((31 - i:Nat):Int)<128)=true:=by rw [decide_eq_true_eq]; omega
 rw [this,Bool.true_and]; rfl
theorem Pw (b:Bool):(cond b (some (1:Int)) (some 0))=some ((fE b:Nat):Int):=by cases b <;> rfl
theorem JF {σ ε:Type} {hp:a1 Cell} {t:Nat} {c:fK} (al:fR hp t=some c) (hb:c.fL=32) (v:an) {n:Nat} (aR:n≤32) {step:Int→σ→Option (σ ⊕ ε)} {cw:σ} {P:σ ⊕ ε→Prop} (fS:Nat→σ→Prop) (bT:fS 0 cw)
 (hs:∀ i s,i<n→fS i s→bl (step ((fE (bA v (31 - i)):Nat):Int) s) (fun r=>match r with | .inl cl=>fS (i+1) cl | .inr e=>P (.inr e))) (he:∀ s,fS n s→P (.inl s)):bl (p8 hp n v (some t) step cw) P:=by
 unfold p8
 refine bl.loop n (fun i s=>s.1=(i:Int)∧fS i s.2) (by omega) ⟨rfl,bT⟩ (fun i s ak fl=>?_) (fun s fl=>?_)
 ·obtain⟨j,s⟩:=s; obtain⟨ay,aO⟩:=fl
  simp only at ay aO; subst ay
  refine bl.cond (fun _=>?_) (fun h=>by simp at h; omega)
  refine .eq rfl (.eq al ?_)
  rw [hb]
  refine(Pv (by omega)).bind fun aD aa=>.eq (Pw aD) ?_
  rw [aa]
  refine(hs i s ak aO).bind fun r aQ=>?_
  cases r with
  | inl cl=>exact .ret ⟨eT (by omega),aQ⟩
  | inr e=>exact .ret (.ret aQ)
 obtain⟨j,s⟩:=s; obtain⟨ay,aO⟩:=fl
 simp only at ay aO; subst ay
 refine⟨_,by simp; rfl,?_⟩
 exact .ret (he s aO)
theorem aad {σ ε:Type} {t:Nat} (v:an) {n:Nat} (aR:n≤32) {hq:σ→a1 Cell} {step:Int→σ→aI (σ ⊕ ε)} {cw:σ} {P:σ ⊕ ε→Prop} (fS:Nat→σ→Prop) (bT:fS 0 cw) (ml:∀ i s,fS i s→ ∃ c,fR (hq s) t=some c∧c.fL=32)
 (hs:∀ i s,i<n→fS i s→eC (step ((fE (bA v (31 - i)):Nat):Int) s) (fun r=>match r with | .inl cl=>fS (i+1) cl | .inr e=>P (.inr e))) (he:∀ s,fS n s→P (.inl s)):eC (vm n v (some t) hq step cw) P:=by
 unfold vm
 refine .bind (P:=fun e=>match e with | .inl e=>P (.inl e.2.2) | .inr e=>P (.inr e.2.2.2.2.2.2)) (eC.loop n (fun i s=>s.1=(i:Int)∧fS i s.2) (by omega) ⟨rfl,bT⟩ (fun i s ak fl=>?_) (fun s fl=>?_)) fun e h=>?_
 ·obtain⟨j,s⟩:=s; obtain⟨ay,aO⟩:=fl
  simp only at ay aO; subst ay
  refine eC.cond (fun _=>?_) (fun h=>by simp at h; omega)
  obtain⟨c,al,hb⟩:=ml i s aO
  refine .eq rfl (.eq al ?_)
  rw [hb]
  refine .nJ (Pv (by omega)) fun aD aa=>.eq (Pw aD) ?_
  rw [aa]
  refine .bind (hs i s ak aO) fun r aQ=>?_
  cases r with
  | inl cl=>exact .ret ⟨eT (by omega),aQ⟩
  | inr e=>exact .ret aQ
 ·obtain⟨j,s⟩:=s; obtain⟨ay,aO⟩:=fl
  simp only at ay aO; subst ay
  refine eC.cond (fun h=>by simp at h) fun _=>.ret (he s aO)
 cases e with
 | inl e=>exact .ret h
 | inr e=>exact .ret h
theorem NY {hp:a1 Cell} {t:Nat} {c:fK} (al:fR hp t=some c) (hb:c.fL=32) (b1:oc hp c.cQ) {n:Nat} (aR:n≤32) {v:an} (a2:∀ j,j<128→bA v j=true→lead 32 n j=true):
 xO hp (some t) v n=some (c4 hp c.cQ (dC v n)):=by
 refine bl.get ?_
 unfold xO
 refine .eq (Nw al hb aR a2) (.cond (fun h=>by cases h) fun _=>.eq rfl (.eq al (.eq rfl ?_)))
 show bl (Option.bind (p8 hp (n:Int) v (some t) _ _) _) _
 refine bl.bind (P:=fun e:Ref ⊕ (Ref×Ref)=>e.elim (fun s=>s=c4 hp c.cQ (dC v n)) (fun q=>q.2=c4 hp c.cQ (dC v n))) (JF al hb v aR (fun i s=>s=c4 hp c.cQ (dC v i)) mu.symm (fun i s ak hs=>?_) (fun s hs=>hs)) fun e he=>?_
 ·refine .cond (fun h=>.ret ?_) fun h=>?_
  ·rw [Option.isNone_iff_eq_none] at h
   have ay:dC v n=dC v i++(dC v n).drop i:=by
    have:dC v i=(dC v n).take i:=by unfold dC; rw [← List.map_take,List.take_range]; congr 2; omega
    rw [this,List.take_append_drop]
   show(none:Ref)=_
   rw [ay,lZ,← hs,h,gO]
  cases s with
  | none=>simp at h
  | some p=>
    obtain⟨bY,aa⟩:=b1.reads _ _ hs.symm
    refine .eq rfl (.idx rfl (by cases bA v (31 - i) <;> decide) (.eq aa (.ret ?_)))
    show br bY.c8 _=_
    rw [AJ,lZ,← hs,hY aa,mu]
 cases e with
 | inl s=>exact .ret he
 | inr q=>exact .ret he
theorem Px {hp:a1 Cell} {t:Nat} {g:List Bool→Option Int} (h:jg hp t g) {n:Nat} (aR:n≤32) {v:an} (a2:∀ j,j<128→bA v j=true→lead 32 n j=true):
 vr hp (some t) v n=some (match g (dC v n) with | none=>(0,false) | some id=>(id,true)):=by
 obtain⟨c,al,hb,b1,bQ⟩:=h.ok
 refine bl.get ?_
 unfold vr
 refine .eq (NY al hb b1 aR a2) ?_
 rw [← bQ]
 cases e:c4 hp c.cQ (dC v n) with
 | none=>
   rw [kv e]
   refine .c0 (P:=fun _=>True) (fun h=>by cases h) fun o _=>.c0 (P:=fun _=>True) (fun h=>by cases h) fun o _=>.cond (fun _=>.ret rfl) fun h=>by cases h
 | some p=>
   obtain⟨d,hd⟩:=b1.reads _ _ e
   rw [kd e hd]
   refine .c0 (P:=fun r=>r=p) (fun _=>⟨p,rfl,rfl⟩) fun o aa=>?_
   rw [aa rfl]
   refine .c0 (P:=fun r=>r=d) (fun _=>⟨d,hd,rfl⟩) fun bY ad=>?_
   rw [ad rfl]
   refine .cond (fun h=>?_) fun h=>?_
   ·have:d.dP=false:=by simpa using h
    rw [this]; exact .ret rfl
   have:d.dP=true:=by simpa using h
   rw [this]; exact .eq rfl (.eq hd (.ret rfl))
structure F0 (lq hp:a1 Cell) (t:Nat) (g:List Bool→Option Int) (r:Nat):Prop where
 cell:∃ c,fR hp t=some c∧c.fL=32∧c.cQ=some r
 tree:oc hp (some r)
 cont:∀ a5,cont hp (some r) a5=g a5
 keeps:fi lq hp (Own lq t)
 own:∀ a5 q,c4 hp (some r) a5=some q→Own lq t q∨q ∉ fh lq
theorem AS {hp:a1 Cell} {a t:Nat} {k:Cell} (bp:a ∉ fh hp) (h:pat hp t=some k):a≠t:=fun e=>bp (e ▸ k7 h)
theorem NZ {hp:a1 Cell} {a:Nat} {x:dM} :cW ((a,.gk x)::hp) a=some x:=by rw [py,ue,if_pos rfl]
theorem Vs {hp:a1 Cell} {a:Nat} (bp:a ∉ fh hp):cW hp a=none:=by unfold cW; rw [WE bp]
theorem ye {hp:a1 Cell} {p:Nat} {k:Cell} {x:dM} (h:pat hp p=some k):cW (dr hp p (.gk x)) p=some x:=by rw [py,wb h]
theorem ua {hp:a1 Cell} {p q:Nat} {k:Cell} (h:p≠q):cW (dr hp p k) q=cW hp q:=vC (nX h)
theorem MT {hp:a1 Cell} {a q:Nat} {k:Cell} (h:a≠q):cW ((a,k)::hp) q=cW hp q:=vC (by rw [ue,if_neg h])
theorem N0 {hp:a1 Cell} {p:Nat} {k:Cell} {x:fK} (h:pat hp p=some k):fR (dr hp p (.j4 x)) p=some x:=by rw [ss,wb h]
theorem Eh {hp:a1 Cell} {p q:Nat} {k:Cell} (h:p≠q):fR (dr hp p k) q=fR hp q:=Ef (nX h)
theorem MU {hp:a1 Cell} {a q:Nat} {k:Cell} (h:a≠q):fR ((a,k)::hp) q=fR hp q:=Ef (by rw [ue,if_neg h])
theorem FG {hp:a1 Cell} {p t:Nat} {x:dM} {c:fK} (aa:cW hp p=some x) (ad:fR hp t=some c):p≠t:=fun e=>by
 subst e
 rw [py] at aa; rw [ss,aa] at ad; cases ad
theorem Yl {hp:a1 Cell} {t:Nat} {g:List Bool→Option Int} {c:fK} (al:fR hp t=some c) (hb:c.fL=32) (b1:oc hp c.cQ) (bQ:∀ a5,cont hp c.cQ a5=g a5):
 eC (cond c.cQ.isNone (
     aI.bind (aI.mk hp (Cell.gk (default:dM))) fun dK=>
     aI.bind (aI.of (fR dK.2 t)) fun Db=>
     aI.bind (aI.of (some (dr dK.2 t (Cell.j4 ({ Db with cQ:=(some dK.1:Ref) } :fK))))) fun uY=>
     aI.ret uY) (aI.ret hp)) (fun de=> ∃ r,F0 hp de t g r):=by
 have hj:=ss.1 al
 refine .cond (fun h=>.mk fun a bp=>?_) fun h=>?_
 ·have aQ:c.cQ=none:=by rw [Option.isNone_iff_eq_none] at h; exact h
  have RY:=AS bp hj
  have Gf:fR ((a,Cell.gk default)::hp) t=some c:=by rw [MU RY]; exact al
  refine .eq Gf (.eq rfl (.ret ⟨a,?_⟩))
  have aR:cW (dr ((a,Cell.gk default)::hp) t (.j4 { c with cQ:=some a })) a=some default:=by
   rw [ua RY.symm,NZ]
  have a7:=Nu aR
  refine⟨⟨_,N0 (ss.1 Gf),hb,rfl⟩,⟨fun a5 p aa=>?_,fun a5 cs p aa ad=>?_,fun a5 p aa=>?_⟩,fun a5=>?_,?_,fun a5 q aa=>?_⟩
  ·rw [a7] at aa
   split at aa
   ·cases aa; exact⟨_,aR⟩
   cases aa
  ·rw [a7] at aa ad
   split at aa <;> split at ad
   ·rename_i ay aO; rw [ay,aO]
   ·cases ad
   ·cases aa
   cases aa
  ·rw [a7] at aa
   split at aa
   ·rename_i e; rw [e]; exact Nat.zero_le _
   cases aa
  ·rw [← bQ,aQ,kv gO]
   by_cases e:a5= []
   ·rw [kd (by rw [a7,if_pos e]) aR]; rfl
   rw [kv (by rw [a7,if_neg e])]
  ·exact(fi.mk' bp).trans (own':=fun q=>q=t) (fi.up (own:=fun q=>q=t) rfl) fun q _ aa=>.inl aa
  rw [a7] at aa
  split at aa
  ·cases aa; exact .inr bp
  cases aa
 cases aQ:c.cQ with
 | none=>rw [aQ] at h; cases h
 | some r=>
   rw [aQ] at b1 bQ
   exact .ret ⟨r,⟨c,al,hb,aQ⟩,b1,bQ,.refl,fun a5 q aa=>.inl (.inr ⟨c,a5,al,by rw [aQ]; exact aa⟩)⟩
theorem aae {hp:a1 Cell} {t:Nat} {g:List Bool→Option Int} (h:jg hp t g) {n:Nat} (aR:n≤32) {v:an} (a2:∀ j,j<128→bA v j=true→lead 32 n j=true) (id:Int) (fq:g (dC v n)=none):
 eC (xR hp (some t) v n id) (fun r=>r.1=true∧jg r.2 t (fun a5=>if a5=dC v n then some id else g a5)∧fi hp r.2 (Own hp t)∧ ∀ q,Own r.2 t q→Own hp t q∨q ∉ fh hp):=by
 obtain⟨c,al,hb,b1,bQ⟩:=h.ok
 unfold xR
 refine .eq (Nw al hb aR a2) (.cond (fun h=>by cases h) fun _=>.eq (NY al hb b1 aR a2) ?_)
 refine .c0 (P:=fun o=>c4 hp c.cQ (dC v n)=some o) (fun aa=>?_) fun cG aa=>?_
 ·cases e:c4 hp c.cQ (dC v n) with
  | none=>rw [e] at aa; cases aa
  | some p=>exact⟨p,rfl,rfl⟩
 refine .c0 (P:=fun d=>cW hp cG=some d) (fun ad=>?_) fun bY ad=>?_
 ·obtain⟨d,hd⟩:=b1.reads _ _ (aa ad)
  exact⟨d,hd,hd⟩
 refine .cond (fun aF=>?_) fun _=>?_
 ·simp only [Bool.and_eq_true] at aF
  rw [← bQ,kd (aa aF.1) (ad aF.1),aF.2] at fq
  cases fq
 refine .eq rfl (.eq al (.bind (Yl al hb b1 bQ) fun bx cy=>?_))
 obtain⟨r,cy⟩:=cy
 obtain⟨e4,lJ,C5,ado⟩:=cy.cell
 refine .eq lJ (.eq rfl ?_)
 show eC (aI.bind (vm (n:Int) v (some t) _ _ _) _) _
 refine .bind (P:=fun e:(Ref×a1 Cell) ⊕ Empty=> ∃ p dk,e= .inl (some p,dk)∧c4 dk (some r) (dC v n)=some p∧F0 hp dk t g r) (aad v aR (fun i s=> ∃ p,s.1=some p∧c4 s.2 (some r) (dC v i)=some p∧F0 hp s.2 t g r) ⟨r,ado,mu,cy⟩ (fun i s ak=>?_) (fun i s ak hs=>?_) (fun s hs=>?_)) fun e he=>?_
 ·obtain⟨p,_,_,hm⟩:=ak
  obtain⟨d,aX,a0,_⟩:=hm.cell
  exact⟨d,aX,a0⟩
 ·obtain⟨adp,dk⟩:=s
  obtain⟨p,ay,aO,hm⟩:=hs
  simp only at ay aO hm
  subst ay
  obtain⟨d,hd⟩:=hm.tree.reads _ _ aO
  have cD:fE (bA v (31 - i))<2:=by cases bA v (31 - i) <;> decide
  refine .eq rfl (.idx rfl cD (.eq hd ?_))
  refine .bind (P:=fun hi=> ∃ q LS,cW hi p=some LS∧br LS.c8 (fE (bA v (31 - i)))=some q∧c4 hi (some r) (dC v i)=some p∧F0 hp hi t g r) (.cond (fun bn=>.mk fun a bp=>?_) fun bn=>.ret ?_) fun hi cZ=>?_
  ·have pj:br d.c8 (fE (bA v (31 - i)))=none:=by rw [Option.isNone_iff_eq_none] at bn; exact bn
   have RZ:=AS bp (py.1 hd)
   have jJ:cW ((a,Cell.gk default)::dk) p=some d:=by rw [MT RZ]; exact hd
   refine .idx rfl cD (.eq jJ (.eq rfl (.ret ?_)))
   have gA:cW (dr ((a,Cell.gk default)::dk) p (.gk { d with c8:=c5 d.c8 (fE (bA v (31 - i))) (some a) })) a=some default:=by
    rw [ua RZ.symm,NZ]
   have dw:cW (dr ((a,Cell.gk default)::dk) p (.gk { d with c8:=c5 d.c8 (fE (bA v (31 - i))) (some a) })) p=some { d with c8:=c5 d.c8 (fE (bA v (31 - i))) (some a) } :=ye (py.1 jJ)
   obtain⟨av,aW,bB⟩:=grow (by unfold dC; simp; omega) hm.tree aO hd pj (Vs bp) dw gA fun q jN nf=>by rw [ua jN.symm,MT nf.symm]
   have Cf:Own hp t p∨p ∉ fh hp:=hm.own _ _ aO
   refine⟨a,_,dw,by rw [gp _ _ cD,if_pos rfl],by rw [aW,if_neg (fun e=>by have:=congrArg List.length e; simp at this)]; exact aO,?_,av,fun a5=>by rw [bB,hm.cont],?_,fun a5 q hq=>?_⟩
   ·obtain⟨d4,aX,a0,e5⟩:=hm.cell
    have hj:=FG hd aX
    exact⟨d4,by rw [Eh hj,MU (AS bp (ss.1 aX))]; exact aX,a0,e5⟩
   ·refine hm.keeps.trans (own':=fun q=>q=p) ((fi.mk' bp).trans (own':=fun q=>q=p) (fi.up (own:=fun q=>q=p) rfl) fun q _ fX=>fX) fun q hq fX=>?_
    subst fX
    exact Cf.resolve_right fun kI=>kI hq
   rw [aW] at hq
   split at hq
   ·cases hq; exact .inr fun fX=>bp (hm.keeps.keys _ fX)
   exact hm.own _ _ hq
  ·cases pj:br d.c8 (fE (bA v (31 - i))) with
   | none=>rw [pj] at bn; cases bn
   | some q=>exact⟨q,d,hd,pj,aO,hm⟩
  obtain⟨q,LS,e5,fX,kI,qY⟩:=cZ
  refine .idx rfl cD (.eq e5 (.ret ⟨q,fX,?_,qY⟩))
  show c4 hi (some r) (dC v (i+1))=some q
  rw [AJ,lZ,kI,hY e5,fX,mu]
 ·obtain⟨adp,dk⟩:=s
  obtain⟨p,ay,aO,hm⟩:=hs
  simp only at ay aO hm
  subst ay
  exact⟨p,dk,rfl,aO,hm⟩
 obtain⟨p,dk,rfl,aO,hm⟩:=he
 obtain⟨d,hd⟩:=hm.tree.reads _ _ aO
 have Lb:=py.1 hd
 refine .eq rfl (.eq hd (.eq rfl (.eq rfl ?_)))
 have jJ:cW (dr dk p (.gk { d with dP:=true })) p=some { d with dP:=true } :=ye Lb
 refine .eq jJ (.eq rfl (.ret ?_))
 have pW:cW (dr (dr dk p (.gk { d with dP:=true })) p (.gk { d with dP:=true,hO:=id })) p=some { d with dP:=true,hO:=id } :=ye (py.1 jJ)
 obtain⟨s1,s2⟩:=Rn hm.tree aO hd pW rfl fun q hq=>by rw [ua hq.symm,ua hq.symm]
 obtain⟨d4,aX,a0,e5⟩:=hm.cell
 have hj:=FG hd aX
 have tv:fR (dr (dr dk p (.gk { d with dP:=true })) p (.gk { d with dP:=true,hO:=id })) t=some d4:=by rw [Eh hj,Eh hj]; exact aX
 have Cf:Own hp t p∨p ∉ fh hp:=hm.own _ _ aO
 refine⟨rfl,⟨d4,tv,a0,by rw [e5]; exact s1,fun a5=>?_⟩,?_,fun q hq=>?_⟩
 ·rw [e5,s2,hm.cont]; rfl
 ·refine hm.keeps.trans (own':=fun q=>q=p) ((fi.up (own:=fun q=>q=p) rfl).trans (own':=fun q=>q=p) (fi.up (own:=fun q=>q=p) rfl) fun q _ fX=>fX) fun q hq fX=>?_
  subst fX
  exact Cf.resolve_right fun kI=>kI hq
 rcases hq with rfl | ⟨iC,a5,aa,ad⟩
 ·exact .inl (.inl rfl)
 rw [tv] at aa; cases aa
 rw [e5,A1 hd pW rfl (fun q hq=>by rw [ua hq.symm,ua hq.symm])] at ad
 exact hm.own _ _ ad
theorem le_toNat {x:BitVec 64} {k:Nat} (aw:k<2 ^ 64):decide (x≥BitVec.ofNat 64 k)=decide (k≤x.toNat):=by
 rw [decide_eq_decide,ge_iff_le,BitVec.le_def,BitVec.toNat_ofNat,Nat.mod_eq_of_lt aw]
theorem V9 (x:BitVec 64) (h:x.toNat<2 ^ 32):bl (xI x) (fun r=>r≤32):=by
 unfold xI
 refine .bind (P:=fun m=>m=(x,0)) (.cond (fun al=>?_) fun _=>.ret rfl) fun bx aa=>?_
 ·rw [le_toNat (by decide)] at al; simp at al; omega
 subst aa
 refine .bind (P:=fun m=>m.1.toNat<65536∧0≤m.2∧m.2≤16) (.cond (fun al=>.ret ⟨?_,?_⟩) fun al=>.ret ⟨?_,Int.le_refl 0,by show(0:Int)≤16; decide⟩) fun cY ad=>?_
 ·rw [BitVec.toNat_ushiftRight,show(16#64).toNat=16 from rfl,Nat.shiftRight_eq_div_pow]; simp only; omega
 ·rw [show bs ((0:Int)+16)=16 from by rw [hC (by decide) (by decide)]; rfl]; exact⟨by show(0:Int)≤16; decide,Int.le_refl 16⟩
 ·rw [le_toNat (by decide)] at al; simp at al; exact al
 refine .bind (P:=fun m=>m.1.toNat<256∧0≤m.2∧m.2≤24) (.cond (fun al=>.ret ⟨?_,?_⟩) fun al=>.ret ⟨?_,ad.2.1,by have:=ad.2.2; simp only; omega⟩) fun fA aF=>?_
 ·rw [BitVec.toNat_ushiftRight,show(8#64).toNat=8 from rfl,Nat.shiftRight_eq_div_pow]; have:=ad.1; omega
 ·have:=ad.2; rw [hC (by omega) (by omega)]; constructor <;> omega
 ·rw [le_toNat (by decide)] at al; simp at al; exact al
 obtain⟨aF,aX,a0⟩:=aF
 have key:∀ k:Fin 256,∃ y,B5 (ByteArray.mk (List.toArray (List.append (List.append [0,1,2,2,3,3,3,3,4,4,4,4,4,4,4,4,5,5,5,5,5,5,5,5,5,5,5,5,5,5,5,5,6,6,6,6,6,6,6,6,6,6,6,6,6,6,6,6,6,6,6,6,6,6,6,6,6,6,6,6,6,6,6,6] [7,7,7,7,7,7,7,7,7,7,7,7,7,7,7,7,7,7,7,7,7,7,7,7,7,7,7,7,7,7,7,7,7,7,7,7,7,7,7,7,7,7,7,7,7,7,7,7,7,7,7,7,7,7,7,7,7,7,7,7,7,7,7,7]) (List.append [8,8,8,8,8,8,8,8,8,8,8,8,8,8,8,8,8,8,8,8,8,8,8,8,8,8,8,8,8,8,8,8,8,8,8,8,8,8,8,8,8,8,8,8,8,8,8,8,8,8,8,8,8,8,8,8,8,8,8,8,8,8,8,8] [8,8,8,8,8,8,8,8,8,8,8,8,8,8,8,8,8,8,8,8,8,8,8,8,8,8,8,8,8,8,8,8,8,8,8,8,8,8,8,8,8,8,8,8,8,8,8,8,8,8,8,8,8,8,8,8,8,8,8,8,8,8,8,8])))) ((k.1:Nat):Int)=some y∧y.toNat≤8:=by
  intro k
  have aa:(match B5 (ByteArray.mk (List.toArray (List.append (List.append [0,1,2,2,3,3,3,3,4,4,4,4,4,4,4,4,5,5,5,5,5,5,5,5,5,5,5,5,5,5,5,5,6,6,6,6,6,6,6,6,6,6,6,6,6,6,6,6,6,6,6,6,6,6,6,6,6,6,6,6,6,6,6,6] [7,7,7,7,7,7,7,7,7,7,7,7,7,7,7,7,7,7,7,7,7,7,7,7,7,7,7,7,7,7,7,7,7,7,7,7,7,7,7,7,7,7,7,7,7,7,7,7,7,7,7,7,7,7,7,7,7,7,7,7,7,7,7,7]) (List.append [8,8,8,8,8,8,8,8,8,8,8,8,8,8,8,8,8,8,8,8,8,8,8,8,8,8,8,8,8,8,8,8,8,8,8,8,8,8,8,8,8,8,8,8,8,8,8,8,8,8,8,8,8,8,8,8,8,8,8,8,8,8,8,8] [8,8,8,8,8,8,8,8,8,8,8,8,8,8,8,8,8,8,8,8,8,8,8,8,8,8,8,8,8,8,8,8,8,8,8,8,8,8,8,8,8,8,8,8,8,8,8,8,8,8,8,8,8,8,8,8,8,8,8,8,8,8,8,8])))) ((k.1:Nat):Int) with | some y=>decide (y.toNat≤8) | none=>false)=true:=by
   revert k; decide +kernel
  split at aa
  ·rename_i y e; exact⟨y,e,by simpa using aa⟩
  cases aa
 obtain⟨y,ay,aO⟩:=key ⟨(fA.1.setWidth 8).toNat,(fA.1.setWidth 8).isLt⟩
 refine .eq ay (.ret ?_)
 rw [hC (by omega) (by omega)]; omega
def Small (v:an):Prop:= ∀ j,j<128→bA v j=true→j<32
theorem XA {v:an} (h:Small v):Au v 32=some true:=by
 refine bl.get ?_
 have dD:v.dv=0#64:=by
  apply BitVec.eq_of_getLsbD_eq
  intro i ak
  have aa:=h (64+i) (by omega)
  unfold bA at aa
  rw [if_neg (by omega),show 64+i - 64=i by omega] at aa
  rw [BitVec.getLsbD_zero]
  cases e:v.dv.getLsbD i with
  | false=>rfl
  | true=>have:=aa e; omega
 have fW:v.b2.toNat<2 ^ 32:=by
  refine Nat.lt_pow_two_of_testBit _ fun i ak=>?_
  cases e:v.b2.toNat.testBit i with
  | false=>rfl
  | true=>
    have cD:i<64:=by
     rcases Nat.lt_or_ge i 64 with aa | aa
     ·exact aa
     rw [Nat.testBit_lt_two_pow (Nat.lt_of_lt_of_le v.b2.isLt (Nat.pow_le_pow_right (by decide) aa))] at e; cases e
    have:=h i (by omega) (by unfold bA; rw [if_pos cD,BitVec.getLsbD,e])
    omega
 unfold Au Ee
 rw [dD]
 refine .bind (P:=fun r=>r≤32) (.cond (fun al=>by simp at al) fun _=>(V9 _ fW).bind fun y a6=>.ret a6) fun y a6=>.ret ?_
 rw [decide_eq_true a6]
def jY (g:List Bool→Option Int) (v:an):Nat→Option (Nat×Int)
 | 0=>(g []).map fun id=>(0,id)
 | k+1=>match g (dC v (k+1)) with
   | some id=>some (k+1,id)
   | none=>jY g v k
def enc:Option (Nat×Int)→Int×Int×Bool
 | none=>(0,0,false)
 | some (n,id)=>((n:Int),id,true)
theorem N1 {hp:a1 Cell} {root:Ref} (b1:oc hp root) (a5:List Bool) (d:Nat) (o:Option (Nat×Int)):
 vl hp (c4 hp root a5) d (enc o).1 (enc o).2.1 (enc o).2.2=some (enc (match cont hp root a5 with | some id=>some (d,id) | none=>o)):=by
 refine bl.get ?_
 unfold vl
 cases e:c4 hp root a5 with
 | none=>
   rw [kv e]
   refine .c0 (P:=fun _=>True) (fun h=>by cases h) fun o _=>.c0 (P:=fun _=>True) (fun h=>by cases h) fun o _=>.eq rfl (.ret rfl)
 | some p=>
   obtain⟨c,al⟩:=b1.reads _ _ e
   rw [kd e al]
   refine .c0 (P:=fun r=>r=p) (fun _=>⟨p,rfl,rfl⟩) fun cG aa=>?_
   rw [aa rfl]
   refine .c0 (P:=fun r=>r=c) (fun _=>⟨c,al,rfl⟩) fun bY ad=>?_
   rw [ad rfl]
   cases hu:c.dP with
   | true=>exact .eq (a:=((d:Int),c.hO,true)) (by simp [al]) (.ret rfl)
   | false=>exact .eq rfl (.ret rfl)
theorem Vt {hp:a1 Cell} {t:Nat} {g:List Bool→Option Int} (h:jg hp t g) {v:an} (a2:Small v):zV hp (some t) v=some (enc (jY g v 32)):=by
 obtain⟨c,al,hb,b1,bQ⟩:=h.ok
 refine bl.get ?_
 unfold zV
 refine .c0 (P:=fun r=>r=t) (fun _=>⟨t,rfl,rfl⟩) fun cG aa=>?_
 rw [aa rfl]
 refine .c0 (P:=fun r=>r=c) (fun _=>⟨c,al,rfl⟩) fun bY ad=>?_
 rw [ad rfl,hb]
 refine .c0 (P:=fun r=>r=true) (fun _=>⟨true,XA a2,rfl⟩) fun aD aF=>?_
 rw [aF rfl]
 refine .cond (fun al=>by cases al) fun _=>.eq rfl (.eq al ?_)
 have v0:vl hp c.cQ 0 0 0 false=some (enc (jY g v 0)):=by
  have:=N1 b1 [] 0 none
  rw [mu,bQ] at this
  refine this.trans ?_
  unfold jY
  cases g [] <;> rfl
 rw [hb]
 refine .eq v0 (.eq rfl ?_)
 show bl (Option.bind (p8 hp ((32:Nat):Int) v (some t) _ _) _) _
 refine bl.bind (P:=fun e:(Ref×Int×Int×Int×Bool) ⊕ (Ref×Int×Int×Int×Bool)=>e.elim (fun s=>s.2.2=enc (jY g v 32)) (fun q=>q.2.2=enc (jY g v 32)))
  (JF al hb v (Nat.le_refl 32) (fun i s=>s=(c4 hp c.cQ (dC v i),(i:Int),enc (jY g v i))) (by rw [AK,mu]; rfl) (fun i s ak hs=>?_) (fun s hs=>by rw [hs]; rfl)) fun e he=>?_
 ·subst hs
  refine .cond (fun h=>.ret ?_) fun h=>?_
  ·have aR:c4 hp c.cQ (dC v i)=none:=by
    simp only [Option.isNone_iff_eq_none] at h; exact h
   have key:∀ k,jY g v (i+k)=jY g v i:=fun k=>by
    induction k with
    | zero=>rfl
    | succ k bR=>
      have ay:dC v (i+k+1)=dC v i++(dC v (i+k+1)).drop i:=by
       have:dC v i=(dC v (i+k+1)).take i:=by unfold dC; rw [← List.map_take,List.take_range]; congr 2; omega
       rw [this,List.take_append_drop]
      have:g (dC v (i+k+1))=none:=by
       rw [← bQ,kv]
       rw [ay,lZ,aR,gO]
      show(match g (dC v (i+k+1)) with | some id=>some (i+k+1,id) | none=>jY g v (i+k))=_
      rw [this]; exact bR
   show enc (jY g v i)=enc (jY g v 32)
   have:=key (32 - i)
   rw [show i+(32 - i)=32 by omega] at this
   rw [this]
  cases e:c4 hp c.cQ (dC v i) with
  | none=>simp [e] at h
  | some p=>
    obtain⟨d,hd⟩:=b1.reads _ _ e
    refine .eq rfl (.idx rfl (by cases bA v (31 - i) <;> decide) (.eq hd ?_))
    have pj:br d.c8 (fE (bA v (31 - i)))=c4 hp c.cQ (dC v (i+1)):=by rw [AJ,lZ,e,hY hd,mu]
    have hw:bs ((i:Int)+1)=((i+1:Nat):Int):=eT (by omega)
    simp only [pj,hw]
    refine .eq (N1 b1 (dC v (i+1)) (i+1) (jY g v i)) (.ret ?_)
    rw [bQ]
    rfl
 cases e with
 | inl s=>exact .ret he
 | inr q=>exact .ret he
theorem db.GG {s:a3} (h:db s):∃ eo fb ij,∀ k,k<4→om (az s.bt k)=az (ta eo fb ij) k:=by
 obtain⟨eo,fb,ij,e⟩:=h.tables
 refine⟨eo,fb,ij,fun k aw=>?_⟩
 rw [← e,yd om (by rw [h.lj]; exact aw)]
theorem vJ (t:bX) {r:Int×Int} (aV:List cR) (aw:t.bN=aV) (h:xT { (default:bX) with bN:=aV } =some r):xT t=some r:=by
 subst aw
 exact h
def oL (k:Nat):Int:=az [1,2,3,3] k
theorem Wa {s:a3} (h:db s) {k:Nat} (aw:k<4):bl (xT (az s.bt k)) (fun r=>r.1=oL k∧ (k=1→r.2=0)):=by
 obtain⟨eo,fb,ij,e⟩:=h.GG
 have e:=e k aw
 have hQ:(az s.bt k).bN=(az (ta eo fb ij) k).2.2:=congrArg (·.2.2) e
 have:k=0∨k=1∨k=2∨k=3:=by omega
 rcases this with rfl | rfl | rfl | rfl
 ·exact⟨_,vJ _ [p6] hQ rfl,rfl,fun h=>by simp at h⟩
 ·cases eo
  ·exact⟨_,vJ _ [xl] hQ rfl,rfl,fun _=>rfl⟩
  exact⟨_,vJ _ [xl,GR] hQ rfl,rfl,fun _=>rfl⟩
 ·cases fb
  ·exact⟨_,vJ _ [Dn,CZ] hQ rfl,rfl,fun h=>by simp at h⟩
  exact⟨_,vJ _ [Dn,CZ,LP] hQ rfl,rfl,fun h=>by simp at h⟩
 cases ij
 ·exact⟨_,vJ _ [Dp] hQ rfl,rfl,fun h=>by simp at h⟩
 exact⟨_,vJ _ [Dp,LQ,xl] hQ rfl,rfl,fun h=>by simp at h⟩
structure yV (s:a3) (k:Nat) (lq hp:a1 Cell) (p:Nat):Prop where
 cell:∃ c m,iY hp p=some c∧c.sK=oL k∧c.pD=((az s.bt k).bN.length:Int)∧c.ly=⟨some m⟩∧m3 hp m=some []∧
  (k=0→ ∃ q cY,c.iW= .mA ⟨some q⟩∧m2 hp q=some ⟨⟨some cY⟩⟩∧l4 hp cY=some []∧q ∉ fh lq∧cY ∉ fh lq)∧
  (k=1→ ∃ fA,c.iW= .mB ⟨0,32,⟨some fA⟩⟩∧j3 hp fA=some []∧fA ∉ fh lq)∧
  (2≤k→ ∃ q key cap,c.iW= .mC ⟨some q⟩∧oi hp q=some (({ oQ:=s,ch:= [] } :cL),key,cap)∧q ∉ fh lq)∧
  p ∉ fh lq∧m ∉ fh lq∧ (∀ q,q∈fh lq→q∈fh hp)∧ ∀ q,q∈fh lq→pat hp q=pat lq q
theorem aaf {s:a3} (h:db s) {k:Nat} (aw:k<4) (hp:a1 Cell):eC (x7 hp s ((k:Int)+1)) (fun r=> ∃ p,r.1=some p∧yV s k hp r.2 p):=by
 unfold x7
 refine .nJ (AD h aw) fun aD ay=>?_
 subst ay
 refine .cond (fun al=>by simp at al; omega) fun _=>?_
 refine .idx rfl (by rw [h.lj]; exact aw) (.nJ (Wa h aw) fun aK ad=>.mk fun m hm=>.eq rfl (.mk fun p de=>?_))
 obtain⟨ad3,key⟩:=aK
 obtain⟨ad,aF⟩:=ad
 simp only at ad aF de
 subst ad
 have mf:p≠m:=fun e=>by subst e; simp [fh] at de
 have:k=0∨k=1∨2≤k:=by omega
 rcases this with rfl | rfl | c6
 ·have e:(oL 0==1)=true:=rfl
  simp only [e,cond_true]
  unfold D9
  refine .bind (P:=fun dk=>yV s 0 hp dk p) (.bind (P:=fun r=> ∃ q cY,r=((some q:Ref),(q,Cell.yJ ⟨⟨some cY⟩⟩)::(cY,Cell.ot [])::(p,_)::(m,Cell.kC [])::hp)∧cY ∉ fh ((p,_)::(m,Cell.kC [])::hp)∧q ∉ fh ((cY,Cell.ot [])::(p,_)::(m,Cell.kC [])::hp)) (.mk fun cY eg=>.mk fun q hq=>.ret ⟨q,cY,rfl,eg,hq⟩) fun bb aX=>?_) fun dk a0=>.ret ⟨p,rfl,a0⟩
  obtain⟨q,cY,rfl,eg,hq⟩:=aX
  simp only [fh,List.map_cons,List.mem_cons,not_or] at eg hq de
  refine .eq (by simp [iY,pat,hq.1,hq.2,eg.1,hq.2.2.1,Ne.symm]; rfl) (.eq rfl (.ret ?_))
  refine⟨{ sK:=oL 0,pD:=((az s.bt 0).bN.length:Int),iW:= .mA ⟨some q⟩,ly:=⟨some m⟩ },m,?_,rfl,rfl,rfl,?_,?_,fun al=>by simp at al,fun al=>by simp at al,de.2,hm,fun x aq=>by rw [vS]; exact List.mem_cons_of_mem _ (List.mem_cons_of_mem _ (List.mem_cons_of_mem _ (List.mem_cons_of_mem _ aq))),fun x aq=>?_⟩
  ·simp [iY,pat,dr,hq.1,hq.2,eg.1,hq.2.2.1]
  ·simp [m3,pat,dr,hq.1,hq.2,eg.1,hq.2.2.1,eg.2.1,de.1]
  ·intro _
   refine⟨q,cY,rfl,?_,?_,hq.2.2.2,eg.2.2⟩
   ·simp [m2,pat,dr,hq.1,hq.2,eg.1,hq.2.2.1,eg.2.1,de.1]
   simp [l4,pat,dr,hq.1,hq.2,eg.1,hq.2.2.1,eg.2.1,de.1]
  have xo:q≠x:=fun e=>hq.2.2.2 (by rw [e]; exact aq)
  have LU:cY≠x:=fun e=>eg.2.2 (by rw [e]; exact aq)
  have Dq:p≠x:=fun e=>de.2 (by rw [e]; exact aq)
  have Dr:m≠x:=fun e=>hm (by rw [e]; exact aq)
  simp [Bb,pat,xo,LU,Dq,Dr]
 ·have e:(oL 1==1)=false:=rfl
  have aO:(oL 1==2)=true:=rfl
  simp only [e,aO,cond_true,cond_false]
  have aF:=aF rfl
  subst aF
  obtain⟨t1,⟨t2,t3⟩,t4,_⟩:=h.iJ aw
  have a7:(az (az s.bt 1).bN 0).g3=((6:Nat):Int)+1:=by
   obtain⟨eo,fb,ij,e⟩:=h.GG
   have e:=congrArg (·.2.2) (e 1 aw)
   show(az (om (az s.bt 1)).2.2 0).g3=_
   rw [e]
   cases eo <;> rfl
  refine .bind (P:=fun dk=>yV s 1 hp dk p) (.bind (P:=fun dk=>yV s 1 hp dk p) ?_ fun _ bn=>.ret bn) fun dk a0=>.ret ⟨p,rfl,a0⟩
  refine .idx (k:=0) rfl (by omega) ?_
  simp only [a7]
  refine .nJ (Eg h (show 6<9 by decide)) fun bJ di=>?_
  subst di
  refine .nJ (P:=fun r=>r=32) (.cond (fun _=>.idx rfl (by rw [h.pS]; decide) (.ret (h.qZ (show 6<9 by decide)).2)) (fun al=>by simp at al)) fun b hb=>?_
  subst hb
  refine .mk fun fA g6=>?_
  simp only [fh,List.map_cons,List.mem_cons,not_or] at g6 de
  refine .eq rfl (.eq (by simp [iY,pat,g6.1]; rfl) (.eq rfl (.ret ?_)))
  refine⟨{ sK:=oL 1,pD:=((az s.bt 1).bN.length:Int),iW:= .mB ⟨0,32,⟨some fA⟩⟩,ly:=⟨some m⟩ },m,?_,rfl,rfl,rfl,?_,fun al=>by simp at al,?_,fun al=>by simp at al,de.2,hm,fun x aq=>by rw [vS]; exact List.mem_cons_of_mem _ (List.mem_cons_of_mem _ (List.mem_cons_of_mem _ aq)),fun x aq=>?_⟩
  ·simp [iY,pat,dr,g6.1]
  ·simp [m3,pat,dr,g6.1,g6.2.1,de.1]
  ·intro _
   refine⟨fA,rfl,?_,g6.2.2⟩
   simp [j3,pat,dr,g6.1,g6.2.1,de.1]
  have xo:fA≠x:=fun e=>g6.2.2 (by rw [e]; exact aq)
  have Dq:p≠x:=fun e=>de.2 (by rw [e]; exact aq)
  have Dr:m≠x:=fun e=>hm (by rw [e]; exact aq)
  simp [Bb,pat,xo,Dq,Dr]
 have e:(oL k==1)=false:=by
  have:k=2∨k=3:=by omega
  rcases this with rfl | rfl <;> rfl
 have aO:(oL k==2)=false:=by
  have:k=2∨k=3:=by omega
  rcases this with rfl | rfl <;> rfl
 simp only [e,aO,cond_true,cond_false]
 refine .bind (P:=fun dk=>yV s k hp dk p) (.bind (P:=fun dk=>yV s k hp dk p) ?_ fun _ bn=>.ret bn) fun dk a0=>.ret ⟨p,rfl,a0⟩
 refine .eq rfl (.any fun et=>.mk fun q hq=>?_)
 simp only [fh,List.map_cons,List.mem_cons,not_or] at hq de
 refine .eq (by simp [iY,pat,hq.1]; rfl) (.eq rfl (.ret ?_))
 refine⟨{ sK:=oL k,pD:=((az s.bt k).bN.length:Int),iW:= .mC ⟨some q⟩,ly:=⟨some m⟩ },m,?_,rfl,rfl,rfl,?_,fun al=>by omega,fun al=>by omega,fun _=>⟨q,et.1,et.2,rfl,?_,hq.2.2⟩,de.2,hm,fun x aq=>by rw [vS]; exact List.mem_cons_of_mem _ (List.mem_cons_of_mem _ (List.mem_cons_of_mem _ aq)),fun x aq=>?_⟩
 ·simp [iY,pat,dr,hq.1]
 ·simp [m3,pat,dr,hq.1,hq.2.1,de.1]
 ·simp [oi,pat,dr,hq.1]
 have xo:q≠x:=fun e=>hq.2.2 (by rw [e]; exact aq)
 have Dq:p≠x:=fun e=>de.2 (by rw [e]; exact aq)
 have Dr:m≠x:=fun e=>hm (by rw [e]; exact aq)
 simp [Bb,pat,xo,Dq,Dr]
theorem N2 {α:Type} {b:α→α→Bool} (hb:r7 b) {q:α→Bool} :∀ {l:List α} {c:α},l.Pairwise (fun x y=>b x y=true)→c∈l→q c=true→ (∀ d∈l,q d=true→d=c∨b c d=true)→l.find? q=some c
 | [],c,_,al,_,_=>by cases al
 | a::l,c,hs,al,hq,hd=>by
   obtain⟨aa,ad⟩:=List.pairwise_cons.1 hs
   by_cases mP:q a=true
   ·rw [List.find?_cons_of_pos mP]
    rcases hd a (by simp) mP with h | h
    ·rw [h]
    rcases List.mem_cons.1 al with aF | aF
    ·rw [aF]
    have:=hb.asymm _ _ (aa c aF)
    rw [this] at h; cases h
   rw [List.find?_cons_of_neg mP]
   rcases List.mem_cons.1 al with aF | aF
   ·rw [aF] at hq; exact absurd hq mP
   exact N2 hb ad aF hq fun d hd' Lc=>hd d (by simp [hd']) Lc
theorem E0 {α:Type} {b:α→α→Bool} (hb:r7 b) {q:α→Bool} {l:List α} {c:α} (h:uT b l) (al:c∈l) (hq:q c=true) (hd:∀ d∈l,q d=true→d=c∨b c d=true):(e9 b l).find? q=some c:=
 N2 hb (Ez hb h) (pF.2 al) hq fun d hd'=>hd d (pF.1 hd')
theorem Iw {α:Type} {b:α→α→Bool} {q:α→Bool} {l:List α} (hd:∀ d∈l,q d=false):(e9 b l).find? q=none:=by
 rw [List.find?_eq_none]
 intro x aq
 rw [hd x (pF.1 aq)]; simp
theorem iV.uniq {s:a3} {k:Nat} :∀ {l:List aJ},iV s k l→ ∀ {a c:aJ},a∈l→c∈l→a.cH=c.cH→a=c:=fun {l} h {a c} bp al e=>by
 have aR:=h.num
 clear h
 induction l with
 | nil=>cases bp
 | cons x l bR=>
   obtain⟨aa,ad⟩:=List.pairwise_cons.1 aR
   rcases List.mem_cons.1 bp with av | av <;> rcases List.mem_cons.1 al with aW | aW
   ·rw [av,aW]
   ·rw [av] at e; exact absurd e (aa c aW)
   ·rw [aW] at e; exact absurd e.symm (aa a av)
   exact bR av aW ad
theorem db.QL {s:a3} (h:db s):(az s.bt 0).bN= [p6]:=by
 obtain⟨eo,fb,ij,e⟩:=h.GG
 exact congrArg (·.2.2) (e 0 (by decide))
theorem db.BQ {s:a3} (h:db s):∃ b,(az s.bt 1).bN=m8 b:=by
 obtain⟨eo,fb,ij,e⟩:=h.GG
 exact⟨eo,congrArg (·.2.2) (e 1 (by decide))⟩
def h3 (s:a3) (k:Nat):Nat:=(az s.bt k).bN.length
theorem OI {α:Type} [Inhabited α] {n:Nat} {f:Fin n→α} {j:Nat} (h:j<n):br (Vector.ofFn f) j=f ⟨j,h⟩:=by unfold br; simp [h]
def e7 (e:bC):Vector an 4:=Vector.ofFn fun i=>if i.1<e.b4.length then(az e.b4 i.1).bS else default
def k5 (n:Nat) (p:Vector an 4):Vector an 4:=Vector.ofFn fun i=>if i.1<n then br p i.1 else default
def gC (p:Vector an 4):Vector an 4:=c5 p 0 default
theorem lX {e:bC} {j:Nat} (h:j<4):br (e7 e) j=if j<e.b4.length then(az e.b4 j).bS else default:=OI h
theorem nv {n:Nat} {p:Vector an 4} {j:Nat} (h:j<4):br (k5 n p) j=if j<n then br p j else default:=OI h
theorem E1 {p:Vector an 4} {j:Nat} :br (gC p) j=if j=0 then default else br p j:=by unfold gC; rw [gp _ _ (by decide)]
theorem Cg {v w:Vector an 4} :v=w↔br v 0=br w 0∧br v 1=br w 1∧br v 2=br w 2∧br v 3=br w 3:=by
 refine⟨fun h=>by rw [h]; exact⟨rfl,rfl,rfl,rfl⟩,fun⟨bT,aa,ad,aF⟩=>EG fun j aE=>?_⟩
 rcases (show j=0∨j=1∨j=2∨j=3 by omega) with rfl | rfl | rfl | rfl <;> assumption
theorem Ix {s:a3} (h:db s) {e:bC} (he:ia s 0 e) (p:Vector an 4):mt s 0 p e=true↔k5 (h3 s 0) p=e7 e:=by
 have ao:=he.len
 have hm:=he.q0 0
 unfold mt h3
 rw [h.QL] at ao hm ⊢
 have hm:=(hm (by decide)).C3 rfl
 have hm:(az e.b4 0).g1=true:=hm
 have ay:e.b4.length=1:=ao
 have kJ:((List.range [p6].length).all fun i=>jO (az [p6] i).cS (gh (az [p6] i)) (az e.b4 i) (br p i))=decide (br p 0=(az e.b4 0).bS):=by
  show(jO 1 (gh p6) (az e.b4 0) (br p 0)&&true)=_
  unfold jO
  rw [hm]; simp
 rw [kJ,decide_eq_true_eq,Cg]
 simp only [nv (show 0<4 by decide),nv (show 1<4 by decide),nv (show 2<4 by decide),nv (show 3<4 by decide),lX (show 0<4 by decide),lX (show 1<4 by decide),lX (show 2<4 by decide),lX (show 3<4 by decide),ay]
 simp
theorem aag {s:a3} (h:db s) {l:List aJ} (ao:iV s 0 l) (p:Vector an 4) {o:Option Int} (bm:∀ n,o=some n↔ ∃ i∈l,e7 i.bK=k5 (h3 s 0) p∧i.cH=n):
 (∀ n,o=some n→ ∃ i∈l,i.cH=n∧ (e9 (eS s 0) l).find? (fun c=>mt s 0 p c.bK)=some i)∧ (o=none→ (e9 (eS s 0) l).find? (fun c=>mt s 0 p c.bK)=none):=by
 constructor
 rotate_left
 ·intro aR
  subst aR
  refine Iw fun d hd=>?_
  rw [Bool.eq_false_iff]
  intro hm
  have:=(bm d.cH).2 ⟨d,hd,((Ix h (ao.ok d hd).eV p).1 hm).symm,rfl⟩
  cases this
 intro n aR
 subst aR
 obtain⟨i,ak,aa,ad⟩:=(bm n).1 rfl
 refine⟨i,ak,ad,E0 (pG s 0) ao.xe ak ((Ix h (ao.ok i ak).eV p).2 aa.symm) fun d hd hm=>.inl ?_⟩
 have aF:=(bm d.cH).2 ⟨d,hd,((Ix h (ao.ok d hd).eV p).1 hm).symm,rfl⟩
 have aF:n=d.cH:=by simpa using aF
 exact ao.uniq hd ak (by rw [ad,aF])
theorem WO {v w:an} {n m:Nat} :dC v n=dC w m↔n=m∧ ∀ i,i<n→bA v (31 - i)=bA w (31 - i):=by
 unfold dC
 constructor
 ·intro h
  have ao:=congrArg List.length h
  simp only [List.length_map,List.length_range] at ao
  subst ao
  refine⟨rfl,fun i ak=>?_⟩
  have:=congrArg (·[i]?) h
  simpa [ak] using this
 rintro ⟨rfl,h⟩
 exact List.map_congr_left fun i ak=>h i (List.mem_range.1 ak)
def jP (e:bC):List Bool:=dC (az e.b4 0).bS (az e.b4 0).fp.toNat
theorem uU {s:a3} (h:db s) {e:bC} (he:ia s 1 e):oo 2 32 (az e.b4 0):=by
 have hm:=he.q0 0
 obtain⟨b,hb⟩:=h.BQ
 rw [hb] at hm
 cases b
 ·exact hm (by decide)
 exact hm (by decide)
theorem yu {k:Int} (bT:0≤k) (aa:k≤32) {j:Nat} :lead 32 k j=true↔32 - k≤ (j:Int)∧j<32:=by
 unfold lead; rw [Bool.and_eq_true,decide_eq_true_eq,decide_eq_true_eq]; omega
theorem Iy {m:cA} (hm:oo 2 32 m) {v:an} {n:Nat} (aR:n≤32):dC m.bS m.fp.toNat=dC v n↔m.fp=n∧ ∀ j,j<128→lead 32 m.fp j=true→bA v j=bA m.bS j:=by
 have hp:=hm.pre
 rw [WO]
 constructor
 ·rintro ⟨aa,ad⟩
  refine⟨by omega,fun j aE ao=>?_⟩
  rw [yu hp.1 hp.2] at ao
  have:=ad (31 - j) (by omega)
  rw [show 31 - (31 - j)=j by omega] at this
  exact this.symm
 rintro ⟨aa,ad⟩
 refine⟨by omega,fun i ak=>?_⟩
 exact(ad (31 - i) (by omega) ((yu hp.1 hp.2).2 (by omega))).symm
theorem OJ {s:a3} (h:db s) {e:bC} (he:ia s 1 e) (p:Vector an 4):mt s 1 p e=true↔
 gC (k5 (h3 s 1) p)=gC (e7 e)∧ ∀ j,j<128→lead 32 (az e.b4 0).fp j=true→bA (br p 0) j=bA (az e.b4 0).bS j:=by
 have ao:=he.len
 have hm:=he.q0 1
 have g8:=uU h he
 obtain⟨b,hb⟩:=h.BQ
 unfold mt h3
 rw [hb] at ao hm ⊢
 have kJ:jO 2 32 (az e.b4 0) (br p 0)=true↔ ∀ j,j<128→lead 32 (az e.b4 0).fp j=true→bA (br p 0) j=bA (az e.b4 0).bS j:=by
  unfold jO
  by_cases hp:(az e.b4 0).g1=false
  ·rw [if_pos hp,g8.off hp]
   refine⟨fun _ j aE ao=>?_,fun _=>rfl⟩
   have:lead 32 (default:cA).fp j=true:=ao
   rw [yu (by decide) (by decide)] at this
   have bT:(default:cA).fp=0:=rfl
   rw [bT] at this; omega
  rw [if_neg hp,if_neg (by decide),if_pos rfl,List.all_eq_true]
  refine⟨fun aa j aE ao=>?_,fun aa j aE=>?_⟩
  ·have:=aa j (List.mem_range.2 aE)
   rw [ao] at this; simpa using this
  cases ao:lead 32 (az e.b4 0).fp j
  ·rfl
  simp [aa j (List.mem_range.1 aE) ao]
 cases b
 ·have ay:e.b4.length=1:=ao
  have aO:((List.range (m8 false).length).all fun i=>jO (az (m8 false) i).cS (gh (az (m8 false) i)) (az e.b4 i) (br p i))=jO 2 32 (az e.b4 0) (br p 0):=by
   show(jO 2 32 (az e.b4 0) (br p 0)&&true)=_
   rw [Bool.and_true]
  rw [aO,kJ,Cg]
  simp only [E1,nv (show 0<4 by decide),nv (show 1<4 by decide),nv (show 2<4 by decide),nv (show 3<4 by decide),lX (show 0<4 by decide),lX (show 1<4 by decide),lX (show 2<4 by decide),lX (show 3<4 by decide),ay]
  simp [m8]
 have ay:e.b4.length=2:=ao
 have cy:(az e.b4 1).g1=true:=(hm (by decide)).C3 rfl
 have aO:((List.range (m8 true).length).all fun i=>jO (az (m8 true) i).cS (gh (az (m8 true) i)) (az e.b4 i) (br p i))=(jO 2 32 (az e.b4 0) (br p 0)&&decide (br p 1=(az e.b4 1).bS)):=by
  show(jO 2 32 (az e.b4 0) (br p 0)&&(jO 1 (gh GR) (az e.b4 1) (br p 1)&&true))=_
  rw [Bool.and_true]
  congr 1
  unfold jO
  rw [cy]; simp
 rw [aO,Bool.and_eq_true,kJ,Cg,decide_eq_true_eq]
 simp only [E1,nv (show 0<4 by decide),nv (show 1<4 by decide),nv (show 2<4 by decide),nv (show 3<4 by decide),lX (show 0<4 by decide),lX (show 1<4 by decide),lX (show 2<4 by decide),lX (show 3<4 by decide),ay]
 simp [m8,And.comm]
theorem OK {g:List Bool→Option Int} {v:an} :∀ {m n:Nat} {id:Int},jY g v m=some (n,id)→n≤m∧g (dC v n)=some id∧ ∀ k,n<k→k≤m→g (dC v k)=none
 | 0,n,id,h=>by
   unfold jY at h
   cases bQ:g [] with
   | none=>rw [bQ] at h; cases h
   | some x=>
     rw [bQ] at h; cases h
     exact⟨Nat.le_refl 0,by rw [AK]; exact bQ,fun k aa ad=>by omega⟩
 | m+1,n,id,h=>by
   unfold jY at h
   cases bQ:g (dC v (m+1)) with
   | none=>
     rw [bQ] at h
     obtain⟨aa,ad,aF⟩:=OK h
     refine⟨by omega,ad,fun k aX a0=>?_⟩
     by_cases aw:k=m+1
     ·rw [aw]; exact bQ
     exact aF k aX (by omega)
   | some x=>
     rw [bQ] at h; cases h
     exact⟨Nat.le_refl _,bQ,fun k aa ad=>by omega⟩
theorem OL {g:List Bool→Option Int} {v:an} :∀ {m:Nat},jY g v m=none→ ∀ k,k≤m→g (dC v k)=none
 | 0,h,k,aw=>by
   have:k=0:=by omega
   subst this
   unfold jY at h
   cases bQ:g [] with
   | none=>rw [AK]; exact bQ
   | some x=>rw [bQ] at h; cases h
 | m+1,h,k,aw=>by
   unfold jY at h
   cases bQ:g (dC v (m+1)) with
   | none=>
     rw [bQ] at h
     by_cases tq:k=m+1
     ·rw [tq]; exact bQ
     exact OL h k (by omega)
   | some x=>rw [bQ] at h; cases h
theorem R0 {s:a3} (h:db s) {e:bC} (he:ia s 1 e):vf s 1 e=(az e.b4 0).fp:=by
 have ao:=he.len
 unfold vf
 obtain⟨b,hb⟩:=h.BQ
 rw [hb] at ao ⊢
 refine IZ (i:=0) ao ?_ ?_ fun j aE=>by omega
 ·cases b <;> decide
 cases b <;> rfl
theorem F1 {s:a3} (h:db s) {e:bC} (he:ia s 1 e):e.ik=0:=by
 refine he.pri fun i ak=>?_
 obtain⟨b,hb⟩:=h.BQ
 rw [hb] at ak ⊢
 cases b
 ·have:i=0:=by have:i<1:=ak; omega
  subst this; decide
 have:i=0∨i=1:=by have:i<2:=ak; omega
 rcases this with rfl | rfl <;> decide
theorem QM {s:a3} (h:db s) {l:List aJ} (ao:iV s 1 l) (p:Vector an 4) {g:List Bool→Option Int} {v:an} (a2:∀ j,j<128→bA v j=(bA (br p 0) j&&decide (j<32)))
 (bQ:∀ a5 n,g a5=some n↔ ∃ i∈l,gC (e7 i.bK)=gC (k5 (h3 s 1) p)∧jP i.bK=a5∧i.cH=n):
 match jY g v 32 with | some r=> ∃ i∈l,i.cH=r.2∧ (e9 (eS s 1) l).find? (fun c=>mt s 1 p c.bK)=some i | none=>(e9 (eS s 1) l).find? (fun c=>mt s 1 p c.bK)=none:=by
 have y5:∀ k j,j<128→lead 32 k j=true→bA v j=bA (br p 0) j:=fun k j aE aw=>by
  rw [a2 j aE]
  unfold lead at aw
  rw [Bool.and_eq_true,decide_eq_true_eq] at aw
  rw [decide_eq_true (show j<32 by omega),Bool.and_true]
 have y9:∀ d∈l,mt s 1 p d.bK=true→ ∃ n:Nat,n≤32∧ (az d.bK.b4 0).fp=n∧g (dC v n)=some d.cH:=fun d hd hm=>by
  have he:=(ao.ok d hd).eV
  have g8:=uU h he
  have hp:=g8.pre
  obtain⟨n,aR⟩:=Int.eq_ofNat_of_zero_le hp.1
  obtain⟨aa,ad⟩:=(OJ h he p).1 hm
  refine⟨n,by omega,aR,(bQ _ _).2 ⟨d,hd,aa.symm,?_,rfl⟩⟩
  exact(Iy g8 (by omega)).2 ⟨aR,fun j aE tz=>by rw [y5 _ j aE tz]; exact ad j aE tz⟩
 cases e:jY g v 32 with
 | none=>
   refine Iw fun d hd=>?_
   rw [Bool.eq_false_iff]
   intro hm
   obtain⟨n,aR,_,ad⟩:=y9 d hd hm
   rw [OL e n aR] at ad; cases ad
 | some r=>
   obtain⟨n,id⟩:=r
   obtain⟨aa,ad,aF⟩:=OK e
   obtain⟨i,ak,av,aW,bB⟩:=(bQ _ _).1 ad
   have he:=(ao.ok i ak).eV
   obtain⟨cn,gy⟩:=(Iy (uU h he) aa).1 aW
   have CN:mt s 1 p i.bK=true:=(OJ h he p).2 ⟨av.symm,fun j aE tz=>by rw [← y5 _ j aE tz]; exact gy j aE tz⟩
   refine⟨i,ak,bB,E0 (pG s 1) ao.xe ak CN fun d hd hm=>?_⟩
   have R1:=(ao.ok d hd).eV
   obtain⟨m,cy,eg,g6⟩:=y9 d hd hm
   have rW:m≤n:=by
    rcases Nat.lt_or_ge n m with cD | qM
    ·rw [aF m cD cy] at g6; cases g6
    exact qM
   by_cases JJ:m=n
   ·subst JJ
    rw [ad] at g6
    have:id=d.cH:=by simpa using g6
    exact .inl (ao.uniq hd ak (by rw [bB,this]))
   right
   unfold eS
   rw [decide_eq_true_eq,R0 h he,R0 h R1,F1 h he,F1 h R1,eg,cn]
   omega
def J9 {α β:Type} (R:α→β→Prop) (xs:List α) (ys:List β):Prop:=xs.length=ys.length∧ ∀ t (h:t<xs.length) (dc:t<ys.length),R xs[t] ys[t]
def ad4 (a b:bc) (i:Nat):Bool:=bL b.b3 i&& !bL a.b3 i
def part (a b:bc) (i:Nat) (c:bc):Prop:=
 (∀ j,j<512→bL c.b3 j=(bL a.b3 j||(decide (j≤i)&&bL b.b3 j)))∧
 (∀ j,j<512→bL c.bS j=(bL a.bS j||(decide (j<i)&&(ad4 a b j&&bL b.bS j))||(decide (j=i)&& !bL b.bS i)))
theorem Mg {xs:List bc} {f:bc→Option Bool} {g:bc→Bool} (a7:∀ x∈xs,f x=some (g x)) (ao:xs.length<2 ^ 62):
 bl (xq xs f) (fun r=>(r= -1∧ ∀ x∈xs,g x=false)∨ ∃ i:Nat,i<xs.length∧r=i∧g (az xs i)=true∧ ∀ j,j<i→g (az xs j)=false):=by
 unfold xq
 refine bl.loop xs.length (fun k s=>s=(k:Int)∧ ∀ j,j<k→g (az xs j)=false) (by omega) ⟨rfl,fun j aE=>by omega⟩ (fun k s aw ak=>?_) (fun s ak=>?_)
 ·obtain⟨ay,aO⟩:=ak; subst ay
  refine bl.cond (fun _=>?_) (fun h=>by simp at h; omega)
  refine .idx rfl aw (.eq (a7 _ (by rw [e0 xs aw]; exact List.getElem_mem aw)) (.cond (fun h=>.ret ?_) (fun h=>.ret ⟨eT (by omega),fun j aE=>?_⟩)))
  ·exact .ret (.inr ⟨k,aw,rfl,h,aO⟩)
  by_cases qX:j=k
  ·subst qX; exact h
  exact aO j (by omega)
 obtain⟨ay,aO⟩:=ak; subst ay
 refine⟨_,by simp; rfl,?_⟩
 refine .ret (.inl ⟨rfl,fun x aq=>?_⟩)
 obtain⟨j,aE,rfl⟩:=List.mem_iff_getElem.1 aq
 rw [← e0 xs aE]; exact aO j aE
theorem S0 {xs:List bc} {f:bc→Option Bool} {g:bc→Bool} (a7:∀ x∈xs,f x=some (g x)) (ao:xs.length<2 ^ 62):
 bl (zl xs f) (fun r=>r=xs.any g):=by
 unfold zl
 refine(Mg a7 ao).bind fun r aQ=>.ret ?_
 rcases aQ with⟨aa,ad⟩ | ⟨i,aa,ad,aF,aX⟩
 ·subst aa
  symm
  rw [List.any_eq_false.2 (fun x aq=>by rw [ad x aq]; simp)]
  rfl
 subst ad
 symm
 rw [List.any_eq_true.2 ⟨az xs i,by rw [e0 xs aa]; exact List.getElem_mem aa,aF⟩]
 simp
theorem Tk {xs:List bc} {f:bc→Option Bool} {g:bc→Bool} (a7:∀ x∈xs,f x=some (g x)) (ao:xs.length<2 ^ 62):
 bl (xp xs f) (fun r=>r=xs.filter (fun x=> !g x)):=by
 unfold xp
 refine(Mg a7 ao).bind fun r aQ=>?_
 rcases aQ with⟨aa,ad⟩ | ⟨i0,aa,ad,aF,aX⟩
 ·subst aa
  exact .cond (fun _=>.ret (List.filter_eq_self.2 fun x aq=>by rw [ad x aq]; rfl).symm) (fun h=>by simp at h)
 subst ad
 refine .cond (fun h=>absurd h (by simp <;> omega)) (fun _=>?_)
 refine bl.loop (xs.length - (i0+1)) (fun k s=>s.2.1=((i0+1+k:Nat):Int)∧s.2.2.length=xs.length∧ ∃ i:Nat,s.1=i∧i<i0+1+k∧s.2.2.take i=(xs.take (i0+1+k)).filter (fun x=> !g x)∧s.2.2.drop (i0+1+k)=xs.drop (i0+1+k)) (by omega)
  ⟨eT (by omega),rfl,i0,rfl,by omega,?_,rfl⟩ (fun k s aw ak=>?_) (fun s ak=>?_)
 ·show xs.take i0=_
  rw [Nat.add_zero,List.take_add_one,List.getElem?_eq_getElem aa,List.filter_append]
  rw [e0 xs aa] at aF
  simp only [Option.toList_some,List.filter_cons,aF,Bool.not_true,Bool.false_eq_true,if_false,List.filter_nil,List.append_nil]
  symm
  refine List.filter_eq_self.2 fun x aq=>?_
  obtain⟨j,aE,rfl⟩:=List.mem_iff_getElem.1 aq
  have r5:j<i0:=by rw [List.length_take] at aE; omega
  rw [List.getElem_take,← e0 xs (by omega),aX j r5]; rfl
 ·obtain⟨ad5,ad6,ys⟩:=s; obtain⟨ay,aO,i,cK,di,fQ,ig⟩:=ak
  simp only at ay aO cK fQ ig
  subst ay; subst cK
  have aE:i0+1+k<xs.length:=by omega
  have a2:az ys (i0+1+k)=az xs (i0+1+k):=by
   unfold az
   have:=congrArg (fun l=>l[0]?) ig
   simp only [List.getElem?_drop,Nat.add_zero] at this
   rw [this]
  refine bl.cond (fun _=>?_) (fun h=>by simp only [decide_eq_false_iff_not] at h; omega)
  refine .idx rfl (show i0+1+k<ys.length by omega) ?_
  show bl ((f (az ys (i0+1+k))).bind _) _
  rw [a2]
  refine .eq (a7 _ (by rw [e0 xs aE]; exact List.getElem_mem aE)) ?_
  have FE:bs ((i0+1+k:Nat)+1:Int)=((i0+1+(k+1):Nat):Int):=by rw [eT (by omega)]; rfl
  have pc:xs.take (i0+1+(k+1))=xs.take (i0+1+k)++[az xs (i0+1+k)]:=by
   rw [← Nat.add_assoc,List.take_add_one,List.getElem?_eq_getElem aE,e0 xs aE]; rfl
  refine .bind (P:=fun m:Int×List bc=>m.2.length=xs.length∧ ∃ i:Nat,m.1=i∧i<i0+1+(k+1)∧m.2.take i=(xs.take (i0+1+(k+1))).filter (fun x=> !g x)∧m.2.drop (i0+1+(k+1))=xs.drop (i0+1+(k+1))) (.cond (fun h=>?_) (fun h=>.ret ?_)) fun m hm=>.ret ⟨FE,hm⟩
  ·refine .idx rfl (show i<ys.length by omega) (.ret ⟨by simp [h5]; exact aO,i+1,eT (by omega),by omega,?_,?_⟩)
   ·rw [pc,List.filter_append,← fQ,h5,List.take_add_one,List.take_set,List.set_eq_of_length_le (by rw [List.length_take]; omega),List.getElem?_set_self (show i<ys.length by omega)]
    simp only [List.filter_cons,List.filter_nil,h,if_true,Option.toList_some]
   have:(ys.drop (i0+1+k)).drop 1=(xs.drop (i0+1+k)).drop 1:=by rw [ig]
   rw [List.drop_drop,List.drop_drop] at this
   rw [h5,List.drop_set_of_lt (by omega)]
   exact this
  refine⟨aO,i,rfl,by omega,?_,?_⟩
  ·rw [pc,List.filter_append,← fQ]
   simp only [List.filter_cons,List.filter_nil,h,Bool.false_eq_true,if_false,List.append_nil]
  have:(ys.drop (i0+1+k)).drop 1=(xs.drop (i0+1+k)).drop 1:=by rw [ig]
  rw [List.drop_drop,List.drop_drop] at this
  exact this
 obtain⟨ad5,ad6,ys⟩:=s; obtain⟨ay,aO,i,cK,di,fQ,ig⟩:=ak
 simp only at ay aO cK fQ ig
 subst ay; subst cK
 refine⟨_,by simp only [aO,show ¬ (((i0+1+(xs.length - (i0+1)):Nat):Int)<(xs.length:Int)) by omega,decide_false,cond_false]; rfl,?_⟩
 have Gp:i≤ys.length:=by omega
 refine .eq (a:=(i,ys.length)) (show B4 ys.length (i:Int) (ys.length:Int)=some (i,ys.length) by unfold B4; rw [if_pos (by omega)]; simp) (.eq rfl (.idx rfl (by simp [mZ]; omega) (.eq rfl (.ret ?_))))
 rw [show i0+1+(xs.length - (i0+1))=xs.length by omega,List.take_length] at fQ
 rw [← fQ]
 show(mZ ys i (ys.length - i)).take i=_
 unfold mZ
 rw [List.append_assoc,List.take_append_of_le_length (by rw [List.length_take]; omega),List.take_take,Nat.min_self]
theorem Uc {xs:List bc} (ao:xs.length<2 ^ 30):zs xs=some xs:=by
 unfold zs
 rw [show fV 128 [] xs=some xs from by unfold fV maxLen; rw [if_pos (by simp only [List.length_nil]; omega)]; rfl]
 rfl
theorem bl.Ka {β:Type} {m:Option β} {v:β} (h:bl m (fun r=>r=v)):m=some v:=by
 obtain⟨r,aa,ad⟩:=h
 rw [aa,ad]
theorem OM (b:Nat→Bool):∀ n,n≤64→ ∃ w:BitVec 64,∀ i,i<64→w.getLsbD i=(decide (i<n)&&b i):=by
 intro n
 induction n with
 | zero=>exact fun _=>⟨0#64,fun i ak=>by simp⟩
 | succ n bR=>
   intro aR
   obtain⟨w,hw⟩:=bR (by omega)
   refine⟨w|||(if b n=true then BitVec.twoPow 64 n else 0#64),fun i ak=>?_⟩
   rw [BitVec.getLsbD_or,hw i ak]
   by_cases hb:b n=true
   ·rw [if_pos hb,BitVec.getLsbD_twoPow]
    by_cases e:i=n
    ·subst e; simp [ak,hb]
    have:(decide (i<n+1))=decide (i<n):=by
     rw [Bool.eq_iff_iff]; simp; omega
    rw [this]
    have:decide (n=i)=false:=by simp; omega
    simp [this]
   rw [if_neg hb]
   by_cases e:i=n
   ·subst e; simp [hb]
   have:(decide (i<n+1))=decide (i<n):=by
    rw [Bool.eq_iff_iff]; simp; omega
   rw [this]; simp
theorem WQ (b:Nat→Bool):∃ q:Vector an 4,∀ i,i<512→bL q i=b i:=by
 have a2:∀ c:Nat→Bool,∃ v:an,∀ i,i<128→bA v i=c i:=fun c=>by
  obtain⟨lo,fW⟩:=OM c 64 (by omega)
  obtain⟨ak,dD⟩:=OM (fun i=>c (64+i)) 64 (by omega)
  refine⟨⟨ak,lo⟩,fun i g7=>?_⟩
  unfold bA
  split
  ·rename_i h
   show lo.getLsbD i=c i
   rw [fW i h]; simp [h]
  rename_i h
  show ak.getLsbD (i - 64)=c i
  rw [dD (i - 64) (by omega)]
  have:64+(i - 64)=i:=by omega
  simp only [this]
  have:i - 64<64:=by omega
  simp [this]
 have jG:∀ k,k≤4→ ∃ q:Vector an 4,∀ i,i<128 * k→bL q i=b i:=by
  intro k
  induction k with
  | zero=>exact fun _=>⟨default,fun i ak=>by omega⟩
  | succ k bR=>
    intro aw
    obtain⟨q,hq⟩:=bR (by omega)
    obtain⟨v,a2⟩:=a2 fun j=>b (128 * k+(127 - j))
    refine⟨c5 q k v,fun i ak=>?_⟩
    unfold bL
    rw [gp q v (by omega)]
    by_cases e:i / 128=k
    ·rw [if_pos e,a2 _ (by omega)]
     have:128 * k+(127 - (127 - i % 128))=i:=by omega
     rw [this]
    rw [if_neg e]
    exact hq i (by omega)
 obtain⟨q,hq⟩:=jG 4 (by omega)
 exact⟨q,fun i ak=>hq i (by omega)⟩
theorem qi {c:bc} (al:can c) {q:Vector an 4} :nm c q=true↔ ∀ i,i<512→bL c.b3 i=true→bL q i=bL c.bS i:=by
 rw [EV]
 constructor
 ·intro h i ak hm
  have:=h i ak
  rw [hm,Bool.and_true] at this; exact this
 intro h i ak
 cases hm:bL c.b3 i
 ·rw [Bool.and_false]
  cases a2:bL c.bS i
  ·rfl
  rw [al i ak a2] at hm; cases hm
 rw [Bool.and_true]; exact h i ak hm
def nn (c:bc) (l:List bc):Prop:= ∀ q,nm c q=true→ ∃ x∈l,nm x q=true
theorem Ym {c:bc} (al:can c):nm c c.bS=true:=(qi al).2 fun i _ _=>rfl
theorem U1 {c x:bc} (al:can c) (aq:can x) {q:Vector an 4} (h:nm c q=true) (dc:nm x q=true):sY c x:=fun i ak aa ad=>by
 rw [← (qi al).1 h i ak aa,← (qi aq).1 dc i ak ad]
noncomputable def oD (c x:bc):Bool:= @decide (sY c x) (Classical.propDecidable _)
theorem Iz {c x:bc} :oD c x=true↔sY c x:=by unfold oD; simp
theorem ON (c:bc) (l:List bc) (ao:l.length<2 ^ 30):x1 c l=some (l.filter (oD c)):=by
 unfold x1
 rw [Uc ao]
 have:xp l (fun fJ=>xN fJ c)=some (l.filter (fun x=> !(!oD c x))):=by
  refine bl.Ka (Tk (g:=fun x=> !oD c x) (fun x _=>bl.Ka ?_) (by omega))
  unfold xN
  refine(OE c x).bind fun y a6=>.ret ?_
  congr 1
  rw [Bool.eq_iff_iff,Iz]; exact a6.1
 simp only [Option.bind_some,this,Bool.not_not]
theorem N3 {c:bc} {l:List bc} (al:can c) (ao:∀ x∈l,can x):nn c (l.filter (oD c))↔nn c l:=by
 constructor
 ·intro h q hq
  obtain⟨x,aq,aa⟩:=h q hq
  exact⟨x,(List.mem_filter.1 aq).1,aa⟩
 intro h q hq
 obtain⟨x,aq,aa⟩:=h q hq
 exact⟨x,List.mem_filter.2 ⟨aq,Iz.2 (U1 al (ao x aq) hq aa)⟩,aa⟩
def F2 (c x:bc):Prop:= ∀ i,i<512→bL x.b3 i=true→bL c.b3 i=true∧bL c.bS i=bL x.bS i
noncomputable def Kb (c x:bc):Bool:= @decide (F2 c x) (Classical.propDecidable _)
theorem H5 {c x:bc} :Kb c x=true↔F2 c x:=by unfold Kb; simp
theorem XB {c x:bc} (al:can c) (aq:can x) (h:F2 c x) {q:Vector an 4} (hq:nm c q=true):nm x q=true:=
 (qi aq).2 fun i ak hm=>by rw [(qi al).1 hq i ak (h i ak hm).1,(h i ak hm).2]
def we (c:bc) (k:Nat) (b:Bool) (d:bc):Prop:=
 (∀ m,m<512→bL d.b3 m=(bL c.b3 m||decide (m=k)))∧ (∀ m,m<512→bL d.bS m=(bL c.bS m||(b&&decide (m=k))))
theorem Nd {c d:bc} {k:Nat} {b:Bool} (al:can c) (h:we c k b d):can d:=fun i ak a2=>by
 rw [h.2 i ak] at a2
 rw [h.1 i ak]
 simp only [Bool.or_eq_true,Bool.and_eq_true] at a2 ⊢
 rcases a2 with a2 | a2
 ·exact .inl (al i ak a2)
 exact .inr a2.2
theorem EH {c:bc} (al:can c) {k:Nat} (aw:k<512) (h:bL c.b3 k=false):bL c.bS k=false:=by
 cases a2:bL c.bS k
 ·rfl
 rw [al k aw a2] at h; cases h
theorem EB {c d:bc} {k:Nat} {b:Bool} (al:can c) (aw:k<512) (a7:bL c.b3 k=false) (h:we c k b d) (q:Vector an 4):nm d q=(nm c q&&(bL q k==b)):=
 Yb aw a7 (EH al aw a7) h.1 h.2
theorem AT {c d e:bc} {l:List bc} {k:Nat} (al:can c) (aw:k<512) (a7:bL c.b3 k=false) (bT:we c k false d) (aa:we c k true e):nn c l↔nn d l∧nn e l:=by
 constructor
 ·intro h
  refine⟨fun q hq=>h q ?_,fun q hq=>h q ?_⟩
  ·rw [EB al aw a7 bT,Bool.and_eq_true] at hq; exact hq.1
  rw [EB al aw a7 aa,Bool.and_eq_true] at hq; exact hq.1
 rintro ⟨bp,hb⟩ q hq
 cases a2:bL q k
 ·exact bp q (by rw [EB al aw a7 bT,hq,a2]; rfl)
 exact hb q (by rw [EB al aw a7 aa,hq,a2]; rfl)
def nfree (c:bc):Nat:=r6 512 (fun i=> !bL c.b3 i)
theorem WR {n:Nat} {p q:Nat→Bool} (h:∀ i,i<n→p i=true→q i=true):r6 n p≤r6 n q:=by
 induction n with
 | zero=>exact Nat.le_refl _
 | succ n bR=>
   rw [A2,A2]
   have:=bR fun i ak=>h i (by omega)
   have ad:(p n).toNat≤ (q n).toNat:=by
    cases hp:p n
    ·simp
    rw [h n (by omega) hp]; simp
   omega
theorem Wb {n:Nat} {p q:Nat→Bool} {k:Nat} (aw:k<n) (h:∀ i,i<n→p i=true→q i=true) (hp:p k=false) (hq:q k=true):r6 n p<r6 n q:=by
 induction n with
 | zero=>omega
 | succ n bR=>
   rw [A2,A2]
   by_cases jK:k=n
   ·subst jK
    have:=WR (n:=k) fun i ak=>h i (by omega)
    rw [hp,hq]; simp; omega
   have:=bR (by omega) fun i ak=>h i (by omega)
   have ad:(p n).toNat≤ (q n).toNat:=by
    cases hp:p n
    ·simp
    rw [h n (by omega) hp]; simp
   omega
theorem N4 {c d:bc} {k:Nat} (aw:k<512) (h:∀ m,m<512→bL c.b3 m=true→bL d.b3 m=true) (bT:bL c.b3 k=false) (aa:bL d.b3 k=true):nfree d<nfree c:=
 Wb aw (fun i ak hd=>by
  cases hm:bL c.b3 i
  ·rfl
  rw [h i ak hm] at hd; exact hd) (by rw [aa]; rfl) (by rw [bT]; rfl)
theorem WS (c:bc):nfree c≤512:=Yc
theorem Nx {c d:bc} {k:Nat} {b:Bool} (aw:k<512) (a7:bL c.b3 k=false) (h:we c k b d):nfree d<nfree c:=
 N4 aw (fun m hm aa=>by rw [h.1 m hm,aa]; rfl) a7 (by rw [h.1 k aw]; simp)
theorem H6 {c:bc} {k:Nat} (aw:k<512) (a7:bL c.b3 k=false) (b:Bool):bl (vD c k b) (we c k b):=(Ya c k aw b).mono fun d hd=>hd.2 a7
theorem OO (w:Vector an 4) (n:Nat) (aR:n<512):bl (x6 w n) (fun r=>r=bL w n):=by
 unfold x6
 have aa:wP (n:Int) 128=some ((n / 128:Nat):Int):=by
  unfold wP
  rw [if_neg (by omega)]
  have aa:(n:Int).tdiv 128=((n / 128:Nat):Int):=by rw [Int.tdiv_eq_ediv_of_nonneg (by omega)]; omega
  rw [aa,hC (by omega) (by omega)]
 have ad:o2 (n:Int) 128=some ((n % 128:Nat):Int):=by
  unfold o2
  rw [if_neg (by omega)]
  have ad:(n:Int).tmod 128=((n % 128:Nat):Int):=by rw [Int.tmod_eq_emod_of_nonneg (by omega)]; omega
  rw [ad]
 refine .eq aa (.idx rfl (show n / 128<4 by omega) (.eq ad ((IW _ _).bind fun y a6=>.ret ?_)))
 rw [a6,hC (by omega) (by omega)]
 have:(0:Int)≤127 - ((n % 128:Nat):Int)∧127 - ((n % 128:Nat):Int)<128:=by omega
 rw [decide_eq_true this,Bool.true_and]
 unfold bL
 congr 1; omega
def kA (c:bc) (l:List bc) (b:Bool) (i:Nat):Bool:= !bL c.b3 i&&l.any (fun x=>bL x.b3 i&&(bL x.bS i==b))
set_option maxHeartbeats 2000000 in
theorem Wc (c:bc) (l:List bc) (ao:l.length<2 ^ 30):bl (Al c l) (fun r=>(∀ i,i<512→bL r.1 i=kA c l false i)∧ (∀ i,i<512→bL r.2 i=kA c l true i)):=by
 unfold Al
 have QN:∀ k (aw:k<l.length) b i,kA c (l.take (k+1)) b i=(kA c (l.take k) b i||(!bL c.b3 i&&(bL (az l k).b3 i&&(bL (az l k).bS i==b)))):=fun k aw b i=>by
  unfold kA
  rw [List.take_add_one,List.getElem?_eq_getElem aw,List.any_append,e0 l aw,Bool.and_or_distrib_left]
  simp
 refine bl.loop l.length (fun k s=>s.1=k∧ (∀ i,i<512→bL s.2.1 i=kA c (l.take k) true i)∧ (∀ i,i<512→bL s.2.2 i=kA c (l.take k) false i)) (by omega)
  ⟨rfl,fun i ak=>by rw [En]; simp [kA],fun i ak=>by rw [En]; simp [kA]⟩ (fun k s aw ak=>?_) (fun s ak=>?_)
 ·obtain⟨n,o,z⟩:=s; obtain⟨ay,aO,cK⟩:=ak
  simp only at ay aO cK; subst ay
  refine bl.cond (fun _=>?_) (fun h=>by simp at h; omega)
  refine .idx rfl aw ?_
  have u0:=QN k aw true
  have j6:=QN k aw false
  generalize az l k=x at u0 j6 ⊢
  refine bl.loop 4 (fun j s=>s.1=j∧ (∀ i,i<512→bL s.2.1 i=if i / 128<j then kA c (l.take (k+1)) true i else kA c (l.take k) true i)∧
   (∀ i,i<512→bL s.2.2 i=if i / 128<j then kA c (l.take (k+1)) false i else kA c (l.take k) false i)) (by omega)
   ⟨rfl,fun i ak=>by rw [if_neg (by omega)]; exact aO i ak,fun i ak=>by rw [if_neg (by omega)]; exact cK i ak⟩ (fun j s aE ak=>?_) (fun s ak=>?_)
  ·obtain⟨n,o,z⟩:=s; obtain⟨av,aW,bB⟩:=ak
   simp only at av aW bB; subst av
   refine bl.cond (fun _=>?_) (fun h=>by simp at h; omega)
   refine .idx rfl aE (.idx rfl aE ((Pr _).bind fun aD aa=>(rA _ _).bind fun aK ad=>.idx rfl aE (.idx rfl aE ((rA _ _).bind fun bb aF=>(wc _ _).bind fun bJ aX=>.idx rfl aE (.idx rfl aE (.idx rfl aE ((Pr _).bind fun bq a0=>(rA _ _).bind fun b6 bn=>(wc _ _).bind fun eB cZ=>.idx rfl aE (.ret ⟨eT (by omega),fun i ak=>?_,fun i ak=>?_⟩))))))))
   ·have g:=aW i ak
    unfold bL at g ⊢
    simp only [gp _ _ aE]
    by_cases hq:i / 128=j
    ·rw [if_pos hq,if_pos (by omega),aX _ (by omega),aF _ (by omega),ad _ (by omega),aa _ (by omega),u0]
     rw [if_neg (by omega)] at g
     rw [hq] at g
     rw [g]
     unfold bL
     rw [hq]
     cases bA (br x.b3 j) (127 - i % 128) <;> cases bA (br c.b3 j) (127 - i % 128) <;> cases bA (br x.bS j) (127 - i % 128) <;> simp
    rw [if_neg hq,g]
    have:(i / 128<j+1)↔i / 128<j:=by omega
    simp [this]
   have g:=bB i ak
   unfold bL at g ⊢
   simp only [gp _ _ aE]
   by_cases hq:i / 128=j
   ·rw [if_pos hq,if_pos (by omega),cZ _ (by omega),bn _ (by omega),a0 _ (by omega),ad _ (by omega),aa _ (by omega),j6]
    rw [if_neg (by omega)] at g
    rw [hq] at g
    rw [g]
    unfold bL
    rw [hq]
    cases bA (br x.b3 j) (127 - i % 128) <;> cases bA (br c.b3 j) (127 - i % 128) <;> cases bA (br x.bS j) (127 - i % 128) <;> simp
   rw [if_neg hq,g]
   have:(i / 128<j+1)↔i / 128<j:=by omega
   simp [this]
  obtain⟨n,o,z⟩:=s; obtain⟨av,aW,bB⟩:=ak
  simp only at av aW bB; subst av
  refine⟨_,rfl,?_⟩
  refine .ret ⟨eT (by omega),fun i ak=>?_,fun i ak=>?_⟩
  ·rw [aW i ak,if_pos (by omega)]
  rw [bB i ak,if_pos (by omega)]
 obtain⟨n,o,z⟩:=s; obtain⟨ay,aO,cK⟩:=ak
 simp only at ay aO cK; subst ay
 rw [List.take_length] at aO cK
 refine⟨_,by simp; rfl,?_⟩
 exact .ret ⟨cK,aO⟩
set_option maxHeartbeats 2000000 in
theorem Wd (c:bc) (z o:Vector an 4):bl (Aj c z o) (fun r=>(∀ i,i<512→bL r.b3 i=(bL c.b3 i||(bL z i ^^ bL o i)))∧ (∀ i,i<512→bL r.bS i=(bL c.bS i||(bL z i&& !bL o i)))):=by
 unfold Aj
 refine bl.loop 4 (fun j s=>s.1=j∧ (∀ i,i<512→bL s.2.b3 i=if i / 128<j then(bL c.b3 i||(bL z i ^^ bL o i)) else bL c.b3 i)∧
  (∀ i,i<512→bL s.2.bS i=if i / 128<j then(bL c.bS i||(bL z i&& !bL o i)) else bL c.bS i)) (by omega)
  ⟨rfl,fun i ak=>(if_neg (Nat.not_lt_zero _)).symm,fun i ak=>(if_neg (Nat.not_lt_zero _)).symm⟩ (fun j s aE ak=>?_) (fun s ak=>?_)
 ·obtain⟨n,d⟩:=s; obtain⟨av,aW,bB⟩:=ak
  simp only at av aW bB; subst av
  refine bl.cond (fun _=>?_) (fun h=>by simp at h; omega)
  refine .idx rfl aE (.idx rfl aE ((rA _ _).bind fun aD aa=>.idx rfl aE (.idx rfl aE (.idx rfl aE ((wc _ _).bind fun aK ad=>(EU _ _).bind fun bb aF=>(wc _ _).bind fun bJ aX=>.idx rfl aE (.idx rfl aE (.idx rfl aE ((EU _ _).bind fun bq a0=>(wc _ _).bind fun b6 bn=>?_))))))))
  refine .idx rfl aE ?_
  refine .eq rfl ?_
  refine .ret ?_
  refine⟨eT (by omega),fun i ak=>?_,fun i ak=>?_⟩
  ·have g:=aW i ak
   unfold bL at g ⊢
   simp only [gp _ _ aE]
   by_cases hq:i / 128=j
   ·rw [if_pos hq,if_pos (by omega),aX _ (by omega),aF _ (by omega),ad _ (by omega),aa _ (by omega),hq]
    rw [if_neg (by omega)] at g
    rw [hq] at g
    rw [g]
    cases bA (br z j) (127 - i % 128) <;> cases bA (br o j) (127 - i % 128) <;> simp
   rw [if_neg hq,g]
   have:(i / 128<j+1)↔i / 128<j:=by omega
   simp [this]
  have g:=bB i ak
  unfold bL at g ⊢
  simp only [gp _ _ aE]
  by_cases hq:i / 128=j
  ·rw [if_pos hq,if_pos (by omega),bn _ (by omega),a0 _ (by omega),aa _ (by omega),hq]
   rw [if_neg (by omega)] at g
   rw [hq] at g
   rw [g]
   cases bA (br z j) (127 - i % 128) <;> cases bA (br o j) (127 - i % 128) <;> simp
  rw [if_neg hq,g]
  have:(i / 128<j+1)↔i / 128<j:=by omega
  simp [this]
 obtain⟨n,d⟩:=s; obtain⟨av,aW,bB⟩:=ak
 simp only at av aW bB; subst av
 refine⟨_,rfl,?_⟩
 refine .ret ⟨fun i ak=>?_,fun i ak=>?_⟩
 ·rw [aW i ak,if_pos (by omega)]
 rw [bB i ak,if_pos (by omega)]
set_option maxHeartbeats 2000000 in
theorem Vu (p:Vector an 4) (l:List bc) (ao:l.length<2 ^ 30):bl (Af p l) (fun r=> ∃ b:Nat,r=b∧b<512∧ ((∃ i,i<512∧bL p i=true∧ ∃ x∈l,bL x.b3 i=true)→bL p b=true)):=by
 unfold Af
 refine bl.loop 512 (fun k s=>s.2.2=(k:Int)∧ (∃ b:Nat,s.1=b∧b<512∧ ∃ m:Nat,s.2.1=m∧m≤l.length∧ (0<m→bL p b=true)∧ (m=0→ ∀ i,i<k→bL p i=true→ ∀ x∈l,bL x.b3 i=false))) (by omega)
  ⟨rfl,0,rfl,by omega,0,rfl,by omega,by omega,fun _ i ak=>by omega⟩ (fun k s aw ak=>?_) (fun s ak=>?_)
 ·obtain⟨ad7,ad8,n⟩:=s; obtain⟨ay,b,aO,cK,m,di,fQ,ig,se⟩:=ak
  simp only at ay aO di; subst ay; subst aO; subst di
  refine bl.cond (fun _=>?_) (fun h=>by simp at h; omega)
  refine(OO p k aw).bind fun aD aa=>.cond (fun h=>.ret ⟨eT (by omega),b,rfl,cK,m,rfl,fQ,ig,fun hm i ak hp=>?_⟩) (fun h=>?_)
  ·by_cases iS:i=k
   ·subst iS; rw [aa,hp] at h; simp at h
   exact se hm i (by omega) hp
  have adq:bL p k=true:=by rw [aa] at h; simpa using h
  refine bl.loop l.length (fun j s=>s.2=(j:Int)∧s.1=(((l.take j).countP (fun x=>bL x.b3 k):Nat):Int)) (by omega) ⟨rfl,by simp⟩ (fun j s aE ak=>?_) (fun s ak=>?_)
  ·obtain⟨c,i⟩:=s; obtain⟨av,aW⟩:=ak
   simp only at av aW; subst av; subst aW
   refine bl.cond (fun _=>?_) (fun h=>by simp at h; omega)
   have hle:(l.take j).countP (fun x=>bL x.b3 k)≤j:=Nat.le_trans List.countP_le_length (by rw [List.length_take]; omega)
   have pc:(l.take (j+1)).countP (fun x=>bL x.b3 k)=(l.take j).countP (fun x=>bL x.b3 k)+(bL (az l j).b3 k).toNat:=by
    rw [List.take_add_one,List.getElem?_eq_getElem aE,List.countP_append,e0 l aE]
    simp [List.countP_cons,List.countP_nil]
    cases bL l[j].b3 k <;> rfl
   refine .idx rfl aE ((OO _ k aw).bind fun aK ad=>.bind (P:=fun r=>r=(((l.take (j+1)).countP (fun x=>bL x.b3 k):Nat):Int)) (.cond (fun h=>.ret ?_) (fun h=>.ret ?_)) fun r aQ=>.ret ⟨eT (by omega),aQ⟩)
   ·rw [pc,← ad,h,eT (by omega)]; rfl
   rw [pc,← ad,h]; rfl
  obtain⟨c,i⟩:=s; obtain⟨av,aW⟩:=ak
  simp only at av aW; subst av; subst aW
  rw [List.take_length]
  refine⟨_,by simp; rfl,?_⟩
  simp only
  refine .bind (P:=fun r:Int×Int=> ∃ b:Nat,r.1=b∧b<512∧ ∃ m:Nat,r.2=m∧m≤l.length∧ (0<m→bL p b=true)∧ (m=0→ ∀ i,i<k+1→bL p i=true→ ∀ x∈l,bL x.b3 i=false)) (.cond (fun h=>.ret ?_) (fun h=>.ret ?_)) fun r aQ=>.ret ⟨eT (by omega),aQ⟩
  ·simp only [gt_iff_lt,decide_eq_true_eq] at h
   exact⟨k,rfl,aw,_,rfl,List.countP_le_length,fun _=>adq,fun bT=>by omega⟩
  simp only [gt_iff_lt,decide_eq_false_iff_not] at h
  refine⟨b,rfl,cK,m,rfl,fQ,ig,fun hm i ak hp=>?_⟩
  by_cases iS:i=k
  ·subst iS
   have bT:l.countP (fun x=>bL x.b3 i)=0:=by omega
   intro x aq
   have:=List.countP_eq_zero.1 bT x aq
   simpa using this
  exact se hm i (by omega) hp
 obtain⟨ad7,ad8,n⟩:=s; obtain⟨ay,b,aO,cK,m,di,fQ,ig,se⟩:=ak
 simp only at ay aO di; subst ay; subst aO; subst di
 refine⟨_,rfl,?_⟩
 refine .ret ⟨b,rfl,cK,fun⟨i,ak,hp,x,aq,hm⟩=>?_⟩
 rcases Nat.eq_zero_or_pos m with bT | bT
 ·have:=se bT i ak hp x aq
  rw [hm] at this; cases this
 exact ig bT
set_option maxHeartbeats 2000000 in
theorem UG:∀ (n:Nat) (c:bc) (l:List bc),can c→ (∀ x∈l,can x)→l.length<2 ^ 30→nfree c<n→bl (sk n c l) (fun r=>r=true↔nn c l):=by
 intro n
 induction n with
 | zero=>intro c l _ _ _ h; omega
 | succ n bR=>
   intro c q7 al R2 hlen aR
   unfold sk
   refine .eq (ON c q7 hlen) ?_
   have ao:∀ x∈q7.filter (oD c),can x:=fun x aq=>R2 x (List.mem_filter.1 aq).1
   have Gq:∀ x∈q7.filter (oD c),sY c x:=fun x aq=>Iz.1 (List.mem_filter.1 aq).2
   have m5:(q7.filter (oD c)).length<2 ^ 30:=Nat.lt_of_le_of_lt (List.length_filter_le _ _) hlen
   rw [← N3 al R2]
   generalize q7.filter (oD c)=l at ao Gq m5
   refine(S0 (g:=Kb c) (fun x aq=>bl.Ka ?_) (by omega)).bind fun aK ad=>.cond (fun h=>.ret ?_) (fun h=>?_)
   ·unfold zX
    refine(VY c x al (ao x aq)).bind fun r aQ=>.ret ?_
    rw [Bool.eq_iff_iff,H5]; exact aQ
   ·rw [ad,List.any_eq_true] at h
    obtain⟨x,aq,ak⟩:=h
    have ak:=H5.1 ak
    exact⟨fun _ q hq=>⟨x,aq,XB al (ao x aq) ak hq⟩,fun _=>rfl⟩
   rw [ad,List.any_eq_false] at h
   have ab6:∀ x∈l,¬ F2 c x:=fun x aq ak=>h x aq (H5.2 ak)
   refine .cond (fun bT=>.ret ?_) (fun bT=>?_)
   ·have:l= []:=by
     simp only [beq_iff_eq] at bT
     exact List.length_eq_zero_iff.1 (by omega)
    subst this
    refine⟨fun h=>(by cases h),fun wT=>?_⟩
    obtain⟨x,aq,_⟩:=wT _ (Ym al)
    cases aq
   refine(Wc c l m5).bind fun bb aF=>(Wd c bb.1 bb.2).bind fun bJ aX=>?_
   have JG:∀ m,m<512→bL c.b3 m=true→bL bJ.b3 m=true:=fun m hm aa=>by rw [aX.1 m hm,aa]; rfl
   have Ch:∀ m,m<512→bL c.b3 m=true→bL bJ.bS m=bL c.bS m:=fun m hm aa=>by
    rw [aX.2 m hm,aF.1 m hm]; unfold kA; rw [aa]; simp
   have FH:can bJ:=fun i ak a2=>by
    rw [aX.2 i ak] at a2
    rw [aX.1 i ak]
    simp only [Bool.or_eq_true,Bool.and_eq_true,Bool.not_eq_true'] at a2
    rcases a2 with a2 | a2
    ·rw [al i ak a2]; rfl
    rw [a2.1,a2.2]; simp
   have aah:nn bJ l↔nn c l:=by
    constructor
    ·intro wT q hq
     obtain⟨oK,jm⟩:=WQ fun i=>if bL c.b3 i=false∧bL bJ.b3 i=true then bL bJ.bS i else bL q i
     have eE:nm bJ oK=true:=(qi FH).2 fun i ak hm=>by
      rw [jm i ak]
      cases o4:bL c.b3 i
      ·rw [if_pos ⟨rfl,hm⟩]
      rw [if_neg (by simp),(qi al).1 hq i ak o4,Ch i ak o4]
     obtain⟨x,aq,Ky⟩:=wT oK eE
     refine⟨x,aq,(qi (ao x aq)).2 fun i ak hm=>?_⟩
     have a0:=(qi (ao x aq)).1 Ky i ak hm
     rw [jm i ak] at a0
     by_cases aG:bL c.b3 i=false∧bL bJ.b3 i=true
     ·exfalso
      rw [if_pos aG] at a0
      have C6:=aG.2
      rw [aX.1 i ak,aG.1,aF.1 i ak,aF.2 i ak] at C6
      rw [aX.2 i ak,aF.1 i ak,aF.2 i ak,EH al ak aG.1] at a0
      have hw:kA c l (bL x.bS i) i=true:=by
       unfold kA
       rw [aG.1,Bool.not_false,Bool.true_and,List.any_eq_true]
       exact⟨x,aq,by rw [hm]; simp⟩
      cases C7:bL x.bS i
      ·rw [C7] at hw a0
       rw [hw] at C6 a0
       cases bn:kA c l true i <;> simp [bn] at C6 a0
      rw [C7] at hw a0
      rw [hw] at C6 a0
      cases bn:kA c l false i <;> simp [bn] at C6 a0
     rw [if_neg aG] at a0; exact a0
    intro wT q hq
    exact wT q ((qi al).2 fun i ak hm=>by rw [(qi FH).1 hq i ak (JG i ak hm),Ch i ak hm])
   refine .cond (fun dm=>?_) (fun he=>?_)
   ·have dm:bJ≠c:=by simpa using dm
    have cD:nfree bJ<nfree c:=by
     have:∃ k,k<512∧bL c.b3 k=false∧bL bJ.b3 k=true:=by
      false_or_by_contra
      rename_i fq
      have hm:∀ i,i<512→bL bJ.b3 i=bL c.b3 i:=fun i ak=>by
       cases a0:bL c.b3 i
       ·cases bn:bL bJ.b3 i
        ·rfl
        exact absurd ⟨i,ak,a0,bn⟩ fq
       exact JG i ak a0
      have a2:∀ i,i<512→bL bJ.bS i=bL c.bS i:=fun i ak=>by
       cases a0:bL c.b3 i
       ·rw [EH al ak a0]
        exact EH FH ak (by rw [hm i ak,a0])
       exact Ch i ak a0
      apply dm
      obtain⟨a,b⟩:=bJ; obtain⟨gz,b'⟩:=c
      simp only at hm a2
      rw [Bp hm,Bp a2]
     obtain⟨k,a0,bn,cZ⟩:=this
     exact N4 a0 JG bn cZ
    refine(bR bJ l FH ao m5 (by omega)).bind fun bq a0=>.ret ?_
    rw [a0,aah]
   have he:bJ=c:=by simpa using he
   have ab7:∃ i,i<512∧bL bb.1 i=true∧ ∃ x∈l,bL x.b3 i=true:=by
    have dm:l≠ []:=fun e=>by subst e; simp at bT
    obtain⟨x,r,KB⟩:=List.exists_cons_of_ne_nil dm
    have aq:x∈l:=by rw [KB]; simp
    have:∃ i,i<512∧bL x.b3 i=true∧bL c.b3 i=false:=by
     false_or_by_contra
     rename_i fq
     refine ab6 x aq fun i ak hm=>?_
     cases a0:bL c.b3 i
     ·exact absurd ⟨i,ak,hm,a0⟩ fq
     exact⟨rfl,Gq x aq i ak a0 hm⟩
    obtain⟨i,ak,C2,o4⟩:=this
    refine⟨i,ak,?_,x,aq,C2⟩
    have a0:=aX.1 i ak
    rw [he,o4] at a0
    simp only [Bool.false_or] at a0
    have hw:kA c l (bL x.bS i) i=true:=by
     unfold kA
     rw [o4,Bool.not_false,Bool.true_and,List.any_eq_true]
     exact⟨x,aq,by rw [C2]; simp⟩
    rw [aF.1 i ak,aF.2 i ak] at a0
    rw [aF.1 i ak]
    cases C7:bL x.bS i
    ·rw [C7] at hw; exact hw
    rw [C7] at hw
    rw [hw] at a0
    cases bn:kA c l false i
    ·rw [bn] at a0; simp at a0
    rfl
   refine(Vu bb.1 l m5).bind fun b6 bn=>?_
   obtain⟨b,rfl,hb,mL⟩:=bn
   have C5:=mL ab7
   have rO:bL c.b3 b=false:=by
    rw [aF.1 b hb] at C5
    unfold kA at C5
    simp only [Bool.and_eq_true,Bool.not_eq_true'] at C5
    exact C5.1
   refine(H6 hb rO false).bind fun eB cZ=>(bR eB l (Nd al cZ) ao m5 (by have:=Nx hb rO cZ; omega)).bind fun fN e5=>?_
   refine .c0 (P:=we c b true) (fun _=>H6 hb rO true) fun e8 fX=>?_
   refine .c0 (P:=fun r=>r=true↔nn e8 l) (fun mb=>bR e8 l (Nd al (fX mb)) ao m5 (by have:=Nx hb rO (fX mb); omega)) fun ee kI=>.ret ?_
   rw [Bool.and_eq_true]
   obtain⟨aeA,_,Ld⟩:=H6 hb rO true
   rw [AT al hb rO cZ Ld]
   constructor
   ·rintro ⟨bp,qK⟩
    refine⟨e5.1 bp,?_⟩
    have:=(AT (l:=l) al hb rO cZ (fX bp)).2 ⟨e5.1 bp,(kI bp).1 qK⟩
    exact((AT (l:=l) al hb rO cZ Ld).1 this).2
   rintro ⟨bp,qK⟩
   have Le:=e5.2 bp
   refine⟨Le,(kI Le).2 ?_⟩
   have:=(AT (l:=l) al hb rO cZ Ld).2 ⟨bp,qK⟩
   exact((AT (l:=l) al hb rO cZ (fX Le)).1 this).2
theorem U2 (c:bc) (l:List bc) (al:can c) (ao:∀ x∈l,can x) (hlen:l.length<2 ^ 30):bl (Hs c l) (fun r=>r=true↔nn c l):=
 UG ec c l al ao hlen (by have:=WS c; unfold ec; omega)
theorem U3 (c:bc) (l:List bc) (al:can c) (ao:∀ x∈l,can x) (hlen:l.length<2 ^ 30):
 bl (xQ c l) (fun r=>if (l.filter (oD c)).length>16 then r=(false,26) else(r.2=0∧ (r.1=true↔nn c l))):=by
 unfold xQ
 refine .eq (ON c l hlen) (.cond (fun h=>.ret ?_) (fun h=>?_))
 ·rw [if_pos (by have:=of_decide_eq_true h; omega)]
 have y8:∀ x∈l.filter (oD c),can x:=fun x aq=>ao x (List.mem_filter.1 aq).1
 have m5:(l.filter (oD c)).length<2 ^ 30:=Nat.lt_of_le_of_lt (List.length_filter_le _ _) hlen
 refine(U2 c _ al y8 m5).bind fun y a6=>.ret ?_
 rw [if_neg (by have:=of_decide_eq_false h; omega)]
 exact⟨rfl,by rw [a6,N3 al ao]⟩
theorem J9.cons_inv {α β:Type} {R:α→β→Prop} {x:α} {xs:List α} {ys:List β} (h:J9 R (x::xs) ys):∃ y r,ys=y::r∧R x y∧J9 R xs r:=by
 obtain⟨aa,ad⟩:=h
 cases ys with
 | nil=>simp at aa
 | cons y r=>
   refine⟨y,r,rfl,ad 0 (by simp) (by simp),by simpa using aa,fun t b1 u7=>?_⟩
   have:=ad (t+1) (by simp; omega) (by simp; omega)
   simpa using this
theorem Ut (c:bc) (l:List bc) (al:can c) (ao:∀ x∈l,can x) (hlen:l.length≤16):bl (xQ c l) (fun r=>r.2=0∧ (r.1=true↔nn c l)):=
 (U3 c l al ao (by omega)).mono fun r h=>by
  rw [if_neg (by have:=List.length_filter_le (oD c) l; omega)] at h; exact h
def ma (s:a3) (k:Nat):Bool:=(az s.bt k).bN.any fun key=>key.cS==4
def lS (s:a3) (e:bC):bc:=((uc s e).getD default).1
theorem E2 {s:a3} {k:Nat} (h:ma s k=false):∀ i,i<(az s.bt k).bN.length→ (az (az s.bt k).bN i).cS≠4:=fun i ak=>by
 unfold ma at h
 rw [List.any_eq_false] at h
 have:=h (az (az s.bt k).bN i) (by rw [e0 _ ak]; exact List.getElem_mem _)
 simpa using this
theorem FI {s:a3} (h:db s) {k:Nat} (aw:k<4) (aQ:ma s k=false) {e:bC} (he:ia s k e):uc s e=some (lS s e,true)∧ ∀ c j,c<4→j<128→
 bA (br (lS s e).b3 c) j=(decide (c<(az s.bt k).bN.length)&&nN (az (az s.bt k).bN c) (az e.b4 c) j)∧
 bA (br (lS s e).bS c) j=(decide (c<(az s.bt k).bN.length)&&(bA (az e.b4 c).bS j&&nN (az (az s.bt k).bN c) (az e.b4 c) j)):=by
 obtain⟨r,aa,ad⟩:=Xx h aw he
 rcases ad with⟨_,_,i,ak,aX⟩ | ⟨ad,_,aF⟩
 ·exact absurd aX (E2 aQ i ak)
 obtain⟨a,b⟩:=r
 simp only at ad aF
 subst ad
 have:lS s e=a:=by unfold lS; rw [aa]; rfl
 rw [this]
 exact⟨aa,aF⟩
theorem Py {s:a3} (h:db s) {k:Nat} (aw:k<4) (aQ:ma s k=false) {e:bC} (he:ia s k e):can (lS s e):=fun i ak a2=>by
 obtain⟨_,ad⟩:=FI h aw aQ he
 have aF:=ad (i / 128) (127 - i % 128) (by omega) (by omega)
 unfold bL at a2 ⊢
 rw [aF.2] at a2
 rw [aF.1]
 simp only [Bool.and_eq_true] at a2 ⊢
 exact⟨a2.1,a2.2.2⟩
def Lf (s:a3) (k:Nat) (p:Vector an 4):Prop:= ∀ c j,c<(az s.bt k).bN.length→j<128→bA (br p c) j=true→ (j:Int)<gh (az (az s.bt k).bN c)
theorem QO {s:a3} (h:db s) {k:Nat} (aw:k<4) (aQ:ma s k=false) {e:bC} (he:ia s k e) {p:Vector an 4} (hp:Lf s k p):nm (lS s e) p=true↔mt s k p e=true:=by
 have cU:=(UY h aw he p hp).of_eq (MS h aw he p) (E2 aQ)
 obtain⟨_,aq⟩:=FI h aw aQ he
 obtain⟨t1,⟨t2,t3⟩,t4,_⟩:=h.iJ aw
 rw [cU,EV]
 constructor
 ·intro eE c j al aE
  have Lg:=eE (c * 128+(127 - j)) (by omega)
  unfold bL at Lg
  rw [show(c * 128+(127 - j)) / 128=c by omega,show 127 - (c * 128+(127 - j)) % 128=j by omega,(aq c j (by omega) aE).1,(aq c j (by omega) aE).2,decide_eq_true al,Bool.true_and,Bool.true_and] at Lg
  exact Lg
 intro jG i ak
 unfold bL
 rw [(aq (i / 128) (127 - i % 128) (by omega) (by omega)).1,(aq (i / 128) (127 - i % 128) (by omega) (by omega)).2]
 by_cases al:i / 128<(az s.bt k).bN.length
 ·rw [decide_eq_true al,Bool.true_and,Bool.true_and]
  exact jG _ _ al (by omega)
 rw [decide_eq_false al]; simp
def mQ (s:a3) (k:Nat) (l:List aJ) (i:aJ):List bc:=(l.filter fun c=>eS s k c i).map fun c=>lS s c.bK
theorem XC {s:a3} (h:db s) {k:Nat} (aw:k<4) (aQ:ma s k=false) {l:List aJ} (ao:iV s k l) (i:aJ):∀ x∈mQ s k l i,can x:=fun x aq=>by
 obtain⟨c,al,rfl⟩:=List.mem_map.1 aq
 exact Py h aw aQ (ao.ok c (List.mem_filter.1 al).1).eV
theorem OP {s:a3} {k:Nat} {l:List aJ} {i:aJ} :(mQ s k l i).length≤l.length:=by
 unfold mQ; rw [List.length_map]; exact List.length_filter_le _ _
theorem aai {s:a3} (h:db s) {k:Nat} (aw:k<4):zn (az s.bt k).bN DF=some (ma s k):=by
 refine bl.get ?_
 unfold zn
 have ao:=(h.iJ aw).2.1
 refine(Mm (g:=fun key=>key.cS==4) (fun x aq=>rfl) (by omega)).bind fun r aQ=>.ret ?_
 unfold ma
 rcases aQ with⟨rfl,aQ⟩ | ⟨i,aa,rfl,aF,aX⟩
 ·rw [List.any_eq_false.2 fun x aq=>by simp [aQ x aq]]; rfl
 rw [List.any_eq_true.2 ⟨az (az s.bt k).bN i,by rw [e0 _ aa]; exact List.getElem_mem _,aF⟩]
 simp
theorem U4 {s:a3} (h:db s) {k:Nat} (aw:k<4) {l:List aJ} (ao:iV s k l) {i:aJ} (ak:i∈l):
 z5 s l i.cH=some (if ma s k=true then(default,[],13) else(lS s i.bK,mQ s k l i,0)):=by
 refine bl.get ?_
 unfold z5
 have hlen:=ao.len
 have er:=(ao.ok i ak).eV
 refine(L5 (g:=fun c=>c.cH==i.cH) (fun x aq=>rfl) (by omega)).bind fun r aQ=>?_
 rcases aQ with⟨_,aQ⟩ | ⟨a,aa,rfl,aF,_⟩
 ·have:=aQ i ak; simp at this
 have hm:az l a∈l:=by rw [e0 _ aa]; exact List.getElem_mem _
 have Lh:az l a=i:=ao.uniq hm ak (by simpa using aF)
 refine .cond (fun al=>by simp at al; omega) fun _=>.idx rfl aa ?_
 rw [Lh,er.iJ]
 refine(AD h aw).bind fun aK aO=>?_
 subst aO
 have Sk:decide ((k:Int)≥0)=true:=by rw [decide_eq_true_eq]; omega
 rw [Sk]
 refine .c0 (P:=fun c=>c=k) (fun _=>⟨k,oS (by rw [h.lj]; exact aw),rfl⟩) fun bP cK=>?_
 rw [cK rfl]
 refine .c0 (P:=fun c=>c=ma s k) (fun _=>⟨_,aai h aw,rfl⟩) fun bb di=>?_
 rw [di rfl,Bool.true_and]
 refine .cond (fun aQ=>.ret (by rw [if_pos aQ])) fun aQ=>.idx rfl aa ?_
 rw [Lh]
 refine .eq (FI h aw aQ er).1 (.idx rfl aa ?_)
 rw [Lh]
 refine .eq rfl ?_
 rw [if_neg (by simp [aQ])]
 unfold zM
 simp only
 refine .bind (P:=fun e:(List bc×List bc) ⊕ Empty=>e= .inl (mQ s k l i,[])) (.bind (P:=fun e=> ∃ a b,e= .inl (a,b,mQ s k l i,[])) (bl.yI l.length (fun j st=>st=((j:Int),(mQ s k (l.take j) i,[]))) (by omega) rfl (fun j st aE hs=>?_) (fun st hs=>?_)) fun e he=>by obtain⟨a,b,rfl⟩:=he; exact .ret rfl) fun e he=>by subst he; exact .ret rfl
 ·subst hs
  refine .cond (fun _=>?_) (fun al=>by simp at al; omega)
  have aq:az l j∈l:=by rw [e0 _ aE]; exact List.getElem_mem _
  have R3:=(ao.ok _ aq).eV
  have hw:mQ s k (l.take (j+1)) i=if eS s k (az l j) i=true then mQ s k (l.take j) i++[lS s (az l j).bK] else mQ s k (l.take j) i:=by
   unfold mQ
   rw [sn l aE,List.filter_append]
   by_cases hb:eS s k (az l j) i=true
   ·rw [if_pos hb,show [az l j].filter (fun c=>eS s k c i)= [az l j] from by simp [hb],List.map_append]; rfl
   rw [if_neg hb,show [az l j].filter (fun c=>eS s k c i)= [] from by simp [hb],List.append_nil]
  refine .idx rfl aE (.eq (HQ h aw R3 er) (.cond (fun aR=>.ret ?_) fun hb=>.eq (FI h aw aQ R3).1 (.cond (fun _=>?_) fun al=>by cases al)))
  ·rw [Bool.not_eq_true'] at aR
   rw [hw,aR,eT (by omega)]; rfl
  rw [Bool.not_eq_false'] at hb
  have hle:=OP (s:=s) (k:=k) (l:=l.take j) (i:=i)
  rw [List.length_take] at hle
  refine .eq (a:=(Sum.inl (mQ s k (l.take j) i++[lS s (az l j).bK],[]):(List bc×List bc) ⊕ Empty)) ?_ ?_
  ·show(fV 128 (mQ s k (l.take j) i) [lS s (az l j).bK]).bind _=_
   rw [il _ _ (by simp; omega) (by omega)]; rfl
  simp only [Sum.elim_inl]
  refine .ret ?_
  rw [hw,if_pos hb,eT (by omega)]
 subst hs
 refine .cond (fun al=>by simp at al) fun _=>.ret ?_
 rw [List.take_length]
 exact⟨_,_,rfl⟩
theorem WT {s:a3} (h:db s) {k:Nat} (aw:k<4) {l:List aJ} (ao:iV s k l) (hlen:l.length≤16) {i:aJ} (ak:i∈l):
 bl (vv s l i.cH) (fun r=>(ma s k=true→r=(false,13))∧ (ma s k=false→r.2=0∧ (r.1=true↔nn (lS s i.bK) (mQ s k l i)))):=by
 unfold vv
 refine .eq (U4 h aw ao ak) ?_
 cases aQ:ma s k with
 | true=>
   refine .cond (fun _=>.ret ⟨fun _=>rfl,fun al=>by cases al⟩) fun al=>by simp at al
 | false=>
   refine .cond (fun al=>by simp at al) fun _=>?_
   simp only [Bool.false_eq_true,if_false]
   have hw:=OP (s:=s) (k:=k) (l:=l) (i:=i)
   refine(Ut _ _ (Py h aw aQ (ao.ok i ak).eV) (XC h aw aQ ao i) (by omega)).bind fun y a6=>.ret ⟨fun al=>(by cases al),fun _=>a6⟩
theorem Own.iff {hp hp':a1 Cell} {t:Nat} {c:fK} (al:fR hp t=some c) (h:∀ q,Own hp t q→pat hp' q=pat hp q):fR hp' t=some c∧ (∀ a5,c4 hp' c.cQ a5=c4 hp c.cQ a5)∧ ∀ q,Own hp' t q↔Own hp t q:=by
 have aa:fR hp' t=some c:=by rw [Ef (h t (.inl rfl))]; exact al
 have ad:∀ a5,c4 hp' c.cQ a5=c4 hp c.cQ a5:=fun a5=>Nt fun p cs hp=>vC (h p (.inr ⟨c,cs,al,hp⟩))
 refine⟨aa,ad,fun q=>⟨fun hq=>?_,fun hq=>?_⟩⟩
 ·rcases hq with rfl | ⟨iC,a5,av,aW⟩
  ·exact .inl rfl
  rw [aa] at av; cases av
  rw [ad] at aW
  exact .inr ⟨c,a5,al,aW⟩
 rcases hq with rfl | ⟨iC,a5,av,aW⟩
 ·exact .inl rfl
 rw [al] at av; cases av
 exact .inr ⟨c,a5,aa,by rw [ad]; exact aW⟩
theorem jg.congr {hp hp':a1 Cell} {t:Nat} {g:List Bool→Option Int} (h:jg hp t g) (bp:∀ q,Own hp t q→pat hp' q=pat hp q):jg hp' t g∧ ∀ q,Own hp' t q↔Own hp t q:=by
 obtain⟨c,al,hb,b1,bQ⟩:=h.ok
 obtain⟨aa,ad,aF⟩:=Own.iff al bp
 refine⟨⟨⟨c,aa,hb,⟨fun a5 p hp=>?_,fun a5 cs p av aW=>?_,fun a5 p av=>b1.dep a5 p (by rw [← ad]; exact av)⟩,fun a5=>?_⟩⟩,aF⟩
 ·rw [ad] at hp
  obtain⟨d,hd⟩:=b1.reads a5 p hp
  exact⟨d,by rw [vC (bp p (.inr ⟨c,a5,al,hp⟩))]; exact hd⟩
 ·rw [ad] at av aW
  exact b1.inj a5 cs p av aW
 rw [← bQ]
 cases e:c4 hp c.cQ a5 with
 | none=>rw [kv e,kv (by rw [ad]; exact e)]
 | some p=>
   obtain⟨d,hd⟩:=b1.reads a5 p e
   rw [kd e hd,kd (by rw [ad]; exact e) (by rw [vC (bp p (.inr ⟨c,a5,al,e⟩))]; exact hd)]
theorem jg.wg {hp:a1 Cell} {t:Nat} {g:List Bool→Option Int} (h:jg hp t g) {q:Nat} (hq:Own hp t q):q∈fh hp:=by
 obtain⟨c,al,hb,b1,bQ⟩:=h.ok
 rcases hq with rfl | ⟨iC,a5,av,aW⟩
 ·exact k7 (ss.1 al)
 rw [al] at av; cases av
 obtain⟨d,hd⟩:=b1.reads a5 q aW
 exact k7 (py.1 hd)
theorem jg.Fg {hp:a1 Cell} {t:Nat} {g:List Bool→Option Int} (h:jg hp t g) {q:Nat} (hq:Own hp t q):(∃ c,pat hp q=some (.j4 c))∨ ∃ c,pat hp q=some (.gk c):=by
 obtain⟨c,al,hb,b1,bQ⟩:=h.ok
 rcases hq with rfl | ⟨iC,a5,av,aW⟩
 ·exact .inl ⟨c,ss.1 al⟩
 rw [al] at av; cases av
 obtain⟨d,hd⟩:=b1.reads a5 q aW
 exact .inr ⟨d,py.1 hd⟩
def jt (a c:bC):Bool:=decide (a.ef=c.ef∧a.b4=c.b4∧a.ik=c.ik)
theorem yv {a c:bC} :jt a c=true↔a.ef=c.ef∧a.b4=c.b4∧a.ik=c.ik:=by unfold jt; rw [decide_eq_true_eq]
theorem E3 (a:bC):jt a a=true:=yv.2 ⟨rfl,rfl,rfl⟩
theorem E4 (a c:bC):jt a c=jt c a:=by
 rw [Bool.eq_iff_iff,yv,yv]
 exact⟨fun⟨x,y,z⟩=>⟨x.symm,y.symm,z.symm⟩,fun⟨x,y,z⟩=>⟨x.symm,y.symm,z.symm⟩⟩
theorem H7 {a c d:bC} (aa:jt a c=true) (ad:jt c d=true):jt a d=true:=by
 rw [yv] at *
 exact⟨aa.1.trans ad.1,aa.2.1.trans ad.2.1,aa.2.2.trans ad.2.2⟩
theorem OQ {a c:cA} (aa:a.g1=c.g1) (ad:a.bS=c.bS) (aF:a.b3=c.b3) (aX:a.fp=c.fp) (a0:a.l0=c.l0):a=c:=by
 cases a; cases c; simp_all
theorem OR {b:Int} {m p7:cA} (h:oo 1 b m) (dc:oo 1 b p7) (e:m.bS=p7.bS):m=p7:=
 OQ (by rw [h.C3 rfl,dc.C3 rfl]) e (by rw [h.gX (by decide),dc.gX (by decide)]) (by rw [h.RX (by decide),dc.RX (by decide)]) (by rw [h.GB (by decide),dc.GB (by decide)])
theorem XD {m p7:cA} (h:oo 2 32 m) (dc:oo 2 32 p7) (e:dC m.bS m.fp.toNat=dC p7.bS p7.fp.toNat):m=p7:=by
 have hp:=h.pre
 have hp':=dc.pre
 obtain⟨n,aR⟩:=Int.eq_ofNat_of_zero_le hp'.1
 rw [aR,Int.toNat_natCast] at e
 obtain⟨ay,aO⟩:=(Iy h (by omega)).1 e
 have cK:m.fp=p7.fp:=by omega
 have adr:m.g1=p7.g1:=by
  cases av:m.g1 <;> cases aW:p7.g1
  ·rfl
  ·have:=dc.RW rfl aW
   have:=h.off av
   have bT:(default:cA).fp=0:=rfl
   rw [this,bT] at cK; omega
  ·have:=h.RW rfl av
   have:=dc.off aW
   have bT:(default:cA).fp=0:=rfl
   rw [this,bT] at cK; omega
  rfl
 refine OQ adr (sN fun j aE=>?_) (by rw [h.gX (by decide),dc.gX (by decide)]) cK (by rw [h.GB (by decide),dc.GB (by decide)])
 cases ao:lead 32 m.fp j with
 | true=>exact(aO j aE ao).symm
 | false=>
   have nH:bA m.bS j=false:=by
    rw [Bool.eq_false_iff]; intro a2
    have:=h.K6 rfl j aE a2
    rw [(yu hp.1 hp.2).2 this] at ao; cases ao
   have pf:bA p7.bS j=false:=by
    rw [Bool.eq_false_iff]; intro a2
    have:=dc.K6 rfl j aE a2
    rw [cK,(yu hp'.1 hp'.2).2 this] at ao; cases ao
   rw [nH,pf]
theorem F3 {α:Type} [Inhabited α] {l:List α} (h:l.length=1):l= [az l 0]:=by
 match l,h with
 | [x],_=>rfl
theorem Rp {α:Type} [Inhabited α] {l:List α} (h:l.length=2):l= [az l 0,az l 1]:=by
 match l,h with
 | [x,y],_=>rfl
theorem C8 {s:a3} (h:db s) {a c:bC} (bp:ia s 0 a) (al:ia s 0 c):jt a c=true↔e7 a=e7 c:=by
 rw [yv]
 have q9:=bp.len; have lc:=al.len
 have Ds:=bp.q0 0; have Dt:=al.q0 0
 have GU:=bp.pri; have GV:=al.pri
 rw [h.QL] at q9 lc Ds Dt GU GV
 have aw:∀ i,i<[p6].length→ (az [p6] i).cS≤2:=by decide
 refine⟨fun⟨aa,ad,aF⟩=>by unfold e7; rw [ad],fun e=>⟨by rw [bp.iJ,al.iJ],?_,by rw [GU aw,GV aw]⟩⟩
 have kJ:=(Cg.1 e).1
 rw [lX (by decide),lX (by decide),q9,lc] at kJ
 have kJ:(az a.b4 0).bS=(az c.b4 0).bS:=kJ
 rw [F3 (l:=a.b4) q9,F3 (l:=c.b4) lc,OR (Ds (by decide)) (Dt (by decide)) kJ]
theorem za {s:a3} (h:db s) {a c:bC} (bp:ia s 1 a) (al:ia s 1 c):jt a c=true↔gC (e7 a)=gC (e7 c)∧jP a=jP c:=by
 rw [yv]
 have q9:=bp.len; have lc:=al.len
 have Ds:=bp.q0 1; have Dt:=al.q0 1
 have GU:=F1 h bp; have GV:=F1 h al
 have LV:=uU h bp; have ads:=uU h al
 obtain⟨b,hb⟩:=h.BQ
 rw [hb] at q9 lc Ds Dt
 refine⟨fun⟨aa,ad,aF⟩=>by unfold e7 jP; rw [ad]; exact⟨rfl,rfl⟩,fun⟨e,e'⟩=>⟨by rw [bp.iJ,al.iJ],?_,by rw [GU,GV]⟩⟩
 have bT:=XD LV ads e'
 cases b
 ·rw [F3 (l:=a.b4) q9,F3 (l:=c.b4) lc,bT]
 have ay:=(Cg.1 e).2.1
 rw [E1,E1,if_neg (by decide),if_neg (by decide),lX (by decide),lX (by decide),q9,lc] at ay
 have ay:(az a.b4 1).bS=(az c.b4 1).bS:=ay
 rw [Rp (l:=a.b4) q9,Rp (l:=c.b4) lc,bT,OR (Ds (by decide)) (Dt (by decide)) ay]
end Go.Proofs.YthkfkliknjiecaaGreat
