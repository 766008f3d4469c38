/-
  What the programs compute, in plain Lean. Conditions: none.
-/
import Derived.Test.YtppgfphgdogpeaaGreatMl0
import Derived.Test.YtppgfphgdogpeaaGreatMl1
import Derived.Test.YtppgfphgdogpeaaGreatMd
set_option linter.unusedVariables false
set_option linter.unusedSimpArgs false
set_option maxRecDepth 100000
namespace Gv
open Go
theorem SS {σ ε:Type}{body:σ→Option (σ ⊕ ε)}{Q:ε→Prop}{cg:σ}(m:Nat)(fI:Nat→σ→Prop)
 (hm:m<2 ^ 80) (bq:fI 0 cg)
 (hs:∀ k s,k<m→fI k s→ (∃ cf,body s=some (.inl cf)∧fI (k+1) cf)∨ (∃ e,body s=some (.inr e)∧Q e))
 (he:∀ s,fI m s→ ∃ e,body s=some (.inr e)∧Q e):∃ e,dx dt body cg=some e∧Q e:=by
 have key:∀ n k s,k≤m→m - k<n→fI k s→ ∃ e,dx n body s=some e∧Q e:=by
  intro n;induction n with
  | zero=>intro k s _ h;omega
  | succ n b2=>
    intro k s hk aH ao
    by_cases Gn:k=m
    ·subst Gn
     obtain⟨e,h1,ab⟩:=he s ao
     exact⟨e,by simp [dx,h1],ab⟩
    rcases hs k s (by omega) ao with⟨cf,h1,ab⟩ | ⟨e,h1,ab⟩
    ·obtain⟨e,ax,aO⟩:=b2 (k+1) cf (by omega) (by omega) ab
     exact⟨e,by simp [dx,h1,ax],aO⟩
    exact⟨e,by simp [dx,h1],ab⟩
 exact key dt 0 cg (by omega) (by unfold dt;omega) bq
def bd {β:Type}(m:Option β)(P:β→Prop):Prop:= ∃ r,m=some r∧P r
theorem bd.ret {β:Type}{P:β→Prop}{r:β}(h:P r):bd (some r) P:=⟨r,rfl,h⟩
theorem bd.bind {α β:Type}{m:Option α}{f:α→Option β}{P:α→Prop}{Q:β→Prop}(h:bd m P)(k:∀ a,P a→bd (f a) Q):bd (m.bind f) Q:=by
 obtain⟨a,h1,ab⟩:=h;rw [h1];exact k a ab
theorem bd.eq {α β:Type}{m:Option α}{a:α}{f:α→Option β}{Q:β→Prop}(h:m=some a)(k:bd (f a) Q):bd (m.bind f) Q:=by
 rw [h];exact k
theorem bd.mono {β:Type}{m:Option β}{P Q:β→Prop}(h:bd m P)(k:∀ a,P a→Q a):bd m Q:=by
 obtain⟨a,h1,ab⟩:=h;exact⟨a,h1,k a ab⟩
theorem bd.of_eq {β:Type}{m:Option β}{r:β}{P:β→Prop}(h:bd m P)(k:m=some r):P r:=by
 obtain⟨a,h1,ab⟩:=h;rw [k] at h1;cases h1;exact ab
theorem bd.cond {β:Type}{b:Bool}{m n:Option β}{P:β→Prop}(h1:b=true→bd m P)(ab:b=false→bd n P):bd (cond b m n) P:=by
 cases b
 ·exact ab rfl
 exact h1 rfl
theorem bd.cb {α β:Type}[Inhabited α]{b w:Bool}{m:Option α}{f:α→Option β}{P:α→Prop}{Q:β→Prop}(h:b=w→bd m P)(k:∀ a,(b=w→P a)→bd (f a) Q):bd ((cb b w m).bind f) Q:=by
 unfold Gv.cb;by_cases hb:b=w
 ·rw [if_pos hb];exact(h hb).bind fun a aW=>k a fun _=>aW
 rw [if_neg hb];exact k default fun h=>absurd h hb
theorem bd.loop {σ ε β:Type}{body:σ→Option (σ ⊕ ε)}{f:ε→Option β}{P:β→Prop}{cg:σ}(m:Nat)(fI:Nat→σ→Prop)
 (hm:m<2 ^ 80) (bq:fI 0 cg)
 (hs:∀ k s,k<m→fI k s→bd (body s) (fun x=>match x with | .inl cf=>fI (k+1) cf | .inr e=>bd (f e) P))
 (he:∀ s,fI m s→ ∃ e,body s=some (.inr e)∧bd (f e) P):bd ((dx dt body cg).bind f) P:=by
 obtain⟨e,h1,ab⟩:=SS (Q:=fun e=>bd (f e) P) m fI hm bq (fun k s hk ao=>by
  obtain⟨r,h1,ab⟩:=hs k s hk ao;cases r with
  | inl cf=>exact .inl ⟨cf,h1,ab⟩
  | inr e=>exact .inr ⟨e,h1,ab⟩) he
 rw [h1];exact ab
theorem bd.jl {σ ε:Type}{body:σ→Option (σ ⊕ ε)}{P:ε→Prop}{cg:σ}(m:Nat)(fI:Nat→σ→Prop)
 (hm:m<2 ^ 80) (bq:fI 0 cg)
 (hs:∀ k s,k<m→fI k s→bd (body s) (fun x=>match x with | .inl cf=>fI (k+1) cf | .inr e=>P e))
 (he:∀ s,fI m s→bd (body s) (fun x=>match x with | .inl _=>False | .inr e=>P e)):bd (dx dt body cg) P:=by
 obtain⟨e,h1,ab⟩:=SS (Q:=P) m fI hm bq (fun k s hk ao=>by
  obtain⟨r,h1,ab⟩:=hs k s hk ao;cases r with
  | inl cf=>exact .inl ⟨cf,h1,ab⟩
  | inr e=>exact .inr ⟨e,h1,ab⟩) fun s ao=>by
  obtain⟨r,h1,ab⟩:=he s ao;cases r with
  | inl cf=>exact ab.elim
  | inr e=>exact⟨e,h1,ab⟩
 exact⟨e,h1,ab⟩
theorem bd.idx {β:Type}{n:Nat}{i:Int}{k:Nat}{f:Nat→Option β}{Q:β→Prop}(ao:i=k)(hk:k<n)(h:bd (f k) Q):bd ((Gv.idx n i).bind f) Q:=by
 subst ao;have:Gv.idx n (k:Int)=some k:=by unfold Gv.idx;rw [if_pos (by omega)];simp
 rw [this];exact h
theorem jA {α:Type}[Inhabited α]{n:Nat}(v:Vector α n){k:Nat}(x:α)(hk:k<n)(j:Nat):b5 (eb v k x) j=if j=k then x else b5 v j:=by
 unfold b5 eb;by_cases h:j=k
 ·subst h;simp [hk]
 rw [if_neg h,Vector.getElem?_setIfInBounds_ne (by omega)]
theorem SU {α:Type}[Inhabited α]{n:Nat}{v w:Vector α n}(h:∀ j,j<n→b5 v j=b5 w j):v=w:=by
 apply Vector.ext;intro i ao;have:=h i ao;simpa [b5,ao] using this
theorem HP {α:Type}[Inhabited α]{n:Nat}(j:Nat):b5 (default:Vector α n) j=default:=by
 show b5 (Vector.replicate n default) j=default;unfold b5;by_cases h:j<n <;> simp [h]
theorem kY {n k:Nat}(h:k<n):idx n (k:Int)=some k:=by
 unfold idx;rw [if_pos (by omega)];simp
theorem uT {n:Nat}{i:Int}(h:0≤i)(cL:i<n):idx n i=some i.toNat:=by
 unfold idx;rw [if_pos ⟨h,cL⟩]
theorem dR {k:Nat}(h:k<2 ^ 62):bk ((k:Int)+1)=((k+1:Nat):Int):=by
 rw [gA (by omega) (by omega)];simp
theorem tB {k:Nat}(h:k<2 ^ 64):(BitVec.ofInt 64 (k:Int)).toNat=k:=by
 simp;omega
theorem TO (x:BitVec 64):((x&&&1#64)==1#64)=x.getLsbD 0:=by
 rw [BitVec.and_one_eq_setWidth_ofBool_getLsbD];cases x.getLsbD 0 <;> rfl
theorem adM (x:BitVec 64)(n:Nat):(((x >>> n)&&&1#64)==1#64)=x.getLsbD n:=by
 rw [TO];simp
theorem Bq {α β:Type}[Inhabited α][Inhabited β](f:α→β){l:List α}{k:Nat}(hk:k<l.length):au (l.map f) k=f (au l k):=by
 rw [dm l hk,dm _ (by simpa using hk),List.getElem_map]
theorem mK {α:Type}[Inhabited α](l:List α){k:Nat}(hk:k<l.length):l.take (k+1)=l.take k++[au l k]:=by
 rw [List.take_add_one,List.getElem?_eq_getElem hk,dm l hk];rfl
theorem TP {α:Type}[Inhabited α]{xs:List α}{p:α→Bool}{k:Nat}(hk:k<xs.length)(hp:p (au xs k)=true)(aB:∀ j,j<k→p (au xs j)=false):xs.find? p=some (au xs k):=by
 rw [List.find?_eq_some_iff_getElem];refine⟨hp,k,hk,(dm xs hk).symm,fun j tb=>?_⟩;have:=aB j tb;rw [dm xs (by omega)] at this;simp [this]
theorem TQ {α:Type}{xs:List α}{p:α→Bool}(h:∀ x∈xs,p x=false):xs.find? p=none:=
 List.find?_eq_none.2 fun x al=>by simp [h x al]
theorem acO {α ε β:Type}[Inhabited α](xs:List α)(p:α→Bool){body:Int→Option (Int ⊕ ε)}{f:ε→Option β}{P:β→Prop}(ak:xs.length<2 ^ 62)
 (Pe:∀ k:Nat,k<xs.length→p (au xs k)=false→body k=some (.inl (bk ((k:Int)+1))))
 (agc:∀ k:Nat,k<xs.length→xs.find? p=some (au xs k)→p (au xs k)=true→ ∃ e,body k=some (.inr e)∧bd (f e) P)
 (oR:xs.find? p=none→ ∃ e,body (xs.length:Int)=some (.inr e)∧bd (f e) P):bd ((dx dt body 0).bind f) P:=by
 refine bd.loop xs.length (fun k s=>s=(k:Int)∧ ∀ j,j<k→p (au xs j)=false) (by omega) ⟨rfl,fun j aB=>by omega⟩ (fun k s hk ao=>?_) (fun s ao=>?_)
 ·obtain⟨rfl,aU⟩:=ao
  by_cases hp:p (au xs k)=true
  ·obtain⟨e,h1,ab⟩:=agc k hk (TP hk hp aU) hp
   rw [h1];exact .ret ab
  simp only [Bool.not_eq_true] at hp
  rw [Pe k hk hp]
  refine .ret ⟨dR (by omega),fun j aB=>?_⟩
  by_cases tb:j=k
  ·subst tb;exact hp
  exact aU j (by omega)
 obtain⟨rfl,aU⟩:=ao
 refine oR (TQ fun x al=>?_)
 obtain⟨j,aB,rfl⟩:=List.mem_iff_getElem.1 al
 rw [← dm xs aB];exact aU j aB
def cy {α:Type}(m:ag α)(P:α→Prop):Prop:= ∀ Q:α→Prop,(∀ r,P r→Q r)→m Q
theorem cy.run {α:Type}{m:ag α}{P:α→Prop}(h:cy m P):m P:=h P fun _ h=>h
theorem cy.ret {α:Type}{P:α→Prop}{x:α}(h:P x):cy (ag.ret x) P:=fun Q k=>k x h
theorem cy.bind {α β:Type}{m:ag α}{f:α→ag β}{P:α→Prop}{tq:β→Prop}(h:cy m P)(k:∀ r,P r→cy (f r) tq):cy (ag.bind m f) tq:=fun Q hq=>h _ fun r aA=>k r aA Q hq
theorem cy.of {α:Type}{o:Option α}{P:α→Prop}(h:bd o P):cy (ag.of o) P:=fun Q hq=>let⟨r,h1,ab⟩:=h; ⟨r,h1,hq r ab⟩
theorem cy.gh {α β:Type}{o:Option α}{f:α→ag β}{P:α→Prop}{tq:β→Prop}(h:bd o P)(k:∀ r,P r→cy (f r) tq):cy (ag.bind (ag.of o) f) tq:= .bind (.of h) k
theorem cy.eq {α β:Type}{o:Option α}{a:α}{f:α→ag β}{tq:β→Prop}(h:o=some a)(k:cy (f a) tq):cy (ag.bind (ag.of o) f) tq:=fun Q hq=>⟨a,h,k Q hq⟩
theorem cy.mono {α:Type}{m:ag α}{P tq:α→Prop}(h:cy m P)(k:∀ r,P r→tq r):cy m tq:=fun Q hq=>h Q fun r aA=>hq r (k r aA)
theorem cy.cond {α:Type}{b:Bool}{m n:ag α}{P:α→Prop}(h1:b=true→cy m P)(ab:b=false→cy n P):cy (cond b m n) P:=by
 cases b
 ·exact ab rfl
 exact h1 rfl
theorem cy.cb {α β:Type}[Inhabited α]{b w:Bool}{m:Option α}{f:α→ag β}{P:α→Prop}{Q:β→Prop}(h:b=w→bd m P)(k:∀ a,(b=w→P a)→cy (f a) Q):cy (ag.bind (ag.of (cb b w m)) f) Q:=by
 unfold Gv.cb;by_cases hb:b=w
 ·rw [if_pos hb];exact .gh (h hb) fun a aW=>k a fun _=>aW
 rw [if_neg hb];exact .eq rfl (k default fun h=>absurd h hb)
theorem cy.idx {β:Type}{n:Nat}{i:Int}{k:Nat}{f:Nat→ag β}{Q:β→Prop}(ao:i=k)(hk:k<n)(h:cy (f k) Q):cy (ag.bind (ag.of (Gv.idx n i)) f) Q:=by
 subst ao;exact .eq (kY hk) h
theorem cy.mk {bC β:Type}{hp:aG bC}{c:bC}{f:Nat×aG bC→ag β}{P:β→Prop}(k:∀ p,p ∉ dI hp→cy (f (p,(p,c)::hp)) P):cy (ag.bind (ag.mk hp c) f) P:=fun Q hq=>fun a aW=>by
 obtain⟨p,hp'⟩:=a;obtain⟨h1,ab⟩:=aW;simp only at h1 ab;subst ab;exact k p h1 Q hq
theorem cy.any {α β:Type}{f:α→ag β}{P:β→Prop}(k:∀ x,cy (f x) P):cy (ag.bind (ag.any α) f) P:=fun Q hq x=>k x Q hq
theorem cy.loop {σ ε:Type}{body:σ→ag (σ ⊕ ε)}{P:ε→Prop}{cg:σ}(m:Nat)(fI:Nat→σ→Prop)(hm:m<2 ^ 80)(bq:fI 0 cg)
 (hs:∀ k s,k<m→fI k s→cy (body s) (fun x=>match x with | .inl cf=>fI (k+1) cf | .inr e=>P e))
 (he:∀ s,fI m s→cy (body s) (fun x=>match x with | .inl _=>False | .inr e=>P e)):cy (nx dt body cg) P:=by
 have key:∀ n k s,k≤m→m - k<n→fI k s→cy (nx n body s) P:=by
  intro n;induction n with
  | zero=>intro k s _ h;omega
  | succ n b2=>
    intro k s hk aH ao Q hq
    by_cases Gn:k=m
    ·subst Gn
     exact he s ao _ fun r aA=>by
      cases r with
      | inl cf=>exact aA.elim
      | inr e=>exact hq e aA
    exact hs k s (by omega) ao _ fun r aA=>by
     cases r with
     | inl cf=>exact b2 (k+1) cf (by omega) (by omega) aA Q hq
     | inr e=>exact hq e aA
 exact key dt 0 cg (by omega) (by unfold dt;omega) bq
theorem kJ {bC:Type}{hp:aG bC}{p q:Nat}{k:bC} :pat ((p,k)::hp) q=if p=q then some k else pat hp q:=rfl
theorem adN {bC:Type}{hp:aG bC}{p:Nat}(h:p ∉ dI hp):pat hp p=none:=by
 cases e:pat hp p with
 | none=>rfl
 | some k=>exact absurd (jM e) h
theorem rI {bC:Type}{hp:aG bC}{p:Nat}{k k':bC}(h:pat hp p=some k'):pat (ct hp p k) p=some k:=by rw [EM,if_pos rfl,h];rfl
theorem mq {bC:Type}{hp:aG bC}{p q:Nat}{k:bC}(h:p≠q):pat (ct hp p k) q=pat hp q:=by rw [EM,if_neg h]
theorem uG {α β:Type}[DecidableEq α]{l:List (α×β)}{x y:α}{v:β} :dD (gn l x v) y=if y=x then some v else dD l y:=by
 induction l with
 | nil=>
   show(if y=x then some v else dD [] y)=_
   rfl
 | cons a r b2=>
   obtain⟨k,w⟩:=a
   simp only [gn]
   by_cases h:x=k
   ·rw [if_pos h]
    simp only [dD]
    by_cases ab:y=x
    ·simp [ab]
    simp [ab,show ¬ y=k from fun e=>ab (by rw [e,h])]
   rw [if_neg h]
   simp only [dD]
   by_cases ab:y=k
   ·subst ab;simp [show ¬ y=x from fun e=>h e.symm]
   rw [if_neg ab,b2,if_neg ab]
end Gv
namespace Go.Proofs.YtppgfphgdogpeaaGreat
open Go Gv
def fK (b:Bool):Nat:=bif b then 1 else 0
def cV (hp:aG Cell):Ref→List Bool→Ref
 | none,_=>none
 | some p,[]=>some p
 | some p,b::a8=>match cK hp p with
   | none=>none
   | some c=>cV hp (b5 c.dA (fK b)) a8
theorem hr {hp:aG Cell}{a8:List Bool} :cV hp none a8=none:=by cases a8 <;> rfl
theorem p6 {hp:aG Cell}{r:Ref} :cV hp r []=r:=by cases r <;> rfl
theorem iG {hp:aG Cell}{p:Nat}{c:ek}{b:Bool}{a8:List Bool}(h:cK hp p=some c):cV hp (some p) (b::a8)=cV hp (b5 c.dA (fK b)) a8:=by
 show(match cK hp p with | none=>none | some c=>cV hp (b5 c.dA (fK b)) a8)=_;rw [h]
theorem oE {hp:aG Cell} :∀ {r:Ref} {a8 cs:List Bool},cV hp r (a8++cs)=cV hp (cV hp r a8) cs
 | none,a8,cs=>by rw [hr,hr,hr]
 | some p,[],cs=>by rw [List.nil_append,p6]
 | some p,b::a8,cs=>by
   cases e:cK hp p with
   | none=>
     have h1:∀ xs,cV hp (some p) (b::xs)=none:=fun xs=>by
      show(match cK hp p with | none=>none | some c=>cV hp (b5 c.dA (fK b)) xs)=_;rw [e]
     rw [List.cons_append,h1,h1,hr]
   | some c=>rw [List.cons_append,iG e,iG e,oE]
theorem Sl {hp hp':aG Cell} :∀ {r:Ref} {a8:List Bool},(∀ p cs,cV hp r cs=some p→cK hp' p=cK hp p)→cV hp' r a8=cV hp r a8
 | none,a8,_=>by rw [hr,hr]
 | some p,[],_=>rfl
 | some p,b::a8,h=>by
   have bq:=h p [] rfl;show(match cK hp' p with | none=>none | some c=>cV hp' (b5 c.dA (fK b)) a8)=(match cK hp p with | none=>none | some c=>cV hp (b5 c.dA (fK b)) a8);rw [bq];cases e:cK hp p with
   | none=>rfl
   | some c=>
     refine Sl fun q cs hq=>h q (b::cs) ?_
     rw [iG e];exact hq
structure qT (hp:aG Cell)(root:Ref):Prop where
 reads:∀ a8 p,cV hp root a8=some p→ ∃ c,cK hp p=some c
 inj:∀ a8 cs p,cV hp root a8=some p→cV hp root cs=some p→a8=cs
 dep:∀ a8 p,cV hp root a8=some p→a8.length≤32
def cont (hp:aG Cell)(root:Ref)(a8:List Bool):Option Int:=match cV hp root a8 with
 | none=>none
 | some p=>match cK hp p with
   | none=>none
   | some c=>bif c.ga then some c.kA else none
theorem lM {hp:aG Cell}{root:Ref}{a8:List Bool}{p:Nat}{c:ek}(h:cV hp root a8=some p)(ad:cK hp p=some c):cont hp root a8=bif c.ga then some c.kA else none:=by
 unfold cont;rw [h];simp only [ad]
theorem mu {hp:aG Cell}{root:Ref}{a8:List Bool}(h:cV hp root a8=none):cont hp root a8=none:=by
 unfold cont;rw [h]
theorem rA {hp:aG Cell}{p:Nat}{c:ek} :cK hp p=some c↔pat hp p=some (.gE c):=by
 refine⟨oF,fun h=>?_⟩;unfold cK;rw [h]
theorem uH {hp:aG Cell}{p:Nat}{c:hl} :gm hp p=some c↔pat hp p=some (.k1 c):=by
 refine⟨wQ,fun h=>?_⟩;unfold gm;rw [h]
theorem yw {hp hp':aG Cell}{p:Nat}(h:pat hp' p=pat hp p):cK hp' p=cK hp p:=by unfold cK;rw [h]
theorem HW {hp hp':aG Cell}{p:Nat}(h:pat hp' p=pat hp p):gm hp' p=gm hp p:=by unfold gm;rw [h]
structure eT (hp hp':aG Cell)(own:Nat→Prop):Prop where
 keys:∀ q,q∈dI hp→q∈dI hp'
 rest:∀ q,q∈dI hp→ ¬ own q→pat hp' q=pat hp q
theorem eT.refl {hp:aG Cell}{own:Nat→Prop} :eT hp hp own:=⟨fun _ h=>h,fun _ _ _=>rfl⟩
theorem eT.mk' {hp:aG Cell}{own:Nat→Prop}{a:Nat}{k:Cell}(aW:a ∉ dI hp):eT hp ((a,k)::hp) own:=
 ⟨fun q h=>List.mem_cons_of_mem _ h,fun q h _=>by rw [kJ,if_neg (fun e:a=q=>aW (by rw [e];exact h))]⟩
theorem eT.up {hp:aG Cell}{own:Nat→Prop}{p:Nat}{k:Cell}(hp':own p):eT hp (ct hp p k) own:=
 ⟨fun q h=>by rw [qQ];exact h,fun q h hq=>mq (fun e:p=q=>hq (by rw [← e];exact hp'))⟩
theorem eT.trans {h1 ab ax:aG Cell}{own own':Nat→Prop}(a:eT h1 ab own)(b:eT ab ax own')(bg:∀ q,q∈dI h1→own' q→own q):eT h1 ax own:=
 ⟨fun q h=>b.keys q (a.keys q h),fun q h hq=>by rw [b.rest q (a.keys q h) fun cL=>hq (bg q h cL),a.rest q h hq]⟩
theorem acP (b:Bool):b5 (default:ek).dA (fK b)=none:=by cases b <;> rfl
theorem Sm {hp:aG Cell}{a:Nat}(h:cK hp a=some (default:ek)):∀ a8,cV hp (some a) a8=if a8= [] then some a else none
 | []=>rfl
 | b::a8=>by rw [iG h,acP,hr];rfl
theorem LR {hp hp':aG Cell}{root:Ref}{ws:List Bool}{b:Bool}{p a:Nat}{c:ek}(bw:qT hp root)(hw:cV hp root ws=some p)(ad:cK hp p=some c)(aH:b5 c.dA (fK b)=none)(aW:cK hp a=none)
 (bH:cK hp' p=some { c with dA:=eb c.dA (fK b) (some a) }) (cE:cK hp' a=some default) (hZ:∀ q,q≠p→q≠a→cK hp' q=cK hp q):
 ∀ (a8 us:List Bool) (q:Nat),cV hp root us=some q→cV hp' (some q) a8=if us++a8=ws++[b] then some a else cV hp (some q) a8
 | [],us,q,hu=>by
   have: ¬ us++[]=ws++[b]:=fun e=>by
    rw [List.append_nil] at e;rw [e,oE,hw,iG ad,aH,hr] at hu;cases hu
   rw [if_neg this];rfl
 | x::xs,us,q,hu=>by
   obtain⟨wj,pQ⟩:=bw.reads us q hu;have rf:q≠a:=fun e=>by rw [e,aW] at pQ;cases pQ
   by_cases Gx:q=p
   ·subst Gx;have PA:=bw.inj us ws q hu hw;subst PA;rw [ad] at pQ;cases pQ;rw [iG bH,iG ad];simp only;have cj:fK b<2:=by cases b <;> decide
    rw [jA _ _ cj];by_cases zR:x=b
    ·subst zR;rw [if_pos rfl,aH,hr,Sm cE];by_cases h:xs= []
     ·subst h;rw [if_pos rfl,if_pos rfl]
     rw [if_neg h,if_neg fun e=>h ?_];have:=List.append_cancel_left e;simpa using this
    have de: ¬ fK x=fK b:=fun e=>zR (by cases x <;> cases b <;> first | rfl | cases e);have fx: ¬ us++x::xs=us++[b]:=fun e=>zR (by have:=List.append_cancel_left e;simpa using (List.cons.inj this).1);rw [if_neg de,if_neg fx];cases e:b5 c.dA (fK x) with
    | none=>rw [hr,hr]
    | some nN=>
      have oj:cV hp root (us++[x])=some nN:=by rw [oE,hu,iG ad,e,p6]
      rw [LR bw hw ad aH aW bH cE hZ xs (us++[x]) nN oj,List.append_assoc,List.singleton_append,if_neg fx]
   have h1:cK hp' q=some wj:=by rw [hZ q Gx rf];exact pQ
   rw [iG h1,iG pQ];cases e:b5 wj.dA (fK x) with
   | none=>
     have fx: ¬ us++x::xs=ws++[b]:=fun aU=>by
      have amQ:cV hp root (us++[x])=none:=by rw [oE,hu,iG pQ,e,hr]
      rcases List.eq_nil_or_concat xs with rfl | ⟨ys,y,rfl⟩
      ·have:=(List.append_inj_left' aU rfl);subst this;rw [hu] at hw;cases hw;exact Gx rfl
      have ax:us++x::ys=ws:=by
       have:(us++x::ys)++[y]=ws++[b]:=by simpa using aU
       exact List.append_inj_left' this rfl
      rw [← ax,show us++x::ys=(us++[x])++ys by simp,oE,amQ,hr] at hw;cases hw
     rw [hr,hr,if_neg fx]
   | some nN=>
     have oj:cV hp root (us++[x])=some nN:=by rw [oE,hu,iG pQ,e,p6]
     rw [LR bw hw ad aH aW bH cE hZ xs (us++[x]) nN oj,List.append_assoc,List.singleton_append]
theorem grow {hp hp':aG Cell}{r:Nat}{ws:List Bool}(hd:ws.length<32){b:Bool}{p a:Nat}{c:ek}(bw:qT hp (some r))(hw:cV hp (some r) ws=some p)(ad:cK hp p=some c)(aH:b5 c.dA (fK b)=none)(aW:cK hp a=none)
 (bH:cK hp' p=some { c with dA:=eb c.dA (fK b) (some a) }) (cE:cK hp' a=some default) (hZ:∀ q,q≠p→q≠a→cK hp' q=cK hp q):
 qT hp' (some r)∧ (∀ a8,cV hp' (some r) a8=if a8=ws++[b] then some a else cV hp (some r) a8)∧ ∀ a8,cont hp' (some r) a8=cont hp (some r) a8:=by
 have aT:∀ a8,cV hp' (some r) a8=if a8=ws++[b] then some a else cV hp (some r) a8:=fun a8=>LR bw hw ad aH aW bH cE hZ a8 [] r rfl
 have Kh:∀ a8,cV hp (some r) a8≠some a:=fun a8 h=>by
  obtain⟨c,h1⟩:=bw.reads a8 a h;rw [aW] at h1;cases h1
 have PB:cV hp (some r) (ws++[b])=none:=by rw [oE,hw,iG ad,aH,hr]
 refine⟨⟨fun a8 q h=>?_,fun a8 cs q h1 ab=>?_,fun a8 q h=>?_⟩,aT,fun a8=>?_⟩
 ·rw [aT] at h
  split at h
  ·cases h;exact⟨_,cE⟩
  obtain⟨fP,h1⟩:=bw.reads a8 q h
  by_cases e:q=p
  ·subst e;exact⟨_,bH⟩
  exact⟨fP,by rw [hZ q e fun aU=>Kh a8 (aU ▸ h)];exact h1⟩
 ·rw [aT] at h1 ab
  split at h1 <;> split at ab
  ·rename_i ar aU;rw [ar,aU]
  ·cases h1;exact absurd ab (Kh cs)
  ·cases ab;exact absurd h1 (Kh a8)
  exact bw.inj a8 cs q h1 ab
 ·rw [aT] at h
  split at h
  ·rename_i e;rw [e];simp;omega
  exact bw.dep a8 q h
 by_cases e:a8=ws++[b]
 ·subst e
  rw [mu PB,lM (by rw [aT,if_pos rfl]) cE];rfl
 have vR:cV hp' (some r) a8=cV hp (some r) a8:=by rw [aT,if_neg e]
 cases h:cV hp (some r) a8 with
 | none=>rw [mu h,mu (vR.trans h)]
 | some q=>
   obtain⟨fP,h1⟩:=bw.reads a8 q h
   by_cases eq:q=p
   ·subst eq
    rw [ad] at h1;cases h1
    rw [lM h ad,lM (vR.trans h) bH]
   rw [lM h h1,lM (vR.trans h) (by rw [hZ q eq fun aU=>Kh a8 (aU ▸ h)];exact h1)]
theorem EH {hp hp':aG Cell}{p:Nat}{c fP:ek}(ad:cK hp p=some c)(ot:cK hp' p=some fP)(he:fP.dA=c.dA)(h:∀ q,q≠p→cK hp' q=cK hp q):∀ (a8:List Bool) (r:Ref),cV hp' r a8=cV hp r a8
 | a8,none=>by rw [hr,hr]
 | [],some q=>rfl
 | b::a8,some q=>by
   by_cases e:q=p
   ·subst e;rw [iG ad,iG ot,he];exact EH ad ot he h a8 _
   cases aU:cK hp q with
   | none=>
     show(match cK hp' q with | none=>none | some c=>cV hp' (b5 c.dA (fK b)) a8)=(match cK hp q with | none=>none | some c=>cV hp (b5 c.dA (fK b)) a8)
     rw [h q e,aU]
   | some d=>rw [iG aU,iG (by rw [h q e];exact aU)];exact EH ad ot he h a8 _
theorem Xp {hp hp':aG Cell}{root:Ref}{ws:List Bool}{p:Nat}{c fP:ek}(bw:qT hp root)(hw:cV hp root ws=some p)(ad:cK hp p=some c)(ot:cK hp' p=some fP)(he:fP.dA=c.dA)(h:∀ q,q≠p→cK hp' q=cK hp q):
 qT hp' root∧ ∀ a8,cont hp' root a8=if a8=ws then(bif fP.ga then some fP.kA else none) else cont hp root a8:=by
 have aT:=EH ad ot he h
 refine⟨⟨fun a8 q hq=>?_,fun a8 cs q h1 ab=>bw.inj a8 cs q (by rw [← aT];exact h1) (by rw [← aT];exact ab),fun a8 q hq=>bw.dep a8 q (by rw [← aT];exact hq)⟩,fun a8=>?_⟩
 ·rw [aT] at hq
  obtain⟨d,h1⟩:=bw.reads a8 q hq
  by_cases e:q=p
  ·subst e;exact⟨_,ot⟩
  exact⟨d,by rw [h q e];exact h1⟩
 by_cases e:a8=ws
 ·subst e;rw [if_pos rfl,lM (by rw [aT];exact hw) ot]
 rw [if_neg e]
 cases h1:cV hp root a8 with
 | none=>rw [mu h1,mu (by rw [aT];exact h1)]
 | some q=>
   obtain⟨d,ab⟩:=bw.reads a8 q h1
   have Gx:q≠p:=fun aU=>e (bw.inj a8 ws p (aU ▸ h1) hw)
   rw [lM h1 ab,lM (by rw [aT];exact h1) (by rw [h q Gx];exact ab)]
theorem fM {α:Type}{b:Nat}(xs ys:List α)(h:xs.length+ys.length≤1000000)(hb:b≤100000):eA b xs ys=some (xs++ys):=by
 unfold eA;rw [if_pos];unfold maxLen;refine⟨Nat.le_trans (Nat.mul_le_mul h hb) (by omega),by omega⟩
def hR (c:eg):Prop:=0≤c.vn∧c.dd.length≤1000
theorem Ml (l:List (BitVec 8))(n:Int)(bq:0≤n)(h1:n≤1000):bd (yt l n) hR:=by
 unfold yt;refine .eq (a:=(l.drop 0).take ((min (l.length:Int) n).toNat - 0)) ?_ (.ret ⟨Int.le_refl 0,?_⟩)
 ·unfold l3;rw [if_pos ⟨by omega,by omega,by omega⟩];rfl
 simp only [List.length_take,List.length_drop];omega
theorem gy (c:eg)(n:Int)(ad:hR c)(aH:1≤n):bd (fz c n) (fun r=>hR r.2∧0≤r.1∧r.1<n∧r.1<256):=by
 unfold fz HE;obtain⟨l,a⟩:=c;obtain⟨bq,h1⟩:=ad;simp only at bq h1;obtain⟨k,rfl⟩:=Int.eq_ofNat_of_zero_le bq;refine .eq rfl (.cond (fun _=>.ret ⟨⟨bq,h1⟩,by omega,by omega,by omega⟩) fun h=>?_);simp only [Bool.or_eq_false_iff,Bool.not_eq_false',decide_eq_true_eq,decide_eq_false_iff_not] at h;have ar:bk ((k:Int)+1)=((k+1:Nat):Int):=dR (by omega);simp only [ar];have aU:bk (((k+1:Nat):Int) - 1)=(k:Int):=by rw [gA (by omega) (by omega)];omega
 rw [aU];refine .idx rfl (by omega) (.eq (by unfold tY;rw [if_neg (by omega)]) (.ret ⟨⟨by simp only;omega,h1⟩,?_,?_,?_⟩))
 ·exact Int.tmod_nonneg _ (by omega)
 ·exact Int.tmod_lt_of_pos _ (by omega)
 simp only;have ax:(au l k).toNat<256:=(au l k).isLt;obtain⟨m,rfl⟩:=Int.eq_ofNat_of_zero_le (show 0≤n by omega);have aO:(((au l k).toNat:Int)).tmod m=(((au l k).toNat % m:Nat):Int):=(Int.ofNat_tmod _ _).symm;have a7:=Nat.mod_le (au l k).toNat m;omega
theorem pd (c:eg)(ad:hR c):bd (mJ c) (fun r=>hR r.2):=by
 unfold mJ;exact .bind (gy c 2 ad (by omega)) fun y h=>.ret h.1
theorem acb (c:eg)(ad:hR c):bd (Dw c) (fun r=>hR r.2∧r.1.length=3):=by
 unfold Dw;refine .bind (gy c 4 ad (by omega)) fun an h1=>?_;refine .eq (uT h1.2.1 (by simpa using h1.2.2.1)) (.eq rfl (.eq rfl (.bind (pd _ h1.1) fun aD ab=>?_)));refine .bind (P:=fun m=>hR m.1) (.cond (fun _=>?_) (fun _=>.ret ab)) fun m1 b4=>?_
 ·refine .bind (gy _ 2 ab (by omega)) fun b9 bl=>.eq rfl (.bind (gy _ 4 bl.1 (by omega)) fun cC cN=>?_);exact .eq (uT cN.2.1 (by simpa using cN.2.2.1)) (.eq rfl (.eq (fM _ _ (by simp) (by omega)) (.ret cN.1)))
 refine .bind (gy _ 4 b4 (by omega)) fun bf ax=>.eq (uT ax.2.1 (by simpa using ax.2.2.1)) (.eq rfl (.eq rfl ?_));refine .bind (gy _ 3 ax.1 (by omega)) fun bu aO=>?_;refine .bind (P:=fun m=>hR m.1) (.cond (fun _=>?_) (fun _=>.ret aO.1)) fun m2 dj=>.ret ⟨dj,rfl⟩;exact .bind (gy _ 3 aO.1 (by omega)) fun cd a7=>.eq rfl (.ret a7.1)
def sM (a:fp):Int×List Int:=(a.bU,a.l2.map (·.jD))
def Cj:List (Int×List Int):= [(1,[]),(2,[]),(3,[16]),(4,[4]),(5,[4,12]),(6,[])]
theorem adO {α β:Type}[Inhabited α](f:α→β)(l:List α)(k:Nat)(x:α)(h:f x=f (au l k)):(hD l k x).map f=l.map f:=by
 unfold hD;apply List.ext_getElem
 ·simp
 intro i h1 ab;simp only [List.length_map,List.length_set] at h1;simp only [List.getElem_map,List.getElem_set];split
 ·rename_i e;subst e;rw [h,dm l h1]
 rfl
theorem H9 {α β:Type}[Inhabited α](f:α→β){l:List α}{k:Nat}{x:α}{r:List β}(h:f x=f (au l k))(ak:l.map f=r):(hD l k x).map f=r:=(adO f l k x h).trans ak
theorem abK (c:eg)(ad:hR c):bd (Dl c) (fun r=>hR r.2∧r.1.map sM=Cj):=by
 unfold Dl;refine .eq rfl (.eq rfl (.eq rfl (.eq rfl (.eq rfl (.eq rfl (.eq rfl (.eq rfl (.eq rfl (.eq rfl (.eq rfl (.eq rfl (.eq rfl ?_))))))))))));refine .bind (gy _ 2 ad (by omega)) fun an h1=>.eq rfl (.bind (gy _ 256 h1.1 (by omega)) fun aD ab=>.eq rfl (.eq rfl (.eq rfl ?_)));refine .bind (pd _ ab.1) fun bf ax=>?_;refine .bind (P:=fun m=>m.map sM=Cj) (.cond (fun _=>?_) (fun _=>.ret rfl)) fun m1 b4=>?_
 ·exact .idx (k:=2) rfl (by simp) (.eq rfl (.ret (H9 sM rfl rfl)))
 refine .bind (pd _ ax) fun bu aO=>.bind (P:=fun m=>m.map sM=Cj) (.cond (fun _=>?_) (fun _=>.ret b4)) fun m2 dj=>.ret ⟨aO,dj⟩;have ak:m1.length=6:=by rw [← List.length_map (f:=sM),b4];rfl
 exact .idx (k:=4) rfl (by omega) (.eq rfl (.ret (H9 sM rfl b4)))
def wk:dH:= { da:=ByteArray.mk #[97],jB:=4,ez:=1 }
def Ag:dH:= { da:=ByteArray.mk #[100],jB:=7,ez:=2 }
def Qn:dH:= { da:=ByteArray.mk #[109],jB:=3,ez:=1 }
def G2:dH:= { da:=ByteArray.mk #[101],jB:=6,ez:=3 }
def Gy:dH:= { da:=ByteArray.mk #[97],jB:=4,ez:=3 }
def Qo:dH:= { da:=ByteArray.mk #[98],jB:=5,ez:=1 }
def G3:dH:= { da:=ByteArray.mk #[102],jB:=8,ez:=4 }
def Qp:dH:= { da:=ByteArray.mk #[103],jB:=9,ez:=1 }
def qd (t:ca):Int×List Int×List dH:=(t.bU,t.dC,t.c4)
def w8 (b:Bool):List dH:=if b then [Ag,Qn] else [Ag]
def y9 (b:Bool):List dH:=if b then [G2,Gy,Qo] else [G2,Gy]
def za (b:Bool):List dH:=if b then [G3,Qp,Ag] else [G3]
def vt (dJ ew jc:Bool):List (Int×List Int×List dH):=
 [(1,[1,2,4],[wk]),(2,[1,2,3,4],w8 dJ),(3,[1,2,3,5,6],y9 ew),(4,[1,3,5],za jc)]
theorem acd (c:eg)(ad:hR c):bd (Dx c) (fun r=>hR r.2∧ (∀ x∈r.1.map (·.hv),2≤x∧x≤12)∧ ∃ dJ ew jc,r.1.map qd=vt dJ ew jc):=by
 unfold Dx;refine .eq rfl (.bind (gy _ 2 ad (by omega)) fun an h1=>.bind (gy _ 5 h1.1 (by omega)) fun aD ab=>.eq rfl (.eq rfl ?_));refine .bind (gy _ 6 ab.1 (by omega)) fun bf ax=>.bind (pd _ ax.1) fun bu aO=>?_;refine .bind (P:=fun m=>(m.1.bU=2∧m.1.dC= [1,2,3,4]∧m.1.hv=bk (3+bf.1))∧ ∃ b,m.2=w8 b) (.cond (fun _=>?_) (fun _=>.ret ⟨⟨rfl,rfl,rfl⟩,false,rfl⟩)) fun m1 b4=>?_
 ·exact .eq rfl (.eq (fM _ _ (by simp) (by omega)) (.ret ⟨⟨rfl,rfl,rfl⟩,true,rfl⟩))
 refine .eq rfl (.eq rfl (.bind (gy _ 6 aO (by omega)) fun cd a7=>.bind (pd _ a7.1) fun b9 bl=>?_));refine .bind (P:=fun m=>(m.1.bU=3∧m.1.dC= [1,2,3,5,6]∧m.1.hv=bk (4+cd.1))∧ ∃ b,m.2=y9 b) (.cond (fun _=>?_) (fun _=>.ret ⟨⟨rfl,rfl,rfl⟩,false,rfl⟩)) fun m2 dj=>?_
 ·exact .eq rfl (.eq (fM _ _ (by simp) (by omega)) (.ret ⟨⟨rfl,rfl,rfl⟩,true,rfl⟩))
 refine .eq rfl (.bind (gy _ 5 bl (by omega)) fun cC cN=>.bind (pd _ cN.1) fun b1 cW=>?_);refine .bind (P:=fun m=>(m.1.bU=4∧m.1.dC= [1,3,5]∧m.1.hv=bk (3+cC.1))∧ ∃ b,m.2=za b) (.cond (fun _=>?_) (fun _=>.ret ⟨⟨rfl,rfl,rfl⟩,false,rfl⟩)) fun m3 gM=>?_
 ·exact .eq rfl (.eq rfl (.eq (fM _ _ (by simp) (by omega)) (.ret ⟨⟨rfl,rfl,rfl⟩,true,rfl⟩)))
 refine .eq rfl (.eq rfl (.eq rfl (.eq rfl (.eq rfl ?_))));obtain⟨⟨bT,a2,a4⟩,dJ,a3⟩:=b4;obtain⟨⟨c1,c2,gO⟩,ew,cY⟩:=dj;obtain⟨⟨d1,d2,d4⟩,jc,d3⟩:=gM;refine bd.loop 4 (fun k s=>s.1=(k:Int)∧s.2.1.map qd=vt dJ ew jc∧hR s.2.2∧s.2.1.map (·.hv)= [bk (2+aD.1),bk (3+bf.1),bk (4+cd.1),bk (3+cC.1)]) (by omega) ⟨rfl,?_,cW,?_⟩ (fun k s hk ao=>?_) (fun s ao=>?_)
 ·simp only [List.map_cons,List.map_nil,qd,bT,a2,a3,c1,c2,cY,d1,d2,d3,vt];rfl
 ·simp only [List.map_cons,List.map_nil,a4,gO,d4]
 ·obtain⟨i,dk,G4⟩:=s;obtain⟨ar,aU,cz,eL⟩:=ao;simp only at ar aU cz eL;subst ar;refine bd.cond (fun _=>?_) (fun h=>by simp at h;omega);have ak:dk.length=4:=by rw [← List.length_map (f:=qd),aU];rfl
  refine .idx rfl (by simpa using hk) (.bind (gy _ 3 cz (by omega)) fun cT c0=>.eq (uT c0.2.1 ?_) (.idx rfl (by simp only;omega) (.eq rfl (.ret ⟨dR (by omega),?_,c0.1,?_⟩))))
  ·have lU:=c0.2.2.1;have:k=0∨k=1∨k=2∨k=3:=by omega
   rcases this with rfl | rfl | rfl | rfl <;> exact lU
  ·exact H9 qd rfl aU
  exact H9 ca.hv rfl eL
 obtain⟨i,dk,G4⟩:=s;obtain⟨ar,aU,cz,eL⟩:=ao;simp only at ar aU cz eL;subst ar;refine⟨_,rfl,?_⟩;refine .ret ⟨cz,fun x al=>?_,dJ,ew,jc,aU⟩;rw [eL] at al;have g2:=ab.2;have g3:=ax.2;have g5:=a7.2;have g7:=cN.2;simp only [List.mem_cons,List.not_mem_nil,or_false] at al;rcases al with rfl | rfl | rfl | rfl <;> (rw [gA (by omega) (by omega)];omega)
theorem TR (n:Nat)(h:n≤1000):zA (α:=Bool) 1 (n:Int)=some (List.replicate n default):=by
 unfold zA;rw [if_pos ⟨by omega,by omega,by omega⟩];simp
theorem acQ (c:eg)(dk:List ca)(ad:hR c)(ak:dk.length≤1000)(hk:∀ t∈dk,t.c4.length≤1000):bd (yb c dk) (fun r=>hR r.2∧r.1.map (·.bU)= [1,2,7]):=by
 unfold yb;refine .bind (gy _ 3 ad (by omega)) fun an h1=>.bind (gy _ 6 h1.1 (by omega)) fun aD ab=>.bind (gy _ 6 ab.1 (by omega)) fun bf ax=>.bind (gy _ 4 ax.1 (by omega)) fun bu aO=>?_;refine bd.loop dk.length (fun k s=>s.1=(k:Int)∧hR s.2.2.2.1∧s.2.2.1.length≤k∧s.2.2.2.2.2.1.length≤k∧s.2.2.2.2.2.2.2.length≤k∧s.2.1.bU=7∧s.2.2.2.2.1.bU=2∧s.2.2.2.2.2.2.1.bU=1) (by omega) ⟨rfl,aO.1,by simp,by simp,by simp,rfl,rfl,rfl⟩ (fun k s uq ao=>?_) (fun s ao=>?_)
 ·obtain⟨i,kq,g1,G4,gH,g2,qA,g3⟩:=s;obtain⟨ar,aU,cz,eL,jX,i1,i2,i3⟩:=ao;simp only at ar aU cz eL jX i1 i2 i3;subst ar;refine bd.cond (fun _=>?_) (fun h=>by simp at h;omega);have Xq:(au dk k).c4.length≤1000:=hk _ (by rw [dm dk uq];exact List.getElem_mem uq);refine .idx rfl uq (.eq (TR _ Xq) (.eq (TR _ Xq) ?_));refine bd.loop (au dk k).c4.length (fun j s=>s.1=(j:Int)∧s.2.1.length=(au dk k).c4.length∧s.2.2.1.length=(au dk k).c4.length∧hR s.2.2.2) (by omega) ⟨rfl,by simp,by simp,aU⟩ (fun j s aB ao=>?_) (fun s ao=>?_)
  ·obtain⟨i,dJ,ew,amR⟩:=s;obtain⟨f1,f2,f3,f4⟩:=ao;simp only at f1 f2 f3 f4;subst f1;refine bd.cond (fun _=>?_) (fun h=>by simp at h;omega);exact .bind (gy _ 4 f4 (by omega)) fun cC cN=>.idx rfl (by simp only;omega) (.idx rfl (by simp only;omega) (.ret ⟨dR (by omega),by simp [hD,f2],by simp [hD,f3],cN.1⟩))
  obtain⟨i,dJ,ew,amR⟩:=s;obtain⟨f1,f2,f3,f4⟩:=ao;simp only at f1 f2 f3 f4;subst f1;refine⟨_,by simp;rfl,?_⟩;refine .eq rfl (.eq (fM _ _ (by simp;omega) (by omega)) (.bind (gy _ 4 f4 (by omega)) fun cT c0=>?_));refine .bind (P:=fun m=>hR m.1∧m.2.2.length≤k+1∧m.2.1.bU=2) (.cond (fun _=>?_) (fun _=>.ret ⟨c0.1,by simp only;omega,i2⟩)) fun m1 b4=>?_
  ·exact .bind (gy _ 4 c0.1 (by omega)) fun jn ur=>.bind (pd _ ur.1) fun q6 Ki=>.eq rfl (.eq (fM _ _ (by simp;omega) (by omega)) (.ret ⟨Ki,by simp;omega,i2⟩))
  refine .bind (pd _ b4.1) fun fR lU=>?_;refine .bind (P:=fun m=>hR m.1∧m.2.2.length≤k+1∧m.2.1.bU=7) (.cond (fun _=>?_) (fun _=>.ret ⟨lU,by simp only;omega,i1⟩)) fun m2 dj=>?_
  ·exact .bind (pd _ lU) fun h0 uu=>.bind (pd _ uu) fun gG zS=>.eq rfl (.eq (fM _ _ (by simp;omega) (by omega)) (.ret ⟨zS,by simp;omega,i1⟩))
  exact .ret ⟨dR (by omega),dj.1,dj.2.1,b4.2.1,by simp;omega,dj.2.2,b4.2.2,i3⟩
 obtain⟨i,kq,g1,G4,gH,g2,qA,g3⟩:=s;obtain⟨ar,aU,cz,eL,jX,i1,i2,i3⟩:=ao;simp only at ar aU cz eL jX i1 i2 i3;subst ar;refine⟨_,by simp;rfl,?_⟩;exact .eq rfl (.eq rfl (.ret ⟨aU,by simp only [List.map_cons,List.map_nil,i1,i2,i3]⟩))
def OA:List (Int×Int):= [(1,16),(2,16),(3,8),(4,4),(5,4),(6,8),(7,32),(8,12),(9,4)]
def Fg (f:iF):Int×Int:=(f.bU,f.jD)
structure cr (s:aZ):Prop where
 fields:s.gX.map Fg=OA
 headers:s.oC.length=3
 Uq:s.pb.length=3
 Mm:s.dC.map sM=Cj
 tables:∃ dJ ew jc,s.bS.map qd=vt dJ ew jc
 B2:s.eo.map (·.bU)= [1,2,7]
 aiA:∀ x∈s.bS.map (·.hv),2≤x∧x≤12
theorem cr.og {s:aZ}(h:cr s):s.eo.length=3:=by rw [← List.length_map (f:=(·.bU)),h.B2];rfl
theorem cr.zo {s:aZ}(h:cr s):s.gX.length=9:=by rw [← List.length_map (f:=Fg),h.fields];rfl
theorem cr.lR {s:aZ}(h:cr s):s.bS.length=4:=by obtain⟨dJ,ew,jc,h1⟩:=h.tables;rw [← List.length_map (f:=qd),h1];rfl
theorem cr.OB {s:aZ}(h:cr s):s.dC.length=6:=by rw [← List.length_map (f:=sM),h.Mm];rfl
theorem RV (c:eg)(ad:hR c):bd (wx c) (fun r=>cr r.1∧hR r.2):=by
 unfold wx;refine .bind (gy _ 8 ad (by omega)) fun an h1=>.bind (gy _ 30 h1.1 (by omega)) fun aD ab=>?_;refine .eq rfl (.eq rfl (.eq rfl (.eq rfl (.eq rfl (.eq rfl (.eq rfl (.eq rfl (.eq rfl (.eq rfl (.eq rfl (.eq rfl ?_)))))))))));refine .bind (acb _ ab.1) fun bf ax=>.bind (abK _ ax.1) fun bu aO=>.bind (acd _ aO.1) fun cd a7=>.eq rfl (.eq rfl ?_);obtain⟨amS,dK,dJ,ew,jc,a7⟩:=a7;have ak:cd.1.length=4:=by rw [← List.length_map (f:=qd),a7];rfl
 have aiB:∀ t∈cd.1,t.c4.length≤1000:=fun t bw=>by
  have bl:qd t∈vt dJ ew jc:=a7 ▸ List.mem_map_of_mem bw;have cN:∀ p∈vt dJ ew jc,p.2.2.length≤1000:=by
   intro p hp;simp only [vt,List.mem_cons,List.not_mem_nil,or_false] at hp;rcases hp with rfl | rfl | rfl | rfl
   ·simp
   ·cases dJ <;> simp [w8]
   ·cases ew <;> simp [y9]
   cases jc <;> simp [za]
  exact cN _ bl
 refine .bind (acQ _ _ amS (by simp only;omega) aiB) fun b9 bl=>.eq rfl (.bind (pd _ bl.1) fun cC cN=>?_);let Inv (s:aZ):Prop:=s.gX.map Fg=OA∧s.oC.length=3∧s.pb.length=3∧s.dC.map sM=Cj∧s.bS=cd.1∧s.eo.map (·.bU)= [1,2,7];have hinv:∀ (st:List gW) (CP:List e3) (s:aZ),Inv s→Inv { s with qL:=st,c3:=CP } :=fun st CP s h=>h;refine .bind (P:=fun _=>True) (.cond (fun _=>.eq (fM _ _ (by simp) (by omega)) (.ret trivial)) (fun _=>.ret trivial)) fun m1 _=>?_;refine .bind (pd _ cN) fun b1 cW=>?_;refine .bind (P:=fun m=>Inv m.1∧m.2.length≤10) (.cond (fun _=>.eq rfl (.eq (fM _ _ (by simp) (by omega)) (.ret ⟨⟨rfl,rfl,ax.2,aO.2,rfl,bl.2⟩,by simp⟩))) (fun _=>.ret ⟨⟨rfl,rfl,ax.2,aO.2,rfl,bl.2⟩,by simp⟩)) fun m2 dj=>?_;refine .bind (pd _ cW) fun cT c0=>?_;refine .cb (P:=fun _=>True) (fun _=>⟨2,kY (k:=2) (by rw [dj.1.2.2.2.2.1];omega),trivial⟩) fun aL _=>?_;refine .bind (P:=fun m=>Inv m.1∧m.2.length≤11) (.cond (fun _=>.eq rfl (.eq (fM _ _ (by have:=dj.2;simp;omega) (by omega)) (.ret ⟨dj.1,by have:=dj.2;simp;omega⟩))) (fun _=>.ret ⟨dj.1,by have:=dj.2;simp only;omega⟩)) fun m3 gM=>?_;refine .bind (pd _ c0) fun fR lU=>?_;refine .cb (P:=fun _=>True) (fun _=>⟨3,kY (k:=3) (by rw [gM.1.2.2.2.2.1];omega),trivial⟩) fun bz _=>?_;refine .bind (P:=fun m=>Inv m.1∧m.2.length≤13) (.cond (fun _=>.eq rfl (.eq rfl (.eq (fM _ _ (by have:=gM.2;simp;omega) (by omega)) (.ret ⟨gM.1,by have:=gM.2;simp;omega⟩)))) (fun _=>.ret ⟨gM.1,by have:=gM.2;simp only;omega⟩)) fun m4 FR=>?_;obtain⟨⟨i1,i2,i3,i4,i5,i6⟩,_⟩:=FR;exact .eq rfl (.ret ⟨⟨i1,i2,i3,i4,⟨dJ,ew,jc,by simp only [i5];exact a7⟩,i6,by simp only [i5];exact dK⟩,lU⟩)
theorem cr.size {s:aZ}(h:cr s){k:Nat}(hk:k<4):2≤ (au s.bS k).hv∧ (au s.bS k).hv≤12:=by
 have ak:=h.lR;exact h.aiA _ (List.mem_map.2 ⟨_,by rw [dm _ (by omega)];exact List.getElem_mem _,rfl⟩)
theorem ae5 (x:Int)(n:Int)(h1:1≤n)(ab:n≤1000000):bd (Bg x n) (fun r=>0≤r∧r<n):=by
 unfold Bg;refine .cond (fun h=>by simp at h;omega) fun _=>?_;have hm:∀ y:Int,tY y n=some (y.tmod n):=fun y=>by unfold tY;rw [if_neg (by omega)]
 refine .eq (hm _) ?_;have ax:=Int.tmod_lt_of_pos x (show 0<n by omega);have aO: -n<x.tmod n:=by
  have:=Int.tmod_lt_of_pos (-x) (show 0<n by omega);rw [Int.neg_tmod] at this;omega
 rw [gA (by omega) (by omega)];exact .eq (hm _) (.ret ⟨Int.tmod_nonneg _ (by omega),Int.tmod_lt_of_pos _ (by omega)⟩)
def cJ (v:aX)(i:Nat):Bool:=if i<64 then v.cO.getLsbD i else v.ed.getLsbD (i - 64)
theorem M9 {v w:aX}(h:∀ j,j<128→cJ v j=cJ w j):v=w:=by
 cases v with | mk an5 an6=>cases w with | mk an7 wl=>
 have h1:an5=an7:=by
  apply BitVec.eq_of_getLsbD_eq;intro i ao;have:=h (i+64) (by omega);simpa [cJ,show ¬ (i+64<64) by omega] using this
 have ab:an6=wl:=by
  apply BitVec.eq_of_getLsbD_eq;intro i ao;have:=h i (by omega);simpa [cJ,ao] using this
 rw [h1,ab]
theorem EO (j:Nat):cJ default j=false:=by
 unfold cJ;split <;> exact BitVec.getLsbD_zero
def FG (x y:aX):aX:= { ed:=x.ed&&&y.ed,cO:=x.cO&&&y.cO }
def Yr (x y:aX):aX:= { ed:=x.ed|||y.ed,cO:=x.cO|||y.cO }
def OC (x y:aX):aX:= { ed:=x.ed ^^^ y.ed,cO:=x.cO ^^^ y.cO }
@[simp] theorem ae6 (x y:aX) (j:Nat):cJ (FG x y) j=(cJ x j&&cJ y j):=by unfold cJ FG;split <;> simp
@[simp] theorem ao7 (x y:aX) (j:Nat):cJ (Yr x y) j=(cJ x j||cJ y j):=by unfold cJ Yr;split <;> simp
@[simp] theorem ae7 (x y:aX) (j:Nat):cJ (OC x y) j=(cJ x j ^^ cJ y j):=by unfold cJ OC;split <;> simp
theorem and_eq (x y:aX):HT x y=some (FG x y):=rfl
theorem xor_eq (x y:aX):Ep x y=some (OC x y):=rfl
theorem TS (x:aX):bd (Bc x) (fun r=> ∀ j,j<128→b5 r j=cJ x j):=by
 unfold Bc;refine bd.loop 64 (fun k s=>s.1=k∧ ∀ j,j<128→b5 s.2 j=(decide (j % 64<k)&&cJ x j)) (by omega)
  ⟨rfl,fun j aB=>by simp [HP]⟩ (fun k s hk ao=>?_) (fun s ao=>?_)
 ·obtain⟨i,v⟩:=s;obtain⟨h1,ab⟩:=ao;simp only at h1 ab;subst h1;have ar:bk ((k:Int)+64)=((k+64:Nat):Int):=by rw [gA (by omega) (by omega)];simp
  refine bd.cond (fun _=>?_) (fun h=>by simp at h;omega);refine bd.idx rfl (show k<128 by omega) (.eq rfl (.idx ar (show k+64<128 by omega) (.eq rfl (.ret ⟨dR (by omega),fun j aB=>?_⟩))));simp only [jA _ _ (show k<128 by omega),jA _ _ (show k+64<128 by omega),tB (show k<2 ^ 64 by omega),adM,ab j aB];by_cases xq:j=k+64
  ·subst xq;have h1:(k+64) % 64<k+1:=by omega
   have ab: ¬ (k+64<64):=by omega
   simp only [cJ,h1,ab,if_true,if_false,decide_true,Bool.true_and,Nat.add_sub_cancel]
  by_cases pO:j=k
  ·subst pO;have:j % 64<j+1:=by omega
   simp [cJ,this,hk]
  rw [if_neg xq,if_neg pO];congr 1;rw [decide_eq_decide];omega
 obtain⟨i,v⟩:=s;obtain⟨h1,ab⟩:=ao;simp only at h1 ab;subst h1;refine⟨_,rfl,.ret fun j aB=>?_⟩;have:j % 64<64:=by omega
 simp [ab j aB,this]
theorem SV (v:aX)(n:Nat)(aH:n<2 ^ 62):bd (A8 v n) (fun r=> ∀ j,j<128→cJ r j=cJ v (j+n)):=by
 unfold A8;refine .cond (fun h=>.ret fun j aB=>?_) (fun h=>.cond (fun cL=>.eq rfl (.ret fun j aB=>?_)) (fun cL=>.eq rfl (.eq rfl (.ret fun j aB=>?_))))
 ·have:n=0:=by simp at h;omega
  simp [this]
 ·simp only [decide_eq_true_eq] at cL;have ar:bk ((n:Int) - 64)=((n - 64:Nat):Int):=by rw [gA (by omega) (by omega)];omega
  rw [ar,tB (by omega)];unfold cJ;by_cases aB:j<64
  ·rw [if_pos aB,if_neg (by omega)];simp only [BitVec.getLsbD_ushiftRight];congr 1;omega
  rw [if_neg aB,if_neg (by omega)];rw [show(default:aX).ed=0#64 from rfl,BitVec.getLsbD_zero,BitVec.getLsbD_of_ge _ _ (by omega)]
 simp only [decide_eq_false_iff_not] at h cL;have ar:bk (64 - (n:Int))=((64 - n:Nat):Int):=by rw [gA (by omega) (by omega)];omega
 rw [ar,tB (by omega),tB (by omega)];unfold cJ;by_cases aB:j<64
 ·rw [if_pos aB];simp only [BitVec.getLsbD_or,BitVec.getLsbD_ushiftRight,BitVec.getLsbD_shiftLeft];by_cases ax:j+n<64
  ·rw [if_pos ax];have:j<64 - n:=by omega
   simp [this,Nat.add_comm]
  rw [if_neg ax,BitVec.getLsbD_of_ge _ (n+j) (by omega)];have: ¬ (j<64 - n):=by omega
  simp only [aB,this,decide_true,decide_false,Bool.true_and,Bool.not_false,Bool.false_or];congr 1;omega
 rw [if_neg aB,if_neg (by omega)];simp only [BitVec.getLsbD_ushiftRight];congr 1;omega
theorem agd (v:aX)(i:Int):bd (yv v i) (fun r=>r=(decide (0≤i∧i<128)&&cJ v i.toNat)):=by
 unfold yv;refine .cb (P:=fun r=> ∀ j,j<128→cJ r j=cJ v (j+i.toNat)) (fun h=>?_) fun y aR=>.eq rfl (.ret ?_)
 ·simp at h;obtain⟨n,rfl⟩:=Int.eq_ofNat_of_zero_le h.1;exact SV v n (by omega)
 by_cases h:0≤i∧i<128
 ·have h1:(decide (i≥0)&&decide (i<128))=true:=by simp;omega
  rw [h1,TO];have:=aR h1 0 (by omega);rw [show cJ y 0=y.cO.getLsbD 0 from rfl,Nat.zero_add] at this;rw [this,decide_eq_true h]
 have h1:(decide (i≥0)&&decide (i<128))=false:=by simp;omega
 simp [h1,h]
theorem ae8 (x y:aX):bd (Ep x y) (fun r=> ∀ j,j<128→cJ r j=(cJ x j ^^ cJ y j)):=⟨_,xor_eq x y,fun j _=>ae7 x y j⟩
theorem TT (n:Int):bd (Bd n) (fun r=> ∀ j,j<128→cJ r j=decide ((j:Int)<n)):=by
 unfold Bd A5;refine .eq rfl (.eq rfl ?_);have hm:bk (128 - min (max 0 n) 128)=((128 - min (max 0 n) 128).toNat:Int):=by rw [gA (by omega) (by omega)];omega
 rw [hm];refine(SV _ _ (by omega)).bind fun r aA=>.ret fun j aB=>?_;rw [aA j aB];have pB:∀ i,cJ { ed:=18446744073709551615#64,cO:=18446744073709551615#64 } i=decide (i<128):=by
  intro i;have bg:(18446744073709551615#64)=BitVec.allOnes 64:=by rfl
  unfold cJ;simp only [bg,BitVec.getLsbD_allOnes];by_cases h:i<64
  ·simp [h];omega
  simp [h];omega
 rw [pB,decide_eq_decide];omega
def xh:List Int:= [16,16,8,4,4,8,32,12,4]
theorem cr.CD {s:aZ}(h:cr s){k:Nat}(hk:k<9):(au s.gX k).bU=(k:Int)+1∧ (au s.gX k).jD=au xh k:=by
 have h1:=Bq Fg (l:=s.gX) (k:=k) (by rw [h.zo];exact hk);rw [h.fields] at h1;have ab:au OA k=((k:Int)+1,au xh k):=by
  have:k=0∨k=1∨k=2∨k=3∨k=4∨k=5∨k=6∨k=7∨k=8:=by omega
  rcases this with rfl | rfl | rfl | rfl | rfl | rfl | rfl | rfl | rfl <;> rfl
 rw [ab] at h1;simp only [Fg,Prod.mk.injEq] at h1;exact⟨h1.1.symm,h1.2.symm⟩
def vu:List (List Int):= [[],[],[16],[4],[4,12],[]]
theorem cr.act {s:aZ}(h:cr s){k:Nat}(hk:k<6):(au s.dC k).bU=(k:Int)+1∧ (au s.dC k).l2.map (·.jD)=au vu k:=by
 have h1:=Bq sM (l:=s.dC) (k:=k) (by rw [h.OB];exact hk);rw [h.Mm] at h1;have ab:au Cj k=((k:Int)+1,au vu k):=by
  have:k=0∨k=1∨k=2∨k=3∨k=4∨k=5:=by omega
  rcases this with rfl | rfl | rfl | rfl | rfl | rfl <;> rfl
 rw [ab] at h1;simp only [sM,Prod.mk.injEq] at h1;exact⟨h1.1.symm,h1.2.symm⟩
def rS (key:dH):Prop:= ∃ j:Nat,j<9∧key.jB=(j:Int)+1∧1≤key.ez∧key.ez≤4∧4≤au xh j∧au xh j≤32∧ (key.ez=2→j=6)
def Ah (key:dH):Int:=au xh (key.jB - 1).toNat
theorem cr.gi {s:aZ}(h:cr s){k:Nat}(hk:k<4):(au s.bS k).bU=(k:Int)+1∧
 (1≤ (au s.bS k).c4.length∧ (au s.bS k).c4.length≤3)∧ (∀ key∈ (au s.bS k).c4,rS key)∧
 (1≤ (au s.bS k).dC.length∧ (au s.bS k).dC.length≤5)∧ (∀ a∈ (au s.bS k).dC,1≤a∧a≤6):=by
 obtain⟨dJ,ew,jc,bw⟩:=h.tables
 have h1:=Bq qd (l:=s.bS) (k:=k) (by rw [h.lR];exact hk)
 rw [bw] at h1
 have ab:∀ p:Int×List Int×List dH,p=qd (au s.bS k)→p.1=(k:Int)+1→ (1≤p.2.2.length∧p.2.2.length≤3)→ (∀ key∈p.2.2,rS key)→
  (1≤p.2.1.length∧p.2.1.length≤5)→ (∀ a∈p.2.1,1≤a∧a≤6)→ (au s.bS k).bU=(k:Int)+1∧
  (1≤ (au s.bS k).c4.length∧ (au s.bS k).c4.length≤3)∧ (∀ key∈ (au s.bS k).c4,rS key)∧
  (1≤ (au s.bS k).dC.length∧ (au s.bS k).dC.length≤5)∧ (∀ a∈ (au s.bS k).dC,1≤a∧a≤6):=by
  rintro p rfl a b c d e
  exact⟨a,b,c,d,e⟩
 have a0:(1≤ ([1,2,4]:List Int).length∧ ([1,2,4]:List Int).length≤5)∧ ∀ a∈ ([1,2,4]:List Int),1≤a∧a≤6:=by decide
 have bT:(1≤ ([1,2,3,4]:List Int).length∧ ([1,2,3,4]:List Int).length≤5)∧ ∀ a∈ ([1,2,3,4]:List Int),1≤a∧a≤6:=by decide
 have a2:(1≤ ([1,2,3,5,6]:List Int).length∧ ([1,2,3,5,6]:List Int).length≤5)∧ ∀ a∈ ([1,2,3,5,6]:List Int),1≤a∧a≤6:=by decide
 have a3:(1≤ ([1,3,5]:List Int).length∧ ([1,3,5]:List Int).length≤5)∧ ∀ a∈ ([1,3,5]:List Int),1≤a∧a≤6:=by decide
 have aiC:rS wk:=⟨3,by decide,rfl,by decide,by decide,by decide,by decide,by decide⟩
 have Ur:rS Gy:=⟨3,by decide,rfl,by decide,by decide,by decide,by decide,by decide⟩
 have aiD:rS Qo:=⟨4,by decide,rfl,by decide,by decide,by decide,by decide,by decide⟩
 have N0:rS Ag:=⟨6,by decide,rfl,by decide,by decide,by decide,by decide,by decide⟩
 have aiE:rS Qn:=⟨2,by decide,rfl,by decide,by decide,by decide,by decide,by decide⟩
 have V5:rS G2:=⟨5,by decide,rfl,by decide,by decide,by decide,by decide,by decide⟩
 have V6:rS G3:=⟨7,by decide,rfl,by decide,by decide,by decide,by decide,by decide⟩
 have aiF:rS Qp:=⟨8,by decide,rfl,by decide,by decide,by decide,by decide,by decide⟩
 have:k=0∨k=1∨k=2∨k=3:=by omega
 rcases this with rfl | rfl | rfl | rfl
 ·refine ab _ h1 rfl (show 1≤ [wk].length∧ [wk].length≤3 by decide) ?_ a0.1 a0.2
  intro key k2
  rcases List.mem_singleton.1 k2 with rfl
  exact aiC
 ·refine ab _ h1 rfl ?_ ?_ bT.1 bT.2
  ·show 1≤ (w8 dJ).length∧ (w8 dJ).length≤3
   cases dJ <;> decide
  intro key k2
  replace k2:key∈w8 dJ:=k2
  cases dJ <;> simp only [w8,List.mem_cons,List.not_mem_nil,or_false,if_true,if_false,Bool.false_eq_true] at k2
  ·subst k2;exact N0
  rcases k2 with rfl | rfl;exact N0;exact aiE
 ·refine ab _ h1 rfl ?_ ?_ a2.1 a2.2
  ·show 1≤ (y9 ew).length∧ (y9 ew).length≤3
   cases ew <;> decide
  intro key k2
  replace k2:key∈y9 ew:=k2
  cases ew <;> simp only [y9,List.mem_cons,List.not_mem_nil,or_false,if_true,if_false,Bool.false_eq_true] at k2
  ·rcases k2 with rfl | rfl;exact V5;exact Ur
  rcases k2 with rfl | rfl | rfl;exact V5;exact Ur;exact aiD
 refine ab _ h1 rfl ?_ ?_ a3.1 a3.2
 ·show 1≤ (za jc).length∧ (za jc).length≤3
  cases jc <;> decide
 intro key k2
 replace k2:key∈za jc:=k2
 cases jc <;> simp only [za,List.mem_cons,List.not_mem_nil,or_false,if_true,if_false,Bool.false_eq_true] at k2
 ·subst k2;exact V6
 rcases k2 with rfl | rfl | rfl;exact V6;exact aiF;exact N0
theorem ace {s:aZ}(h:cr s){j:Nat}(aB:j<9):bd (Ed s ((j:Int)+1)) (fun r=>r=au xh j):=by
 unfold Ed;have ak:=h.zo;refine bd.loop j (fun k s=>s=(k:Int)) (by omega) rfl (fun k i hk ao=>?_) (fun i ao=>?_)
 ·subst ao;refine bd.cond (fun _=>?_) (fun h=>by simp at h;omega);refine .idx rfl (by omega) (.cond (fun ad=>?_) (fun ad=>.ret (dR (by omega))));have:=(h.CD (show k<9 by omega)).1;simp only [this,beq_iff_eq] at ad;omega
 subst ao;have h1:decide ((j:Int)<(s.gX.length:Int))=true:=by simp;omega
 have ab:((au s.gX j).bU==(j:Int)+1)=true:=by rw [(h.CD aB).1];simp
 rw [h1];simp only [cond_true];rw [kY (by omega)];simp only [Option.bind_some,ab,cond_true];exact⟨_,rfl,.ret (h.CD aB).2⟩
theorem RE {s:aZ}(h:cr s){j:Nat}(aB:j<6):bd (AU s ((j:Int)+1)) (fun r=>r=au s.dC j):=by
 unfold AU;have ak:=h.OB;refine bd.loop j (fun k s=>s=(k:Int)) (by omega) rfl (fun k i hk ao=>?_) (fun i ao=>?_)
 ·subst ao;refine bd.cond (fun _=>?_) (fun h=>by simp at h;omega);refine .idx rfl (by omega) (.cond (fun ad=>?_) (fun ad=>.ret (dR (by omega))));have:=(h.act (show k<6 by omega)).1;simp only [this,beq_iff_eq] at ad;omega
 subst ao;have h1:decide ((j:Int)<(s.dC.length:Int))=true:=by simp;omega
 have ab:((au s.dC j).bU==(j:Int)+1)=true:=by rw [(h.act aB).1];simp
 rw [h1];simp only [cond_true];rw [kY (by omega)];simp only [Option.bind_some,ab,cond_true];exact⟨_,rfl,.ret rfl⟩
theorem EI {n:Nat}(aH:n<64)(j:Nat):(((1#64) <<< n) - 1#64).getLsbD j=decide (j<n):=by
 have h1:(((1#64) <<< n) - 1#64).toNat=2 ^ n - 1:=by
  have ab:((1#64) <<< n).toNat=2 ^ n:=by
   rw [BitVec.toNat_shiftLeft,BitVec.toNat_ofNat,Nat.shiftLeft_eq];have:=Nat.pow_lt_pow_right (show 1<2 by omega) aH;rw [show(1 % 2 ^ 64:Nat)=1 from rfl,Nat.one_mul];exact Nat.mod_eq_of_lt this
  have ax:1≤2 ^ n:=Nat.one_le_two_pow;have aO:=Nat.pow_lt_pow_right (show 1<2 by omega) aH;rw [BitVec.toNat_sub,ab];simp only [BitVec.toNat_ofNat];omega
 rw [← BitVec.testBit_toNat,h1,Nat.testBit_two_pow_sub_one]
theorem Na (x:aX)(n:Int)(bq:0≤n)(h1:n<1000):bd (yu x n) (fun r=> ∀ j,j<128→cJ r j=(cJ x j&&decide ((j:Int)<n))):=by
 unfold yu;obtain⟨m,rfl⟩:=Int.eq_ofNat_of_zero_le bq;refine .cond (fun h=>.ret fun j aB=>?_) fun h=>.cond (fun cL=>.eq rfl (.ret fun j aB=>?_)) fun cL=>.cond (fun PC=>.ret fun j aB=>?_) fun PC=>.eq rfl (.eq rfl (.ret fun j aB=>?_))
 ·simp only [decide_eq_true_eq] at h;have:decide ((j:Int)<(m:Int))=true:=by simp;omega
  rw [this,Bool.and_true]
 ·simp only [decide_eq_true_eq,decide_eq_false_iff_not] at h cL;have e:bk ((m:Int) - 64)=((m - 64:Nat):Int):=by rw [gA (by omega) (by omega)];omega
  simp only [cJ,e,tB (show m - 64<2 ^ 64 by omega),BitVec.getLsbD_and,EI (show m - 64<64 by omega)];split
  ·have:decide ((j:Int)<(m:Int))=true:=by simp;omega
   rw [this,Bool.and_true]
  congr 1;rw [decide_eq_decide];omega
 ·simp only [decide_eq_true_eq] at PC;have:decide ((j:Int)<(m:Int))=false:=by simp;omega
  rw [EO,this,Bool.and_false]
 simp only [decide_eq_true_eq,decide_eq_false_iff_not] at h cL PC;simp only [cJ,tB (show m<2 ^ 64 by omega),BitVec.getLsbD_and,EI (show m<64 by omega)];split
 ·congr 1;rw [decide_eq_decide];omega
 have:decide ((j:Int)<(m:Int))=false:=by simp;omega
 rw [this,Bool.and_false];exact BitVec.getLsbD_zero
theorem V7 (w:BitVec 64)(j:Nat):cJ { (default:aX) with cO:=w } j=w.getLsbD j:=by
 unfold cJ;split
 ·rfl
 rw [BitVec.getLsbD_of_ge w j (by omega)];exact BitVec.getLsbD_zero
structure rT (kind b:Int)(m:cx):Prop where
 off:m.gC=false→m=default
 Ys:kind=1→m.gC=true
 low:kind=1→ ∀ j,j<128→cJ m.ck j=true→ (j:Int)<b
 asi:kind=3→ ∀ j,j<128→cJ m.hN j=true→ (j:Int)<b
 asj:kind=3→ ∀ j,j<128→cJ m.ck j=true→cJ m.hN j=true
 pre:0≤m.fZ∧m.fZ≤32
 Yt:kind=2→m.gC=true→1≤m.fZ
 Yu:kind≠2→m.fZ=0
 hG:kind≠3→m.hN=default
 asl:kind=3→m.gC=true→m.hN≠default
 asm:kind=4→m.gC=true→m.ck.ed=m.n2.ed∧m.ck.cO≤m.n2.cO
 PD:kind=2→ ∀ j,j<128→cJ m.ck j=true→32 - m.fZ≤ (j:Int)∧j<32
 Kj:kind≠4→m.n2=default
theorem FH:(0:Int)≤0∧ (0:Int)≤32:=⟨Int.le_refl 0,by decide⟩
theorem LD {kind b:Int}(h:kind≠1):rT kind b default:=
 ⟨fun _=>rfl,fun k=>absurd k h,fun k=>absurd k h,fun _ j _ bb=>(by rw [show(default:cx).hN=default from rfl,EO] at bb;cases bb),
  fun _ j _ bb=>(by rw [show(default:cx).ck=default from rfl,EO] at bb;cases bb),
  FH,fun _ k=>(by cases k),fun _=>rfl,fun _=>rfl,fun _ k=>(by cases k),fun _ k=>(by cases k),
  fun _ j _ bb=>(by rw [show(default:cx).ck=default from rfl,EO] at bb;cases bb),fun _=>rfl⟩
theorem ae9 {a x y:BitVec 64}(h1:a≤x)(ab:a≤y):a≤zi x y:=by
 unfold zi;split <;> assumption
theorem afa {v:aX}{b c:Int}(hb:0≤b∧b≤32)(ad:0≤c∧c<256)(bb:∀ j,j<128→cJ v j=true→ (j:Int)<b):
 v.ed=0#64∧v.cO≤zi (v.cO+BitVec.ofInt 64 c) (((1#64) <<< (BitVec.ofInt 64 b).toNat) - (1#64)):=by
 have gr:v.ed=0#64:=by
  apply BitVec.eq_of_getLsbD_eq;intro i ao;have h:=bb (64+i) (by omega);unfold cJ at h;rw [if_neg (by omega),Nat.add_sub_cancel_left] at h;rw [BitVec.getLsbD_zero];cases al:v.ed.getLsbD i
  ·rfl
  have:=h al;omega
 obtain⟨n,rfl⟩:=Int.eq_ofNat_of_zero_le hb.1
 have aH:n≤32:=by omega
 have Pp:(BitVec.ofInt 64 (n:Int)).toNat=n:=tB (by omega)
 rw [Pp]
 have V8:v.cO≤ ((1#64) <<< n) - 1#64:=by
  have hand:v.cO&&&(((1#64) <<< n) - 1#64)=v.cO:=by
   apply BitVec.eq_of_getLsbD_eq;intro i ao;rw [BitVec.getLsbD_and,EI (by omega)];have h:=bb i (by omega);unfold cJ at h;rw [if_pos ao] at h;cases al:v.cO.getLsbD i
   ·rfl
   have:=h al;simp;omega
  rw [← hand];rw [BitVec.le_def,BitVec.toNat_and];exact Nat.and_le_right
 have si:(((1#64) <<< n) - 1#64).toNat<2 ^ 33:=by
  have Kk:(((1#64) <<< n) - 1#64)&&&(((1#64) <<< 32) - 1#64)=(((1#64) <<< n) - 1#64):=by
   apply BitVec.eq_of_getLsbD_eq;intro i ao;rw [BitVec.getLsbD_and,EI (by omega),EI (by omega)];simp;omega
  rw [← Kk,BitVec.toNat_and];exact Nat.lt_of_le_of_lt Nat.and_le_right (by decide)
 refine⟨gr,ae9 ?_ V8⟩
 rw [BitVec.le_def] at V8 ⊢
 obtain⟨m,rfl⟩:=Int.eq_ofNat_of_zero_le ad.1
 rw [BitVec.toNat_add,tB (by omega),Nat.mod_eq_of_lt (by omega)]
 omega
theorem adP (x:BitVec 64){n:Int}(h1:1≤n)(ab:n≤32){i:Nat}(ao:i<128)
 (bb:cJ { (default:aX) with cO:=x&&&((((1#64) <<< (BitVec.ofInt 64 32).toNat) - (1#64)) - (((1#64) <<< (BitVec.ofInt 64 (bk (32 - n))).toNat) - (1#64))) } i=true):32 - n≤ (i:Int)∧i<32:=by
 rw [V7,BitVec.getLsbD_and,Bool.and_eq_true] at bb
 have ax:=bb.2
 obtain⟨k,hk⟩:=Int.eq_ofNat_of_zero_le (show 0≤32 - n by omega)
 have dh:k<32:=by omega
 have e:bk (32 - n)=(k:Int):=by rw [hk,gA (by omega) (by omega)]
 rw [e,tB (by omega)] at ax
 have PE:i<64:=by
  rcases Nat.lt_or_ge i 64 with h | h
  ·exact h
  rw [BitVec.getLsbD_of_ge _ i h] at ax;cases ax
 have key:∀ (k:Fin 32) (i:Fin 64),((((1#64) <<< (BitVec.ofInt 64 32).toNat) - (1#64)) - (((1#64) <<< k.1) - (1#64))).getLsbD i.1=true→k.1≤i.1∧i.1<32:=by decide +kernel
 have:=key ⟨k,dh⟩ ⟨i,PE⟩ ax
 simp only at this
 omega
theorem acR (c:eg){s:aZ}(key:dH)(ad:hR c)(h:cr s)(hk:rS key):
 bd (DM c s key) (fun r=>hR r.2∧rT key.ez (Ah key) r.1):=by
 obtain⟨j,aB,aT,aL,hh,KA,amT,dh⟩:=hk
 have hb:Ah key=au xh j:=by unfold Ah;rw [aT];congr 1;omega
 unfold DM
 rw [aT]
 refine(ace h aB).bind fun an ar=>?_
 rw [hb]
 subst ar
 generalize fo:au xh j=b at *
 refine .bind (gy _ 256 ad (by omega)) fun aD ab=>.bind (gy _ 16 ab.1 (by omega)) fun bf ax=>.eq rfl (.bind (gy _ 16 ax.1 (by omega)) fun bu aO=>.eq rfl ?_)
 refine .bind (Na _ b (by omega) (by omega)) fun cd a7=>?_
 refine .cond (fun q=>?_) fun q=>?_
 ·have q:key.ez=2:=by simpa using q
  refine .bind (gy _ 5 aO.1 (by omega)) fun b9 bl=>.cond (fun _=>?_) fun _=>.ret ⟨bl.1,LD (by omega)⟩
  refine .bind (gy _ b bl.1 (by omega)) fun cC cN=>.bind (gy _ 5 cN.1 (by omega)) fun b1 cW=>?_
  refine .eq (uT cW.2.1 (by simpa using cW.2.2.1)) ?_
  have kC:1≤au [b,8,16,1,bk (1+cC.1)] b1.1.toNat∧au [b,8,16,1,bk (1+cC.1)] b1.1.toNat≤32:=by
   have cj:b1.1.toNat<[b,8,16,1,bk (1+cC.1)].length:=by have:=cW.2.1;have:=cW.2.2.1;simp;omega
   have hm:=List.getElem_mem cj;rw [← dm _ cj] at hm;have hw:bk (1+cC.1)=1+cC.1:=gA (by have:=cN.2.1;omega) (by have:=cN.2.2.1;omega);have:=cN.2.1;have:=cN.2.2.1;simp only [List.mem_cons,List.not_mem_nil,or_false] at hm;rcases hm with hm | hm | hm | hm | hm <;> rw [hm] <;> omega
  unfold HM
  refine .eq rfl (.eq rfl (.eq rfl (.ret ⟨cW.1,fun h=>(by cases h),fun h=>(by omega),fun h=>by omega,fun h=>(by omega),fun h=>(by omega),⟨by have:=kC.1;show 0≤au _ _;omega,kC.2⟩,fun _ _=>kC.1,fun h=>absurd q h,fun _=>rfl,fun h=>(by omega),fun h=>(by omega),fun _ i ao bb=>?_,fun _=>rfl⟩)))
  have Kk:b=32:=by rw [← fo,dh q];rfl
  rw [Kk] at kC bb
  rw [Kk]
  exact adP _ kC.1 kC.2 ao bb
 refine .cond (fun ev=>?_) fun ev=>?_
 ·have ev:key.ez=3:=by simpa using ev
  refine .bind (gy _ 256 aO.1 (by omega)) fun fR lU=>.bind (gy _ 5 lU.1 (by omega)) fun h0 uu=>?_
  refine .eq (uT uu.2.1 (by simpa using uu.2.2.1)) (.eq rfl (.bind (Na _ b (by omega) (by omega)) fun gG zS=>?_))
  refine .cond (fun PF=>?_) fun _=>.ret ⟨uu.1,LD (by omega)⟩
  refine .eq rfl (.eq rfl (.ret ⟨uu.1,fun h=>(by cases h),fun h=>(by omega),fun h=>by omega,fun _ i ao bb=>?_,fun _ i ao bb=>?_,FH,fun h=>(by omega),fun _=>rfl,fun h=>absurd ev h,fun _ _ hd=>?_,fun h=>(by omega),fun h=>(by omega),fun _=>rfl⟩))
  ·have vS:=zS i ao
   simp only at bb
   rw [bb] at vS
   have:=vS.symm
   simp only [Bool.and_eq_true,decide_eq_true_eq] at this
   exact this.2
  ·simp only at bb ⊢
   rw [V7,BitVec.getLsbD_and,Bool.and_eq_true] at bb
   have PE:i<64:=by
    rcases Nat.lt_or_ge i 64 with h | h
    ·exact h
    rw [BitVec.getLsbD_of_ge _ i h] at bb;cases bb.1
   unfold cJ;rw [if_pos PE];exact bb.2
  have hd':gG=default:=hd
  rw [hd'] at PF;simp at PF
  exact PF rfl
 refine .cond (fun hJ=>?_) fun hJ=>?_
 ·have hJ:key.ez=4:=by simpa using hJ
  refine .bind (gy _ 256 aO.1 (by omega)) fun ie vS=>.eq rfl (.bind (gy _ 5 vS.1 (by omega)) fun jn ur=>.eq rfl (.cond (fun _=>?_) fun _=>.ret ⟨ur.1,LD (by omega)⟩))
  have vT:=afa (v:=cd) (b:=b) (c:=ie.1) ⟨by omega,amT⟩ ⟨vS.2.1,vS.2.2.1⟩ fun i ao bb=>by
   have Ki:=a7 i ao;rw [bb] at Ki;have:=Ki.symm;simp only [Bool.and_eq_true,decide_eq_true_eq] at this;exact this.2
  exact .eq rfl (.ret ⟨ur.1,fun h=>(by cases h),fun h=>(by omega),fun h=>by omega,fun h=>(by omega),fun h=>(by omega),FH,fun h=>(by omega),fun _=>rfl,fun _=>rfl,fun h=>(by omega),fun _ _=>vT,fun h=>(by omega),fun h=>absurd hJ h⟩)
 have av:key.ez=1:=by
  simp only [beq_eq_false_iff_ne] at q ev hJ;omega
 refine .eq rfl (.ret ⟨aO.1,fun h=>(by cases h),fun _=>rfl,fun _ i ao bb=>?_,fun h=>(by omega),fun h=>(by omega),FH,fun h=>(by omega),fun _=>rfl,fun _=>rfl,fun h=>(by omega),fun h=>(by omega),fun h=>(by omega),fun _=>rfl⟩)
 have vS:=a7 i ao
 simp only at bb
 rw [bb] at vS
 have:=vS.symm
 simp only [Bool.and_eq_true,decide_eq_true_eq] at this
 exact this.2
structure gb (s:aZ)(k:Nat)(e:bh):Prop where
 gi:e.bB=(k:Int)+1
 len:e.cw.length=(au s.bS k).c4.length
 CE:∀ i,i<(au s.bS k).c4.length→rT (au (au s.bS k).c4 i).ez (Ah (au (au s.bS k).c4 i)) (au e.cw i)
 args:e.fq.length≤10
 pri:(∀ i,i<(au s.bS k).c4.length→ (au (au s.bS k).c4 i).ez≤2)→e.gJ=0
theorem Ia {α:Type}[Inhabited α](l:List α)(x:α)(i:Nat):au (l++[x]) i=if i=l.length then x else au l i:=by
 unfold au;by_cases h:i=l.length
 ·subst h;simp
 rw [if_neg h];rcases Nat.lt_or_ge i l.length with h1 | h1
 ·rw [List.getElem?_append_left h1]
 rw [List.getElem?_eq_none (by simp;omega),List.getElem?_eq_none h1]
theorem acS (c:eg){s:aZ}(x:Int)(ad:hR c)(h:cr s):
 bd (yd c s x) (fun r=>hR r.2∧ ∃ k:Nat,k<4∧Bg x (s.bS.length:Int)=some (k:Int)∧gb s k r.1):=by
 unfold yd
 obtain⟨an,ar,bq,h1⟩:=ae5 x (s.bS.length:Int) (by rw [h.lR];omega) (by rw [h.lR];omega)
 obtain⟨k,rfl⟩:=Int.eq_ofNat_of_zero_le bq
 have hk:k<4:=by have:=h.lR;omega
 obtain⟨t1,⟨t2,t3⟩,t4,⟨t5,t6⟩,t7⟩:=h.gi hk
 refine .eq ar (.idx rfl (by have:=h.lR;omega) ?_)
 refine bd.loop (au s.bS k).c4.length (fun i st=>st.1=(i:Int)∧st.2.1.bB=(k:Int)+1∧st.2.2.1.length=i∧hR st.2.2.2∧
  (∀ j,j<i→rT (au (au s.bS k).c4 j).ez (Ah (au (au s.bS k).c4 j)) (au st.2.2.1 j))∧ ((∀ j,j<i→ (au (au s.bS k).c4 j).ez≤2)→st.2.1.gJ=0)) (by omega) ⟨rfl,t1,rfl,ad,fun j aB=>by omega,fun _=>rfl⟩ (fun i st ao hs=>?_) (fun st hs=>?_)
 ·obtain⟨rp,e,ms,G4⟩:=st;obtain⟨aU,cz,eL,jX,lG,xT⟩:=hs
  simp only at aU cz eL jX lG xT;subst aU
  refine bd.cond (fun _=>?_) (fun h=>by simp at h;omega)
  refine .idx rfl ao (.bind (acR _ _ jX h (t4 _ (by rw [dm _ ao];exact List.getElem_mem ao))) fun aD ab=>.eq (fM _ _ (by simp;omega) (by omega)) (.eq rfl ?_))
  refine .bind (P:=fun m=>m.1.bB=(k:Int)+1∧hR m.2∧ ((au (au s.bS k).c4 i).ez≤2→m.1.gJ=e.gJ)) (.cond (fun bF=>.bind (gy _ 5 ab.1 (by omega)) fun bu aO=>.eq rfl (.ret ⟨cz,aO.1,fun h=>by simp at bF;omega⟩)) (fun _=>.ret ⟨cz,ab.1,fun _=>rfl⟩)) fun m1 b4=>?_
  refine .ret ⟨dR (by omega),b4.1,by simp;omega,b4.2.1,fun j aB=>?_,fun h=>?_⟩
  ·simp only [Ia]
   by_cases pO:j=ms.length
   ·rw [if_pos pO];rw [pO,eL];exact ab.2
   rw [if_neg pO];exact lG j (by omega)
  exact(b4.2.2 (h i (by omega))).trans (xT fun j aB=>h j (by omega))
 obtain⟨rp,e,ms,G4⟩:=st;obtain⟨aU,cz,eL,jX,lG,xT⟩:=hs
 simp only at aU cz eL jX lG xT;subst aU
 refine⟨_,by simp;rfl,?_⟩
 refine .bind (gy _ _ jX (by omega)) fun cd a7=>?_
 refine .eq (uT a7.2.1 a7.2.2.1) (.eq rfl ?_)
 have aW:1≤au (au s.bS k).dC cd.1.toNat∧au (au s.bS k).dC cd.1.toNat≤6:=t7 _ (by
  have cj:cd.1.toNat<(au s.bS k).dC.length:=by have:=a7.2.1;have:=a7.2.2.1;omega
  rw [dm _ cj];exact List.getElem_mem cj)
 obtain⟨a,eM⟩:=Int.eq_ofNat_of_zero_le (show 0≤au (au s.bS k).dC cd.1.toNat - 1 by omega)
 have amU:au (au s.bS k).dC cd.1.toNat=(a:Int)+1:=by omega
 simp only [amU]
 refine .bind (RE h (show a<6 by omega)) fun b9 bl=>?_
 obtain⟨bo,bN⟩:=h.act (show a<6 by omega)
 rw [← bl] at bN
 have hp:b9.l2.length≤10∧ ∀ i,i<b9.l2.length→0≤ (au b9.l2 i).jD∧ (au b9.l2 i).jD<1000:=by
  have hq:∀ l∈vu,l.length≤10∧ ∀ b∈l,0≤b∧b<1000:=by decide
  have hm:au vu a∈vu:=by rw [dm vu (show a<vu.length by simp [vu];omega)];exact List.getElem_mem _
  obtain⟨av,cQ⟩:=hq _ hm;rw [← bN] at av cQ;refine⟨by simpa using av,fun i ao=>cQ _ ?_⟩;rw [dm _ ao];exact List.mem_map.2 ⟨_,List.getElem_mem ao,rfl⟩
 refine bd.loop b9.l2.length (fun i st=>st.1=(i:Int)∧st.2.1.bB=(k:Int)+1∧st.2.2.1.length=i∧hR st.2.2.2∧st.2.1.gJ=e.gJ) (by omega) ⟨rfl,cz,rfl,a7.1,rfl⟩ (fun i st ao hs=>?_) (fun st hs=>?_)
 ·obtain⟨rp,e',vs,amV⟩:=st;obtain⟨f2,f3,f4,f5,f6⟩:=hs
  simp only at f2 f3 f4 f5 f6;subst f2
  refine bd.cond (fun _=>?_) (fun h=>by simp at h;omega)
  refine .idx rfl ao (.bind (gy _ 256 f5 (by omega)) fun cC cN=>.eq rfl (.bind (Na _ _ (hp.2 i ao).1 (hp.2 i ao).2) fun b1 cW=>.eq (fM _ _ (by have:=hp.1;simp;omega) (by omega)) (.ret ⟨dR (by have:=hp.1;omega),f3,by simp;omega,cN.1,f6⟩)))
 obtain⟨rp,e',vs,amV⟩:=st;obtain⟨f2,f3,f4,f5,f6⟩:=hs
 simp only at f2 f3 f4 f5 f6;subst f2
 refine⟨_,by simp;rfl,?_⟩
 exact .eq rfl (.ret ⟨f5,k,hk,ar,f3,eL,lG,by show vs.length≤10;have:=hp.1;omega,fun h=>f6.trans (xT h)⟩)
structure aiG (s:aZ)(r:Vector (List Int) 6):Prop where
 fields:b5 r 0=s.gX.map (·.bU)
 headers:b5 r 1=s.oC.map (·.bU)
 Uq:b5 r 2=s.pb.map (·.bU)
 Mm:b5 r 3=s.dC.map (·.bU)
 tables:b5 r 4=s.bS.map (·.bU)
 B2:b5 r 5=s.eo.map (·.bU)
theorem Nb {s:aZ}(h:cr s):bd (Bh s) (aiG s):=by
 unfold Bh;have z7:=h.zo;have Qc:=h.headers;have Y2:=h.Uq;have Qq:=h.OB;have asS:=h.lR;have asT:=h.og;refine bd.loop s.gX.length (fun k st=>st.1=(k:Int)∧st.2.1=(s.gX.take k).map (·.bU)) (by omega) ⟨rfl,rfl⟩ (fun k st hk ao=>?_) (fun st ao=>?_)
 ·obtain⟨i,a,v⟩:=st;obtain⟨ar,aU⟩:=ao;simp only at ar aU;subst ar;subst aU;refine bd.cond (fun _=>?_) (fun h=>by simp at h;omega);exact .idx rfl hk (.eq (fM _ _ (by simp;omega) (by omega)) (.ret ⟨dR (by omega),by rw [mK _ hk,List.map_append];rfl⟩))
 obtain⟨i,a0,v⟩:=st;obtain⟨ar,aU⟩:=ao;simp only at ar aU;subst ar;subst aU;refine⟨_,by simp only [show decide ((s.gX.length:Int)<(s.gX.length:Int))=false by simp,cond_false];rfl,?_⟩;refine bd.loop s.oC.length (fun k st=>st.1=(k:Int)∧st.2.1=(s.oC.take k).map (·.bU)) (by omega) ⟨rfl,rfl⟩ (fun k st hk ao=>?_) (fun st ao=>?_)
 ·obtain⟨i,a,v⟩:=st;obtain⟨ar,aU⟩:=ao;simp only at ar aU;subst ar;subst aU;refine bd.cond (fun _=>?_) (fun h=>by simp at h;omega);exact .idx rfl hk (.eq (fM _ _ (by simp;omega) (by omega)) (.ret ⟨dR (by omega),by rw [mK _ hk,List.map_append];rfl⟩))
 obtain⟨i,bT,v⟩:=st;obtain⟨ar,aU⟩:=ao;simp only at ar aU;subst ar;subst aU;refine⟨_,by simp only [show decide ((s.oC.length:Int)<(s.oC.length:Int))=false by simp,cond_false];rfl,?_⟩;refine bd.loop s.pb.length (fun k st=>st.1=(k:Int)∧st.2.1=(s.pb.take k).map (·.bU)) (by omega) ⟨rfl,rfl⟩ (fun k st hk ao=>?_) (fun st ao=>?_)
 ·obtain⟨i,a,v⟩:=st;obtain⟨ar,aU⟩:=ao;simp only at ar aU;subst ar;subst aU;refine bd.cond (fun _=>?_) (fun h=>by simp at h;omega);exact .idx rfl hk (.eq (fM _ _ (by simp;omega) (by omega)) (.ret ⟨dR (by omega),by rw [mK _ hk,List.map_append];rfl⟩))
 obtain⟨i,a2,v⟩:=st;obtain⟨ar,aU⟩:=ao;simp only at ar aU;subst ar;subst aU;refine⟨_,by simp only [show decide ((s.pb.length:Int)<(s.pb.length:Int))=false by simp,cond_false];rfl,?_⟩;refine bd.loop s.dC.length (fun k st=>st.1=(k:Int)∧st.2.1=(s.dC.take k).map (·.bU)) (by omega) ⟨rfl,rfl⟩ (fun k st hk ao=>?_) (fun st ao=>?_)
 ·obtain⟨i,a,v⟩:=st;obtain⟨ar,aU⟩:=ao;simp only at ar aU;subst ar;subst aU;refine bd.cond (fun _=>?_) (fun h=>by simp at h;omega);exact .idx rfl hk (.eq (fM _ _ (by simp;omega) (by omega)) (.ret ⟨dR (by omega),by rw [mK _ hk,List.map_append];rfl⟩))
 obtain⟨i,a3,v⟩:=st;obtain⟨ar,aU⟩:=ao;simp only at ar aU;subst ar;subst aU;refine⟨_,by simp only [show decide ((s.dC.length:Int)<(s.dC.length:Int))=false by simp,cond_false];rfl,?_⟩;refine bd.loop s.bS.length (fun k st=>st.1=(k:Int)∧st.2.1=(s.bS.take k).map (·.bU)) (by omega) ⟨rfl,rfl⟩ (fun k st hk ao=>?_) (fun st ao=>?_)
 ·obtain⟨i,a,v⟩:=st;obtain⟨ar,aU⟩:=ao;simp only at ar aU;subst ar;subst aU;refine bd.cond (fun _=>?_) (fun h=>by simp at h;omega);exact .idx rfl hk (.eq (fM _ _ (by simp;omega) (by omega)) (.ret ⟨dR (by omega),by rw [mK _ hk,List.map_append];rfl⟩))
 obtain⟨i,a4,v⟩:=st;obtain⟨ar,aU⟩:=ao;simp only at ar aU;subst ar;subst aU;refine⟨_,by simp only [show decide ((s.bS.length:Int)<(s.bS.length:Int))=false by simp,cond_false];rfl,?_⟩;refine bd.loop s.eo.length (fun k st=>st.1=(k:Int)∧st.2.1=(s.eo.take k).map (·.bU)) (by omega) ⟨rfl,rfl⟩ (fun k st hk ao=>?_) (fun st ao=>?_)
 ·obtain⟨i,a,v⟩:=st;obtain⟨ar,aU⟩:=ao;simp only at ar aU;subst ar;subst aU;refine bd.cond (fun _=>?_) (fun h=>by simp at h;omega);exact .idx rfl hk (.eq (fM _ _ (by simp;omega) (by omega)) (.ret ⟨dR (by omega),by rw [mK _ hk,List.map_append];rfl⟩))
 obtain⟨i,a5,v⟩:=st;obtain⟨ar,aU⟩:=ao;simp only at ar aU;subst ar;subst aU;refine⟨_,by simp only [show decide ((s.eo.length:Int)<(s.eo.length:Int))=false by simp,cond_false];rfl,?_⟩;refine .eq rfl (.ret ⟨?_,?_,?_,?_,?_,?_⟩)
 ·simp only [List.take_length];rw [jA _ _ (by omega),if_neg (by omega),jA _ _ (by omega),if_neg (by omega),jA _ _ (by omega),if_neg (by omega),jA _ _ (by omega),if_neg (by omega),jA _ _ (by omega),if_neg (by omega),jA _ _ (by omega),if_pos rfl]
 ·simp only [List.take_length];rw [jA _ _ (by omega),if_neg (by omega),jA _ _ (by omega),if_neg (by omega),jA _ _ (by omega),if_neg (by omega),jA _ _ (by omega),if_neg (by omega),jA _ _ (by omega),if_pos rfl]
 ·simp only [List.take_length];rw [jA _ _ (by omega),if_neg (by omega),jA _ _ (by omega),if_neg (by omega),jA _ _ (by omega),if_neg (by omega),jA _ _ (by omega),if_pos rfl]
 ·simp only [List.take_length];rw [jA _ _ (by omega),if_neg (by omega),jA _ _ (by omega),if_neg (by omega),jA _ _ (by omega),if_pos rfl]
 ·simp only [List.take_length];rw [jA _ _ (by omega),if_neg (by omega),jA _ _ (by omega),if_pos rfl]
 simp only [List.take_length];rw [jA _ _ (by omega),if_pos rfl]
theorem Us (l:List Int)(x:Int)(ak:l.length<2 ^ 30):bd (wE l x) (fun r=>(r= -1∧x ∉ l)∨ ∃ k:Nat,k<l.length∧r=(k:Int)∧au l k=x):=by
 unfold wE;refine acO l (fun y=>y==x) (by omega) (fun k hk hp=>?_) (fun k hk hq hp=>?_) (fun hq=>?_)
 ·simp only [show decide ((k:Int)<(l.length:Int))=true by simp;omega,cond_true,kY hk,Option.bind_some,hp,cond_false]
 ·refine⟨_,by simp only [show decide ((k:Int)<(l.length:Int))=true by simp;omega,cond_true,kY hk,Option.bind_some,hp];rfl,?_⟩;exact .ret (.inr ⟨k,hk,rfl,by simpa using hp⟩)
 refine⟨_,by simp only [show decide ((l.length:Int)<(l.length:Int))=false by simp,cond_false];rfl,?_⟩;refine .ret (.inl ⟨rfl,fun al=>?_⟩);have:=List.find?_eq_none.1 hq x al;simp at this
theorem aau {xs:List ca}{f:ca→Option Bool}{g:ca→Bool}(aT:∀ x∈xs,f x=some (g x))(ak:xs.length<2 ^ 62):
 bd (CY xs f) (fun r=>(r= -1∧ ∀ x∈xs,g x=false)∨ ∃ i:Nat,i<xs.length∧r=i∧g (au xs i)=true∧ ∀ j,j<i→g (au xs j)=false):=by
 unfold CY
 refine bd.loop xs.length (fun k s=>s=(k:Int)∧ ∀ j,j<k→g (au xs j)=false) (by omega) ⟨rfl,fun j aB=>by omega⟩ (fun k s hk ao=>?_) (fun s ao=>?_)
 ·obtain⟨ar,aU⟩:=ao;subst ar
  refine bd.cond (fun _=>?_) (fun h=>by simp at h;omega)
  refine .idx rfl hk (.eq (aT _ (by rw [dm xs hk];exact List.getElem_mem hk)) (.cond (fun h=>.ret ?_) (fun h=>.ret ⟨dR (by omega),fun j aB=>?_⟩)))
  ·exact .ret (.inr ⟨k,hk,rfl,h,aU⟩)
  by_cases tb:j=k
  ·subst tb;exact h
  exact aU j (by omega)
 obtain⟨ar,aU⟩:=ao;subst ar
 refine⟨_,by simp;rfl,?_⟩
 refine .ret (.inl ⟨rfl,fun x al=>?_⟩)
 obtain⟨j,aB,rfl⟩:=List.mem_iff_getElem.1 al
 rw [← dm xs aB];exact aU j aB
theorem aav {xs:List iF}{f:iF→Option Bool}{g:iF→Bool}(aT:∀ x∈xs,f x=some (g x))(ak:xs.length<2 ^ 62):
 bd (CZ xs f) (fun r=>(r= -1∧ ∀ x∈xs,g x=false)∨ ∃ i:Nat,i<xs.length∧r=i∧g (au xs i)=true∧ ∀ j,j<i→g (au xs j)=false):=by
 unfold CZ
 refine bd.loop xs.length (fun k s=>s=(k:Int)∧ ∀ j,j<k→g (au xs j)=false) (by omega) ⟨rfl,fun j aB=>by omega⟩ (fun k s hk ao=>?_) (fun s ao=>?_)
 ·obtain⟨ar,aU⟩:=ao;subst ar
  refine bd.cond (fun _=>?_) (fun h=>by simp at h;omega)
  refine .idx rfl hk (.eq (aT _ (by rw [dm xs hk];exact List.getElem_mem hk)) (.cond (fun h=>.ret ?_) (fun h=>.ret ⟨dR (by omega),fun j aB=>?_⟩)))
  ·exact .ret (.inr ⟨k,hk,rfl,h,aU⟩)
  by_cases tb:j=k
  ·subst tb;exact h
  exact aU j (by omega)
 obtain⟨ar,aU⟩:=ao;subst ar
 refine⟨_,by simp;rfl,?_⟩
 refine .ret (.inl ⟨rfl,fun x al=>?_⟩)
 obtain⟨j,aB,rfl⟩:=List.mem_iff_getElem.1 al
 rw [← dm xs aB];exact aU j aB
theorem Lj {s:aZ}(h:cr s){k:Nat}(hk:k<4):bd (yj s ((k:Int)+1)) (fun r=>r=(k:Int)):=by
 unfold yj;refine(aau (g:=fun t=>t.bU==(k:Int)+1) (fun x al=>rfl) (by rw [h.lR];omega)).bind fun r aA=>.ret ?_;have dh:k<s.bS.length:=by rw [h.lR];exact hk
 rcases aA with⟨_,aA⟩ | ⟨i,h1,ab,ax,aO⟩
 ·have:=aA (au s.bS k) (by rw [dm _ dh];exact List.getElem_mem dh);simp only [(h.gi hk).1,beq_self_eq_true] at this;cases this
 have a7:=(h.gi (show i<4 by have:=h.lR;omega)).1;simp only [a7,beq_iff_eq] at ax;omega
theorem abL {s:aZ}(h:cr s){k:Nat}(hk:k<9):bd (D6 s ((k:Int)+1)) (fun r=>r=(k:Int)):=by
 unfold D6;refine(aav (g:=fun t=>t.bU==(k:Int)+1) (fun x al=>rfl) (by rw [h.zo];omega)).bind fun r aA=>.ret ?_;have dh:k<s.gX.length:=by rw [h.zo];exact hk
 rcases aA with⟨_,aA⟩ | ⟨i,h1,ab,ax,aO⟩
 ·have:=aA (au s.gX k) (by rw [dm _ dh];exact List.getElem_mem dh);simp only [(h.CD hk).1,beq_self_eq_true] at this;cases this
 have a7:=(h.CD (show i<9 by have:=h.zo;omega)).1;simp only [a7,beq_iff_eq] at ax;omega
theorem adQ (l:List Int){k:Nat}(hk:k<l.length)(ak:l.length<2 ^ 30)(h:∀ j,j<l.length→au l j=(j:Int)+1):bd (wE l ((k:Int)+1)) (fun r=>r=(k:Int)):=by
 unfold wE;refine bd.loop k (fun j s=>s=(j:Int)) (by omega) rfl (fun j i aB ao=>?_) (fun i ao=>?_)
 ·subst ao;refine bd.cond (fun _=>?_) (fun h=>by simp at h;omega);refine .idx rfl (by omega) (.cond (fun ad=>?_) (fun ad=>.ret (dR (by omega))));rw [h j (by omega),beq_iff_eq] at ad;omega
 subst ao;have h1:decide ((k:Int)<(l.length:Int))=true:=by simp;omega
 have ab:(au l k==(k:Int)+1)=true:=by rw [h k hk];simp
 rw [h1];simp only [cond_true];rw [kY (by omega)];simp only [Option.bind_some,ab,cond_true];exact⟨_,rfl,.ret rfl⟩
theorem abM {s:aZ}(h:cr s){k:Nat}(hk:k<4):bd (AZ s ((k:Int)+1)) (fun r=>r=(k:Int)):=by
 unfold AZ;refine(Nb h).bind fun y aR=>?_;have ak:=h.lR;rw [aR.tables];refine(adQ _ (by simp;omega) (by simp;omega) fun j aB=>?_).bind fun r aA=>.ret aA;rw [Bq _ (by simpa using aB)];exact(h.gi (by simp at aB;omega)).1
def lead (n k:Int)(j:Nat):Bool:=decide ((j:Int)<n)&&decide (n - max 0 (min k n)≤ (j:Int))
theorem acf (n k:Int)(bq:0≤n)(h1:n≤128):bd (D9 n k) (fun r=> ∀ j,j<128→cJ r j=lead n k j):=by
 unfold D9 A5;have e:min (max 0 n) 128=n:=by omega
 rw [e];have aU:bk (n - min (max 0 k) n)=n - min (max 0 k) n:=gA (by omega) (by omega);refine .eq rfl ((TT n).bind fun a aW=>?_);rw [aU];refine(TT _).bind fun b hb=>(ae8 a b).bind fun r aA=>.ret fun j aB=>?_;rw [aA j aB,aW j aB,hb j aB];unfold lead;by_cases p:(j:Int)<n
 ·rw [decide_eq_true p];by_cases q:(j:Int)<n - min (max 0 k) n
  ·rw [decide_eq_true q,decide_eq_false (by omega)];rfl
  rw [decide_eq_false q,decide_eq_true (by omega)];rfl
 rw [decide_eq_false p,decide_eq_false (by omega)];rfl
def sd (a b:aX):Bool:=decide (a.ed<b.ed)||(a.ed==b.ed&&decide (a.cO<b.cO))
theorem Mn {a b:aX} :sd a b=true↔a.ed<b.ed∨ (a.ed=b.ed∧a.cO<b.cO):=by simp [sd]
theorem RW (a:aX):sd a a=false:=by simp [sd]
theorem Sn {a b:aX}(h:sd a b=true):sd b a=false:=by
 rw [Bool.eq_false_iff];intro ab;rw [Mn] at h ab;simp only [BitVec.lt_def,BitVec.toNat_eq] at h ab;omega
theorem acg {x y i:Nat}(h1:x.testBit i=false)(ab:y.testBit i=true)(ax:∀ j,i<j→x.testBit j=y.testBit j):x<y:=by
 have aO:x / 2 ^ (i+1)=y / 2 ^ (i+1):=Nat.eq_of_testBit_eq fun j=>by
  rw [Nat.testBit_div_two_pow,Nat.testBit_div_two_pow];exact ax _ (by omega)
 rw [Nat.testBit_eq_decide_div_mod_eq] at h1 ab;simp only [decide_eq_false_iff_not,decide_eq_true_eq] at h1 ab;rw [Nat.pow_succ,← Nat.div_div_eq_div_mul,← Nat.div_div_eq_div_mul] at aO;have a7:x / 2 ^ i<y / 2 ^ i:=by omega
 exact Nat.lt_of_div_lt_div a7
theorem TU {x y:BitVec 64}{i:Nat}(h1:x.getLsbD i=false)(ab:y.getLsbD i=true)(ax:∀ j,i<j→j<64→x.getLsbD j=y.getLsbD j):x<y:=by
 rw [BitVec.lt_def];refine acg h1 ab fun j aB=>?_;by_cases pO:j<64
 ·exact ax j aB pO
 show x.getLsbD j=y.getLsbD j;rw [BitVec.getLsbD_of_ge _ _ (by omega),BitVec.getLsbD_of_ge _ _ (by omega)]
theorem SX {a b:aX}{i:Nat}(ao:i<128)(h1:cJ a i=false)(ab:cJ b i=true)(ax:∀ j,i<j→j<128→cJ a j=cJ b j):sd a b=true:=by
 rw [Mn];by_cases h:i<64
 ·right;unfold cJ at h1 ab;rw [if_pos h] at h1 ab;constructor
  ·apply BitVec.eq_of_getLsbD_eq;intro j aB;have:=ax (j+64) (by omega) (by omega);unfold cJ at this;rw [if_neg (by omega),if_neg (by omega)] at this;simpa using this
  refine TU h1 ab fun j aB pO=>?_;have:=ax j aB (by omega);unfold cJ at this;rwa [if_pos pO,if_pos pO] at this
 left;unfold cJ at h1 ab;rw [if_neg h] at h1 ab;refine TU h1 ab fun j aB pO=>?_;have:=ax (j+64) (by omega) (by omega);unfold cJ at this;rw [if_neg (by omega),if_neg (by omega)] at this;simpa using this
theorem RF (a b:aX):bd (rv a b) (fun r=>(r>0↔sd b a=true)∧ (r<0↔sd a b=true)):=by
 unfold rv;refine(TS a).bind fun x al=>(TS b).bind fun y aR=>?_;refine bd.loop 128 (fun k s=>s=127 - (k:Int)∧ ∀ j,128≤j+k→j<128→cJ a j=cJ b j) (by omega) ⟨rfl,fun j h1 ab=>by omega⟩ (fun k s hk ao=>?_) (fun s ao=>?_)
 ·obtain⟨rfl,aU⟩:=ao;refine bd.cond (fun _=>?_) (fun h=>by simp at h;omega);have uq:(127 - (k:Int))=((127 - k:Nat):Int):=by omega
  have xi:127 - k<128:=by omega
  refine .idx uq xi (.idx uq xi ?_);rw [al _ xi,aR _ xi];refine .cond (fun de=>.idx uq xi ?_) fun heq=>.ret ⟨?_,fun j h1 ab=>?_⟩
  ·have heq:∀ j,127 - k<j→j<128→cJ a j=cJ b j:=fun j h1 ab=>aU j (by omega) ab;rw [aR _ xi];refine .cond (fun hb=>.ret (.ret ?_)) fun hb=>.ret (.ret ?_)
   ·have aW:cJ a (127 - k)=false:=by rw [hb] at de;simpa using de
    have:=SX xi aW hb heq;exact⟨⟨fun h=>by simp at h,fun h=>by rw [Sn this] at h;cases h⟩,fun _=>this,fun _=>by simp⟩
   have aW:cJ a (127 - k)=true:=by rw [hb] at de;simpa using de
   have:=SX xi hb aW fun j h1 ab=>(heq j h1 ab).symm;exact⟨⟨fun _=>this,fun _=>by simp⟩,fun h=>by simp at h,fun h=>by rw [Sn this] at h;cases h⟩
  ·rw [gA (by omega) (by omega)];omega
  by_cases aB:j=127 - k
  ·subst aB;simpa using heq
  exact aU j (by omega) ab
 obtain⟨rfl,aU⟩:=ao;refine⟨_,rfl,?_⟩;have:a=b:=M9 fun j aB=>aU j (by omega) aB;subst this;refine .ret ⟨?_,?_⟩ <;> simp [RW]
end Go.Proofs.YtppgfphgdogpeaaGreat
namespace Gv
structure vU {α:Type}(b:α→α→Bool):Prop where
 asymm:∀ x y,b x y=true→b y x=false
 trans:∀ x y z,b x y=true→b y z=true→b x z=true
def ins {α:Type}(b:α→α→Bool):List α→α→List α
 | [],x=>[x]
 | a::l,x=>if b a x=true then a::ins b l x else x::a::l
def iE {α:Type}(b:α→α→Bool)(l:List α):List α:=l.foldl (ins b) []
def lC {α:Type}(b:α→α→Bool):List α→α→Nat
 | [],_=>0
 | a::l,x=>if b a x=true then lC b l x+1 else 0
def CF {α:Type}(b:α→α→Bool)(x y:α):Prop:=b x y=true∨b y x=true
variable {α:Type} {b:α→α→Bool}
theorem SY (a:α)(l:List α)(x:α):ins b (a::l) x=if b a x=true then a::ins b l x else x::a::l:=rfl
theorem Nc:∀ {l:List α} {x:α},lC b l x≤l.length
 | [],_=>Nat.le_refl _
 | a::l,x=>by
   have:=Nc (l:=l) (x:=x);unfold lC;split <;> simp <;> omega
theorem Ut:∀ (l:List α) (x:α),ins b l x=l.take (lC b l x)++x::l.drop (lC b l x)
 | [],x=>rfl
 | a::l,x=>by
   unfold ins lC;split
   ·rw [Ut l x];rfl
   rfl
theorem LS:∀ (l:List α) (x:α),(ins b l x).Perm (x::l)
 | [],x=>List.Perm.refl _
 | a::l,x=>by
   unfold ins;split
   ·exact((LS l x).cons a).trans (List.Perm.swap x a l)
   exact List.Perm.refl _
theorem afb {l:List α}{x y:α} :y∈ins b l x↔y=x∨y∈l:=by
 rw [(LS l x).mem_iff];simp
theorem Iz (l:List α)(x:α):iE b (l++[x])=ins b (iE b l) x:=by
 simp [iE,List.foldl_append]
theorem Mo (l:List α):(iE b l).Perm l:=by
 have key:∀ (l m:List α),(l.foldl (ins b) m).Perm (m++l):=by
  intro l;induction l with
  | nil=>intro m;simp
  | cons a l b2=>
    intro m
    refine(b2 (ins b m a)).trans ?_
    refine((LS m a).append_right l).trans ?_
    exact(List.perm_middle (a:=a) (l₁:=m) (l₂:=l)).symm
 exact key l []
theorem w0 {l:List α}{y:α} :y∈iE b l↔y∈l:=(Mo l).mem_iff
theorem age {l:List α} :(iE b l).length=l.length:=(Mo l).length_eq
theorem RX (hb:vU b):∀ {l:List α} {x:α},l.Pairwise (fun x y=>b x y=true)→ (∀ a∈l,CF b a x)→ (ins b l x).Pairwise (fun x y=>b x y=true)
 | [],x,_,_=>by simp [ins]
 | a::l,x,hs,bw=>by
   obtain⟨h1,ab⟩:=List.pairwise_cons.1 hs;unfold ins;split
   ·rename_i uv;refine List.pairwise_cons.2 ⟨fun c ad=>?_,RX hb ab fun a aW=>bw a (by simp [aW])⟩;rcases afb.1 ad with rfl | ad
    ·exact uv
    exact h1 c ad
   rename_i uv;have Gz:b x a=true:=(bw a (by simp)).resolve_left uv;refine List.pairwise_cons.2 ⟨fun c ad=>?_,hs⟩;rcases List.mem_cons.1 ad with rfl | ad
   ·exact Gz
   exact hb.trans _ _ _ Gz (h1 c ad)
theorem acT {l:List α}{x:α}(h:∀ c∈l,b c x=false):ins b l x=x::l:=by
 cases l with
 | nil=>rfl
 | cons a l=>unfold ins;rw [if_neg (by simp [h a (by simp)])]
theorem RY (hb:vU b){q:α→Bool} :∀ {l:List α} {x:α},l.Pairwise (fun x y=>b x y=true)→ (∀ a∈l,CF b a x)→
 (ins b l x).filter q=if q x=true then ins b (l.filter q) x else l.filter q
 | [],x,_,_=>by
   show [x].filter q=if q x=true then [x] else [];by_cases hp:q x=true
   ·simp [hp]
   simp only [Bool.not_eq_true] at hp;simp [hp]
 | a::l,x,hs,bw=>by
   obtain⟨h1,ab⟩:=List.pairwise_cons.1 hs;have b2:=RY hb (q:=q) (x:=x) ab fun a aW=>bw a (by simp [aW]);rw [SY];by_cases uv:b a x=true
   ·rw [if_pos uv];by_cases rf:q a=true
    ·rw [List.filter_cons_of_pos rf,List.filter_cons_of_pos rf,b2];by_cases hq:q x=true
     ·rw [if_pos hq,if_pos hq,SY,if_pos uv]
     rw [if_neg hq,if_neg hq]
    rw [List.filter_cons_of_neg rf,List.filter_cons_of_neg rf,b2]
   rw [if_neg uv];have Gz:b x a=true:=(bw a (by simp)).resolve_left uv;by_cases hq:q x=true
   ·rw [List.filter_cons_of_pos hq,if_pos hq,acT];intro c ad;have ot:=(List.mem_filter.1 ad).1;refine hb.asymm _ _ ?_;rcases List.mem_cons.1 ot with rfl | ot
    ·exact Gz
    exact hb.trans _ _ _ Gz (h1 c ot)
   rw [List.filter_cons_of_neg hq,if_neg hq]
def xj (b:α→α→Bool)(l:List α):Prop:=l.Pairwise (CF b)
theorem xj.snoc {l:List α}{x:α}(h:xj b (l++[x])):xj b l∧ ∀ a∈l,CF b a x:=by
 unfold xj at *;rw [List.pairwise_append] at h;exact⟨h.1,fun a aW=>h.2.2 a aW x (by simp)⟩
theorem SZ {P:List α→Prop}(bq:P [])(h1:∀ l x,P l→P (l++[x]))(l:List α):P l:=by
 have:∀ r:List α,P r.reverse:=by
  intro r;induction r with
  | nil=>exact bq
  | cons a r b2=>rw [List.reverse_cons];exact h1 _ _ b2
 have:=this l.reverse;rwa [List.reverse_reverse] at this
theorem LF (hb:vU b){l:List α}(h:xj b l):(iE b l).Pairwise (fun x y=>b x y=true):=by
 induction l using SZ with
 | bq=>exact List.Pairwise.nil
 | h1 l x b2=>
   obtain⟨h1,ab⟩:=h.snoc
   rw [Iz]
   exact RX hb (b2 h1) fun a aW=>ab a (w0.1 aW)
theorem acU (hb:vU b){q:α→Bool}{l:List α}(h:xj b l):(iE b l).filter q=iE b (l.filter q):=by
 induction l using SZ with
 | bq=>rfl
 | h1 l x b2=>
   obtain⟨h1,ab⟩:=h.snoc
   rw [Iz,RY hb (LF hb h1) fun a aW=>ab a (w0.1 aW),b2 h1,List.filter_append]
   by_cases hq:q x=true
   ·rw [if_pos hq,List.filter_cons_of_pos hq,List.filter_nil,Iz]
   rw [if_neg hq,List.filter_cons_of_neg hq,List.filter_nil,List.append_nil]
theorem Nd [Inhabited α](hb:vU b):∀ {l:List α} {x:α} {k:Nat},l.Pairwise (fun x y=>b x y=true)→k<l.length→ (b (au l k) x=true↔k<lC b l x)
 | [],x,k,_,hk=>by simp at hk
 | a::l,x,k,hs,hk=>by
   obtain⟨h1,ab⟩:=List.pairwise_cons.1 hs;unfold lC;cases k with
   | zero=>
     have:au (a::l) 0=a:=rfl
     rw [this]
     split <;> simp_all
   | succ k=>
     have j9:k<l.length:=by simpa using hk
     have he:au (a::l) (k+1)=au l k:=by rw [dm _ hk,dm _ j9];rfl
     rw [he,Nd hb ab j9]
     split
     ·omega
     rename_i uv
     constructor
     ·intro cj
      have a7:=(Nd hb ab j9).2 cj
      have bl:=h1 (au l k) (by rw [dm _ j9];exact List.getElem_mem _)
      exact absurd (hb.trans _ _ _ bl a7) uv
     intro h;omega
end Gv
namespace Go.Proofs.YtppgfphgdogpeaaGreat
open Go Gv
theorem aaZ {xs:List dH}{f:dH→Option Bool}{g:dH→Bool}(aT:∀ x∈xs,f x=some (g x))(ak:xs.length<2 ^ 62):
 bd (C1 xs f) (fun r=>(r= -1∧ ∀ x∈xs,g x=false)∨ ∃ i:Nat,i<xs.length∧r=i∧g (au xs i)=true∧ ∀ j,j<i→g (au xs j)=false):=by
 unfold C1
 refine bd.loop xs.length (fun k s=>s=(k:Int)∧ ∀ j,j<k→g (au xs j)=false) (by omega) ⟨rfl,fun j aB=>by omega⟩ (fun k s hk ao=>?_) (fun s ao=>?_)
 ·obtain⟨ar,aU⟩:=ao;subst ar
  refine bd.cond (fun _=>?_) (fun h=>by simp at h;omega)
  refine .idx rfl hk (.eq (aT _ (by rw [dm xs hk];exact List.getElem_mem hk)) (.cond (fun h=>.ret ?_) (fun h=>.ret ⟨dR (by omega),fun j aB=>?_⟩)))
  ·exact .ret (.inr ⟨k,hk,rfl,h,aU⟩)
  by_cases tb:j=k
  ·subst tb;exact h
  exact aU j (by omega)
 obtain⟨ar,aU⟩:=ao;subst ar
 refine⟨_,by simp;rfl,?_⟩
 refine .ret (.inl ⟨rfl,fun x al=>?_⟩)
 obtain⟨j,aB,rfl⟩:=List.mem_iff_getElem.1 al
 rw [← dm xs aB];exact aU j aB
theorem _root_.Gv.bd.get {β:Type}{m:Option β}{v:β}(h:bd m (fun r=>r=v)):m=some v:=by
 obtain⟨r,h1,rfl⟩:=h;exact h1
def amW (kind b:Int)(m:cx)(x:aX):Bool:=
 if m.gC=false then true
 else if kind=1 then decide (x=m.ck)
 else if kind=2 then(List.range 128).all fun j=> !lead b m.fZ j||(cJ x j==cJ m.ck j)
 else if kind=3 then decide (FG x m.hN=m.ck)
 else !sd x m.ck&& !sd m.n2 x
def mt (s:aZ)(k:Nat)(p:Vector aX 4)(e:bh):Bool:=
 (List.range (au s.bS k).c4.length).all fun i=>amW (au (au s.bS k).c4 i).ez (Ah (au (au s.bS k).c4 i)) (au e.cw i) (b5 p i)
theorem acV {s:aZ}(h:cr s){k:Nat}(hk:k<4){e:bh}(he:e.bB=(k:Int)+1):Ei s e=some (au s.bS k,true):=by
 refine bd.get ?_;unfold Ei;rw [he];refine(Lj h hk).bind fun r aA=>?_;subst aA;rw [show decide ((k:Int)<0)=false from decide_eq_false (by omega),cond_false];exact .idx rfl (by have:=h.lR;omega) (.ret rfl)
def vV:List dH→List cx→Int
 | key::aP,m::ms=>if key.ez=2 then m.fZ else vV aP ms
 | _,_=>0
theorem Uu:∀ {aP:List dH} {ms:List cx} {i:Nat},ms.length=aP.length→i<aP.length→ (au aP i).ez=2→ (∀ j,j<i→ (au aP j).ez≠2)→vV aP ms=(au ms i).fZ
 | [],_,i,_,ao,_,_=>by simp at ao
 | key::aP,[],i,ak,_,_,_=>by simp at ak
 | key::aP,m::ms,0,_,_,ab,_=>by
   have:(au (key::aP) 0)=key:=rfl;rw [this] at ab;unfold vV;rw [if_pos ab];rfl
 | key::aP,m::ms,i+1,ak,ao,ab,aH=>by
   have bq:=aH 0 (by omega);have:(au (key::aP) 0)=key:=rfl;rw [this] at bq;unfold vV;rw [if_neg bq];have bA:∀ {β:Type} [Inhabited β] (x:β) (l:List β) (n:Nat),au (x::l) (n+1)=au l n:=fun x l n=>by simp [au]
   rw [bA] at ab ⊢;exact Uu (by simpa using ak) (by simpa using ao) ab fun j aB=>by have:=aH (j+1) (by omega);rwa [bA] at this
theorem Uv:∀ {aP:List dH} {ms:List cx},(∀ key∈aP,key.ez≠2)→vV aP ms=0
 | [],_,_=>by unfold vV;rfl
 | key::aP,[],_=>by unfold vV;rfl
 | key::aP,m::ms,aH=>by
   unfold vV;rw [if_neg (aH key (by simp))];exact Uv fun k hk=>aH k (by simp [hk])
def jI (s:aZ)(k:Nat)(e:bh):Int:=vV (au s.bS k).c4 e.cw
theorem RZ {s:aZ}(h:cr s){k:Nat}(hk:k<4){e:bh}(he:gb s k e):A7 s e=some (jI s k e):=by
 obtain⟨t1,⟨t2,t3⟩,t4,_⟩:=h.gi hk;have hm:=he.len;refine bd.get ?_;unfold A7 jI;refine .eq (acV h hk he.gi) ?_;simp only;refine(aaZ (g:=fun key=>key.ez==2) (fun x al=>rfl) (by omega)).bind fun r aA=>.eq rfl ?_;rcases aA with⟨rfl,aA⟩ | ⟨i,h1,rfl,ax,aO⟩
 ·refine .cond (fun _=>.ret ?_) (fun h=>by simp at h);rw [Uv fun key k2=>by simpa using aA key k2]
 have bF:(!true||decide ((i:Int)<0)||decide ((i:Int)≥ (e.cw.length:Int)))=false:=by simp;omega
 rw [bF,cond_false];refine .idx rfl (by omega) (.ret ?_);rw [Uu hm h1 (by simpa using ax) fun j aB=>by simpa using aO j aB]
def jx (s:aZ)(k:Nat)(a c:aC):Bool:=
 decide (c.aY.gJ<a.aY.gJ∨ (a.aY.gJ=c.aY.gJ∧ (jI s k c.aY<jI s k a.aY∨ (jI s k a.aY=jI s k c.aY∧c.b0<a.b0))))
theorem IY (s:aZ)(k:Nat):vU (jx s k) where
 asymm x y h:=by
  unfold jx at *;rw [decide_eq_true_eq] at h;rw [decide_eq_false_iff_not];omega
 trans x y z h cL:=by
  unfold jx at *;rw [decide_eq_true_eq] at *;omega
theorem agf {s:aZ}{k:Nat}{a c:aC}(h:a.b0≠c.b0):CF (jx s k) a c:=by
 unfold CF jx;rw [decide_eq_true_eq,decide_eq_true_eq];omega
def ey (x y:Int):Int:=if x<y then -1 else if y<x then 1 else 0
theorem u3 (x y:Int):pZ x y=some (ey x y):=by
 unfold pZ D7 ey;have:∀ z:Int,(z !=z)=false:=fun z=>by simp
 rw [this,this];simp only [Option.bind_some,cond_false];by_cases h1:x<y
 ·simp [h1]
 by_cases ab:y<x
 ·simp [h1,ab]
 simp [h1,ab]
theorem adR (a c d:Int):uE [a,c,d]=some (if a≠0 then a else if c≠0 then c else d):=by
 refine bd.get ?_;unfold uE;refine bd.loop 3 (fun i st=>st=(i:Int)∧ ∀ j,j<i→au [a,c,d] j=0) (by omega) ⟨rfl,fun j aB=>by omega⟩ (fun i st ao hs=>?_) (fun st hs=>?_)
 ·obtain⟨rfl,hs⟩:=hs;refine .cond (fun _=>?_) (fun h=>by simp at h;omega);refine .idx rfl (by simpa using ao) (.cond (fun ad=>.ret ?_) fun ad=>.ret ⟨dR (by omega),fun j aB=>?_⟩)
  ·simp only [Sum.elim_inr];refine .ret ?_;have bq:=hs 0;have h1:=hs 1;rcases (show i=0∨i=1∨i=2 by omega) with rfl | rfl | rfl
   ·have:a≠0:=by simpa [au] using ad
    rw [if_pos this];rfl
   ·have:c≠0:=by simpa [au] using ad
    have PG:a=0:=by simpa [au] using bq (by omega)
    rw [if_neg (by simpa using PG),if_pos this];rfl
   have PG:a=0:=by simpa [au] using bq (by omega)
   have amX:c=0:=by simpa [au] using h1 (by omega)
   rw [if_neg (by simpa using PG),if_neg (by simpa using amX)];rfl
  by_cases kc:j=i
  ·subst kc;simpa using ad
  exact hs j (by omega)
 obtain⟨rfl,hs⟩:=hs;refine⟨_,rfl,?_⟩;simp only [Sum.elim_inl];refine .ret ?_;have bq:a=0:=by simpa [au] using hs 0 (by omega)
 have h1:c=0:=by simpa [au] using hs 1 (by omega)
 have ab:d=0:=by simpa [au] using hs 2 (by omega)
 simp [bq,h1,ab]
theorem Sp {s:aZ}(h:cr s){k:Nat}(hk:k<4){a c:aC}(aW:gb s k a.aY)(ad:gb s k c.aY):Bb s a c=some (jx s k a c):=by
 unfold Bb jx;rw [u3,Option.bind_some,RZ h hk aW,Option.bind_some,RZ h hk ad,Option.bind_some,u3,Option.bind_some,u3,Option.bind_some,adR,Option.bind_some];congr 1;rw [decide_eq_decide];unfold ey;split <;> split <;> (repeat' split) <;> omega
theorem Zw {xs:List aC}{f:aC→Option Bool}{g:aC→Bool}(aT:∀ x∈xs,f x=some (g x))(ak:xs.length<2 ^ 62):
 bd (xY xs f) (fun r=>(r= -1∧ ∀ x∈xs,g x=false)∨ ∃ i:Nat,i<xs.length∧r=i∧g (au xs i)=true∧ ∀ j,j<i→g (au xs j)=false):=by
 unfold xY
 refine bd.loop xs.length (fun k s=>s=(k:Int)∧ ∀ j,j<k→g (au xs j)=false) (by omega) ⟨rfl,fun j aB=>by omega⟩ (fun k s hk ao=>?_) (fun s ao=>?_)
 ·obtain⟨ar,aU⟩:=ao;subst ar
  refine bd.cond (fun _=>?_) (fun h=>by simp at h;omega)
  refine .idx rfl hk (.eq (aT _ (by rw [dm xs hk];exact List.getElem_mem hk)) (.cond (fun h=>.ret ?_) (fun h=>.ret ⟨dR (by omega),fun j aB=>?_⟩)))
  ·exact .ret (.inr ⟨k,hk,rfl,h,aU⟩)
  by_cases tb:j=k
  ·subst tb;exact h
  exact aU j (by omega)
 obtain⟨ar,aU⟩:=ao;subst ar
 refine⟨_,by simp;rfl,?_⟩
 refine .ret (.inl ⟨rfl,fun x al=>?_⟩)
 obtain⟨j,aB,rfl⟩:=List.mem_iff_getElem.1 al
 rw [← dm xs aB];exact aU j aB
structure kD (s:aZ)(k:Nat)(i:aC):Prop where
 dF:gb s k i.aY
theorem afc {i:aC}(h1:i.aY.cw.length≤1000)(ab:i.aY.fq.length≤1000):sr i=some i:=by
 unfold sr HU He Hg;rw [fM _ _ (by simp;omega) (by omega),fM _ _ (by simp;omega) (by omega)];rfl
theorem E1 {s:aZ}(h:cr s){k:Nat}(hk:k<4){i:aC}(ao:kD s k i):sr i=some i:=by
 have h1:=ao.dF.len;have ab:=ao.dF.args;have ax:=(h.gi hk).2.1.2;exact afc (by omega) (by omega)
def jE (l:List aC)(n:Int):Bool:=l.any fun c=>c.b0==n
theorem V9 (x:eD)(n:Int)(ak:x.dd.length≤1000):bd ((xY x.dd (fun a0=>x4 a0 n)).bind fun an=>some an) (fun r=>(r= -1∧jE x.dd n=false)∨ ∃ i:Nat,i<x.dd.length∧r=i∧ (au x.dd i).b0=n∧jE x.dd n=true∧ ∀ j,j<i→ (au x.dd j).b0≠n):=by
 refine(Zw (g:=fun c=>c.b0==n) (fun c ad=>rfl) (by omega)).bind fun r aA=>.ret ?_;rcases aA with⟨h1,ab⟩ | ⟨i,h1,ab,ax,aO⟩
 ·exact .inl ⟨h1,by unfold jE;rw [List.any_eq_false];exact fun c ad=>by simp [ab c ad]⟩
 refine .inr ⟨i,h1,ab,by simpa using ax,?_,fun j aB=>by simpa using aO j aB⟩;unfold jE;rw [List.any_eq_true];exact⟨au x.dd i,by rw [dm _ h1];exact List.getElem_mem _,ax⟩
theorem adS {s:aZ}(h:cr s){k:Nat}(hk:k<4){x:eD}(al:x.mr=s){a c:aC}(aW:kD s k a)(ad:kD s k c):
 bd (Ar x a c) (fun r=>r<0↔jx s k a c=true):=by
 unfold Ar
 rw [al]
 refine .eq (Sp h hk aW.dF ad.dF) (.cond (fun hb=>.ret ⟨fun _=>hb,fun _=>by omega⟩) fun hb=>.eq (Sp h hk ad.dF aW.dF) (.cond (fun _=>.ret ?_) fun _=>.ret ?_))
 ·rw [hb];simp
 rw [hb];simp
theorem agh {i j:Nat}(h:i+j<2 ^ 62):bk ((BitVec.ofInt 64 (bk ((i:Int)+(j:Int)))) >>> (1#64).toNat).toNat=(((i+j) / 2:Nat):Int):=by
 rw [show(i:Int)+(j:Int)=((i+j:Nat):Int) by omega,gA (x:=((i+j:Nat):Int)) (by omega) (by omega)];have:((BitVec.ofInt 64 ((i+j:Nat):Int)) >>> (1#64).toNat).toNat=(i+j) / 2:=by
  rw [BitVec.toNat_ushiftRight,tB (by omega)];rw [show(1#64).toNat=1 from rfl,Nat.shiftRight_eq_div_pow,Nat.pow_one]
 rw [this,gA (by omega) (by omega)]
theorem acW {l:List aC}{x:aC}{b:aC→aC→Bool}(hb:vU b)(hs:l.Pairwise (fun x y=>b x y=true))(ak:l.length≤1000)
 {f:aC→aC→Option Int} (aT:∀ a∈l,bd (f a x) (fun r=>r<0↔b a x=true)):
 bd (CU l x f) (fun r=>r.1=(lC b l x:Int)):=by
 unfold CU
 have eM:=Nc (b:=b) (l:=l) (x:=x)
 have Cd:∀ h,h<l.length→au l h∈l:=fun h bQ=>by rw [dm _ bQ];exact List.getElem_mem _
 have oR:∀ q:Bool,bd ((cb (decide (((lC b l x:Nat):Int)<(l.length:Int))) true (idx l.length ((lC b l x:Nat):Int))).bind fun bz=>
  (cb (decide (((lC b l x:Nat):Int)<(l.length:Int))) true (f (au l bz) x)).bind fun aD=>some (((lC b l x:Nat):Int),(decide (((lC b l x:Nat):Int)<(l.length:Int)))&&(aD==0))) (fun r=>r.1=(lC b l x:Int)):=fun _=>by
  refine .cb (P:=fun c=>c=lC b l x) (fun h=>⟨_,kY (by simpa using h),rfl⟩) fun bz ab=>.cb (P:=fun _=>True) (fun h=>?_) fun aD _=>.ret rfl
  rw [ab h]
  exact(aT _ (Cd _ (by simpa using h))).mono fun _ _=>trivial
 refine bd.loop l.length (fun r st=> ∃ i j:Nat,st=((i:Int),(j:Int))∧i≤lC b l x∧lC b l x≤j∧j≤l.length∧j - i≤l.length - r) (by omega) ⟨0,l.length,rfl,by omega,by omega,by omega,by omega⟩ (fun r st aA bW=>?_) (fun st bW=>?_)
 ·obtain⟨i,j,rfl,h1,ab,ax,aO⟩:=bW
  refine .cond (fun ad=>?_) fun ad=>.ret ?_
  ·have fS:i<j:=by simpa using ad
   rw [agh (by omega)]
   have hm:(i+j) / 2<l.length:=by omega
   refine .idx rfl hm ((aT _ (Cd _ hm)).bind fun an bx=>?_)
   have cj:=Nd hb (x:=x) hs hm
   refine .bind (P:=fun m=> ∃ i j:Nat,m=((i:Int),(j:Int))∧i≤lC b l x∧lC b l x≤j∧j≤l.length∧j - i≤l.length - (r+1)) (.cond (fun aR=>.eq rfl (.ret ?_)) fun aR=>.ret ?_) fun m hm=>.ret ?_
   ·have:=cj.1 (bx.1 (by simpa using aR))
    refine⟨(i+j) / 2+1,j,?_,by omega,ab,ax,by omega⟩
    simp only [dR (show(i+j) / 2<2 ^ 62 by omega)]
   ·have: ¬ (i+j) / 2<lC b l x:=fun bQ=>by
     have:=bx.2 (cj.2 bQ);simp at aR;omega
    exact⟨i,(i+j) / 2,rfl,h1,by omega,by omega,by omega⟩
   obtain⟨rp,oz,rfl,a7⟩:=hm
   exact⟨rp,oz,rfl,a7⟩
  have fS: ¬ i<j:=by simpa using ad
  have:i=lC b l x:=by omega
  subst this
  exact oR true
 obtain⟨i,j,rfl,h1,ab,ax,aO⟩:=bW
 have fS:i=lC b l x:=by omega
 have ad:decide ((i:Int)<(j:Int))=false:=by simp;omega
 simp only [ad,cond_false]
 refine⟨_,rfl,?_⟩
 subst fS
 exact oR true
structure mf (s:aZ)(k:Nat)(l:List aC):Prop where
 ok:∀ i∈l,kD s k i
 num:l.Pairwise fun a c=>a.b0≠c.b0
 len:l.length≤900
theorem mf.PH {s:aZ}{k:Nat}{l:List aC}(h:mf s k l):xj (jx s k) l:=h.num.imp fun bQ=>agf bQ
theorem mf.iE {s:aZ}{k:Nat}{l:List aC}(h:mf s k l):(∀ i∈iE (jx s k) l,kD s k i)∧ (iE (jx s k) l).length≤900:=
 ⟨fun i ao=>h.ok i (w0.1 ao),by rw [age];exact h.len⟩
theorem IA {s:aZ}{k:Nat}{l:List aC}{n:Int} :jE (iE (jx s k) l) n=jE l n:=by
 unfold jE;rw [Bool.eq_iff_iff,List.any_eq_true,List.any_eq_true];exact⟨fun⟨c,h1,ab⟩=>⟨c,w0.1 h1,ab⟩,fun⟨c,h1,ab⟩=>⟨c,w0.2 h1,ab⟩⟩
theorem TV {l:List aC}{n:Int}(h:jE l n=false):∀ c∈l,c.b0≠n:=fun c ad=>by
 unfold jE at h;rw [List.any_eq_false] at h;simpa using h c ad
theorem mf.snoc {s:aZ}{k:Nat}{l:List aC}(h:mf s k l){i:aC}(ao:kD s k i)(aH:jE l i.b0=false)(ak:l.length<900):mf s k (l++[i]) where
 ok c ad:=by
  rcases List.mem_append.1 ad with ad | ad
  ·exact h.ok c ad
  rw [List.mem_singleton.1 ad];exact ao
 num:=by
  rw [List.pairwise_append];exact⟨h.num,by simp,fun a aW c ad=>by rw [List.mem_singleton.1 ad];exact TV aH a aW⟩
 len:=by simp;omega
def vg (s:aZ)(k:Nat)(l:List aC):eD:= { mr:=s,dd:=iE (jx s k) l }
theorem agi {s:aZ}(h:cr s){k:Nat}(hk:k<4){l:List aC}(ak:mf s k l){i:aC}(ao:kD s k i)(hlen:l.length<900):
 Dk (vg s k l) i=some (!jE l i.b0,if jE l i.b0=true then vg s k l else vg s k (l++[i])):=by
 refine bd.get ?_
 unfold Dk
 obtain⟨kq,gH⟩:=ak.iE
 refine .cb (fun _=>V9 (vg s k l) _ (by show(iE _ l).length≤1000;omega)) fun an h1=>?_
 have h1:=h1 rfl
 rw [Bool.false_or]
 rcases h1 with⟨rfl,ab⟩ | ⟨j,ab,rfl,ax,aO,a7⟩
 ·have mb:jE l i.b0=false:=by rw [← ab];exact IA.symm
  refine .cond (fun ad=>by simp at ad) fun _=>?_
  refine(acW (b:=jx s k) (IY s k) (LF (IY s k) ak.PH) (by omega) fun a aW=>adS h hk rfl (kq a aW) ao).bind fun aD cc=>.eq (E1 h hk ao) ?_
  rw [cc]
  unfold Ha
  have eM:=Nc (b:=jx s k) (l:=iE (jx s k) l) (x:=i)
  refine .eq (a:=iE (jx s k) (l++[i])) ?_ (.ret ?_)
  ·show Fz 88 (iE (jx s k) l) _ _=_
   unfold Fz
   have sZ:maxLen=9223372036854775807:=rfl
   rw [if_pos ⟨by omega,by omega,by simp,by simp <;> omega,by simp <;> omega⟩,Iz,Ut]
   simp
  rw [mb];rfl
 have CG:jE l i.b0=true:=by rw [← aO];exact IA.symm
 refine .cond (fun _=>.ret ?_) fun ad=>by simp at ad <;> omega
 rw [CG];rfl
theorem ach {s:aZ}(h:cr s){k:Nat}(hk:k<4){l:List aC}(ak:∀ i∈l,kD s k i)(aH:l.length≤1000):Be l=some l:=by
 refine bd.get ?_;unfold Be;refine bd.loop l.length (fun i st=>st=((i:Int),l.take i)) (by omega) rfl (fun i st ao hs=>?_) (fun st hs=>?_)
 ·subst hs;refine .cond (fun _=>?_) (fun ad=>by simp at ad;omega);refine .idx rfl ao (.eq (E1 h hk (ak _ (by rw [dm _ ao];exact List.getElem_mem _))) (.eq (fM _ _ (by simp;omega) (by omega)) (.ret ?_)));rw [dR (by omega),mK l ao]
 subst hs;refine⟨_,by simp;rfl,.ret ?_⟩;simp
theorem agj {s:aZ}(h:cr s){k:Nat}(hk:k<4){l:List aC}(ak:mf s k l):Di (vg s k l)=some (iE (jx s k) l):=by
 unfold Di;obtain⟨kq,gH⟩:=ak.iE;show Option.bind (Be (iE (jx s k) l)) _=_;rw [ach h hk kq (by omega)];rfl
theorem Ib (v:aX):rv v v=some 0:=by
 obtain⟨r,h1,ab,ax⟩:=RF v v;rw [RW] at ab ax;have:r=0:=by
  have bT: ¬ r>0:=fun h=>by simpa using ab.1 h
  have a2: ¬ r<0:=fun h=>by simpa using ax.1 h
  omega
 rw [h1,this]
theorem abN (m:cx):yp m m=some 0:=by
 unfold yp;rw [Ib,Ib,Ib];simp
theorem Ez (n:Int):qK n n=some 0:=by
 unfold qK;simp
theorem abn (l:List cx)(ak:l.length≤1000):wB l l=some 0:=by
 refine bd.get ?_;unfold wB;refine bd.loop l.length (fun i st=>st=(i:Int)) (by omega) rfl (fun i st ao hs=>?_) (fun st hs=>?_)
 ·subst hs;refine .cond (fun _=>?_) (fun ad=>by simp at ad;omega);exact .idx rfl ao (.idx rfl ao (.eq (abN _) (.cond (fun ad=>by simp at ad) fun _=>.ret (dR (by omega)))))
 subst hs;refine⟨_,by simp;rfl,?_⟩;simp only [Sum.elim_inl];exact .eq (Ez _) (.ret rfl)
theorem abx (l:List aX)(ak:l.length≤1000):ym l l=some 0:=by
 refine bd.get ?_;unfold ym;refine bd.loop l.length (fun i st=>st=(i:Int)) (by omega) rfl (fun i st ao hs=>?_) (fun st hs=>?_)
 ·subst hs;refine .cond (fun _=>?_) (fun ad=>by simp at ad;omega);exact .idx rfl ao (.idx rfl ao (.eq (Ib _) (.cond (fun ad=>by simp at ad) fun _=>.ret (dR (by omega)))))
 subst hs;refine⟨_,by simp;rfl,?_⟩;simp only [Sum.elim_inl];exact .eq (Ez _) (.ret rfl)
theorem acX {e:bh}(h1:e.cw.length≤1000)(ab:e.fq.length≤1000):uD e e=some 0:=by
 unfold uD;rw [Ez,Option.bind_some,Ez,Option.bind_some,abn _ h1,Option.bind_some,Ez,Option.bind_some];refine bd.get ?_;refine bd.loop 4 (fun i st=>st=(i:Int)) (by omega) rfl (fun i st ao hs=>?_) (fun st hs=>?_)
 ·subst hs;refine .cond (fun _=>?_) (fun ad=>by simp at ad;omega);have bq:au [(0:Int),0,0,0] i=0:=by
   rcases (show i=0∨i=1∨i=2∨i=3 by omega) with rfl | rfl | rfl | rfl <;> rfl
  refine .idx rfl (by simpa using ao) (.cond (fun ad=>by rw [bq] at ad;simp at ad) fun _=>.ret (dR (by omega)))
 subst hs;refine⟨_,rfl,?_⟩;simp only [Sum.elim_inl];exact .eq (abx _ ab) (.ret rfl)
theorem acY {i:aC}(h1:i.aY.cw.length≤1000)(ab:i.aY.fq.length≤1000):Bf i i=some true:=by
 unfold Bf HN;rw [acX h1 ab];simp
theorem kD.small {s:aZ}(h:cr s){k:Nat}(hk:k<4){i:aC}(ao:kD s k i):i.aY.cw.length≤1000∧i.aY.fq.length≤1000:=by
 have h1:=ao.dF.len;have ab:=ao.dF.args;have ax:=(h.gi hk).2.1.2;exact⟨by omega,by omega⟩
theorem HQ {l:List aC}(ak:∀ i∈l,i.aY.cw.length≤1000∧i.aY.fq.length≤1000)(aH:l.length≤1000):yl l l=some true:=by
 refine bd.get ?_;unfold yl;refine .cond (fun ad=>by simp at ad) fun _=>?_;refine bd.loop l.length (fun i st=>st=(i:Int)) (by omega) rfl (fun i st ao hs=>?_) (fun st hs=>?_)
 ·subst hs;refine .cond (fun _=>?_) (fun ad=>by simp at ad;omega);have:=ak (au l i) (by rw [dm _ ao];exact List.getElem_mem _);exact .idx rfl ao (.idx rfl ao (.eq (acY this.1 this.2) (.cond (fun ad=>by simp at ad) fun _=>.ret (dR (by omega)))))
 subst hs;refine⟨_,by simp;rfl,?_⟩;simp only [Sum.elim_inl];exact .ret rfl
def vW (o:Option aC):aC×Bool:=match o with | some c=>(c,true) | none=>(default,false)
theorem S0 (c:eg):bd (Dv c) (fun _=>True):=by
 unfold Dv;first | exact .ret trivial | exact .eq rfl (.ret trivial)
structure ky (hp:aG Cell)(t:Nat)(g:List Bool→Option Int):Prop where
 ok:∃ c,gm hp t=some c∧c.gR=32∧qT hp c.eX∧ ∀ a8,cont hp c.eX a8=g a8
def Own (hp:aG Cell)(t q:Nat):Prop:=q=t∨ ∃ c a8,gm hp t=some c∧cV hp c.eX a8=some q
def eJ (v:aX)(n:Nat):List Bool:=(List.range n).map fun i=>cJ v (31 - i)
theorem H4 (v:aX)(n:Nat):eJ v (n+1)=eJ v n++[cJ v (31 - n)]:=by simp [eJ,List.range_succ]
theorem R0 (v:aX):eJ v 0= []:=rfl
theorem Sq {hp:aG Cell}{t:Nat}{c:hl}(ad:gm hp t=some c)(hb:c.gR=32){n:Nat}(aH:n≤32){v:aX}(bb:∀ j,j<128→cJ v j=true→lead 32 n j=true):
 AN hp (some t) v n=some true:=by
 refine bd.get ?_
 unfold AN
 have ar:(Option.isSome (some t)&&decide ((n:Int)≥0))=true:=by simp
 have aU:decide ((n:Int)≤c.gR)=true:=by rw [hb];simp;omega
 refine .cb (P:=fun r=>r=t) (fun _=>⟨t,rfl,rfl⟩) fun bt h1=>?_
 rw [h1 ar]
 refine .cb (P:=fun r=>r=c) (fun _=>⟨c,ad,rfl⟩) fun c1 ab=>?_
 rw [ab ar]
 rw [ar,aU]
 refine .cb (P:=fun r=>r=t) (fun _=>⟨t,rfl,rfl⟩) fun cu ax=>?_
 rw [ax rfl]
 refine .cb (P:=fun r=>r=c) (fun _=>⟨c,ad,rfl⟩) fun c2 aO=>?_
 rw [aO rfl,hb]
 refine .cb (fun _=>acf 32 n (by decide) (by decide)) fun an a7=>?_
 refine .cb (P:=fun r=>r=FG v an) (fun _=>⟨_,and_eq v an,rfl⟩) fun aD bl=>?_
 refine .eq rfl (.ret ?_)
 have:aD=v:=by
  rw [bl rfl];refine M9 fun j aB=>?_;rw [ae6,a7 rfl j aB];cases e:cJ v j with
  | false=>rfl
  | true=>rw [bb j aB e];rfl
 rw [this];simp
theorem Uw {v:aX}{i:Nat}(ao:i<32):bd (yv v (bk ((bk ((32:Int) - 1)) - (i:Int)))) (fun r=>r=cJ v (31 - i)):=by
 have e:bk ((bk ((32:Int) - 1)) - (i:Int))=((31 - i:Nat):Int):=by
  rw [show bk ((32:Int) - 1)=31 from by rw [gA (by decide) (by decide)];rfl,gA (by omega) (by omega)];omega
 rw [e];refine(agd v _).mono fun r aA=>?_;rw [aA];have:decide (0≤ ((31 - i:Nat):Int)∧ ((31 - i:Nat):Int)<128)=true:=by rw [decide_eq_true_eq];omega
 rw [this,Bool.true_and];rfl
theorem Ux (b:Bool):(cond b (some (1:Int)) (some 0))=some ((fK b:Nat):Int):=by cases b <;> rfl
theorem Wa {σ ε:Type}{hp:aG Cell}{t:Nat}{c:hl}(ad:gm hp t=some c)(hb:c.gR=32)(v:aX){n:Nat}(aH:n≤32){step:Int→σ→Option (σ ⊕ ε)}{cg:σ}{P:σ ⊕ ε→Prop}(fI:Nat→σ→Prop)(bq:fI 0 cg)
 (hs:∀ i s,i<n→fI i s→bd (step ((fK (cJ v (31 - i)):Nat):Int) s) (fun r=>match r with | .inl cf=>fI (i+1) cf | .inr e=>P (.inr e))) (he:∀ s,fI n s→P (.inl s)):bd (uA hp n v (some t) step cg) P:=by
 unfold uA
 refine bd.loop n (fun i s=>s.1=(i:Int)∧fI i s.2) (by omega) ⟨rfl,bq⟩ (fun i s ao iM=>?_) (fun s iM=>?_)
 ·obtain⟨j,s⟩:=s;obtain⟨ar,aU⟩:=iM
  simp only at ar aU;subst ar
  refine bd.cond (fun _=>?_) (fun h=>by simp at h;omega)
  refine .eq rfl (.eq ad ?_)
  rw [hb]
  refine(Uw (by omega)).bind fun an h1=>.eq (Ux an) ?_
  rw [h1]
  refine(hs i s ao aU).bind fun r aA=>?_
  cases r with
  | inl cf=>exact .ret ⟨dR (by omega),aA⟩
  | inr e=>exact .ret (.ret aA)
 obtain⟨j,s⟩:=s;obtain⟨ar,aU⟩:=iM
 simp only at ar aU;subst ar
 refine⟨_,by simp;rfl,?_⟩
 exact .ret (he s aU)
theorem aiH {σ ε:Type}{t:Nat}(v:aX){n:Nat}(aH:n≤32){hq:σ→aG Cell}{step:Int→σ→ag (σ ⊕ ε)}{cg:σ}{P:σ ⊕ ε→Prop}(fI:Nat→σ→Prop)(bq:fI 0 cg)(nf:∀ i s,fI i s→ ∃ c,gm (hq s) t=some c∧c.gR=32)
 (hs:∀ i s,i<n→fI i s→cy (step ((fK (cJ v (31 - i)):Nat):Int) s) (fun r=>match r with | .inl cf=>fI (i+1) cf | .inr e=>P (.inr e))) (he:∀ s,fI n s→P (.inl s)):cy (ya n v (some t) hq step cg) P:=by
 unfold ya
 refine .bind (P:=fun e=>match e with | .inl e=>P (.inl e.2.2) | .inr e=>P (.inr e.2.2.2.2.2.2)) (cy.loop n (fun i s=>s.1=(i:Int)∧fI i s.2) (by omega) ⟨rfl,bq⟩ (fun i s ao iM=>?_) (fun s iM=>?_)) fun e h=>?_
 ·obtain⟨j,s⟩:=s;obtain⟨ar,aU⟩:=iM
  simp only at ar aU;subst ar
  refine cy.cond (fun _=>?_) (fun h=>by simp at h;omega)
  obtain⟨c,ad,hb⟩:=nf i s aU
  refine .eq rfl (.eq ad ?_)
  rw [hb]
  refine .gh (Uw (by omega)) fun an h1=>.eq (Ux an) ?_
  rw [h1]
  refine .bind (hs i s ao aU) fun r aA=>?_
  cases r with
  | inl cf=>exact .ret ⟨dR (by omega),aA⟩
  | inr e=>exact .ret aA
 ·obtain⟨j,s⟩:=s;obtain⟨ar,aU⟩:=iM
  simp only at ar aU;subst ar
  refine cy.cond (fun h=>by simp at h) fun _=>.ret (he s aU)
 cases e with
 | inl e=>exact .ret h
 | inr e=>exact .ret h
theorem S1 {hp:aG Cell}{t:Nat}{c:hl}(ad:gm hp t=some c)(hb:c.gR=32)(bw:qT hp c.eX){n:Nat}(aH:n≤32){v:aX}(bb:∀ j,j<128→cJ v j=true→lead 32 n j=true):
 AV hp (some t) v n=some (cV hp c.eX (eJ v n)):=by
 refine bd.get ?_
 unfold AV
 refine .eq (Sq ad hb aH bb) (.cond (fun h=>by cases h) fun _=>.eq rfl (.eq ad (.eq rfl ?_)))
 show bd (Option.bind (uA hp (n:Int) v (some t) _ _) _) _
 refine bd.bind (P:=fun e:Ref ⊕ (Ref×Ref)=>e.elim (fun s=>s=cV hp c.eX (eJ v n)) (fun q=>q.2=cV hp c.eX (eJ v n))) (Wa ad hb v aH (fun i s=>s=cV hp c.eX (eJ v i)) p6.symm (fun i s ao hs=>?_) (fun s hs=>hs)) fun e he=>?_
 ·refine .cond (fun h=>.ret ?_) fun h=>?_
  ·rw [Option.isNone_iff_eq_none] at h
   have ar:eJ v n=eJ v i++(eJ v n).drop i:=by
    have:eJ v i=(eJ v n).take i:=by unfold eJ;rw [← List.map_take,List.take_range];congr 2;omega
    rw [this,List.take_append_drop]
   show(none:Ref)=_
   rw [ar,oE,← hs,h,hr]
  cases s with
  | none=>simp at h
  | some p=>
    obtain⟨c1,h1⟩:=bw.reads _ _ hs.symm
    refine .eq rfl (.idx rfl (by cases cJ v (31 - i) <;> decide) (.eq h1 (.ret ?_)))
    show b5 c1.dA _=_
    rw [H4,oE,← hs,iG h1,p6]
 cases e with
 | inl s=>exact .ret he
 | inr q=>exact .ret he
theorem Uy {hp:aG Cell}{t:Nat}{g:List Bool→Option Int}(h:ky hp t g){n:Nat}(aH:n≤32){v:aX}(bb:∀ j,j<128→cJ v j=true→lead 32 n j=true):
 yk hp (some t) v n=some (match g (eJ v n) with | none=>(0,false) | some id=>(id,true)):=by
 obtain⟨c,ad,hb,bw,bA⟩:=h.ok
 refine bd.get ?_
 unfold yk
 refine .eq (S1 ad hb bw aH bb) ?_
 rw [← bA]
 cases e:cV hp c.eX (eJ v n) with
 | none=>
   rw [mu e]
   refine .cb (P:=fun _=>True) (fun h=>by cases h) fun o _=>.cb (P:=fun _=>True) (fun h=>by cases h) fun o _=>.cond (fun _=>.ret rfl) fun h=>by cases h
 | some p=>
   obtain⟨d,hd⟩:=bw.reads _ _ e
   rw [lM e hd]
   refine .cb (P:=fun r=>r=p) (fun _=>⟨p,rfl,rfl⟩) fun o h1=>?_
   rw [h1 rfl]
   refine .cb (P:=fun r=>r=d) (fun _=>⟨d,hd,rfl⟩) fun c1 ab=>?_
   rw [ab rfl]
   refine .cond (fun h=>?_) fun h=>?_
   ·have:d.ga=false:=by simpa using h
    rw [this];exact .ret rfl
   have:d.ga=true:=by simpa using h
   rw [this];exact .eq rfl (.eq hd (.ret rfl))
structure JL (lD hp:aG Cell)(t:Nat)(g:List Bool→Option Int)(r:Nat):Prop where
 cell:∃ c,gm hp t=some c∧c.gR=32∧c.eX=some r
 tree:qT hp (some r)
 cont:∀ a8,cont hp (some r) a8=g a8
 keeps:eT lD hp (Own lD t)
 own:∀ a8 q,cV hp (some r) a8=some q→Own lD t q∨q ∉ dI lD
theorem EA {hp:aG Cell}{a t:Nat}{k:Cell}(aW:a ∉ dI hp)(h:pat hp t=some k):a≠t:=fun e=>aW (e ▸ jM h)
theorem S2 {hp:aG Cell}{a:Nat}{x:ek} :cK ((a,.gE x)::hp) a=some x:=by rw [rA,kJ,if_pos rfl]
theorem aci {hp:aG Cell}{a:Nat}(aW:a ∉ dI hp):cK hp a=none:=by unfold cK;rw [adN aW]
theorem Br {hp:aG Cell}{p:Nat}{k:Cell}{x:ek}(h:pat hp p=some k):cK (ct hp p (.gE x)) p=some x:=by rw [rA,rI h]
theorem wG {hp:aG Cell}{p q:Nat}{k:Cell}(h:p≠q):cK (ct hp p k) q=cK hp q:=yw (mq h)
theorem RG {hp:aG Cell}{a q:Nat}{k:Cell}(h:a≠q):cK ((a,k)::hp) q=cK hp q:=yw (by rw [kJ,if_neg h])
theorem S3 {hp:aG Cell}{p:Nat}{k:Cell}{x:hl}(h:pat hp p=some k):gm (ct hp p (.k1 x)) p=some x:=by rw [uH,rI h]
theorem HX {hp:aG Cell}{p q:Nat}{k:Cell}(h:p≠q):gm (ct hp p k) q=gm hp q:=HW (mq h)
theorem RH {hp:aG Cell}{a q:Nat}{k:Cell}(h:a≠q):gm ((a,k)::hp) q=gm hp q:=HW (by rw [kJ,if_neg h])
theorem Jp {hp:aG Cell}{p t:Nat}{x:ek}{c:hl}(h1:cK hp p=some x)(ab:gm hp t=some c):p≠t:=fun e=>by
 subst e;rw [rA] at h1;rw [uH,h1] at ab;cases ab
theorem agk {hp:aG Cell}{t:Nat}{g:List Bool→Option Int}{c:hl}(ad:gm hp t=some c)(hb:c.gR=32)(bw:qT hp c.eX)(bA:∀ a8,cont hp c.eX a8=g a8):
 cy (cond c.eX.isNone (
     ag.bind (ag.mk hp (Cell.gE (default:ek))) fun a2=>
     ag.bind (ag.of (gm a2.2 t)) fun xK=>
     ag.bind (ag.of (some (ct a2.2 t (Cell.k1 ({ xK with eX:=(some a2.1:Ref) } :hl))))) fun uh=>
     ag.ret uh) (ag.ret hp)) (fun bH=> ∃ r,JL hp bH t g r):=by
 have hI:=uH.1 ad
 refine .cond (fun h=>.mk fun a aW=>?_) fun h=>?_
 ·have aA:c.eX=none:=by rw [Option.isNone_iff_eq_none] at h;exact h
  have Yv:=EA aW hI
  have Cr:gm ((a,Cell.gE default)::hp) t=some c:=by rw [RH Yv];exact ad
  refine .eq Cr (.eq rfl (.ret ⟨a,?_⟩))
  have aH:cK (ct ((a,Cell.gE default)::hp) t (.k1 { c with eX:=some a })) a=some default:=by
   rw [wG Yv.symm,S2]
  have aT:=Sm aH
  refine⟨⟨_,S3 (uH.1 Cr),hb,rfl⟩,⟨fun a8 p h1=>?_,fun a8 cs p h1 ab=>?_,fun a8 p h1=>?_⟩,fun a8=>?_,?_,fun a8 q h1=>?_⟩
  ·rw [aT] at h1
   split at h1
   ·cases h1;exact⟨_,aH⟩
   cases h1
  ·rw [aT] at h1 ab
   split at h1 <;> split at ab
   ·rename_i ar aU;rw [ar,aU]
   ·cases ab
   ·cases h1
   cases h1
  ·rw [aT] at h1
   split at h1
   ·rename_i e;rw [e];exact Nat.zero_le _
   cases h1
  ·rw [← bA,aA,mu hr]
   by_cases e:a8= []
   ·rw [lM (by rw [aT,if_pos e]) aH];rfl
   rw [mu (by rw [aT,if_neg e])]
  ·exact(eT.mk' aW).trans (own':=fun q=>q=t) (eT.up (own:=fun q=>q=t) rfl) fun q _ h1=>.inl h1
  rw [aT] at h1
  split at h1
  ·cases h1;exact .inr aW
  cases h1
 cases aA:c.eX with
 | none=>rw [aA] at h;cases h
 | some r=>
   rw [aA] at bw bA
   exact .ret ⟨r,⟨c,ad,hb,aA⟩,bw,bA,.refl,fun a8 q h1=>.inl (.inr ⟨c,a8,ad,by rw [aA];exact h1⟩)⟩
theorem aiI {hp:aG Cell}{t:Nat}{g:List Bool→Option Int}(h:ky hp t g){n:Nat}(aH:n≤32){v:aX}(bb:∀ j,j<128→cJ v j=true→lead 32 n j=true)(id:Int)(fx:g (eJ v n)=none):
 cy (A2 hp (some t) v n id) (fun r=>r.1=true∧ky r.2 t (fun a8=>if a8=eJ v n then some id else g a8)∧eT hp r.2 (Own hp t)∧ ∀ q,Own r.2 t q→Own hp t q∨q ∉ dI hp):=by
 obtain⟨c,ad,hb,bw,bA⟩:=h.ok
 unfold A2
 refine .eq (Sq ad hb aH bb) (.cond (fun h=>by cases h) fun _=>.eq (S1 ad hb bw aH bb) ?_)
 refine .cb (P:=fun o=>cV hp c.eX (eJ v n)=some o) (fun h1=>?_) fun bt h1=>?_
 ·cases e:cV hp c.eX (eJ v n) with
  | none=>rw [e] at h1;cases h1
  | some p=>exact⟨p,rfl,rfl⟩
 refine .cb (P:=fun d=>cK hp bt=some d) (fun ab=>?_) fun c1 ab=>?_
 ·obtain⟨d,hd⟩:=bw.reads _ _ (h1 ab)
  exact⟨d,hd,hd⟩
 refine .cond (fun ax=>?_) fun _=>?_
 ·simp only [Bool.and_eq_true] at ax
  rw [← bA,lM (h1 ax.1) (ab ax.1),ax.2] at fx
  cases fx
 refine .eq rfl (.eq ad (.bind (agk ad hb bw bA) fun m1 b4=>?_))
 obtain⟨r,b4⟩:=b4
 obtain⟨cY,gF,asn,Pv⟩:=b4.cell
 refine .eq gF (.eq rfl ?_)
 show cy (ag.bind (ya (n:Int) v (some t) _ _ _) _) _
 refine .bind (P:=fun e:(Ref×aG Cell) ⊕ Empty=> ∃ p cE,e= .inl (some p,cE)∧cV cE (some r) (eJ v n)=some p∧JL hp cE t g r) (aiH v aH (fun i s=> ∃ p,s.1=some p∧cV s.2 (some r) (eJ v i)=some p∧JL hp s.2 t g r) ⟨r,Pv,p6,b4⟩ (fun i s ao=>?_) (fun i s ao hs=>?_) (fun s hs=>?_)) fun e he=>?_
 ·obtain⟨p,_,_,hm⟩:=ao
  obtain⟨d,aO,a7,_⟩:=hm.cell
  exact⟨d,aO,a7⟩
 ·obtain⟨amY,cE⟩:=s
  obtain⟨p,ar,aU,hm⟩:=hs
  simp only at ar aU hm
  subst ar
  obtain⟨d,hd⟩:=hm.tree.reads _ _ aU
  have cj:fK (cJ v (31 - i))<2:=by cases cJ v (31 - i) <;> decide
  refine .eq rfl (.idx rfl cj (.eq hd ?_))
  refine .bind (P:=fun hZ=> ∃ q ni,cK hZ p=some ni∧b5 ni.dA (fK (cJ v (31 - i)))=some q∧cV hZ (some r) (eJ v i)=some p∧JL hp hZ t g r) (.cond (fun bl=>.mk fun a aW=>?_) fun bl=>.ret ?_) fun hZ cN=>?_
  ·have ou:b5 d.dA (fK (cJ v (31 - i)))=none:=by rw [Option.isNone_iff_eq_none] at bl;exact bl
   have Yw:=EA aW (rA.1 hd)
   have fN:cK ((a,Cell.gE default)::cE) p=some d:=by rw [RG Yw];exact hd
   refine .idx rfl cj (.eq fN (.eq rfl (.ret ?_)))
   have eM:cK (ct ((a,Cell.gE default)::cE) p (.gE { d with dA:=eb d.dA (fK (cJ v (31 - i))) (some a) })) a=some default:=by
    rw [wG Yw.symm,S2]
   have b3:cK (ct ((a,Cell.gE default)::cE) p (.gE { d with dA:=eb d.dA (fK (cJ v (31 - i))) (some a) })) p=some { d with dA:=eb d.dA (fK (cJ v (31 - i))) (some a) } :=Br (rA.1 fN)
   obtain⟨g1,g2,g3⟩:=grow (by unfold eJ;simp;omega) hm.tree aU hd ou (aci aW) b3 eM fun q iZ qn=>by rw [wG iZ.symm,RG qn.symm]
   have FI:Own hp t p∨p ∉ dI hp:=hm.own _ _ aU
   refine⟨a,_,b3,by rw [jA _ _ cj,if_pos rfl],by rw [g2,if_neg (fun e=>by have:=congrArg List.length e;simp at this)];exact aU,?_,g1,fun a8=>by rw [g3,hm.cont],?_,fun a8 q hq=>?_⟩
   ·obtain⟨d4,aO,a7,cW⟩:=hm.cell
    have hI:=Jp hd aO
    exact⟨d4,by rw [HX hI,RH (EA aW (uH.1 aO))];exact aO,a7,cW⟩
   ·refine hm.keeps.trans (own':=fun q=>q=p) ((eT.mk' aW).trans (own':=fun q=>q=p) (eT.up (own:=fun q=>q=p) rfl) fun q _ c0=>c0) fun q hq c0=>?_
    subst c0
    exact FI.resolve_right fun lU=>lU hq
   rw [g2] at hq
   split at hq
   ·cases hq;exact .inr fun c0=>aW (hm.keeps.keys _ c0)
   exact hm.own _ _ hq
  ·cases ou:b5 d.dA (fK (cJ v (31 - i))) with
   | none=>rw [ou] at bl;cases bl
   | some q=>exact⟨q,d,hd,ou,aU,hm⟩
  obtain⟨q,ni,cW,c0,lU,uu⟩:=cN
  refine .idx rfl cj (.eq cW (.ret ⟨q,c0,?_,uu⟩))
  show cV hZ (some r) (eJ v (i+1))=some q
  rw [H4,oE,lU,iG cW,c0,p6]
 ·obtain⟨amY,cE⟩:=s
  obtain⟨p,ar,aU,hm⟩:=hs
  simp only at ar aU hm
  subst ar
  exact⟨p,cE,rfl,aU,hm⟩
 obtain⟨p,cE,rfl,aU,hm⟩:=he
 obtain⟨d,hd⟩:=hm.tree.reads _ _ aU
 have PI:=rA.1 hd
 refine .eq rfl (.eq hd (.eq rfl (.eq rfl ?_)))
 have fN:cK (ct cE p (.gE { d with ga:=true })) p=some { d with ga:=true } :=Br PI
 refine .eq fN (.eq rfl (.ret ?_))
 have xo:cK (ct (ct cE p (.gE { d with ga:=true })) p (.gE { d with ga:=true,kA:=id })) p=some { d with ga:=true,kA:=id } :=Br (rA.1 fN)
 obtain⟨s1,s2⟩:=Xp hm.tree aU hd xo rfl fun q hq=>by rw [wG hq.symm,wG hq.symm]
 obtain⟨d4,aO,a7,cW⟩:=hm.cell
 have hI:=Jp hd aO
 have CG:gm (ct (ct cE p (.gE { d with ga:=true })) p (.gE { d with ga:=true,kA:=id })) t=some d4:=by rw [HX hI,HX hI];exact aO
 have FI:Own hp t p∨p ∉ dI hp:=hm.own _ _ aU
 refine⟨rfl,⟨d4,CG,a7,by rw [cW];exact s1,fun a8=>?_⟩,?_,fun q hq=>?_⟩
 ·rw [cW,s2,hm.cont];rfl
 ·refine hm.keeps.trans (own':=fun q=>q=p) ((eT.up (own:=fun q=>q=p) rfl).trans (own':=fun q=>q=p) (eT.up (own:=fun q=>q=p) rfl) fun q _ c0=>c0) fun q hq c0=>?_
  subst c0
  exact FI.resolve_right fun lU=>lU hq
 rcases hq with rfl | ⟨fP,a8,h1,ab⟩
 ·exact .inl (.inl rfl)
 rw [CG] at h1;cases h1
 rw [cW,EH hd xo rfl (fun q hq=>by rw [wG hq.symm,wG hq.symm])] at ab
 exact hm.own _ _ ab
def enc:Option (Nat×Int)→Int×Int×Bool
 | none=>(0,0,false)
 | some (n,id)=>((n:Int),id,true)
theorem cr.Kl {s:aZ}(h:cr s):∃ dJ ew jc,∀ k,k<4→qd (au s.bS k)=au (vt dJ ew jc) k:=by
 obtain⟨dJ,ew,jc,e⟩:=h.tables;refine⟨dJ,ew,jc,fun k hk=>?_⟩;rw [← e,Bq qd (by rw [h.lR];exact hk)]
theorem yB (t:ca){r:Int×Int}(aP:List dH)(hk:t.c4=aP)(h:A4 { (default:ca) with c4:=aP } =some r):A4 t=some r:=by
 subst hk;exact h
def qG (k:Nat):Int:=au [1,2,3,3] k
theorem acZ {s:aZ}(h:cr s){k:Nat}(hk:k<4):bd (A4 (au s.bS k)) (fun r=>r.1=qG k∧ (k=1→r.2=0)):=by
 obtain⟨dJ,ew,jc,e⟩:=h.Kl;have e:=e k hk;have ig:(au s.bS k).c4=(au (vt dJ ew jc) k).2.2:=congrArg (·.2.2) e;have:k=0∨k=1∨k=2∨k=3:=by omega
 rcases this with rfl | rfl | rfl | rfl
 ·exact⟨_,yB _ [wk] ig rfl,rfl,fun h=>by simp at h⟩
 ·cases dJ
  ·exact⟨_,yB _ [Ag] ig rfl,rfl,fun _=>rfl⟩
  exact⟨_,yB _ [Ag,Qn] ig rfl,rfl,fun _=>rfl⟩
 ·cases ew
  ·exact⟨_,yB _ [G2,Gy] ig rfl,rfl,fun h=>by simp at h⟩
  exact⟨_,yB _ [G2,Gy,Qo] ig rfl,rfl,fun h=>by simp at h⟩
 cases jc
 ·exact⟨_,yB _ [G3] ig rfl,rfl,fun h=>by simp at h⟩
 exact⟨_,yB _ [G3,Qp,Ag] ig rfl,rfl,fun h=>by simp at h⟩
structure Ck (s:aZ)(k:Nat)(lD hp:aG Cell)(p:Nat):Prop where
 cell:∃ c m,iV hp p=some c∧c.uU=qG k∧c.uV=((au s.bS k).c4.length:Int)∧c.oB=⟨some m⟩∧l5 hp m=some []∧
  (k=0→ ∃ q m2,c.mL= .pt ⟨some q⟩∧ny hp q=some ⟨⟨some m2⟩⟩∧mQ hp m2=some []∧q ∉ dI lD∧m2 ∉ dI lD)∧
  (k=1→ ∃ m3,c.mL= .pv ⟨0,32,⟨some m3⟩⟩∧lp hp m3=some []∧m3 ∉ dI lD)∧
  (2≤k→ ∃ q key cap,c.mL= .pw ⟨some q⟩∧qV hp q=some (({ mr:=s,dd:= [] } :eD),key,cap)∧q ∉ dI lD)∧
  p ∉ dI lD∧m ∉ dI lD∧ (∀ q,q∈dI lD→q∈dI hp)∧ ∀ q,q∈dI lD→pat hp q=pat lD q
theorem aiJ {s:aZ}(h:cr s){k:Nat}(hk:k<4)(hp:aG Cell):cy (Bi hp s ((k:Int)+1)) (fun r=> ∃ p,r.1=some p∧Ck s k hp r.2 p):=by
 unfold Bi;refine .gh (Lj h hk) fun an ar=>?_;subst ar;refine .cond (fun ad=>by simp at ad;omega) fun _=>?_;refine .idx rfl (by rw [h.lR];exact hk) (.gh (acZ h hk) fun aD ab=>.mk fun m hm=>.eq rfl (.mk fun p bH=>?_));obtain⟨an8,key⟩:=aD;obtain⟨ab,ax⟩:=ab;simp only at ab ax bH;subst ab;have mF:p≠m:=fun e=>by subst e;simp [dI] at bH
 have:k=0∨k=1∨2≤k:=by omega
 rcases this with rfl | rfl | dh
 ·have e:(qG 0==1)=true:=rfl;simp only [e,cond_true];unfold HR;refine .bind (P:=fun cE=>Ck s 0 hp cE p) (.bind (P:=fun r=> ∃ q m2,r=((some q:Ref),(q,Cell.B4 ⟨⟨some m2⟩⟩)::(m2,Cell.qe [])::(p,_)::(m,Cell.lP [])::hp)∧m2 ∉ dI ((p,_)::(m,Cell.lP [])::hp)∧q ∉ dI ((m2,Cell.qe [])::(p,_)::(m,Cell.lP [])::hp)) (.mk fun m2 dj=>.mk fun q hq=>.ret ⟨q,m2,rfl,dj,hq⟩) fun bf aO=>?_) fun cE a7=>.ret ⟨p,rfl,a7⟩;obtain⟨q,m2,rfl,dj,hq⟩:=aO;simp only [dI,List.map_cons,List.mem_cons,not_or] at dj hq bH;refine .eq (by simp [iV,pat,hq.1,hq.2,dj.1,hq.2.2.1,Ne.symm];rfl) (.eq rfl (.ret ?_));refine⟨{ uU:=qG 0,uV:=((au s.bS 0).c4.length:Int),mL:= .pt ⟨some q⟩,oB:=⟨some m⟩ },m,?_,rfl,rfl,rfl,?_,?_,fun ad=>by simp at ad,fun ad=>by simp at ad,bH.2,hm,fun x al=>by rw [qQ];exact List.mem_cons_of_mem _ (List.mem_cons_of_mem _ (List.mem_cons_of_mem _ (List.mem_cons_of_mem _ al))),fun x al=>?_⟩
  ·simp [iV,pat,ct,hq.1,hq.2,dj.1,hq.2.2.1]
  ·simp [l5,pat,ct,hq.1,hq.2,dj.1,hq.2.2.1,dj.2.1,bH.1]
  ·intro _;refine⟨q,m2,rfl,?_,?_,hq.2.2.2,dj.2.2⟩
   ·simp [ny,pat,ct,hq.1,hq.2,dj.1,hq.2.2.1,dj.2.1,bH.1]
   simp [mQ,pat,ct,hq.1,hq.2,dj.1,hq.2.2.1,dj.2.1,bH.1]
  have lY:q≠x:=fun e=>hq.2.2.2 (by rw [e];exact al);have CR:m2≠x:=fun e=>dj.2.2 (by rw [e];exact al);have G5:p≠x:=fun e=>bH.2 (by rw [e];exact al);have G6:m≠x:=fun e=>hm (by rw [e];exact al);simp [EM,pat,lY,CR,G5,G6]
 ·have e:(qG 1==1)=false:=rfl;have aU:(qG 1==2)=true:=rfl;simp only [e,aU,cond_true,cond_false];have ax:=ax rfl;subst ax;obtain⟨t1,⟨t2,t3⟩,t4,_⟩:=h.gi hk;have aT:(au (au s.bS 1).c4 0).jB=((6:Nat):Int)+1:=by
   obtain⟨dJ,ew,jc,e⟩:=h.Kl;have e:=congrArg (·.2.2) (e 1 hk);show(au (qd (au s.bS 1)).2.2 0).jB=_;rw [e];cases dJ <;> rfl
  refine .bind (P:=fun cE=>Ck s 1 hp cE p) (.bind (P:=fun cE=>Ck s 1 hp cE p) ?_ fun _ bl=>.ret bl) fun cE a7=>.ret ⟨p,rfl,a7⟩;refine .idx (k:=0) rfl (by omega) ?_;simp only [aT];refine .gh (abL h (show 6<9 by decide)) fun bu eL=>?_;subst eL;refine .gh (P:=fun r=>r=32) (.cond (fun _=>.idx rfl (by rw [h.zo];decide) (.ret (h.CD (show 6<9 by decide)).2)) (fun ad=>by simp at ad)) fun b hb=>?_;subst hb;refine .mk fun m3 gM=>?_;simp only [dI,List.map_cons,List.mem_cons,not_or] at gM bH;refine .eq rfl (.eq (by simp [iV,pat,gM.1];rfl) (.eq rfl (.ret ?_)));refine⟨{ uU:=qG 1,uV:=((au s.bS 1).c4.length:Int),mL:= .pv ⟨0,32,⟨some m3⟩⟩,oB:=⟨some m⟩ },m,?_,rfl,rfl,rfl,?_,fun ad=>by simp at ad,?_,fun ad=>by simp at ad,bH.2,hm,fun x al=>by rw [qQ];exact List.mem_cons_of_mem _ (List.mem_cons_of_mem _ (List.mem_cons_of_mem _ al)),fun x al=>?_⟩
  ·simp [iV,pat,ct,gM.1]
  ·simp [l5,pat,ct,gM.1,gM.2.1,bH.1]
  ·intro _;refine⟨m3,rfl,?_,gM.2.2⟩;simp [lp,pat,ct,gM.1,gM.2.1,bH.1]
  have lY:m3≠x:=fun e=>gM.2.2 (by rw [e];exact al);have G5:p≠x:=fun e=>bH.2 (by rw [e];exact al);have G6:m≠x:=fun e=>hm (by rw [e];exact al);simp [EM,pat,lY,G5,G6]
 have e:(qG k==1)=false:=by
  have:k=2∨k=3:=by omega
  rcases this with rfl | rfl <;> rfl
 have aU:(qG k==2)=false:=by
  have:k=2∨k=3:=by omega
  rcases this with rfl | rfl <;> rfl
 simp only [e,aU,cond_true,cond_false];refine .bind (P:=fun cE=>Ck s k hp cE p) (.bind (P:=fun cE=>Ck s k hp cE p) ?_ fun _ bl=>.ret bl) fun cE a7=>.ret ⟨p,rfl,a7⟩;refine .eq rfl (.any fun ev=>.mk fun q hq=>?_);simp only [dI,List.map_cons,List.mem_cons,not_or] at hq bH;refine .eq (by simp [iV,pat,hq.1];rfl) (.eq rfl (.ret ?_));refine⟨{ uU:=qG k,uV:=((au s.bS k).c4.length:Int),mL:= .pw ⟨some q⟩,oB:=⟨some m⟩ },m,?_,rfl,rfl,rfl,?_,fun ad=>by omega,fun ad=>by omega,fun _=>⟨q,ev.1,ev.2,rfl,?_,hq.2.2⟩,bH.2,hm,fun x al=>by rw [qQ];exact List.mem_cons_of_mem _ (List.mem_cons_of_mem _ (List.mem_cons_of_mem _ al)),fun x al=>?_⟩
 ·simp [iV,pat,ct,hq.1]
 ·simp [l5,pat,ct,hq.1,hq.2.1,bH.1]
 ·simp [qV,pat,ct,hq.1]
 have lY:q≠x:=fun e=>hq.2.2 (by rw [e];exact al);have G5:p≠x:=fun e=>bH.2 (by rw [e];exact al);have G6:m≠x:=fun e=>hm (by rw [e];exact al);simp [EM,pat,lY,G5,G6]
theorem S4 {α:Type}{b:α→α→Bool}(hb:vU b){q:α→Bool} :∀ {l:List α} {c:α},l.Pairwise (fun x y=>b x y=true)→c∈l→q c=true→ (∀ d∈l,q d=true→d=c∨b c d=true)→l.find? q=some c
 | [],c,_,ad,_,_=>by cases ad
 | a::l,c,hs,ad,hq,hd=>by
   obtain⟨h1,ab⟩:=List.pairwise_cons.1 hs;by_cases rf:q a=true
   ·rw [List.find?_cons_of_pos rf];rcases hd a (by simp) rf with h | h
    ·rw [h]
    rcases List.mem_cons.1 ad with ax | ax
    ·rw [ax]
    have:=hb.asymm _ _ (h1 c ax);rw [this] at h;cases h
   rw [List.find?_cons_of_neg rf];rcases List.mem_cons.1 ad with ax | ax
   ·rw [ax] at hq;exact absurd hq rf
   exact S4 hb ab ax hq fun d hd' amZ=>hd d (by simp [hd']) amZ
theorem afd {α:Type}{b:α→α→Bool}(hb:vU b){q:α→Bool}{l:List α}{c:α}(h:xj b l)(ad:c∈l)(hq:q c=true)(hd:∀ d∈l,q d=true→d=c∨b c d=true):(iE b l).find? q=some c:=
 S4 hb (LF hb h) (w0.2 ad) hq fun d hd'=>hd d (w0.1 hd')
theorem mf.uniq {s:aZ}{k:Nat} :∀ {l:List aC},mf s k l→ ∀ {a c:aC},a∈l→c∈l→a.b0=c.b0→a=c:=fun {l} h {a c} aW ad e=>by
 have aH:=h.num;clear h;induction l with
 | nil=>cases aW
 | cons x l b2=>
   obtain⟨h1,ab⟩:=List.pairwise_cons.1 aH
   rcases List.mem_cons.1 aW with g1 | g1 <;> rcases List.mem_cons.1 ad with g2 | g2
   ·rw [g1,g2]
   ·rw [g1] at e;exact absurd e (h1 c g2)
   ·rw [g2] at e;exact absurd e.symm (h1 a g1)
   exact b2 g1 g2 ab
theorem cr.N1 {s:aZ}(h:cr s):(au s.bS 0).c4= [wk]:=by
 obtain⟨dJ,ew,jc,e⟩:=h.Kl;exact congrArg (·.2.2) (e 0 (by decide))
theorem cr.N2 {s:aZ}(h:cr s):∃ b,(au s.bS 1).c4=w8 b:=by
 obtain⟨dJ,ew,jc,e⟩:=h.Kl;exact⟨dJ,congrArg (·.2.2) (e 1 (by decide))⟩
def KB (s:aZ)(k:Nat):Nat:=(au s.bS k).c4.length
theorem afe {α:Type}[Inhabited α]{n:Nat}{f:Fin n→α}{j:Nat}(h:j<n):b5 (Vector.ofFn f) j=f ⟨j,h⟩:=by unfold b5;simp [h]
def e8 (e:bh):Vector aX 4:=Vector.ofFn fun i=>if i.1<e.cw.length then(au e.cw i.1).ck else default
def im (p:Vector aX 4):Vector aX 4:=eb p 0 default
theorem Bs {e:bh}{j:Nat}(h:j<4):b5 (e8 e) j=if j<e.cw.length then(au e.cw j).ck else default:=afe h
theorem TW {p:Vector aX 4}{j:Nat} :b5 (im p) j=if j=0 then default else b5 p j:=by unfold im;rw [jA _ _ (by decide)]
theorem Xr {v w:Vector aX 4} :v=w↔b5 v 0=b5 w 0∧b5 v 1=b5 w 1∧b5 v 2=b5 w 2∧b5 v 3=b5 w 3:=by
 refine⟨fun h=>by rw [h];exact⟨rfl,rfl,rfl,rfl⟩,fun⟨bq,h1,ab,ax⟩=>SU fun j aB=>?_⟩;rcases (show j=0∨j=1∨j=2∨j=3 by omega) with rfl | rfl | rfl | rfl <;> assumption
theorem adT {v w:aX}{n m:Nat} :eJ v n=eJ w m↔n=m∧ ∀ i,i<n→cJ v (31 - i)=cJ w (31 - i):=by
 unfold eJ;constructor
 ·intro h;have ak:=congrArg List.length h;simp only [List.length_map,List.length_range] at ak;subst ak;refine⟨rfl,fun i ao=>?_⟩;have:=congrArg (·[i]?) h;simpa [ao] using this
 rintro ⟨rfl,h⟩;exact List.map_congr_left fun i ao=>h i (List.mem_range.1 ao)
def k4 (e:bh):List Bool:=eJ (au e.cw 0).ck (au e.cw 0).fZ.toNat
theorem FJ {s:aZ}(h:cr s){e:bh}(he:gb s 1 e):rT 2 32 (au e.cw 0):=by
 have hm:=he.CE 0;obtain⟨b,hb⟩:=h.N2;rw [hb] at hm;cases b
 ·exact hm (by decide)
 exact hm (by decide)
theorem E2 {k:Int}(bq:0≤k)(h1:k≤32){j:Nat} :lead 32 k j=true↔32 - k≤ (j:Int)∧j<32:=by
 unfold lead;rw [Bool.and_eq_true,decide_eq_true_eq,decide_eq_true_eq];omega
theorem aff {m:cx}(hm:rT 2 32 m){v:aX}{n:Nat}(aH:n≤32):eJ m.ck m.fZ.toNat=eJ v n↔m.fZ=n∧ ∀ j,j<128→lead 32 m.fZ j=true→cJ v j=cJ m.ck j:=by
 have hp:=hm.pre;rw [adT];constructor
 ·rintro ⟨h1,ab⟩;refine⟨by omega,fun j aB ak=>?_⟩;rw [E2 hp.1 hp.2] at ak;have:=ab (31 - j) (by omega);rw [show 31 - (31 - j)=j by omega] at this;exact this.symm
 rintro ⟨h1,ab⟩;refine⟨by omega,fun i ao=>?_⟩;exact(ab (31 - i) (by omega) ((E2 hp.1 hp.2).2 (by omega))).symm
theorem Xs {s:aZ}(h:cr s){e:bh}(he:gb s 1 e):e.gJ=0:=by
 refine he.pri fun i ao=>?_;obtain⟨b,hb⟩:=h.N2;rw [hb] at ao ⊢;cases b
 ·have:i=0:=by have:i<1:=ao;omega
  subst this;decide
 have:i=0∨i=1:=by have:i<2:=ao;omega
 rcases this with rfl | rfl <;> decide
theorem Own.iff {hp hp':aG Cell}{t:Nat}{c:hl}(ad:gm hp t=some c)(h:∀ q,Own hp t q→pat hp' q=pat hp q):gm hp' t=some c∧ (∀ a8,cV hp' c.eX a8=cV hp c.eX a8)∧ ∀ q,Own hp' t q↔Own hp t q:=by
 have h1:gm hp' t=some c:=by rw [HW (h t (.inl rfl))];exact ad
 have ab:∀ a8,cV hp' c.eX a8=cV hp c.eX a8:=fun a8=>Sl fun p cs hp=>yw (h p (.inr ⟨c,cs,ad,hp⟩));refine⟨h1,ab,fun q=>⟨fun hq=>?_,fun hq=>?_⟩⟩
 ·rcases hq with rfl | ⟨fP,a8,g1,g2⟩
  ·exact .inl rfl
  rw [h1] at g1;cases g1;rw [ab] at g2;exact .inr ⟨c,a8,ad,g2⟩
 rcases hq with rfl | ⟨fP,a8,g1,g2⟩
 ·exact .inl rfl
 rw [ad] at g1;cases g1;exact .inr ⟨c,a8,h1,by rw [ab];exact g2⟩
theorem ky.congr {hp hp':aG Cell}{t:Nat}{g:List Bool→Option Int}(h:ky hp t g)(aW:∀ q,Own hp t q→pat hp' q=pat hp q):ky hp' t g∧ ∀ q,Own hp' t q↔Own hp t q:=by
 obtain⟨c,ad,hb,bw,bA⟩:=h.ok;obtain⟨h1,ab,ax⟩:=Own.iff ad aW;refine⟨⟨⟨c,h1,hb,⟨fun a8 p hp=>?_,fun a8 cs p g1 g2=>?_,fun a8 p g1=>bw.dep a8 p (by rw [← ab];exact g1)⟩,fun a8=>?_⟩⟩,ax⟩
 ·rw [ab] at hp;obtain⟨d,hd⟩:=bw.reads a8 p hp;exact⟨d,by rw [yw (aW p (.inr ⟨c,a8,ad,hp⟩))];exact hd⟩
 ·rw [ab] at g1 g2;exact bw.inj a8 cs p g1 g2
 rw [← bA];cases e:cV hp c.eX a8 with
 | none=>rw [mu e,mu (by rw [ab];exact e)]
 | some p=>
   obtain⟨d,hd⟩:=bw.reads a8 p e
   rw [lM e hd,lM (by rw [ab];exact e) (by rw [yw (aW p (.inr ⟨c,a8,ad,e⟩))];exact hd)]
theorem ky.yY {hp:aG Cell}{t:Nat}{g:List Bool→Option Int}(h:ky hp t g){q:Nat}(hq:Own hp t q):q∈dI hp:=by
 obtain⟨c,ad,hb,bw,bA⟩:=h.ok;rcases hq with rfl | ⟨fP,a8,g1,g2⟩
 ·exact jM (uH.1 ad)
 rw [ad] at g1;cases g1;obtain⟨d,hd⟩:=bw.reads a8 q g2;exact jM (rA.1 hd)
theorem ky.IZ {hp:aG Cell}{t:Nat}{g:List Bool→Option Int}(h:ky hp t g){q:Nat}(hq:Own hp t q):(∃ c,pat hp q=some (.k1 c))∨ ∃ c,pat hp q=some (.gE c):=by
 obtain⟨c,ad,hb,bw,bA⟩:=h.ok;rcases hq with rfl | ⟨fP,a8,g1,g2⟩
 ·exact .inl ⟨c,uH.1 ad⟩
 rw [ad] at g1;cases g1;obtain⟨d,hd⟩:=bw.reads a8 q g2;exact .inr ⟨d,rA.1 hd⟩
def fc (a c:bh):Bool:=decide (a.bB=c.bB∧a.cw=c.cw∧a.gJ=c.gJ)
theorem rJ {a c:bh} :fc a c=true↔a.bB=c.bB∧a.cw=c.cw∧a.gJ=c.gJ:=by unfold fc;rw [decide_eq_true_eq]
theorem nY (a:bh):fc a a=true:=rJ.2 ⟨rfl,rfl,rfl⟩
theorem rF (a c:bh):fc a c=fc c a:=by
 rw [Bool.eq_iff_iff,rJ,rJ];exact⟨fun⟨x,y,z⟩=>⟨x.symm,y.symm,z.symm⟩,fun⟨x,y,z⟩=>⟨x.symm,y.symm,z.symm⟩⟩
theorem rD {a c d:bh}(h1:fc a c=true)(ab:fc c d=true):fc a d=true:=by
 rw [rJ] at *;exact⟨h1.1.trans ab.1,h1.2.1.trans ab.2.1,h1.2.2.trans ab.2.2⟩
theorem Mp {a c:cx}(h1:a.gC=c.gC)(ab:a.ck=c.ck)(ax:a.hN=c.hN)(aO:a.fZ=c.fZ)(a7:a.n2=c.n2):a=c:=by
 cases a;cases c;simp_all
theorem TX {b:Int}{m rq:cx}(h:rT 1 b m)(cL:rT 1 b rq)(e:m.ck=rq.ck):m=rq:=
 Mp (by rw [h.Ys rfl,cL.Ys rfl]) e (by rw [h.hG (by decide),cL.hG (by decide)]) (by rw [h.Yu (by decide),cL.Yu (by decide)]) (by rw [h.Kj (by decide),cL.Kj (by decide)])
theorem afg {m rq:cx}(h:rT 2 32 m)(cL:rT 2 32 rq)(e:eJ m.ck m.fZ.toNat=eJ rq.ck rq.fZ.toNat):m=rq:=by
 have hp:=h.pre;have hp':=cL.pre;obtain⟨n,aH⟩:=Int.eq_ofNat_of_zero_le hp'.1;rw [aH,Int.toNat_natCast] at e;obtain⟨ar,aU⟩:=(aff h (by omega)).1 e;have cz:m.fZ=rq.fZ:=by omega
 have am0:m.gC=rq.gC:=by
  cases g1:m.gC <;> cases g2:rq.gC
  ·rfl
  ·have:=cL.Yt rfl g2;have:=h.off g1;have bq:(default:cx).fZ=0:=rfl;rw [this,bq] at cz;omega
  ·have:=h.Yt rfl g1;have:=cL.off g2;have bq:(default:cx).fZ=0:=rfl;rw [this,bq] at cz;omega
  rfl
 refine Mp am0 (M9 fun j aB=>?_) (by rw [h.hG (by decide),cL.hG (by decide)]) cz (by rw [h.Kj (by decide),cL.Kj (by decide)]);cases ak:lead 32 m.fZ j with
 | true=>exact(aU j aB ak).symm
 | false=>
   have om:cJ m.ck j=false:=by
    rw [Bool.eq_false_iff];intro bb;have:=h.PD rfl j aB bb;rw [(E2 hp.1 hp.2).2 this] at ak;cases ak
   have qp:cJ rq.ck j=false:=by
    rw [Bool.eq_false_iff];intro bb;have:=cL.PD rfl j aB bb;rw [cz,(E2 hp'.1 hp'.2).2 this] at ak;cases ak
   rw [om,qp]
theorem JM {α:Type}[Inhabited α]{l:List α}(h:l.length=1):l= [au l 0]:=by
 match l,h with
 | [x],_=>rfl
theorem Xt {α:Type}[Inhabited α]{l:List α}(h:l.length=2):l= [au l 0,au l 1]:=by
 match l,h with
 | [x,y],_=>rfl
theorem GA {s:aZ}(h:cr s){a c:bh}(aW:gb s 0 a)(ad:gb s 0 c):fc a c=true↔e8 a=e8 c:=by
 rw [rJ];have bD:=aW.len;have lc:=ad.len;have G7:=aW.CE 0;have o7:=ad.CE 0;have KC:=aW.pri;have KD:=ad.pri;rw [h.N1] at bD lc G7 o7 KC KD;have hk:∀ i,i<[wk].length→ (au [wk] i).ez≤2:=by decide
 refine⟨fun⟨h1,ab,ax⟩=>by unfold e8;rw [ab],fun e=>⟨by rw [aW.gi,ad.gi],?_,by rw [KC hk,KD hk]⟩⟩;have hK:=(Xr.1 e).1;rw [Bs (by decide),Bs (by decide),bD,lc] at hK;have hK:(au a.cw 0).ck=(au c.cw 0).ck:=hK;rw [JM (l:=a.cw) bD,JM (l:=c.cw) lc,TX (G7 (by decide)) (o7 (by decide)) hK]
theorem CH {s:aZ}(h:cr s){a c:bh}(aW:gb s 1 a)(ad:gb s 1 c):fc a c=true↔im (e8 a)=im (e8 c)∧k4 a=k4 c:=by
 rw [rJ];have bD:=aW.len;have lc:=ad.len;have G7:=aW.CE 1;have o7:=ad.CE 1;have KC:=Xs h aW;have KD:=Xs h ad;have m0:=FJ h aW;have am1:=FJ h ad;obtain⟨b,hb⟩:=h.N2;rw [hb] at bD lc G7 o7;refine⟨fun⟨h1,ab,ax⟩=>by unfold e8 k4;rw [ab];exact⟨rfl,rfl⟩,fun⟨e,e'⟩=>⟨by rw [aW.gi,ad.gi],?_,by rw [KC,KD]⟩⟩;have bq:=afg m0 am1 e';cases b
 ·rw [JM (l:=a.cw) bD,JM (l:=c.cw) lc,bq]
 have ar:=(Xr.1 e).2.1;rw [TW,TW,if_neg (by decide),if_neg (by decide),Bs (by decide),Bs (by decide),bD,lc] at ar;have ar:(au a.cw 1).ck=(au c.cw 1).ck:=ar;rw [Xt (l:=a.cw) bD,Xt (l:=c.cw) lc,bq,TX (G7 (by decide)) (o7 (by decide)) ar]
structure h5 (s:aZ)(k:Nat)(l:List aC):Prop where
 ok:mf s k l
 key:l.Pairwise fun a c=>fc a.aY c.aY=false
theorem h5.uniq {s:aZ}{k:Nat}{l:List aC}(h:h5 s k l){a c:aC}(aW:a∈l)(ad:c∈l)(e:fc a.aY c.aY=true):a=c:=by
 have aH:=h.key;clear h;induction l with
 | nil=>cases aW
 | cons x l b2=>
   obtain⟨h1,ab⟩:=List.pairwise_cons.1 aH
   rcases List.mem_cons.1 aW with g1 | g1 <;> rcases List.mem_cons.1 ad with g2 | g2
   ·rw [g1,g2]
   ·rw [g1,h1 c g2] at e;cases e
   ·rw [g2,rF,h1 a g1] at e;cases e
   exact b2 g1 g2 ab
def df (l:List aC)(e:bh):Option aC:=l.find? fun i=>fc i.aY e
theorem nX {l:List aC}{e:bh}{i:aC}(h:df l e=some i):i∈l∧fc i.aY e=true:=by
 unfold df at h;have ab:=List.find?_some h;exact⟨List.mem_of_find?_eq_some h,ab⟩
theorem su {l:List aC}{e:bh}(h:df l e=none):∀ i∈l,fc i.aY e=false:=fun i ao=>by
 have:=List.find?_eq_none.1 h i ao;simpa using this
theorem h5.Uz {s:aZ}{k:Nat}{l:List aC}(h:h5 s k l){e:bh}{i:aC}(ao:i∈l)(hk:fc i.aY e=true):df l e=some i:=by
 cases aT:df l e with
 | none=>rw [su aT i ao] at hk;cases hk
 | some c=>
   obtain⟨h1,ab⟩:=nX aT
   rw [h.uniq h1 ao (rD ab (by rw [rF];exact hk))]
def wm (o:Option aC):Int×Bool:=match o with | some i=>(i.b0,true) | none=>(0,false)
def oA {α β:Type}(l:List (α×β)):Prop:=l.Pairwise fun a c=>a.1≠c.1
theorem S5 {α β:Type}[DecidableEq α]:∀ {l:List (α×β)} {x:α} {v:β} {a:α×β},a∈gn l x v→a.1=x∨a∈l
 | [],x,v,a,h=>by
   have:a=(x,v):=by simpa [gn] using h
   rw [this];exact .inl rfl
 | (k,w)::r,x,v,a,h=>by
   unfold gn at h;split at h
   ·rcases List.mem_cons.1 h with h | h
    ·rw [h];exact .inl rfl
    exact .inr (by simp [h])
   rcases List.mem_cons.1 h with h | h
   ·exact .inr (by simp [h])
   exact(S5 h).imp id fun h=>List.mem_cons_of_mem _ h
theorem oA.put {α β:Type}[DecidableEq α]:∀ {l:List (α×β)} {x:α} {v:β},oA l→oA (gn l x v)
 | [],x,v,_=>by unfold gn oA;simp
 | (k,w)::r,x,v,h=>by
   obtain⟨h1,ab⟩:=List.pairwise_cons.1 h;unfold gn;split
   ·rename_i e;refine List.pairwise_cons.2 ⟨fun a aW=>?_,ab⟩;have:=h1 a aW;rw [e];exact this
   rename_i e;refine List.pairwise_cons.2 ⟨fun a aW=>?_,oA.put ab⟩;rcases S5 aW with g | g
   ·rw [g];exact fun e'=>e e'.symm
   exact h1 a g
theorem S6 {α β:Type}[DecidableEq α]:∀ {l:List (α×β)} {x:α} {a:α×β},a∈iL l x→a∈l
 | [],x,a,h=>by cases h
 | (k,w)::r,x,a,h=>by
   unfold iL at h;split at h
   ·exact List.mem_cons_of_mem _ h
   rcases List.mem_cons.1 h with h | h
   ·simp [h]
   exact List.mem_cons_of_mem _ (S6 h)
theorem oA.del {α β:Type}[DecidableEq α]:∀ {l:List (α×β)} {x:α},oA l→oA (iL l x)
 | [],x,_=>by unfold iL oA;exact .nil
 | (k,w)::r,x,h=>by
   obtain⟨h1,ab⟩:=List.pairwise_cons.1 h;unfold iL;split
   ·exact ab
   exact List.pairwise_cons.2 ⟨fun a aW=>h1 a (S6 aW),oA.del ab⟩
theorem TY {α β:Type}[DecidableEq α]:∀ {l:List (α×β)} {x:α},(∀ a∈l,a.1≠x)→dD l x=none
 | [],_,_=>rfl
 | (k,w)::r,x,h=>by
   unfold dD;rw [if_neg fun e=>h (k,w) (by simp) e.symm,TY fun a aW=>h a (by simp [aW])]
theorem Bn {α β:Type}[DecidableEq α]:∀ {l:List (α×β)} {x y:α},oA l→dD (iL l x) y=if y=x then none else dD l y
 | [],x,y,_=>by
   show none=if y=x then none else none;split <;> rfl
 | (k,w)::r,x,y,h=>by
   obtain⟨h1,ab⟩:=List.pairwise_cons.1 h;unfold iL;by_cases e:x=k
   ·rw [if_pos e];by_cases aU:y=x
    ·rw [if_pos aU,aU,e];exact TY fun a aW=>(h1 a aW).symm
    rw [if_neg aU];show _=if y=k then _ else _;rw [if_neg (by rw [← e];exact aU)]
   rw [if_neg e];show(if y=k then some w else dD (iL r x) y)=_;by_cases aU:y=k
   ·rw [if_pos aU,if_neg (by rw [aU];exact fun cz=>e cz.symm)];show _=if y=k then _ else _;rw [if_pos aU]
   rw [if_neg aU,Bn ab];show _=if y=x then none else if y=k then _ else _;rw [if_neg aU]
structure BK (s:aZ)(hp:aG Cell)(q:Nat)(l:List aC)(own:Nat→Prop):Prop where
 ok:∃ m em,ny hp q=some ⟨⟨some m⟩⟩∧mQ hp m=some em∧own q∧own m∧ (∀ c7 n,dD em c7=some n↔ ∃ i∈l,e8 i.aY=c7∧i.b0=n)∧oA em
structure oI (s:aZ)(hp:aG Cell)(m:Nat)(l:List aC)(own:Nat→Prop):Prop where
 ok:∃ em,lp hp m=some em∧own m∧
  (∀ c7 r,dD em c7=some r→ ∃ t g,r=some t∧ky hp t g∧ (∀ q,Own hp t q→own q)∧ ∀ a8 n,g a8=some n↔ ∃ i∈l,im (e8 i.aY)=c7∧k4 i.aY=a8∧i.b0=n)∧
  (∀ c7,dD em c7=none→ ∀ i∈l,im (e8 i.aY)≠c7)∧
  (∀ c7 k5 t fL,dD em c7=some (some t)→dD em k5=some (some fL)→c7≠k5→ ∀ q,Own hp t q→ ¬ Own hp fL q)∧oA em
structure BL (s:aZ)(k:Nat)(hp:aG Cell)(q:Nat)(l:List aC)(own:Nat→Prop):Prop where
 ok:∃ key cap,qV hp q=some (vg s k l,key,cap)∧own q
def sN (s:aZ)(k:Nat)(hp:aG Cell)(f:iq)(l:List aC)(own:Nat→Prop):Prop:=
 (k=0∧ ∃ q,f= .pt ⟨some q⟩∧BK s hp q l own)∨ (k=1∧ ∃ m,f= .pv ⟨0,32,⟨some m⟩⟩∧oI s hp m l own)∨ (2≤k∧ ∃ q,f= .pw ⟨some q⟩∧BL s k hp q l own)
theorem Lk {hp hp':aG Cell}{p:Nat}(h:pat hp' p=pat hp p):ny hp' p=ny hp p:=by unfold ny;rw [h]
theorem abO {hp hp':aG Cell}{p:Nat}(h:pat hp' p=pat hp p):mQ hp' p=mQ hp p:=by unfold mQ;rw [h]
theorem HY {hp hp':aG Cell}{p:Nat}(h:pat hp' p=pat hp p):lp hp' p=lp hp p:=by unfold lp;rw [h]
theorem abP {hp hp':aG Cell}{p:Nat}(h:pat hp' p=pat hp p):qV hp' p=qV hp p:=by unfold qV;rw [h]
theorem abQ {hp hp':aG Cell}{p:Nat}(h:pat hp' p=pat hp p):iV hp' p=iV hp p:=by unfold iV;rw [h]
theorem abR {hp hp':aG Cell}{p:Nat}(h:pat hp' p=pat hp p):l5 hp' p=l5 hp p:=by unfold l5;rw [h]
theorem sN.congr {s:aZ}{k:Nat}{hp hp':aG Cell}{f:iq}{l:List aC}{own:Nat→Prop}(h:sN s k hp f l own){own':Nat→Prop}(bg:∀ q,q∈dI hp→own q→own' q)(aW:∀ q,own q→pat hp' q=pat hp q):sN s k hp' f l own':=by
 rcases h with⟨rfl,q,rfl,h⟩ | ⟨rfl,m,rfl,h⟩ | ⟨hk,q,rfl,h⟩
 ·obtain⟨m,em,h1,ab,ax,aO,a7,jT⟩:=h.ok;refine .inl ⟨rfl,q,rfl,⟨m,em,by rw [Lk (aW q ax)];exact h1,by rw [abO (aW m aO)];exact ab,bg q (jM (E3 h1)) ax,bg m (jM (tC ab)) aO,a7,jT⟩⟩
 ·obtain⟨em,h1,ab,ax,aO,a7,jT⟩:=h.ok;have key:∀ c7 r,dD em c7=some r→ ∃ t g,r=some t∧ky hp t g∧ky hp' t g∧ (∀ q,Own hp t q→own q)∧ (∀ q,Own hp' t q↔Own hp t q)∧ ∀ a8 n,g a8=some n↔ ∃ i∈l,im (e8 i.aY)=c7∧k4 i.aY=a8∧i.b0=n:=fun c7 r aA=>by
   obtain⟨t,g,rfl,g1,g2,g3⟩:=ax c7 r aA;obtain⟨g4,g5⟩:=g1.congr fun q hq=>aW q (g2 q hq);exact⟨t,g,rfl,g1,g4,g2,g5,g3⟩
  refine .inr (.inl ⟨rfl,m,rfl,⟨em,by rw [HY (aW m ab)];exact h1,bg m (jM (oG h1)) ab,fun c7 r aA=>?_,aO,fun c7 k5 t fL bw zT de q hq=>?_,jT⟩⟩)
  ·obtain⟨t,g,rfl,g0,g1,g2,g3,g4⟩:=key c7 r aA;exact⟨t,g,rfl,g1,fun q hq=>bg q (g0.yY ((g3 q).1 hq)) (g2 q ((g3 q).1 hq)),g4⟩
  obtain⟨_,g,e,g0,g1,g2,g3,g4⟩:=key c7 _ bw;obtain⟨_,dT,e',aso,am2,am3,am4,asp⟩:=key k5 _ zT;cases e;cases e';rw [am4];exact a7 c7 k5 t fL bw zT de q ((g3 q).1 hq)
 obtain⟨key,cap,h1,ab⟩:=h.ok;exact .inr (.inr ⟨hk,q,rfl,⟨key,cap,by rw [abP (aW q ab)];exact h1,bg q (jM (yP h1)) ab⟩⟩)
theorem IB {e:bh}(ak:e.cw.length≤4):wD e=some (e8 e):=by
 refine bd.get ?_;unfold wD;refine .eq (a:=e.cw) (by unfold l3;rw [if_pos ⟨by omega,by omega,by omega⟩,Int.toNat_zero,List.drop_zero,Nat.sub_zero,List.take_of_length_le (by omega)]) ?_;refine bd.loop e.cw.length (fun i st=>st.1=(i:Int)∧ ∀ j,j<4→b5 st.2 j=if j<i then(au e.cw j).ck else default) (by omega) ⟨rfl,fun j aB=>by rw [HP];rfl⟩ (fun i st ao hs=>?_) (fun st hs=>?_)
 ·obtain⟨j,v⟩:=st;obtain⟨ar,aU⟩:=hs;simp only at ar aU;subst ar;refine .cond (fun _=>?_) (fun ad=>by simp at ad;omega);refine .idx rfl ao (.idx rfl (by omega) (.ret ⟨dR (by omega),fun j aB=>?_⟩));rw [jA _ _ (by omega)];by_cases kc:j=i
  ·rw [if_pos kc,if_pos (by omega),kc]
  rw [if_neg kc,aU j aB];by_cases h:j<i
  ·rw [if_pos h,if_pos (by omega)]
  rw [if_neg h,if_neg (by omega)]
 obtain⟨j,v⟩:=st;obtain⟨ar,aU⟩:=hs;simp only at ar aU;subst ar;refine⟨_,by simp;rfl,.ret ?_⟩;exact SU fun j aB=>by rw [aU j aB,Bs aB]
theorem gb.JN {s:aZ}(h:cr s){k:Nat}(hk:k<4){e:bh}(he:gb s k e):e.cw.length≤4∧1≤e.cw.length:=by
 have:=(h.gi hk).2.1;rw [he.len];omega
theorem adU {a c:List cx}(ak:a.length≤1000):C7 a c=some (decide (a=c)):=by
 refine bd.get ?_;unfold C7;refine .cond (fun h=>.ret ?_) fun h=>?_
 ·have:a≠c:=fun e=>by rw [e] at h;simp at h
  simp [this]
 have mD:c.length=a.length:=by
  have:(a.length:Int)=c.length:=by simpa using h
  omega
 refine bd.loop a.length (fun i st=>st=(i:Int)∧ ∀ j,j<i→au a j=au c j) (by omega) ⟨rfl,fun j aB=>by omega⟩ (fun i st ao hs=>?_) (fun st hs=>?_)
 ·obtain⟨rfl,hs⟩:=hs;refine .cond (fun _=>?_) (fun ad=>by simp at ad;omega);refine .idx rfl ao (.idx rfl (by omega) (.cond (fun de=>.ret ?_) fun he=>.ret ⟨dR (by omega),fun j aB=>?_⟩))
  ·simp only [Sum.elim_inr];refine .ret ?_;have:a≠c:=fun e=>by rw [e] at de;simp at de
   simp [this]
  by_cases kc:j=i
  ·subst kc;simpa using he
  exact hs j (by omega)
 obtain⟨rfl,hs⟩:=hs;refine⟨_,by simp;rfl,?_⟩;simp only [Sum.elim_inl];refine .ret ?_;have:a=c:=List.ext_getElem mD.symm fun j h1 ab=>by
  have:=hs j h1;rwa [dm _ h1,dm _ ab] at this
 simp [this]
theorem acj {a c:bh}(ak:a.cw.length≤1000):D8 a c=some (fc a c):=by
 refine bd.get ?_;unfold D8 fc;refine .cb (P:=fun r=>r=decide (a.cw=c.cw)) (fun _=>⟨_,adU ak,rfl⟩) fun y aR=>.ret ?_;by_cases h:a.bB=c.bB
 ·rw [aR (by simpa using h)];rw [Bool.eq_iff_iff];simp [h]
 simp [h]
theorem aiK {s:aZ}(h:cr s){hp:aG Cell}{q:Nat}{l:List aC}{own:Nat→Prop}(hq:BK s hp q l own)(ak:h5 s 0 l){e:bh}(he:gb s 0 e):DI hp ⟨some q⟩ e=some (wm (df l e)):=by
 obtain⟨m,em,h1,ab,_,_,a7,_⟩:=hq.ok;refine bd.get ?_;unfold DI AQ;refine .eq (IB (he.JN h (by decide)).1) ?_;have hm:dD em (e8 e)=(df l e).map (·.b0):=by
  cases aT:df l e with
  | none=>
    cases bA:dD em (e8 e) with
    | none=>rfl
    | some n=>
      obtain⟨i,ao,bl,_⟩:=(a7 _ _).1 bA
      have:=su aT i ao
      rw [(GA h (ak.ok.ok i ao).dF he).2 bl] at this;cases this
  | some i=>
    obtain⟨ao,hk⟩:=nX aT
    exact(a7 _ _).2 ⟨i,ao,(GA h (ak.ok.ok i ao).dF he).1 hk,rfl⟩
 refine .eq (a:=wm (df l e)) ?_ (.ret rfl);show(ny hp q).bind _=_;rw [h1];show(mQ hp m).bind _=_;rw [ab];show some ((dD em (e8 e)).getD default,(dD em (e8 e)).isSome)=_;rw [hm];cases df l e <;> rfl
theorem Mq {s:aZ}(h:cr s){e:bh}(he:gb s 1 e)(m:eQ):x5 ⟨0,32,m⟩ e=some (im (e8 e),(au e.cw 0).ck,(au e.cw 0).fZ):=by
 have ak:=he.JN h (by decide);refine bd.get ?_;unfold x5 Hk;refine .eq (IB ak.1) (.eq (a:=(im (e8 e),b5 (e8 e) 0)) rfl (.cond (fun ad=>by have ad:(0:Int)≥ (e.cw.length:Int):=of_decide_eq_true ad;omega) fun _=>.idx (k:=0) rfl (by omega) (.ret ?_)));rw [Bs (by decide),if_pos (by omega)]
theorem LU {m:cx}(h:rT 2 32 m):∀ j,j<128→cJ m.ck j=true→lead 32 m.fZ j=true:=fun j aB bb=>
 (E2 h.pre.1 h.pre.2).2 (h.PD rfl j aB bb)
theorem aiL {s:aZ}(h:cr s){hp:aG Cell}{m:Nat}{l:List aC}{own:Nat→Prop}(hq:oI s hp m l own)(ak:h5 s 1 l){e:bh}(he:gb s 1 e):Dr hp ⟨0,32,⟨some m⟩⟩ e=some (wm (df l e)):=by
 obtain⟨em,h1,_,ax,aO,_⟩:=hq.ok;have ih:=FJ h he;refine bd.get ?_;unfold Dr;refine .eq (Mq h he _) (.eq rfl (.eq h1 (.eq rfl ?_)));obtain⟨n,aH⟩:=Int.eq_ofNat_of_zero_le ih.pre.1;have FK:n≤32:=by have:=ih.pre.2;omega
 have w9:=LU ih;refine .eq (a:=wm (df l e)) ?_ (.ret rfl);simp only;cases aA:dD em (im (e8 e)) with
 | none=>
   have aT:df l e=none:=by
    cases aT:df l e with
    | none=>rfl
    | some i=>
      obtain⟨ao,hk⟩:=nX aT
      exact absurd ((CH h (ak.ok.ok i ao).dF he).1 hk).1 (aO _ aA i ao)
   rw [aT];rfl
 | some r=>
   obtain⟨t,g,rfl,g1,_,g3⟩:=ax _ _ aA
   have bA:g (k4 e)=(df l e).map (·.b0):=by
    cases aT:df l e with
    | none=>
      cases PJ:g (k4 e) with
      | none=>rfl
      | some n=>
        obtain⟨i,ao,bl,cN,_⟩:=(g3 _ _).1 PJ
        have:=su aT i ao
        rw [(CH h (ak.ok.ok i ao).dF he).2 ⟨bl,cN⟩] at this;cases this
    | some i=>
      obtain⟨ao,hk⟩:=nX aT
      obtain⟨bl,cN⟩:=(CH h (ak.ok.ok i ao).dF he).1 hk
      exact(g3 _ _).2 ⟨i,ao,bl,cN,rfl⟩
   rw [aH] at w9 ⊢
   show yk hp (some t) _ (n:Int)=_
   rw [Uy g1 FK w9]
   have hp':eJ (au e.cw 0).ck n=k4 e:=by unfold k4;rw [aH];rfl
   rw [hp',bA]
   cases df l e <;> rfl
theorem aiM {s:aZ}(h:cr s){k:Nat}(hk:k<4){hp:aG Cell}{q:Nat}{l:List aC}{own:Nat→Prop}(hq:BL s k hp q l own)(ak:h5 s k l){e:bh}(he:gb s k e):DQ hp ⟨some q⟩ e=some (wm (df l e)):=by
 obtain⟨key,cap,h1,_⟩:=hq.ok;refine bd.get ?_;unfold DQ;refine .eq rfl (.eq h1 (.eq (agj h hk ak.ok) ?_));obtain⟨kq,gH⟩:=ak.ok.iE;have aT:df l e=(iE (jx s k) l).find? fun i=>fc i.aY e:=by
  cases aT:df l e with
  | none=>
    symm
    rw [List.find?_eq_none]
    intro x al
    rw [su aT x (w0.1 al)];simp
  | some i=>
    obtain⟨ao,oX⟩:=nX aT
    exact(afd (IY s k) ak.ok.PH ao oX fun d hd am5=>.inl (ak.uniq hd ao (rD am5 (by rw [rF];exact oX)))).symm
 rw [aT];refine bd.loop (iE (jx s k) l).length (fun i st=>st=(i:Int)∧ ∀ j,j<i→fc (au (iE (jx s k) l) j).aY e=false) (by omega) ⟨rfl,fun j aB=>by omega⟩ (fun i st ao hs=>?_) (fun st hs=>?_)
 ·obtain⟨rfl,hs⟩:=hs;refine .cond (fun _=>?_) (fun ad=>by simp at ad;omega);have hm:=kq (au (iE (jx s k) l) i) (by rw [dm _ ao];exact List.getElem_mem _);refine .idx rfl ao (.eq (acj (hm.small h hk).1) (.cond (fun ad=>.ret ?_) fun ad=>.ret ⟨dR (by omega),fun j aB=>?_⟩))
  ·simp only [Sum.elim_inr];refine .ret ?_;rw [TP (p:=fun i=>fc i.aY e) ao ad hs];rfl
  by_cases kc:j=i
  ·subst kc;exact ad
  exact hs j (by omega)
 obtain⟨rfl,hs⟩:=hs;refine⟨_,by simp;rfl,?_⟩;simp only [Sum.elim_inl];refine .ret ?_;rw [TQ fun c ad=>?_]
 ·rfl
 obtain⟨j,aB,rfl⟩:=List.mem_iff_getElem.1 ad;rw [← dm _ aB];exact hs j aB
theorem Wb {s:aZ}(h:cr s){k:Nat}(hk:k<4){hp:aG Cell}{f:iq}{l:List aC}{own:Nat→Prop}(hq:sN s k hp f l own)(ak:h5 s k l){e:bh}(he:gb s k e):Hz hp f e=some (wm (df l e)):=by
 rcases hq with⟨rfl,q,rfl,hq⟩ | ⟨rfl,m,rfl,hq⟩ | ⟨dh,q,rfl,hq⟩
 ·exact aiK h hq ak he
 ·exact aiL h hq ak he
 exact aiM h hk hq ak he
def nA (own:Nat→Prop)(hp hp':aG Cell)(q:Nat):Prop:=own q∨ (q ∉ dI hp∧q∈dI hp')
theorem S7 {hp:aG Cell}{p:Nat}{k:Cell}{x:List (Vector aX 4×Int)}(h:pat hp p=some k):mQ (ct hp p (.qe x)) p=some x:=by unfold mQ;rw [rI h]
theorem S8 {hp:aG Cell}{p:Nat}{k:Cell}{x:List (Vector aX 4×Ref)}(h:pat hp p=some k):lp (ct hp p (.nB x)) p=some x:=by unfold lp;rw [rI h]
theorem alA {s:aZ}(h:cr s){hp:aG Cell}{q:Nat}{l:List aC}{own:Nat→Prop}(hq:BK s hp q l own)(ak:h5 s 0 l){i:aC}(ao:kD s 0 i)(aT:df l i.aY=none):
 bd (DU hp ⟨some q⟩ i) (fun hp'=>BK s hp' q (l++[i]) (nA own hp hp')∧eT hp hp' own):=by
 obtain⟨m,em,h1,ab,ax,aO,a7,jT⟩:=hq.ok
 have fx:dD em (e8 i.aY)=none:=by
  cases bA:dD em (e8 i.aY) with
  | none=>rfl
  | some n=>
    obtain⟨c,ad,bl,_⟩:=(a7 _ _).1 bA
    have:=su aT c ad
    rw [(GA h (ak.ok.ok c ad).dF ao.dF).2 bl] at this;cases this
 unfold DU HG
 refine .eq (IB (ao.dF.JN h (by decide)).1) ?_
 refine .eq (a:=(true,ct hp m (Cell.qe (gn em (e8 i.aY) i.b0)))) ?_ (.ret ?_)
 ·show(ny hp q).bind _=_
  rw [h1]
  show(mQ hp m).bind _=_
  rw [ab]
  show cond (dD em (e8 i.aY)).isSome _ _=_
  rw [fx]
  show(ny hp q).bind _=_
  rw [h1]
  show(mQ hp m).bind _=_
  rw [ab];rfl
 have zU:q≠m:=fun e=>by
  subst e;have:=E3 h1;rw [tC ab] at this;cases this
 refine⟨⟨m,_,by rw [Lk (mq zU.symm)];exact h1,S7 (tC ab),.inl ax,.inl aO,fun c7 n=>?_,jT.put⟩,.up aO⟩
 rw [uG]
 by_cases hI:c7=e8 i.aY
 ·rw [if_pos hI]
  constructor
  ·intro e
   cases e
   exact⟨i,by simp,hI.symm,rfl⟩
  rintro ⟨c,ad,bl,cN⟩
  rcases List.mem_append.1 ad with ad | ad
  ·have:=(a7 _ _).2 ⟨c,ad,bl,cN⟩
   rw [hI,fx] at this;cases this
  rw [List.mem_singleton.1 ad] at cN;rw [cN]
 rw [if_neg hI,a7]
 constructor
 ·rintro ⟨c,ad,bl⟩;exact⟨c,by simp [ad],bl⟩
 rintro ⟨c,ad,bl,cN⟩
 rcases List.mem_append.1 ad with ad | ad
 ·exact⟨c,ad,bl,cN⟩
 rw [List.mem_singleton.1 ad] at bl;exact absurd bl.symm hI
theorem alB {s:aZ}(h:cr s){hp:aG Cell}{m:Nat}{l:List aC}{own:Nat→Prop}(hq:oI s hp m l own)(fT:∀ q,own q→q∈dI hp)(ak:h5 s 1 l){i:aC}(ao:kD s 1 i)(aT:df l i.aY=none)
 {em:List (Vector aX 4×Ref)} (nJ:lp hp m=some em) {t:Nat} (bw:dD em (im (e8 i.aY))=some (some t)):
 cy (A2 hp (some t) (au i.aY.cw 0).ck (au i.aY.cw 0).fZ i.b0) (fun r=>oI s r.2 m (l++[i]) (nA own hp r.2)∧eT hp r.2 own):=by
 obtain⟨am6,h1,ab,ax,aO,a7,jT⟩:=hq.ok
 rw [nJ] at h1;cases h1
 have ih:=FJ h ao.dF
 obtain⟨fL,g,e,g1,g2,g3⟩:=ax _ _ bw
 cases e
 obtain⟨n,aH⟩:=Int.eq_ofNat_of_zero_le ih.pre.1
 have FK:n≤32:=by have:=ih.pre.2;omega
 have w9:=LU ih
 have hp':eJ (au i.aY.cw 0).ck n=k4 i.aY:=by unfold k4;rw [aH];rfl
 have fx:g (k4 i.aY)=none:=by
  cases PJ:g (k4 i.aY) with
  | none=>rfl
  | some n=>
    obtain⟨c,ad,bl,cN,_⟩:=(g3 _ _).1 PJ
    have:=su aT c ad
    rw [(CH h (ak.ok.ok c ad).dF ao.dF).2 ⟨bl,cN⟩] at this;cases this
 rw [aH] at w9 ⊢
 refine(aiI g1 FK w9 i.b0 (by rw [hp'];exact fx)).mono fun r aA=>?_
 obtain⟨_,kq,gH,qA⟩:=aA
 rw [hp'] at kq
 have PK:∀ q,Own hp t q→q≠m:=fun q PL e=>by
  have:=oG nJ;rw [← e] at this;rcases g1.IZ PL with⟨c,ad⟩ | ⟨c,ad⟩ <;> rw [ad] at this <;> cases this
 have mF:pat r.2 m=pat hp m:=gH.rest m (jM (oG nJ)) fun hq=>PK m hq rfl
 have tL:∀ c7 fL,c7≠im (e8 i.aY)→dD em c7=some (some fL)→ ∃ dT,ky hp fL dT∧ky r.2 fL dT∧ (∀ q,Own hp fL q→own q)∧ (∀ q,Own r.2 fL q↔Own hp fL q)∧ ∀ a8 n,dT a8=some n↔ ∃ i∈l,im (e8 i.aY)=c7∧k4 i.aY=a8∧i.b0=n:=fun c7 fL de aA=>by
  obtain⟨am7,dT,e,bT,a2,a3⟩:=ax c7 _ aA;cases e;obtain⟨dJ,ew⟩:=bT.congr (hp':=r.2) fun q hq=>gH.rest q (bT.yY hq) fun pN=>a7 _ _ _ _ bw aA de.symm q pN hq;exact⟨dT,bT,dJ,a2,ew,a3⟩
 have FI:∀ q,Own r.2 t q→nA own hp r.2 q:=fun q hq=>by
  rcases qA q hq with bl | bl
  ·exact .inl (g2 q bl)
  exact .inr ⟨bl,kq.yY hq⟩
 refine⟨⟨em,by rw [HY mF];exact nJ,.inl ab,fun c7 k7 jV=>?_,fun c7 hI c ad=>?_,fun c7 k5 t1 t2 kE lE de q iZ qn=>?_,jT⟩,⟨gH.keys,fun q hq fx=>gH.rest q hq fun pN=>fx (g2 q pN)⟩⟩
 ·by_cases hI:c7=im (e8 i.aY)
  ·subst hI
   rw [bw] at jV;cases jV
   refine⟨t,_,rfl,kq,FI,fun a8 qE=>?_⟩
   by_cases mg:a8=k4 i.aY
   ·simp only [if_pos mg]
    constructor
    ·intro e;cases e
     exact⟨i,by simp,rfl,mg.symm,rfl⟩
    rintro ⟨c,ad,bl,cN,cW⟩
    rcases List.mem_append.1 ad with ad | ad
    ·have:=(g3 _ _).2 ⟨c,ad,bl,cN,cW⟩
     rw [mg,fx] at this;cases this
    rw [List.mem_singleton.1 ad] at cW;rw [cW]
   simp only [if_neg mg]
   rw [g3]
   constructor
   ·rintro ⟨c,ad,bl⟩;exact⟨c,by simp [ad],bl⟩
   rintro ⟨c,ad,bl,cN,cW⟩
   rcases List.mem_append.1 ad with ad | ad
   ·exact⟨c,ad,bl,cN,cW⟩
   rw [List.mem_singleton.1 ad] at cN;exact absurd cN.symm mg
  obtain⟨fL,dT,e,_⟩:=ax c7 k7 jV
  subst e
  obtain⟨zV,bT,a2,a3,a4,a5⟩:=tL c7 fL hI jV
  refine⟨fL,zV,rfl,a2,fun q hq=>.inl (a3 q ((a4 q).1 hq)),fun a8 qE=>?_⟩
  rw [a5]
  constructor
  ·rintro ⟨c,ad,bl⟩;exact⟨c,by simp [ad],bl⟩
  rintro ⟨c,ad,bl,cN⟩
  rcases List.mem_append.1 ad with ad | ad
  ·exact⟨c,ad,bl,cN⟩
  rw [List.mem_singleton.1 ad] at bl;exact absurd bl.symm hI
 ·rcases List.mem_append.1 ad with ad | ad
  ·exact aO c7 hI c ad
  rw [List.mem_singleton.1 ad]
  intro e
  rw [← e,bw] at hI;cases hI
 
 have UA:∀ c7 fL,c7≠im (e8 i.aY)→dD em c7=some (some fL)→ ∀ q,Own r.2 t q→ ¬ Own r.2 fL q:=fun c7 fL de aA q hq pN=>by
  obtain⟨zV,bT,a2,a3,a4,a5⟩:=tL c7 fL de aA;have pN:=(a4 q).1 pN;rcases qA q hq with bl | bl
  ·exact a7 _ _ _ _ bw aA de.symm q bl pN
  exact bl (bT.yY pN)
 by_cases ar:c7=im (e8 i.aY)
 ·subst ar
  rw [bw] at kE;cases kE
  exact UA k5 t2 de.symm lE q iZ qn
 by_cases aU:k5=im (e8 i.aY)
 ·subst aU
  rw [bw] at lE;cases lE
  exact UA c7 t1 ar kE q qn iZ
 obtain⟨_,_,_,_,a4,_⟩:=tL c7 t1 ar kE
 obtain⟨_,_,_,_,KA,_⟩:=tL k5 t2 aU lE
 exact a7 _ _ _ _ kE lE de q ((a4 q).1 iZ) ((KA q).1 qn)
theorem abo {own:Nat→Prop}{bq h1 ab:aG Cell}{q:Nat}(hk:∀ q,q∈dI bq→q∈dI h1)(dh:∀ q,q∈dI h1→q∈dI ab)(h:nA (nA own bq h1) h1 ab q):nA own bq ab q:=by
 rcases h with(h | ⟨h,cL⟩) | ⟨h,cL⟩
 ·exact .inl h
 ·exact .inr ⟨h,dh q cL⟩
 exact .inr ⟨fun ax=>h (hk q ax),cL⟩
theorem oI.mono {s:aZ}{hp:aG Cell}{m:Nat}{l:List aC}{own own':Nat→Prop}(h:oI s hp m l own)(bg:∀ q,own q→own' q):oI s hp m l own':=by
 obtain⟨em,h1,ab,ax,aO,a7,jT⟩:=h.ok;exact⟨em,h1,bg m ab,fun c7 r aA=>by obtain⟨t,g,e,a,b,c⟩:=ax c7 r aA;exact⟨t,g,e,a,fun q hq=>bg q (b q hq),c⟩,aO,a7,jT⟩
theorem eT.grow {bq h1 ab:aG Cell}{own:Nat→Prop}(a:eT bq h1 own)(b:eT h1 ab (nA own bq h1)):eT bq ab own:=
 a.trans b fun q hq h=>h.elim (fun h=>h) fun h=>absurd hq h.1
theorem alC {s:aZ}{hp:aG Cell}{m:Nat}{l:List aC}{own:Nat→Prop}(hq:oI s hp m l own)
 {em:List (Vector aX 4×Ref)} (nJ:lp hp m=some em) {c7:Vector aX 4} (fx:dD em c7=none) {a:Nat} (aW:a ∉ dI hp) {z:hl} (bF:z.gR=32) (aA:z.eX=none):
 oI s (ct ((a,Cell.k1 z)::hp) m (.nB (gn em c7 (some a)))) m l (nA own hp (ct ((a,Cell.k1 z)::hp) m (.nB (gn em c7 (some a)))))∧eT hp (ct ((a,Cell.k1 z)::hp) m (.nB (gn em c7 (some a)))) own∧
  lp (ct ((a,Cell.k1 z)::hp) m (.nB (gn em c7 (some a)))) m=some (gn em c7 (some a)):=by
 obtain⟨am6,h1,ab,ax,aO,a7,jT⟩:=hq.ok
 rw [nJ] at h1;cases h1
 have mF:=oG nJ
 have Yx:=EA aW mF
 have b4:pat ((a,Cell.k1 z)::hp) m=some (.nB em):=by rw [kJ,if_neg Yx];exact mF
 generalize b3:ct ((a,Cell.k1 z)::hp) m (.nB (gn em c7 (some a)))=bH
 have g1:lp bH m=some (gn em c7 (some a)):=by rw [← b3];exact S8 b4
 have g2:pat bH a=some (.k1 z):=by rw [← b3,mq Yx.symm,kJ,if_pos rfl]
 have g3:∀ q,q≠m→q≠a→pat bH q=pat hp q:=fun q zU rf=>by rw [← b3,mq zU.symm,kJ,if_neg rf.symm]
 have hk:eT hp bH own:=by
  rw [← b3];exact(eT.mk' (own:=own) aW).trans (eT.up ab) fun q _ h=>h
 have Yy:gm bH a=some z:=uH.2 g2
 have aiN:ky bH a (fun _=>none):=⟨z,Yy,bF,by rw [aA];exact⟨fun a8 p h=>(by rw [hr] at h;cases h),fun a8 cs p h _=>(by rw [hr] at h;cases h),fun a8 p h=>(by rw [hr] at h;cases h)⟩,fun a8=>by rw [aA];exact mu hr⟩
 have N3:∀ q,Own bH a q→q=a:=fun q se=>by
  rcases se with h | ⟨c,a8,bl,cN⟩
  ·exact h
  rw [Yy] at bl;cases bl;rw [aA,hr] at cN;cases cN
 have hold:∀ t g,ky hp t g→ky bH t g∧ ∀ q,Own bH t q↔Own hp t q:=fun t g bw=>bw.congr fun q se=>by
  refine g3 q (fun e=>?_) fun e=>aW (by rw [← e];exact bw.yY se);rw [← e] at mF;rcases bw.IZ se with⟨c,ad⟩ | ⟨c,ad⟩ <;> rw [ad] at mF <;> cases mF
 refine⟨⟨_,g1,.inl ab,fun k5 r jV=>?_,fun k5 jV=>?_,fun PM Km t1 t2 kE lE de q iZ qn=>?_,jT.put⟩,hk,g1⟩
 ·rw [uG] at jV
  by_cases e:k5=c7
  ·rw [if_pos e] at jV;cases jV
   exact⟨a,_,rfl,aiN,fun q se=>by rw [N3 q se];exact .inr ⟨aW,jM g2⟩,fun a8 n=>⟨fun h=>(by cases h),fun⟨i,ao,bl,_⟩=>absurd (bl.trans e) (aO c7 fx i ao)⟩⟩
  rw [if_neg e] at jV
  obtain⟨t,g,rfl,bT,a2,a3⟩:=ax k5 r jV
  obtain⟨dJ,ew⟩:=hold t g bT
  exact⟨t,g,rfl,dJ,fun q se=>.inl (a2 q ((ew q).1 se)),a3⟩
 ·rw [uG] at jV
  by_cases e:k5=c7
  ·rw [if_pos e] at jV;cases jV
  rw [if_neg e] at jV;exact aO k5 jV
 rw [uG] at kE lE
 have al:∀ k5 fL,dD em k5=some (some fL)→ ∀ q,q=a→ ¬ Own bH fL q:=fun k5 fL zT q e se=>by
  obtain⟨t,g,e',bT,_⟩:=ax k5 _ zT;cases e';have:=(hold fL g bT).2 q |>.1 se;exact aW (by rw [← e];exact bT.yY this)
 by_cases ar:PM=c7
 ·rw [if_pos ar] at kE;cases kE
  by_cases aU:Km=c7
  ·exact de (ar.trans aU.symm)
  rw [if_neg aU] at lE
  exact al Km t2 lE q (N3 q iZ) qn
 rw [if_neg ar] at kE
 by_cases aU:Km=c7
 ·rw [if_pos aU] at lE;cases lE
  exact al PM t1 kE q (N3 q qn) iZ
 rw [if_neg aU] at lE
 obtain⟨t,g,e',bT,_⟩:=ax PM _ kE
 cases e'
 obtain⟨fL,dT,Pf,am8,_⟩:=ax Km _ lE
 cases Pf
 exact a7 _ _ _ _ kE lE de q (((hold _ _ bT).2 q).1 iZ) (((hold _ _ am8).2 q).1 qn)
theorem aiO {s:aZ}(h:cr s){hp:aG Cell}{m:Nat}{l:List aC}{own:Nat→Prop}(hq:oI s hp m l own)(fT:∀ q,own q→q∈dI hp)(ak:h5 s 1 l){i:aC}(ao:kD s 1 i)(aT:df l i.aY=none):
 cy (DD hp ⟨0,32,⟨some m⟩⟩ i) (fun hp'=>oI s hp' m (l++[i]) (nA own hp hp')∧eT hp hp' own):=by
 obtain⟨em,nJ,ab,ax,aO,a7,_⟩:=hq.ok
 unfold DD
 refine .eq (Mq h ao.dF _) (.eq rfl (.eq nJ (.eq rfl ?_)))
 simp only
 refine .bind (P:=fun m1=>oI s m1 m l (nA own hp m1)∧eT hp m1 own∧ ∃ PN t,lp m1 m=some PN∧dD PN (im (e8 i.aY))=some (some t)) (.cond (fun ad=>?_) fun ad=>.ret ?_) fun m1 b4=>?_
 ·have fx:dD em (im (e8 i.aY))=none:=by
   cases bA:dD em (im (e8 i.aY)) with
   | none=>rfl
   | some r=>
     obtain⟨t,_,rfl,_⟩:=ax _ _ bA
     rw [bA] at ad;cases ad
  unfold H0
  refine .bind (P:=fun r=> ∃ a,a ∉ dI hp∧r=((some a:Ref),(a,Cell.k1 ({ (default:hl) with gR:=32 }))::hp)) (.eq rfl (.mk fun a aW=>.ret ⟨a,aW,rfl⟩)) fun bf bl=>?_
  obtain⟨a,aW,rfl⟩:=bl
  have gF:lp ((a,Cell.k1 ({ (default:hl) with gR:=32 }))::hp) m=some em:=(HY (hp:=hp) (by rw [kJ,if_neg (EA aW (oG nJ))])).trans nJ
  obtain⟨g1,g2,g3⟩:=alC hq nJ fx aW (z:= { (default:hl) with gR:=32 }) rfl rfl
  refine .eq gF (.eq rfl (.ret ⟨g1,g2,_,a,g3,by rw [uG,if_pos rfl]⟩))
 ·cases bA:dD em (im (e8 i.aY)) with
  | none=>rw [bA] at ad;cases ad
  | some r=>
    obtain⟨t,_,rfl,_⟩:=ax _ _ bA
    exact⟨hq.mono fun q hq=>.inl hq,.refl,em,t,nJ,bA⟩
 obtain⟨g1,g2,PN,t,g3,g4⟩:=b4
 refine .eq g3 (.eq rfl ?_)
 simp only [g4]
 refine .bind (alB h g1 (fun q hq=>hq.elim (fun hq=>g2.keys q (fT q hq)) fun hq=>hq.2) ak ao aT g3 g4) fun r aA=>.ret ?_
 exact⟨aA.1.mono fun q hq=>abo g2.keys aA.2.keys hq,g2.grow aA.2⟩
theorem S9 {hp:aG Cell}{p:Nat}{k:Cell}{x:eD}{y:Option Nat}{n:Nat}(h:pat hp p=some k):qV (ct hp p (.tW x y n)) p=some (x,y,n):=by unfold qV;rw [rI h]
theorem aiP {s:aZ}(h:cr s){k:Nat}(hk:k<4){hp:aG Cell}{q:Nat}{l:List aC}{own:Nat→Prop}(hq:BL s k hp q l own)(ak:h5 s k l){i:aC}(ao:kD s k i)(hL:jE l i.b0=false)(hlen:l.length<900):
 cy (DX hp ⟨some q⟩ i) (fun hp'=>BL s k hp' q (l++[i]) (nA own hp hp')∧eT hp hp' own):=by
 obtain⟨key,cap,h1,ab⟩:=hq.ok
 unfold DX
 refine .eq rfl (.eq h1 (.eq (agi h hk ak.ok ao hlen) (.any fun av=>.eq rfl (.ret ?_))))
 rw [hL]
 exact⟨⟨av.1,av.2,S9 (yP h1),.inl ab⟩,.up ab⟩
theorem aiQ {s:aZ}(h:cr s){k:Nat}(hk:k<4){hp:aG Cell}{f:iq}{l:List aC}{own:Nat→Prop}(hq:sN s k hp f l own)(fT:∀ q,own q→q∈dI hp)(ak:h5 s k l){i:aC}(ao:kD s k i)(aT:df l i.aY=none)(hL:jE l i.b0=false)(hlen:l.length<900):
 cy (KX hp f i) (fun hp'=>sN s k hp' f (l++[i]) (nA own hp hp')∧eT hp hp' own):=by
 rcases hq with⟨rfl,q,rfl,hq⟩ | ⟨rfl,m,rfl,hq⟩ | ⟨dh,q,rfl,hq⟩
 ·exact cy.of ((alA h hq ak ao aT).mono fun hp' aA=>⟨.inl ⟨rfl,q,rfl,aA.1⟩,aA.2⟩)
 ·exact(aiO h hq fT ak ao aT).mono fun hp' aA=>⟨.inr (.inl ⟨rfl,m,rfl,aA.1⟩),aA.2⟩
 exact(aiP h hk hq ak ao hL hlen).mono fun hp' aA=>⟨.inr (.inr ⟨dh,q,rfl,aA.1⟩),aA.2⟩
theorem LV {α β:Type}[DecidableEq α]:∀ {l:List (α×β)} {x:α} {v:β},dD l x=some v→ (x,v)∈l
 | [],_,_,h=>by cases h
 | (k,w)::r,x,v,h=>by
   unfold dD at h;split at h
   ·rename_i e;cases h;rw [e];simp
   exact List.mem_cons_of_mem _ (LV h)
theorem TZ {α β:Type}[DecidableEq α]:∀ {l:List (α×β)} {x:α} {v:β},l.Pairwise (fun a c=>a.1≠c.1)→ (x,v)∈l→dD l x=some v
 | [],_,_,_,h=>by cases h
 | (k,w)::r,x,v,aH,h=>by
   obtain⟨h1,ab⟩:=List.pairwise_cons.1 aH;unfold dD;rcases List.mem_cons.1 h with h | h
   ·cases h;rw [if_pos rfl]
   rw [if_neg (fun e=>h1 _ h e.symm),TZ ab h]
theorem Ta {α β:Type}[DecidableEq α]:∀ {l:List (α×β)} {x:α} {v:β},dD l x=none→gn l x v=l++[(x,v)]
 | [],_,_,_=>rfl
 | (k,w)::r,x,v,h=>by
   unfold dD at h;split at h
   ·cases h
   rename_i e;show(if x=k then _ else _)=_;rw [if_neg e,Ta h];rfl
def vv (em:List (Int×aC))(l:List aC):Prop:=em.Perm (l.map fun i=>(i.b0,i))
theorem vv.get {s:aZ}{k:Nat}{em:List (Int×aC)}{l:List aC}(h:vv em l)(ak:mf s k l)(n:Int)(i:aC):dD em n=some i↔i∈l∧i.b0=n:=by
 have hd:em.Pairwise (fun a c=>a.1≠c.1):=by
  refine(h.pairwise_iff fun bQ=>Ne.symm bQ).2 ?_;rw [List.pairwise_map];exact ak.num.imp fun bQ=>bQ
 have hm:(n,i)∈em↔i∈l∧i.b0=n:=by
  rw [h.mem_iff,List.mem_map];constructor
  ·rintro ⟨c,ad,e⟩;cases e;exact⟨ad,rfl⟩
  rintro ⟨ao,rfl⟩;exact⟨i,ao,rfl⟩
 rw [← hm];exact⟨LV,TZ hd⟩
theorem vv.no {s:aZ}{k:Nat}{em:List (Int×aC)}{l:List aC}(h:vv em l)(ak:mf s k l)(n:Int):(dD em n).isSome=jE l n:=by
 rw [Bool.eq_iff_iff,Option.isSome_iff_exists];unfold jE;rw [List.any_eq_true];constructor
 ·rintro ⟨i,ao⟩;obtain⟨h1,ab⟩:=(h.get ak n i).1 ao;exact⟨i,h1,by simpa using ab⟩
 rintro ⟨i,ao,ab⟩;exact⟨i,(h.get ak n i).2 ⟨ao,by simpa using ab⟩⟩
structure lu (s:aZ)(k:Nat)(hp:aG Cell)(p:Nat)(l:List aC)(own:Nat→Prop):Prop where
 fY:h5 s k l
 cell:∃ f m em,iV hp p=some ⟨qG k,(KB s k:Int),f,⟨some m⟩⟩∧l5 hp m=some em∧own p∧own m∧vv em l∧sN s k hp f l (fun q=>own q∧q≠m∧q≠p)
 ov:∀ q,own q→q∈dI hp
theorem lu.congr {s:aZ}{k:Nat}{hp hp':aG Cell}{p:Nat}{l:List aC}{own:Nat→Prop}(h:lu s k hp p l own)(hk:∀ q,q∈dI hp→q∈dI hp')(aW:∀ q,own q→pat hp' q=pat hp q):lu s k hp' p l own:=by
 obtain⟨f,m,em,h1,ab,ax,aO,a7,bl⟩:=h.cell;exact⟨h.fY,⟨f,m,em,by rw [abQ (aW p ax)];exact h1,by rw [abR (aW m aO)];exact ab,ax,aO,a7,bl.congr (fun q _ hq=>hq) fun q hq=>aW q hq.1⟩,fun q hq=>hk q (h.ov q hq)⟩
theorem lu.mT {s:aZ}{k:Nat}{hp hp':aG Cell}{p:Nat}{l:List aC}{own own':Nat→Prop}(h:lu s k hp p l own)(hk:eT hp hp' own')(hd:∀ q,own q→ ¬ own' q):lu s k hp' p l own:=
 h.congr hk.keys fun q hq=>hk.rest q (h.ov q hq) (hd q hq)
theorem entry_eq {s:aZ}(h:cr s){k:Nat}(hk:k<4){hp:aG Cell}{p:Nat}{l:List aC}{own:Nat→Prop}(al:lu s k hp p l own){o:Option aC}(bg:∀ i,o=some i→i∈l):DP hp (some p) (wm o).1 (wm o).2=some (vW o):=by
 obtain⟨f,m,em,h1,ab,ax,aO,a7,bl⟩:=al.cell;refine bd.get ?_;unfold DP;cases o with
 | none=>exact .cond (fun _=>.ret rfl) fun ad=>by cases ad
 | some i=>
   have ao:=bg i rfl
   refine .cond (fun ad=>by cases ad) fun _=>.eq rfl (.eq h1 (.eq rfl (.eq ab (.eq rfl ?_))))
   have bA:dD em i.b0=some i:=(a7.get al.fY.ok _ _).2 ⟨ao,rfl⟩
   show bd (Option.bind (sr ((dD em i.b0).getD default)) _) _
   rw [bA]
   exact .eq (E1 h hk (al.fY.ok.ok i ao)) (.ret rfl)
theorem Mr {s:aZ}(h:cr s){k:Nat}(hk:k<4){hp:aG Cell}{p:Nat}{l:List aC}{own:Nat→Prop}(al:lu s k hp p l own){e:bh}(he:gb s k e):ye hp (some p) e=some (vW (df l e)):=by
 obtain⟨f,m,em,h1,ab,ax,aO,a7,bl⟩:=al.cell;refine bd.get ?_;unfold ye;refine .cond (fun ad=>by cases ad) fun _=>.eq rfl (.eq h1 (.eq (Wb h hk bl al.fY he) (.eq (entry_eq h hk al fun i ao=>(nX ao).1) (.ret rfl))))
theorem agl {s:aZ}{k:Nat}{hp:aG Cell}{p:Nat}{l:List aC}{own:Nat→Prop}(al:lu s k hp p l own):DZ hp (some p)=some (l.length:Int):=by
 obtain⟨f,m,em,h1,ab,ax,aO,a7,bl⟩:=al.cell;have ak:em.length=l.length:=by rw [a7.length_eq,List.length_map]
 refine bd.get ?_;unfold DZ;refine .cond (fun ad=>by cases ad) fun _=>.eq rfl (.eq h1 (.eq rfl (.eq ab ?_)));rw [ak];first | exact .ret rfl | exact .eq rfl (.ret rfl)
theorem lu.mono {s:aZ}{k:Nat}{hp:aG Cell}{p:Nat}{l:List aC}{own own':Nat→Prop}(h:lu s k hp p l own)(bg:∀ q,own q→own' q)(ao:∀ q,own' q→q∈dI hp):lu s k hp p l own':=by
 obtain⟨f,m,em,h1,ab,ax,aO,a7,bl⟩:=h.cell;exact⟨h.fY,⟨f,m,em,h1,ab,bg p ax,bg m aO,a7,bl.congr (fun q _ hq=>⟨bg q hq.1,hq.2⟩) fun q hq=>rfl⟩,ao⟩
theorem h5.nil {s:aZ}{k:Nat} :h5 s k []:=⟨⟨fun i ao=>by(cases ao),.nil,by simp⟩,.nil⟩
def CI:Nat→Prop:=fun _=>False
theorem agm {s:aZ}(h:cr s){k:Nat}(hk:k<4)(hp:aG Cell):cy (Bi hp s ((k:Int)+1)) (fun r=> ∃ p,r.1=some p∧lu s k r.2 p [] (nA CI hp r.2)∧eT hp r.2 CI):=by
 refine(aiJ h hk hp).mono fun r aA=>?_;obtain⟨p,e,aA⟩:=aA;obtain⟨c,m,h1,ab,ax,aO,a7,bl,cN,cW,c0,lU,uu,zS⟩:=aA.cell;obtain⟨an8,aP,f,cn⟩:=c;simp only at ab ax aO bl cN cW;subst ab ax aO;have hm:=sx a7;have hp':=yM h1;refine⟨p,e,⟨h5.nil,⟨f,m,[],h1,a7,.inr ⟨c0,jM hp'⟩,.inr ⟨lU,jM hm⟩,List.Perm.refl _,?_⟩,fun q hq=>hq.elim (fun h=>h.elim) fun h=>h.2⟩,⟨uu,fun q hq _=>zS q hq⟩⟩;have key:∀ q c,pat r.2 q=some c→ (∀ x,c≠ .lP x)→ (∀ x,c≠ .ps x)→q ∉ dI hp→nA CI hp r.2 q∧q≠m∧q≠p:=fun q c ad lY CR aH=>
  ⟨.inr ⟨aH,jM ad⟩,fun e=>by rw [e,hm] at ad;cases ad;exact lY _ rfl,fun e=>by rw [e,hp'] at ad;cases ad;exact CR _ rfl⟩
 have:k=0∨k=1∨2≤k:=by omega
 rcases this with rfl | rfl | dh
 ·obtain⟨q,m2,rfl,g1,g2,g3,g4⟩:=bl rfl;exact .inl ⟨rfl,q,rfl,⟨m2,[],g1,g2,key q _ (E3 g1) (fun _ h=>by cases h) (fun _ h=>by cases h) g3,key m2 _ (tC g2) (fun _ h=>by cases h) (fun _ h=>by cases h) g4,fun c7 n=>⟨fun h=>(by cases h),fun⟨i,ao,_⟩=>(by cases ao)⟩,.nil⟩⟩
 ·obtain⟨m3,rfl,g1,g2⟩:=cN rfl;exact .inr (.inl ⟨rfl,m3,rfl,⟨[],g1,key m3 _ (oG g1) (fun _ h=>by cases h) (fun _ h=>by cases h) g2,fun c7 r h=>(by cases h),fun c7 _ i ao=>(by cases ao),fun c7 k5 t fL h=>(by cases h),.nil⟩⟩)
 obtain⟨q,an9,cap,rfl,g1,g2⟩:=cW dh;exact .inr (.inr ⟨dh,q,rfl,⟨an9,cap,g1,key q _ (yP g1) (fun _ h=>by cases h) (fun _ h=>by cases h) g2⟩⟩)
theorem h5.snoc {s:aZ}{k:Nat}{l:List aC}(h:h5 s k l){i:aC}(ao:kD s k i)(aT:df l i.aY=none)(aH:jE l i.b0=false)(ak:l.length<900):h5 s k (l++[i]) where
 ok:=h.ok.snoc ao aH ak
 key:=by
  rw [List.pairwise_append];exact⟨h.key,by simp,fun a aW c ad=>by rw [List.mem_singleton.1 ad];exact su aT a aW⟩
theorem adV {hp:aG Cell}{p:Nat}{k:Cell}{x:List (Int×aC)}(h:pat hp p=some k):l5 (ct hp p (.lP x)) p=some x:=by unfold l5;rw [rI h]
theorem UB (o:Option aC):(wm o).2=o.isSome:=by cases o <;> rfl
def pR (l:List aC)(i:aC):Bool:=(df l i.aY).isNone&& !jE l i.b0
def added (l:List aC)(i:aC):List aC:=if pR l i=true then l++[i] else l
theorem Nf {s:aZ}(h:cr s){k:Nat}(hk:k<4){hp:aG Cell}{p:Nat}{l:List aC}{own:Nat→Prop}(al:lu s k hp p l own){i:aC}(ao:kD s k i)(hlen:l.length<900):
 cy (yi hp (some p) i) (fun r=>r.1=pR l i∧lu s k r.2 p (added l i) (nA own hp r.2)∧eT hp r.2 own):=by
 obtain⟨f,m,em,h1,ab,ax,aO,a7,bl⟩:=al.cell
 have hm:=sx ab
 have hp':=yM h1
 have mF:p≠m:=fun e=>by rw [e,hm] at hp';cases hp'
 have fx:=a7.no al.fY.ok i.b0
 unfold yi
 refine .cond (fun ad=>by cases ad) fun _=>.eq rfl (.eq h1 (.eq rfl (.eq ab (.eq rfl (.eq rfl (.eq h1 (.eq (Wb h hk bl al.fY ao.dF) (.cond (fun ad=>.ret ?_) fun ad=>?_))))))))
 ·rw [fx,UB,Bool.or_eq_true] at ad
  have bw:pR l i=false:=by
   unfold pR;rcases ad with ad | ad
   ·cases aT:df l i.aY with
    | none=>rw [aT] at ad;cases ad
    | some _=>rfl
   rw [ad];simp
  refine⟨bw.symm,?_,.refl⟩
  unfold added
  rw [bw]
  exact al.mono (fun q hq=>.inl hq) fun q hq=>hq.elim (al.ov q) fun hq=>absurd hq.2 hq.1
 rw [fx,UB,Bool.or_eq_false_iff] at ad
 obtain⟨c1,c2⟩:=ad
 have aT:df l i.aY=none:=by
  cases aT:df l i.aY with
  | none=>rfl
  | some _=>rw [aT] at c1;cases c1
 have bw:pR l i=true:=by unfold pR;rw [aT,c2];rfl
 have bA:dD em i.b0=none:=by
  cases bA:dD em i.b0 with
  | none=>rfl
  | some _=>rw [bA,c2] at fx;cases fx
 have av:pat (ct hp m (Cell.lP (gn em i.b0 i))) p=some (.ps ⟨qG k,(KB s k:Int),f,⟨some m⟩⟩):=by rw [mq mF.symm];exact hp'
 have f1:sN s k (ct hp m (Cell.lP (gn em i.b0 i))) f l (fun q=>own q∧q≠m∧q≠p):=bl.congr (fun q _ hq=>hq) fun q hq=>mq hq.2.1.symm
 refine .eq rfl (.eq h1 (.eq (E1 h hk ao) (.eq rfl (.eq ab (.eq rfl (.eq (by unfold iV;rw [av]) (.bind (aiQ h hk f1 (fun q hq=>by rw [qQ];exact al.ov q hq.1) al.fY ao aT c2 hlen) fun hZ aA=>.ret ⟨bw.symm,?_,?_⟩)))))))
 ·obtain⟨kq,gH⟩:=aA
  have bT:pat hZ p=some (.ps ⟨qG k,(KB s k:Int),f,⟨some m⟩⟩):=by rw [gH.rest p (jM av) (fun hq=>hq.2.2 rfl)];exact av
  have a2:pat hZ m=some (.lP (gn em i.b0 i)):=by
   have:pat (ct hp m (Cell.lP (gn em i.b0 i))) m=some (.lP (gn em i.b0 i)):=rI hm;rw [gH.rest m (jM this) (fun hq=>hq.2.1 rfl)];exact this
  unfold added
  rw [if_pos bw]
  refine⟨al.fY.snoc ao aT c2 hlen,⟨f,m,_,by unfold iV;rw [bT],by unfold l5;rw [a2],.inl ax,.inl aO,?_,kq.congr (fun q _ hq=>?_) fun q _=>rfl⟩,fun q hq=>?_⟩
  ·unfold vv
   rw [Ta bA,List.map_append]
   exact List.Perm.append_right _ a7
  ·rcases hq with hq | ⟨g1,g2⟩
   ·exact⟨.inl hq.1,hq.2⟩
   rw [qQ] at g1
   exact⟨.inr ⟨g1,g2⟩,fun e=>g1 (e ▸ jM hm),fun e=>g1 (e ▸ jM hp')⟩
  rcases hq with hq | hq
  ·exact gH.keys q (by rw [qQ];exact al.ov q hq)
  exact hq.2
 exact(eT.up (own:=own) aO).trans aA.2 fun q _ hq=>hq.1
theorem Ms {hp hp':aG Cell}{root:Ref}{ws:List Bool}{b:Bool}{p q:Nat}{c wj:ek}(bw:qT hp root)(hw:cV hp root ws=some p)(ad:cK hp p=some c)(hq:b5 c.dA (fK b)=some q)(pQ:cK hp q=some wj)(ak:∀ x,b5 wj.dA (fK x)=none)
 (bH:cK hp' p=some { c with dA:=eb c.dA (fK b) none }) (hZ:∀ x,x≠p→cK hp' x=cK hp x):
 ∀ (a8 us:List Bool) (r:Nat),cV hp root us=some r→us≠ws++[b]→cV hp' (some r) a8=if us++a8=ws++[b] then none else cV hp (some r) a8
 | [],us,r,hu,de=>by
   rw [List.append_nil,if_neg de];rfl
 | x::xs,us,r,hu,de=>by
   obtain⟨Qr,vX⟩:=bw.reads us r hu;by_cases oq:r=p
   ·subst oq;have PA:=bw.inj us ws r hu hw;subst PA;rw [ad] at vX;cases vX;rw [iG bH,iG ad];simp only;have cj:fK b<2:=by cases b <;> decide
    rw [jA _ _ cj];by_cases zR:x=b
    ·subst zR;rw [if_pos rfl,hq,hr];by_cases h:xs= []
     ·subst h;rw [if_pos rfl]
     have fx: ¬ us++x::xs=us++[x]:=fun e=>h (by have:=List.append_cancel_left e;simpa using this);rw [if_neg fx];cases xs with
     | nil=>exact absurd rfl h
     | cons y ys=>rw [iG pQ,ak,hr]
    have am9: ¬ fK x=fK b:=fun e=>zR (by cases x <;> cases b <;> first | rfl | cases e);have fx:∀ ys,¬ us++x::ys=us++[b]:=fun ys e=>zR (by have:=List.append_cancel_left e;simpa using (List.cons.inj this).1);rw [if_neg am9,if_neg (fx xs)];cases e:b5 c.dA (fK x) with
    | none=>rw [hr,hr]
    | some k7=>
      have oj:cV hp root (us++[x])=some k7:=by rw [oE,hu,iG ad,e,p6]
      rw [Ms bw hw ad hq pQ ak bH hZ xs (us++[x]) k7 oj (fx []),List.append_assoc,List.singleton_append,if_neg (fx xs)]
   have h1:cK hp' r=some Qr:=by rw [hZ r oq];exact vX
   rw [iG h1,iG vX];have alD:us++[x]≠ws++[b]:=fun e=>by
    have:=List.append_inj_left' e rfl;subst this;rw [hu] at hw;cases hw;exact oq rfl
   cases e:b5 Qr.dA (fK x) with
   | none=>rw [hr,hr];split <;> rfl
   | some k7=>
     have oj:cV hp root (us++[x])=some k7:=by rw [oE,hu,iG vX,e,p6]
     rw [Ms bw hw ad hq pQ ak bH hZ xs (us++[x]) k7 oj alD,List.append_assoc,List.singleton_append]
theorem cut {hp hp':aG Cell}{r:Nat}{ws:List Bool}{b:Bool}{p q:Nat}{c wj:ek}(bw:qT hp (some r))(hw:cV hp (some r) ws=some p)(ad:cK hp p=some c)(hq:b5 c.dA (fK b)=some q)(pQ:cK hp q=some wj)(ak:∀ x,b5 wj.dA (fK x)=none)(hu:wj.ga=false)
 (bH:cK hp' p=some { c with dA:=eb c.dA (fK b) none }) (hZ:∀ x,x≠p→cK hp' x=cK hp x):
 qT hp' (some r)∧ (∀ a8,cV hp' (some r) a8=if a8=ws++[b] then none else cV hp (some r) a8)∧ ∀ a8,cont hp' (some r) a8=cont hp (some r) a8:=by
 have aT:∀ a8,cV hp' (some r) a8=if a8=ws++[b] then none else cV hp (some r) a8:=fun a8=>Ms bw hw ad hq pQ ak bH hZ a8 [] r rfl (by simp)
 have PB:cV hp (some r) (ws++[b])=some q:=by rw [oE,hw,iG ad,hq,p6]
 refine⟨⟨fun a8 x h=>?_,fun a8 cs x h1 ab=>?_,fun a8 x h=>?_⟩,aT,fun a8=>?_⟩
 ·rw [aT] at h
  split at h
  ·cases h
  obtain⟨fP,h1⟩:=bw.reads a8 x h
  by_cases e:x=p
  ·subst e;exact⟨_,bH⟩
  exact⟨fP,by rw [hZ x e];exact h1⟩
 ·rw [aT] at h1 ab
  split at h1 <;> split at ab
  ·cases h1
  ·cases h1
  ·cases ab
  exact bw.inj a8 cs x h1 ab
 ·rw [aT] at h
  split at h
  ·cases h
  exact bw.dep a8 x h
 by_cases e:a8=ws++[b]
 ·subst e
  rw [mu (by rw [aT,if_pos rfl]),lM PB pQ,hu];rfl
 have vR:cV hp' (some r) a8=cV hp (some r) a8:=by rw [aT,if_neg e]
 cases h:cV hp (some r) a8 with
 | none=>rw [mu h,mu (vR.trans h)]
 | some x=>
   obtain⟨fP,h1⟩:=bw.reads a8 x h
   by_cases eq:x=p
   ·subst eq
    rw [ad] at h1;cases h1
    rw [lM h ad,lM (vR.trans h) bH]
   rw [lM h h1,lM (vR.trans h) (by rw [hZ x eq];exact h1)]
structure OD (lD hp:aG Cell)(t:Nat)(g:List Bool→Option Int)(r:Nat):Prop where
 cell:∃ c,gm hp t=some c∧c.gR=32∧c.eX=some r
 tree:qT hp (some r)
 cont:∀ a8,cont hp (some r) a8=g a8
 keeps:eT lD hp (Own lD t)
 own:∀ a8 q,cV hp (some r) a8=some q→Own lD t q
theorem empty_eq {hp:aG Cell}{p:Nat}{c:ek}(h:cK hp p=some c):AR hp (some p)=some (!c.ga&&decide (c.dA=default)):=by
 refine bd.get ?_;unfold AR;refine .eq rfl (.eq h ?_);refine .cb (P:=fun r=>r=p) (fun _=>⟨p,rfl,rfl⟩) fun o h1=>?_;refine .cb (P:=fun r=>r=c) (fun ab=>⟨c,by rw [h1 ab];exact h,rfl⟩) fun c2 ab=>.ret ?_;cases hu:c.ga with
 | true=>rfl
 | false=>rw [ab (by rw [hu];rfl)]
theorem ac0 (v:aX)(n:Nat):(eJ v n).length=n:=by unfold eJ;simp
theorem ac1 (v:aX){i n:Nat}(h:i≤n):eJ v n=eJ v i++(eJ v n).drop i:=by
 have:eJ v i=(eJ v n).take i:=by unfold eJ;rw [← List.map_take,List.take_range];congr 2;omega
 rw [this,List.take_append_drop]
theorem IC {hp:aG Cell}{r:Ref}{v:aX}{i n:Nat}(h:i≤n){p:Nat}(hp':cV hp r (eJ v n)=some p):∃ q,cV hp r (eJ v i)=some q:=by
 rw [ac1 v h,oE] at hp';cases e:cV hp r (eJ v i) with
 | none=>rw [e,hr] at hp';cases hp'
 | some q=>exact⟨q,rfl⟩
theorem ac2 {hp:aG Cell}{t:Nat}{g:List Bool→Option Int}(h:ky hp t g){n:Nat}(aH:n≤32){v:aX}(bb:∀ j,j<128→cJ v j=true→lead 32 n j=true){id:Int}(bA:g (eJ v n)=some id):
 bd (AP hp (some t) v n) (fun r=>r.1=true∧ky r.2 t (fun a8=>if a8=eJ v n then none else g a8)∧eT hp r.2 (Own hp t)∧ ∀ q,Own r.2 t q→Own hp t q):=by
 obtain⟨c,ad,hb,bw,PO⟩:=h.ok
 have alE:∃ p,cV hp c.eX (eJ v n)=some p:=by
  cases e:cV hp c.eX (eJ v n) with
  | none=>rw [← PO,mu e] at bA;cases bA
  | some p=>exact⟨p,rfl⟩
 obtain⟨xU,kC⟩:=alE
 have aiR:∃ r,c.eX=some r:=by
  obtain⟨q,hq⟩:=IC (Nat.zero_le n) kC;rw [R0,p6] at hq;exact⟨q,hq⟩
 obtain⟨r,aA⟩:=aiR
 rw [aA] at bw PO kC
 unfold AP
 refine .eq (Uy h aH bb) ?_
 rw [bA]
 refine .cond (fun ad=>by cases ad) fun _=>.eq rfl (.eq ad (.eq rfl ?_))
 rw [aA]
 show bd (Option.bind (uA hp (n:Int) v (some t) _ _) _) _
 refine bd.bind (P:=fun e:(List Int×List Ref) ⊕ Empty=> ∃ bits oY,e= .inl (bits,oY)∧oY.length=n+1∧bits.length=n∧ (∀ j,j≤n→au oY j=cV hp (some r) (eJ v j))∧ ∀ j,j<n→au bits j=((fK (cJ v (31 - j)):Nat):Int))
  (Wa ad hb v aH (fun i s=> ∃ bits oY,s=(bits,oY)∧oY.length=i+1∧bits.length=i∧ (∀ j,j≤i→au oY j=cV hp (some r) (eJ v j))∧ ∀ j,j<i→au bits j=((fK (cJ v (31 - j)):Nat):Int)) ⟨[],[some r],rfl,rfl,rfl,fun j aB=>?_,fun j aB=>by omega⟩ (fun i s ao hs=>?_) (fun s hs=>?_)) fun e he=>?_
 ·have:j=0:=by omega
  subst this
  rw [R0,p6];rfl
 ·obtain⟨bits,oY,rfl,h1,ab,ax,aO⟩:=hs
  obtain⟨q,hq⟩:=IC (show i≤n by omega) kC
  obtain⟨d,hd⟩:=bw.reads _ _ hq
  have hw:bk ((oY.length:Int) - 1)=(i:Int):=by rw [gA (by omega) (by omega)];omega
  simp only [hw]
  have cj:fK (cJ v (31 - i))<2:=by cases cJ v (31 - i) <;> decide
  refine .idx rfl (by omega) (.eq (a:=q) (by rw [ax i (Nat.le_refl _)];exact hq) (.idx rfl cj (.eq hd (.eq (fM _ _ (by simp;omega) (by omega)) (.eq (fM _ _ (by simp;omega) (by omega)) (.ret ⟨_,_,rfl,by simp;omega,by simp;omega,fun j aB=>?_,fun j aB=>?_⟩))))))
  ·rw [Ia]
   by_cases kc:j=oY.length
   ·rw [if_pos kc,show j=i+1 by omega,H4,oE,hq,iG hd,p6]
   rw [if_neg kc];exact ax j (by omega)
  rw [Ia]
  by_cases kc:j=bits.length
  ·rw [if_pos kc,show j=i by omega]
  rw [if_neg kc];exact aO j (by omega)
 ·exact⟨s.1,s.2,by obtain⟨bits,oY,rfl,_⟩:=hs;rfl,by obtain⟨bits,oY,rfl,h⟩:=hs;exact h⟩
 obtain⟨bits,oY,rfl,h1,ab,ax,aO⟩:=he
 simp only [Sum.elim_inl]
 obtain⟨d,hd⟩:=bw.reads _ _ kC
 have PI:=rA.1 hd
 have fN:cK (ct hp xU (.gE { d with ga:=false })) xU=some { d with ga:=false } :=Br PI
 refine .idx rfl (by omega) (.eq (a:=xU) (by rw [ax n (Nat.le_refl _)];exact kC) (.eq hd (.eq rfl (.eq fN (.eq rfl ?_)))))
 generalize b3:ct (ct hp xU (.gE { d with ga:=false })) xU (.gE { d with ga:=false,kA:=0 })=cE
 have hI:=Jp hd ad
 have xo:cK cE xU=some { d with ga:=false,kA:=0 } :=by rw [← b3];exact Br (rA.1 fN)
 have OE:∀ q,q≠xU→pat cE q=pat hp q:=fun q hq=>by rw [← b3,mq hq.symm,mq hq.symm]
 obtain⟨s1,s2⟩:=Xp bw kC hd xo rfl fun q hq=>yw (OE q hq)
 have Y3:=EH hd xo rfl fun q hq=>yw (OE q hq)
 have ana:gm cE t=some c:=by rw [HW (OE t hI.symm)];exact ad
 have Wc:Own hp t xU:= .inr ⟨c,_,ad,by rw [aA];exact kC⟩
 have dh:eT hp cE (Own hp t):=by
  rw [← b3];exact(eT.up (own:=Own hp t) Wc).trans (eT.up Wc) fun q _ h=>h
 have m0:OD hp cE t (fun a8=>if a8=eJ v n then none else g a8) r:=⟨⟨c,ana,hb,aA⟩,s1,fun a8=>by
  rw [s2];by_cases e:a8=eJ v n
  ·rw [if_pos e];simp only [if_pos e];rfl
  rw [if_neg e];simp only [if_neg e];exact PO a8,dh,fun a8 q hq=>.inr ⟨c,a8,ad,by rw [aA,← Y3];exact hq⟩⟩
 have ug:bk ((n:Int) - 1)=(n:Int) - 1:=gA (by omega) (by omega)
 rw [ug]
 refine bd.bind (P:=fun aU=>OD hp aU.2.2 t (fun a8=>if a8=eJ v n then none else g a8) r) (bd.jl n (fun i st=> ∃ hq,st=((n:Int) - 1 - (i:Int),hq)∧OD hp hq t (fun a8=>if a8=eJ v n then none else g a8) r∧ ∀ j,j+i≤n→cV hq (some r) (eJ v j)=au oY j) (by omega) ⟨cE,by simp,m0,fun j aB=>by rw [Y3,ax j (by omega)]⟩ (fun i st ao hs=>?_) (fun st hs=>?_)) fun aU oZ=>?_
 ·obtain⟨hq,rfl,hm,OF⟩:=hs
  have ar:(n:Int) - 1 - (i:Int)=((n - 1 - i:Nat):Int):=by omega
  have aU:bk ((n:Int) - 1 - (i:Int)+1)=((n - i:Nat):Int):=by rw [gA (by omega) (by omega)];omega
  have cz:bk ((n:Int) - 1 - (i:Int) - 1)=(n:Int) - 1 - ((i+1:Nat):Int):=by rw [gA (by omega) (by omega)];omega
  simp only [aU,cz]
  have vN:decide ((n:Int) - 1 - (i:Int)≥0)=true:=by rw [decide_eq_true_eq];omega
  simp only [vN]
  have iZ:=OF (n - i) (by omega)
  have GB:=OF (n - 1 - i) (by omega)
  obtain⟨ai,ij⟩:=IC (show n - i≤n by omega) kC
  obtain⟨aa,zE⟩:=IC (show n - 1 - i≤n by omega) kC
  rw [ax _ (by omega),ij] at iZ
  rw [ax _ (by omega),zE] at GB
  obtain⟨c1,dy⟩:=hm.tree.reads _ _ iZ
  obtain⟨nR,zF⟩:=hm.tree.reads _ _ GB
  refine .cb (P:=fun hh=>hh=n - i) (fun _=>⟨_,kY (by omega),rfl⟩) fun hh pF=>?_
  rw [pF rfl]
  have Ct:au oY (n - i)=some ai:=by rw [ax _ (by omega)];exact ij
  have Pq:au oY (n - 1 - i)=some aa:=by rw [ax _ (by omega)];exact zE
  refine .cb (P:=fun y=>y=(!c1.ga&&decide (c1.dA=default))) (fun _=>⟨_,by rw [Ct];exact empty_eq dy,rfl⟩) fun cd hE=>.cond (fun bF=>?_) fun bF=>.ret hm
  rw [Bool.true_and,hE rfl,Bool.and_eq_true,Bool.not_eq_true',decide_eq_true_eq] at bF
  obtain⟨bn,z2⟩:=bF
  have cj:fK (cJ v (31 - (n - 1 - i)))<2:=by cases cJ v (31 - (n - 1 - i)) <;> decide
  have aiS:eJ v (n - i)=eJ v (n - 1 - i)++[cJ v (31 - (n - 1 - i))]:=by rw [← H4,show n - 1 - i+1=n - i by omega]
  have ou:b5 nR.dA (fK (cJ v (31 - (n - 1 - i))))=some ai:=by
   rw [aiS,oE,GB,iG zF,p6] at iZ;exact iZ
  have lD:=rA.1 zF
  refine .idx ar (by omega) (.idx ar (by omega) (.eq Pq (.idx (aO _ (by omega)) cj (.eq zF (.eq rfl (.ret ?_))))))
  obtain⟨g1,g2,g3⟩:=cut (hp':=ct hq aa (.gE { nR with dA:=eb nR.dA (fK (cJ v (31 - (n - 1 - i)))) none })) hm.tree GB zF ou dy (fun x=>by rw [z2,HP];rfl) bn (Br lD) fun x al=>wG al.symm
  obtain⟨fP,bT,a2,a3⟩:=hm.cell
  have aiT:=hm.own _ _ GB
  refine⟨_,rfl,⟨⟨fP,by rw [HX (Jp zF bT)];exact bT,a2,a3⟩,g1,fun a8=>by rw [g3];exact hm.cont a8,hm.keeps.trans (eT.up aiT) fun q _ h=>h,fun a8 q mg=>?_⟩,fun j aB=>?_⟩
  ·rw [g2] at mg
   split at mg
   ·cases mg
   exact hm.own a8 q mg
  rw [g2,if_neg (fun e=>by have:=congrArg List.length e;simp only [List.length_append,ac0,List.length_singleton] at this;omega)]
  exact OF j (by omega)
 ·obtain⟨hq,rfl,hm,_⟩:=hs
  have vN:decide ((n:Int) - 1 - (n:Int)≥0)=false:=by rw [decide_eq_false_iff_not];omega
  simp only [vN]
  refine .cb (P:=fun _=>True) (fun ad=>by cases ad) fun _ _=>.cb (P:=fun _=>True) (fun ad=>by cases ad) fun _ _=>.cond (fun ad=>by cases ad) fun _=>.ret hm
 obtain⟨jG,bT,a2,a3⟩:=oZ.cell
 refine .eq bT ?_
 rw [a3]
 obtain⟨Qr,vX⟩:=oZ.tree.reads [] r rfl
 refine .eq (empty_eq vX) (.bind (P:=fun m1=>ky m1 t (fun a8=>if a8=eJ v n then none else g a8)∧eT hp m1 (Own hp t)∧ ∀ q,Own m1 t q→Own hp t q) (.cond (fun bF=>.eq rfl (.ret ?_)) fun _=>.ret ?_) fun m1 b4=>.ret ⟨rfl,b4⟩)
 ·rw [Bool.and_eq_true,Bool.not_eq_true',decide_eq_true_eq] at bF
  obtain⟨bn,z2⟩:=bF
  have Yz:gm (ct aU.2.2 t (.k1 { jG with eX:=none })) t=some { jG with eX:=none } :=S3 (uH.1 bT)
  refine⟨⟨_,Yz,a2,⟨fun a8 p h=>(by rw [hr] at h;cases h),fun a8 cs p h=>(by rw [hr] at h;cases h),fun a8 p h=>(by rw [hr] at h;cases h)⟩,fun a8=>?_⟩,oZ.keeps.trans (eT.up (own:=Own hp t) (.inl rfl)) fun q _ h=>h,fun q hq=>?_⟩
  ·rw [mu hr,← oZ.cont]
   cases a8 with
   | nil=>rw [lM (p:=r) rfl vX,bn];rfl
   | cons b a8=>rw [mu];rw [iG vX,z2,HP];exact hr
  rcases hq with rfl | ⟨fP,a8,dJ,ew⟩
  ·exact .inl rfl
  rw [Yz] at dJ;cases dJ
  rw [hr] at ew;cases ew
 refine⟨⟨jG,bT,a2,by rw [a3];exact oZ.tree,fun a8=>by rw [a3];exact oZ.cont a8⟩,oZ.keeps,fun q hq=>?_⟩
 rcases hq with rfl | ⟨fP,a8,dJ,ew⟩
 ·exact .inl rfl
 rw [bT] at dJ;cases dJ
 rw [a3] at ew
 exact oZ.own a8 q ew
def lF (hp:aG Cell):Nat→Ref→List Int
 | 0,_=>[]
 | _+1,none=>[]
 | n+1,some p=>match cK hp p with
   | none=>[]
   | some c=>(bif c.ga then [c.kA] else [])++(lF hp n (b5 c.dA 0)++lF hp n (b5 c.dA 1))
theorem I0 {hp:aG Cell}{n p:Nat}{c:ek}(h:cK hp p=some c):lF hp (n+1) (some p)=(bif c.ga then [c.kA] else [])++(lF hp n (b5 c.dA 0)++lF hp n (b5 c.dA 1)):=by
 show(match cK hp p with | none=>[] | some c=>_)=_;rw [h]
theorem uI {hp:aG Cell}{p:Nat}{c:ek}(h:cK hp p=some c)(b:Bool)(a8:List Bool):cont hp (some p) (b::a8)=cont hp (b5 c.dA (fK b)) a8:=by
 unfold cont;rw [iG h]
theorem yH {hp:aG Cell} :∀ {n:Nat} {r:Ref} {id:Int},id∈lF hp n r→ ∃ a8,cont hp r a8=some id
 | 0,_,_,h=>by cases h
 | _+1,none,_,h=>by cases h
 | n+1,some p,id,h=>by
   cases ad:cK hp p with
   | none=>
     have:lF hp (n+1) (some p)= []:=by
      show(match cK hp p with | none=>[] | some c=>_)=_;rw [ad]
     rw [this] at h;cases h
   | some c=>
     rw [I0 ad] at h
     rcases List.mem_append.1 h with h | h
     ·refine⟨[],?_⟩
      rw [lM (p:=p) rfl ad]
      cases hu:c.ga with
      | true=>rw [hu] at h;rw [List.mem_singleton.1 h];rfl
      | false=>rw [hu] at h;cases h
     rcases List.mem_append.1 h with h | h
     ·obtain⟨a8,mg⟩:=yH h
      exact⟨false::a8,by rw [uI ad];exact mg⟩
     obtain⟨a8,mg⟩:=yH h
     exact⟨true::a8,by rw [uI ad];exact mg⟩
theorem Tb {hp:aG Cell} :∀ {n:Nat} {r:Ref} {id:Int} {a8:List Bool},a8.length<n→cont hp r a8=some id→id∈lF hp n r
 | 0,_,_,_,ak,_=>by omega
 | n+1,none,id,a8,_,h=>by rw [mu hr] at h;cases h
 | n+1,some p,id,a8,ak,h=>by
   cases ad:cK hp p with
   | none=>
     exfalso
     cases a8 with
     | nil=>
       unfold cont at h
       have:cV hp (some p) []=some p:=rfl
       rw [this] at h
       simp only [ad] at h;cases h
     | cons b a8=>
       have:cV hp (some p) (b::a8)=none:=by
        show(match cK hp p with | none=>none | some c=>cV hp (b5 c.dA (fK b)) a8)=none;rw [ad]
       rw [mu this] at h;cases h
   | some c=>
     rw [I0 ad]
     cases a8 with
     | nil=>
       rw [lM (p:=p) rfl ad] at h
       cases hu:c.ga with
       | true=>
         rw [hu] at h
         have:c.kA=id:=by simpa using h
         rw [this];simp
       | false=>rw [hu] at h;cases h
     | cons b a8=>
       rw [uI ad] at h
       have lz:a8.length<n:=by simp at ak;omega
       have:=Tb lz h
       cases b
       ·exact List.mem_append_right _ (List.mem_append_left _ this)
       exact List.mem_append_right _ (List.mem_append_right _ this)
theorem Sr {hp:aG Cell} :∀ {n:Nat} {r:Ref},(∀ a8 cs id,cont hp r a8=some id→cont hp r cs=some id→a8=cs)→ (lF hp n r).Nodup
 | 0,_,_=>List.nodup_nil
 | _+1,none,_=>List.nodup_nil
 | n+1,some p,h=>by
   cases ad:cK hp p with
   | none=>
     have:lF hp (n+1) (some p)= []:=by
      show(match cK hp p with | none=>[] | some c=>_)=_;rw [ad]
     rw [this];exact List.nodup_nil
   | some c=>
     rw [I0 ad]
     have hb:∀ b,(lF hp n (b5 c.dA (fK b))).Nodup:=fun b=>Sr fun a8 cs id h1 ab=>by
      have:=h (b::a8) (b::cs) id (by rw [uI ad];exact h1) (by rw [uI ad];exact ab);simpa using this
     rw [List.nodup_append,List.nodup_append]
     refine⟨by cases c.ga <;> simp,⟨hb false,hb true,fun a aW fP ot e=>?_⟩,fun a aW fP ot e=>?_⟩
     ·subst e
      obtain⟨a8,h1⟩:=yH aW
      obtain⟨cs,ab⟩:=yH ot
      have:=h (false::a8) (true::cs) a (by rw [uI ad];exact h1) (by rw [uI ad];exact ab)
      simp at this
     subst e
     cases hu:c.ga with
     | false=>rw [hu] at aW;cases aW
     | true=>
       rw [hu] at aW
       have aW:a=c.kA:=List.mem_singleton.1 aW
       have bq:cont hp (some p) []=some a:=by rw [lM (p:=p) rfl ad,hu,aW];rfl
       rcases List.mem_append.1 ot with h1 | h1
       ·obtain⟨a8,h1⟩:=yH h1
        have:=h [] (false::a8) a bq (by rw [uI ad];exact h1)
        cases this
       obtain⟨a8,h1⟩:=yH h1
       have:=h [] (true::a8) a bq (by rw [uI ad];exact h1)
       cases this
theorem Tc:∀ {l m:List Int},l.Nodup→ (∀ x∈l,x∈m)→l.length≤m.length
 | [],m,_,_=>Nat.zero_le _
 | x::l,m,aH,h=>by
   obtain⟨h1,ab⟩:=List.nodup_cons.1 aH;have al:=h x (by simp);have:=Tc (m:=m.erase x) ab fun y aR=>(List.mem_erase_of_ne fun e=>h1 (by rw [← e];exact aR)).2 (h y (by simp [aR]));rw [List.length_erase_of_mem al] at this;have hp:=List.length_pos_of_mem al;simp only [List.length_cons];omega
theorem ac3 (v:aX)(n:Int):bd (Ek v n) (fun _=>True):=by
 unfold Ek;exact .cond (fun _=>.ret trivial) fun _=>.cond (fun _=>.eq rfl (.ret trivial)) fun _=>.eq rfl (.eq rfl (.ret trivial))
theorem Mt {hp:aG Cell}{t:Nat}{c:hl}(ad:gm hp t=some c):∀ (d f:Nat) (r:Ref) (aV:aX) (c8:Int) (jH:List e2),d<f→ (∀ a8 p,cV hp r a8=some p→a8.length<d)→ (∀ a8 p,cV hp r a8=some p→ ∃ c,cK hp p=some c)→jH.length+(lF hp d r).length≤20000→
 bd (xZ f hp (some t) r aV c8 jH) (fun o=>o.length=jH.length+(lF hp d r).length)
 | d,0,r,aV,c8,jH,aT,_,_,_=>by omega
 | 0,f+1,none,aV,c8,jH,aT,hd,aA,ak=>⟨jH,rfl,rfl⟩
 | 0,f+1,some p,aV,c8,jH,aT,hd,aA,ak=>by have:=hd [] p rfl;simp at this
 | d+1,f+1,none,aV,c8,jH,aT,hd,aA,ak=>⟨jH,rfl,rfl⟩
 | d+1,f+1,some p,aV,c8,jH,aT,hd,aA,ak=>by
   obtain⟨e,he⟩:=aA [] p rfl;rw [I0 he] at ak ⊢;simp only [List.length_append] at ak ⊢;have ou:∀ b,(∀ a8 q,cV hp (b5 e.dA (fK b)) a8=some q→a8.length<d)∧ ∀ a8 q,cV hp (b5 e.dA (fK b)) a8=some q→ ∃ c,cK hp q=some c:=fun b=>⟨fun a8 q hq=>by
    have:=hd (b::a8) q (by rw [iG he];exact hq);simp at this;omega,fun a8 q hq=>aA (b::a8) q (by rw [iG he];exact hq)⟩
   show bd (cond (some p:Ref).isNone (some jH) _) _;refine .cond (fun ad=>by cases ad) fun _=>?_;refine .bind (P:=fun y=>y.length=jH.length+(bif e.ga then [e.kA] else []).length) ?_ fun an bx=>?_
   ·unfold Hn;refine .eq rfl (.eq he ?_);cases hu:e.ga with
    | true=>
      rw [hu] at ak
      simp only [cond_true,List.length_singleton] at ak
      refine .eq (a:=jH++[{ ck:=aV,yE:=c8,bU:=e.kA }]) ?_ (.ret (by simp))
      show(eA 32 jH _).bind _=_
      rw [fM _ _ (by simp;omega) (by omega)];rfl
    | false=>exact .eq rfl (.ret (by simp))
   refine .eq rfl (.eq he (.bind (Mt ad d f _ aV (bk (c8+1)) an (by omega) (ou false).1 (ou false).2 (by rw [bx];show _+_+(lF hp d (b5 e.dA 0)).length≤_;omega)) fun aD cc=>?_));have cc:aD.length=an.length+(lF hp d (b5 e.dA 0)).length:=cc;refine .eq rfl (.eq rfl (.eq ad (.bind (ac3 _ _) fun bu _=>.eq rfl (.bind (Mt ad d f _ _ (bk (c8+1)) aD (by omega) (ou true).1 (ou true).2 (by rw [cc,bx];show _+_+_+(lF hp d (b5 e.dA 1)).length≤_;omega)) fun b9 hS=>.ret ?_))));have hS:b9.length=aD.length+(lF hp d (b5 e.dA 1)).length:=hS;rw [hS,cc,bx];omega
theorem agn {hp:aG Cell}{t:Nat}{g:List Bool→Option Int}(h:ky hp t g)(ao:∀ a8 cs id,g a8=some id→g cs=some id→a8=cs)(m:List Int)(hm:∀ a8 id,g a8=some id→id∈m)(ak:m.length≤20000):bd (A0 hp (some t)) (fun r=>r=0→ ∀ a8,g a8=none):=by
 obtain⟨c,ad,hb,bw,bA⟩:=h.ok;have aH:(lF hp 33 c.eX).Nodup:=Sr fun a8 cs id h1 ab=>ao a8 cs id (by rw [← bA];exact h1) (by rw [← bA];exact ab);have hle:(lF hp 33 c.eX).length≤m.length:=Tc aH fun x al=>by
  obtain⟨a8,mg⟩:=yH al;exact hm a8 x (by rw [← bA];exact mg)
 unfold A0 HJ Hc;refine .bind (P:=fun y=>y.length=(lF hp 33 c.eX).length) (.bind (P:=fun y=>y.length=(lF hp 33 c.eX).length) (.bind (P:=fun y=>y.length=(lF hp 33 c.eX).length) (.cond (fun _=>.eq rfl (.eq ad ((show bd (KK hp (some t) c.eX default 0 []) _ from Mt ad 33 dt c.eX default 0 [] (by unfold dt;omega) (fun a8 p hp=>by have:=bw.dep a8 p hp;omega) bw.reads (by simp;omega)).bind fun y aR=>.ret (by simpa using aR)))) fun ad=>by cases ad) fun y aR=>.ret aR) fun y aR=>.ret aR) fun y aR=>.ret fun bq a8=>?_;have bq:(lF hp 33 c.eX).length=0:=by rw [← aR];have:(y.length:Int)=0:=bq;omega
 cases anb:g a8 with
 | none=>rfl
 | some id=>
   have PQ:cont hp c.eX a8=some id:=by rw [bA];exact anb
   have hlen:a8.length<33:=by
    cases aT:cV hp c.eX a8 with
    | none=>rw [mu aT] at PQ;cases PQ
    | some p=>have:=bw.dep a8 p aT;omega
   have:=Tb hlen PQ
   rw [List.eq_nil_of_length_eq_zero bq] at this;cases this
theorem adW (x:eD)(n:Int)(ak:x.dd.length≤1000):bd (Hi x n) (fun r=>(r= -1∧jE x.dd n=false)∨ ∃ i:Nat,i<x.dd.length∧r=i∧ (au x.dd i).b0=n∧jE x.dd n=true∧ ∀ j,j<i→ (au x.dd j).b0≠n):=V9 x n ak
theorem afh {l:List aC}{n:Int}{i:Nat}(aH:l.Pairwise fun a c=>a.b0≠c.b0)(ao:i<l.length)(h:(au l i).b0=n):
 l.take i++l.drop (i+1)=l.filter (fun c=>c.b0 !=n):=by
 rw [dm _ ao] at h
 have vT:l=l.take i++l[i]::l.drop (i+1):=by rw [List.getElem_cons_drop,List.take_append_drop]
 rw [vT,List.pairwise_append] at aH
 obtain⟨h1,ab,ax⟩:=aH
 obtain⟨aO,a7⟩:=List.pairwise_cons.1 ab
 conv=>rhs;rw [vT]
 rw [List.filter_append,List.filter_cons_of_neg (by simp [h])]
 congr 1
 ·exact(List.filter_eq_self.2 fun c ad=>by have:=ax c ad l[i] List.mem_cons_self;rw [h] at this;simpa using this).symm
 exact(List.filter_eq_self.2 fun c ad=>by have:=aO c ad;rw [h] at this;simp;exact fun e=>this e.symm).symm
theorem mf.filter {s:aZ}{k:Nat}{l:List aC}(h:mf s k l)(q:aC→Bool):mf s k (l.filter q) where
 ok i ao:=h.ok i (List.mem_filter.1 ao).1
 num:=h.num.sublist List.filter_sublist
 len:=Nat.le_trans (List.length_filter_le _ _) h.len
theorem ac4 {s:aZ}{k:Nat}{l:List aC}(ak:mf s k l)(n:Int):
 C4 (vg s k l) n=some (jE l n,vg s k (l.filter fun c=>c.b0 !=n)):=by
 refine bd.get ?_
 unfold C4
 obtain⟨kq,gH⟩:=ak.iE
 refine(adW (vg s k l) n (by show(iE _ l).length≤1000;omega)).bind fun an h1=>?_
 rcases h1 with⟨rfl,ab⟩ | ⟨j,ab,rfl,ax,aO,a7⟩
 ·have mb:jE l n=false:=by rw [← ab];exact IA.symm
  refine .cond (fun _=>.ret ?_) fun ad=>by simp at ad
  rw [mb,List.filter_eq_self.2 fun c ad=>by simpa using TV mb c ad]
 have CG:jE l n=true:=by rw [← aO];exact IA.symm
 refine .cond (fun ad=>by simp at ad;omega) fun _=>?_
 have aB:j<(iE (jx s k) l).length:=ab
 refine .eq (a:=iE (jx s k) (l.filter fun c=>c.b0 !=n)) ?_ (.ret ?_)
 ·show FA (iE (jx s k) l) _ _=_
  unfold FA
  rw [dR (by omega),if_pos ⟨by omega,by omega,by omega⟩]
  have Px:(iE (jx s k) l).Pairwise fun a c=>a.b0≠c.b0:=((Mo l).symm.pairwise_iff fun bQ=>fun e=>bQ e.symm).1 ak.num
  rw [← acU (IY s k) ak.PH,← afh Px aB ax]
  simp
 rw [CG];rfl
def cU (l:List aC)(e:bh):List aC:=l.filter fun c=> !fc c.aY e
theorem mM {l:List aC}{e:bh}{c:aC} :c∈cU l e↔c∈l∧fc c.aY e=false:=by
 unfold cU;rw [List.mem_filter];simp
theorem h5.cU {s:aZ}{k:Nat}{l:List aC}(h:h5 s k l)(e:bh):h5 s k (Go.Proofs.YtppgfphgdogpeaaGreat.cU l e):=
 ⟨h.ok.filter _,h.key.sublist List.filter_sublist⟩
theorem Il {s:aZ}{k:Nat}{l:List aC}(h:h5 s k l){e:bh}{i:aC}(ao:i∈l)(hk:fc i.aY e=true):cU l e=l.filter fun c=>c.b0 !=i.b0:=by
 unfold cU;refine List.filter_congr fun c ad=>?_;by_cases ar:c=i
 ·rw [ar,hk];simp
 have h1:fc c.aY e=false:=by
  rw [Bool.eq_false_iff];intro ab;exact ar (h.uniq ad ao (rD ab (by rw [rF];exact hk)))
 have ab:c.b0≠i.b0:=fun ab=>ar (h.ok.uniq ad ao ab);rw [h1];simp [ab]
theorem alF {s:aZ}(h:cr s){hp:aG Cell}{q:Nat}{l:List aC}{own:Nat→Prop}(hq:BK s hp q l own)(ak:h5 s 0 l){i:aC}(ao:i∈l):
 bd (Dm hp ⟨some q⟩ i) (fun hp'=>BK s hp' q (cU l i.aY) own∧eT hp hp' own):=by
 obtain⟨m,em,h1,ab,ax,aO,a7,jT⟩:=hq.ok
 have hF:=(ak.ok.ok i ao).dF
 have bA:dD em (e8 i.aY)=some i.b0:=(a7 _ _).2 ⟨i,ao,rfl,rfl⟩
 unfold Dm Hy AQ
 refine .eq (IB (hF.JN h (by decide)).1) ?_
 refine .eq (a:=(true,ct hp m (Cell.qe (iL em (e8 i.aY))))) ?_ (.ret ?_)
 ·show((ny hp q).bind _).bind _=_
  rw [h1]
  show((mQ hp m).bind _).bind _=_
  rw [ab]
  show cond (!(dD em (e8 i.aY)).isSome) _ _=_
  rw [bA]
  show(ny hp q).bind _=_
  rw [h1]
  show(mQ hp m).bind _=_
  rw [ab];rfl
 have zU:q≠m:=fun e=>by
  subst e;have:=E3 h1;rw [tC ab] at this;cases this
 refine⟨⟨m,_,by rw [Lk (mq zU.symm)];exact h1,S7 (tC ab),ax,aO,fun c7 n=>?_,jT.del⟩,.up aO⟩
 rw [Bn jT]
 by_cases hI:c7=e8 i.aY
 ·rw [if_pos hI]
  refine⟨fun e=>(by cases e),fun⟨c,ad,bl,cN⟩=>?_⟩
  obtain⟨g1,g2⟩:=mM.1 ad
  rw [(GA h (ak.ok.ok c g1).dF hF).2 (bl.trans hI)] at g2;cases g2
 rw [if_neg hI,a7]
 constructor
 ·rintro ⟨c,ad,bl,cN⟩
  refine⟨c,mM.2 ⟨ad,?_⟩,bl,cN⟩
  rw [Bool.eq_false_iff];intro cW
  exact hI (by rw [← bl];exact(GA h (ak.ok.ok c ad).dF hF).1 cW)
 rintro ⟨c,ad,bl⟩
 exact⟨c,(mM.1 ad).1,bl⟩
theorem alG {s:aZ}(h:cr s){hp:aG Cell}{m:Nat}{l:List aC}{own:Nat→Prop}(hq:oI s hp m l own)(ak:h5 s 1 l){i:aC}(ao:i∈l):
 bd (De hp ⟨0,32,⟨some m⟩⟩ i) (fun hp'=>oI s hp' m (cU l i.aY) own∧eT hp hp' own):=by
 obtain⟨em,nJ,ab,ax,aO,a7,jT⟩:=hq.ok
 have hF:=(ak.ok.ok i ao).dF
 have ih:=FJ h hF
 have bw:∃ t,dD em (im (e8 i.aY))=some (some t):=by
  cases bA:dD em (im (e8 i.aY)) with
  | none=>exact absurd rfl (aO _ bA i ao)
  | some r=>obtain⟨t,g,rfl,_⟩:=ax _ _ bA;exact⟨t,rfl⟩
 obtain⟨t,bw⟩:=bw
 obtain⟨fL,g,e,g1,g2,g3⟩:=ax _ _ bw
 cases e
 obtain⟨n,aH⟩:=Int.eq_ofNat_of_zero_le ih.pre.1
 have FK:n≤32:=by have:=ih.pre.2;omega
 have w9:=LU ih
 have hp':eJ (au i.aY.cw 0).ck n=k4 i.aY:=by unfold k4;rw [aH];rfl
 have anc:g (k4 i.aY)=some i.b0:=(g3 _ _).2 ⟨i,ao,rfl,rfl,rfl⟩
 have YA:∀ c∈l,im (e8 c.aY)=im (e8 i.aY)→ (fc c.aY i.aY=false↔k4 c.aY≠k4 i.aY):=fun c ad al=>by
  rw [Bool.eq_false_iff,ne_eq,CH h (ak.ok.ok c ad).dF hF];exact⟨fun h1 ab=>h1 ⟨al,ab⟩,fun h1 ab=>h1 ab.2⟩
 have lA:∀ c∈l,im (e8 c.aY)≠im (e8 i.aY)→fc c.aY i.aY=false:=fun c ad al=>by
  rw [Bool.eq_false_iff,ne_eq,CH h (ak.ok.ok c ad).dF hF];exact fun h1=>al h1.1
 unfold De
 refine .eq (Mq h hF _) (.eq rfl (.eq nJ (.eq rfl ?_)))
 simp only [bw]
 rw [aH] at w9 ⊢
 refine(show bd (AP hp (some t) (au i.aY.cw 0).ck (n:Int)) _ from ac2 g1 FK w9 (by rw [hp'];exact anc)).bind fun aD aA=>?_
 obtain⟨_,kq,gH,qA⟩:=aA
 rw [hp'] at kq
 obtain⟨asq,cE⟩:=aD
 simp only at kq gH qA ⊢
 have PK:∀ q,Own hp t q→q≠m:=fun q PL e=>by
  have:=oG nJ;rw [← e] at this;rcases g1.IZ PL with⟨c,ad⟩ | ⟨c,ad⟩ <;> rw [ad] at this <;> cases this
 have mF:pat cE m=pat hp m:=gH.rest m (jM (oG nJ)) fun hq=>PK m hq rfl
 have OG:lp cE m=some em:=by rw [HY mF];exact nJ
 have FL:∀ a8 qE,(if a8=k4 i.aY then none else g a8)=some qE↔ ∃ c∈cU l i.aY,im (e8 c.aY)=im (e8 i.aY)∧k4 c.aY=a8∧c.b0=qE:=fun a8 qE=>by
  by_cases mg:a8=k4 i.aY
  ·rw [if_pos mg];refine⟨fun e=>(by cases e),fun⟨c,ad,bl,cN,_⟩=>?_⟩;obtain⟨bT,a2⟩:=mM.1 ad;exact absurd (cN.trans mg) ((YA c bT bl).1 a2)
  rw [if_neg mg,g3];constructor
  ·rintro ⟨c,ad,bl,cN,cW⟩;exact⟨c,mM.2 ⟨ad,(YA c ad bl).2 fun e=>mg (cN.symm.trans e)⟩,bl,cN,cW⟩
  rintro ⟨c,ad,bl⟩;exact⟨c,(mM.1 ad).1,bl⟩
 have tL:∀ c7 fL,c7≠im (e8 i.aY)→dD em c7=some (some fL)→ ∃ dT,ky hp fL dT∧ky cE fL dT∧ (∀ q,Own hp fL q→own q)∧ (∀ q,Own cE fL q↔Own hp fL q)∧ ∀ a8 n,dT a8=some n↔ ∃ c∈cU l i.aY,im (e8 c.aY)=c7∧k4 c.aY=a8∧c.b0=n:=fun c7 fL de aA=>by
  obtain⟨am7,dT,e,bT,a2,a3⟩:=ax c7 _ aA;cases e;obtain⟨dJ,ew⟩:=bT.congr (hp':=cE) fun q hq=>gH.rest q (bT.yY hq) fun pN=>a7 _ _ _ _ bw aA de.symm q pN hq;refine⟨dT,bT,dJ,a2,ew,fun a8 n=>?_⟩;rw [a3];constructor
  ·rintro ⟨c,ad,bl,cN⟩;exact⟨c,mM.2 ⟨ad,lA c ad (by rw [bl];exact de)⟩,bl,cN⟩
  rintro ⟨c,ad,bl⟩;exact⟨c,(mM.1 ad).1,bl⟩
 have dh:eT hp cE own:=⟨gH.keys,fun q hq fx=>gH.rest q hq fun pN=>fx (g2 q pN)⟩
 have b3:oI s cE m (cU l i.aY) own:=by
  refine⟨em,OG,ab,fun c7 k7 jV=>?_,fun c7 hI c ad=>aO c7 hI c (mM.1 ad).1,fun c7 k5 t1 t2 kE lE de q iZ qn=>?_,jT⟩
  ·by_cases hI:c7=im (e8 i.aY)
   ·subst hI;rw [bw] at jV;cases jV;exact⟨t,_,rfl,kq,fun q hq=>g2 q (qA q hq),FL⟩
   obtain⟨fL,dT,e,_⟩:=ax c7 k7 jV;subst e;obtain⟨zV,bT,a2,a3,a4,a5⟩:=tL c7 fL hI jV;exact⟨fL,zV,rfl,a2,fun q hq=>a3 q ((a4 q).1 hq),a5⟩
  have fT:∀ c7 t1,dD em c7=some (some t1)→ ∀ q,Own cE t1 q→Own hp t1 q:=fun c7 t1 kE q iZ=>by
   by_cases ar:c7=im (e8 i.aY)
   ·subst ar;rw [bw] at kE;cases kE;exact qA q iZ
   obtain⟨_,_,_,_,a4,_⟩:=tL c7 t1 ar kE;exact(a4 q).1 iZ
  exact a7 _ _ _ _ kE lE de q (fT c7 t1 kE q iZ) (fT k5 t2 lE q qn)
 refine .eq OG (.eq rfl ?_)
 simp only [bw]
 refine(show bd (A0 cE (some t)) _ from agn kq (fun a8 cs id h1 ab=>?_) (l.map (·.b0)) (fun a8 id h1=>?_) (by rw [List.length_map];have:=ak.ok.len;omega)).bind fun bf bl=>?_
 ·obtain⟨c,ad,_,dJ,ew⟩:=(FL _ _).1 h1
  obtain⟨d,hd,_,d1,d2⟩:=(FL _ _).1 ab
  have:=ak.ok.uniq (mM.1 ad).1 (mM.1 hd).1 (ew.trans d2.symm)
  rw [← dJ,← d1,this]
 ·obtain⟨c,ad,_,dJ,ew⟩:=(FL _ _).1 h1
  exact List.mem_map.2 ⟨c,(mM.1 ad).1,ew⟩
 refine .bind (P:=fun hp'=>oI s hp' m (cU l i.aY) own∧eT hp hp' own) (.cond (fun bF=>.eq rfl (.ret ?_)) fun _=>.ret ⟨b3,dh⟩) fun m1 b4=>.ret b4
 have bl:=bl (by simpa using bF)
 have Cl:=oG OG
 have OH:∀ fL dT,ky cE fL dT→ky (ct cE m (Cell.nB (iL em (im (e8 i.aY))))) fL dT∧ ∀ q,Own (ct cE m (Cell.nB (iL em (im (e8 i.aY))))) fL q↔Own cE fL q:=fun fL dT zT=>zT.congr fun q se=>mq fun e=>by
  rw [e] at Cl;rcases zT.IZ se with⟨c,ad⟩ | ⟨c,ad⟩ <;> rw [ad] at Cl <;> cases Cl
 refine⟨⟨_,S8 Cl,ab,fun c7 k7 jV=>?_,fun c7 hI c ad=>?_,fun c7 k5 t1 t2 kE lE de q iZ qn=>?_,jT.del⟩,dh.trans (eT.up ab) fun q _ hq=>hq⟩
 ·rw [Bn jT] at jV
  split at jV
  ·cases jV
  rename_i hI
  obtain⟨fL,dT,e,_⟩:=ax c7 k7 jV
  subst e
  obtain⟨zV,bT,a2,a3,a4,a5⟩:=tL c7 fL hI jV
  obtain⟨dJ,ew⟩:=OH fL zV a2
  exact⟨fL,zV,rfl,dJ,fun q hq=>a3 q ((a4 q).1 ((ew q).1 hq)),a5⟩
 ·rw [Bn jT] at hI
  split at hI
  ·rename_i e
   intro al
   have:=(FL _ _).2 ⟨c,ad,al.trans e,rfl,rfl⟩
   rw [bl] at this;cases this
  exact aO c7 hI c (mM.1 ad).1
 rw [Bn jT] at kE lE
 split at kE
 ·cases kE
 split at lE
 ·cases lE
 rename_i ar aU
 obtain⟨am2,bT,a2,a3,a4,_⟩:=tL c7 t1 ar kE
 obtain⟨am3,dJ,ew,jc,KA,_⟩:=tL k5 t2 aU lE
 exact a7 _ _ _ _ kE lE de q ((a4 q).1 (((OH t1 _ a2).2 q).1 iZ)) ((KA q).1 (((OH t2 _ ew).2 q).1 qn))
theorem srem {s:aZ}{k:Nat}{hp:aG Cell}{q:Nat}{l:List aC}{own:Nat→Prop}(hq:BL s k hp q l own)(ak:h5 s k l){i:aC}(ao:i∈l):
 cy (Dn hp ⟨some q⟩ i) (fun hp'=>BL s k hp' q (cU l i.aY) own∧eT hp hp' own):=by
 obtain⟨key,cap,h1,ab⟩:=hq.ok
 unfold Dn
 refine .eq rfl (.eq h1 (.eq (ac4 ak.ok _) (.any fun av=>.eq rfl (.ret ?_))))
 rw [Il ak ao (nY _)]
 exact⟨⟨av.1,av.2,S9 (yP h1),ab⟩,.up ab⟩
theorem alH {s:aZ}(h:cr s){k:Nat}{hp:aG Cell}{f:iq}{l:List aC}{own:Nat→Prop}(hq:sN s k hp f l own)(ak:h5 s k l){i:aC}(ao:i∈l):
 cy (KP hp f i) (fun hp'=>sN s k hp' f (cU l i.aY) own∧eT hp hp' own):=by
 rcases hq with⟨rfl,q,rfl,hq⟩ | ⟨rfl,m,rfl,hq⟩ | ⟨dh,q,rfl,hq⟩
 ·exact cy.of ((alF h hq ak ao).mono fun hp' aA=>⟨.inl ⟨rfl,q,rfl,aA.1⟩,aA.2⟩)
 ·exact cy.of ((alG h hq ak ao).mono fun hp' aA=>⟨.inr (.inl ⟨rfl,m,rfl,aA.1⟩),aA.2⟩)
 exact(srem hq ak ao).mono fun hp' aA=>⟨.inr (.inr ⟨dh,q,rfl,aA.1⟩),aA.2⟩
theorem RI {α β:Type}[DecidableEq α]:∀ {l:List (α×β)} {x:α},oA l→iL l x=l.filter fun a=>decide (a.1≠x)
 | [],_,_=>rfl
 | (k,w)::r,x,h=>by
   obtain⟨h1,ab⟩:=List.pairwise_cons.1 h;unfold iL;by_cases e:x=k
   ·rw [if_pos e,List.filter_cons_of_neg (by simp [e])];exact(List.filter_eq_self.2 fun a aW=>by simpa using fun e'=>h1 a aW (by rw [← e,e'])).symm
   rw [if_neg e,List.filter_cons_of_pos (by simpa using fun e'=>e e'.symm),RI ab]
theorem vv.h3 {s:aZ}{k:Nat}{em:List (Int×aC)}{l:List aC}(h:vv em l)(ak:mf s k l):oA em:=by
 refine(h.pairwise_iff fun bQ=>Ne.symm bQ).2 ?_;rw [List.pairwise_map];exact ak.num.imp fun bQ=>bQ
theorem ac5 {s:aZ}(h:cr s){k:Nat}(hk:k<4){hp:aG Cell}{p:Nat}{l:List aC}{own:Nat→Prop}(al:lu s k hp p l own){e:bh}(he:gb s k e):
 cy (DE hp (some p) e) (fun r=>(r.1,r.2.1)=vW (df l e)∧lu s k r.2.2 p (cU l e) own∧eT hp r.2.2 own):=by
 obtain⟨f,m,em,h1,ab,ax,aO,a7,bl⟩:=al.cell
 have hm:=sx ab
 have hp':=yM h1
 have mF:p≠m:=fun e=>by rw [e,hm] at hp';cases hp'
 unfold DE
 refine .eq (Mr h hk al he) ?_
 refine .bind (P:=fun m1=>lu s k m1 p (cU l e) own∧eT hp m1 own) (.cond (fun ad=>?_) fun ad=>.ret ?_) fun m1 b4=>.ret ⟨rfl,b4⟩
 ·cases aT:df l e with
  | none=>rw [aT] at ad;cases ad
  | some i=>
    obtain⟨ao,oX⟩:=nX aT
    have ane:cU l i.aY=cU l e:=by
     rw [Il al.fY ao (nY _),Il al.fY ao oX]
    refine .eq rfl (.eq h1 (.bind (alH h bl al.fY ao) fun cE aA=>?_))
    obtain⟨kq,gH⟩:=aA
    have kq:sN s k cE f (cU l i.aY) (fun q=>own q∧q≠m∧q≠p):=kq
    rw [ane] at kq
    show cy (ag.bind (ag.of (iV cE p)) fun c2=>ag.bind (ag.of c2.oB.p) fun cu=>ag.bind (ag.of (l5 cE cu)) fun cY=>ag.bind (ag.of (some (ct cE cu (Cell.lP (iL cY i.b0))))) fun bH=>ag.ret bH) _
    have bT:pat cE p=some (.ps ⟨qG k,(KB s k:Int),f,⟨some m⟩⟩):=by rw [gH.rest p (jM hp') (fun hq=>hq.2.2 rfl)];exact hp'
    have a2:pat cE m=some (.lP em):=by rw [gH.rest m (jM hm) (fun hq=>hq.2.1 rfl)];exact hm
    refine .eq (by unfold iV;rw [bT]) (.eq rfl (.eq (by unfold l5;rw [a2]) (.eq rfl (.ret ?_))))
    have anf:eT hp cE own:=⟨gH.keys,fun q hq fx=>gH.rest q hq fun h=>fx h.1⟩
    have uq:eT hp (ct cE m (Cell.lP (iL em i.b0))) own:=anf.trans (eT.up (own:=own) aO) fun q _ hq=>hq
    refine⟨⟨al.fY.cU e,⟨f,m,_,by unfold iV;rw [mq mF.symm,bT],adV a2,ax,aO,?_,kq.congr (fun q _ hq=>hq) fun q hq=>mq hq.2.1.symm⟩,fun q hq=>uq.keys q (al.ov q hq)⟩,uq⟩
    unfold vv
    rw [RI (a7.h3 al.fY.ok),Il al.fY ao oX]
    refine(a7.filter _).trans ?_
    rw [List.filter_map]
    have:((fun a:Int×aC=>decide (a.1≠i.b0)) ∘ fun c:aC=>(c.b0,c))=fun c=>c.b0 !=i.b0:=by
     funext c;show decide (c.b0≠i.b0)=_;by_cases e:c.b0=i.b0 <;> simp [e]
    rw [this]
 have aT:df l e=none:=by
  cases aT:df l e with
  | none=>rfl
  | some i=>rw [aT] at ad;cases ad
 have:cU l e=l:=by
  unfold cU;exact List.filter_eq_self.2 fun c ad=>by rw [su aT c ad];rfl
 rw [this]
 exact⟨al,.refl⟩
theorem Es {hp hp':aG Cell}{p:Nat}(h:pat hp' p=pat hp p):jk hp' p=jk hp p:=by unfold jk;rw [h]
theorem Et {hp hp':aG Cell}{p:Nat}(h:pat hp' p=pat hp p):l4 hp' p=l4 hp p:=by unfold l4;rw [h]
theorem adX {hp:aG Cell}{p:Nat}{k:Cell}{x:kr}(h:pat hp p=some k):jk (ct hp p (.qh x)) p=some x:=by unfold jk;rw [rI h]
theorem adY {hp:aG Cell}{p:Nat}{k:Cell}{x:List (Int×Ref)}(h:pat hp p=some k):l4 (ct hp p (.rX x)) p=some x:=by unfold l4;rw [rI h]
structure rK (s:aZ)(hp:aG Cell)(p m:Nat)(eV:List (Int×Ref))(n:Nat)(ls:Nat→List aC)(own:Nat→Nat→Prop):Prop where
 has:∀ k,k<n→ ∃ q,dD eV ((k:Int)+1)=some (some q)∧lu s k hp q (ls k) (own k)
 no:∀ x:Int,x<1∨ (n:Int)<x→dD eV x=none
 GC:∀ k k',k<n→k'<n→k≠k'→ ∀ q,own k q→ ¬ own k' q
 out:∀ k,k<n→ ¬ own k p∧ ¬ own k m
theorem rK.congr {s:aZ}{hp hp':aG Cell}{p m:Nat}{eV:List (Int×Ref)}{n:Nat}{ls:Nat→List aC}{own:Nat→Nat→Prop}(h:rK s hp p m eV n ls own)(hk:∀ q,q∈dI hp→q∈dI hp')(aW:∀ k,k<n→ ∀ q,own k q→pat hp' q=pat hp q):rK s hp' p m eV n ls own:=
 ⟨fun k jT=>by obtain⟨q,h1,ab⟩:=h.has k jT;exact⟨q,h1,ab.congr hk (aW k jT)⟩,h.no,h.GC,h.out⟩
structure q1 (s:aZ)(hp:aG Cell)(p:Nat)(ls:Nat→List aC)(next:Int):Prop where
 cell:∃ m eV own,jk hp p=some ⟨s,⟨some m⟩,next⟩∧l4 hp m=some eV∧rK s hp p m eV 4 ls own
def eO (ls:Nat→List aC)(k:Nat)(l:List aC):Nat→List aC:=fun j=>if j=k then l else ls j
theorem LW {s:aZ}{hp:aG Cell}{p:Nat}{ls:Nat→List aC}{next:Int}(h:q1 s hp p ls next){k:Nat}(hk:k<4):∃ q own,qI hp (some p) ((k:Int)+1)=some (some q)∧lu s k hp q (ls k) own:=by
 obtain⟨m,eV,own,h1,ab,ax⟩:=h.cell;obtain⟨q,aO,a7⟩:=ax.has k hk;refine⟨q,own k,?_,a7⟩;refine bd.get ?_;unfold qI;refine .cond (fun ad=>by cases ad) fun _=>.eq rfl (.eq h1 (.eq rfl (.eq ab (.eq rfl (.ret ?_)))));rw [aO];rfl
theorem Im {s:aZ}{hp:aG Cell}{p:Nat}{ls:Nat→List aC}{next:Int}(h:q1 s hp p ls next){x:Int}(al:x<1∨4<x):qI hp (some p) x=some none:=by
 obtain⟨m,eV,own,h1,ab,ax⟩:=h.cell;refine bd.get ?_;unfold qI;refine .cond (fun ad=>by cases ad) fun _=>.eq rfl (.eq h1 (.eq rfl (.eq ab (.eq rfl (.ret ?_)))));rw [ax.no x (by omega)];rfl
theorem T0 {s:aZ}(hs:cr s){hp:aG Cell}{p:Nat}{ls:Nat→List aC}{next:Int}(h:q1 s hp p ls next){k:Nat}(hk:k<4){e:bh}(he:gb s k e):yf hp (some p) e=some (vW (df (ls k) e)):=by
 obtain⟨q,own,h1,ab⟩:=LW h hk;refine bd.get ?_;unfold yf;rw [he.gi];exact .eq h1 (.eq (Mr hs hk ab he) (.ret rfl))
theorem afi {s:aZ}(hs:cr s){hp:aG Cell}{p:Nat}{ls:Nat→List aC}{next:Int}(h:q1 s hp p ls next){k:Nat}(hk:k<4):DW hp (some p) ((k:Int)+1)=some (au s.bS k).hv:=by
 obtain⟨m,eV,own,h1,ab,ax⟩:=h.cell;refine bd.get ?_;unfold DW;refine .eq rfl (.eq h1 ((Lj hs hk).bind fun an ar=>?_));subst ar;exact .idx rfl (by rw [hs.lR];exact hk) (.ret rfl)
theorem afj {s:aZ}{hp:aG Cell}{p:Nat}{ls:Nat→List aC}{next:Int}(h:q1 s hp p ls next):DV hp (some p)=some next:=by
 obtain⟨m,eV,own,h1,ab,ax⟩:=h.cell;refine bd.get ?_;unfold DV;exact .cond (fun ad=>by cases ad) fun _=>.eq rfl (.eq h1 (.ret rfl))
theorem T1 (o:Option aC):(vW o).2=o.isSome:=by cases o <;> rfl
theorem rK.change {s:aZ}{hp hp':aG Cell}{p:Nat}{ls:Nat→List aC}{next:Int}{m:Nat}{eV:List (Int×Ref)}{own:Nat→Nat→Prop}(h1:jk hp p=some ⟨s,⟨some m⟩,next⟩)(ab:l4 hp m=some eV)(ax:rK s hp p m eV 4 ls own){k:Nat}(hk:k<4){q:Nat}(hq:dD eV ((k:Int)+1)=some (some q)){l:List aC}{own':Nat→Prop}
 (al:lu s k hp' q l own') (bg:∀ x,own' x→own k x∨x ∉ dI hp) (qs:eT hp hp' (own k)):jk hp' p=some ⟨s,⟨some m⟩,next⟩∧l4 hp' m=some eV∧rK s hp' p m eV 4 (eO ls k l) (fun j=>if j=k then own' else own j):=by
 have lD:=jM (sy h1)
 have ih:=jM (wO ab)
 have bt:=(ax.out k hk).1
 have cu:=(ax.out k hk).2
 refine⟨by rw [Es (qs.rest p lD bt)];exact h1,by rw [Et (qs.rest m ih cu)];exact ab,⟨fun j aB=>?_,ax.no,fun j oz aB r9 de x ij qu=>?_,fun j aB=>?_⟩⟩
 ·by_cases e:j=k
  ·subst e
   refine⟨q,hq,?_⟩
   unfold eO
   rw [if_pos rfl,if_pos rfl];exact al
  obtain⟨nN,g1,g2⟩:=ax.has j aB
  refine⟨nN,g1,?_⟩
  unfold eO
  rw [if_neg e,if_neg e]
  exact g2.mT qs fun x al=>ax.GC j k aB hk e x al
 ·have key:∀ j,j<4→j≠k→own' x→ ¬ own j x:=fun j aB de aO a7=>by
   obtain⟨nN,g1,g2⟩:=ax.has j aB;rcases bg x aO with bl | bl
   ·exact ax.GC j k aB hk de x a7 bl
   exact bl (g2.ov x a7)
  by_cases e:j=k
  ·rw [if_pos e] at ij
   rw [if_neg (fun e'=>de (e.trans e'.symm))] at qu
   exact key oz r9 (fun e'=>de (e.trans e'.symm)) ij qu
  rw [if_neg e] at ij
  by_cases e':oz=k
  ·rw [if_pos e'] at qu;exact key j aB e qu ij
  rw [if_neg e'] at qu;exact ax.GC j oz aB r9 de x ij qu
 by_cases e:j=k
 ·rw [if_pos e]
  refine⟨fun h=>?_,fun h=>?_⟩
  ·rcases bg p h with aO | aO
   ·exact bt aO
   exact aO lD
  rcases bg m h with aO | aO
  ·exact cu aO
  exact aO ih
 rw [if_neg e];exact ax.out j aB
theorem ago {s:aZ}(hs:cr s)(hp:aG Cell):cy (Er hp s) (fun r=> ∃ p,r.1=some p∧q1 s r.2 p (fun _=>[]) 1):=by
 unfold Er;refine .mk fun m hm=>.eq rfl (.mk fun p bH=>?_);simp only at bH ⊢;have mF:p≠m:=fun e=>bH (by rw [e];exact List.mem_cons_self);have nR:jk ((p,Cell.qh ⟨s,⟨some m⟩,1⟩)::(m,Cell.rX [])::hp) p=some ⟨s,⟨some m⟩,1⟩:=by unfold jk;rw [kJ,if_pos rfl]
 have d0:l4 ((p,Cell.qh ⟨s,⟨some m⟩,1⟩)::(m,Cell.rX [])::hp) m=some []:=by unfold l4;rw [kJ,if_neg mF,kJ,if_pos rfl]
 refine .eq nR ?_;simp only;refine .bind (P:=fun ar=> ∃ eV own,jk ar.2.2 p=some ⟨s,⟨some m⟩,1⟩∧l4 ar.2.2 m=some eV∧rK s ar.2.2 p m eV 4 (fun _=>[]) own)
  (cy.loop 4 (fun i st=> ∃ hp' eV own,st=((i:Int),hp')∧jk hp' p=some ⟨s,⟨some m⟩,1⟩∧l4 hp' m=some eV∧rK s hp' p m eV i (fun _=>[]) own) (by omega) ⟨_,[],fun _ _=>False,rfl,nR,d0,⟨fun k hk=>by omega,fun _ _=>rfl,fun k k' hk=>by omega,fun k hk=>by omega⟩⟩ (fun i st ao bW=>?_) (fun st bW=>?_)) fun ar h1=>.ret ⟨p,rfl,?_⟩
 ·obtain⟨hp',eV,own,rfl,g1,g2,g3⟩:=bW;have xC:=sy g1;have Gm:=wO g2;refine .cond (fun _=>.idx rfl (by rw [hs.lR];exact ao) (.eq g1 ?_)) fun ad=>by have:=hs.lR;simp at ad;omega
  rw [(hs.gi ao).1];refine .bind (agm hs ao hp') fun an h1=>?_;obtain⟨q,e,al,hk⟩:=h1;obtain⟨ang,cE⟩:=an;simp only at e al hk;subst e;have aL:jk cE p=some ⟨s,⟨some m⟩,1⟩:=by rw [Es (hk.rest p (jM xC) id)];exact g1
  have bz:l4 cE m=some eV:=by rw [Et (hk.rest m (jM Gm) id)];exact g2
  have JO:=wO bz;refine .eq (a:=()) (by unfold FZ;rw [if_pos aL]) (.eq rfl (.eq bz (.eq rfl (.ret ?_))));have Cl:m≠p:=fun e=>by rw [e] at JO;rw [sy aL] at JO;cases JO
  have xD:∀ x,x≠m→pat (ct cE m (Cell.rX (gn eV ((i:Int)+1) (some q)))) x=pat cE x:=fun x al=>mq al.symm;have hold:∀ j,j<i→ ∀ x,own j x→pat (ct cE m (Cell.rX (gn eV ((i:Int)+1) (some q)))) x=pat hp' x:=fun j aB x al=>by
   obtain⟨nN,_,ew⟩:=g3.has j aB;rw [xD x fun e=>(g3.out j aB).2 (e ▸ al)];exact hk.rest x (ew.ov x al) id
  have r2:∀ x,nA CI hp' cE x→x ∉ dI hp':=fun x al=>al.elim (fun h=>h.elim) fun h=>h.1;refine⟨_,gn eV ((i:Int)+1) (some q),fun j=>if j=i then nA CI hp' cE else own j,by simp only [dR (show i<2 ^ 62 by omega)],by rw [Es (xD p Cl.symm)];exact aL,adY JO,⟨fun j aB=>?_,fun x al=>?_,fun j oz aB r9 de x ij qu=>?_,fun j aB=>?_⟩⟩
  ·by_cases e:j=i
   ·subst e;refine⟨q,by rw [uG,if_pos rfl],?_⟩;rw [if_pos rfl];exact al.congr (fun x al=>by rw [qQ];exact al) fun x ij=>xD x fun e=>r2 x ij (e ▸ jM Gm)
   obtain⟨nN,dJ,ew⟩:=g3.has j (by omega);refine⟨nN,by rw [uG,if_neg (by omega)];exact dJ,?_⟩;rw [if_neg e];exact ew.congr (fun x al=>by rw [qQ];exact hk.keys x al) (hold j (by omega))
  ·rw [uG,if_neg (by omega)];exact g3.no x (by omega)
  ·have key:∀ j,j<i→nA CI hp' cE x→ ¬ own j x:=fun j aB h1 ab=>by
    obtain⟨nN,_,ew⟩:=g3.has j aB;exact r2 x h1 (ew.ov x ab)
   by_cases e:j=i
   ·rw [if_pos e] at ij;rw [if_neg (fun e'=>de (e.trans e'.symm))] at qu;exact key oz (by omega) ij qu
   rw [if_neg e] at ij;by_cases e':oz=i
   ·rw [if_pos e'] at qu;exact key j (by omega) qu ij
   rw [if_neg e'] at qu;exact g3.GC j oz (by omega) (by omega) de x ij qu
  by_cases e:j=i
  ·rw [if_pos e];exact⟨fun h=>r2 p h (jM xC),fun h=>r2 m h (jM Gm)⟩
  rw [if_neg e];exact g3.out j (by omega)
 ·obtain⟨hp',eV,own,rfl,g1,g2,g3⟩:=bW;refine .cond (fun ad=>by have:=hs.lR;simp at ad;omega) fun _=>.ret ⟨eV,own,g1,g2,g3⟩
 obtain⟨eV,own,bT,a2,a3⟩:=h1;exact⟨m,eV,own,bT,a2,a3⟩
theorem adZ {l:List aC}{e:bh}{i:aC}(h:df l e=none)(ao:fc i.aY e=true):df (l++[i]) e=some i:=by
 unfold df at h ⊢;rw [List.find?_append,h,Option.none_or];simp [ao]
def CJ:bh:= { (default:bh) with bB:=1,cw:= [({ (default:cx) with gC:=true } :cx)],en:=1 }
theorem Ng {s:aZ}(h:cr s):gb s 0 CJ:=by
 refine⟨rfl,by rw [h.N1];rfl,fun i ao=>?_,by decide,fun _=>rfl⟩;rw [h.N1] at ao ⊢;have:i=0:=by have:i<1:=ao;omega
 subst this;show rT 1 (Ah wk) { (default:cx) with gC:=true };have bq:∀ j,cJ ({ (default:cx) with gC:=true } :cx).ck j=false:=fun j=>EO j;exact⟨fun h=>(by cases h),fun _=>rfl,fun _ j _ bb=>(by rw [bq] at bb;cases bb),fun h=>(by cases h),fun h=>(by cases h),FH,fun h=>(by cases h),fun _=>rfl,fun _=>rfl,fun h=>(by cases h),fun h=>(by cases h),fun h=>(by cases h),fun _=>rfl⟩
theorem iQ {ls:Nat→List aC}{k:Nat}{l:List aC} :eO ls k l k=l:=by unfold eO;rw [if_pos rfl]
theorem jN {ls:Nat→List aC}{k j:Nat}{l:List aC}(h:j≠k):eO ls k l j=ls j:=by unfold eO;rw [if_neg h]
theorem Io (l:List aC)(e:bh):(cU l e).length≤l.length:=List.length_filter_le _ _
end Go.Proofs.YtppgfphgdogpeaaGreat
