/-
  What the programs compute, in plain Lean. Conditions: none.
-/
import Derived.Test.YtppgfphgdogpeaaGreatMl0
import Derived.Test.YtppgfphgdogpeaaGreatMl1
import Derived.Test.YtppgfphgdogpeaaGreatMd
set_option linter.unusedVariables false
set_option linter.unusedSimpArgs false
set_option maxRecDepth 100000
namespace Gv
open Go
theorem R7 {σ ε:Type}{body:σ→Option (σ ⊕ ε)}{Q:ε→Prop}{cT:σ}(m:Nat)(fS:Nat→σ→Prop)
 (hm:m<2 ^ 80) (bH:fS 0 cT)
 (hs:∀ k s,k<m→fS k s→ (∃ cD,body s=some (.inl cD)∧fS (k+1) cD)∨ (∃ e,body s=some (.inr e)∧Q e))
 (he:∀ s,fS m s→ ∃ e,body s=some (.inr e)∧Q e):∃ e,eI eD body cT=some e∧Q e:=by
 have key:∀ n k s,k≤m→m - k<n→fS k s→ ∃ e,eI n body s=some e∧Q e:=by
  intro n;induction n with
  | zero=>intro k s _ h;omega
  | succ n cA=>
    intro k s hk aQ au
    by_cases Gt:k=m
    ·subst Gt
     obtain⟨e,h1,ae⟩:=he s au
     exact⟨e,by simp [eI,h1],ae⟩
    rcases hs k s (by omega) au with⟨cD,h1,ae⟩ | ⟨e,h1,ae⟩
    ·obtain⟨e,aA,aV⟩:=cA (k+1) cD (by omega) (by omega) ae
     exact⟨e,by simp [eI,h1,aA],aV⟩
    exact⟨e,by simp [eI,h1],ae⟩
 exact key eD 0 cT (by omega) (by unfold eD;omega) bH
def br {β:Type}(m:Option β)(P:β→Prop):Prop:= ∃ r,m=some r∧P r
theorem br.ret {β:Type}{P:β→Prop}{r:β}(h:P r):br (some r) P:=⟨r,rfl,h⟩
theorem br.bind {α β:Type}{m:Option α}{f:α→Option β}{P:α→Prop}{Q:β→Prop}(h:br m P)(k:∀ a,P a→br (f a) Q):br (m.bind f) Q:=by
 obtain⟨a,h1,ae⟩:=h;rw [h1];exact k a ae
theorem br.eq {α β:Type}{m:Option α}{a:α}{f:α→Option β}{Q:β→Prop}(h:m=some a)(k:br (f a) Q):br (m.bind f) Q:=by
 rw [h];exact k
theorem br.mono {β:Type}{m:Option β}{P Q:β→Prop}(h:br m P)(k:∀ a,P a→Q a):br m Q:=by
 obtain⟨a,h1,ae⟩:=h;exact⟨a,h1,k a ae⟩
theorem br.of_eq {β:Type}{m:Option β}{r:β}{P:β→Prop}(h:br m P)(k:m=some r):P r:=by
 obtain⟨a,h1,ae⟩:=h;rw [k] at h1;cases h1;exact ae
theorem br.cond {β:Type}{b:Bool}{m n:Option β}{P:β→Prop}(h1:b=true→br m P)(ae:b=false→br n P):br (cond b m n) P:=by
 cases b
 ·exact ae rfl
 exact h1 rfl
theorem br.cX {α β:Type}[Inhabited α]{b w:Bool}{m:Option α}{f:α→Option β}{P:α→Prop}{Q:β→Prop}(h:b=w→br m P)(k:∀ a,(b=w→P a)→br (f a) Q):br ((cX b w m).bind f) Q:=by
 unfold Gv.cX;by_cases hb:b=w
 ·rw [if_pos hb];exact(h hb).bind fun a a7=>k a fun _=>a7
 rw [if_neg hb];exact k default fun h=>absurd h hb
theorem br.loop {σ ε β:Type}{body:σ→Option (σ ⊕ ε)}{f:ε→Option β}{P:β→Prop}{cT:σ}(m:Nat)(fS:Nat→σ→Prop)
 (hm:m<2 ^ 80) (bH:fS 0 cT)
 (hs:∀ k s,k<m→fS k s→br (body s) (fun x=>match x with | .inl cD=>fS (k+1) cD | .inr e=>br (f e) P))
 (he:∀ s,fS m s→ ∃ e,body s=some (.inr e)∧br (f e) P):br ((eI eD body cT).bind f) P:=by
 obtain⟨e,h1,ae⟩:=R7 (Q:=fun e=>br (f e) P) m fS hm bH (fun k s hk au=>by
  obtain⟨r,h1,ae⟩:=hs k s hk au;cases r with
  | inl cD=>exact .inl ⟨cD,h1,ae⟩
  | inr e=>exact .inr ⟨e,h1,ae⟩) he
 rw [h1];exact ae
theorem br.nT {σ ε:Type}{body:σ→Option (σ ⊕ ε)}{P:ε→Prop}{cT:σ}(m:Nat)(fS:Nat→σ→Prop)
 (hm:m<2 ^ 80) (bH:fS 0 cT)
 (hs:∀ k s,k<m→fS k s→br (body s) (fun x=>match x with | .inl cD=>fS (k+1) cD | .inr e=>P e))
 (he:∀ s,fS m s→br (body s) (fun x=>match x with | .inl _=>False | .inr e=>P e)):br (eI eD body cT) P:=by
 obtain⟨e,h1,ae⟩:=R7 (Q:=P) m fS hm bH (fun k s hk au=>by
  obtain⟨r,h1,ae⟩:=hs k s hk au;cases r with
  | inl cD=>exact .inl ⟨cD,h1,ae⟩
  | inr e=>exact .inr ⟨e,h1,ae⟩) fun s au=>by
  obtain⟨r,h1,ae⟩:=he s au;cases r with
  | inl cD=>exact ae.elim
  | inr e=>exact⟨e,h1,ae⟩
 exact⟨e,h1,ae⟩
theorem br.idx {β:Type}{n:Nat}{i:Int}{k:Nat}{f:Nat→Option β}{Q:β→Prop}(au:i=k)(hk:k<n)(h:br (f k) Q):br ((Gv.idx n i).bind f) Q:=by
 subst au;have:Gv.idx n (k:Int)=some k:=by unfold Gv.idx;rw [if_pos (by omega)];simp
 rw [this];exact h
theorem jI {α:Type}[Inhabited α]{n:Nat}(v:Vector α n){k:Nat}(x:α)(hk:k<n)(j:Nat):cd (dX v k x) j=if j=k then x else cd v j:=by
 unfold cd dX;by_cases h:j=k
 ·subst h;simp [hk]
 rw [if_neg h,Vector.getElem?_setIfInBounds_ne (by omega)]
theorem R8 {α:Type}[Inhabited α]{n:Nat}{v w:Vector α n}(h:∀ j,j<n→cd v j=cd w j):v=w:=by
 apply Vector.ext;intro i au;have:=h i au;simpa [cd,au] using this
theorem HV {α:Type}[Inhabited α]{n:Nat}(j:Nat):cd (default:Vector α n) j=default:=by
 show cd (Vector.replicate n default) j=default;unfold cd;by_cases h:j<n <;> simp [h]
theorem oV {n k:Nat}(h:k<n):idx n (k:Int)=some k:=by
 unfold idx;rw [if_pos (by omega)];simp
theorem uZ {n:Nat}{i:Int}(h:0≤i)(dc:i<n):idx n i=some i.toNat:=by
 unfold idx;rw [if_pos ⟨h,dc⟩]
theorem fH {k:Nat}(h:k<2 ^ 62):bC ((k:Int)+1)=((k+1:Nat):Int):=by
 rw [ib (by omega) (by omega)];simp
theorem tK {k:Nat}(h:k<2 ^ 64):(BitVec.ofInt 64 (k:Int)).toNat=k:=by
 simp;omega
theorem S6 (x:BitVec 64):((x&&&1#64)==1#64)=x.getLsbD 0:=by
 rw [BitVec.and_one_eq_setWidth_ofBool_getLsbD];cases x.getLsbD 0 <;> rfl
theorem abF (x:BitVec 64)(n:Nat):(((x >>> n)&&&1#64)==1#64)=x.getLsbD n:=by
 rw [S6];simp
theorem Bu {α β:Type}[Inhabited α][Inhabited β](f:α→β){l:List α}{k:Nat}(hk:k<l.length):aE (l.map f) k=f (aE l k):=by
 rw [e7 l hk,e7 _ (by simpa using hk),List.getElem_map]
theorem nI {α:Type}[Inhabited α](l:List α){k:Nat}(hk:k<l.length):l.take (k+1)=l.take k++[aE l k]:=by
 rw [List.take_add_one,List.getElem?_eq_getElem hk,e7 l hk];rfl
theorem S7 {α:Type}[Inhabited α]{xs:List α}{p:α→Bool}{k:Nat}(hk:k<xs.length)(hp:p (aE xs k)=true)(aF:∀ j,j<k→p (aE xs j)=false):xs.find? p=some (aE xs k):=by
 rw [List.find?_eq_some_iff_getElem];refine⟨hp,k,hk,(e7 xs hk).symm,fun j tr=>?_⟩;have:=aF j tr;rw [e7 xs (by omega)] at this;simp [this]
theorem S8 {α:Type}{xs:List α}{p:α→Bool}(h:∀ x∈xs,p x=false):xs.find? p=none:=
 List.find?_eq_none.2 fun x ar=>by simp [h x ar]
theorem aaI {α ε β:Type}[Inhabited α](xs:List α)(p:α→Bool){body:Int→Option (Int ⊕ ε)}{f:ε→Option β}{P:β→Prop}(ao:xs.length<2 ^ 62)
 (OY:∀ k:Nat,k<xs.length→p (aE xs k)=false→body k=some (.inl (bC ((k:Int)+1))))
 (adH:∀ k:Nat,k<xs.length→xs.find? p=some (aE xs k)→p (aE xs k)=true→ ∃ e,body k=some (.inr e)∧br (f e) P)
 (o4:xs.find? p=none→ ∃ e,body (xs.length:Int)=some (.inr e)∧br (f e) P):br ((eI eD body 0).bind f) P:=by
 refine br.loop xs.length (fun k s=>s=(k:Int)∧ ∀ j,j<k→p (aE xs j)=false) (by omega) ⟨rfl,fun j aF=>by omega⟩ (fun k s hk au=>?_) (fun s au=>?_)
 ·obtain⟨rfl,aX⟩:=au
  by_cases hp:p (aE xs k)=true
  ·obtain⟨e,h1,ae⟩:=adH k hk (S7 hk hp aX) hp
   rw [h1];exact .ret ae
  simp only [Bool.not_eq_true] at hp
  rw [OY k hk hp]
  refine .ret ⟨fH (by omega),fun j aF=>?_⟩
  by_cases tr:j=k
  ·subst tr;exact hp
  exact aX j (by omega)
 obtain⟨rfl,aX⟩:=au
 refine o4 (S8 fun x ar=>?_)
 obtain⟨j,aF,rfl⟩:=List.mem_iff_getElem.1 ar
 rw [← e7 xs aF];exact aX j aF
def c9 {α:Type}(m:ak α)(P:α→Prop):Prop:= ∀ Q:α→Prop,(∀ r,P r→Q r)→m Q
theorem c9.run {α:Type}{m:ak α}{P:α→Prop}(h:c9 m P):m P:=h P fun _ h=>h
theorem c9.ret {α:Type}{P:α→Prop}{x:α}(h:P x):c9 (ak.ret x) P:=fun Q k=>k x h
theorem c9.bind {α β:Type}{m:ak α}{f:α→ak β}{P:α→Prop}{tA:β→Prop}(h:c9 m P)(k:∀ r,P r→c9 (f r) tA):c9 (ak.bind m f) tA:=fun Q hq=>h _ fun r aI=>k r aI Q hq
theorem c9.of {α:Type}{o:Option α}{P:α→Prop}(h:br o P):c9 (ak.of o) P:=fun Q hq=>let⟨r,h1,ae⟩:=h; ⟨r,h1,hq r ae⟩
theorem c9.hZ {α β:Type}{o:Option α}{f:α→ak β}{P:α→Prop}{tA:β→Prop}(h:br o P)(k:∀ r,P r→c9 (f r) tA):c9 (ak.bind (ak.of o) f) tA:= .bind (.of h) k
theorem c9.eq {α β:Type}{o:Option α}{a:α}{f:α→ak β}{tA:β→Prop}(h:o=some a)(k:c9 (f a) tA):c9 (ak.bind (ak.of o) f) tA:=fun Q hq=>⟨a,h,k Q hq⟩
theorem c9.mono {α:Type}{m:ak α}{P tA:α→Prop}(h:c9 m P)(k:∀ r,P r→tA r):c9 m tA:=fun Q hq=>h Q fun r aI=>hq r (k r aI)
theorem c9.cond {α:Type}{b:Bool}{m n:ak α}{P:α→Prop}(h1:b=true→c9 m P)(ae:b=false→c9 n P):c9 (cond b m n) P:=by
 cases b
 ·exact ae rfl
 exact h1 rfl
theorem c9.cX {α β:Type}[Inhabited α]{b w:Bool}{m:Option α}{f:α→ak β}{P:α→Prop}{Q:β→Prop}(h:b=w→br m P)(k:∀ a,(b=w→P a)→c9 (f a) Q):c9 (ak.bind (ak.of (cX b w m)) f) Q:=by
 unfold Gv.cX;by_cases hb:b=w
 ·rw [if_pos hb];exact .hZ (h hb) fun a a7=>k a fun _=>a7
 rw [if_neg hb];exact .eq rfl (k default fun h=>absurd h hb)
theorem c9.idx {β:Type}{n:Nat}{i:Int}{k:Nat}{f:Nat→ak β}{Q:β→Prop}(au:i=k)(hk:k<n)(h:c9 (f k) Q):c9 (ak.bind (ak.of (Gv.idx n i)) f) Q:=by
 subst au;exact .eq (oV hk) h
theorem c9.mk {b0 β:Type}{hp:aC b0}{c:b0}{f:Nat×aC b0→ak β}{P:β→Prop}(k:∀ p,p ∉ dZ hp→c9 (f (p,(p,c)::hp)) P):c9 (ak.bind (ak.mk hp c) f) P:=fun Q hq=>fun a a7=>by
 obtain⟨p,hp'⟩:=a;obtain⟨h1,ae⟩:=a7;simp only at h1 ae;subst ae;exact k p h1 Q hq
theorem c9.any {α β:Type}{f:α→ak β}{P:β→Prop}(k:∀ x,c9 (f x) P):c9 (ak.bind (ak.any α) f) P:=fun Q hq x=>k x Q hq
theorem c9.loop {σ ε:Type}{body:σ→ak (σ ⊕ ε)}{P:ε→Prop}{cT:σ}(m:Nat)(fS:Nat→σ→Prop)(hm:m<2 ^ 80)(bH:fS 0 cT)
 (hs:∀ k s,k<m→fS k s→c9 (body s) (fun x=>match x with | .inl cD=>fS (k+1) cD | .inr e=>P e))
 (he:∀ s,fS m s→c9 (body s) (fun x=>match x with | .inl _=>False | .inr e=>P e)):c9 (pr eD body cT) P:=by
 have key:∀ n k s,k≤m→m - k<n→fS k s→c9 (pr n body s) P:=by
  intro n;induction n with
  | zero=>intro k s _ h;omega
  | succ n cA=>
    intro k s hk aQ au Q hq
    by_cases Gt:k=m
    ·subst Gt
     exact he s au _ fun r aI=>by
      cases r with
      | inl cD=>exact aI.elim
      | inr e=>exact hq e aI
    exact hs k s (by omega) au _ fun r aI=>by
     cases r with
     | inl cD=>exact cA (k+1) cD (by omega) (by omega) aI Q hq
     | inr e=>exact hq e aI
 exact key eD 0 cT (by omega) (by unfold eD;omega) bH
theorem kV {b0:Type}{hp:aC b0}{p q:Nat}{k:b0} :pat ((p,k)::hp) q=if p=q then some k else pat hp q:=rfl
theorem abG {b0:Type}{hp:aC b0}{p:Nat}(h:p ∉ dZ hp):pat hp p=none:=by
 cases e:pat hp p with
 | none=>rfl
 | some k=>exact absurd (jV e) h
theorem rR {b0:Type}{hp:aC b0}{p:Nat}{k k':b0}(h:pat hp p=some k'):pat (cQ hp p k) p=some k:=by rw [EE,if_pos rfl,h];rfl
theorem mI {b0:Type}{hp:aC b0}{p q:Nat}{k:b0}(h:p≠q):pat (cQ hp p k) q=pat hp q:=by rw [EE,if_neg h]
theorem uM {α β:Type}[DecidableEq α]{l:List (α×β)}{x y:α}{v:β} :ec (gB l x v) y=if y=x then some v else ec l y:=by
 induction l with
 | nil=>
   show(if y=x then some v else ec [] y)=_
   rfl
 | cons a r cA=>
   obtain⟨k,w⟩:=a
   simp only [gB]
   by_cases h:x=k
   ·rw [if_pos h]
    simp only [ec]
    by_cases ae:y=x
    ·simp [ae]
    simp [ae,show ¬ y=k from fun e=>ae (by rw [e,h])]
   rw [if_neg h]
   simp only [ec]
   by_cases ae:y=k
   ·subst ae;simp [show ¬ y=x from fun e=>h e.symm]
   rw [if_neg ae,cA,if_neg ae]
end Gv
namespace Go.Proofs.YtppgfphgdogpeaaGreat
open Go Gv
def fV (b:Bool):Nat:=bif b then 1 else 0
def dp (hp:aC Cell):Ref→List Bool→Ref
 | none,_=>none
 | some p,[]=>some p
 | some p,b::ba=>match c8 hp p with
   | none=>none
   | some c=>dp hp (cd c.dJ (fV b)) ba
theorem hC {hp:aC Cell}{ba:List Bool} :dp hp none ba=none:=by cases ba <;> rfl
theorem pZ {hp:aC Cell}{r:Ref} :dp hp r []=r:=by cases r <;> rfl
theorem iY {hp:aC Cell}{p:Nat}{c:eo}{b:Bool}{ba:List Bool}(h:c8 hp p=some c):dp hp (some p) (b::ba)=dp hp (cd c.dJ (fV b)) ba:=by
 show(match c8 hp p with | none=>none | some c=>dp hp (cd c.dJ (fV b)) ba)=_;rw [h]
theorem oW {hp:aC Cell} :∀ {r:Ref} {ba cs:List Bool},dp hp r (ba++cs)=dp hp (dp hp r ba) cs
 | none,ba,cs=>by rw [hC,hC,hC]
 | some p,[],cs=>by rw [List.nil_append,pZ]
 | some p,b::ba,cs=>by
   cases e:c8 hp p with
   | none=>
     have h1:∀ xs,dp hp (some p) (b::xs)=none:=fun xs=>by
      show(match c8 hp p with | none=>none | some c=>dp hp (cd c.dJ (fV b)) xs)=_;rw [e]
     rw [List.cons_append,h1,h1,hC]
   | some c=>rw [List.cons_append,iY e,iY e,oW]
theorem RG {hp hp':aC Cell} :∀ {r:Ref} {ba:List Bool},(∀ p cs,dp hp r cs=some p→c8 hp' p=c8 hp p)→dp hp' r ba=dp hp r ba
 | none,ba,_=>by rw [hC,hC]
 | some p,[],_=>rfl
 | some p,b::ba,h=>by
   have bH:=h p [] rfl;show(match c8 hp' p with | none=>none | some c=>dp hp' (cd c.dJ (fV b)) ba)=(match c8 hp p with | none=>none | some c=>dp hp (cd c.dJ (fV b)) ba);rw [bH];cases e:c8 hp p with
   | none=>rfl
   | some c=>
     refine RG fun q cs hq=>h q (b::cs) ?_
     rw [iY e];exact hq
structure qX (hp:aC Cell)(root:Ref):Prop where
 reads:∀ ba p,dp hp root ba=some p→ ∃ c,c8 hp p=some c
 inj:∀ ba cs p,dp hp root ba=some p→dp hp root cs=some p→ba=cs
 dep:∀ ba p,dp hp root ba=some p→ba.length≤32
def cont (hp:aC Cell)(root:Ref)(ba:List Bool):Option Int:=match dp hp root ba with
 | none=>none
 | some p=>match c8 hp p with
   | none=>none
   | some c=>bif c.fK then some c.kr else none
theorem l5 {hp:aC Cell}{root:Ref}{ba:List Bool}{p:Nat}{c:eo}(h:dp hp root ba=some p)(ai:c8 hp p=some c):cont hp root ba=bif c.fK then some c.kr else none:=by
 unfold cont;rw [h];simp only [ai]
theorem mJ {hp:aC Cell}{root:Ref}{ba:List Bool}(h:dp hp root ba=none):cont hp root ba=none:=by
 unfold cont;rw [h]
theorem rG {hp:aC Cell}{p:Nat}{c:eo} :c8 hp p=some c↔pat hp p=some (.gS c):=by
 refine⟨lH,fun h=>?_⟩;unfold c8;rw [h]
theorem uN {hp:aC Cell}{p:Nat}{c:gy} :gL hp p=some c↔pat hp p=some (.lp c):=by
 refine⟨p1,fun h=>?_⟩;unfold gL;rw [h]
theorem yF {hp hp':aC Cell}{p:Nat}(h:pat hp' p=pat hp p):c8 hp' p=c8 hp p:=by unfold c8;rw [h]
theorem H2 {hp hp':aC Cell}{p:Nat}(h:pat hp' p=pat hp p):gL hp' p=gL hp p:=by unfold gL;rw [h]
structure fo (hp hp':aC Cell)(own:Nat→Prop):Prop where
 keys:∀ q,q∈dZ hp→q∈dZ hp'
 rest:∀ q,q∈dZ hp→ ¬ own q→pat hp' q=pat hp q
theorem fo.refl {hp:aC Cell}{own:Nat→Prop} :fo hp hp own:=⟨fun _ h=>h,fun _ _ _=>rfl⟩
theorem fo.mk' {hp:aC Cell}{own:Nat→Prop}{a:Nat}{k:Cell}(a7:a ∉ dZ hp):fo hp ((a,k)::hp) own:=
 ⟨fun q h=>List.mem_cons_of_mem _ h,fun q h _=>by rw [kV,if_neg (fun e:a=q=>a7 (by rw [e];exact h))]⟩
theorem fo.up {hp:aC Cell}{own:Nat→Prop}{p:Nat}{k:Cell}(hp':own p):fo hp (cQ hp p k) own:=
 ⟨fun q h=>by rw [qR];exact h,fun q h hq=>mI (fun e:p=q=>hq (by rw [← e];exact hp'))⟩
theorem fo.trans {h1 ae aA:aC Cell}{own own':Nat→Prop}(a:fo h1 ae own)(b:fo ae aA own')(bp:∀ q,q∈dZ h1→own' q→own q):fo h1 aA own:=
 ⟨fun q h=>b.keys q (a.keys q h),fun q h hq=>by rw [b.rest q (a.keys q h) fun dc=>hq (bp q h dc),a.rest q h hq]⟩
theorem aaJ (b:Bool):cd (default:eo).dJ (fV b)=none:=by cases b <;> rfl
theorem RH {hp:aC Cell}{a:Nat}(h:c8 hp a=some (default:eo)):∀ ba,dp hp (some a) ba=if ba= [] then some a else none
 | []=>rfl
 | b::ba=>by rw [iY h,aaJ,hC];rfl
theorem L5 {hp hp':aC Cell}{root:Ref}{ws:List Bool}{b:Bool}{p a:Nat}{c:eo}(bP:qX hp root)(hw:dp hp root ws=some p)(ai:c8 hp p=some c)(aQ:cd c.dJ (fV b)=none)(a7:c8 hp a=none)
 (bR:c8 hp' p=some { c with dJ:=dX c.dJ (fV b) (some a) }) (c6:c8 hp' a=some default) (ig:∀ q,q≠p→q≠a→c8 hp' q=c8 hp q):
 ∀ (ba us:List Bool) (q:Nat),dp hp root us=some q→dp hp' (some q) ba=if us++ba=ws++[b] then some a else dp hp (some q) ba
 | [],us,q,hu=>by
   have: ¬ us++[]=ws++[b]:=fun e=>by
    rw [List.append_nil] at e;rw [e,oW,hw,iY ai,aQ,hC] at hu;cases hu
   rw [if_neg this];rfl
 | x::xs,us,q,hu=>by
   obtain⟨wz,pK⟩:=bP.reads us q hu;have rl:q≠a:=fun e=>by rw [e,a7] at pK;cases pK
   by_cases GA:q=p
   ·subst GA;have Pj:=bP.inj us ws q hu hw;subst Pj;rw [ai] at pK;cases pK;rw [iY bR,iY ai];simp only;have cH:fV b<2:=by cases b <;> decide
    rw [jI _ _ cH];by_cases zV:x=b
    ·subst zV;rw [if_pos rfl,aQ,hC,RH c6];by_cases h:xs= []
     ·subst h;rw [if_pos rfl,if_pos rfl]
     rw [if_neg h,if_neg fun e=>h ?_];have:=List.append_cancel_left e;simpa using this
    have dC: ¬ fV x=fV b:=fun e=>zV (by cases x <;> cases b <;> first | rfl | cases e);have gF: ¬ us++x::xs=us++[b]:=fun e=>zV (by have:=List.append_cancel_left e;simpa using (List.cons.inj this).1);rw [if_neg dC,if_neg gF];cases e:cd c.dJ (fV x) with
    | none=>rw [hC,hC]
    | some oa=>
      have oF:dp hp root (us++[x])=some oa:=by rw [oW,hu,iY ai,e,pZ]
      rw [L5 bP hw ai aQ a7 bR c6 ig xs (us++[x]) oa oF,List.append_assoc,List.singleton_append,if_neg gF]
   have h1:c8 hp' q=some wz:=by rw [ig q GA rl];exact pK
   rw [iY h1,iY pK];cases e:cd wz.dJ (fV x) with
   | none=>
     have gF: ¬ us++x::xs=ws++[b]:=fun aX=>by
      have aje:dp hp root (us++[x])=none:=by rw [oW,hu,iY pK,e,hC]
      rcases List.eq_nil_or_concat xs with rfl | ⟨ys,y,rfl⟩
      ·have:=(List.append_inj_left' aX rfl);subst this;rw [hu] at hw;cases hw;exact GA rfl
      have aA:us++x::ys=ws:=by
       have:(us++x::ys)++[y]=ws++[b]:=by simpa using aX
       exact List.append_inj_left' this rfl
      rw [← aA,show us++x::ys=(us++[x])++ys by simp,oW,aje,hC] at hw;cases hw
     rw [hC,hC,if_neg gF]
   | some oa=>
     have oF:dp hp root (us++[x])=some oa:=by rw [oW,hu,iY pK,e,pZ]
     rw [L5 bP hw ai aQ a7 bR c6 ig xs (us++[x]) oa oF,List.append_assoc,List.singleton_append]
theorem grow {hp hp':aC Cell}{r:Nat}{ws:List Bool}(hd:ws.length<32){b:Bool}{p a:Nat}{c:eo}(bP:qX hp (some r))(hw:dp hp (some r) ws=some p)(ai:c8 hp p=some c)(aQ:cd c.dJ (fV b)=none)(a7:c8 hp a=none)
 (bR:c8 hp' p=some { c with dJ:=dX c.dJ (fV b) (some a) }) (c6:c8 hp' a=some default) (ig:∀ q,q≠p→q≠a→c8 hp' q=c8 hp q):
 qX hp' (some r)∧ (∀ ba,dp hp' (some r) ba=if ba=ws++[b] then some a else dp hp (some r) ba)∧ ∀ ba,cont hp' (some r) ba=cont hp (some r) ba:=by
 have aY:∀ ba,dp hp' (some r) ba=if ba=ws++[b] then some a else dp hp (some r) ba:=fun ba=>L5 bP hw ai aQ a7 bR c6 ig ba [] r rfl
 have Kl:∀ ba,dp hp (some r) ba≠some a:=fun ba h=>by
  obtain⟨c,h1⟩:=bP.reads ba a h;rw [a7] at h1;cases h1
 have Pk:dp hp (some r) (ws++[b])=none:=by rw [oW,hw,iY ai,aQ,hC]
 refine⟨⟨fun ba q h=>?_,fun ba cs q h1 ae=>?_,fun ba q h=>?_⟩,aY,fun ba=>?_⟩
 ·rw [aY] at h
  split at h
  ·cases h;exact⟨_,c6⟩
  obtain⟨hz,h1⟩:=bP.reads ba q h
  by_cases e:q=p
  ·subst e;exact⟨_,bR⟩
  exact⟨hz,by rw [ig q e fun aX=>Kl ba (aX ▸ h)];exact h1⟩
 ·rw [aY] at h1 ae
  split at h1 <;> split at ae
  ·rename_i av aX;rw [av,aX]
  ·cases h1;exact absurd ae (Kl cs)
  ·cases ae;exact absurd h1 (Kl ba)
  exact bP.inj ba cs q h1 ae
 ·rw [aY] at h
  split at h
  ·rename_i e;rw [e];simp;omega
  exact bP.dep ba q h
 by_cases e:ba=ws++[b]
 ·subst e
  rw [mJ Pk,l5 (by rw [aY,if_pos rfl]) c6];rfl
 have v7:dp hp' (some r) ba=dp hp (some r) ba:=by rw [aY,if_neg e]
 cases h:dp hp (some r) ba with
 | none=>rw [mJ h,mJ (v7.trans h)]
 | some q=>
   obtain⟨hz,h1⟩:=bP.reads ba q h
   by_cases eq:q=p
   ·subst eq
    rw [ai] at h1;cases h1
    rw [l5 h ai,l5 (v7.trans h) bR]
   rw [l5 h h1,l5 (v7.trans h) (by rw [ig q eq fun aX=>Kl ba (aX ▸ h)];exact h1)]
theorem Ex {hp hp':aC Cell}{p:Nat}{c hz:eo}(ai:c8 hp p=some c)(oK:c8 hp' p=some hz)(he:hz.dJ=c.dJ)(h:∀ q,q≠p→c8 hp' q=c8 hp q):∀ (ba:List Bool) (r:Ref),dp hp' r ba=dp hp r ba
 | ba,none=>by rw [hC,hC]
 | [],some q=>rfl
 | b::ba,some q=>by
   by_cases e:q=p
   ·subst e;rw [iY ai,iY oK,he];exact Ex ai oK he h ba _
   cases aX:c8 hp q with
   | none=>
     show(match c8 hp' q with | none=>none | some c=>dp hp' (cd c.dJ (fV b)) ba)=(match c8 hp q with | none=>none | some c=>dp hp (cd c.dJ (fV b)) ba)
     rw [h q e,aX]
   | some d=>rw [iY aX,iY (by rw [h q e];exact aX)];exact Ex ai oK he h ba _
theorem VZ {hp hp':aC Cell}{root:Ref}{ws:List Bool}{p:Nat}{c hz:eo}(bP:qX hp root)(hw:dp hp root ws=some p)(ai:c8 hp p=some c)(oK:c8 hp' p=some hz)(he:hz.dJ=c.dJ)(h:∀ q,q≠p→c8 hp' q=c8 hp q):
 qX hp' root∧ ∀ ba,cont hp' root ba=if ba=ws then(bif hz.fK then some hz.kr else none) else cont hp root ba:=by
 have aY:=Ex ai oK he h
 refine⟨⟨fun ba q hq=>?_,fun ba cs q h1 ae=>bP.inj ba cs q (by rw [← aY];exact h1) (by rw [← aY];exact ae),fun ba q hq=>bP.dep ba q (by rw [← aY];exact hq)⟩,fun ba=>?_⟩
 ·rw [aY] at hq
  obtain⟨d,h1⟩:=bP.reads ba q hq
  by_cases e:q=p
  ·subst e;exact⟨_,oK⟩
  exact⟨d,by rw [h q e];exact h1⟩
 by_cases e:ba=ws
 ·subst e;rw [if_pos rfl,l5 (by rw [aY];exact hw) oK]
 rw [if_neg e]
 cases h1:dp hp root ba with
 | none=>rw [mJ h1,mJ (by rw [aY];exact h1)]
 | some q=>
   obtain⟨d,ae⟩:=bP.reads ba q h1
   have GA:q≠p:=fun aX=>e (bP.inj ba ws p (aX ▸ h1) hw)
   rw [l5 h1 ae,l5 (by rw [aY];exact h1) (by rw [h q GA];exact ae)]
theorem hT {α:Type}{b:Nat}(xs ys:List α)(h:xs.length+ys.length≤1000000)(hb:b≤100000):fY b xs ys=some (xs++ys):=by
 unfold fY;rw [if_pos];unfold maxLen;refine⟨Nat.le_trans (Nat.mul_le_mul h hb) (by omega),by omega⟩
def h7 (c:du):Prop:=0≤c.vA∧c.dH.length≤1000
theorem Mu (l:List (BitVec 8))(n:Int)(bH:0≤n)(h1:n≤1000):br (yC l n) h7:=by
 unfold yC;refine .eq (a:=(l.drop 0).take ((min (l.length:Int) n).toNat - 0)) ?_ (.ret ⟨Int.le_refl 0,?_⟩)
 ·unfold qW;rw [if_pos ⟨by omega,by omega,by omega⟩];rfl
 simp only [List.length_take,List.length_drop];omega
theorem gZ (c:du)(n:Int)(ai:h7 c)(aQ:1≤n):br (fZ c n) (fun r=>h7 r.2∧0≤r.1∧r.1<n∧r.1<256):=by
 unfold fZ HF;obtain⟨l,a⟩:=c;obtain⟨bH,h1⟩:=ai;simp only at bH h1;obtain⟨k,rfl⟩:=Int.eq_ofNat_of_zero_le bH;refine .eq rfl (.cond (fun _=>.ret ⟨⟨bH,h1⟩,by omega,by omega,by omega⟩) fun h=>?_);simp only [Bool.or_eq_false_iff,Bool.not_eq_false',decide_eq_true_eq,decide_eq_false_iff_not] at h;have av:bC ((k:Int)+1)=((k+1:Nat):Int):=fH (by omega);simp only [av];have aX:bC (((k+1:Nat):Int) - 1)=(k:Int):=by rw [ib (by omega) (by omega)];omega
 rw [aX];refine .idx rfl (by omega) (.eq (by unfold vB;rw [if_neg (by omega)]) (.ret ⟨⟨by simp only;omega,h1⟩,?_,?_,?_⟩))
 ·exact Int.tmod_nonneg _ (by omega)
 ·exact Int.tmod_lt_of_pos _ (by omega)
 simp only;have aA:(aE l k).toNat<256:=(aE l k).isLt;obtain⟨m,rfl⟩:=Int.eq_ofNat_of_zero_le (show 0≤n by omega);have aV:(((aE l k).toNat:Int)).tmod m=(((aE l k).toNat % m:Nat):Int):=(Int.ofNat_tmod _ _).symm;have bc:=Nat.mod_le (aE l k).toNat m;omega
theorem pg (c:du)(ai:h7 c):br (nf c) (fun r=>h7 r.2):=by
 unfold nf;exact .bind (gZ c 2 ai (by omega)) fun y h=>.ret h.1
theorem aab (c:du)(ai:h7 c):br (Ds c) (fun r=>h7 r.2∧r.1.length=3):=by
 unfold Ds;refine .bind (gZ c 4 ai (by omega)) fun aq h1=>?_;refine .eq (uZ h1.2.1 (by simpa using h1.2.2.1)) (.eq rfl (.eq rfl (.bind (pg _ h1.1) fun aD ae=>?_)));refine .bind (P:=fun m=>h7 m.1) (.cond (fun _=>?_) (fun _=>.ret ae)) fun m1 cP=>?_
 ·refine .bind (gZ _ 2 ae (by omega)) fun cr bs=>.eq rfl (.bind (gZ _ 4 bs.1 (by omega)) fun cC df=>?_);exact .eq (uZ df.2.1 (by simpa using df.2.2.1)) (.eq rfl (.eq (hT _ _ (by simp) (by omega)) (.ret df.1)))
 refine .bind (gZ _ 4 cP (by omega)) fun bh aA=>.eq (uZ aA.2.1 (by simpa using aA.2.2.1)) (.eq rfl (.eq rfl ?_));refine .bind (gZ _ 3 aA.1 (by omega)) fun bL aV=>?_;refine .bind (P:=fun m=>h7 m.1) (.cond (fun _=>?_) (fun _=>.ret aV.1)) fun m2 dT=>.ret ⟨dT,rfl⟩;exact .bind (gZ _ 3 aV.1 (by omega)) fun cy bc=>.eq rfl (.ret bc.1)
def s0 (a:eP):Int×List Int:=(a.bM,a.lf.map (·.fX))
def Cp:List (Int×List Int):= [(1,[]),(2,[]),(3,[16]),(4,[4]),(5,[4,12]),(6,[])]
theorem abH {α β:Type}[Inhabited α](f:α→β)(l:List α)(k:Nat)(x:α)(h:f x=f (aE l k)):(ln l k x).map f=l.map f:=by
 unfold ln;apply List.ext_getElem
 ·simp
 intro i h1 ae;simp only [List.length_map,List.length_set] at h1;simp only [List.getElem_map,List.getElem_set];split
 ·rename_i e;subst e;rw [h,e7 l h1]
 rfl
theorem Ii {α β:Type}[Inhabited α](f:α→β){l:List α}{k:Nat}{x:α}{r:List β}(h:f x=f (aE l k))(ao:l.map f=r):(ln l k x).map f=r:=(abH f l k x h).trans ao
theorem ZJ (c:du)(ai:h7 c):br (Dh c) (fun r=>h7 r.2∧r.1.map s0=Cp):=by
 unfold Dh;refine .eq rfl (.eq rfl (.eq rfl (.eq rfl (.eq rfl (.eq rfl (.eq rfl (.eq rfl (.eq rfl (.eq rfl (.eq rfl (.eq rfl (.eq rfl ?_))))))))))));refine .bind (gZ _ 2 ai (by omega)) fun aq h1=>.eq rfl (.bind (gZ _ 256 h1.1 (by omega)) fun aD ae=>.eq rfl (.eq rfl (.eq rfl ?_)));refine .bind (pg _ ae.1) fun bh aA=>?_;refine .bind (P:=fun m=>m.map s0=Cp) (.cond (fun _=>?_) (fun _=>.ret rfl)) fun m1 cP=>?_
 ·exact .idx (k:=2) rfl (by simp) (.eq rfl (.ret (Ii s0 rfl rfl)))
 refine .bind (pg _ aA) fun bL aV=>.bind (P:=fun m=>m.map s0=Cp) (.cond (fun _=>?_) (fun _=>.ret cP)) fun m2 dT=>.ret ⟨aV,dT⟩;have ao:m1.length=6:=by rw [← List.length_map (f:=s0),cP];rfl
 exact .idx (k:=4) rfl (by omega) (.eq rfl (.ret (Ii s0 rfl cP)))
def wA:dM:= { cM:=ByteArray.mk #[97],iq:=4,eg:=1 }
def Ah:dM:= { cM:=ByteArray.mk #[100],iq:=7,eg:=2 }
def PX:dM:= { cM:=ByteArray.mk #[109],iq:=3,eg:=1 }
def G0:dM:= { cM:=ByteArray.mk #[101],iq:=6,eg:=3 }
def GB:dM:= { cM:=ByteArray.mk #[97],iq:=4,eg:=3 }
def PY:dM:= { cM:=ByteArray.mk #[98],iq:=5,eg:=1 }
def G1:dM:= { cM:=ByteArray.mk #[102],iq:=8,eg:=4 }
def PZ:dM:= { cM:=ByteArray.mk #[103],iq:=9,eg:=1 }
def qa (t:cn):Int×List Int×List dM:=(t.bM,t.dV,t.dr)
def xw (b:Bool):List dM:=if b then [Ah,PX] else [Ah]
def zk (b:Bool):List dM:=if b then [G0,GB,PY] else [G0,GB]
def zl (b:Bool):List dM:=if b then [G1,PZ,Ah] else [G1]
def vF (ew eZ ju:Bool):List (Int×List Int×List dM):=
 [(1,[1,2,4],[wA]),(2,[1,2,3,4],xw ew),(3,[1,2,3,5,6],zk eZ),(4,[1,3,5],zl ju)]
theorem aac (c:du)(ai:h7 c):br (Du c) (fun r=>h7 r.2∧ (∀ x∈r.1.map (·.hG),2≤x∧x≤12)∧ ∃ ew eZ ju,r.1.map qa=vF ew eZ ju):=by
 unfold Du;refine .eq rfl (.bind (gZ _ 2 ai (by omega)) fun aq h1=>.bind (gZ _ 5 h1.1 (by omega)) fun aD ae=>.eq rfl (.eq rfl ?_));refine .bind (gZ _ 6 ae.1 (by omega)) fun bh aA=>.bind (pg _ aA.1) fun bL aV=>?_;refine .bind (P:=fun m=>(m.1.bM=2∧m.1.dV= [1,2,3,4]∧m.1.hG=bC (3+bh.1))∧ ∃ b,m.2=xw b) (.cond (fun _=>?_) (fun _=>.ret ⟨⟨rfl,rfl,rfl⟩,false,rfl⟩)) fun m1 cP=>?_
 ·exact .eq rfl (.eq (hT _ _ (by simp) (by omega)) (.ret ⟨⟨rfl,rfl,rfl⟩,true,rfl⟩))
 refine .eq rfl (.eq rfl (.bind (gZ _ 6 aV (by omega)) fun cy bc=>.bind (pg _ bc.1) fun cr bs=>?_));refine .bind (P:=fun m=>(m.1.bM=3∧m.1.dV= [1,2,3,5,6]∧m.1.hG=bC (4+cy.1))∧ ∃ b,m.2=zk b) (.cond (fun _=>?_) (fun _=>.ret ⟨⟨rfl,rfl,rfl⟩,false,rfl⟩)) fun m2 dT=>?_
 ·exact .eq rfl (.eq (hT _ _ (by simp) (by omega)) (.ret ⟨⟨rfl,rfl,rfl⟩,true,rfl⟩))
 refine .eq rfl (.bind (gZ _ 5 bs (by omega)) fun cC df=>.bind (pg _ df.1) fun cL dz=>?_);refine .bind (P:=fun m=>(m.1.bM=4∧m.1.dV= [1,3,5]∧m.1.hG=bC (3+cC.1))∧ ∃ b,m.2=zl b) (.cond (fun _=>?_) (fun _=>.ret ⟨⟨rfl,rfl,rfl⟩,false,rfl⟩)) fun m3 hV=>?_
 ·exact .eq rfl (.eq rfl (.eq (hT _ _ (by simp) (by omega)) (.ret ⟨⟨rfl,rfl,rfl⟩,true,rfl⟩)))
 refine .eq rfl (.eq rfl (.eq rfl (.eq rfl (.eq rfl ?_))));obtain⟨⟨b4,a2,a4⟩,ew,a3⟩:=cP;obtain⟨⟨c1,c2,gd⟩,eZ,dh⟩:=dT;obtain⟨⟨d1,d2,d4⟩,ju,d3⟩:=hV;refine br.loop 4 (fun k s=>s.1=(k:Int)∧s.2.1.map qa=vF ew eZ ju∧h7 s.2.2∧s.2.1.map (·.hG)= [bC (2+aD.1),bC (3+bh.1),bC (4+cy.1),bC (3+cC.1)]) (by omega) ⟨rfl,?_,dz,?_⟩ (fun k s hk au=>?_) (fun s au=>?_)
 ·simp only [List.map_cons,List.map_nil,qa,b4,a2,a3,c1,c2,dh,d1,d2,d3,vF];rfl
 ·simp only [List.map_cons,List.map_nil,a4,gd,d4]
 ·obtain⟨i,eF,G2⟩:=s;obtain⟨av,aX,c0,gb⟩:=au;simp only at av aX c0 gb;subst av;refine br.cond (fun _=>?_) (fun h=>by simp at h;omega);have ao:eF.length=4:=by rw [← List.length_map (f:=qa),aX];rfl
  refine .idx rfl (by simpa using hk) (.bind (gZ _ 3 c0 (by omega)) fun dR ea=>.eq (uZ ea.2.1 ?_) (.idx rfl (by simp only;omega) (.eq rfl (.ret ⟨fH (by omega),?_,ea.1,?_⟩))))
  ·have nx:=ea.2.2.1;have:k=0∨k=1∨k=2∨k=3:=by omega
   rcases this with rfl | rfl | rfl | rfl <;> exact nx
  ·exact Ii qa rfl aX
  exact Ii cn.hG rfl gb
 obtain⟨i,eF,G2⟩:=s;obtain⟨av,aX,c0,gb⟩:=au;simp only at av aX c0 gb;subst av;refine⟨_,rfl,?_⟩;refine .ret ⟨c0,fun x ar=>?_,ew,eZ,ju,aX⟩;rw [gb] at ar;have g2:=ae.2;have g3:=aA.2;have g5:=bc.2;have g7:=df.2;simp only [List.mem_cons,List.not_mem_nil,or_false] at ar;rcases ar with rfl | rfl | rfl | rfl <;> (rw [ib (by omega) (by omega)];omega)
theorem S9 (n:Nat)(h:n≤1000):zJ (α:=Bool) 1 (n:Int)=some (List.replicate n default):=by
 unfold zJ;rw [if_pos ⟨by omega,by omega,by omega⟩];simp
theorem aaK (c:du)(eF:List cn)(ai:h7 c)(ao:eF.length≤1000)(hk:∀ t∈eF,t.dr.length≤1000):br (yo c eF) (fun r=>h7 r.2∧r.1.map (·.bM)= [1,2,7]):=by
 unfold yo;refine .bind (gZ _ 3 ai (by omega)) fun aq h1=>.bind (gZ _ 6 h1.1 (by omega)) fun aD ae=>.bind (gZ _ 6 ae.1 (by omega)) fun bh aA=>.bind (gZ _ 4 aA.1 (by omega)) fun bL aV=>?_;refine br.loop eF.length (fun k s=>s.1=(k:Int)∧h7 s.2.2.2.1∧s.2.2.1.length≤k∧s.2.2.2.2.2.1.length≤k∧s.2.2.2.2.2.2.2.length≤k∧s.2.1.bM=7∧s.2.2.2.2.1.bM=2∧s.2.2.2.2.2.2.1.bM=1) (by omega) ⟨rfl,aV.1,by simp,by simp,by simp,rfl,rfl,rfl⟩ (fun k s uw au=>?_) (fun s au=>?_)
 ·obtain⟨i,lB,g1,G2,ia,g2,qE,g3⟩:=s;obtain⟨av,aX,c0,gb,kL,i1,i2,i3⟩:=au;simp only at av aX c0 gb kL i1 i2 i3;subst av;refine br.cond (fun _=>?_) (fun h=>by simp at h;omega);have V0:(aE eF k).dr.length≤1000:=hk _ (by rw [e7 eF uw];exact List.getElem_mem uw);refine .idx rfl uw (.eq (S9 _ V0) (.eq (S9 _ V0) ?_));refine br.loop (aE eF k).dr.length (fun j s=>s.1=(j:Int)∧s.2.1.length=(aE eF k).dr.length∧s.2.2.1.length=(aE eF k).dr.length∧h7 s.2.2.2) (by omega) ⟨rfl,by simp,by simp,aX⟩ (fun j s aF au=>?_) (fun s au=>?_)
  ·obtain⟨i,ew,eZ,ajf⟩:=s;obtain⟨f1,f2,f3,f4⟩:=au;simp only at f1 f2 f3 f4;subst f1;refine br.cond (fun _=>?_) (fun h=>by simp at h;omega);exact .bind (gZ _ 4 f4 (by omega)) fun cC df=>.idx rfl (by simp only;omega) (.idx rfl (by simp only;omega) (.ret ⟨fH (by omega),by simp [ln,f2],by simp [ln,f3],df.1⟩))
  obtain⟨i,ew,eZ,ajf⟩:=s;obtain⟨f1,f2,f3,f4⟩:=au;simp only at f1 f2 f3 f4;subst f1;refine⟨_,by simp;rfl,?_⟩;refine .eq rfl (.eq (hT _ _ (by simp;omega) (by omega)) (.bind (gZ _ 4 f4 (by omega)) fun dR ea=>?_));refine .bind (P:=fun m=>h7 m.1∧m.2.2.length≤k+1∧m.2.1.bM=2) (.cond (fun _=>?_) (fun _=>.ret ⟨ea.1,by simp only;omega,i2⟩)) fun m1 cP=>?_
  ·exact .bind (gZ _ 4 ea.1 (by omega)) fun j1 ux=>.bind (pg _ ux.1) fun xK Km=>.eq rfl (.eq (hT _ _ (by simp;omega) (by omega)) (.ret ⟨Km,by simp;omega,i2⟩))
  refine .bind (pg _ cP.1) fun hW nx=>?_;refine .bind (P:=fun m=>h7 m.1∧m.2.2.length≤k+1∧m.2.1.bM=7) (.cond (fun _=>?_) (fun _=>.ret ⟨nx,by simp only;omega,i1⟩)) fun m2 dT=>?_
  ·exact .bind (pg _ nx) fun kb uy=>.bind (pg _ uy) fun jz GC=>.eq rfl (.eq (hT _ _ (by simp;omega) (by omega)) (.ret ⟨GC,by simp;omega,i1⟩))
  exact .ret ⟨fH (by omega),dT.1,dT.2.1,cP.2.1,by simp;omega,dT.2.2,cP.2.2,i3⟩
 obtain⟨i,lB,g1,G2,ia,g2,qE,g3⟩:=s;obtain⟨av,aX,c0,gb,kL,i1,i2,i3⟩:=au;simp only at av aX c0 gb kL i1 i2 i3;subst av;refine⟨_,by simp;rfl,?_⟩;exact .eq rfl (.eq rfl (.ret ⟨aX,by simp only [List.map_cons,List.map_nil,i1,i2,i3]⟩))
def Ol:List (Int×Int):= [(1,16),(2,16),(3,8),(4,4),(5,4),(6,8),(7,32),(8,12),(9,4)]
def Fg (f:gk):Int×Int:=(f.bM,f.fX)
structure cR (s:aZ):Prop where
 fields:s.gI.map Fg=Ol
 headers:s.oh.length=3
 TM:s.oS.length=3
 Mv:s.dV.map s0=Cp
 tables:∃ ew eZ ju,s.bQ.map qa=vF ew eZ ju
 Fh:s.eR.map (·.bM)= [1,2,7]
 af0:∀ x∈s.bQ.map (·.hG),2≤x∧x≤12
theorem cR.pD {s:aZ}(h:cR s):s.eR.length=3:=by rw [← List.length_map (f:=(·.bM)),h.Fh];rfl
theorem cR.zD {s:aZ}(h:cR s):s.gI.length=9:=by rw [← List.length_map (f:=Fg),h.fields];rfl
theorem cR.mg {s:aZ}(h:cR s):s.bQ.length=4:=by obtain⟨ew,eZ,ju,h1⟩:=h.tables;rw [← List.length_map (f:=qa),h1];rfl
theorem cR.Om {s:aZ}(h:cR s):s.dV.length=6:=by rw [← List.length_map (f:=s0),h.Mv];rfl
theorem Rj (c:du)(ai:h7 c):br (wF c) (fun r=>cR r.1∧h7 r.2):=by
 unfold wF;refine .bind (gZ _ 8 ai (by omega)) fun aq h1=>.bind (gZ _ 30 h1.1 (by omega)) fun aD ae=>?_;refine .eq rfl (.eq rfl (.eq rfl (.eq rfl (.eq rfl (.eq rfl (.eq rfl (.eq rfl (.eq rfl (.eq rfl (.eq rfl (.eq rfl ?_)))))))))));refine .bind (aab _ ae.1) fun bh aA=>.bind (ZJ _ aA.1) fun bL aV=>.bind (aac _ aV.1) fun cy bc=>.eq rfl (.eq rfl ?_);obtain⟨ajg,ed,ew,eZ,ju,bc⟩:=bc;have ao:cy.1.length=4:=by rw [← List.length_map (f:=qa),bc];rfl
 have af1:∀ t∈cy.1,t.dr.length≤1000:=fun t bP=>by
  have bs:qa t∈vF ew eZ ju:=bc ▸ List.mem_map_of_mem bP;have df:∀ p∈vF ew eZ ju,p.2.2.length≤1000:=by
   intro p hp;simp only [vF,List.mem_cons,List.not_mem_nil,or_false] at hp;rcases hp with rfl | rfl | rfl | rfl
   ·simp
   ·cases ew <;> simp [xw]
   ·cases eZ <;> simp [zk]
   cases ju <;> simp [zl]
  exact df _ bs
 refine .bind (aaK _ _ ajg (by simp only;omega) af1) fun cr bs=>.eq rfl (.bind (pg _ bs.1) fun cC df=>?_);let Inv (s:aZ):Prop:=s.gI.map Fg=Ol∧s.oh.length=3∧s.oS.length=3∧s.dV.map s0=Cp∧s.bQ=cy.1∧s.eR.map (·.bM)= [1,2,7];have hinv:∀ (st:List gQ) (CW:List e6) (s:aZ),Inv s→Inv { s with pX:=st,e9:=CW } :=fun st CW s h=>h;refine .bind (P:=fun _=>True) (.cond (fun _=>.eq (hT _ _ (by simp) (by omega)) (.ret trivial)) (fun _=>.ret trivial)) fun m1 _=>?_;refine .bind (pg _ df) fun cL dz=>?_;refine .bind (P:=fun m=>Inv m.1∧m.2.length≤10) (.cond (fun _=>.eq rfl (.eq (hT _ _ (by simp) (by omega)) (.ret ⟨⟨rfl,rfl,aA.2,aV.2,rfl,bs.2⟩,by simp⟩))) (fun _=>.ret ⟨⟨rfl,rfl,aA.2,aV.2,rfl,bs.2⟩,by simp⟩)) fun m2 dT=>?_;refine .bind (pg _ dz) fun dR ea=>?_;refine .cX (P:=fun _=>True) (fun _=>⟨2,oV (k:=2) (by rw [dT.1.2.2.2.2.1];omega),trivial⟩) fun aU _=>?_;refine .bind (P:=fun m=>Inv m.1∧m.2.length≤11) (.cond (fun _=>.eq rfl (.eq (hT _ _ (by have:=dT.2;simp;omega) (by omega)) (.ret ⟨dT.1,by have:=dT.2;simp;omega⟩))) (fun _=>.ret ⟨dT.1,by have:=dT.2;simp only;omega⟩)) fun m3 hV=>?_;refine .bind (pg _ ea) fun hW nx=>?_;refine .cX (P:=fun _=>True) (fun _=>⟨3,oV (k:=3) (by rw [hV.1.2.2.2.2.1];omega),trivial⟩) fun bK _=>?_;refine .bind (P:=fun m=>Inv m.1∧m.2.length≤13) (.cond (fun _=>.eq rfl (.eq rfl (.eq (hT _ _ (by have:=hV.2;simp;omega) (by omega)) (.ret ⟨hV.1,by have:=hV.2;simp;omega⟩)))) (fun _=>.ret ⟨hV.1,by have:=hV.2;simp only;omega⟩)) fun m4 FY=>?_;obtain⟨⟨i1,i2,i3,i4,i5,i6⟩,_⟩:=FY;exact .eq rfl (.ret ⟨⟨i1,i2,i3,i4,⟨ew,eZ,ju,by simp only [i5];exact bc⟩,i6,by simp only [i5];exact ed⟩,nx⟩)
theorem cR.size {s:aZ}(h:cR s){k:Nat}(hk:k<4):2≤ (aE s.bQ k).hG∧ (aE s.bQ k).hG≤12:=by
 have ao:=h.mg;exact h.af0 _ (List.mem_map.2 ⟨_,by rw [e7 _ (by omega)];exact List.getElem_mem _,rfl⟩)
theorem acD (x:Int)(n:Int)(h1:1≤n)(ae:n≤1000000):br (Bh x n) (fun r=>0≤r∧r<n):=by
 unfold Bh;refine .cond (fun h=>by simp at h;omega) fun _=>?_;have hm:∀ y:Int,vB y n=some (y.tmod n):=fun y=>by unfold vB;rw [if_neg (by omega)]
 refine .eq (hm _) ?_;have aA:=Int.tmod_lt_of_pos x (show 0<n by omega);have aV: -n<x.tmod n:=by
  have:=Int.tmod_lt_of_pos (-x) (show 0<n by omega);rw [Int.neg_tmod] at this;omega
 rw [ib (by omega) (by omega)];exact .eq (hm _) (.ret ⟨Int.tmod_nonneg _ (by omega),Int.tmod_lt_of_pos _ (by omega)⟩)
def c7 (v:aO)(i:Nat):Bool:=if i<64 then v.ch.getLsbD i else v.dG.getLsbD (i - 64)
theorem M3 {v w:aO}(h:∀ j,j<128→c7 v j=c7 w j):v=w:=by
 cases v with | mk akl akm=>cases w with | mk akn wl=>
 have h1:akl=akn:=by
  apply BitVec.eq_of_getLsbD_eq;intro i au;have:=h (i+64) (by omega);simpa [c7,show ¬ (i+64<64) by omega] using this
 have ae:akm=wl:=by
  apply BitVec.eq_of_getLsbD_eq;intro i au;have:=h i (by omega);simpa [c7,au] using this
 rw [h1,ae]
theorem EG (j:Nat):c7 default j=false:=by
 unfold c7;split <;> exact BitVec.getLsbD_zero
def FL (x y:aO):aO:= { dG:=x.dG&&&y.dG,ch:=x.ch&&&y.ch }
def WI (x y:aO):aO:= { dG:=x.dG|||y.dG,ch:=x.ch|||y.ch }
def On (x y:aO):aO:= { dG:=x.dG ^^^ y.dG,ch:=x.ch ^^^ y.ch }
@[simp] theorem acE (x y:aO) (j:Nat):c7 (FL x y) j=(c7 x j&&c7 y j):=by unfold c7 FL;split <;> simp
@[simp] theorem akE (x y:aO) (j:Nat):c7 (WI x y) j=(c7 x j||c7 y j):=by unfold c7 WI;split <;> simp
@[simp] theorem acF (x y:aO) (j:Nat):c7 (On x y) j=(c7 x j ^^ c7 y j):=by unfold c7 On;split <;> simp
theorem and_eq (x y:aO):HY x y=some (FL x y):=rfl
theorem xor_eq (x y:aO):Eg x y=some (On x y):=rfl
theorem Ta (x:aO):br (Be x) (fun r=> ∀ j,j<128→cd r j=c7 x j):=by
 unfold Be;refine br.loop 64 (fun k s=>s.1=k∧ ∀ j,j<128→cd s.2 j=(decide (j % 64<k)&&c7 x j)) (by omega)
  ⟨rfl,fun j aF=>by simp [HV]⟩ (fun k s hk au=>?_) (fun s au=>?_)
 ·obtain⟨i,v⟩:=s;obtain⟨h1,ae⟩:=au;simp only at h1 ae;subst h1;have av:bC ((k:Int)+64)=((k+64:Nat):Int):=by rw [ib (by omega) (by omega)];simp
  refine br.cond (fun _=>?_) (fun h=>by simp at h;omega);refine br.idx rfl (show k<128 by omega) (.eq rfl (.idx av (show k+64<128 by omega) (.eq rfl (.ret ⟨fH (by omega),fun j aF=>?_⟩))));simp only [jI _ _ (show k<128 by omega),jI _ _ (show k+64<128 by omega),tK (show k<2 ^ 64 by omega),abF,ae j aF];by_cases F0:j=k+64
  ·subst F0;have h1:(k+64) % 64<k+1:=by omega
   have ae: ¬ (k+64<64):=by omega
   simp only [c7,h1,ae,if_true,if_false,decide_true,Bool.true_and,Nat.add_sub_cancel]
  by_cases pJ:j=k
  ·subst pJ;have:j % 64<j+1:=by omega
   simp [c7,this,hk]
  rw [if_neg F0,if_neg pJ];congr 1;rw [decide_eq_decide];omega
 obtain⟨i,v⟩:=s;obtain⟨h1,ae⟩:=au;simp only at h1 ae;subst h1;refine⟨_,rfl,.ret fun j aF=>?_⟩;have:j % 64<64:=by omega
 simp [ae j aF,this]
theorem R9 (v:aO)(n:Nat)(aQ:n<2 ^ 62):br (Bb v n) (fun r=> ∀ j,j<128→c7 r j=c7 v (j+n)):=by
 unfold Bb;refine .cond (fun h=>.ret fun j aF=>?_) (fun h=>.cond (fun dc=>.eq rfl (.ret fun j aF=>?_)) (fun dc=>.eq rfl (.eq rfl (.ret fun j aF=>?_))))
 ·have:n=0:=by simp at h;omega
  simp [this]
 ·simp only [decide_eq_true_eq] at dc;have av:bC ((n:Int) - 64)=((n - 64:Nat):Int):=by rw [ib (by omega) (by omega)];omega
  rw [av,tK (by omega)];unfold c7;by_cases aF:j<64
  ·rw [if_pos aF,if_neg (by omega)];simp only [BitVec.getLsbD_ushiftRight];congr 1;omega
  rw [if_neg aF,if_neg (by omega)];rw [show(default:aO).dG=0#64 from rfl,BitVec.getLsbD_zero,BitVec.getLsbD_of_ge _ _ (by omega)]
 simp only [decide_eq_false_iff_not] at h dc;have av:bC (64 - (n:Int))=((64 - n:Nat):Int):=by rw [ib (by omega) (by omega)];omega
 rw [av,tK (by omega),tK (by omega)];unfold c7;by_cases aF:j<64
 ·rw [if_pos aF];simp only [BitVec.getLsbD_or,BitVec.getLsbD_ushiftRight,BitVec.getLsbD_shiftLeft];by_cases aA:j+n<64
  ·rw [if_pos aA];have:j<64 - n:=by omega
   simp [this,Nat.add_comm]
  rw [if_neg aA,BitVec.getLsbD_of_ge _ (n+j) (by omega)];have: ¬ (j<64 - n):=by omega
  simp only [aF,this,decide_true,decide_false,Bool.true_and,Bool.not_false,Bool.false_or];congr 1;omega
 rw [if_neg aF,if_neg (by omega)];simp only [BitVec.getLsbD_ushiftRight];congr 1;omega
theorem adI (v:aO)(i:Int):br (yE v i) (fun r=>r=(decide (0≤i∧i<128)&&c7 v i.toNat)):=by
 unfold yE;refine .cX (P:=fun r=> ∀ j,j<128→c7 r j=c7 v (j+i.toNat)) (fun h=>?_) fun y a1=>.eq rfl (.ret ?_)
 ·simp at h;obtain⟨n,rfl⟩:=Int.eq_ofNat_of_zero_le h.1;exact R9 v n (by omega)
 by_cases h:0≤i∧i<128
 ·have h1:(decide (i≥0)&&decide (i<128))=true:=by simp;omega
  rw [h1,S6];have:=a1 h1 0 (by omega);rw [show c7 y 0=y.ch.getLsbD 0 from rfl,Nat.zero_add] at this;rw [this,decide_eq_true h]
 have h1:(decide (i≥0)&&decide (i<128))=false:=by simp;omega
 simp [h1,h]
theorem acG (x y:aO):br (Eg x y) (fun r=> ∀ j,j<128→c7 r j=(c7 x j ^^ c7 y j)):=⟨_,xor_eq x y,fun j _=>acF x y j⟩
theorem Tb (n:Int):br (Bf n) (fun r=> ∀ j,j<128→c7 r j=decide ((j:Int)<n)):=by
 unfold Bf A8;refine .eq rfl (.eq rfl ?_);have hm:bC (128 - min (max 0 n) 128)=((128 - min (max 0 n) 128).toNat:Int):=by rw [ib (by omega) (by omega)];omega
 rw [hm];refine(R9 _ _ (by omega)).bind fun r aI=>.ret fun j aF=>?_;rw [aI j aF];have pA:∀ i,c7 { dG:=18446744073709551615#64,ch:=18446744073709551615#64 } i=decide (i<128):=by
  intro i;have bp:(18446744073709551615#64)=BitVec.allOnes 64:=by rfl
  unfold c7;simp only [bp,BitVec.getLsbD_allOnes];by_cases h:i<64
  ·simp [h];omega
  simp [h];omega
 rw [pA,decide_eq_decide];omega
def xF:List Int:= [16,16,8,4,4,8,32,12,4]
theorem cR.CK {s:aZ}(h:cR s){k:Nat}(hk:k<9):(aE s.gI k).bM=(k:Int)+1∧ (aE s.gI k).fX=aE xF k:=by
 have h1:=Bu Fg (l:=s.gI) (k:=k) (by rw [h.zD];exact hk);rw [h.fields] at h1;have ae:aE Ol k=((k:Int)+1,aE xF k):=by
  have:k=0∨k=1∨k=2∨k=3∨k=4∨k=5∨k=6∨k=7∨k=8:=by omega
  rcases this with rfl | rfl | rfl | rfl | rfl | rfl | rfl | rfl | rfl <;> rfl
 rw [ae] at h1;simp only [Fg,Prod.mk.injEq] at h1;exact⟨h1.1.symm,h1.2.symm⟩
def vG:List (List Int):= [[],[],[16],[4],[4,12],[]]
theorem cR.act {s:aZ}(h:cR s){k:Nat}(hk:k<6):(aE s.dV k).bM=(k:Int)+1∧ (aE s.dV k).lf.map (·.fX)=aE vG k:=by
 have h1:=Bu s0 (l:=s.dV) (k:=k) (by rw [h.Om];exact hk);rw [h.Mv] at h1;have ae:aE Cp k=((k:Int)+1,aE vG k):=by
  have:k=0∨k=1∨k=2∨k=3∨k=4∨k=5:=by omega
  rcases this with rfl | rfl | rfl | rfl | rfl | rfl <;> rfl
 rw [ae] at h1;simp only [s0,Prod.mk.injEq] at h1;exact⟨h1.1.symm,h1.2.symm⟩
def r4 (key:dM):Prop:= ∃ j:Nat,j<9∧key.iq=(j:Int)+1∧1≤key.eg∧key.eg≤4∧4≤aE xF j∧aE xF j≤32∧ (key.eg=2→j=6)
def Ai (key:dM):Int:=aE xF (key.iq - 1).toNat
theorem cR.gG {s:aZ}(h:cR s){k:Nat}(hk:k<4):(aE s.bQ k).bM=(k:Int)+1∧
 (1≤ (aE s.bQ k).dr.length∧ (aE s.bQ k).dr.length≤3)∧ (∀ key∈ (aE s.bQ k).dr,r4 key)∧
 (1≤ (aE s.bQ k).dV.length∧ (aE s.bQ k).dV.length≤5)∧ (∀ a∈ (aE s.bQ k).dV,1≤a∧a≤6):=by
 obtain⟨ew,eZ,ju,bP⟩:=h.tables
 have h1:=Bu qa (l:=s.bQ) (k:=k) (by rw [h.mg];exact hk)
 rw [bP] at h1
 have ae:∀ p:Int×List Int×List dM,p=qa (aE s.bQ k)→p.1=(k:Int)+1→ (1≤p.2.2.length∧p.2.2.length≤3)→ (∀ key∈p.2.2,r4 key)→
  (1≤p.2.1.length∧p.2.1.length≤5)→ (∀ a∈p.2.1,1≤a∧a≤6)→ (aE s.bQ k).bM=(k:Int)+1∧
  (1≤ (aE s.bQ k).dr.length∧ (aE s.bQ k).dr.length≤3)∧ (∀ key∈ (aE s.bQ k).dr,r4 key)∧
  (1≤ (aE s.bQ k).dV.length∧ (aE s.bQ k).dV.length≤5)∧ (∀ a∈ (aE s.bQ k).dV,1≤a∧a≤6):=by
  rintro p rfl a b c d e
  exact⟨a,b,c,d,e⟩
 have a0:(1≤ ([1,2,4]:List Int).length∧ ([1,2,4]:List Int).length≤5)∧ ∀ a∈ ([1,2,4]:List Int),1≤a∧a≤6:=by decide
 have b4:(1≤ ([1,2,3,4]:List Int).length∧ ([1,2,3,4]:List Int).length≤5)∧ ∀ a∈ ([1,2,3,4]:List Int),1≤a∧a≤6:=by decide
 have a2:(1≤ ([1,2,3,5,6]:List Int).length∧ ([1,2,3,5,6]:List Int).length≤5)∧ ∀ a∈ ([1,2,3,5,6]:List Int),1≤a∧a≤6:=by decide
 have a3:(1≤ ([1,3,5]:List Int).length∧ ([1,3,5]:List Int).length≤5)∧ ∀ a∈ ([1,3,5]:List Int),1≤a∧a≤6:=by decide
 have af2:r4 wA:=⟨3,by decide,rfl,by decide,by decide,by decide,by decide,by decide⟩
 have TN:r4 GB:=⟨3,by decide,rfl,by decide,by decide,by decide,by decide,by decide⟩
 have af3:r4 PY:=⟨4,by decide,rfl,by decide,by decide,by decide,by decide,by decide⟩
 have NO:r4 Ah:=⟨6,by decide,rfl,by decide,by decide,by decide,by decide,by decide⟩
 have af4:r4 PX:=⟨2,by decide,rfl,by decide,by decide,by decide,by decide,by decide⟩
 have Vb:r4 G0:=⟨5,by decide,rfl,by decide,by decide,by decide,by decide,by decide⟩
 have Vc:r4 G1:=⟨7,by decide,rfl,by decide,by decide,by decide,by decide,by decide⟩
 have af5:r4 PZ:=⟨8,by decide,rfl,by decide,by decide,by decide,by decide,by decide⟩
 have:k=0∨k=1∨k=2∨k=3:=by omega
 rcases this with rfl | rfl | rfl | rfl
 ·refine ae _ h1 rfl (show 1≤ [wA].length∧ [wA].length≤3 by decide) ?_ a0.1 a0.2
  intro key lq
  rcases List.mem_singleton.1 lq with rfl
  exact af2
 ·refine ae _ h1 rfl ?_ ?_ b4.1 b4.2
  ·show 1≤ (xw ew).length∧ (xw ew).length≤3
   cases ew <;> decide
  intro key lq
  replace lq:key∈xw ew:=lq
  cases ew <;> simp only [xw,List.mem_cons,List.not_mem_nil,or_false,if_true,if_false,Bool.false_eq_true] at lq
  ·subst lq;exact NO
  rcases lq with rfl | rfl;exact NO;exact af4
 ·refine ae _ h1 rfl ?_ ?_ a2.1 a2.2
  ·show 1≤ (zk eZ).length∧ (zk eZ).length≤3
   cases eZ <;> decide
  intro key lq
  replace lq:key∈zk eZ:=lq
  cases eZ <;> simp only [zk,List.mem_cons,List.not_mem_nil,or_false,if_true,if_false,Bool.false_eq_true] at lq
  ·rcases lq with rfl | rfl;exact Vb;exact TN
  rcases lq with rfl | rfl | rfl;exact Vb;exact TN;exact af3
 refine ae _ h1 rfl ?_ ?_ a3.1 a3.2
 ·show 1≤ (zl ju).length∧ (zl ju).length≤3
  cases ju <;> decide
 intro key lq
 replace lq:key∈zl ju:=lq
 cases ju <;> simp only [zl,List.mem_cons,List.not_mem_nil,or_false,if_true,if_false,Bool.false_eq_true] at lq
 ·subst lq;exact Vc
 rcases lq with rfl | rfl | rfl;exact Vc;exact af5;exact NO
theorem aad {s:aZ}(h:cR s){j:Nat}(aF:j<9):br (D6 s ((j:Int)+1)) (fun r=>r=aE xF j):=by
 unfold D6;have ao:=h.zD;refine br.loop j (fun k s=>s=(k:Int)) (by omega) rfl (fun k i hk au=>?_) (fun i au=>?_)
 ·subst au;refine br.cond (fun _=>?_) (fun h=>by simp at h;omega);refine .idx rfl (by omega) (.cond (fun ai=>?_) (fun ai=>.ret (fH (by omega))));have:=(h.CK (show k<9 by omega)).1;simp only [this,beq_iff_eq] at ai;omega
 subst au;have h1:decide ((j:Int)<(s.gI.length:Int))=true:=by simp;omega
 have ae:((aE s.gI j).bM==(j:Int)+1)=true:=by rw [(h.CK aF).1];simp
 rw [h1];simp only [cond_true];rw [oV (by omega)];simp only [Option.bind_some,ae,cond_true];exact⟨_,rfl,.ret (h.CK aF).2⟩
theorem Q1 {s:aZ}(h:cR s){j:Nat}(aF:j<6):br (AX s ((j:Int)+1)) (fun r=>r=aE s.dV j):=by
 unfold AX;have ao:=h.Om;refine br.loop j (fun k s=>s=(k:Int)) (by omega) rfl (fun k i hk au=>?_) (fun i au=>?_)
 ·subst au;refine br.cond (fun _=>?_) (fun h=>by simp at h;omega);refine .idx rfl (by omega) (.cond (fun ai=>?_) (fun ai=>.ret (fH (by omega))));have:=(h.act (show k<6 by omega)).1;simp only [this,beq_iff_eq] at ai;omega
 subst au;have h1:decide ((j:Int)<(s.dV.length:Int))=true:=by simp;omega
 have ae:((aE s.dV j).bM==(j:Int)+1)=true:=by rw [(h.act aF).1];simp
 rw [h1];simp only [cond_true];rw [oV (by omega)];simp only [Option.bind_some,ae,cond_true];exact⟨_,rfl,.ret rfl⟩
theorem Ey {n:Nat}(aQ:n<64)(j:Nat):(((1#64) <<< n) - 1#64).getLsbD j=decide (j<n):=by
 have h1:(((1#64) <<< n) - 1#64).toNat=2 ^ n - 1:=by
  have ae:((1#64) <<< n).toNat=2 ^ n:=by
   rw [BitVec.toNat_shiftLeft,BitVec.toNat_ofNat,Nat.shiftLeft_eq];have:=Nat.pow_lt_pow_right (show 1<2 by omega) aQ;rw [show(1 % 2 ^ 64:Nat)=1 from rfl,Nat.one_mul];exact Nat.mod_eq_of_lt this
  have aA:1≤2 ^ n:=Nat.one_le_two_pow;have aV:=Nat.pow_lt_pow_right (show 1<2 by omega) aQ;rw [BitVec.toNat_sub,ae];simp only [BitVec.toNat_ofNat];omega
 rw [← BitVec.testBit_toNat,h1,Nat.testBit_two_pow_sub_one]
theorem M4 (x:aO)(n:Int)(bH:0≤n)(h1:n<1000):br (yD x n) (fun r=> ∀ j,j<128→c7 r j=(c7 x j&&decide ((j:Int)<n))):=by
 unfold yD;obtain⟨m,rfl⟩:=Int.eq_ofNat_of_zero_le bH;refine .cond (fun h=>.ret fun j aF=>?_) fun h=>.cond (fun dc=>.eq rfl (.ret fun j aF=>?_)) fun dc=>.cond (fun Pl=>.ret fun j aF=>?_) fun Pl=>.eq rfl (.eq rfl (.ret fun j aF=>?_))
 ·simp only [decide_eq_true_eq] at h;have:decide ((j:Int)<(m:Int))=true:=by simp;omega
  rw [this,Bool.and_true]
 ·simp only [decide_eq_true_eq,decide_eq_false_iff_not] at h dc;have e:bC ((m:Int) - 64)=((m - 64:Nat):Int):=by rw [ib (by omega) (by omega)];omega
  simp only [c7,e,tK (show m - 64<2 ^ 64 by omega),BitVec.getLsbD_and,Ey (show m - 64<64 by omega)];split
  ·have:decide ((j:Int)<(m:Int))=true:=by simp;omega
   rw [this,Bool.and_true]
  congr 1;rw [decide_eq_decide];omega
 ·simp only [decide_eq_true_eq] at Pl;have:decide ((j:Int)<(m:Int))=false:=by simp;omega
  rw [EG,this,Bool.and_false]
 simp only [decide_eq_true_eq,decide_eq_false_iff_not] at h dc Pl;simp only [c7,tK (show m<2 ^ 64 by omega),BitVec.getLsbD_and,Ey (show m<64 by omega)];split
 ·congr 1;rw [decide_eq_decide];omega
 have:decide ((j:Int)<(m:Int))=false:=by simp;omega
 rw [this,Bool.and_false];exact BitVec.getLsbD_zero
theorem Vd (w:BitVec 64)(j:Nat):c7 { (default:aO) with ch:=w } j=w.getLsbD j:=by
 unfold c7;split
 ·rfl
 rw [BitVec.getLsbD_of_ge w j (by omega)];exact BitVec.getLsbD_zero
structure r5 (kind b:Int)(m:cg):Prop where
 off:m.fO=false→m=default
 WJ:kind=1→m.fO=true
 low:kind=1→ ∀ j,j<128→c7 m.da j=true→ (j:Int)<b
 ak5:kind=3→ ∀ j,j<128→c7 m.ho j=true→ (j:Int)<b
 ak6:kind=3→ ∀ j,j<128→c7 m.da j=true→c7 m.ho j=true
 pre:0≤m.gm∧m.gm≤32
 WK:kind=2→m.fO=true→1≤m.gm
 WL:kind≠2→m.gm=0
 iC:kind≠3→m.ho=default
 ak7:kind=3→m.fO=true→m.ho≠default
 ak8:kind=4→m.fO=true→m.da.dG=m.nQ.dG∧m.da.ch≤m.nQ.ch
 Pm:kind=2→ ∀ j,j<128→c7 m.da j=true→32 - m.gm≤ (j:Int)∧j<32
 Kn:kind≠4→m.nQ=default
theorem FM:(0:Int)≤0∧ (0:Int)≤32:=⟨Int.le_refl 0,by decide⟩
theorem LQ {kind b:Int}(h:kind≠1):r5 kind b default:=
 ⟨fun _=>rfl,fun k=>absurd k h,fun k=>absurd k h,fun _ j _ bm=>(by rw [show(default:cg).ho=default from rfl,EG] at bm;cases bm),
  fun _ j _ bm=>(by rw [show(default:cg).da=default from rfl,EG] at bm;cases bm),
  FM,fun _ k=>(by cases k),fun _=>rfl,fun _=>rfl,fun _ k=>(by cases k),fun _ k=>(by cases k),
  fun _ j _ bm=>(by rw [show(default:cg).da=default from rfl,EG] at bm;cases bm),fun _=>rfl⟩
theorem acH {a x y:BitVec 64}(h1:a≤x)(ae:a≤y):a≤zy x y:=by
 unfold zy;split <;> assumption
theorem acI {v:aO}{b c:Int}(hb:0≤b∧b≤32)(ai:0≤c∧c<256)(bm:∀ j,j<128→c7 v j=true→ (j:Int)<b):
 v.dG=0#64∧v.ch≤zy (v.ch+BitVec.ofInt 64 c) (((1#64) <<< (BitVec.ofInt 64 b).toNat) - (1#64)):=by
 have gW:v.dG=0#64:=by
  apply BitVec.eq_of_getLsbD_eq;intro i au;have h:=bm (64+i) (by omega);unfold c7 at h;rw [if_neg (by omega),Nat.add_sub_cancel_left] at h;rw [BitVec.getLsbD_zero];cases ar:v.dG.getLsbD i
  ·rfl
  have:=h ar;omega
 obtain⟨n,rfl⟩:=Int.eq_ofNat_of_zero_le hb.1
 have aQ:n≤32:=by omega
 have O8:(BitVec.ofInt 64 (n:Int)).toNat=n:=tK (by omega)
 rw [O8]
 have Ve:v.ch≤ ((1#64) <<< n) - 1#64:=by
  have hand:v.ch&&&(((1#64) <<< n) - 1#64)=v.ch:=by
   apply BitVec.eq_of_getLsbD_eq;intro i au;rw [BitVec.getLsbD_and,Ey (by omega)];have h:=bm i (by omega);unfold c7 at h;rw [if_pos au] at h;cases ar:v.ch.getLsbD i
   ·rfl
   have:=h ar;simp;omega
  rw [← hand];rw [BitVec.le_def,BitVec.toNat_and];exact Nat.and_le_right
 have x7:(((1#64) <<< n) - 1#64).toNat<2 ^ 33:=by
  have Ko:(((1#64) <<< n) - 1#64)&&&(((1#64) <<< 32) - 1#64)=(((1#64) <<< n) - 1#64):=by
   apply BitVec.eq_of_getLsbD_eq;intro i au;rw [BitVec.getLsbD_and,Ey (by omega),Ey (by omega)];simp;omega
  rw [← Ko,BitVec.toNat_and];exact Nat.lt_of_le_of_lt Nat.and_le_right (by decide)
 refine⟨gW,acH ?_ Ve⟩
 rw [BitVec.le_def] at Ve ⊢
 obtain⟨m,rfl⟩:=Int.eq_ofNat_of_zero_le ai.1
 rw [BitVec.toNat_add,tK (by omega),Nat.mod_eq_of_lt (by omega)]
 omega
theorem abI (x:BitVec 64){n:Int}(h1:1≤n)(ae:n≤32){i:Nat}(au:i<128)
 (bm:c7 { (default:aO) with ch:=x&&&((((1#64) <<< (BitVec.ofInt 64 32).toNat) - (1#64)) - (((1#64) <<< (BitVec.ofInt 64 (bC (32 - n))).toNat) - (1#64))) } i=true):32 - n≤ (i:Int)∧i<32:=by
 rw [Vd,BitVec.getLsbD_and,Bool.and_eq_true] at bm
 have aA:=bm.2
 obtain⟨k,hk⟩:=Int.eq_ofNat_of_zero_le (show 0≤32 - n by omega)
 have de:k<32:=by omega
 have e:bC (32 - n)=(k:Int):=by rw [hk,ib (by omega) (by omega)]
 rw [e,tK (by omega)] at aA
 have Pn:i<64:=by
  rcases Nat.lt_or_ge i 64 with h | h
  ·exact h
  rw [BitVec.getLsbD_of_ge _ i h] at aA;cases aA
 have key:∀ (k:Fin 32) (i:Fin 64),((((1#64) <<< (BitVec.ofInt 64 32).toNat) - (1#64)) - (((1#64) <<< k.1) - (1#64))).getLsbD i.1=true→k.1≤i.1∧i.1<32:=by decide +kernel
 have:=key ⟨k,de⟩ ⟨i,Pn⟩ aA
 simp only at this
 omega
theorem aaL (c:du){s:aZ}(key:dM)(ai:h7 c)(h:cR s)(hk:r4 key):
 br (DL c s key) (fun r=>h7 r.2∧r5 key.eg (Ai key) r.1):=by
 obtain⟨j,aF,aY,aU,jQ,KH,ajh,de⟩:=hk
 have hb:Ai key=aE xF j:=by unfold Ai;rw [aY];congr 1;omega
 unfold DL
 rw [aY]
 refine(aad h aF).bind fun aq av=>?_
 rw [hb]
 subst av
 generalize jF:aE xF j=b at *
 refine .bind (gZ _ 256 ai (by omega)) fun aD ae=>.bind (gZ _ 16 ae.1 (by omega)) fun bh aA=>.eq rfl (.bind (gZ _ 16 aA.1 (by omega)) fun bL aV=>.eq rfl ?_)
 refine .bind (M4 _ b (by omega) (by omega)) fun cy bc=>?_
 refine .cond (fun q=>?_) fun q=>?_
 ·have q:key.eg=2:=by simpa using q
  refine .bind (gZ _ 5 aV.1 (by omega)) fun cr bs=>.cond (fun _=>?_) fun _=>.ret ⟨bs.1,LQ (by omega)⟩
  refine .bind (gZ _ b bs.1 (by omega)) fun cC df=>.bind (gZ _ 5 df.1 (by omega)) fun cL dz=>?_
  refine .eq (uZ dz.2.1 (by simpa using dz.2.2.1)) ?_
  have kH:1≤aE [b,8,16,1,bC (1+cC.1)] cL.1.toNat∧aE [b,8,16,1,bC (1+cC.1)] cL.1.toNat≤32:=by
   have cH:cL.1.toNat<[b,8,16,1,bC (1+cC.1)].length:=by have:=dz.2.1;have:=dz.2.2.1;simp;omega
   have hm:=List.getElem_mem cH;rw [← e7 _ cH] at hm;have hw:bC (1+cC.1)=1+cC.1:=ib (by have:=df.2.1;omega) (by have:=df.2.2.1;omega);have:=df.2.1;have:=df.2.2.1;simp only [List.mem_cons,List.not_mem_nil,or_false] at hm;rcases hm with hm | hm | hm | hm | hm <;> rw [hm] <;> omega
  unfold HT
  refine .eq rfl (.eq rfl (.eq rfl (.ret ⟨dz.1,fun h=>(by cases h),fun h=>(by omega),fun h=>by omega,fun h=>(by omega),fun h=>(by omega),⟨by have:=kH.1;show 0≤aE _ _;omega,kH.2⟩,fun _ _=>kH.1,fun h=>absurd q h,fun _=>rfl,fun h=>(by omega),fun h=>(by omega),fun _ i au bm=>?_,fun _=>rfl⟩)))
  have Ko:b=32:=by rw [← jF,de q];rfl
  rw [Ko] at kH bm
  rw [Ko]
  exact abI _ kH.1 kH.2 au bm
 refine .cond (fun ev=>?_) fun ev=>?_
 ·have ev:key.eg=3:=by simpa using ev
  refine .bind (gZ _ 256 aV.1 (by omega)) fun hW nx=>.bind (gZ _ 5 nx.1 (by omega)) fun kb uy=>?_
  refine .eq (uZ uy.2.1 (by simpa using uy.2.2.1)) (.eq rfl (.bind (M4 _ b (by omega) (by omega)) fun jz GC=>?_))
  refine .cond (fun Po=>?_) fun _=>.ret ⟨uy.1,LQ (by omega)⟩
  refine .eq rfl (.eq rfl (.ret ⟨uy.1,fun h=>(by cases h),fun h=>(by omega),fun h=>by omega,fun _ i au bm=>?_,fun _ i au bm=>?_,FM,fun h=>(by omega),fun _=>rfl,fun h=>absurd ev h,fun _ _ hd=>?_,fun h=>(by omega),fun h=>(by omega),fun _=>rfl⟩))
  ·have v8:=GC i au
   simp only at bm
   rw [bm] at v8
   have:=v8.symm
   simp only [Bool.and_eq_true,decide_eq_true_eq] at this
   exact this.2
  ·simp only at bm ⊢
   rw [Vd,BitVec.getLsbD_and,Bool.and_eq_true] at bm
   have Pn:i<64:=by
    rcases Nat.lt_or_ge i 64 with h | h
    ·exact h
    rw [BitVec.getLsbD_of_ge _ i h] at bm;cases bm.1
   unfold c7;rw [if_pos Pn];exact bm.2
  have hd':jz=default:=hd
  rw [hd'] at Po;simp at Po
  exact Po rfl
 refine .cond (fun gw=>?_) fun gw=>?_
 ·have gw:key.eg=4:=by simpa using gw
  refine .bind (gZ _ 256 aV.1 (by omega)) fun kt v8=>.eq rfl (.bind (gZ _ 5 v8.1 (by omega)) fun j1 ux=>.eq rfl (.cond (fun _=>?_) fun _=>.ret ⟨ux.1,LQ (by omega)⟩))
  have wa:=acI (v:=cy) (b:=b) (c:=kt.1) ⟨by omega,ajh⟩ ⟨v8.2.1,v8.2.2.1⟩ fun i au bm=>by
   have Km:=bc i au;rw [bm] at Km;have:=Km.symm;simp only [Bool.and_eq_true,decide_eq_true_eq] at this;exact this.2
  exact .eq rfl (.ret ⟨ux.1,fun h=>(by cases h),fun h=>(by omega),fun h=>by omega,fun h=>(by omega),fun h=>(by omega),FM,fun h=>(by omega),fun _=>rfl,fun _=>rfl,fun h=>(by omega),fun _ _=>wa,fun h=>(by omega),fun h=>absurd gw h⟩)
 have aB:key.eg=1:=by
  simp only [beq_eq_false_iff_ne] at q ev gw;omega
 refine .eq rfl (.ret ⟨aV.1,fun h=>(by cases h),fun _=>rfl,fun _ i au bm=>?_,fun h=>(by omega),fun h=>(by omega),FM,fun h=>(by omega),fun _=>rfl,fun _=>rfl,fun h=>(by omega),fun h=>(by omega),fun h=>(by omega),fun _=>rfl⟩)
 have v8:=bc i au
 simp only at bm
 rw [bm] at v8
 have:=v8.symm
 simp only [Bool.and_eq_true,decide_eq_true_eq] at this
 exact this.2
structure gp (s:aZ)(k:Nat)(e:a8):Prop where
 gG:e.b3=(k:Int)+1
 len:e.cU.length=(aE s.bQ k).dr.length
 CL:∀ i,i<(aE s.bQ k).dr.length→r5 (aE (aE s.bQ k).dr i).eg (Ai (aE (aE s.bQ k).dr i)) (aE e.cU i)
 args:e.fP.length≤10
 pri:(∀ i,i<(aE s.bQ k).dr.length→ (aE (aE s.bQ k).dr i).eg≤2)→e.gl=0
theorem Ij {α:Type}[Inhabited α](l:List α)(x:α)(i:Nat):aE (l++[x]) i=if i=l.length then x else aE l i:=by
 unfold aE;by_cases h:i=l.length
 ·subst h;simp
 rw [if_neg h];rcases Nat.lt_or_ge i l.length with h1 | h1
 ·rw [List.getElem?_append_left h1]
 rw [List.getElem?_eq_none (by simp;omega),List.getElem?_eq_none h1]
theorem aaM (c:du){s:aZ}(x:Int)(ai:h7 c)(h:cR s):
 br (yq c s x) (fun r=>h7 r.2∧ ∃ k:Nat,k<4∧Bh x (s.bQ.length:Int)=some (k:Int)∧gp s k r.1):=by
 unfold yq
 obtain⟨aq,av,bH,h1⟩:=acD x (s.bQ.length:Int) (by rw [h.mg];omega) (by rw [h.mg];omega)
 obtain⟨k,rfl⟩:=Int.eq_ofNat_of_zero_le bH
 have hk:k<4:=by have:=h.mg;omega
 obtain⟨t1,⟨t2,t3⟩,t4,⟨t5,t6⟩,t7⟩:=h.gG hk
 refine .eq av (.idx rfl (by have:=h.mg;omega) ?_)
 refine br.loop (aE s.bQ k).dr.length (fun i st=>st.1=(i:Int)∧st.2.1.b3=(k:Int)+1∧st.2.2.1.length=i∧h7 st.2.2.2∧
  (∀ j,j<i→r5 (aE (aE s.bQ k).dr j).eg (Ai (aE (aE s.bQ k).dr j)) (aE st.2.2.1 j))∧ ((∀ j,j<i→ (aE (aE s.bQ k).dr j).eg≤2)→st.2.1.gl=0)) (by omega) ⟨rfl,t1,rfl,ai,fun j aF=>by omega,fun _=>rfl⟩ (fun i st au hs=>?_) (fun st hs=>?_)
 ·obtain⟨tB,e,ms,G2⟩:=st;obtain⟨aX,c0,gb,kL,la,Aj⟩:=hs
  simp only at aX c0 gb kL la Aj;subst aX
  refine br.cond (fun _=>?_) (fun h=>by simp at h;omega)
  refine .idx rfl au (.bind (aaL _ _ kL h (t4 _ (by rw [e7 _ au];exact List.getElem_mem au))) fun aD ae=>.eq (hT _ _ (by simp;omega) (by omega)) (.eq rfl ?_))
  refine .bind (P:=fun m=>m.1.b3=(k:Int)+1∧h7 m.2∧ ((aE (aE s.bQ k).dr i).eg≤2→m.1.gl=e.gl)) (.cond (fun cJ=>.bind (gZ _ 5 ae.1 (by omega)) fun bL aV=>.eq rfl (.ret ⟨c0,aV.1,fun h=>by simp at cJ;omega⟩)) (fun _=>.ret ⟨c0,ae.1,fun _=>rfl⟩)) fun m1 cP=>?_
  refine .ret ⟨fH (by omega),cP.1,by simp;omega,cP.2.1,fun j aF=>?_,fun h=>?_⟩
  ·simp only [Ij]
   by_cases pJ:j=ms.length
   ·rw [if_pos pJ];rw [pJ,gb];exact ae.2
   rw [if_neg pJ];exact la j (by omega)
  exact(cP.2.2 (h i (by omega))).trans (Aj fun j aF=>h j (by omega))
 obtain⟨tB,e,ms,G2⟩:=st;obtain⟨aX,c0,gb,kL,la,Aj⟩:=hs
 simp only at aX c0 gb kL la Aj;subst aX
 refine⟨_,by simp;rfl,?_⟩
 refine .bind (gZ _ _ kL (by omega)) fun cy bc=>?_
 refine .eq (uZ bc.2.1 bc.2.2.1) (.eq rfl ?_)
 have a7:1≤aE (aE s.bQ k).dV cy.1.toNat∧aE (aE s.bQ k).dV cy.1.toNat≤6:=t7 _ (by
  have cH:cy.1.toNat<(aE s.bQ k).dV.length:=by have:=bc.2.1;have:=bc.2.2.1;omega
  rw [e7 _ cH];exact List.getElem_mem cH)
 obtain⟨a,fT⟩:=Int.eq_ofNat_of_zero_le (show 0≤aE (aE s.bQ k).dV cy.1.toNat - 1 by omega)
 have aji:aE (aE s.bQ k).dV cy.1.toNat=(a:Int)+1:=by omega
 simp only [aji]
 refine .bind (Q1 h (show a<6 by omega)) fun cr bs=>?_
 obtain⟨bk,bB⟩:=h.act (show a<6 by omega)
 rw [← bs] at bB
 have hp:cr.lf.length≤10∧ ∀ i,i<cr.lf.length→0≤ (aE cr.lf i).fX∧ (aE cr.lf i).fX<1000:=by
  have hq:∀ l∈vG,l.length≤10∧ ∀ b∈l,0≤b∧b<1000:=by decide
  have hm:aE vG a∈vG:=by rw [e7 vG (show a<vG.length by simp [vG];omega)];exact List.getElem_mem _
  obtain⟨aB,ef⟩:=hq _ hm;rw [← bB] at aB ef;refine⟨by simpa using aB,fun i au=>ef _ ?_⟩;rw [e7 _ au];exact List.mem_map.2 ⟨_,List.getElem_mem au,rfl⟩
 refine br.loop cr.lf.length (fun i st=>st.1=(i:Int)∧st.2.1.b3=(k:Int)+1∧st.2.2.1.length=i∧h7 st.2.2.2∧st.2.1.gl=e.gl) (by omega) ⟨rfl,c0,rfl,bc.1,rfl⟩ (fun i st au hs=>?_) (fun st hs=>?_)
 ·obtain⟨tB,e',vs,ajj⟩:=st;obtain⟨f2,f3,f4,f5,f6⟩:=hs
  simp only at f2 f3 f4 f5 f6;subst f2
  refine br.cond (fun _=>?_) (fun h=>by simp at h;omega)
  refine .idx rfl au (.bind (gZ _ 256 f5 (by omega)) fun cC df=>.eq rfl (.bind (M4 _ _ (hp.2 i au).1 (hp.2 i au).2) fun cL dz=>.eq (hT _ _ (by have:=hp.1;simp;omega) (by omega)) (.ret ⟨fH (by have:=hp.1;omega),f3,by simp;omega,df.1,f6⟩)))
 obtain⟨tB,e',vs,ajj⟩:=st;obtain⟨f2,f3,f4,f5,f6⟩:=hs
 simp only at f2 f3 f4 f5 f6;subst f2
 refine⟨_,by simp;rfl,?_⟩
 exact .eq rfl (.ret ⟨f5,k,hk,av,f3,gb,la,by show vs.length≤10;have:=hp.1;omega,fun h=>f6.trans (Aj h)⟩)
structure af6 (s:aZ)(r:Vector (List Int) 6):Prop where
 fields:cd r 0=s.gI.map (·.bM)
 headers:cd r 1=s.oh.map (·.bM)
 TM:cd r 2=s.oS.map (·.bM)
 Mv:cd r 3=s.dV.map (·.bM)
 tables:cd r 4=s.bQ.map (·.bM)
 Fh:cd r 5=s.eR.map (·.bM)
theorem M5 {s:aZ}(h:cR s):br (Bi s) (af6 s):=by
 unfold Bi;have Ae:=h.zD;have PR:=h.headers;have Xa:=h.TM;have P0:=h.Om;have alB:=h.mg;have alC:=h.pD;refine br.loop s.gI.length (fun k st=>st.1=(k:Int)∧st.2.1=(s.gI.take k).map (·.bM)) (by omega) ⟨rfl,rfl⟩ (fun k st hk au=>?_) (fun st au=>?_)
 ·obtain⟨i,a,v⟩:=st;obtain⟨av,aX⟩:=au;simp only at av aX;subst av;subst aX;refine br.cond (fun _=>?_) (fun h=>by simp at h;omega);exact .idx rfl hk (.eq (hT _ _ (by simp;omega) (by omega)) (.ret ⟨fH (by omega),by rw [nI _ hk,List.map_append];rfl⟩))
 obtain⟨i,a0,v⟩:=st;obtain⟨av,aX⟩:=au;simp only at av aX;subst av;subst aX;refine⟨_,by simp only [show decide ((s.gI.length:Int)<(s.gI.length:Int))=false by simp,cond_false];rfl,?_⟩;refine br.loop s.oh.length (fun k st=>st.1=(k:Int)∧st.2.1=(s.oh.take k).map (·.bM)) (by omega) ⟨rfl,rfl⟩ (fun k st hk au=>?_) (fun st au=>?_)
 ·obtain⟨i,a,v⟩:=st;obtain⟨av,aX⟩:=au;simp only at av aX;subst av;subst aX;refine br.cond (fun _=>?_) (fun h=>by simp at h;omega);exact .idx rfl hk (.eq (hT _ _ (by simp;omega) (by omega)) (.ret ⟨fH (by omega),by rw [nI _ hk,List.map_append];rfl⟩))
 obtain⟨i,b4,v⟩:=st;obtain⟨av,aX⟩:=au;simp only at av aX;subst av;subst aX;refine⟨_,by simp only [show decide ((s.oh.length:Int)<(s.oh.length:Int))=false by simp,cond_false];rfl,?_⟩;refine br.loop s.oS.length (fun k st=>st.1=(k:Int)∧st.2.1=(s.oS.take k).map (·.bM)) (by omega) ⟨rfl,rfl⟩ (fun k st hk au=>?_) (fun st au=>?_)
 ·obtain⟨i,a,v⟩:=st;obtain⟨av,aX⟩:=au;simp only at av aX;subst av;subst aX;refine br.cond (fun _=>?_) (fun h=>by simp at h;omega);exact .idx rfl hk (.eq (hT _ _ (by simp;omega) (by omega)) (.ret ⟨fH (by omega),by rw [nI _ hk,List.map_append];rfl⟩))
 obtain⟨i,a2,v⟩:=st;obtain⟨av,aX⟩:=au;simp only at av aX;subst av;subst aX;refine⟨_,by simp only [show decide ((s.oS.length:Int)<(s.oS.length:Int))=false by simp,cond_false];rfl,?_⟩;refine br.loop s.dV.length (fun k st=>st.1=(k:Int)∧st.2.1=(s.dV.take k).map (·.bM)) (by omega) ⟨rfl,rfl⟩ (fun k st hk au=>?_) (fun st au=>?_)
 ·obtain⟨i,a,v⟩:=st;obtain⟨av,aX⟩:=au;simp only at av aX;subst av;subst aX;refine br.cond (fun _=>?_) (fun h=>by simp at h;omega);exact .idx rfl hk (.eq (hT _ _ (by simp;omega) (by omega)) (.ret ⟨fH (by omega),by rw [nI _ hk,List.map_append];rfl⟩))
 obtain⟨i,a3,v⟩:=st;obtain⟨av,aX⟩:=au;simp only at av aX;subst av;subst aX;refine⟨_,by simp only [show decide ((s.dV.length:Int)<(s.dV.length:Int))=false by simp,cond_false];rfl,?_⟩;refine br.loop s.bQ.length (fun k st=>st.1=(k:Int)∧st.2.1=(s.bQ.take k).map (·.bM)) (by omega) ⟨rfl,rfl⟩ (fun k st hk au=>?_) (fun st au=>?_)
 ·obtain⟨i,a,v⟩:=st;obtain⟨av,aX⟩:=au;simp only at av aX;subst av;subst aX;refine br.cond (fun _=>?_) (fun h=>by simp at h;omega);exact .idx rfl hk (.eq (hT _ _ (by simp;omega) (by omega)) (.ret ⟨fH (by omega),by rw [nI _ hk,List.map_append];rfl⟩))
 obtain⟨i,a4,v⟩:=st;obtain⟨av,aX⟩:=au;simp only at av aX;subst av;subst aX;refine⟨_,by simp only [show decide ((s.bQ.length:Int)<(s.bQ.length:Int))=false by simp,cond_false];rfl,?_⟩;refine br.loop s.eR.length (fun k st=>st.1=(k:Int)∧st.2.1=(s.eR.take k).map (·.bM)) (by omega) ⟨rfl,rfl⟩ (fun k st hk au=>?_) (fun st au=>?_)
 ·obtain⟨i,a,v⟩:=st;obtain⟨av,aX⟩:=au;simp only at av aX;subst av;subst aX;refine br.cond (fun _=>?_) (fun h=>by simp at h;omega);exact .idx rfl hk (.eq (hT _ _ (by simp;omega) (by omega)) (.ret ⟨fH (by omega),by rw [nI _ hk,List.map_append];rfl⟩))
 obtain⟨i,a5,v⟩:=st;obtain⟨av,aX⟩:=au;simp only at av aX;subst av;subst aX;refine⟨_,by simp only [show decide ((s.eR.length:Int)<(s.eR.length:Int))=false by simp,cond_false];rfl,?_⟩;refine .eq rfl (.ret ⟨?_,?_,?_,?_,?_,?_⟩)
 ·simp only [List.take_length];rw [jI _ _ (by omega),if_neg (by omega),jI _ _ (by omega),if_neg (by omega),jI _ _ (by omega),if_neg (by omega),jI _ _ (by omega),if_neg (by omega),jI _ _ (by omega),if_neg (by omega),jI _ _ (by omega),if_pos rfl]
 ·simp only [List.take_length];rw [jI _ _ (by omega),if_neg (by omega),jI _ _ (by omega),if_neg (by omega),jI _ _ (by omega),if_neg (by omega),jI _ _ (by omega),if_neg (by omega),jI _ _ (by omega),if_pos rfl]
 ·simp only [List.take_length];rw [jI _ _ (by omega),if_neg (by omega),jI _ _ (by omega),if_neg (by omega),jI _ _ (by omega),if_neg (by omega),jI _ _ (by omega),if_pos rfl]
 ·simp only [List.take_length];rw [jI _ _ (by omega),if_neg (by omega),jI _ _ (by omega),if_neg (by omega),jI _ _ (by omega),if_pos rfl]
 ·simp only [List.take_length];rw [jI _ _ (by omega),if_neg (by omega),jI _ _ (by omega),if_pos rfl]
 simp only [List.take_length];rw [jI _ _ (by omega),if_pos rfl]
theorem TO (l:List Int)(x:Int)(ao:l.length<2 ^ 30):br (wQ l x) (fun r=>(r= -1∧x ∉ l)∨ ∃ k:Nat,k<l.length∧r=(k:Int)∧aE l k=x):=by
 unfold wQ;refine aaI l (fun y=>y==x) (by omega) (fun k hk hp=>?_) (fun k hk hq hp=>?_) (fun hq=>?_)
 ·simp only [show decide ((k:Int)<(l.length:Int))=true by simp;omega,cond_true,oV hk,Option.bind_some,hp,cond_false]
 ·refine⟨_,by simp only [show decide ((k:Int)<(l.length:Int))=true by simp;omega,cond_true,oV hk,Option.bind_some,hp];rfl,?_⟩;exact .ret (.inr ⟨k,hk,rfl,by simpa using hp⟩)
 refine⟨_,by simp only [show decide ((l.length:Int)<(l.length:Int))=false by simp,cond_false];rfl,?_⟩;refine .ret (.inl ⟨rfl,fun ar=>?_⟩);have:=List.find?_eq_none.1 hq x ar;simp at this
theorem Yw {xs:List cn}{f:cn→Option Bool}{g:cn→Bool}(aY:∀ x∈xs,f x=some (g x))(ao:xs.length<2 ^ 62):
 br (C2 xs f) (fun r=>(r= -1∧ ∀ x∈xs,g x=false)∨ ∃ i:Nat,i<xs.length∧r=i∧g (aE xs i)=true∧ ∀ j,j<i→g (aE xs j)=false):=by
 unfold C2
 refine br.loop xs.length (fun k s=>s=(k:Int)∧ ∀ j,j<k→g (aE xs j)=false) (by omega) ⟨rfl,fun j aF=>by omega⟩ (fun k s hk au=>?_) (fun s au=>?_)
 ·obtain⟨av,aX⟩:=au;subst av
  refine br.cond (fun _=>?_) (fun h=>by simp at h;omega)
  refine .idx rfl hk (.eq (aY _ (by rw [e7 xs hk];exact List.getElem_mem hk)) (.cond (fun h=>.ret ?_) (fun h=>.ret ⟨fH (by omega),fun j aF=>?_⟩)))
  ·exact .ret (.inr ⟨k,hk,rfl,h,aX⟩)
  by_cases tr:j=k
  ·subst tr;exact h
  exact aX j (by omega)
 obtain⟨av,aX⟩:=au;subst av
 refine⟨_,by simp;rfl,?_⟩
 refine .ret (.inl ⟨rfl,fun x ar=>?_⟩)
 obtain⟨j,aF,rfl⟩:=List.mem_iff_getElem.1 ar
 rw [← e7 xs aF];exact aX j aF
theorem Yx {xs:List gk}{f:gk→Option Bool}{g:gk→Bool}(aY:∀ x∈xs,f x=some (g x))(ao:xs.length<2 ^ 62):
 br (C3 xs f) (fun r=>(r= -1∧ ∀ x∈xs,g x=false)∨ ∃ i:Nat,i<xs.length∧r=i∧g (aE xs i)=true∧ ∀ j,j<i→g (aE xs j)=false):=by
 unfold C3
 refine br.loop xs.length (fun k s=>s=(k:Int)∧ ∀ j,j<k→g (aE xs j)=false) (by omega) ⟨rfl,fun j aF=>by omega⟩ (fun k s hk au=>?_) (fun s au=>?_)
 ·obtain⟨av,aX⟩:=au;subst av
  refine br.cond (fun _=>?_) (fun h=>by simp at h;omega)
  refine .idx rfl hk (.eq (aY _ (by rw [e7 xs hk];exact List.getElem_mem hk)) (.cond (fun h=>.ret ?_) (fun h=>.ret ⟨fH (by omega),fun j aF=>?_⟩)))
  ·exact .ret (.inr ⟨k,hk,rfl,h,aX⟩)
  by_cases tr:j=k
  ·subst tr;exact h
  exact aX j (by omega)
 obtain⟨av,aX⟩:=au;subst av
 refine⟨_,by simp;rfl,?_⟩
 refine .ret (.inl ⟨rfl,fun x ar=>?_⟩)
 obtain⟨j,aF,rfl⟩:=List.mem_iff_getElem.1 ar
 rw [← e7 xs aF];exact aX j aF
theorem LA {s:aZ}(h:cR s){k:Nat}(hk:k<4):br (yx s ((k:Int)+1)) (fun r=>r=(k:Int)):=by
 unfold yx;refine(Yw (g:=fun t=>t.bM==(k:Int)+1) (fun x ar=>rfl) (by rw [h.mg];omega)).bind fun r aI=>.ret ?_;have de:k<s.bQ.length:=by rw [h.mg];exact hk
 rcases aI with⟨_,aI⟩ | ⟨i,h1,ae,aA,aV⟩
 ·have:=aI (aE s.bQ k) (by rw [e7 _ de];exact List.getElem_mem de);simp only [(h.gG hk).1,beq_self_eq_true] at this;cases this
 have bc:=(h.gG (show i<4 by have:=h.mg;omega)).1;simp only [bc,beq_iff_eq] at aA;omega
theorem ZK {s:aZ}(h:cR s){k:Nat}(hk:k<9):br (DX s ((k:Int)+1)) (fun r=>r=(k:Int)):=by
 unfold DX;refine(Yx (g:=fun t=>t.bM==(k:Int)+1) (fun x ar=>rfl) (by rw [h.zD];omega)).bind fun r aI=>.ret ?_;have de:k<s.gI.length:=by rw [h.zD];exact hk
 rcases aI with⟨_,aI⟩ | ⟨i,h1,ae,aA,aV⟩
 ·have:=aI (aE s.gI k) (by rw [e7 _ de];exact List.getElem_mem de);simp only [(h.CK hk).1,beq_self_eq_true] at this;cases this
 have bc:=(h.CK (show i<9 by have:=h.zD;omega)).1;simp only [bc,beq_iff_eq] at aA;omega
theorem abJ (l:List Int){k:Nat}(hk:k<l.length)(ao:l.length<2 ^ 30)(h:∀ j,j<l.length→aE l j=(j:Int)+1):br (wQ l ((k:Int)+1)) (fun r=>r=(k:Int)):=by
 unfold wQ;refine br.loop k (fun j s=>s=(j:Int)) (by omega) rfl (fun j i aF au=>?_) (fun i au=>?_)
 ·subst au;refine br.cond (fun _=>?_) (fun h=>by simp at h;omega);refine .idx rfl (by omega) (.cond (fun ai=>?_) (fun ai=>.ret (fH (by omega))));rw [h j (by omega),beq_iff_eq] at ai;omega
 subst au;have h1:decide ((k:Int)<(l.length:Int))=true:=by simp;omega
 have ae:(aE l k==(k:Int)+1)=true:=by rw [h k hk];simp
 rw [h1];simp only [cond_true];rw [oV (by omega)];simp only [Option.bind_some,ae,cond_true];exact⟨_,rfl,.ret rfl⟩
theorem ZL {s:aZ}(h:cR s){k:Nat}(hk:k<4):br (A0 s ((k:Int)+1)) (fun r=>r=(k:Int)):=by
 unfold A0;refine(M5 h).bind fun y a1=>?_;have ao:=h.mg;rw [a1.tables];refine(abJ _ (by simp;omega) (by simp;omega) fun j aF=>?_).bind fun r aI=>.ret aI;rw [Bu _ (by simpa using aF)];exact(h.gG (by simp at aF;omega)).1
def lead (n k:Int)(j:Nat):Bool:=decide ((j:Int)<n)&&decide (n - max 0 (min k n)≤ (j:Int))
theorem aae (n k:Int)(bH:0≤n)(h1:n≤128):br (DY n k) (fun r=> ∀ j,j<128→c7 r j=lead n k j):=by
 unfold DY A8;have e:min (max 0 n) 128=n:=by omega
 rw [e];have aX:bC (n - min (max 0 k) n)=n - min (max 0 k) n:=ib (by omega) (by omega);refine .eq rfl ((Tb n).bind fun a a7=>?_);rw [aX];refine(Tb _).bind fun b hb=>(acG a b).bind fun r aI=>.ret fun j aF=>?_;rw [aI j aF,a7 j aF,hb j aF];unfold lead;by_cases p:(j:Int)<n
 ·rw [decide_eq_true p];by_cases q:(j:Int)<n - min (max 0 k) n
  ·rw [decide_eq_true q,decide_eq_false (by omega)];rfl
  rw [decide_eq_false q,decide_eq_true (by omega)];rfl
 rw [decide_eq_false p,decide_eq_false (by omega)];rfl
def sq (a b:aO):Bool:=decide (a.dG<b.dG)||(a.dG==b.dG&&decide (a.ch<b.ch))
theorem Mw {a b:aO} :sq a b=true↔a.dG<b.dG∨ (a.dG=b.dG∧a.ch<b.ch):=by simp [sq]
theorem aaf (a:aO):sq a a=false:=by simp [sq]
theorem RI {a b:aO}(h:sq a b=true):sq b a=false:=by
 rw [Bool.eq_false_iff];intro ae;rw [Mw] at h ae;simp only [BitVec.lt_def,BitVec.toNat_eq] at h ae;omega
theorem aag {x y i:Nat}(h1:x.testBit i=false)(ae:y.testBit i=true)(aA:∀ j,i<j→x.testBit j=y.testBit j):x<y:=by
 have aV:x / 2 ^ (i+1)=y / 2 ^ (i+1):=Nat.eq_of_testBit_eq fun j=>by
  rw [Nat.testBit_div_two_pow,Nat.testBit_div_two_pow];exact aA _ (by omega)
 rw [Nat.testBit_eq_decide_div_mod_eq] at h1 ae;simp only [decide_eq_false_iff_not,decide_eq_true_eq] at h1 ae;rw [Nat.pow_succ,← Nat.div_div_eq_div_mul,← Nat.div_div_eq_div_mul] at aV;have bc:x / 2 ^ i<y / 2 ^ i:=by omega
 exact Nat.lt_of_div_lt_div bc
theorem Tc {x y:BitVec 64}{i:Nat}(h1:x.getLsbD i=false)(ae:y.getLsbD i=true)(aA:∀ j,i<j→j<64→x.getLsbD j=y.getLsbD j):x<y:=by
 rw [BitVec.lt_def];refine aag h1 ae fun j aF=>?_;by_cases pJ:j<64
 ·exact aA j aF pJ
 show x.getLsbD j=y.getLsbD j;rw [BitVec.getLsbD_of_ge _ _ (by omega),BitVec.getLsbD_of_ge _ _ (by omega)]
theorem Sa {a b:aO}{i:Nat}(au:i<128)(h1:c7 a i=false)(ae:c7 b i=true)(aA:∀ j,i<j→j<128→c7 a j=c7 b j):sq a b=true:=by
 rw [Mw];by_cases h:i<64
 ·right;unfold c7 at h1 ae;rw [if_pos h] at h1 ae;constructor
  ·apply BitVec.eq_of_getLsbD_eq;intro j aF;have:=aA (j+64) (by omega) (by omega);unfold c7 at this;rw [if_neg (by omega),if_neg (by omega)] at this;simpa using this
  refine Tc h1 ae fun j aF pJ=>?_;have:=aA j aF (by omega);unfold c7 at this;rwa [if_pos pJ,if_pos pJ] at this
 left;unfold c7 at h1 ae;rw [if_neg h] at h1 ae;refine Tc h1 ae fun j aF pJ=>?_;have:=aA (j+64) (by omega) (by omega);unfold c7 at this;rw [if_neg (by omega),if_neg (by omega)] at this;simpa using this
theorem ZM (a b:aO):br (uJ a b) (fun r=>(r>0↔sq b a=true)∧ (r<0↔sq a b=true)):=by
 unfold uJ;refine(Ta a).bind fun x ar=>(Ta b).bind fun y a1=>?_;refine br.loop 128 (fun k s=>s=127 - (k:Int)∧ ∀ j,128≤j+k→j<128→c7 a j=c7 b j) (by omega) ⟨rfl,fun j h1 ae=>by omega⟩ (fun k s hk au=>?_) (fun s au=>?_)
 ·obtain⟨rfl,aX⟩:=au;refine br.cond (fun _=>?_) (fun h=>by simp at h;omega);have uw:(127 - (k:Int))=((127 - k:Nat):Int):=by omega
  have xG:127 - k<128:=by omega
  refine .idx uw xG (.idx uw xG ?_);rw [ar _ xG,a1 _ xG];refine .cond (fun dC=>.idx uw xG ?_) fun heq=>.ret ⟨?_,fun j h1 ae=>?_⟩
  ·have heq:∀ j,127 - k<j→j<128→c7 a j=c7 b j:=fun j h1 ae=>aX j (by omega) ae;rw [a1 _ xG];refine .cond (fun hb=>.ret (.ret ?_)) fun hb=>.ret (.ret ?_)
   ·have a7:c7 a (127 - k)=false:=by rw [hb] at dC;simpa using dC
    have:=Sa xG a7 hb heq;exact⟨⟨fun h=>by simp at h,fun h=>by rw [RI this] at h;cases h⟩,fun _=>this,fun _=>by simp⟩
   have a7:c7 a (127 - k)=true:=by rw [hb] at dC;simpa using dC
   have:=Sa xG hb a7 fun j h1 ae=>(heq j h1 ae).symm;exact⟨⟨fun _=>this,fun _=>by simp⟩,fun h=>by simp at h,fun h=>by rw [RI this] at h;cases h⟩
  ·rw [ib (by omega) (by omega)];omega
  by_cases aF:j=127 - k
  ·subst aF;simpa using heq
  exact aX j (by omega) ae
 obtain⟨rfl,aX⟩:=au;refine⟨_,rfl,?_⟩;have:a=b:=M3 fun j aF=>aX j (by omega) aF;subst this;refine .ret ⟨?_,?_⟩ <;> simp [aaf]
end Go.Proofs.YtppgfphgdogpeaaGreat
namespace Gv
structure wb {α:Type}(b:α→α→Bool):Prop where
 asymm:∀ x y,b x y=true→b y x=false
 trans:∀ x y z,b x y=true→b y z=true→b x z=true
def ins {α:Type}(b:α→α→Bool):List α→α→List α
 | [],x=>[x]
 | a::l,x=>if b a x=true then a::ins b l x else x::a::l
def iU {α:Type}(b:α→α→Bool)(l:List α):List α:=l.foldl (ins b) []
def lY {α:Type}(b:α→α→Bool):List α→α→Nat
 | [],_=>0
 | a::l,x=>if b a x=true then lY b l x+1 else 0
def CM {α:Type}(b:α→α→Bool)(x y:α):Prop:=b x y=true∨b y x=true
variable {α:Type} {b:α→α→Bool}
theorem Sb (a:α)(l:List α)(x:α):ins b (a::l) x=if b a x=true then a::ins b l x else x::a::l:=rfl
theorem M6:∀ {l:List α} {x:α},lY b l x≤l.length
 | [],_=>Nat.le_refl _
 | a::l,x=>by
   have:=M6 (l:=l) (x:=x);unfold lY;split <;> simp <;> omega
theorem TP:∀ (l:List α) (x:α),ins b l x=l.take (lY b l x)++x::l.drop (lY b l x)
 | [],x=>rfl
 | a::l,x=>by
   unfold ins lY;split
   ·rw [TP l x];rfl
   rfl
theorem L6:∀ (l:List α) (x:α),(ins b l x).Perm (x::l)
 | [],x=>List.Perm.refl _
 | a::l,x=>by
   unfold ins;split
   ·exact((L6 l x).cons a).trans (List.Perm.swap x a l)
   exact List.Perm.refl _
theorem acJ {l:List α}{x y:α} :y∈ins b l x↔y=x∨y∈l:=by
 rw [(L6 l x).mem_iff];simp
theorem IG (l:List α)(x:α):iU b (l++[x])=ins b (iU b l) x:=by
 simp [iU,List.foldl_append]
theorem Mx (l:List α):(iU b l).Perm l:=by
 have key:∀ (l m:List α),(l.foldl (ins b) m).Perm (m++l):=by
  intro l;induction l with
  | nil=>intro m;simp
  | cons a l cA=>
    intro m
    refine(cA (ins b m a)).trans ?_
    refine((L6 m a).append_right l).trans ?_
    exact(List.perm_middle (a:=a) (l₁:=m) (l₂:=l)).symm
 exact key l []
theorem xh {l:List α}{y:α} :y∈iU b l↔y∈l:=(Mx l).mem_iff
theorem adJ {l:List α} :(iU b l).length=l.length:=(Mx l).length_eq
theorem Rk (hb:wb b):∀ {l:List α} {x:α},l.Pairwise (fun x y=>b x y=true)→ (∀ a∈l,CM b a x)→ (ins b l x).Pairwise (fun x y=>b x y=true)
 | [],x,_,_=>by simp [ins]
 | a::l,x,hs,bP=>by
   obtain⟨h1,ae⟩:=List.pairwise_cons.1 hs;unfold ins;split
   ·rename_i uz;refine List.pairwise_cons.2 ⟨fun c ai=>?_,Rk hb ae fun a a7=>bP a (by simp [a7])⟩;rcases acJ.1 ai with rfl | ai
    ·exact uz
    exact h1 c ai
   rename_i uz;have GD:b x a=true:=(bP a (by simp)).resolve_left uz;refine List.pairwise_cons.2 ⟨fun c ai=>?_,hs⟩;rcases List.mem_cons.1 ai with rfl | ai
   ·exact GD
   exact hb.trans _ _ _ GD (h1 c ai)
theorem aaN {l:List α}{x:α}(h:∀ c∈l,b c x=false):ins b l x=x::l:=by
 cases l with
 | nil=>rfl
 | cons a l=>unfold ins;rw [if_neg (by simp [h a (by simp)])]
theorem Rl (hb:wb b){q:α→Bool} :∀ {l:List α} {x:α},l.Pairwise (fun x y=>b x y=true)→ (∀ a∈l,CM b a x)→
 (ins b l x).filter q=if q x=true then ins b (l.filter q) x else l.filter q
 | [],x,_,_=>by
   show [x].filter q=if q x=true then [x] else [];by_cases hp:q x=true
   ·simp [hp]
   simp only [Bool.not_eq_true] at hp;simp [hp]
 | a::l,x,hs,bP=>by
   obtain⟨h1,ae⟩:=List.pairwise_cons.1 hs;have cA:=Rl hb (q:=q) (x:=x) ae fun a a7=>bP a (by simp [a7]);rw [Sb];by_cases uz:b a x=true
   ·rw [if_pos uz];by_cases rl:q a=true
    ·rw [List.filter_cons_of_pos rl,List.filter_cons_of_pos rl,cA];by_cases hq:q x=true
     ·rw [if_pos hq,if_pos hq,Sb,if_pos uz]
     rw [if_neg hq,if_neg hq]
    rw [List.filter_cons_of_neg rl,List.filter_cons_of_neg rl,cA]
   rw [if_neg uz];have GD:b x a=true:=(bP a (by simp)).resolve_left uz;by_cases hq:q x=true
   ·rw [List.filter_cons_of_pos hq,if_pos hq,aaN];intro c ai;have oK:=(List.mem_filter.1 ai).1;refine hb.asymm _ _ ?_;rcases List.mem_cons.1 oK with rfl | oK
    ·exact GD
    exact hb.trans _ _ _ GD (h1 c oK)
   rw [List.filter_cons_of_neg hq,if_neg hq]
def xH (b:α→α→Bool)(l:List α):Prop:=l.Pairwise (CM b)
theorem xH.snoc {l:List α}{x:α}(h:xH b (l++[x])):xH b l∧ ∀ a∈l,CM b a x:=by
 unfold xH at *;rw [List.pairwise_append] at h;exact⟨h.1,fun a a7=>h.2.2 a a7 x (by simp)⟩
theorem Sc {P:List α→Prop}(bH:P [])(h1:∀ l x,P l→P (l++[x]))(l:List α):P l:=by
 have:∀ r:List α,P r.reverse:=by
  intro r;induction r with
  | nil=>exact bH
  | cons a r cA=>rw [List.reverse_cons];exact h1 _ _ cA
 have:=this l.reverse;rwa [List.reverse_reverse] at this
theorem LR (hb:wb b){l:List α}(h:xH b l):(iU b l).Pairwise (fun x y=>b x y=true):=by
 induction l using Sc with
 | bH=>exact List.Pairwise.nil
 | h1 l x cA=>
   obtain⟨h1,ae⟩:=h.snoc
   rw [IG]
   exact Rk hb (cA h1) fun a a7=>ae a (xh.1 a7)
theorem aaO (hb:wb b){q:α→Bool}{l:List α}(h:xH b l):(iU b l).filter q=iU b (l.filter q):=by
 induction l using Sc with
 | bH=>rfl
 | h1 l x cA=>
   obtain⟨h1,ae⟩:=h.snoc
   rw [IG,Rl hb (LR hb h1) fun a a7=>ae a (xh.1 a7),cA h1,List.filter_append]
   by_cases hq:q x=true
   ·rw [if_pos hq,List.filter_cons_of_pos hq,List.filter_nil,IG]
   rw [if_neg hq,List.filter_cons_of_neg hq,List.filter_nil,List.append_nil]
theorem M7 [Inhabited α](hb:wb b):∀ {l:List α} {x:α} {k:Nat},l.Pairwise (fun x y=>b x y=true)→k<l.length→ (b (aE l k) x=true↔k<lY b l x)
 | [],x,k,_,hk=>by simp at hk
 | a::l,x,k,hs,hk=>by
   obtain⟨h1,ae⟩:=List.pairwise_cons.1 hs;unfold lY;cases k with
   | zero=>
     have:aE (a::l) 0=a:=rfl
     rw [this]
     split <;> simp_all
   | succ k=>
     have ke:k<l.length:=by simpa using hk
     have he:aE (a::l) (k+1)=aE l k:=by rw [e7 _ hk,e7 _ ke];rfl
     rw [he,M7 hb ae ke]
     split
     ·omega
     rename_i uz
     constructor
     ·intro cH
      have bc:=(M7 hb ae ke).2 cH
      have bs:=h1 (aE l k) (by rw [e7 _ ke];exact List.getElem_mem _)
      exact absurd (hb.trans _ _ _ bs bc) uz
     intro h;omega
end Gv
namespace Go.Proofs.YtppgfphgdogpeaaGreat
open Go Gv
theorem YP {xs:List dM}{f:dM→Option Bool}{g:dM→Bool}(aY:∀ x∈xs,f x=some (g x))(ao:xs.length<2 ^ 62):
 br (C4 xs f) (fun r=>(r= -1∧ ∀ x∈xs,g x=false)∨ ∃ i:Nat,i<xs.length∧r=i∧g (aE xs i)=true∧ ∀ j,j<i→g (aE xs j)=false):=by
 unfold C4
 refine br.loop xs.length (fun k s=>s=(k:Int)∧ ∀ j,j<k→g (aE xs j)=false) (by omega) ⟨rfl,fun j aF=>by omega⟩ (fun k s hk au=>?_) (fun s au=>?_)
 ·obtain⟨av,aX⟩:=au;subst av
  refine br.cond (fun _=>?_) (fun h=>by simp at h;omega)
  refine .idx rfl hk (.eq (aY _ (by rw [e7 xs hk];exact List.getElem_mem hk)) (.cond (fun h=>.ret ?_) (fun h=>.ret ⟨fH (by omega),fun j aF=>?_⟩)))
  ·exact .ret (.inr ⟨k,hk,rfl,h,aX⟩)
  by_cases tr:j=k
  ·subst tr;exact h
  exact aX j (by omega)
 obtain⟨av,aX⟩:=au;subst av
 refine⟨_,by simp;rfl,?_⟩
 refine .ret (.inl ⟨rfl,fun x ar=>?_⟩)
 obtain⟨j,aF,rfl⟩:=List.mem_iff_getElem.1 ar
 rw [← e7 xs aF];exact aX j aF
theorem _root_.Gv.br.get {β:Type}{m:Option β}{v:β}(h:br m (fun r=>r=v)):m=some v:=by
 obtain⟨r,h1,rfl⟩:=h;exact h1
def ajk (kind b:Int)(m:cg)(x:aO):Bool:=
 if m.fO=false then true
 else if kind=1 then decide (x=m.da)
 else if kind=2 then(List.range 128).all fun j=> !lead b m.gm j||(c7 x j==c7 m.da j)
 else if kind=3 then decide (FL x m.ho=m.da)
 else !sq x m.da&& !sq m.nQ x
def mt (s:aZ)(k:Nat)(p:Vector aO 4)(e:a8):Bool:=
 (List.range (aE s.bQ k).dr.length).all fun i=>ajk (aE (aE s.bQ k).dr i).eg (Ai (aE (aE s.bQ k).dr i)) (aE e.cU i) (cd p i)
theorem aaP {s:aZ}(h:cR s){k:Nat}(hk:k<4){e:a8}(he:e.b3=(k:Int)+1):D9 s e=some (aE s.bQ k,true):=by
 refine br.get ?_;unfold D9;rw [he];refine(LA h hk).bind fun r aI=>?_;subst aI;rw [show decide ((k:Int)<0)=false from decide_eq_false (by omega),cond_false];exact .idx rfl (by have:=h.mg;omega) (.ret rfl)
def wc:List dM→List cg→Int
 | key::aT,m::ms=>if key.eg=2 then m.gm else wc aT ms
 | _,_=>0
theorem TQ:∀ {aT:List dM} {ms:List cg} {i:Nat},ms.length=aT.length→i<aT.length→ (aE aT i).eg=2→ (∀ j,j<i→ (aE aT j).eg≠2)→wc aT ms=(aE ms i).gm
 | [],_,i,_,au,_,_=>by simp at au
 | key::aT,[],i,ao,_,_,_=>by simp at ao
 | key::aT,m::ms,0,_,_,ae,_=>by
   have:(aE (key::aT) 0)=key:=rfl;rw [this] at ae;unfold wc;rw [if_pos ae];rfl
 | key::aT,m::ms,i+1,ao,au,ae,aQ=>by
   have bH:=aQ 0 (by omega);have:(aE (key::aT) 0)=key:=rfl;rw [this] at bH;unfold wc;rw [if_neg bH];have bO:∀ {β:Type} [Inhabited β] (x:β) (l:List β) (n:Nat),aE (x::l) (n+1)=aE l n:=fun x l n=>by simp [aE]
   rw [bO] at ae ⊢;exact TQ (by simpa using ao) (by simpa using au) ae fun j aF=>by have:=aQ (j+1) (by omega);rwa [bO] at this
theorem TR:∀ {aT:List dM} {ms:List cg},(∀ key∈aT,key.eg≠2)→wc aT ms=0
 | [],_,_=>by unfold wc;rfl
 | key::aT,[],_=>by unfold wc;rfl
 | key::aT,m::ms,aQ=>by
   unfold wc;rw [if_neg (aQ key (by simp))];exact TR fun k hk=>aQ k (by simp [hk])
def kN (s:aZ)(k:Nat)(e:a8):Int:=wc (aE s.bQ k).dr e.cU
theorem Rm {s:aZ}(h:cR s){k:Nat}(hk:k<4){e:a8}(he:gp s k e):Ba s e=some (kN s k e):=by
 obtain⟨t1,⟨t2,t3⟩,t4,_⟩:=h.gG hk;have hm:=he.len;refine br.get ?_;unfold Ba kN;refine .eq (aaP h hk he.gG) ?_;simp only;refine(YP (g:=fun key=>key.eg==2) (fun x ar=>rfl) (by omega)).bind fun r aI=>.eq rfl ?_;rcases aI with⟨rfl,aI⟩ | ⟨i,h1,rfl,aA,aV⟩
 ·refine .cond (fun _=>.ret ?_) (fun h=>by simp at h);rw [TR fun key lq=>by simpa using aI key lq]
 have cJ:(!true||decide ((i:Int)<0)||decide ((i:Int)≥ (e.cU.length:Int)))=false:=by simp;omega
 rw [cJ,cond_false];refine .idx rfl (by omega) (.ret ?_);rw [TQ hm h1 (by simpa using aA) fun j aF=>by simpa using aV j aF]
def jG (s:aZ)(k:Nat)(a c:az):Bool:=
 decide (c.bd.gl<a.bd.gl∨ (a.bd.gl=c.bd.gl∧ (kN s k c.bd<kN s k a.bd∨ (kN s k a.bd=kN s k c.bd∧c.b8<a.b8))))
theorem I3 (s:aZ)(k:Nat):wb (jG s k) where
 asymm x y h:=by
  unfold jG at *;rw [decide_eq_true_eq] at h;rw [decide_eq_false_iff_not];omega
 trans x y z h dc:=by
  unfold jG at *;rw [decide_eq_true_eq] at *;omega
theorem adK {s:aZ}{k:Nat}{a c:az}(h:a.b8≠c.b8):CM (jG s k) a c:=by
 unfold CM jG;rw [decide_eq_true_eq,decide_eq_true_eq];omega
def fu (x y:Int):Int:=if x<y then -1 else if y<x then 1 else 0
theorem y7 (x y:Int):rE x y=some (fu x y):=by
 unfold rE D0 fu;have:∀ z:Int,(z !=z)=false:=fun z=>by simp
 rw [this,this];simp only [Option.bind_some,cond_false];by_cases h1:x<y
 ·simp [h1]
 by_cases ae:y<x
 ·simp [h1,ae]
 simp [h1,ae]
theorem abK (a c d:Int):uK [a,c,d]=some (if a≠0 then a else if c≠0 then c else d):=by
 refine br.get ?_;unfold uK;refine br.loop 3 (fun i st=>st=(i:Int)∧ ∀ j,j<i→aE [a,c,d] j=0) (by omega) ⟨rfl,fun j aF=>by omega⟩ (fun i st au hs=>?_) (fun st hs=>?_)
 ·obtain⟨rfl,hs⟩:=hs;refine .cond (fun _=>?_) (fun h=>by simp at h;omega);refine .idx rfl (by simpa using au) (.cond (fun ai=>.ret ?_) fun ai=>.ret ⟨fH (by omega),fun j aF=>?_⟩)
  ·simp only [Sum.elim_inr];refine .ret ?_;have bH:=hs 0;have h1:=hs 1;rcases (show i=0∨i=1∨i=2 by omega) with rfl | rfl | rfl
   ·have:a≠0:=by simpa [aE] using ai
    rw [if_pos this];rfl
   ·have:c≠0:=by simpa [aE] using ai
    have Pp:a=0:=by simpa [aE] using bH (by omega)
    rw [if_neg (by simpa using Pp),if_pos this];rfl
   have Pp:a=0:=by simpa [aE] using bH (by omega)
   have ajl:c=0:=by simpa [aE] using h1 (by omega)
   rw [if_neg (by simpa using Pp),if_neg (by simpa using ajl)];rfl
  by_cases kf:j=i
  ·subst kf;simpa using ai
  exact hs j (by omega)
 obtain⟨rfl,hs⟩:=hs;refine⟨_,rfl,?_⟩;simp only [Sum.elim_inl];refine .ret ?_;have bH:a=0:=by simpa [aE] using hs 0 (by omega)
 have h1:c=0:=by simpa [aE] using hs 1 (by omega)
 have ae:d=0:=by simpa [aE] using hs 2 (by omega)
 simp [bH,h1,ae]
theorem RJ {s:aZ}(h:cR s){k:Nat}(hk:k<4){a c:az}(a7:gp s k a.bd)(ai:gp s k c.bd):Bd s a c=some (jG s k a c):=by
 unfold Bd jG;rw [y7,Option.bind_some,Rm h hk a7,Option.bind_some,Rm h hk ai,Option.bind_some,y7,Option.bind_some,y7,Option.bind_some,abK,Option.bind_some];congr 1;rw [decide_eq_decide];unfold fu;split <;> split <;> (repeat' split) <;> omega
theorem XF {xs:List az}{f:az→Option Bool}{g:az→Bool}(aY:∀ x∈xs,f x=some (g x))(ao:xs.length<2 ^ 62):
 br (yc xs f) (fun r=>(r= -1∧ ∀ x∈xs,g x=false)∨ ∃ i:Nat,i<xs.length∧r=i∧g (aE xs i)=true∧ ∀ j,j<i→g (aE xs j)=false):=by
 unfold yc
 refine br.loop xs.length (fun k s=>s=(k:Int)∧ ∀ j,j<k→g (aE xs j)=false) (by omega) ⟨rfl,fun j aF=>by omega⟩ (fun k s hk au=>?_) (fun s au=>?_)
 ·obtain⟨av,aX⟩:=au;subst av
  refine br.cond (fun _=>?_) (fun h=>by simp at h;omega)
  refine .idx rfl hk (.eq (aY _ (by rw [e7 xs hk];exact List.getElem_mem hk)) (.cond (fun h=>.ret ?_) (fun h=>.ret ⟨fH (by omega),fun j aF=>?_⟩)))
  ·exact .ret (.inr ⟨k,hk,rfl,h,aX⟩)
  by_cases tr:j=k
  ·subst tr;exact h
  exact aX j (by omega)
 obtain⟨av,aX⟩:=au;subst av
 refine⟨_,by simp;rfl,?_⟩
 refine .ret (.inl ⟨rfl,fun x ar=>?_⟩)
 obtain⟨j,aF,rfl⟩:=List.mem_iff_getElem.1 ar
 rw [← e7 xs aF];exact aX j aF
structure kI (s:aZ)(k:Nat)(i:az):Prop where
 ej:gp s k i.bd
theorem acK {i:az}(h1:i.bd.cU.length≤1000)(ae:i.bd.fP.length≤1000):sH i=some i:=by
 unfold sH HZ Hh Hi;rw [hT _ _ (by simp;omega) (by omega),hT _ _ (by simp;omega) (by omega)];rfl
theorem EV {s:aZ}(h:cR s){k:Nat}(hk:k<4){i:az}(au:kI s k i):sH i=some i:=by
 have h1:=au.ej.len;have ae:=au.ej.args;have aA:=(h.gG hk).2.1.2;exact acK (by omega) (by omega)
def jO (l:List az)(n:Int):Bool:=l.any fun c=>c.b8==n
theorem Vf (x:er)(n:Int)(ao:x.dH.length≤1000):br ((yc x.dH (fun a0=>yj a0 n)).bind fun aq=>some aq) (fun r=>(r= -1∧jO x.dH n=false)∨ ∃ i:Nat,i<x.dH.length∧r=i∧ (aE x.dH i).b8=n∧jO x.dH n=true∧ ∀ j,j<i→ (aE x.dH j).b8≠n):=by
 refine(XF (g:=fun c=>c.b8==n) (fun c ai=>rfl) (by omega)).bind fun r aI=>.ret ?_;rcases aI with⟨h1,ae⟩ | ⟨i,h1,ae,aA,aV⟩
 ·exact .inl ⟨h1,by unfold jO;rw [List.any_eq_false];exact fun c ai=>by simp [ae c ai]⟩
 refine .inr ⟨i,h1,ae,by simpa using aA,?_,fun j aF=>by simpa using aV j aF⟩;unfold jO;rw [List.any_eq_true];exact⟨aE x.dH i,by rw [e7 _ h1];exact List.getElem_mem _,aA⟩
theorem abL {s:aZ}(h:cR s){k:Nat}(hk:k<4){x:er}(ar:x.l4=s){a c:az}(a7:kI s k a)(ai:kI s k c):
 br (Au x a c) (fun r=>r<0↔jG s k a c=true):=by
 unfold Au
 rw [ar]
 refine .eq (RJ h hk a7.ej ai.ej) (.cond (fun hb=>.ret ⟨fun _=>hb,fun _=>by omega⟩) fun hb=>.eq (RJ h hk ai.ej a7.ej) (.cond (fun _=>.ret ?_) fun _=>.ret ?_))
 ·rw [hb];simp
 rw [hb];simp
theorem adL {i j:Nat}(h:i+j<2 ^ 62):bC ((BitVec.ofInt 64 (bC ((i:Int)+(j:Int)))) >>> (1#64).toNat).toNat=(((i+j) / 2:Nat):Int):=by
 rw [show(i:Int)+(j:Int)=((i+j:Nat):Int) by omega,ib (x:=((i+j:Nat):Int)) (by omega) (by omega)];have:((BitVec.ofInt 64 ((i+j:Nat):Int)) >>> (1#64).toNat).toNat=(i+j) / 2:=by
  rw [BitVec.toNat_ushiftRight,tK (by omega)];rw [show(1#64).toNat=1 from rfl,Nat.shiftRight_eq_div_pow,Nat.pow_one]
 rw [this,ib (by omega) (by omega)]
theorem aaQ {l:List az}{x:az}{b:az→az→Bool}(hb:wb b)(hs:l.Pairwise (fun x y=>b x y=true))(ao:l.length≤1000)
 {f:az→az→Option Int} (aY:∀ a∈l,br (f a x) (fun r=>r<0↔b a x=true)):
 br (CY l x f) (fun r=>r.1=(lY b l x:Int)):=by
 unfold CY
 have fT:=M6 (b:=b) (l:=l) (x:=x)
 have Cl:∀ h,h<l.length→aE l h∈l:=fun h cB=>by rw [e7 _ cB];exact List.getElem_mem _
 have o4:∀ q:Bool,br ((cX (decide (((lY b l x:Nat):Int)<(l.length:Int))) true (idx l.length ((lY b l x:Nat):Int))).bind fun bK=>
  (cX (decide (((lY b l x:Nat):Int)<(l.length:Int))) true (f (aE l bK) x)).bind fun aD=>some (((lY b l x:Nat):Int),(decide (((lY b l x:Nat):Int)<(l.length:Int)))&&(aD==0))) (fun r=>r.1=(lY b l x:Int)):=fun _=>by
  refine .cX (P:=fun c=>c=lY b l x) (fun h=>⟨_,oV (by simpa using h),rfl⟩) fun bK ae=>.cX (P:=fun _=>True) (fun h=>?_) fun aD _=>.ret rfl
  rw [ae h]
  exact(aY _ (Cl _ (by simpa using h))).mono fun _ _=>trivial
 refine br.loop l.length (fun r st=> ∃ i j:Nat,st=((i:Int),(j:Int))∧i≤lY b l x∧lY b l x≤j∧j≤l.length∧j - i≤l.length - r) (by omega) ⟨0,l.length,rfl,by omega,by omega,by omega,by omega⟩ (fun r st aI dk=>?_) (fun st dk=>?_)
 ·obtain⟨i,j,rfl,h1,ae,aA,aV⟩:=dk
  refine .cond (fun ai=>?_) fun ai=>.ret ?_
  ·have gr:i<j:=by simpa using ai
   rw [adL (by omega)]
   have hm:(i+j) / 2<l.length:=by omega
   refine .idx rfl hm ((aY _ (Cl _ hm)).bind fun aq bu=>?_)
   have cH:=M7 hb (x:=x) hs hm
   refine .bind (P:=fun m=> ∃ i j:Nat,m=((i:Int),(j:Int))∧i≤lY b l x∧lY b l x≤j∧j≤l.length∧j - i≤l.length - (r+1)) (.cond (fun a1=>.eq rfl (.ret ?_)) fun a1=>.ret ?_) fun m hm=>.ret ?_
   ·have:=cH.1 (bu.1 (by simpa using a1))
    refine⟨(i+j) / 2+1,j,?_,by omega,ae,aA,by omega⟩
    simp only [fH (show(i+j) / 2<2 ^ 62 by omega)]
   ·have: ¬ (i+j) / 2<lY b l x:=fun cB=>by
     have:=bu.2 (cH.2 cB);simp at a1;omega
    exact⟨i,(i+j) / 2,rfl,h1,by omega,by omega,by omega⟩
   obtain⟨tB,rz,rfl,bc⟩:=hm
   exact⟨tB,rz,rfl,bc⟩
  have gr: ¬ i<j:=by simpa using ai
  have:i=lY b l x:=by omega
  subst this
  exact o4 true
 obtain⟨i,j,rfl,h1,ae,aA,aV⟩:=dk
 have gr:i=lY b l x:=by omega
 have ai:decide ((i:Int)<(j:Int))=false:=by simp;omega
 simp only [ai,cond_false]
 refine⟨_,rfl,?_⟩
 subst gr
 exact o4 true
structure mB (s:aZ)(k:Nat)(l:List az):Prop where
 ok:∀ i∈l,kI s k i
 num:l.Pairwise fun a c=>a.b8≠c.b8
 len:l.length≤900
theorem mB.Pq {s:aZ}{k:Nat}{l:List az}(h:mB s k l):xH (jG s k) l:=h.num.imp fun cB=>adK cB
theorem mB.iU {s:aZ}{k:Nat}{l:List az}(h:mB s k l):(∀ i∈iU (jG s k) l,kI s k i)∧ (iU (jG s k) l).length≤900:=
 ⟨fun i au=>h.ok i (xh.1 au),by rw [adJ];exact h.len⟩
theorem IH {s:aZ}{k:Nat}{l:List az}{n:Int} :jO (iU (jG s k) l) n=jO l n:=by
 unfold jO;rw [Bool.eq_iff_iff,List.any_eq_true,List.any_eq_true];exact⟨fun⟨c,h1,ae⟩=>⟨c,xh.1 h1,ae⟩,fun⟨c,h1,ae⟩=>⟨c,xh.2 h1,ae⟩⟩
theorem Td {l:List az}{n:Int}(h:jO l n=false):∀ c∈l,c.b8≠n:=fun c ai=>by
 unfold jO at h;rw [List.any_eq_false] at h;simpa using h c ai
theorem mB.snoc {s:aZ}{k:Nat}{l:List az}(h:mB s k l){i:az}(au:kI s k i)(aQ:jO l i.b8=false)(ao:l.length<900):mB s k (l++[i]) where
 ok c ai:=by
  rcases List.mem_append.1 ai with ai | ai
  ·exact h.ok c ai
  rw [List.mem_singleton.1 ai];exact au
 num:=by
  rw [List.pairwise_append];exact⟨h.num,by simp,fun a a7 c ai=>by rw [List.mem_singleton.1 ai];exact Td aQ a a7⟩
 len:=by simp;omega
def vq (s:aZ)(k:Nat)(l:List az):er:= { l4:=s,dH:=iU (jG s k) l }
theorem adM {s:aZ}(h:cR s){k:Nat}(hk:k<4){l:List az}(ao:mB s k l){i:az}(au:kI s k i)(hlen:l.length<900):
 Dg (vq s k l) i=some (!jO l i.b8,if jO l i.b8=true then vq s k l else vq s k (l++[i])):=by
 refine br.get ?_
 unfold Dg
 obtain⟨lB,ia⟩:=ao.iU
 refine .cX (fun _=>Vf (vq s k l) _ (by show(iU _ l).length≤1000;omega)) fun aq h1=>?_
 have h1:=h1 rfl
 rw [Bool.false_or]
 rcases h1 with⟨rfl,ae⟩ | ⟨j,ae,rfl,aA,aV,bc⟩
 ·have mA:jO l i.b8=false:=by rw [← ae];exact IH.symm
  refine .cond (fun ai=>by simp at ai) fun _=>?_
  refine(aaQ (b:=jG s k) (I3 s k) (LR (I3 s k) ao.Pq) (by omega) fun a a7=>abL h hk rfl (lB a a7) au).bind fun aD cb=>.eq (EV h hk au) ?_
  rw [cb]
  unfold Hc
  have fT:=M6 (b:=jG s k) (l:=iU (jG s k) l) (x:=i)
  refine .eq (a:=iU (jG s k) (l++[i])) ?_ (.ret ?_)
  ·show FC 88 (iU (jG s k) l) _ _=_
   unfold FC
   have tg:maxLen=9223372036854775807:=rfl
   rw [if_pos ⟨by omega,by omega,by simp,by simp <;> omega,by simp <;> omega⟩,IG,TP]
   simp
  rw [mA];rfl
 have CN:jO l i.b8=true:=by rw [← aV];exact IH.symm
 refine .cond (fun _=>.ret ?_) fun ai=>by simp at ai <;> omega
 rw [CN];rfl
theorem aah {s:aZ}(h:cR s){k:Nat}(hk:k<4){l:List az}(ao:∀ i∈l,kI s k i)(aQ:l.length≤1000):Bg l=some l:=by
 refine br.get ?_;unfold Bg;refine br.loop l.length (fun i st=>st=((i:Int),l.take i)) (by omega) rfl (fun i st au hs=>?_) (fun st hs=>?_)
 ·subst hs;refine .cond (fun _=>?_) (fun ai=>by simp at ai;omega);refine .idx rfl au (.eq (EV h hk (ao _ (by rw [e7 _ au];exact List.getElem_mem _))) (.eq (hT _ _ (by simp;omega) (by omega)) (.ret ?_)));rw [fH (by omega),nI l au]
 subst hs;refine⟨_,by simp;rfl,.ret ?_⟩;simp
theorem adN {s:aZ}(h:cR s){k:Nat}(hk:k<4){l:List az}(ao:mB s k l):Df (vq s k l)=some (iU (jG s k) l):=by
 unfold Df;obtain⟨lB,ia⟩:=ao.iU;show Option.bind (Bg (iU (jG s k) l)) _=_;rw [aah h hk lB (by omega)];rfl
theorem kI.small {s:aZ}(h:cR s){k:Nat}(hk:k<4){i:az}(au:kI s k i):i.bd.cU.length≤1000∧i.bd.fP.length≤1000:=by
 have h1:=au.ej.len;have ae:=au.ej.args;have aA:=(h.gG hk).2.1.2;exact⟨by omega,by omega⟩
def we (o:Option az):az×Bool:=match o with | some c=>(c,true) | none=>(default,false)
theorem Sd (c:du):br (Dp c) (fun _=>True):=by
 unfold Dp;first | exact .ret trivial | exact .eq rfl (.ret trivial)
structure kE (hp:aC Cell)(t:Nat)(g:List Bool→Option Int):Prop where
 ok:∃ c,gL hp t=some c∧c.gR=32∧qX hp c.eT∧ ∀ ba,cont hp c.eT ba=g ba
def Own (hp:aC Cell)(t q:Nat):Prop:=q=t∨ ∃ c ba,gL hp t=some c∧dp hp c.eT ba=some q
def fb (v:aO)(n:Nat):List Bool:=(List.range n).map fun i=>c7 v (31 - i)
theorem Ia (v:aO)(n:Nat):fb v (n+1)=fb v n++[c7 v (31 - n)]:=by simp [fb,List.range_succ]
theorem Rn (v:aO):fb v 0= []:=rfl
theorem RK {hp:aC Cell}{t:Nat}{c:gy}(ai:gL hp t=some c)(hb:c.gR=32){n:Nat}(aQ:n≤32){v:aO}(bm:∀ j,j<128→c7 v j=true→lead 32 n j=true):
 AO hp (some t) v n=some true:=by
 refine br.get ?_
 unfold AO
 have av:(Option.isSome (some t)&&decide ((n:Int)≥0))=true:=by simp
 have aX:decide ((n:Int)≤c.gR)=true:=by rw [hb];simp;omega
 refine .cX (P:=fun r=>r=t) (fun _=>⟨t,rfl,rfl⟩) fun bJ h1=>?_
 rw [h1 av]
 refine .cX (P:=fun r=>r=c) (fun _=>⟨c,ai,rfl⟩) fun c1 ae=>?_
 rw [ae av]
 rw [av,aX]
 refine .cX (P:=fun r=>r=t) (fun _=>⟨t,rfl,rfl⟩) fun cY aA=>?_
 rw [aA rfl]
 refine .cX (P:=fun r=>r=c) (fun _=>⟨c,ai,rfl⟩) fun c2 aV=>?_
 rw [aV rfl,hb]
 refine .cX (fun _=>aae 32 n (by decide) (by decide)) fun aq bc=>?_
 refine .cX (P:=fun r=>r=FL v aq) (fun _=>⟨_,and_eq v aq,rfl⟩) fun aD bs=>?_
 refine .eq rfl (.ret ?_)
 have:aD=v:=by
  rw [bs rfl];refine M3 fun j aF=>?_;rw [acE,bc rfl j aF];cases e:c7 v j with
  | false=>rfl
  | true=>rw [bm j aF e];rfl
 rw [this];simp
theorem TS {v:aO}{i:Nat}(au:i<32):br (yE v (bC ((bC ((32:Int) - 1)) - (i:Int)))) (fun r=>r=c7 v (31 - i)):=by
 have e:bC ((bC ((32:Int) - 1)) - (i:Int))=((31 - i:Nat):Int):=by
  rw [show bC ((32:Int) - 1)=31 from by rw [ib (by decide) (by decide)];rfl,ib (by omega) (by omega)];omega
 rw [e];refine(adI v _).mono fun r aI=>?_;rw [aI];have:decide (0≤ ((31 - i:Nat):Int)∧ ((31 - i:Nat):Int)<128)=true:=by rw [decide_eq_true_eq];omega
 rw [this,Bool.true_and];rfl
theorem TT (b:Bool):(cond b (some (1:Int)) (some 0))=some ((fV b:Nat):Int):=by cases b <;> rfl
theorem Vg {σ ε:Type}{hp:aC Cell}{t:Nat}{c:gy}(ai:gL hp t=some c)(hb:c.gR=32)(v:aO){n:Nat}(aQ:n≤32){step:Int→σ→Option (σ ⊕ ε)}{cT:σ}{P:σ ⊕ ε→Prop}(fS:Nat→σ→Prop)(bH:fS 0 cT)
 (hs:∀ i s,i<n→fS i s→br (step ((fV (c7 v (31 - i)):Nat):Int) s) (fun r=>match r with | .inl cD=>fS (i+1) cD | .inr e=>P (.inr e))) (he:∀ s,fS n s→P (.inl s)):br (uD hp n v (some t) step cT) P:=by
 unfold uD
 refine br.loop n (fun i s=>s.1=(i:Int)∧fS i s.2) (by omega) ⟨rfl,bH⟩ (fun i s au j2=>?_) (fun s j2=>?_)
 ·obtain⟨j,s⟩:=s;obtain⟨av,aX⟩:=j2
  simp only at av aX;subst av
  refine br.cond (fun _=>?_) (fun h=>by simp at h;omega)
  refine .eq rfl (.eq ai ?_)
  rw [hb]
  refine(TS (by omega)).bind fun aq h1=>.eq (TT aq) ?_
  rw [h1]
  refine(hs i s au aX).bind fun r aI=>?_
  cases r with
  | inl cD=>exact .ret ⟨fH (by omega),aI⟩
  | inr e=>exact .ret (.ret aI)
 obtain⟨j,s⟩:=s;obtain⟨av,aX⟩:=j2
 simp only at av aX;subst av
 refine⟨_,by simp;rfl,?_⟩
 exact .ret (he s aX)
theorem af7 {σ ε:Type}{t:Nat}(v:aO){n:Nat}(aQ:n≤32){hq:σ→aC Cell}{step:Int→σ→ak (σ ⊕ ε)}{cT:σ}{P:σ ⊕ ε→Prop}(fS:Nat→σ→Prop)(bH:fS 0 cT)(nC:∀ i s,fS i s→ ∃ c,gL (hq s) t=some c∧c.gR=32)
 (hs:∀ i s,i<n→fS i s→c9 (step ((fV (c7 v (31 - i)):Nat):Int) s) (fun r=>match r with | .inl cD=>fS (i+1) cD | .inr e=>P (.inr e))) (he:∀ s,fS n s→P (.inl s)):c9 (yn n v (some t) hq step cT) P:=by
 unfold yn
 refine .bind (P:=fun e=>match e with | .inl e=>P (.inl e.2.2) | .inr e=>P (.inr e.2.2.2.2.2.2)) (c9.loop n (fun i s=>s.1=(i:Int)∧fS i s.2) (by omega) ⟨rfl,bH⟩ (fun i s au j2=>?_) (fun s j2=>?_)) fun e h=>?_
 ·obtain⟨j,s⟩:=s;obtain⟨av,aX⟩:=j2
  simp only at av aX;subst av
  refine c9.cond (fun _=>?_) (fun h=>by simp at h;omega)
  obtain⟨c,ai,hb⟩:=nC i s aX
  refine .eq rfl (.eq ai ?_)
  rw [hb]
  refine .hZ (TS (by omega)) fun aq h1=>.eq (TT aq) ?_
  rw [h1]
  refine .bind (hs i s au aX) fun r aI=>?_
  cases r with
  | inl cD=>exact .ret ⟨fH (by omega),aI⟩
  | inr e=>exact .ret aI
 ·obtain⟨j,s⟩:=s;obtain⟨av,aX⟩:=j2
  simp only at av aX;subst av
  refine c9.cond (fun h=>by simp at h) fun _=>.ret (he s aX)
 cases e with
 | inl e=>exact .ret h
 | inr e=>exact .ret h
theorem Se {hp:aC Cell}{t:Nat}{c:gy}(ai:gL hp t=some c)(hb:c.gR=32)(bP:qX hp c.eT){n:Nat}(aQ:n≤32){v:aO}(bm:∀ j,j<128→c7 v j=true→lead 32 n j=true):
 AY hp (some t) v n=some (dp hp c.eT (fb v n)):=by
 refine br.get ?_
 unfold AY
 refine .eq (RK ai hb aQ bm) (.cond (fun h=>by cases h) fun _=>.eq rfl (.eq ai (.eq rfl ?_)))
 show br (Option.bind (uD hp (n:Int) v (some t) _ _) _) _
 refine br.bind (P:=fun e:Ref ⊕ (Ref×Ref)=>e.elim (fun s=>s=dp hp c.eT (fb v n)) (fun q=>q.2=dp hp c.eT (fb v n))) (Vg ai hb v aQ (fun i s=>s=dp hp c.eT (fb v i)) pZ.symm (fun i s au hs=>?_) (fun s hs=>hs)) fun e he=>?_
 ·refine .cond (fun h=>.ret ?_) fun h=>?_
  ·rw [Option.isNone_iff_eq_none] at h
   have av:fb v n=fb v i++(fb v n).drop i:=by
    have:fb v i=(fb v n).take i:=by unfold fb;rw [← List.map_take,List.take_range];congr 2;omega
    rw [this,List.take_append_drop]
   show(none:Ref)=_
   rw [av,oW,← hs,h,hC]
  cases s with
  | none=>simp at h
  | some p=>
    obtain⟨c1,h1⟩:=bP.reads _ _ hs.symm
    refine .eq rfl (.idx rfl (by cases c7 v (31 - i) <;> decide) (.eq h1 (.ret ?_)))
    show cd c1.dJ _=_
    rw [Ia,oW,← hs,iY h1,pZ]
 cases e with
 | inl s=>exact .ret he
 | inr q=>exact .ret he
theorem TU {hp:aC Cell}{t:Nat}{g:List Bool→Option Int}(h:kE hp t g){n:Nat}(aQ:n≤32){v:aO}(bm:∀ j,j<128→c7 v j=true→lead 32 n j=true):
 yy hp (some t) v n=some (match g (fb v n) with | none=>(0,false) | some id=>(id,true)):=by
 obtain⟨c,ai,hb,bP,bO⟩:=h.ok
 refine br.get ?_
 unfold yy
 refine .eq (Se ai hb bP aQ bm) ?_
 rw [← bO]
 cases e:dp hp c.eT (fb v n) with
 | none=>
   rw [mJ e]
   refine .cX (P:=fun _=>True) (fun h=>by cases h) fun o _=>.cX (P:=fun _=>True) (fun h=>by cases h) fun o _=>.cond (fun _=>.ret rfl) fun h=>by cases h
 | some p=>
   obtain⟨d,hd⟩:=bP.reads _ _ e
   rw [l5 e hd]
   refine .cX (P:=fun r=>r=p) (fun _=>⟨p,rfl,rfl⟩) fun o h1=>?_
   rw [h1 rfl]
   refine .cX (P:=fun r=>r=d) (fun _=>⟨d,hd,rfl⟩) fun c1 ae=>?_
   rw [ae rfl]
   refine .cond (fun h=>?_) fun h=>?_
   ·have:d.fK=false:=by simpa using h
    rw [this];exact .ret rfl
   have:d.fK=true:=by simpa using h
   rw [this];exact .eq rfl (.eq hd (.ret rfl))
structure JS (lZ hp:aC Cell)(t:Nat)(g:List Bool→Option Int)(r:Nat):Prop where
 cell:∃ c,gL hp t=some c∧c.gR=32∧c.eT=some r
 tree:qX hp (some r)
 cont:∀ ba,cont hp (some r) ba=g ba
 keeps:fo lZ hp (Own lZ t)
 own:∀ ba q,dp hp (some r) ba=some q→Own lZ t q∨q ∉ dZ lZ
theorem Eo {hp:aC Cell}{a t:Nat}{k:Cell}(a7:a ∉ dZ hp)(h:pat hp t=some k):a≠t:=fun e=>a7 (e ▸ jV h)
theorem Sf {hp:aC Cell}{a:Nat}{x:eo} :c8 ((a,.gS x)::hp) a=some x:=by rw [rG,kV,if_pos rfl]
theorem aai {hp:aC Cell}{a:Nat}(a7:a ∉ dZ hp):c8 hp a=none:=by unfold c8;rw [abG a7]
theorem Bv {hp:aC Cell}{p:Nat}{k:Cell}{x:eo}(h:pat hp p=some k):c8 (cQ hp p (.gS x)) p=some x:=by rw [rG,rR h]
theorem wT {hp:aC Cell}{p q:Nat}{k:Cell}(h:p≠q):c8 (cQ hp p k) q=c8 hp q:=yF (mI h)
theorem Q2 {hp:aC Cell}{a q:Nat}{k:Cell}(h:a≠q):c8 ((a,k)::hp) q=c8 hp q:=yF (by rw [kV,if_neg h])
theorem Sg {hp:aC Cell}{p:Nat}{k:Cell}{x:gy}(h:pat hp p=some k):gL (cQ hp p (.lp x)) p=some x:=by rw [uN,rR h]
theorem H3 {hp:aC Cell}{p q:Nat}{k:Cell}(h:p≠q):gL (cQ hp p k) q=gL hp q:=H2 (mI h)
theorem Q3 {hp:aC Cell}{a q:Nat}{k:Cell}(h:a≠q):gL ((a,k)::hp) q=gL hp q:=H2 (by rw [kV,if_neg h])
theorem Jx {hp:aC Cell}{p t:Nat}{x:eo}{c:gy}(h1:c8 hp p=some x)(ae:gL hp t=some c):p≠t:=fun e=>by
 subst e;rw [rG] at h1;rw [uN,h1] at ae;cases ae
theorem adO {hp:aC Cell}{t:Nat}{g:List Bool→Option Int}{c:gy}(ai:gL hp t=some c)(hb:c.gR=32)(bP:qX hp c.eT)(bO:∀ ba,cont hp c.eT ba=g ba):
 c9 (cond c.eT.isNone (
     ak.bind (ak.mk hp (Cell.gS (default:eo))) fun a2=>
     ak.bind (ak.of (gL a2.2 t)) fun x5=>
     ak.bind (ak.of (some (cQ a2.2 t (Cell.lp ({ x5 with eT:=(some a2.1:Ref) } :gy))))) fun uo=>
     ak.ret uo) (ak.ret hp)) (fun bR=> ∃ r,JS hp bR t g r):=by
 have h0:=uN.1 ai
 refine .cond (fun h=>.mk fun a a7=>?_) fun h=>?_
 ·have aI:c.eT=none:=by rw [Option.isNone_iff_eq_none] at h;exact h
  have WM:=Eo a7 h0
  have Cw:gL ((a,Cell.gS default)::hp) t=some c:=by rw [Q3 WM];exact ai
  refine .eq Cw (.eq rfl (.ret ⟨a,?_⟩))
  have aQ:c8 (cQ ((a,Cell.gS default)::hp) t (.lp { c with eT:=some a })) a=some default:=by
   rw [wT WM.symm,Sf]
  have aY:=RH aQ
  refine⟨⟨_,Sg (uN.1 Cw),hb,rfl⟩,⟨fun ba p h1=>?_,fun ba cs p h1 ae=>?_,fun ba p h1=>?_⟩,fun ba=>?_,?_,fun ba q h1=>?_⟩
  ·rw [aY] at h1
   split at h1
   ·cases h1;exact⟨_,aQ⟩
   cases h1
  ·rw [aY] at h1 ae
   split at h1 <;> split at ae
   ·rename_i av aX;rw [av,aX]
   ·cases ae
   ·cases h1
   cases h1
  ·rw [aY] at h1
   split at h1
   ·rename_i e;rw [e];exact Nat.zero_le _
   cases h1
  ·rw [← bO,aI,mJ hC]
   by_cases e:ba= []
   ·rw [l5 (by rw [aY,if_pos e]) aQ];rfl
   rw [mJ (by rw [aY,if_neg e])]
  ·exact(fo.mk' a7).trans (own':=fun q=>q=t) (fo.up (own:=fun q=>q=t) rfl) fun q _ h1=>.inl h1
  rw [aY] at h1
  split at h1
  ·cases h1;exact .inr a7
  cases h1
 cases aI:c.eT with
 | none=>rw [aI] at h;cases h
 | some r=>
   rw [aI] at bP bO
   exact .ret ⟨r,⟨c,ai,hb,aI⟩,bP,bO,.refl,fun ba q h1=>.inl (.inr ⟨c,ba,ai,by rw [aI];exact h1⟩)⟩
theorem af8 {hp:aC Cell}{t:Nat}{g:List Bool→Option Int}(h:kE hp t g){n:Nat}(aQ:n≤32){v:aO}(bm:∀ j,j<128→c7 v j=true→lead 32 n j=true)(id:Int)(gF:g (fb v n)=none):
 c9 (A2 hp (some t) v n id) (fun r=>r.1=true∧kE r.2 t (fun ba=>if ba=fb v n then some id else g ba)∧fo hp r.2 (Own hp t)∧ ∀ q,Own r.2 t q→Own hp t q∨q ∉ dZ hp):=by
 obtain⟨c,ai,hb,bP,bO⟩:=h.ok
 unfold A2
 refine .eq (RK ai hb aQ bm) (.cond (fun h=>by cases h) fun _=>.eq (Se ai hb bP aQ bm) ?_)
 refine .cX (P:=fun o=>dp hp c.eT (fb v n)=some o) (fun h1=>?_) fun bJ h1=>?_
 ·cases e:dp hp c.eT (fb v n) with
  | none=>rw [e] at h1;cases h1
  | some p=>exact⟨p,rfl,rfl⟩
 refine .cX (P:=fun d=>c8 hp bJ=some d) (fun ae=>?_) fun c1 ae=>?_
 ·obtain⟨d,hd⟩:=bP.reads _ _ (h1 ae)
  exact⟨d,hd,hd⟩
 refine .cond (fun aA=>?_) fun _=>?_
 ·simp only [Bool.and_eq_true] at aA
  rw [← bO,l5 (h1 aA.1) (ae aA.1),aA.2] at gF
  cases gF
 refine .eq rfl (.eq ai (.bind (adO ai hb bP bO) fun m1 cP=>?_))
 obtain⟨r,cP⟩:=cP
 obtain⟨dh,gi,ak9,Pe⟩:=cP.cell
 refine .eq gi (.eq rfl ?_)
 show c9 (ak.bind (yn (n:Int) v (some t) _ _ _) _) _
 refine .bind (P:=fun e:(Ref×aC Cell) ⊕ Empty=> ∃ p c6,e= .inl (some p,c6)∧dp c6 (some r) (fb v n)=some p∧JS hp c6 t g r) (af7 v aQ (fun i s=> ∃ p,s.1=some p∧dp s.2 (some r) (fb v i)=some p∧JS hp s.2 t g r) ⟨r,Pe,pZ,cP⟩ (fun i s au=>?_) (fun i s au hs=>?_) (fun s hs=>?_)) fun e he=>?_
 ·obtain⟨p,_,_,hm⟩:=au
  obtain⟨d,aV,bc,_⟩:=hm.cell
  exact⟨d,aV,bc⟩
 ·obtain⟨ajm,c6⟩:=s
  obtain⟨p,av,aX,hm⟩:=hs
  simp only at av aX hm
  subst av
  obtain⟨d,hd⟩:=hm.tree.reads _ _ aX
  have cH:fV (c7 v (31 - i))<2:=by cases c7 v (31 - i) <;> decide
  refine .eq rfl (.idx rfl cH (.eq hd ?_))
  refine .bind (P:=fun ig=> ∃ q nE,c8 ig p=some nE∧cd nE.dJ (fV (c7 v (31 - i)))=some q∧dp ig (some r) (fb v i)=some p∧JS hp ig t g r) (.cond (fun bs=>.mk fun a a7=>?_) fun bs=>.ret ?_) fun ig df=>?_
  ·have ts:cd d.dJ (fV (c7 v (31 - i)))=none:=by rw [Option.isNone_iff_eq_none] at bs;exact bs
   have WN:=Eo a7 (rG.1 hd)
   have gN:c8 ((a,Cell.gS default)::c6) p=some d:=by rw [Q2 WN];exact hd
   refine .idx rfl cH (.eq gN (.eq rfl (.ret ?_)))
   have fT:c8 (cQ ((a,Cell.gS default)::c6) p (.gS { d with dJ:=dX d.dJ (fV (c7 v (31 - i))) (some a) })) a=some default:=by
    rw [wT WN.symm,Sf]
   have cS:c8 (cQ ((a,Cell.gS default)::c6) p (.gS { d with dJ:=dX d.dJ (fV (c7 v (31 - i))) (some a) })) p=some { d with dJ:=dX d.dJ (fV (c7 v (31 - i))) (some a) } :=Bv (rG.1 gN)
   obtain⟨g1,g2,g3⟩:=grow (by unfold fb;simp;omega) hm.tree aX hd ts (aai a7) cS fT fun q kg qp=>by rw [wT kg.symm,Q2 qp.symm]
   have FN:Own hp t p∨p ∉ dZ hp:=hm.own _ _ aX
   refine⟨a,_,cS,by rw [jI _ _ cH,if_pos rfl],by rw [g2,if_neg (fun e=>by have:=congrArg List.length e;simp at this)];exact aX,?_,g1,fun ba=>by rw [g3,hm.cont],?_,fun ba q hq=>?_⟩
   ·obtain⟨d4,aV,bc,dz⟩:=hm.cell
    have h0:=Jx hd aV
    exact⟨d4,by rw [H3 h0,Q3 (Eo a7 (uN.1 aV))];exact aV,bc,dz⟩
   ·refine hm.keeps.trans (own':=fun q=>q=p) ((fo.mk' a7).trans (own':=fun q=>q=p) (fo.up (own:=fun q=>q=p) rfl) fun q _ ea=>ea) fun q hq ea=>?_
    subst ea
    exact FN.resolve_right fun nx=>nx hq
   rw [g2] at hq
   split at hq
   ·cases hq;exact .inr fun ea=>a7 (hm.keeps.keys _ ea)
   exact hm.own _ _ hq
  ·cases ts:cd d.dJ (fV (c7 v (31 - i))) with
   | none=>rw [ts] at bs;cases bs
   | some q=>exact⟨q,d,hd,ts,aX,hm⟩
  obtain⟨q,nE,dz,ea,nx,uy⟩:=df
  refine .idx rfl cH (.eq dz (.ret ⟨q,ea,?_,uy⟩))
  show dp ig (some r) (fb v (i+1))=some q
  rw [Ia,oW,nx,iY dz,ea,pZ]
 ·obtain⟨ajm,c6⟩:=s
  obtain⟨p,av,aX,hm⟩:=hs
  simp only at av aX hm
  subst av
  exact⟨p,c6,rfl,aX,hm⟩
 obtain⟨p,c6,rfl,aX,hm⟩:=he
 obtain⟨d,hd⟩:=hm.tree.reads _ _ aX
 have Pr:=rG.1 hd
 refine .eq rfl (.eq hd (.eq rfl (.eq rfl ?_)))
 have gN:c8 (cQ c6 p (.gS { d with fK:=true })) p=some { d with fK:=true } :=Bv Pr
 refine .eq gN (.eq rfl (.ret ?_))
 have xM:c8 (cQ (cQ c6 p (.gS { d with fK:=true })) p (.gS { d with fK:=true,kr:=id })) p=some { d with fK:=true,kr:=id } :=Bv (rG.1 gN)
 obtain⟨s1,s2⟩:=VZ hm.tree aX hd xM rfl fun q hq=>by rw [wT hq.symm,wT hq.symm]
 obtain⟨d4,aV,bc,dz⟩:=hm.cell
 have h0:=Jx hd aV
 have CN:gL (cQ (cQ c6 p (.gS { d with fK:=true })) p (.gS { d with fK:=true,kr:=id })) t=some d4:=by rw [H3 h0,H3 h0];exact aV
 have FN:Own hp t p∨p ∉ dZ hp:=hm.own _ _ aX
 refine⟨rfl,⟨d4,CN,bc,by rw [dz];exact s1,fun ba=>?_⟩,?_,fun q hq=>?_⟩
 ·rw [dz,s2,hm.cont];rfl
 ·refine hm.keeps.trans (own':=fun q=>q=p) ((fo.up (own:=fun q=>q=p) rfl).trans (own':=fun q=>q=p) (fo.up (own:=fun q=>q=p) rfl) fun q _ ea=>ea) fun q hq ea=>?_
  subst ea
  exact FN.resolve_right fun nx=>nx hq
 rcases hq with rfl | ⟨hz,ba,h1,ae⟩
 ·exact .inl (.inl rfl)
 rw [CN] at h1;cases h1
 rw [dz,Ex hd xM rfl (fun q hq=>by rw [wT hq.symm,wT hq.symm])] at ae
 exact hm.own _ _ ae
def enc:Option (Nat×Int)→Int×Int×Bool
 | none=>(0,0,false)
 | some (n,id)=>((n:Int),id,true)
theorem cR.Kp {s:aZ}(h:cR s):∃ ew eZ ju,∀ k,k<4→qa (aE s.bQ k)=aE (vF ew eZ ju) k:=by
 obtain⟨ew,eZ,ju,e⟩:=h.tables;refine⟨ew,eZ,ju,fun k hk=>?_⟩;rw [← e,Bu qa (by rw [h.mg];exact hk)]
theorem yI (t:cn){r:Int×Int}(aT:List dM)(hk:t.dr=aT)(h:A6 { (default:cn) with dr:=aT } =some r):A6 t=some r:=by
 subst hk;exact h
def qK (k:Nat):Int:=aE [1,2,3,3] k
theorem aaR {s:aZ}(h:cR s){k:Nat}(hk:k<4):br (A6 (aE s.bQ k)) (fun r=>r.1=qK k∧ (k=1→r.2=0)):=by
 obtain⟨ew,eZ,ju,e⟩:=h.Kp;have e:=e k hk;have iA:(aE s.bQ k).dr=(aE (vF ew eZ ju) k).2.2:=congrArg (·.2.2) e;have:k=0∨k=1∨k=2∨k=3:=by omega
 rcases this with rfl | rfl | rfl | rfl
 ·exact⟨_,yI _ [wA] iA rfl,rfl,fun h=>by simp at h⟩
 ·cases ew
  ·exact⟨_,yI _ [Ah] iA rfl,rfl,fun _=>rfl⟩
  exact⟨_,yI _ [Ah,PX] iA rfl,rfl,fun _=>rfl⟩
 ·cases eZ
  ·exact⟨_,yI _ [G0,GB] iA rfl,rfl,fun h=>by simp at h⟩
  exact⟨_,yI _ [G0,GB,PY] iA rfl,rfl,fun h=>by simp at h⟩
 cases ju
 ·exact⟨_,yI _ [G1] iA rfl,rfl,fun h=>by simp at h⟩
 exact⟨_,yI _ [G1,PZ,Ah] iA rfl,rfl,fun h=>by simp at h⟩
structure Cq (s:aZ)(k:Nat)(lZ hp:aC Cell)(p:Nat):Prop where
 cell:∃ c m,jy hp p=some c∧c.u3=qK k∧c.u4=((aE s.bQ k).dr.length:Int)∧c.lG=⟨some m⟩∧mu hp m=some []∧
  (k=0→ ∃ q m2,c.kT= .pw ⟨some q⟩∧ov hp q=some ⟨⟨some m2⟩⟩∧nm hp m2=some []∧q ∉ dZ lZ∧m2 ∉ dZ lZ)∧
  (k=1→ ∃ m3,c.kT= .px ⟨0,32,⟨some m3⟩⟩∧lR hp m3=some []∧m3 ∉ dZ lZ)∧
  (2≤k→ ∃ q key cap,c.kT= .py ⟨some q⟩∧q0 hp q=some (({ l4:=s,dH:= [] } :er),key,cap)∧q ∉ dZ lZ)∧
  p ∉ dZ lZ∧m ∉ dZ lZ∧ (∀ q,q∈dZ lZ→q∈dZ hp)∧ ∀ q,q∈dZ lZ→pat hp q=pat lZ q
theorem af9 {s:aZ}(h:cR s){k:Nat}(hk:k<4)(hp:aC Cell):c9 (Bj hp s ((k:Int)+1)) (fun r=> ∃ p,r.1=some p∧Cq s k hp r.2 p):=by
 unfold Bj;refine .hZ (LA h hk) fun aq av=>?_;subst av;refine .cond (fun ai=>by simp at ai;omega) fun _=>?_;refine .idx rfl (by rw [h.mg];exact hk) (.hZ (aaR h hk) fun aD ae=>.mk fun m hm=>.eq rfl (.mk fun p bR=>?_));obtain⟨ako,key⟩:=aD;obtain⟨ae,aA⟩:=ae;simp only at ae aA bR;subst ae;have mX:p≠m:=fun e=>by subst e;simp [dZ] at bR
 have:k=0∨k=1∨2≤k:=by omega
 rcases this with rfl | rfl | de
 ·have e:(qK 0==1)=true:=rfl;simp only [e,cond_true];unfold HW;refine .bind (P:=fun c6=>Cq s 0 hp c6 p) (.bind (P:=fun r=> ∃ q m2,r=((some q:Ref),(q,Cell.Cf ⟨⟨some m2⟩⟩)::(m2,Cell.qb [])::(p,_)::(m,Cell.mc [])::hp)∧m2 ∉ dZ ((p,_)::(m,Cell.mc [])::hp)∧q ∉ dZ ((m2,Cell.qb [])::(p,_)::(m,Cell.mc [])::hp)) (.mk fun m2 dT=>.mk fun q hq=>.ret ⟨q,m2,rfl,dT,hq⟩) fun bh aV=>?_) fun c6 bc=>.ret ⟨p,rfl,bc⟩;obtain⟨q,m2,rfl,dT,hq⟩:=aV;simp only [dZ,List.map_cons,List.mem_cons,not_or] at dT hq bR;refine .eq (by simp [jy,pat,hq.1,hq.2,dT.1,hq.2.2.1,Ne.symm];rfl) (.eq rfl (.ret ?_));refine⟨{ u3:=qK 0,u4:=((aE s.bQ 0).dr.length:Int),kT:= .pw ⟨some q⟩,lG:=⟨some m⟩ },m,?_,rfl,rfl,rfl,?_,?_,fun ai=>by simp at ai,fun ai=>by simp at ai,bR.2,hm,fun x ar=>by rw [qR];exact List.mem_cons_of_mem _ (List.mem_cons_of_mem _ (List.mem_cons_of_mem _ (List.mem_cons_of_mem _ ar))),fun x ar=>?_⟩
  ·simp [jy,pat,cQ,hq.1,hq.2,dT.1,hq.2.2.1]
  ·simp [mu,pat,cQ,hq.1,hq.2,dT.1,hq.2.2.1,dT.2.1,bR.1]
  ·intro _;refine⟨q,m2,rfl,?_,?_,hq.2.2.2,dT.2.2⟩
   ·simp [ov,pat,cQ,hq.1,hq.2,dT.1,hq.2.2.1,dT.2.1,bR.1]
   simp [nm,pat,cQ,hq.1,hq.2,dT.1,hq.2.2.1,dT.2.1,bR.1]
  have qA:q≠x:=fun e=>hq.2.2.2 (by rw [e];exact ar);have P1:m2≠x:=fun e=>dT.2.2 (by rw [e];exact ar);have G3:p≠x:=fun e=>bR.2 (by rw [e];exact ar);have G4:m≠x:=fun e=>hm (by rw [e];exact ar);simp [EE,pat,qA,P1,G3,G4]
 ·have e:(qK 1==1)=false:=rfl;have aX:(qK 1==2)=true:=rfl;simp only [e,aX,cond_true,cond_false];have aA:=aA rfl;subst aA;obtain⟨t1,⟨t2,t3⟩,t4,_⟩:=h.gG hk;have aY:(aE (aE s.bQ 1).dr 0).iq=((6:Nat):Int)+1:=by
   obtain⟨ew,eZ,ju,e⟩:=h.Kp;have e:=congrArg (·.2.2) (e 1 hk);show(aE (qa (aE s.bQ 1)).2.2 0).iq=_;rw [e];cases ew <;> rfl
  refine .bind (P:=fun c6=>Cq s 1 hp c6 p) (.bind (P:=fun c6=>Cq s 1 hp c6 p) ?_ fun _ bs=>.ret bs) fun c6 bc=>.ret ⟨p,rfl,bc⟩;refine .idx (k:=0) rfl (by omega) ?_;simp only [aY];refine .hZ (ZK h (show 6<9 by decide)) fun bL gb=>?_;subst gb;refine .hZ (P:=fun r=>r=32) (.cond (fun _=>.idx rfl (by rw [h.zD];decide) (.ret (h.CK (show 6<9 by decide)).2)) (fun ai=>by simp at ai)) fun b hb=>?_;subst hb;refine .mk fun m3 hV=>?_;simp only [dZ,List.map_cons,List.mem_cons,not_or] at hV bR;refine .eq rfl (.eq (by simp [jy,pat,hV.1];rfl) (.eq rfl (.ret ?_)));refine⟨{ u3:=qK 1,u4:=((aE s.bQ 1).dr.length:Int),kT:= .px ⟨0,32,⟨some m3⟩⟩,lG:=⟨some m⟩ },m,?_,rfl,rfl,rfl,?_,fun ai=>by simp at ai,?_,fun ai=>by simp at ai,bR.2,hm,fun x ar=>by rw [qR];exact List.mem_cons_of_mem _ (List.mem_cons_of_mem _ (List.mem_cons_of_mem _ ar)),fun x ar=>?_⟩
  ·simp [jy,pat,cQ,hV.1]
  ·simp [mu,pat,cQ,hV.1,hV.2.1,bR.1]
  ·intro _;refine⟨m3,rfl,?_,hV.2.2⟩;simp [lR,pat,cQ,hV.1,hV.2.1,bR.1]
  have qA:m3≠x:=fun e=>hV.2.2 (by rw [e];exact ar);have G3:p≠x:=fun e=>bR.2 (by rw [e];exact ar);have G4:m≠x:=fun e=>hm (by rw [e];exact ar);simp [EE,pat,qA,G3,G4]
 have e:(qK k==1)=false:=by
  have:k=2∨k=3:=by omega
  rcases this with rfl | rfl <;> rfl
 have aX:(qK k==2)=false:=by
  have:k=2∨k=3:=by omega
  rcases this with rfl | rfl <;> rfl
 simp only [e,aX,cond_true,cond_false];refine .bind (P:=fun c6=>Cq s k hp c6 p) (.bind (P:=fun c6=>Cq s k hp c6 p) ?_ fun _ bs=>.ret bs) fun c6 bc=>.ret ⟨p,rfl,bc⟩;refine .eq rfl (.any fun ev=>.mk fun q hq=>?_);simp only [dZ,List.map_cons,List.mem_cons,not_or] at hq bR;refine .eq (by simp [jy,pat,hq.1];rfl) (.eq rfl (.ret ?_));refine⟨{ u3:=qK k,u4:=((aE s.bQ k).dr.length:Int),kT:= .py ⟨some q⟩,lG:=⟨some m⟩ },m,?_,rfl,rfl,rfl,?_,fun ai=>by omega,fun ai=>by omega,fun _=>⟨q,ev.1,ev.2,rfl,?_,hq.2.2⟩,bR.2,hm,fun x ar=>by rw [qR];exact List.mem_cons_of_mem _ (List.mem_cons_of_mem _ (List.mem_cons_of_mem _ ar)),fun x ar=>?_⟩
 ·simp [jy,pat,cQ,hq.1]
 ·simp [mu,pat,cQ,hq.1,hq.2.1,bR.1]
 ·simp [q0,pat,cQ,hq.1]
 have qA:q≠x:=fun e=>hq.2.2 (by rw [e];exact ar);have G3:p≠x:=fun e=>bR.2 (by rw [e];exact ar);have G4:m≠x:=fun e=>hm (by rw [e];exact ar);simp [EE,pat,qA,G3,G4]
theorem Sh {α:Type}{b:α→α→Bool}(hb:wb b){q:α→Bool} :∀ {l:List α} {c:α},l.Pairwise (fun x y=>b x y=true)→c∈l→q c=true→ (∀ d∈l,q d=true→d=c∨b c d=true)→l.find? q=some c
 | [],c,_,ai,_,_=>by cases ai
 | a::l,c,hs,ai,hq,hd=>by
   obtain⟨h1,ae⟩:=List.pairwise_cons.1 hs;by_cases rl:q a=true
   ·rw [List.find?_cons_of_pos rl];rcases hd a (by simp) rl with h | h
    ·rw [h]
    rcases List.mem_cons.1 ai with aA | aA
    ·rw [aA]
    have:=hb.asymm _ _ (h1 c aA);rw [this] at h;cases h
   rw [List.find?_cons_of_neg rl];rcases List.mem_cons.1 ai with aA | aA
   ·rw [aA] at hq;exact absurd hq rl
   exact Sh hb ae aA hq fun d hd' ajn=>hd d (by simp [hd']) ajn
theorem acL {α:Type}{b:α→α→Bool}(hb:wb b){q:α→Bool}{l:List α}{c:α}(h:xH b l)(ai:c∈l)(hq:q c=true)(hd:∀ d∈l,q d=true→d=c∨b c d=true):(iU b l).find? q=some c:=
 Sh hb (LR hb h) (xh.2 ai) hq fun d hd'=>hd d (xh.1 hd')
theorem mB.uniq {s:aZ}{k:Nat} :∀ {l:List az},mB s k l→ ∀ {a c:az},a∈l→c∈l→a.b8=c.b8→a=c:=fun {l} h {a c} a7 ai e=>by
 have aQ:=h.num;clear h;induction l with
 | nil=>cases a7
 | cons x l cA=>
   obtain⟨h1,ae⟩:=List.pairwise_cons.1 aQ
   rcases List.mem_cons.1 a7 with g1 | g1 <;> rcases List.mem_cons.1 ai with g2 | g2
   ·rw [g1,g2]
   ·rw [g1] at e;exact absurd e (h1 c g2)
   ·rw [g2] at e;exact absurd e.symm (h1 a g1)
   exact cA g1 g2 ae
theorem cR.NP {s:aZ}(h:cR s):(aE s.bQ 0).dr= [wA]:=by
 obtain⟨ew,eZ,ju,e⟩:=h.Kp;exact congrArg (·.2.2) (e 0 (by decide))
theorem cR.NQ {s:aZ}(h:cR s):∃ b,(aE s.bQ 1).dr=xw b:=by
 obtain⟨ew,eZ,ju,e⟩:=h.Kp;exact⟨ew,congrArg (·.2.2) (e 1 (by decide))⟩
def KI (s:aZ)(k:Nat):Nat:=(aE s.bQ k).dr.length
theorem acM {α:Type}[Inhabited α]{n:Nat}{f:Fin n→α}{j:Nat}(h:j<n):cd (Vector.ofFn f) j=f ⟨j,h⟩:=by unfold cd;simp [h]
def fD (e:a8):Vector aO 4:=Vector.ofFn fun i=>if i.1<e.cU.length then(aE e.cU i.1).da else default
def iG (p:Vector aO 4):Vector aO 4:=dX p 0 default
theorem Bw {e:a8}{j:Nat}(h:j<4):cd (fD e) j=if j<e.cU.length then(aE e.cU j).da else default:=acM h
theorem Te {p:Vector aO 4}{j:Nat} :cd (iG p) j=if j=0 then default else cd p j:=by unfold iG;rw [jI _ _ (by decide)]
theorem V1 {v w:Vector aO 4} :v=w↔cd v 0=cd w 0∧cd v 1=cd w 1∧cd v 2=cd w 2∧cd v 3=cd w 3:=by
 refine⟨fun h=>by rw [h];exact⟨rfl,rfl,rfl,rfl⟩,fun⟨bH,h1,ae,aA⟩=>R8 fun j aF=>?_⟩;rcases (show j=0∨j=1∨j=2∨j=3 by omega) with rfl | rfl | rfl | rfl <;> assumption
theorem abM {v w:aO}{n m:Nat} :fb v n=fb w m↔n=m∧ ∀ i,i<n→c7 v (31 - i)=c7 w (31 - i):=by
 unfold fb;constructor
 ·intro h;have ao:=congrArg List.length h;simp only [List.length_map,List.length_range] at ao;subst ao;refine⟨rfl,fun i au=>?_⟩;have:=congrArg (·[i]?) h;simpa [au] using this
 rintro ⟨rfl,h⟩;exact List.map_congr_left fun i au=>h i (List.mem_range.1 au)
def lx (e:a8):List Bool:=fb (aE e.cU 0).da (aE e.cU 0).gm.toNat
theorem FO {s:aZ}(h:cR s){e:a8}(he:gp s 1 e):r5 2 32 (aE e.cU 0):=by
 have hm:=he.CL 0;obtain⟨b,hb⟩:=h.NQ;rw [hb] at hm;cases b
 ·exact hm (by decide)
 exact hm (by decide)
theorem EW {k:Int}(bH:0≤k)(h1:k≤32){j:Nat} :lead 32 k j=true↔32 - k≤ (j:Int)∧j<32:=by
 unfold lead;rw [Bool.and_eq_true,decide_eq_true_eq,decide_eq_true_eq];omega
theorem acN {m:cg}(hm:r5 2 32 m){v:aO}{n:Nat}(aQ:n≤32):fb m.da m.gm.toNat=fb v n↔m.gm=n∧ ∀ j,j<128→lead 32 m.gm j=true→c7 v j=c7 m.da j:=by
 have hp:=hm.pre;rw [abM];constructor
 ·rintro ⟨h1,ae⟩;refine⟨by omega,fun j aF ao=>?_⟩;rw [EW hp.1 hp.2] at ao;have:=ae (31 - j) (by omega);rw [show 31 - (31 - j)=j by omega] at this;exact this.symm
 rintro ⟨h1,ae⟩;refine⟨by omega,fun i au=>?_⟩;exact(ae (31 - i) (by omega) ((EW hp.1 hp.2).2 (by omega))).symm
theorem V2 {s:aZ}(h:cR s){e:a8}(he:gp s 1 e):e.gl=0:=by
 refine he.pri fun i au=>?_;obtain⟨b,hb⟩:=h.NQ;rw [hb] at au ⊢;cases b
 ·have:i=0:=by have:i<1:=au;omega
  subst this;decide
 have:i=0∨i=1:=by have:i<2:=au;omega
 rcases this with rfl | rfl <;> decide
theorem Own.iff {hp hp':aC Cell}{t:Nat}{c:gy}(ai:gL hp t=some c)(h:∀ q,Own hp t q→pat hp' q=pat hp q):gL hp' t=some c∧ (∀ ba,dp hp' c.eT ba=dp hp c.eT ba)∧ ∀ q,Own hp' t q↔Own hp t q:=by
 have h1:gL hp' t=some c:=by rw [H2 (h t (.inl rfl))];exact ai
 have ae:∀ ba,dp hp' c.eT ba=dp hp c.eT ba:=fun ba=>RG fun p cs hp=>yF (h p (.inr ⟨c,cs,ai,hp⟩));refine⟨h1,ae,fun q=>⟨fun hq=>?_,fun hq=>?_⟩⟩
 ·rcases hq with rfl | ⟨hz,ba,g1,g2⟩
  ·exact .inl rfl
  rw [h1] at g1;cases g1;rw [ae] at g2;exact .inr ⟨c,ba,ai,g2⟩
 rcases hq with rfl | ⟨hz,ba,g1,g2⟩
 ·exact .inl rfl
 rw [ai] at g1;cases g1;exact .inr ⟨c,ba,h1,by rw [ae];exact g2⟩
theorem kE.congr {hp hp':aC Cell}{t:Nat}{g:List Bool→Option Int}(h:kE hp t g)(a7:∀ q,Own hp t q→pat hp' q=pat hp q):kE hp' t g∧ ∀ q,Own hp' t q↔Own hp t q:=by
 obtain⟨c,ai,hb,bP,bO⟩:=h.ok;obtain⟨h1,ae,aA⟩:=Own.iff ai a7;refine⟨⟨⟨c,h1,hb,⟨fun ba p hp=>?_,fun ba cs p g1 g2=>?_,fun ba p g1=>bP.dep ba p (by rw [← ae];exact g1)⟩,fun ba=>?_⟩⟩,aA⟩
 ·rw [ae] at hp;obtain⟨d,hd⟩:=bP.reads ba p hp;exact⟨d,by rw [yF (a7 p (.inr ⟨c,ba,ai,hp⟩))];exact hd⟩
 ·rw [ae] at g1 g2;exact bP.inj ba cs p g1 g2
 rw [← bO];cases e:dp hp c.eT ba with
 | none=>rw [mJ e,mJ (by rw [ae];exact e)]
 | some p=>
   obtain⟨d,hd⟩:=bP.reads ba p e
   rw [l5 e hd,l5 (by rw [ae];exact e) (by rw [yF (a7 p (.inr ⟨c,ba,ai,e⟩))];exact hd)]
theorem kE.y8 {hp:aC Cell}{t:Nat}{g:List Bool→Option Int}(h:kE hp t g){q:Nat}(hq:Own hp t q):q∈dZ hp:=by
 obtain⟨c,ai,hb,bP,bO⟩:=h.ok;rcases hq with rfl | ⟨hz,ba,g1,g2⟩
 ·exact jV (uN.1 ai)
 rw [ai] at g1;cases g1;obtain⟨d,hd⟩:=bP.reads ba q g2;exact jV (rG.1 hd)
theorem kE.I4 {hp:aC Cell}{t:Nat}{g:List Bool→Option Int}(h:kE hp t g){q:Nat}(hq:Own hp t q):(∃ c,pat hp q=some (.lp c))∨ ∃ c,pat hp q=some (.gS c):=by
 obtain⟨c,ai,hb,bP,bO⟩:=h.ok;rcases hq with rfl | ⟨hz,ba,g1,g2⟩
 ·exact .inl ⟨c,uN.1 ai⟩
 rw [ai] at g1;cases g1;obtain⟨d,hd⟩:=bP.reads ba q g2;exact .inr ⟨d,rG.1 hd⟩
def fE (a c:a8):Bool:=decide (a.b3=c.b3∧a.cU=c.cU∧a.gl=c.gl)
theorem rS {a c:a8} :fE a c=true↔a.b3=c.b3∧a.cU=c.cU∧a.gl=c.gl:=by unfold fE;rw [decide_eq_true_eq]
theorem om (a:a8):fE a a=true:=rS.2 ⟨rfl,rfl,rfl⟩
theorem rM (a c:a8):fE a c=fE c a:=by
 rw [Bool.eq_iff_iff,rS,rS];exact⟨fun⟨x,y,z⟩=>⟨x.symm,y.symm,z.symm⟩,fun⟨x,y,z⟩=>⟨x.symm,y.symm,z.symm⟩⟩
theorem rJ {a c d:a8}(h1:fE a c=true)(ae:fE c d=true):fE a d=true:=by
 rw [rS] at *;exact⟨h1.1.trans ae.1,h1.2.1.trans ae.2.1,h1.2.2.trans ae.2.2⟩
theorem My {a c:cg}(h1:a.fO=c.fO)(ae:a.da=c.da)(aA:a.ho=c.ho)(aV:a.gm=c.gm)(bc:a.nQ=c.nQ):a=c:=by
 cases a;cases c;simp_all
theorem Tf {b:Int}{m rA:cg}(h:r5 1 b m)(dc:r5 1 b rA)(e:m.da=rA.da):m=rA:=
 My (by rw [h.WJ rfl,dc.WJ rfl]) e (by rw [h.iC (by decide),dc.iC (by decide)]) (by rw [h.WL (by decide),dc.WL (by decide)]) (by rw [h.Kn (by decide),dc.Kn (by decide)])
theorem acO {m rA:cg}(h:r5 2 32 m)(dc:r5 2 32 rA)(e:fb m.da m.gm.toNat=fb rA.da rA.gm.toNat):m=rA:=by
 have hp:=h.pre;have hp':=dc.pre;obtain⟨n,aQ⟩:=Int.eq_ofNat_of_zero_le hp'.1;rw [aQ,Int.toNat_natCast] at e;obtain⟨av,aX⟩:=(acN h (by omega)).1 e;have c0:m.gm=rA.gm:=by omega
 have ajo:m.fO=rA.fO:=by
  cases g1:m.fO <;> cases g2:rA.fO
  ·rfl
  ·have:=dc.WK rfl g2;have:=h.off g1;have bH:(default:cg).gm=0:=rfl;rw [this,bH] at c0;omega
  ·have:=h.WK rfl g1;have:=dc.off g2;have bH:(default:cg).gm=0:=rfl;rw [this,bH] at c0;omega
  rfl
 refine My ajo (M3 fun j aF=>?_) (by rw [h.iC (by decide),dc.iC (by decide)]) c0 (by rw [h.Kn (by decide),dc.Kn (by decide)]);cases ao:lead 32 m.gm j with
 | true=>exact(aX j aF ao).symm
 | false=>
   have oG:c7 m.da j=false:=by
    rw [Bool.eq_false_iff];intro bm;have:=h.Pm rfl j aF bm;rw [(EW hp.1 hp.2).2 this] at ao;cases ao
   have qs:c7 rA.da j=false:=by
    rw [Bool.eq_false_iff];intro bm;have:=dc.Pm rfl j aF bm;rw [c0,(EW hp'.1 hp'.2).2 this] at ao;cases ao
   rw [oG,qs]
theorem JT {α:Type}[Inhabited α]{l:List α}(h:l.length=1):l= [aE l 0]:=by
 match l,h with
 | [x],_=>rfl
theorem V3 {α:Type}[Inhabited α]{l:List α}(h:l.length=2):l= [aE l 0,aE l 1]:=by
 match l,h with
 | [x,y],_=>rfl
theorem GF {s:aZ}(h:cR s){a c:a8}(a7:gp s 0 a)(ai:gp s 0 c):fE a c=true↔fD a=fD c:=by
 rw [rS];have cN:=a7.len;have lc:=ai.len;have G5:=a7.CL 0;have o9:=ai.CL 0;have KJ:=a7.pri;have KK:=ai.pri;rw [h.NP] at cN lc G5 o9 KJ KK;have hk:∀ i,i<[wA].length→ (aE [wA] i).eg≤2:=by decide
 refine⟨fun⟨h1,ae,aA⟩=>by unfold fD;rw [ae],fun e=>⟨by rw [a7.gG,ai.gG],?_,by rw [KJ hk,KK hk]⟩⟩;have h3:=(V1.1 e).1;rw [Bw (by decide),Bw (by decide),cN,lc] at h3;have h3:(aE a.cU 0).da=(aE c.cU 0).da:=h3;rw [JT (l:=a.cU) cN,JT (l:=c.cU) lc,Tf (G5 (by decide)) (o9 (by decide)) h3]
theorem CO {s:aZ}(h:cR s){a c:a8}(a7:gp s 1 a)(ai:gp s 1 c):fE a c=true↔iG (fD a)=iG (fD c)∧lx a=lx c:=by
 rw [rS];have cN:=a7.len;have lc:=ai.len;have G5:=a7.CL 1;have o9:=ai.CL 1;have KJ:=V2 h a7;have KK:=V2 h ai;have m0:=FO h a7;have ajp:=FO h ai;obtain⟨b,hb⟩:=h.NQ;rw [hb] at cN lc G5 o9;refine⟨fun⟨h1,ae,aA⟩=>by unfold fD lx;rw [ae];exact⟨rfl,rfl⟩,fun⟨e,e'⟩=>⟨by rw [a7.gG,ai.gG],?_,by rw [KJ,KK]⟩⟩;have bH:=acO m0 ajp e';cases b
 ·rw [JT (l:=a.cU) cN,JT (l:=c.cU) lc,bH]
 have av:=(V1.1 e).2.1;rw [Te,Te,if_neg (by decide),if_neg (by decide),Bw (by decide),Bw (by decide),cN,lc] at av;have av:(aE a.cU 1).da=(aE c.cU 1).da:=av;rw [V3 (l:=a.cU) cN,V3 (l:=c.cU) lc,bH,Tf (G5 (by decide)) (o9 (by decide)) av]
structure iH (s:aZ)(k:Nat)(l:List az):Prop where
 ok:mB s k l
 key:l.Pairwise fun a c=>fE a.bd c.bd=false
theorem iH.uniq {s:aZ}{k:Nat}{l:List az}(h:iH s k l){a c:az}(a7:a∈l)(ai:c∈l)(e:fE a.bd c.bd=true):a=c:=by
 have aQ:=h.key;clear h;induction l with
 | nil=>cases a7
 | cons x l cA=>
   obtain⟨h1,ae⟩:=List.pairwise_cons.1 aQ
   rcases List.mem_cons.1 a7 with g1 | g1 <;> rcases List.mem_cons.1 ai with g2 | g2
   ·rw [g1,g2]
   ·rw [g1,h1 c g2] at e;cases e
   ·rw [g2,rM,h1 a g1] at e;cases e
   exact cA g1 g2 ae
def dE (l:List az)(e:a8):Option az:=l.find? fun i=>fE i.bd e
theorem oi {l:List az}{e:a8}{i:az}(h:dE l e=some i):i∈l∧fE i.bd e=true:=by
 unfold dE at h;have ae:=List.find?_some h;exact⟨List.mem_of_find?_eq_some h,ae⟩
theorem sL {l:List az}{e:a8}(h:dE l e=none):∀ i∈l,fE i.bd e=false:=fun i au=>by
 have:=List.find?_eq_none.1 h i au;simpa using this
theorem iH.TV {s:aZ}{k:Nat}{l:List az}(h:iH s k l){e:a8}{i:az}(au:i∈l)(hk:fE i.bd e=true):dE l e=some i:=by
 cases aY:dE l e with
 | none=>rw [sL aY i au] at hk;cases hk
 | some c=>
   obtain⟨h1,ae⟩:=oi aY
   rw [h.uniq h1 au (rJ ae (by rw [rM];exact hk))]
def wB (o:Option az):Int×Bool:=match o with | some i=>(i.b8,true) | none=>(0,false)
def pa {α β:Type}(l:List (α×β)):Prop:=l.Pairwise fun a c=>a.1≠c.1
theorem Si {α β:Type}[DecidableEq α]:∀ {l:List (α×β)} {x:α} {v:β} {a:α×β},a∈gB l x v→a.1=x∨a∈l
 | [],x,v,a,h=>by
   have:a=(x,v):=by simpa [gB] using h
   rw [this];exact .inl rfl
 | (k,w)::r,x,v,a,h=>by
   unfold gB at h;split at h
   ·rcases List.mem_cons.1 h with h | h
    ·rw [h];exact .inl rfl
    exact .inr (by simp [h])
   rcases List.mem_cons.1 h with h | h
   ·exact .inr (by simp [h])
   exact(Si h).imp id fun h=>List.mem_cons_of_mem _ h
theorem pa.put {α β:Type}[DecidableEq α]:∀ {l:List (α×β)} {x:α} {v:β},pa l→pa (gB l x v)
 | [],x,v,_=>by unfold gB pa;simp
 | (k,w)::r,x,v,h=>by
   obtain⟨h1,ae⟩:=List.pairwise_cons.1 h;unfold gB;split
   ·rename_i e;refine List.pairwise_cons.2 ⟨fun a a7=>?_,ae⟩;have:=h1 a a7;rw [e];exact this
   rename_i e;refine List.pairwise_cons.2 ⟨fun a a7=>?_,pa.put ae⟩;rcases Si a7 with g | g
   ·rw [g];exact fun e'=>e e'.symm
   exact h1 a g
theorem Sj {α β:Type}[DecidableEq α]:∀ {l:List (α×β)} {x:α} {a:α×β},a∈jg l x→a∈l
 | [],x,a,h=>by cases h
 | (k,w)::r,x,a,h=>by
   unfold jg at h;split at h
   ·exact List.mem_cons_of_mem _ h
   rcases List.mem_cons.1 h with h | h
   ·simp [h]
   exact List.mem_cons_of_mem _ (Sj h)
theorem pa.del {α β:Type}[DecidableEq α]:∀ {l:List (α×β)} {x:α},pa l→pa (jg l x)
 | [],x,_=>by unfold jg pa;exact .nil
 | (k,w)::r,x,h=>by
   obtain⟨h1,ae⟩:=List.pairwise_cons.1 h;unfold jg;split
   ·exact ae
   exact List.pairwise_cons.2 ⟨fun a a7=>h1 a (Sj a7),pa.del ae⟩
theorem Tg {α β:Type}[DecidableEq α]:∀ {l:List (α×β)} {x:α},(∀ a∈l,a.1≠x)→ec l x=none
 | [],_,_=>rfl
 | (k,w)::r,x,h=>by
   unfold ec;rw [if_neg fun e=>h (k,w) (by simp) e.symm,Tg fun a a7=>h a (by simp [a7])]
theorem Bs {α β:Type}[DecidableEq α]:∀ {l:List (α×β)} {x y:α},pa l→ec (jg l x) y=if y=x then none else ec l y
 | [],x,y,_=>by
   show none=if y=x then none else none;split <;> rfl
 | (k,w)::r,x,y,h=>by
   obtain⟨h1,ae⟩:=List.pairwise_cons.1 h;unfold jg;by_cases e:x=k
   ·rw [if_pos e];by_cases aX:y=x
    ·rw [if_pos aX,aX,e];exact Tg fun a a7=>(h1 a a7).symm
    rw [if_neg aX];show _=if y=k then _ else _;rw [if_neg (by rw [← e];exact aX)]
   rw [if_neg e];show(if y=k then some w else ec (jg r x) y)=_;by_cases aX:y=k
   ·rw [if_pos aX,if_neg (by rw [aX];exact fun c0=>e c0.symm)];show _=if y=k then _ else _;rw [if_pos aX]
   rw [if_neg aX,Bs ae];show _=if y=x then none else if y=k then _ else _;rw [if_neg aX]
structure BW (s:aZ)(hp:aC Cell)(q:Nat)(l:List az)(own:Nat→Prop):Prop where
 ok:∃ m em,ov hp q=some ⟨⟨some m⟩⟩∧nm hp m=some em∧own q∧own m∧ (∀ dv n,ec em dv=some n↔ ∃ i∈l,fD i.bd=dv∧i.b8=n)∧pa em
structure oZ (s:aZ)(hp:aC Cell)(m:Nat)(l:List az)(own:Nat→Prop):Prop where
 ok:∃ em,lR hp m=some em∧own m∧
  (∀ dv r,ec em dv=some r→ ∃ t g,r=some t∧kE hp t g∧ (∀ q,Own hp t q→own q)∧ ∀ ba n,g ba=some n↔ ∃ i∈l,iG (fD i.bd)=dv∧lx i.bd=ba∧i.b8=n)∧
  (∀ dv,ec em dv=none→ ∀ i∈l,iG (fD i.bd)≠dv)∧
  (∀ dv ly t fW,ec em dv=some (some t)→ec em ly=some (some fW)→dv≠ly→ ∀ q,Own hp t q→ ¬ Own hp fW q)∧pa em
structure BX (s:aZ)(k:Nat)(hp:aC Cell)(q:Nat)(l:List az)(own:Nat→Prop):Prop where
 ok:∃ key cap,q0 hp q=some (vq s k l,key,cap)∧own q
def s3 (s:aZ)(k:Nat)(hp:aC Cell)(f:h5)(l:List az)(own:Nat→Prop):Prop:=
 (k=0∧ ∃ q,f= .pw ⟨some q⟩∧BW s hp q l own)∨ (k=1∧ ∃ m,f= .px ⟨0,32,⟨some m⟩⟩∧oZ s hp m l own)∨ (2≤k∧ ∃ q,f= .py ⟨some q⟩∧BX s k hp q l own)
theorem LB {hp hp':aC Cell}{p:Nat}(h:pat hp' p=pat hp p):ov hp' p=ov hp p:=by unfold ov;rw [h]
theorem ZN {hp hp':aC Cell}{p:Nat}(h:pat hp' p=pat hp p):nm hp' p=nm hp p:=by unfold nm;rw [h]
theorem H4 {hp hp':aC Cell}{p:Nat}(h:pat hp' p=pat hp p):lR hp' p=lR hp p:=by unfold lR;rw [h]
theorem ZO {hp hp':aC Cell}{p:Nat}(h:pat hp' p=pat hp p):q0 hp' p=q0 hp p:=by unfold q0;rw [h]
theorem ZP {hp hp':aC Cell}{p:Nat}(h:pat hp' p=pat hp p):jy hp' p=jy hp p:=by unfold jy;rw [h]
theorem ZQ {hp hp':aC Cell}{p:Nat}(h:pat hp' p=pat hp p):mu hp' p=mu hp p:=by unfold mu;rw [h]
theorem s3.congr {s:aZ}{k:Nat}{hp hp':aC Cell}{f:h5}{l:List az}{own:Nat→Prop}(h:s3 s k hp f l own){own':Nat→Prop}(bp:∀ q,q∈dZ hp→own q→own' q)(a7:∀ q,own q→pat hp' q=pat hp q):s3 s k hp' f l own':=by
 rcases h with⟨rfl,q,rfl,h⟩ | ⟨rfl,m,rfl,h⟩ | ⟨hk,q,rfl,h⟩
 ·obtain⟨m,em,h1,ae,aA,aV,bc,kF⟩:=h.ok;refine .inl ⟨rfl,q,rfl,⟨m,em,by rw [LB (a7 q aA)];exact h1,by rw [ZN (a7 m aV)];exact ae,bp q (jV (w9 h1)) aA,bp m (jV (tM ae)) aV,bc,kF⟩⟩
 ·obtain⟨em,h1,ae,aA,aV,bc,kF⟩:=h.ok;have key:∀ dv r,ec em dv=some r→ ∃ t g,r=some t∧kE hp t g∧kE hp' t g∧ (∀ q,Own hp t q→own q)∧ (∀ q,Own hp' t q↔Own hp t q)∧ ∀ ba n,g ba=some n↔ ∃ i∈l,iG (fD i.bd)=dv∧lx i.bd=ba∧i.b8=n:=fun dv r aI=>by
   obtain⟨t,g,rfl,g1,g2,g3⟩:=aA dv r aI;obtain⟨g4,g5⟩:=g1.congr fun q hq=>a7 q (g2 q hq);exact⟨t,g,rfl,g1,g4,g2,g5,g3⟩
  refine .inr (.inl ⟨rfl,m,rfl,⟨em,by rw [H4 (a7 m ae)];exact h1,bp m (jV (oY h1)) ae,fun dv r aI=>?_,aV,fun dv ly t fW bP zW dC q hq=>?_,kF⟩⟩)
  ·obtain⟨t,g,rfl,g0,g1,g2,g3,g4⟩:=key dv r aI;exact⟨t,g,rfl,g1,fun q hq=>bp q (g0.y8 ((g3 q).1 hq)) (g2 q ((g3 q).1 hq)),g4⟩
  obtain⟨_,g,e,g0,g1,g2,g3,g4⟩:=key dv _ bP;obtain⟨_,eG,e',ala,ajq,ajr,ajs,alb⟩:=key ly _ zW;cases e;cases e';rw [ajs];exact bc dv ly t fW bP zW dC q ((g3 q).1 hq)
 obtain⟨key,cap,h1,ae⟩:=h.ok;exact .inr (.inr ⟨hk,q,rfl,⟨key,cap,by rw [ZO (a7 q ae)];exact h1,bp q (jV (yZ h1)) ae⟩⟩)
theorem II {e:a8}(ao:e.cU.length≤4):wR e=some (fD e):=by
 refine br.get ?_;unfold wR;refine .eq (a:=e.cU) (by unfold qW;rw [if_pos ⟨by omega,by omega,by omega⟩,Int.toNat_zero,List.drop_zero,Nat.sub_zero,List.take_of_length_le (by omega)]) ?_;refine br.loop e.cU.length (fun i st=>st.1=(i:Int)∧ ∀ j,j<4→cd st.2 j=if j<i then(aE e.cU j).da else default) (by omega) ⟨rfl,fun j aF=>by rw [HV];rfl⟩ (fun i st au hs=>?_) (fun st hs=>?_)
 ·obtain⟨j,v⟩:=st;obtain⟨av,aX⟩:=hs;simp only at av aX;subst av;refine .cond (fun _=>?_) (fun ai=>by simp at ai;omega);refine .idx rfl au (.idx rfl (by omega) (.ret ⟨fH (by omega),fun j aF=>?_⟩));rw [jI _ _ (by omega)];by_cases kf:j=i
  ·rw [if_pos kf,if_pos (by omega),kf]
  rw [if_neg kf,aX j aF];by_cases h:j<i
  ·rw [if_pos h,if_pos (by omega)]
  rw [if_neg h,if_neg (by omega)]
 obtain⟨j,v⟩:=st;obtain⟨av,aX⟩:=hs;simp only at av aX;subst av;refine⟨_,by simp;rfl,.ret ?_⟩;exact R8 fun j aF=>by rw [aX j aF,Bw aF]
theorem gp.JU {s:aZ}(h:cR s){k:Nat}(hk:k<4){e:a8}(he:gp s k e):e.cU.length≤4∧1≤e.cU.length:=by
 have:=(h.gG hk).2.1;rw [he.len];omega
theorem abN {a c:List cg}(ao:a.length≤1000):C8 a c=some (decide (a=c)):=by
 refine br.get ?_;unfold C8;refine .cond (fun h=>.ret ?_) fun h=>?_
 ·have:a≠c:=fun e=>by rw [e] at h;simp at h
  simp [this]
 have CI:c.length=a.length:=by
  have:(a.length:Int)=c.length:=by simpa using h
  omega
 refine br.loop a.length (fun i st=>st=(i:Int)∧ ∀ j,j<i→aE a j=aE c j) (by omega) ⟨rfl,fun j aF=>by omega⟩ (fun i st au hs=>?_) (fun st hs=>?_)
 ·obtain⟨rfl,hs⟩:=hs;refine .cond (fun _=>?_) (fun ai=>by simp at ai;omega);refine .idx rfl au (.idx rfl (by omega) (.cond (fun dC=>.ret ?_) fun he=>.ret ⟨fH (by omega),fun j aF=>?_⟩))
  ·simp only [Sum.elim_inr];refine .ret ?_;have:a≠c:=fun e=>by rw [e] at dC;simp at dC
   simp [this]
  by_cases kf:j=i
  ·subst kf;simpa using he
  exact hs j (by omega)
 obtain⟨rfl,hs⟩:=hs;refine⟨_,by simp;rfl,?_⟩;simp only [Sum.elim_inl];refine .ret ?_;have:a=c:=List.ext_getElem CI.symm fun j h1 ae=>by
  have:=hs j h1;rwa [e7 _ h1,e7 _ ae] at this
 simp [this]
theorem aaj {a c:a8}(ao:a.cU.length≤1000):D1 a c=some (fE a c):=by
 refine br.get ?_;unfold D1 fE;refine .cX (P:=fun r=>r=decide (a.cU=c.cU)) (fun _=>⟨_,abN ao,rfl⟩) fun y a1=>.ret ?_;by_cases h:a.b3=c.b3
 ·rw [a1 (by simpa using h)];rw [Bool.eq_iff_iff];simp [h]
 simp [h]
theorem aga {s:aZ}(h:cR s){hp:aC Cell}{q:Nat}{l:List az}{own:Nat→Prop}(hq:BW s hp q l own)(ao:iH s 0 l){e:a8}(he:gp s 0 e):DF hp ⟨some q⟩ e=some (wB (dE l e)):=by
 obtain⟨m,em,h1,ae,_,_,bc,_⟩:=hq.ok;refine br.get ?_;unfold DF AS;refine .eq (II (he.JU h (by decide)).1) ?_;have hm:ec em (fD e)=(dE l e).map (·.b8):=by
  cases aY:dE l e with
  | none=>
    cases bO:ec em (fD e) with
    | none=>rfl
    | some n=>
      obtain⟨i,au,bs,_⟩:=(bc _ _).1 bO
      have:=sL aY i au
      rw [(GF h (ao.ok.ok i au).ej he).2 bs] at this;cases this
  | some i=>
    obtain⟨au,hk⟩:=oi aY
    exact(bc _ _).2 ⟨i,au,(GF h (ao.ok.ok i au).ej he).1 hk,rfl⟩
 refine .eq (a:=wB (dE l e)) ?_ (.ret rfl);show(ov hp q).bind _=_;rw [h1];show(nm hp m).bind _=_;rw [ae];show some ((ec em (fD e)).getD default,(ec em (fD e)).isSome)=_;rw [hm];cases dE l e <;> rfl
theorem Mz {s:aZ}(h:cR s){e:a8}(he:gp s 1 e)(m:fj):yh ⟨0,32,m⟩ e=some (iG (fD e),(aE e.cU 0).da,(aE e.cU 0).gm):=by
 have ao:=he.JU h (by decide);refine br.get ?_;unfold yh Hp;refine .eq (II ao.1) (.eq (a:=(iG (fD e),cd (fD e) 0)) rfl (.cond (fun ai=>by have ai:(0:Int)≥ (e.cU.length:Int):=of_decide_eq_true ai;omega) fun _=>.idx (k:=0) rfl (by omega) (.ret ?_)));rw [Bw (by decide),if_pos (by omega)]
theorem L7 {m:cg}(h:r5 2 32 m):∀ j,j<128→c7 m.da j=true→lead 32 m.gm j=true:=fun j aF bm=>
 (EW h.pre.1 h.pre.2).2 (h.Pm rfl j aF bm)
theorem agb {s:aZ}(h:cR s){hp:aC Cell}{m:Nat}{l:List az}{own:Nat→Prop}(hq:oZ s hp m l own)(ao:iH s 1 l){e:a8}(he:gp s 1 e):Dk hp ⟨0,32,⟨some m⟩⟩ e=some (wB (dE l e)):=by
 obtain⟨em,h1,_,aA,aV,_⟩:=hq.ok;have iB:=FO h he;refine br.get ?_;unfold Dk;refine .eq (Mz h he _) (.eq rfl (.eq h1 (.eq rfl ?_)));obtain⟨n,aQ⟩:=Int.eq_ofNat_of_zero_le iB.pre.1;have FP:n≤32:=by have:=iB.pre.2;omega
 have xx:=L7 iB;refine .eq (a:=wB (dE l e)) ?_ (.ret rfl);simp only;cases aI:ec em (iG (fD e)) with
 | none=>
   have aY:dE l e=none:=by
    cases aY:dE l e with
    | none=>rfl
    | some i=>
      obtain⟨au,hk⟩:=oi aY
      exact absurd ((CO h (ao.ok.ok i au).ej he).1 hk).1 (aV _ aI i au)
   rw [aY];rfl
 | some r=>
   obtain⟨t,g,rfl,g1,_,g3⟩:=aA _ _ aI
   have bO:g (lx e)=(dE l e).map (·.b8):=by
    cases aY:dE l e with
    | none=>
      cases Ps:g (lx e) with
      | none=>rfl
      | some n=>
        obtain⟨i,au,bs,df,_⟩:=(g3 _ _).1 Ps
        have:=sL aY i au
        rw [(CO h (ao.ok.ok i au).ej he).2 ⟨bs,df⟩] at this;cases this
    | some i=>
      obtain⟨au,hk⟩:=oi aY
      obtain⟨bs,df⟩:=(CO h (ao.ok.ok i au).ej he).1 hk
      exact(g3 _ _).2 ⟨i,au,bs,df,rfl⟩
   rw [aQ] at xx ⊢
   show yy hp (some t) _ (n:Int)=_
   rw [TU g1 FP xx]
   have hp':fb (aE e.cU 0).da n=lx e:=by unfold lx;rw [aQ];rfl
   rw [hp',bO]
   cases dE l e <;> rfl
theorem agc {s:aZ}(h:cR s){k:Nat}(hk:k<4){hp:aC Cell}{q:Nat}{l:List az}{own:Nat→Prop}(hq:BX s k hp q l own)(ao:iH s k l){e:a8}(he:gp s k e):DJ hp ⟨some q⟩ e=some (wB (dE l e)):=by
 obtain⟨key,cap,h1,_⟩:=hq.ok;refine br.get ?_;unfold DJ;refine .eq rfl (.eq h1 (.eq (adN h hk ao.ok) ?_));obtain⟨lB,ia⟩:=ao.ok.iU;have aY:dE l e=(iU (jG s k) l).find? fun i=>fE i.bd e:=by
  cases aY:dE l e with
  | none=>
    symm
    rw [List.find?_eq_none]
    intro x ar
    rw [sL aY x (xh.1 ar)];simp
  | some i=>
    obtain⟨au,o6⟩:=oi aY
    exact(acL (I3 s k) ao.ok.Pq au o6 fun d hd ajt=>.inl (ao.uniq hd au (rJ ajt (by rw [rM];exact o6)))).symm
 rw [aY];refine br.loop (iU (jG s k) l).length (fun i st=>st=(i:Int)∧ ∀ j,j<i→fE (aE (iU (jG s k) l) j).bd e=false) (by omega) ⟨rfl,fun j aF=>by omega⟩ (fun i st au hs=>?_) (fun st hs=>?_)
 ·obtain⟨rfl,hs⟩:=hs;refine .cond (fun _=>?_) (fun ai=>by simp at ai;omega);have hm:=lB (aE (iU (jG s k) l) i) (by rw [e7 _ au];exact List.getElem_mem _);refine .idx rfl au (.eq (aaj (hm.small h hk).1) (.cond (fun ai=>.ret ?_) fun ai=>.ret ⟨fH (by omega),fun j aF=>?_⟩))
  ·simp only [Sum.elim_inr];refine .ret ?_;rw [S7 (p:=fun i=>fE i.bd e) au ai hs];rfl
  by_cases kf:j=i
  ·subst kf;exact ai
  exact hs j (by omega)
 obtain⟨rfl,hs⟩:=hs;refine⟨_,by simp;rfl,?_⟩;simp only [Sum.elim_inl];refine .ret ?_;rw [S8 fun c ai=>?_]
 ·rfl
 obtain⟨j,aF,rfl⟩:=List.mem_iff_getElem.1 ai;rw [← e7 _ aF];exact hs j aF
theorem Vh {s:aZ}(h:cR s){k:Nat}(hk:k<4){hp:aC Cell}{f:h5}{l:List az}{own:Nat→Prop}(hq:s3 s k hp f l own)(ao:iH s k l){e:a8}(he:gp s k e):Hv hp f e=some (wB (dE l e)):=by
 rcases hq with⟨rfl,q,rfl,hq⟩ | ⟨rfl,m,rfl,hq⟩ | ⟨de,q,rfl,hq⟩
 ·exact aga h hq ao he
 ·exact agb h hq ao he
 exact agc h hk hq ao he
def nU (own:Nat→Prop)(hp hp':aC Cell)(q:Nat):Prop:=own q∨ (q ∉ dZ hp∧q∈dZ hp')
theorem Sk {hp:aC Cell}{p:Nat}{k:Cell}{x:List (Vector aO 4×Int)}(h:pat hp p=some k):nm (cQ hp p (.qb x)) p=some x:=by unfold nm;rw [rR h]
theorem Sl {hp:aC Cell}{p:Nat}{k:Cell}{x:List (Vector aO 4×Ref)}(h:pat hp p=some k):lR (cQ hp p (.nY x)) p=some x:=by unfold lR;rw [rR h]
theorem ah5 {s:aZ}(h:cR s){hp:aC Cell}{q:Nat}{l:List az}{own:Nat→Prop}(hq:BW s hp q l own)(ao:iH s 0 l){i:az}(au:kI s 0 i)(aY:dE l i.bd=none):
 br (DP hp ⟨some q⟩ i) (fun hp'=>BW s hp' q (l++[i]) (nU own hp hp')∧fo hp hp' own):=by
 obtain⟨m,em,h1,ae,aA,aV,bc,kF⟩:=hq.ok
 have gF:ec em (fD i.bd)=none:=by
  cases bO:ec em (fD i.bd) with
  | none=>rfl
  | some n=>
    obtain⟨c,ai,bs,_⟩:=(bc _ _).1 bO
    have:=sL aY c ai
    rw [(GF h (ao.ok.ok c ai).ej au.ej).2 bs] at this;cases this
 unfold DP HM
 refine .eq (II (au.ej.JU h (by decide)).1) ?_
 refine .eq (a:=(true,cQ hp m (Cell.qb (gB em (fD i.bd) i.b8)))) ?_ (.ret ?_)
 ·show(ov hp q).bind _=_
  rw [h1]
  show(nm hp m).bind _=_
  rw [ae]
  show cond (ec em (fD i.bd)).isSome _ _=_
  rw [gF]
  show(ov hp q).bind _=_
  rw [h1]
  show(nm hp m).bind _=_
  rw [ae];rfl
 have zX:q≠m:=fun e=>by
  subst e;have:=w9 h1;rw [tM ae] at this;cases this
 refine⟨⟨m,_,by rw [LB (mI zX.symm)];exact h1,Sk (tM ae),.inl aA,.inl aV,fun dv n=>?_,kF.put⟩,.up aV⟩
 rw [uM]
 by_cases h0:dv=fD i.bd
 ·rw [if_pos h0]
  constructor
  ·intro e
   cases e
   exact⟨i,by simp,h0.symm,rfl⟩
  rintro ⟨c,ai,bs,df⟩
  rcases List.mem_append.1 ai with ai | ai
  ·have:=(bc _ _).2 ⟨c,ai,bs,df⟩
   rw [h0,gF] at this;cases this
  rw [List.mem_singleton.1 ai] at df;rw [df]
 rw [if_neg h0,bc]
 constructor
 ·rintro ⟨c,ai,bs⟩;exact⟨c,by simp [ai],bs⟩
 rintro ⟨c,ai,bs,df⟩
 rcases List.mem_append.1 ai with ai | ai
 ·exact⟨c,ai,bs,df⟩
 rw [List.mem_singleton.1 ai] at bs;exact absurd bs.symm h0
theorem ah6 {s:aZ}(h:cR s){hp:aC Cell}{m:Nat}{l:List az}{own:Nat→Prop}(hq:oZ s hp m l own)(gu:∀ q,own q→q∈dZ hp)(ao:iH s 1 l){i:az}(au:kI s 1 i)(aY:dE l i.bd=none)
 {em:List (Vector aO 4×Ref)} (n5:lR hp m=some em) {t:Nat} (bP:ec em (iG (fD i.bd))=some (some t)):
 c9 (A2 hp (some t) (aE i.bd.cU 0).da (aE i.bd.cU 0).gm i.b8) (fun r=>oZ s r.2 m (l++[i]) (nU own hp r.2)∧fo hp r.2 own):=by
 obtain⟨aju,h1,ae,aA,aV,bc,kF⟩:=hq.ok
 rw [n5] at h1;cases h1
 have iB:=FO h au.ej
 obtain⟨fW,g,e,g1,g2,g3⟩:=aA _ _ bP
 cases e
 obtain⟨n,aQ⟩:=Int.eq_ofNat_of_zero_le iB.pre.1
 have FP:n≤32:=by have:=iB.pre.2;omega
 have xx:=L7 iB
 have hp':fb (aE i.bd.cU 0).da n=lx i.bd:=by unfold lx;rw [aQ];rfl
 have gF:g (lx i.bd)=none:=by
  cases Ps:g (lx i.bd) with
  | none=>rfl
  | some n=>
    obtain⟨c,ai,bs,df,_⟩:=(g3 _ _).1 Ps
    have:=sL aY c ai
    rw [(CO h (ao.ok.ok c ai).ej au.ej).2 ⟨bs,df⟩] at this;cases this
 rw [aQ] at xx ⊢
 refine(af8 g1 FP xx i.b8 (by rw [hp'];exact gF)).mono fun r aI=>?_
 obtain⟨_,lB,ia,qE⟩:=aI
 rw [hp'] at lB
 have Pt:∀ q,Own hp t q→q≠m:=fun q Pu e=>by
  have:=oY n5;rw [← e] at this;rcases g1.I4 Pu with⟨c,ai⟩ | ⟨c,ai⟩ <;> rw [ai] at this <;> cases this
 have mX:pat r.2 m=pat hp m:=ia.rest m (jV (oY n5)) fun hq=>Pt m hq rfl
 have tT:∀ dv fW,dv≠iG (fD i.bd)→ec em dv=some (some fW)→ ∃ eG,kE hp fW eG∧kE r.2 fW eG∧ (∀ q,Own hp fW q→own q)∧ (∀ q,Own r.2 fW q↔Own hp fW q)∧ ∀ ba n,eG ba=some n↔ ∃ i∈l,iG (fD i.bd)=dv∧lx i.bd=ba∧i.b8=n:=fun dv fW dC aI=>by
  obtain⟨ajv,eG,e,b4,a2,a3⟩:=aA dv _ aI;cases e;obtain⟨ew,eZ⟩:=b4.congr (hp':=r.2) fun q hq=>ia.rest q (b4.y8 hq) fun pI=>bc _ _ _ _ bP aI dC.symm q pI hq;exact⟨eG,b4,ew,a2,eZ,a3⟩
 have FN:∀ q,Own r.2 t q→nU own hp r.2 q:=fun q hq=>by
  rcases qE q hq with bs | bs
  ·exact .inl (g2 q bs)
  exact .inr ⟨bs,lB.y8 hq⟩
 refine⟨⟨em,by rw [H4 mX];exact n5,.inl ae,fun dv nc j3=>?_,fun dv h0 c ai=>?_,fun dv ly t1 t2 kJ l0 dC q kg qp=>?_,kF⟩,⟨ia.keys,fun q hq gF=>ia.rest q hq fun pI=>gF (g2 q pI)⟩⟩
 ·by_cases h0:dv=iG (fD i.bd)
  ·subst h0
   rw [bP] at j3;cases j3
   refine⟨t,_,rfl,lB,FN,fun ba qI=>?_⟩
   by_cases mC:ba=lx i.bd
   ·simp only [if_pos mC]
    constructor
    ·intro e;cases e
     exact⟨i,by simp,rfl,mC.symm,rfl⟩
    rintro ⟨c,ai,bs,df,dz⟩
    rcases List.mem_append.1 ai with ai | ai
    ·have:=(g3 _ _).2 ⟨c,ai,bs,df,dz⟩
     rw [mC,gF] at this;cases this
    rw [List.mem_singleton.1 ai] at dz;rw [dz]
   simp only [if_neg mC]
   rw [g3]
   constructor
   ·rintro ⟨c,ai,bs⟩;exact⟨c,by simp [ai],bs⟩
   rintro ⟨c,ai,bs,df,dz⟩
   rcases List.mem_append.1 ai with ai | ai
   ·exact⟨c,ai,bs,df,dz⟩
   rw [List.mem_singleton.1 ai] at df;exact absurd df.symm mC
  obtain⟨fW,eG,e,_⟩:=aA dv nc j3
  subst e
  obtain⟨zY,b4,a2,a3,a4,a5⟩:=tT dv fW h0 j3
  refine⟨fW,zY,rfl,a2,fun q hq=>.inl (a3 q ((a4 q).1 hq)),fun ba qI=>?_⟩
  rw [a5]
  constructor
  ·rintro ⟨c,ai,bs⟩;exact⟨c,by simp [ai],bs⟩
  rintro ⟨c,ai,bs,df⟩
  rcases List.mem_append.1 ai with ai | ai
  ·exact⟨c,ai,bs,df⟩
  rw [List.mem_singleton.1 ai] at bs;exact absurd bs.symm h0
 ·rcases List.mem_append.1 ai with ai | ai
  ·exact aV dv h0 c ai
  rw [List.mem_singleton.1 ai]
  intro e
  rw [← e,bP] at h0;cases h0
 
 have TW:∀ dv fW,dv≠iG (fD i.bd)→ec em dv=some (some fW)→ ∀ q,Own r.2 t q→ ¬ Own r.2 fW q:=fun dv fW dC aI q hq pI=>by
  obtain⟨zY,b4,a2,a3,a4,a5⟩:=tT dv fW dC aI;have pI:=(a4 q).1 pI;rcases qE q hq with bs | bs
  ·exact bc _ _ _ _ bP aI dC.symm q bs pI
  exact bs (b4.y8 pI)
 by_cases av:dv=iG (fD i.bd)
 ·subst av
  rw [bP] at kJ;cases kJ
  exact TW ly t2 dC.symm l0 q kg qp
 by_cases aX:ly=iG (fD i.bd)
 ·subst aX
  rw [bP] at l0;cases l0
  exact TW dv t1 av kJ q qp kg
 obtain⟨_,_,_,_,a4,_⟩:=tT dv t1 av kJ
 obtain⟨_,_,_,_,KH,_⟩:=tT ly t2 aX l0
 exact bc _ _ _ _ kJ l0 dC q ((a4 q).1 kg) ((KH q).1 qp)
theorem Zk {own:Nat→Prop}{bH h1 ae:aC Cell}{q:Nat}(hk:∀ q,q∈dZ bH→q∈dZ h1)(de:∀ q,q∈dZ h1→q∈dZ ae)(h:nU (nU own bH h1) h1 ae q):nU own bH ae q:=by
 rcases h with(h | ⟨h,dc⟩) | ⟨h,dc⟩
 ·exact .inl h
 ·exact .inr ⟨h,de q dc⟩
 exact .inr ⟨fun aA=>h (hk q aA),dc⟩
theorem oZ.mono {s:aZ}{hp:aC Cell}{m:Nat}{l:List az}{own own':Nat→Prop}(h:oZ s hp m l own)(bp:∀ q,own q→own' q):oZ s hp m l own':=by
 obtain⟨em,h1,ae,aA,aV,bc,kF⟩:=h.ok;exact⟨em,h1,bp m ae,fun dv r aI=>by obtain⟨t,g,e,a,b,c⟩:=aA dv r aI;exact⟨t,g,e,a,fun q hq=>bp q (b q hq),c⟩,aV,bc,kF⟩
theorem fo.grow {bH h1 ae:aC Cell}{own:Nat→Prop}(a:fo bH h1 own)(b:fo h1 ae (nU own bH h1)):fo bH ae own:=
 a.trans b fun q hq h=>h.elim (fun h=>h) fun h=>absurd hq h.1
theorem ah7 {s:aZ}{hp:aC Cell}{m:Nat}{l:List az}{own:Nat→Prop}(hq:oZ s hp m l own)
 {em:List (Vector aO 4×Ref)} (n5:lR hp m=some em) {dv:Vector aO 4} (gF:ec em dv=none) {a:Nat} (a7:a ∉ dZ hp) {z:gy} (cJ:z.gR=32) (aI:z.eT=none):
 oZ s (cQ ((a,Cell.lp z)::hp) m (.nY (gB em dv (some a)))) m l (nU own hp (cQ ((a,Cell.lp z)::hp) m (.nY (gB em dv (some a)))))∧fo hp (cQ ((a,Cell.lp z)::hp) m (.nY (gB em dv (some a)))) own∧
  lR (cQ ((a,Cell.lp z)::hp) m (.nY (gB em dv (some a)))) m=some (gB em dv (some a)):=by
 obtain⟨aju,h1,ae,aA,aV,bc,kF⟩:=hq.ok
 rw [n5] at h1;cases h1
 have mX:=oY n5
 have WO:=Eo a7 mX
 have cP:pat ((a,Cell.lp z)::hp) m=some (.nY em):=by rw [kV,if_neg WO];exact mX
 generalize cS:cQ ((a,Cell.lp z)::hp) m (.nY (gB em dv (some a)))=bR
 have g1:lR bR m=some (gB em dv (some a)):=by rw [← cS];exact Sl cP
 have g2:pat bR a=some (.lp z):=by rw [← cS,mI WO.symm,kV,if_pos rfl]
 have g3:∀ q,q≠m→q≠a→pat bR q=pat hp q:=fun q zX rl=>by rw [← cS,mI zX.symm,kV,if_neg rl.symm]
 have hk:fo hp bR own:=by
  rw [← cS];exact(fo.mk' (own:=own) a7).trans (fo.up ae) fun q _ h=>h
 have WQ:gL bR a=some z:=uN.2 g2
 have agd:kE bR a (fun _=>none):=⟨z,WQ,cJ,by rw [aI];exact⟨fun ba p h=>(by rw [hC] at h;cases h),fun ba cs p h _=>(by rw [hC] at h;cases h),fun ba p h=>(by rw [hC] at h;cases h)⟩,fun ba=>by rw [aI];exact mJ hC⟩
 have NR:∀ q,Own bR a q→q=a:=fun q sr=>by
  rcases sr with h | ⟨c,ba,bs,df⟩
  ·exact h
  rw [WQ] at bs;cases bs;rw [aI,hC] at df;cases df
 have hold:∀ t g,kE hp t g→kE bR t g∧ ∀ q,Own bR t q↔Own hp t q:=fun t g bP=>bP.congr fun q sr=>by
  refine g3 q (fun e=>?_) fun e=>a7 (by rw [← e];exact bP.y8 sr);rw [← e] at mX;rcases bP.I4 sr with⟨c,ai⟩ | ⟨c,ai⟩ <;> rw [ai] at mX <;> cases mX
 refine⟨⟨_,g1,.inl ae,fun ly r j3=>?_,fun ly j3=>?_,fun Pv Kq t1 t2 kJ l0 dC q kg qp=>?_,kF.put⟩,hk,g1⟩
 ·rw [uM] at j3
  by_cases e:ly=dv
  ·rw [if_pos e] at j3;cases j3
   exact⟨a,_,rfl,agd,fun q sr=>by rw [NR q sr];exact .inr ⟨a7,jV g2⟩,fun ba n=>⟨fun h=>(by cases h),fun⟨i,au,bs,_⟩=>absurd (bs.trans e) (aV dv gF i au)⟩⟩
  rw [if_neg e] at j3
  obtain⟨t,g,rfl,b4,a2,a3⟩:=aA ly r j3
  obtain⟨ew,eZ⟩:=hold t g b4
  exact⟨t,g,rfl,ew,fun q sr=>.inl (a2 q ((eZ q).1 sr)),a3⟩
 ·rw [uM] at j3
  by_cases e:ly=dv
  ·rw [if_pos e] at j3;cases j3
  rw [if_neg e] at j3;exact aV ly j3
 rw [uM] at kJ l0
 have ar:∀ ly fW,ec em ly=some (some fW)→ ∀ q,q=a→ ¬ Own bR fW q:=fun ly fW zW q e sr=>by
  obtain⟨t,g,e',b4,_⟩:=aA ly _ zW;cases e';have:=(hold fW g b4).2 q |>.1 sr;exact a7 (by rw [← e];exact b4.y8 this)
 by_cases av:Pv=dv
 ·rw [if_pos av] at kJ;cases kJ
  by_cases aX:Kq=dv
  ·exact dC (av.trans aX.symm)
  rw [if_neg aX] at l0
  exact ar Kq t2 l0 q (NR q kg) qp
 rw [if_neg av] at kJ
 by_cases aX:Kq=dv
 ·rw [if_pos aX] at l0;cases l0
  exact ar Pv t1 kJ q (NR q qp) kg
 rw [if_neg aX] at l0
 obtain⟨t,g,e',b4,_⟩:=aA Pv _ kJ
 cases e'
 obtain⟨fW,eG,OZ,ajw,_⟩:=aA Kq _ l0
 cases OZ
 exact bc _ _ _ _ kJ l0 dC q (((hold _ _ b4).2 q).1 kg) (((hold _ _ ajw).2 q).1 qp)
theorem age {s:aZ}(h:cR s){hp:aC Cell}{m:Nat}{l:List az}{own:Nat→Prop}(hq:oZ s hp m l own)(gu:∀ q,own q→q∈dZ hp)(ao:iH s 1 l){i:az}(au:kI s 1 i)(aY:dE l i.bd=none):
 c9 (Dx hp ⟨0,32,⟨some m⟩⟩ i) (fun hp'=>oZ s hp' m (l++[i]) (nU own hp hp')∧fo hp hp' own):=by
 obtain⟨em,n5,ae,aA,aV,bc,_⟩:=hq.ok
 unfold Dx
 refine .eq (Mz h au.ej _) (.eq rfl (.eq n5 (.eq rfl ?_)))
 simp only
 refine .bind (P:=fun m1=>oZ s m1 m l (nU own hp m1)∧fo hp m1 own∧ ∃ Pw t,lR m1 m=some Pw∧ec Pw (iG (fD i.bd))=some (some t)) (.cond (fun ai=>?_) fun ai=>.ret ?_) fun m1 cP=>?_
 ·have gF:ec em (iG (fD i.bd))=none:=by
   cases bO:ec em (iG (fD i.bd)) with
   | none=>rfl
   | some r=>
     obtain⟨t,_,rfl,_⟩:=aA _ _ bO
     rw [bO] at ai;cases ai
  unfold H6
  refine .bind (P:=fun r=> ∃ a,a ∉ dZ hp∧r=((some a:Ref),(a,Cell.lp ({ (default:gy) with gR:=32 }))::hp)) (.eq rfl (.mk fun a a7=>.ret ⟨a,a7,rfl⟩)) fun bh bs=>?_
  obtain⟨a,a7,rfl⟩:=bs
  have gi:lR ((a,Cell.lp ({ (default:gy) with gR:=32 }))::hp) m=some em:=(H4 (hp:=hp) (by rw [kV,if_neg (Eo a7 (oY n5))])).trans n5
  obtain⟨g1,g2,g3⟩:=ah7 hq n5 gF a7 (z:= { (default:gy) with gR:=32 }) rfl rfl
  refine .eq gi (.eq rfl (.ret ⟨g1,g2,_,a,g3,by rw [uM,if_pos rfl]⟩))
 ·cases bO:ec em (iG (fD i.bd)) with
  | none=>rw [bO] at ai;cases ai
  | some r=>
    obtain⟨t,_,rfl,_⟩:=aA _ _ bO
    exact⟨hq.mono fun q hq=>.inl hq,.refl,em,t,n5,bO⟩
 obtain⟨g1,g2,Pw,t,g3,g4⟩:=cP
 refine .eq g3 (.eq rfl ?_)
 simp only [g4]
 refine .bind (ah6 h g1 (fun q hq=>hq.elim (fun hq=>g2.keys q (gu q hq)) fun hq=>hq.2) ao au aY g3 g4) fun r aI=>.ret ?_
 exact⟨aI.1.mono fun q hq=>Zk g2.keys aI.2.keys hq,g2.grow aI.2⟩
theorem Sm {hp:aC Cell}{p:Nat}{k:Cell}{x:er}{y:Option Nat}{n:Nat}(h:pat hp p=some k):q0 (cQ hp p (.ue x y n)) p=some (x,y,n):=by unfold q0;rw [rR h]
theorem agf {s:aZ}(h:cR s){k:Nat}(hk:k<4){hp:aC Cell}{q:Nat}{l:List az}{own:Nat→Prop}(hq:BX s k hp q l own)(ao:iH s k l){i:az}(au:kI s k i)(iT:jO l i.b8=false)(hlen:l.length<900):
 c9 (DQ hp ⟨some q⟩ i) (fun hp'=>BX s k hp' q (l++[i]) (nU own hp hp')∧fo hp hp' own):=by
 obtain⟨key,cap,h1,ae⟩:=hq.ok
 unfold DQ
 refine .eq rfl (.eq h1 (.eq (adM h hk ao.ok au hlen) (.any fun aB=>.eq rfl (.ret ?_))))
 rw [iT]
 exact⟨⟨aB.1,aB.2,Sm (yZ h1),.inl ae⟩,.up ae⟩
theorem agh {s:aZ}(h:cR s){k:Nat}(hk:k<4){hp:aC Cell}{f:h5}{l:List az}{own:Nat→Prop}(hq:s3 s k hp f l own)(gu:∀ q,own q→q∈dZ hp)(ao:iH s k l){i:az}(au:kI s k i)(aY:dE l i.bd=none)(iT:jO l i.b8=false)(hlen:l.length<900):
 c9 (Lb hp f i) (fun hp'=>s3 s k hp' f (l++[i]) (nU own hp hp')∧fo hp hp' own):=by
 rcases hq with⟨rfl,q,rfl,hq⟩ | ⟨rfl,m,rfl,hq⟩ | ⟨de,q,rfl,hq⟩
 ·exact c9.of ((ah5 h hq ao au aY).mono fun hp' aI=>⟨.inl ⟨rfl,q,rfl,aI.1⟩,aI.2⟩)
 ·exact(age h hq gu ao au aY).mono fun hp' aI=>⟨.inr (.inl ⟨rfl,m,rfl,aI.1⟩),aI.2⟩
 exact(agf h hk hq ao au iT hlen).mono fun hp' aI=>⟨.inr (.inr ⟨de,q,rfl,aI.1⟩),aI.2⟩
theorem Sn {α β:Type}[DecidableEq α]:∀ {l:List (α×β)} {x:α} {v:β},ec l x=some v→ (x,v)∈l
 | [],_,_,h=>by cases h
 | (k,w)::r,x,v,h=>by
   unfold ec at h;split at h
   ·rename_i e;cases h;rw [e];simp
   exact List.mem_cons_of_mem _ (Sn h)
theorem Th {α β:Type}[DecidableEq α]:∀ {l:List (α×β)} {x:α} {v:β},l.Pairwise (fun a c=>a.1≠c.1)→ (x,v)∈l→ec l x=some v
 | [],_,_,_,h=>by cases h
 | (k,w)::r,x,v,aQ,h=>by
   obtain⟨h1,ae⟩:=List.pairwise_cons.1 aQ;unfold ec;rcases List.mem_cons.1 h with h | h
   ·cases h;rw [if_pos rfl]
   rw [if_neg (fun e=>h1 _ h e.symm),Th ae h]
theorem Sp {α β:Type}[DecidableEq α]:∀ {l:List (α×β)} {x:α} {v:β},ec l x=none→gB l x v=l++[(x,v)]
 | [],_,_,_=>rfl
 | (k,w)::r,x,v,h=>by
   unfold ec at h;split at h
   ·cases h
   rename_i e;show(if x=k then _ else _)=_;rw [if_neg e,Sp h];rfl
def vH (em:List (Int×az))(l:List az):Prop:=em.Perm (l.map fun i=>(i.b8,i))
theorem vH.get {s:aZ}{k:Nat}{em:List (Int×az)}{l:List az}(h:vH em l)(ao:mB s k l)(n:Int)(i:az):ec em n=some i↔i∈l∧i.b8=n:=by
 have hd:em.Pairwise (fun a c=>a.1≠c.1):=by
  refine(h.pairwise_iff fun cB=>Ne.symm cB).2 ?_;rw [List.pairwise_map];exact ao.num.imp fun cB=>cB
 have hm:(n,i)∈em↔i∈l∧i.b8=n:=by
  rw [h.mem_iff,List.mem_map];constructor
  ·rintro ⟨c,ai,e⟩;cases e;exact⟨ai,rfl⟩
  rintro ⟨au,rfl⟩;exact⟨i,au,rfl⟩
 rw [← hm];exact⟨Sn,Th hd⟩
theorem vH.no {s:aZ}{k:Nat}{em:List (Int×az)}{l:List az}(h:vH em l)(ao:mB s k l)(n:Int):(ec em n).isSome=jO l n:=by
 rw [Bool.eq_iff_iff,Option.isSome_iff_exists];unfold jO;rw [List.any_eq_true];constructor
 ·rintro ⟨i,au⟩;obtain⟨h1,ae⟩:=(h.get ao n i).1 au;exact⟨i,h1,by simpa using ae⟩
 rintro ⟨i,au,ae⟩;exact⟨i,(h.get ao n i).2 ⟨au,by simpa using ae⟩⟩
structure lU (s:aZ)(k:Nat)(hp:aC Cell)(p:Nat)(l:List az)(own:Nat→Prop):Prop where
 gx:iH s k l
 cell:∃ f m em,jy hp p=some ⟨qK k,(KI s k:Int),f,⟨some m⟩⟩∧mu hp m=some em∧own p∧own m∧vH em l∧s3 s k hp f l (fun q=>own q∧q≠m∧q≠p)
 oL:∀ q,own q→q∈dZ hp
theorem lU.congr {s:aZ}{k:Nat}{hp hp':aC Cell}{p:Nat}{l:List az}{own:Nat→Prop}(h:lU s k hp p l own)(hk:∀ q,q∈dZ hp→q∈dZ hp')(a7:∀ q,own q→pat hp' q=pat hp q):lU s k hp' p l own:=by
 obtain⟨f,m,em,h1,ae,aA,aV,bc,bs⟩:=h.cell;exact⟨h.gx,⟨f,m,em,by rw [ZP (a7 p aA)];exact h1,by rw [ZQ (a7 m aV)];exact ae,aA,aV,bc,bs.congr (fun q _ hq=>hq) fun q hq=>a7 q hq.1⟩,fun q hq=>hk q (h.oL q hq)⟩
theorem lU.o3 {s:aZ}{k:Nat}{hp hp':aC Cell}{p:Nat}{l:List az}{own own':Nat→Prop}(h:lU s k hp p l own)(hk:fo hp hp' own')(hd:∀ q,own q→ ¬ own' q):lU s k hp' p l own:=
 h.congr hk.keys fun q hq=>hk.rest q (h.oL q hq) (hd q hq)
theorem entry_eq {s:aZ}(h:cR s){k:Nat}(hk:k<4){hp:aC Cell}{p:Nat}{l:List az}{own:Nat→Prop}(ar:lU s k hp p l own){o:Option az}(bp:∀ i,o=some i→i∈l):DH hp (some p) (wB o).1 (wB o).2=some (we o):=by
 obtain⟨f,m,em,h1,ae,aA,aV,bc,bs⟩:=ar.cell;refine br.get ?_;unfold DH;cases o with
 | none=>exact .cond (fun _=>.ret rfl) fun ai=>by cases ai
 | some i=>
   have au:=bp i rfl
   refine .cond (fun ai=>by cases ai) fun _=>.eq rfl (.eq h1 (.eq rfl (.eq ae (.eq rfl ?_))))
   have bO:ec em i.b8=some i:=(bc.get ar.gx.ok _ _).2 ⟨au,rfl⟩
   show br (Option.bind (sH ((ec em i.b8).getD default)) _) _
   rw [bO]
   exact .eq (EV h hk (ar.gx.ok.ok i au)) (.ret rfl)
theorem MA {s:aZ}(h:cR s){k:Nat}(hk:k<4){hp:aC Cell}{p:Nat}{l:List az}{own:Nat→Prop}(ar:lU s k hp p l own){e:a8}(he:gp s k e):yt hp (some p) e=some (we (dE l e)):=by
 obtain⟨f,m,em,h1,ae,aA,aV,bc,bs⟩:=ar.cell;refine br.get ?_;unfold yt;refine .cond (fun ai=>by cases ai) fun _=>.eq rfl (.eq h1 (.eq (Vh h hk bs ar.gx he) (.eq (entry_eq h hk ar fun i au=>(oi au).1) (.ret rfl))))
theorem adP {s:aZ}{k:Nat}{hp:aC Cell}{p:Nat}{l:List az}{own:Nat→Prop}(ar:lU s k hp p l own):DS hp (some p)=some (l.length:Int):=by
 obtain⟨f,m,em,h1,ae,aA,aV,bc,bs⟩:=ar.cell;have ao:em.length=l.length:=by rw [bc.length_eq,List.length_map]
 refine br.get ?_;unfold DS;refine .cond (fun ai=>by cases ai) fun _=>.eq rfl (.eq h1 (.eq rfl (.eq ae ?_)));rw [ao];first | exact .ret rfl | exact .eq rfl (.ret rfl)
theorem lU.mono {s:aZ}{k:Nat}{hp:aC Cell}{p:Nat}{l:List az}{own own':Nat→Prop}(h:lU s k hp p l own)(bp:∀ q,own q→own' q)(au:∀ q,own' q→q∈dZ hp):lU s k hp p l own':=by
 obtain⟨f,m,em,h1,ae,aA,aV,bc,bs⟩:=h.cell;exact⟨h.gx,⟨f,m,em,h1,ae,bp p aA,bp m aV,bc,bs.congr (fun q _ hq=>⟨bp q hq.1,hq.2⟩) fun q hq=>rfl⟩,au⟩
theorem iH.nil {s:aZ}{k:Nat} :iH s k []:=⟨⟨fun i au=>by(cases au),.nil,by simp⟩,.nil⟩
def CP:Nat→Prop:=fun _=>False
theorem adQ {s:aZ}(h:cR s){k:Nat}(hk:k<4)(hp:aC Cell):c9 (Bj hp s ((k:Int)+1)) (fun r=> ∃ p,r.1=some p∧lU s k r.2 p [] (nU CP hp r.2)∧fo hp r.2 CP):=by
 refine(af9 h hk hp).mono fun r aI=>?_;obtain⟨p,e,aI⟩:=aI;obtain⟨c,m,h1,ae,aA,aV,bc,bs,df,dz,ea,nx,uy,GC⟩:=aI.cell;obtain⟨ako,aT,f,eB⟩:=c;simp only at ae aA aV bs df dz;subst ae aA aV;have hm:=sQ bc;have hp':=oX h1;refine⟨p,e,⟨iH.nil,⟨f,m,[],h1,bc,.inr ⟨ea,jV hp'⟩,.inr ⟨nx,jV hm⟩,List.Perm.refl _,?_⟩,fun q hq=>hq.elim (fun h=>h.elim) fun h=>h.2⟩,⟨uy,fun q hq _=>GC q hq⟩⟩;have key:∀ q c,pat r.2 q=some c→ (∀ x,c≠ .mc x)→ (∀ x,c≠ .pv x)→q ∉ dZ hp→nU CP hp r.2 q∧q≠m∧q≠p:=fun q c ai qA P1 aQ=>
  ⟨.inr ⟨aQ,jV ai⟩,fun e=>by rw [e,hm] at ai;cases ai;exact qA _ rfl,fun e=>by rw [e,hp'] at ai;cases ai;exact P1 _ rfl⟩
 have:k=0∨k=1∨2≤k:=by omega
 rcases this with rfl | rfl | de
 ·obtain⟨q,m2,rfl,g1,g2,g3,g4⟩:=bs rfl;exact .inl ⟨rfl,q,rfl,⟨m2,[],g1,g2,key q _ (w9 g1) (fun _ h=>by cases h) (fun _ h=>by cases h) g3,key m2 _ (tM g2) (fun _ h=>by cases h) (fun _ h=>by cases h) g4,fun dv n=>⟨fun h=>(by cases h),fun⟨i,au,_⟩=>(by cases au)⟩,.nil⟩⟩
 ·obtain⟨m3,rfl,g1,g2⟩:=df rfl;exact .inr (.inl ⟨rfl,m3,rfl,⟨[],g1,key m3 _ (oY g1) (fun _ h=>by cases h) (fun _ h=>by cases h) g2,fun dv r h=>(by cases h),fun dv _ i au=>(by cases au),fun dv ly t fW h=>(by cases h),.nil⟩⟩)
 obtain⟨q,akp,cap,rfl,g1,g2⟩:=dz de;exact .inr (.inr ⟨de,q,rfl,⟨akp,cap,g1,key q _ (yZ g1) (fun _ h=>by cases h) (fun _ h=>by cases h) g2⟩⟩)
theorem iH.snoc {s:aZ}{k:Nat}{l:List az}(h:iH s k l){i:az}(au:kI s k i)(aY:dE l i.bd=none)(aQ:jO l i.b8=false)(ao:l.length<900):iH s k (l++[i]) where
 ok:=h.ok.snoc au aQ ao
 key:=by
  rw [List.pairwise_append];exact⟨h.key,by simp,fun a a7 c ai=>by rw [List.mem_singleton.1 ai];exact sL aY a a7⟩
theorem abO {hp:aC Cell}{p:Nat}{k:Cell}{x:List (Int×az)}(h:pat hp p=some k):mu (cQ hp p (.mc x)) p=some x:=by unfold mu;rw [rR h]
theorem TX (o:Option az):(wB o).2=o.isSome:=by cases o <;> rfl
def pL (l:List az)(i:az):Bool:=(dE l i.bd).isNone&& !jO l i.b8
def added (l:List az)(i:az):List az:=if pL l i=true then l++[i] else l
theorem M8 {s:aZ}(h:cR s){k:Nat}(hk:k<4){hp:aC Cell}{p:Nat}{l:List az}{own:Nat→Prop}(ar:lU s k hp p l own){i:az}(au:kI s k i)(hlen:l.length<900):
 c9 (yw hp (some p) i) (fun r=>r.1=pL l i∧lU s k r.2 p (added l i) (nU own hp r.2)∧fo hp r.2 own):=by
 obtain⟨f,m,em,h1,ae,aA,aV,bc,bs⟩:=ar.cell
 have hm:=sQ ae
 have hp':=oX h1
 have mX:p≠m:=fun e=>by rw [e,hm] at hp';cases hp'
 have gF:=bc.no ar.gx.ok i.b8
 unfold yw
 refine .cond (fun ai=>by cases ai) fun _=>.eq rfl (.eq h1 (.eq rfl (.eq ae (.eq rfl (.eq rfl (.eq h1 (.eq (Vh h hk bs ar.gx au.ej) (.cond (fun ai=>.ret ?_) fun ai=>?_))))))))
 ·rw [gF,TX,Bool.or_eq_true] at ai
  have bP:pL l i=false:=by
   unfold pL;rcases ai with ai | ai
   ·cases aY:dE l i.bd with
    | none=>rw [aY] at ai;cases ai
    | some _=>rfl
   rw [ai];simp
  refine⟨bP.symm,?_,.refl⟩
  unfold added
  rw [bP]
  exact ar.mono (fun q hq=>.inl hq) fun q hq=>hq.elim (ar.oL q) fun hq=>absurd hq.2 hq.1
 rw [gF,TX,Bool.or_eq_false_iff] at ai
 obtain⟨c1,c2⟩:=ai
 have aY:dE l i.bd=none:=by
  cases aY:dE l i.bd with
  | none=>rfl
  | some _=>rw [aY] at c1;cases c1
 have bP:pL l i=true:=by unfold pL;rw [aY,c2];rfl
 have bO:ec em i.b8=none:=by
  cases bO:ec em i.b8 with
  | none=>rfl
  | some _=>rw [bO,c2] at gF;cases gF
 have aB:pat (cQ hp m (Cell.mc (gB em i.b8 i))) p=some (.pv ⟨qK k,(KI s k:Int),f,⟨some m⟩⟩):=by rw [mI mX.symm];exact hp'
 have f1:s3 s k (cQ hp m (Cell.mc (gB em i.b8 i))) f l (fun q=>own q∧q≠m∧q≠p):=bs.congr (fun q _ hq=>hq) fun q hq=>mI hq.2.1.symm
 refine .eq rfl (.eq h1 (.eq (EV h hk au) (.eq rfl (.eq ae (.eq rfl (.eq (by unfold jy;rw [aB]) (.bind (agh h hk f1 (fun q hq=>by rw [qR];exact ar.oL q hq.1) ar.gx au aY c2 hlen) fun ig aI=>.ret ⟨bP.symm,?_,?_⟩)))))))
 ·obtain⟨lB,ia⟩:=aI
  have b4:pat ig p=some (.pv ⟨qK k,(KI s k:Int),f,⟨some m⟩⟩):=by rw [ia.rest p (jV aB) (fun hq=>hq.2.2 rfl)];exact aB
  have a2:pat ig m=some (.mc (gB em i.b8 i)):=by
   have:pat (cQ hp m (Cell.mc (gB em i.b8 i))) m=some (.mc (gB em i.b8 i)):=rR hm;rw [ia.rest m (jV this) (fun hq=>hq.2.1 rfl)];exact this
  unfold added
  rw [if_pos bP]
  refine⟨ar.gx.snoc au aY c2 hlen,⟨f,m,_,by unfold jy;rw [b4],by unfold mu;rw [a2],.inl aA,.inl aV,?_,lB.congr (fun q _ hq=>?_) fun q _=>rfl⟩,fun q hq=>?_⟩
  ·unfold vH
   rw [Sp bO,List.map_append]
   exact List.Perm.append_right _ bc
  ·rcases hq with hq | ⟨g1,g2⟩
   ·exact⟨.inl hq.1,hq.2⟩
   rw [qR] at g1
   exact⟨.inr ⟨g1,g2⟩,fun e=>g1 (e ▸ jV hm),fun e=>g1 (e ▸ jV hp')⟩
  rcases hq with hq | hq
  ·exact ia.keys q (by rw [qR];exact ar.oL q hq)
  exact hq.2
 exact(fo.up (own:=own) aV).trans aI.2 fun q _ hq=>hq.1
theorem MB {hp hp':aC Cell}{root:Ref}{ws:List Bool}{b:Bool}{p q:Nat}{c wz:eo}(bP:qX hp root)(hw:dp hp root ws=some p)(ai:c8 hp p=some c)(hq:cd c.dJ (fV b)=some q)(pK:c8 hp q=some wz)(ao:∀ x,cd wz.dJ (fV x)=none)
 (bR:c8 hp' p=some { c with dJ:=dX c.dJ (fV b) none }) (ig:∀ x,x≠p→c8 hp' x=c8 hp x):
 ∀ (ba us:List Bool) (r:Nat),dp hp root us=some r→us≠ws++[b]→dp hp' (some r) ba=if us++ba=ws++[b] then none else dp hp (some r) ba
 | [],us,r,hu,dC=>by
   rw [List.append_nil,if_neg dC];rfl
 | x::xs,us,r,hu,dC=>by
   obtain⟨P2,wg⟩:=bP.reads us r hu;by_cases Gn:r=p
   ·subst Gn;have Pj:=bP.inj us ws r hu hw;subst Pj;rw [ai] at wg;cases wg;rw [iY bR,iY ai];simp only;have cH:fV b<2:=by cases b <;> decide
    rw [jI _ _ cH];by_cases zV:x=b
    ·subst zV;rw [if_pos rfl,hq,hC];by_cases h:xs= []
     ·subst h;rw [if_pos rfl]
     have gF: ¬ us++x::xs=us++[x]:=fun e=>h (by have:=List.append_cancel_left e;simpa using this);rw [if_neg gF];cases xs with
     | nil=>exact absurd rfl h
     | cons y ys=>rw [iY pK,ao,hC]
    have ajx: ¬ fV x=fV b:=fun e=>zV (by cases x <;> cases b <;> first | rfl | cases e);have gF:∀ ys,¬ us++x::ys=us++[b]:=fun ys e=>zV (by have:=List.append_cancel_left e;simpa using (List.cons.inj this).1);rw [if_neg ajx,if_neg (gF xs)];cases e:cd c.dJ (fV x) with
    | none=>rw [hC,hC]
    | some nc=>
      have oF:dp hp root (us++[x])=some nc:=by rw [oW,hu,iY ai,e,pZ]
      rw [MB bP hw ai hq pK ao bR ig xs (us++[x]) nc oF (gF []),List.append_assoc,List.singleton_append,if_neg (gF xs)]
   have h1:c8 hp' r=some P2:=by rw [ig r Gn];exact wg
   rw [iY h1,iY wg];have ah8:us++[x]≠ws++[b]:=fun e=>by
    have:=List.append_inj_left' e rfl;subst this;rw [hu] at hw;cases hw;exact Gn rfl
   cases e:cd P2.dJ (fV x) with
   | none=>rw [hC,hC];split <;> rfl
   | some nc=>
     have oF:dp hp root (us++[x])=some nc:=by rw [oW,hu,iY wg,e,pZ]
     rw [MB bP hw ai hq pK ao bR ig xs (us++[x]) nc oF ah8,List.append_assoc,List.singleton_append]
theorem cut {hp hp':aC Cell}{r:Nat}{ws:List Bool}{b:Bool}{p q:Nat}{c wz:eo}(bP:qX hp (some r))(hw:dp hp (some r) ws=some p)(ai:c8 hp p=some c)(hq:cd c.dJ (fV b)=some q)(pK:c8 hp q=some wz)(ao:∀ x,cd wz.dJ (fV x)=none)(hu:wz.fK=false)
 (bR:c8 hp' p=some { c with dJ:=dX c.dJ (fV b) none }) (ig:∀ x,x≠p→c8 hp' x=c8 hp x):
 qX hp' (some r)∧ (∀ ba,dp hp' (some r) ba=if ba=ws++[b] then none else dp hp (some r) ba)∧ ∀ ba,cont hp' (some r) ba=cont hp (some r) ba:=by
 have aY:∀ ba,dp hp' (some r) ba=if ba=ws++[b] then none else dp hp (some r) ba:=fun ba=>MB bP hw ai hq pK ao bR ig ba [] r rfl (by simp)
 have Pk:dp hp (some r) (ws++[b])=some q:=by rw [oW,hw,iY ai,hq,pZ]
 refine⟨⟨fun ba x h=>?_,fun ba cs x h1 ae=>?_,fun ba x h=>?_⟩,aY,fun ba=>?_⟩
 ·rw [aY] at h
  split at h
  ·cases h
  obtain⟨hz,h1⟩:=bP.reads ba x h
  by_cases e:x=p
  ·subst e;exact⟨_,bR⟩
  exact⟨hz,by rw [ig x e];exact h1⟩
 ·rw [aY] at h1 ae
  split at h1 <;> split at ae
  ·cases h1
  ·cases h1
  ·cases ae
  exact bP.inj ba cs x h1 ae
 ·rw [aY] at h
  split at h
  ·cases h
  exact bP.dep ba x h
 by_cases e:ba=ws++[b]
 ·subst e
  rw [mJ (by rw [aY,if_pos rfl]),l5 Pk pK,hu];rfl
 have v7:dp hp' (some r) ba=dp hp (some r) ba:=by rw [aY,if_neg e]
 cases h:dp hp (some r) ba with
 | none=>rw [mJ h,mJ (v7.trans h)]
 | some x=>
   obtain⟨hz,h1⟩:=bP.reads ba x h
   by_cases eq:x=p
   ·subst eq
    rw [ai] at h1;cases h1
    rw [l5 h ai,l5 (v7.trans h) bR]
   rw [l5 h h1,l5 (v7.trans h) (by rw [ig x eq];exact h1)]
structure Oo (lZ hp:aC Cell)(t:Nat)(g:List Bool→Option Int)(r:Nat):Prop where
 cell:∃ c,gL hp t=some c∧c.gR=32∧c.eT=some r
 tree:qX hp (some r)
 cont:∀ ba,cont hp (some r) ba=g ba
 keeps:fo lZ hp (Own lZ t)
 own:∀ ba q,dp hp (some r) ba=some q→Own lZ t q
theorem empty_eq {hp:aC Cell}{p:Nat}{c:eo}(h:c8 hp p=some c):AR hp (some p)=some (!c.fK&&decide (c.dJ=default)):=by
 refine br.get ?_;unfold AR;refine .eq rfl (.eq h ?_);refine .cX (P:=fun r=>r=p) (fun _=>⟨p,rfl,rfl⟩) fun o h1=>?_;refine .cX (P:=fun r=>r=c) (fun ae=>⟨c,by rw [h1 ae];exact h,rfl⟩) fun c2 ae=>.ret ?_;cases hu:c.fK with
 | true=>rfl
 | false=>rw [ae (by rw [hu];rfl)]
theorem aaS (v:aO)(n:Nat):(fb v n).length=n:=by unfold fb;simp
theorem aaT (v:aO){i n:Nat}(h:i≤n):fb v n=fb v i++(fb v n).drop i:=by
 have:fb v i=(fb v n).take i:=by unfold fb;rw [← List.map_take,List.take_range];congr 2;omega
 rw [this,List.take_append_drop]
theorem IJ {hp:aC Cell}{r:Ref}{v:aO}{i n:Nat}(h:i≤n){p:Nat}(hp':dp hp r (fb v n)=some p):∃ q,dp hp r (fb v i)=some q:=by
 rw [aaT v h,oW] at hp';cases e:dp hp r (fb v i) with
 | none=>rw [e,hC] at hp';cases hp'
 | some q=>exact⟨q,rfl⟩
theorem aaU {hp:aC Cell}{t:Nat}{g:List Bool→Option Int}(h:kE hp t g){n:Nat}(aQ:n≤32){v:aO}(bm:∀ j,j<128→c7 v j=true→lead 32 n j=true){id:Int}(bO:g (fb v n)=some id):
 br (AQ hp (some t) v n) (fun r=>r.1=true∧kE r.2 t (fun ba=>if ba=fb v n then none else g ba)∧fo hp r.2 (Own hp t)∧ ∀ q,Own r.2 t q→Own hp t q):=by
 obtain⟨c,ai,hb,bP,Px⟩:=h.ok
 have ah9:∃ p,dp hp c.eT (fb v n)=some p:=by
  cases e:dp hp c.eT (fb v n) with
  | none=>rw [← Px,mJ e] at bO;cases bO
  | some p=>exact⟨p,rfl⟩
 obtain⟨ya,kH⟩:=ah9
 have agi:∃ r,c.eT=some r:=by
  obtain⟨q,hq⟩:=IJ (Nat.zero_le n) kH;rw [Rn,pZ] at hq;exact⟨q,hq⟩
 obtain⟨r,aI⟩:=agi
 rw [aI] at bP Px kH
 unfold AQ
 refine .eq (TU h aQ bm) ?_
 rw [bO]
 refine .cond (fun ai=>by cases ai) fun _=>.eq rfl (.eq ai (.eq rfl ?_))
 rw [aI]
 show br (Option.bind (uD hp (n:Int) v (some t) _ _) _) _
 refine br.bind (P:=fun e:(List Int×List Ref) ⊕ Empty=> ∃ bits o7,e= .inl (bits,o7)∧o7.length=n+1∧bits.length=n∧ (∀ j,j≤n→aE o7 j=dp hp (some r) (fb v j))∧ ∀ j,j<n→aE bits j=((fV (c7 v (31 - j)):Nat):Int))
  (Vg ai hb v aQ (fun i s=> ∃ bits o7,s=(bits,o7)∧o7.length=i+1∧bits.length=i∧ (∀ j,j≤i→aE o7 j=dp hp (some r) (fb v j))∧ ∀ j,j<i→aE bits j=((fV (c7 v (31 - j)):Nat):Int)) ⟨[],[some r],rfl,rfl,rfl,fun j aF=>?_,fun j aF=>by omega⟩ (fun i s au hs=>?_) (fun s hs=>?_)) fun e he=>?_
 ·have:j=0:=by omega
  subst this
  rw [Rn,pZ];rfl
 ·obtain⟨bits,o7,rfl,h1,ae,aA,aV⟩:=hs
  obtain⟨q,hq⟩:=IJ (show i≤n by omega) kH
  obtain⟨d,hd⟩:=bP.reads _ _ hq
  have hw:bC ((o7.length:Int) - 1)=(i:Int):=by rw [ib (by omega) (by omega)];omega
  simp only [hw]
  have cH:fV (c7 v (31 - i))<2:=by cases c7 v (31 - i) <;> decide
  refine .idx rfl (by omega) (.eq (a:=q) (by rw [aA i (Nat.le_refl _)];exact hq) (.idx rfl cH (.eq hd (.eq (hT _ _ (by simp;omega) (by omega)) (.eq (hT _ _ (by simp;omega) (by omega)) (.ret ⟨_,_,rfl,by simp;omega,by simp;omega,fun j aF=>?_,fun j aF=>?_⟩))))))
  ·rw [Ij]
   by_cases kf:j=o7.length
   ·rw [if_pos kf,show j=i+1 by omega,Ia,oW,hq,iY hd,pZ]
   rw [if_neg kf];exact aA j (by omega)
  rw [Ij]
  by_cases kf:j=bits.length
  ·rw [if_pos kf,show j=i by omega]
  rw [if_neg kf];exact aV j (by omega)
 ·exact⟨s.1,s.2,by obtain⟨bits,o7,rfl,_⟩:=hs;rfl,by obtain⟨bits,o7,rfl,h⟩:=hs;exact h⟩
 obtain⟨bits,o7,rfl,h1,ae,aA,aV⟩:=he
 simp only [Sum.elim_inl]
 obtain⟨d,hd⟩:=bP.reads _ _ kH
 have Pr:=rG.1 hd
 have gN:c8 (cQ hp ya (.gS { d with fK:=false })) ya=some { d with fK:=false } :=Bv Pr
 refine .idx rfl (by omega) (.eq (a:=ya) (by rw [aA n (Nat.le_refl _)];exact kH) (.eq hd (.eq rfl (.eq gN (.eq rfl ?_)))))
 generalize cS:cQ (cQ hp ya (.gS { d with fK:=false })) ya (.gS { d with fK:=false,kr:=0 })=c6
 have h0:=Jx hd ai
 have xM:c8 c6 ya=some { d with fK:=false,kr:=0 } :=by rw [← cS];exact Bv (rG.1 gN)
 have Oq:∀ q,q≠ya→pat c6 q=pat hp q:=fun q hq=>by rw [← cS,mI hq.symm,mI hq.symm]
 obtain⟨s1,s2⟩:=VZ bP kH hd xM rfl fun q hq=>yF (Oq q hq)
 have Xb:=Ex hd xM rfl fun q hq=>yF (Oq q hq)
 have ajy:gL c6 t=some c:=by rw [H2 (Oq t h0.symm)];exact ai
 have Vi:Own hp t ya:= .inr ⟨c,_,ai,by rw [aI];exact kH⟩
 have de:fo hp c6 (Own hp t):=by
  rw [← cS];exact(fo.up (own:=Own hp t) Vi).trans (fo.up Vi) fun q _ h=>h
 have m0:Oo hp c6 t (fun ba=>if ba=fb v n then none else g ba) r:=⟨⟨c,ajy,hb,aI⟩,s1,fun ba=>by
  rw [s2];by_cases e:ba=fb v n
  ·rw [if_pos e];simp only [if_pos e];rfl
  rw [if_neg e];simp only [if_neg e];exact Px ba,de,fun ba q hq=>.inr ⟨c,ba,ai,by rw [aI,← Xb];exact hq⟩⟩
 have xN:bC ((n:Int) - 1)=(n:Int) - 1:=ib (by omega) (by omega)
 rw [xN]
 refine br.bind (P:=fun aX=>Oo hp aX.2.2 t (fun ba=>if ba=fb v n then none else g ba) r) (br.nT n (fun i st=> ∃ hq,st=((n:Int) - 1 - (i:Int),hq)∧Oo hp hq t (fun ba=>if ba=fb v n then none else g ba) r∧ ∀ j,j+i≤n→dp hq (some r) (fb v j)=aE o7 j) (by omega) ⟨c6,by simp,m0,fun j aF=>by rw [Xb,aA j (by omega)]⟩ (fun i st au hs=>?_) (fun st hs=>?_)) fun aX rm=>?_
 ·obtain⟨hq,rfl,hm,Ot⟩:=hs
  have av:(n:Int) - 1 - (i:Int)=((n - 1 - i:Nat):Int):=by omega
  have aX:bC ((n:Int) - 1 - (i:Int)+1)=((n - i:Nat):Int):=by rw [ib (by omega) (by omega)];omega
  have c0:bC ((n:Int) - 1 - (i:Int) - 1)=(n:Int) - 1 - ((i+1:Nat):Int):=by rw [ib (by omega) (by omega)];omega
  simp only [aX,c0]
  have vW:decide ((n:Int) - 1 - (i:Int)≥0)=true:=by rw [decide_eq_true_eq];omega
  simp only [vW]
  have kg:=Ot (n - i) (by omega)
  have GG:=Ot (n - 1 - i) (by omega)
  obtain⟨ah,jh⟩:=IJ (show n - i≤n by omega) kH
  obtain⟨J,J6⟩:=IJ (show n - 1 - i≤n by omega) kH
  rw [aA _ (by omega),jh] at kg
  rw [aA _ (by omega),J6] at GG
  obtain⟨c1,cZ⟩:=hm.tree.reads _ _ kg
  obtain⟨oc,zN⟩:=hm.tree.reads _ _ GG
  refine .cX (P:=fun jQ=>jQ=n - i) (fun _=>⟨_,oV (by omega),rfl⟩) fun jQ tc=>?_
  rw [tc rfl]
  have Cy:aE o7 (n - i)=some ah:=by rw [aA _ (by omega)];exact jh
  have O9:aE o7 (n - 1 - i)=some J:=by rw [aA _ (by omega)];exact J6
  refine .cX (P:=fun y=>y=(!c1.fK&&decide (c1.dJ=default))) (fun _=>⟨_,by rw [Cy];exact empty_eq cZ,rfl⟩) fun cy h8=>.cond (fun cJ=>?_) fun cJ=>.ret hm
  rw [Bool.true_and,h8 rfl,Bool.and_eq_true,Bool.not_eq_true',decide_eq_true_eq] at cJ
  obtain⟨bw,z2⟩:=cJ
  have cH:fV (c7 v (31 - (n - 1 - i)))<2:=by cases c7 v (31 - (n - 1 - i)) <;> decide
  have agj:fb v (n - i)=fb v (n - 1 - i)++[c7 v (31 - (n - 1 - i))]:=by rw [← Ia,show n - 1 - i+1=n - i by omega]
  have ts:cd oc.dJ (fV (c7 v (31 - (n - 1 - i))))=some ah:=by
   rw [agj,oW,GG,iY zN,pZ] at kg;exact kg
  have lZ:=rG.1 zN
  refine .idx av (by omega) (.idx av (by omega) (.eq O9 (.idx (aV _ (by omega)) cH (.eq zN (.eq rfl (.ret ?_))))))
  obtain⟨g1,g2,g3⟩:=cut (hp':=cQ hq J (.gS { oc with dJ:=dX oc.dJ (fV (c7 v (31 - (n - 1 - i)))) none })) hm.tree GG zN ts cZ (fun x=>by rw [z2,HV];rfl) bw (Bv lZ) fun x ar=>wT ar.symm
  obtain⟨hz,b4,a2,a3⟩:=hm.cell
  have agk:=hm.own _ _ GG
  refine⟨_,rfl,⟨⟨hz,by rw [H3 (Jx zN b4)];exact b4,a2,a3⟩,g1,fun ba=>by rw [g3];exact hm.cont ba,hm.keeps.trans (fo.up agk) fun q _ h=>h,fun ba q mC=>?_⟩,fun j aF=>?_⟩
  ·rw [g2] at mC
   split at mC
   ·cases mC
   exact hm.own ba q mC
  rw [g2,if_neg (fun e=>by have:=congrArg List.length e;simp only [List.length_append,aaS,List.length_singleton] at this;omega)]
  exact Ot j (by omega)
 ·obtain⟨hq,rfl,hm,_⟩:=hs
  have vW:decide ((n:Int) - 1 - (n:Int)≥0)=false:=by rw [decide_eq_false_iff_not];omega
  simp only [vW]
  refine .cX (P:=fun _=>True) (fun ai=>by cases ai) fun _ _=>.cX (P:=fun _=>True) (fun ai=>by cases ai) fun _ _=>.cond (fun ai=>by cases ai) fun _=>.ret hm
 obtain⟨iR,b4,a2,a3⟩:=rm.cell
 refine .eq b4 ?_
 rw [a3]
 obtain⟨P2,wg⟩:=rm.tree.reads [] r rfl
 refine .eq (empty_eq wg) (.bind (P:=fun m1=>kE m1 t (fun ba=>if ba=fb v n then none else g ba)∧fo hp m1 (Own hp t)∧ ∀ q,Own m1 t q→Own hp t q) (.cond (fun cJ=>.eq rfl (.ret ?_)) fun _=>.ret ?_) fun m1 cP=>.ret ⟨rfl,cP⟩)
 ·rw [Bool.and_eq_true,Bool.not_eq_true',decide_eq_true_eq] at cJ
  obtain⟨bw,z2⟩:=cJ
  have WR:gL (cQ aX.2.2 t (.lp { iR with eT:=none })) t=some { iR with eT:=none } :=Sg (uN.1 b4)
  refine⟨⟨_,WR,a2,⟨fun ba p h=>(by rw [hC] at h;cases h),fun ba cs p h=>(by rw [hC] at h;cases h),fun ba p h=>(by rw [hC] at h;cases h)⟩,fun ba=>?_⟩,rm.keeps.trans (fo.up (own:=Own hp t) (.inl rfl)) fun q _ h=>h,fun q hq=>?_⟩
  ·rw [mJ hC,← rm.cont]
   cases ba with
   | nil=>rw [l5 (p:=r) rfl wg,bw];rfl
   | cons b ba=>rw [mJ];rw [iY wg,z2,HV];exact hC
  rcases hq with rfl | ⟨hz,ba,ew,eZ⟩
  ·exact .inl rfl
  rw [WR] at ew;cases ew
  rw [hC] at eZ;cases eZ
 refine⟨⟨iR,b4,a2,by rw [a3];exact rm.tree,fun ba=>by rw [a3];exact rm.cont ba⟩,rm.keeps,fun q hq=>?_⟩
 rcases hq with rfl | ⟨hz,ba,ew,eZ⟩
 ·exact .inl rfl
 rw [b4] at ew;cases ew
 rw [a3] at eZ
 exact rm.own ba q eZ
def l1 (hp:aC Cell):Nat→Ref→List Int
 | 0,_=>[]
 | _+1,none=>[]
 | n+1,some p=>match c8 hp p with
   | none=>[]
   | some c=>(bif c.fK then [c.kr] else [])++(l1 hp n (cd c.dJ 0)++l1 hp n (cd c.dJ 1))
theorem I5 {hp:aC Cell}{n p:Nat}{c:eo}(h:c8 hp p=some c):l1 hp (n+1) (some p)=(bif c.fK then [c.kr] else [])++(l1 hp n (cd c.dJ 0)++l1 hp n (cd c.dJ 1)):=by
 show(match c8 hp p with | none=>[] | some c=>_)=_;rw [h]
theorem uO {hp:aC Cell}{p:Nat}{c:eo}(h:c8 hp p=some c)(b:Bool)(ba:List Bool):cont hp (some p) (b::ba)=cont hp (cd c.dJ (fV b)) ba:=by
 unfold cont;rw [iY h]
theorem yM {hp:aC Cell} :∀ {n:Nat} {r:Ref} {id:Int},id∈l1 hp n r→ ∃ ba,cont hp r ba=some id
 | 0,_,_,h=>by cases h
 | _+1,none,_,h=>by cases h
 | n+1,some p,id,h=>by
   cases ai:c8 hp p with
   | none=>
     have:l1 hp (n+1) (some p)= []:=by
      show(match c8 hp p with | none=>[] | some c=>_)=_;rw [ai]
     rw [this] at h;cases h
   | some c=>
     rw [I5 ai] at h
     rcases List.mem_append.1 h with h | h
     ·refine⟨[],?_⟩
      rw [l5 (p:=p) rfl ai]
      cases hu:c.fK with
      | true=>rw [hu] at h;rw [List.mem_singleton.1 h];rfl
      | false=>rw [hu] at h;cases h
     rcases List.mem_append.1 h with h | h
     ·obtain⟨ba,mC⟩:=yM h
      exact⟨false::ba,by rw [uO ai];exact mC⟩
     obtain⟨ba,mC⟩:=yM h
     exact⟨true::ba,by rw [uO ai];exact mC⟩
theorem Sq {hp:aC Cell} :∀ {n:Nat} {r:Ref} {id:Int} {ba:List Bool},ba.length<n→cont hp r ba=some id→id∈l1 hp n r
 | 0,_,_,_,ao,_=>by omega
 | n+1,none,id,ba,_,h=>by rw [mJ hC] at h;cases h
 | n+1,some p,id,ba,ao,h=>by
   cases ai:c8 hp p with
   | none=>
     exfalso
     cases ba with
     | nil=>
       unfold cont at h
       have:dp hp (some p) []=some p:=rfl
       rw [this] at h
       simp only [ai] at h;cases h
     | cons b ba=>
       have:dp hp (some p) (b::ba)=none:=by
        show(match c8 hp p with | none=>none | some c=>dp hp (cd c.dJ (fV b)) ba)=none;rw [ai]
       rw [mJ this] at h;cases h
   | some c=>
     rw [I5 ai]
     cases ba with
     | nil=>
       rw [l5 (p:=p) rfl ai] at h
       cases hu:c.fK with
       | true=>
         rw [hu] at h
         have:c.kr=id:=by simpa using h
         rw [this];simp
       | false=>rw [hu] at h;cases h
     | cons b ba=>
       rw [uO ai] at h
       have lW:ba.length<n:=by simp at ao;omega
       have:=Sq lW h
       cases b
       ·exact List.mem_append_right _ (List.mem_append_left _ this)
       exact List.mem_append_right _ (List.mem_append_right _ this)
theorem RL {hp:aC Cell} :∀ {n:Nat} {r:Ref},(∀ ba cs id,cont hp r ba=some id→cont hp r cs=some id→ba=cs)→ (l1 hp n r).Nodup
 | 0,_,_=>List.nodup_nil
 | _+1,none,_=>List.nodup_nil
 | n+1,some p,h=>by
   cases ai:c8 hp p with
   | none=>
     have:l1 hp (n+1) (some p)= []:=by
      show(match c8 hp p with | none=>[] | some c=>_)=_;rw [ai]
     rw [this];exact List.nodup_nil
   | some c=>
     rw [I5 ai]
     have hb:∀ b,(l1 hp n (cd c.dJ (fV b))).Nodup:=fun b=>RL fun ba cs id h1 ae=>by
      have:=h (b::ba) (b::cs) id (by rw [uO ai];exact h1) (by rw [uO ai];exact ae);simpa using this
     rw [List.nodup_append,List.nodup_append]
     refine⟨by cases c.fK <;> simp,⟨hb false,hb true,fun a a7 hz oK e=>?_⟩,fun a a7 hz oK e=>?_⟩
     ·subst e
      obtain⟨ba,h1⟩:=yM a7
      obtain⟨cs,ae⟩:=yM oK
      have:=h (false::ba) (true::cs) a (by rw [uO ai];exact h1) (by rw [uO ai];exact ae)
      simp at this
     subst e
     cases hu:c.fK with
     | false=>rw [hu] at a7;cases a7
     | true=>
       rw [hu] at a7
       have a7:a=c.kr:=List.mem_singleton.1 a7
       have bH:cont hp (some p) []=some a:=by rw [l5 (p:=p) rfl ai,hu,a7];rfl
       rcases List.mem_append.1 oK with h1 | h1
       ·obtain⟨ba,h1⟩:=yM h1
        have:=h [] (false::ba) a bH (by rw [uO ai];exact h1)
        cases this
       obtain⟨ba,h1⟩:=yM h1
       have:=h [] (true::ba) a bH (by rw [uO ai];exact h1)
       cases this
theorem Sr:∀ {l m:List Int},l.Nodup→ (∀ x∈l,x∈m)→l.length≤m.length
 | [],m,_,_=>Nat.zero_le _
 | x::l,m,aQ,h=>by
   obtain⟨h1,ae⟩:=List.nodup_cons.1 aQ;have ar:=h x (by simp);have:=Sr (m:=m.erase x) ae fun y a1=>(List.mem_erase_of_ne fun e=>h1 (by rw [← e];exact a1)).2 (h y (by simp [a1]));rw [List.length_erase_of_mem ar] at this;have hp:=List.length_pos_of_mem ar;simp only [List.length_cons];omega
theorem aaV (v:aO)(n:Int):br (Ec v n) (fun _=>True):=by
 unfold Ec;exact .cond (fun _=>.ret trivial) fun _=>.cond (fun _=>.eq rfl (.ret trivial)) fun _=>.eq rfl (.eq rfl (.ret trivial))
theorem MC {hp:aC Cell}{t:Nat}{c:gy}(ai:gL hp t=some c):∀ (d f:Nat) (r:Ref) (aW:aO) (dU:Int) (jR:List e5),d<f→ (∀ ba p,dp hp r ba=some p→ba.length<d)→ (∀ ba p,dp hp r ba=some p→ ∃ c,c8 hp p=some c)→jR.length+(l1 hp d r).length≤20000→
 br (yd f hp (some t) r aW dU jR) (fun o=>o.length=jR.length+(l1 hp d r).length)
 | d,0,r,aW,dU,jR,aY,_,_,_=>by omega
 | 0,f+1,none,aW,dU,jR,aY,hd,aI,ao=>⟨jR,rfl,rfl⟩
 | 0,f+1,some p,aW,dU,jR,aY,hd,aI,ao=>by have:=hd [] p rfl;simp at this
 | d+1,f+1,none,aW,dU,jR,aY,hd,aI,ao=>⟨jR,rfl,rfl⟩
 | d+1,f+1,some p,aW,dU,jR,aY,hd,aI,ao=>by
   obtain⟨e,he⟩:=aI [] p rfl;rw [I5 he] at ao ⊢;simp only [List.length_append] at ao ⊢;have ts:∀ b,(∀ ba q,dp hp (cd e.dJ (fV b)) ba=some q→ba.length<d)∧ ∀ ba q,dp hp (cd e.dJ (fV b)) ba=some q→ ∃ c,c8 hp q=some c:=fun b=>⟨fun ba q hq=>by
    have:=hd (b::ba) q (by rw [iY he];exact hq);simp at this;omega,fun ba q hq=>aI (b::ba) q (by rw [iY he];exact hq)⟩
   show br (cond (some p:Ref).isNone (some jR) _) _;refine .cond (fun ai=>by cases ai) fun _=>?_;refine .bind (P:=fun y=>y.length=jR.length+(bif e.fK then [e.kr] else []).length) ?_ fun aq bu=>?_
   ·unfold Hm;refine .eq rfl (.eq he ?_);cases hu:e.fK with
    | true=>
      rw [hu] at ao
      simp only [cond_true,List.length_singleton] at ao
      refine .eq (a:=jR++[{ da:=aW,yK:=dU,bM:=e.kr }]) ?_ (.ret (by simp))
      show(fY 32 jR _).bind _=_
      rw [hT _ _ (by simp;omega) (by omega)];rfl
    | false=>exact .eq rfl (.ret (by simp))
   refine .eq rfl (.eq he (.bind (MC ai d f _ aW (bC (dU+1)) aq (by omega) (ts false).1 (ts false).2 (by rw [bu];show _+_+(l1 hp d (cd e.dJ 0)).length≤_;omega)) fun aD cb=>?_));have cb:aD.length=aq.length+(l1 hp d (cd e.dJ 0)).length:=cb;refine .eq rfl (.eq rfl (.eq ai (.bind (aaV _ _) fun bL _=>.eq rfl (.bind (MC ai d f _ _ (bC (dU+1)) aD (by omega) (ts true).1 (ts true).2 (by rw [cb,bu];show _+_+_+(l1 hp d (cd e.dJ 1)).length≤_;omega)) fun cr iz=>.ret ?_))));have iz:cr.length=aD.length+(l1 hp d (cd e.dJ 1)).length:=iz;rw [iz,cb,bu];omega
theorem adR {hp:aC Cell}{t:Nat}{g:List Bool→Option Int}(h:kE hp t g)(au:∀ ba cs id,g ba=some id→g cs=some id→ba=cs)(m:List Int)(hm:∀ ba id,g ba=some id→id∈m)(ao:m.length≤20000):br (A3 hp (some t)) (fun r=>r=0→ ∀ ba,g ba=none):=by
 obtain⟨c,ai,hb,bP,bO⟩:=h.ok;have aQ:(l1 hp 33 c.eT).Nodup:=RL fun ba cs id h1 ae=>au ba cs id (by rw [← bO];exact h1) (by rw [← bO];exact ae);have hle:(l1 hp 33 c.eT).length≤m.length:=Sr aQ fun x ar=>by
  obtain⟨ba,mC⟩:=yM ar;exact hm ba x (by rw [← bO];exact mC)
 unfold A3 HP Hd;refine .bind (P:=fun y=>y.length=(l1 hp 33 c.eT).length) (.bind (P:=fun y=>y.length=(l1 hp 33 c.eT).length) (.bind (P:=fun y=>y.length=(l1 hp 33 c.eT).length) (.cond (fun _=>.eq rfl (.eq ai ((show br (KP hp (some t) c.eT default 0 []) _ from MC ai 33 eD c.eT default 0 [] (by unfold eD;omega) (fun ba p hp=>by have:=bP.dep ba p hp;omega) bP.reads (by simp;omega)).bind fun y a1=>.ret (by simpa using a1)))) fun ai=>by cases ai) fun y a1=>.ret a1) fun y a1=>.ret a1) fun y a1=>.ret fun bH ba=>?_;have bH:(l1 hp 33 c.eT).length=0:=by rw [← a1];have:(y.length:Int)=0:=bH;omega
 cases ajz:g ba with
 | none=>rfl
 | some id=>
   have Py:cont hp c.eT ba=some id:=by rw [bO];exact ajz
   have hlen:ba.length<33:=by
    cases aY:dp hp c.eT ba with
    | none=>rw [mJ aY] at Py;cases Py
    | some p=>have:=bP.dep ba p aY;omega
   have:=Sq hlen Py
   rw [List.eq_nil_of_length_eq_zero bH] at this;cases this
theorem abP (x:er)(n:Int)(ao:x.dH.length≤1000):br (Hl x n) (fun r=>(r= -1∧jO x.dH n=false)∨ ∃ i:Nat,i<x.dH.length∧r=i∧ (aE x.dH i).b8=n∧jO x.dH n=true∧ ∀ j,j<i→ (aE x.dH j).b8≠n):=Vf x n ao
theorem acP {l:List az}{n:Int}{i:Nat}(aQ:l.Pairwise fun a c=>a.b8≠c.b8)(au:i<l.length)(h:(aE l i).b8=n):
 l.take i++l.drop (i+1)=l.filter (fun c=>c.b8 !=n):=by
 rw [e7 _ au] at h
 have wa:l=l.take i++l[i]::l.drop (i+1):=by rw [List.getElem_cons_drop,List.take_append_drop]
 rw [wa,List.pairwise_append] at aQ
 obtain⟨h1,ae,aA⟩:=aQ
 obtain⟨aV,bc⟩:=List.pairwise_cons.1 ae
 conv=>rhs;rw [wa]
 rw [List.filter_append,List.filter_cons_of_neg (by simp [h])]
 congr 1
 ·exact(List.filter_eq_self.2 fun c ai=>by have:=aA c ai l[i] List.mem_cons_self;rw [h] at this;simpa using this).symm
 exact(List.filter_eq_self.2 fun c ai=>by have:=aV c ai;rw [h] at this;simp;exact fun e=>this e.symm).symm
theorem mB.filter {s:aZ}{k:Nat}{l:List az}(h:mB s k l)(q:az→Bool):mB s k (l.filter q) where
 ok i au:=h.ok i (List.mem_filter.1 au).1
 num:=h.num.sublist List.filter_sublist
 len:=Nat.le_trans (List.length_filter_le _ _) h.len
theorem aaW {s:aZ}{k:Nat}{l:List az}(ao:mB s k l)(n:Int):
 C7 (vq s k l) n=some (jO l n,vq s k (l.filter fun c=>c.b8 !=n)):=by
 refine br.get ?_
 unfold C7
 obtain⟨lB,ia⟩:=ao.iU
 refine(abP (vq s k l) n (by show(iU _ l).length≤1000;omega)).bind fun aq h1=>?_
 rcases h1 with⟨rfl,ae⟩ | ⟨j,ae,rfl,aA,aV,bc⟩
 ·have mA:jO l n=false:=by rw [← ae];exact IH.symm
  refine .cond (fun _=>.ret ?_) fun ai=>by simp at ai
  rw [mA,List.filter_eq_self.2 fun c ai=>by simpa using Td mA c ai]
 have CN:jO l n=true:=by rw [← aV];exact IH.symm
 refine .cond (fun ai=>by simp at ai;omega) fun _=>?_
 have aF:j<(iU (jG s k) l).length:=ae
 refine .eq (a:=iU (jG s k) (l.filter fun c=>c.b8 !=n)) ?_ (.ret ?_)
 ·show FD (iU (jG s k) l) _ _=_
  unfold FD
  rw [fH (by omega),if_pos ⟨by omega,by omega,by omega⟩]
  have Pg:(iU (jG s k) l).Pairwise fun a c=>a.b8≠c.b8:=((Mx l).symm.pairwise_iff fun cB=>fun e=>cB e.symm).1 ao.num
  rw [← aaO (I3 s k) ao.Pq,← acP Pg aF aA]
  simp
 rw [CN];rfl
def dm (l:List az)(e:a8):List az:=l.filter fun c=> !fE c.bd e
theorem ng {l:List az}{e:a8}{c:az} :c∈dm l e↔c∈l∧fE c.bd e=false:=by
 unfold dm;rw [List.mem_filter];simp
theorem iH.dm {s:aZ}{k:Nat}{l:List az}(h:iH s k l)(e:a8):iH s k (Go.Proofs.YtppgfphgdogpeaaGreat.dm l e):=
 ⟨h.ok.filter _,h.key.sublist List.filter_sublist⟩
theorem Ir {s:aZ}{k:Nat}{l:List az}(h:iH s k l){e:a8}{i:az}(au:i∈l)(hk:fE i.bd e=true):dm l e=l.filter fun c=>c.b8 !=i.b8:=by
 unfold dm;refine List.filter_congr fun c ai=>?_;by_cases av:c=i
 ·rw [av,hk];simp
 have h1:fE c.bd e=false:=by
  rw [Bool.eq_false_iff];intro ae;exact av (h.uniq ai au (rJ ae (by rw [rM];exact hk)))
 have ae:c.b8≠i.b8:=fun ae=>av (h.ok.uniq ai au ae);rw [h1];simp [ae]
theorem aia {s:aZ}(h:cR s){hp:aC Cell}{q:Nat}{l:List az}{own:Nat→Prop}(hq:BW s hp q l own)(ao:iH s 0 l){i:az}(au:i∈l):
 br (Di hp ⟨some q⟩ i) (fun hp'=>BW s hp' q (dm l i.bd) own∧fo hp hp' own):=by
 obtain⟨m,em,h1,ae,aA,aV,bc,kF⟩:=hq.ok
 have hX:=(ao.ok.ok i au).ej
 have bO:ec em (fD i.bd)=some i.b8:=(bc _ _).2 ⟨i,au,rfl,rfl⟩
 unfold Di Hu AS
 refine .eq (II (hX.JU h (by decide)).1) ?_
 refine .eq (a:=(true,cQ hp m (Cell.qb (jg em (fD i.bd))))) ?_ (.ret ?_)
 ·show((ov hp q).bind _).bind _=_
  rw [h1]
  show((nm hp m).bind _).bind _=_
  rw [ae]
  show cond (!(ec em (fD i.bd)).isSome) _ _=_
  rw [bO]
  show(ov hp q).bind _=_
  rw [h1]
  show(nm hp m).bind _=_
  rw [ae];rfl
 have zX:q≠m:=fun e=>by
  subst e;have:=w9 h1;rw [tM ae] at this;cases this
 refine⟨⟨m,_,by rw [LB (mI zX.symm)];exact h1,Sk (tM ae),aA,aV,fun dv n=>?_,kF.del⟩,.up aV⟩
 rw [Bs kF]
 by_cases h0:dv=fD i.bd
 ·rw [if_pos h0]
  refine⟨fun e=>(by cases e),fun⟨c,ai,bs,df⟩=>?_⟩
  obtain⟨g1,g2⟩:=ng.1 ai
  rw [(GF h (ao.ok.ok c g1).ej hX).2 (bs.trans h0)] at g2;cases g2
 rw [if_neg h0,bc]
 constructor
 ·rintro ⟨c,ai,bs,df⟩
  refine⟨c,ng.2 ⟨ai,?_⟩,bs,df⟩
  rw [Bool.eq_false_iff];intro dz
  exact h0 (by rw [← bs];exact(GF h (ao.ok.ok c ai).ej hX).1 dz)
 rintro ⟨c,ai,bs⟩
 exact⟨c,(ng.1 ai).1,bs⟩
theorem aib {s:aZ}(h:cR s){hp:aC Cell}{m:Nat}{l:List az}{own:Nat→Prop}(hq:oZ s hp m l own)(ao:iH s 1 l){i:az}(au:i∈l):
 br (Dd hp ⟨0,32,⟨some m⟩⟩ i) (fun hp'=>oZ s hp' m (dm l i.bd) own∧fo hp hp' own):=by
 obtain⟨em,n5,ae,aA,aV,bc,kF⟩:=hq.ok
 have hX:=(ao.ok.ok i au).ej
 have iB:=FO h hX
 have bP:∃ t,ec em (iG (fD i.bd))=some (some t):=by
  cases bO:ec em (iG (fD i.bd)) with
  | none=>exact absurd rfl (aV _ bO i au)
  | some r=>obtain⟨t,g,rfl,_⟩:=aA _ _ bO;exact⟨t,rfl⟩
 obtain⟨t,bP⟩:=bP
 obtain⟨fW,g,e,g1,g2,g3⟩:=aA _ _ bP
 cases e
 obtain⟨n,aQ⟩:=Int.eq_ofNat_of_zero_le iB.pre.1
 have FP:n≤32:=by have:=iB.pre.2;omega
 have xx:=L7 iB
 have hp':fb (aE i.bd.cU 0).da n=lx i.bd:=by unfold lx;rw [aQ];rfl
 have ajA:g (lx i.bd)=some i.b8:=(g3 _ _).2 ⟨i,au,rfl,rfl,rfl⟩
 have WS:∀ c∈l,iG (fD c.bd)=iG (fD i.bd)→ (fE c.bd i.bd=false↔lx c.bd≠lx i.bd):=fun c ai ar=>by
  rw [Bool.eq_false_iff,ne_eq,CO h (ao.ok.ok c ai).ej hX];exact⟨fun h1 ae=>h1 ⟨ar,ae⟩,fun h1 ae=>h1 ae.2⟩
 have mh:∀ c∈l,iG (fD c.bd)≠iG (fD i.bd)→fE c.bd i.bd=false:=fun c ai ar=>by
  rw [Bool.eq_false_iff,ne_eq,CO h (ao.ok.ok c ai).ej hX];exact fun h1=>ar h1.1
 unfold Dd
 refine .eq (Mz h hX _) (.eq rfl (.eq n5 (.eq rfl ?_)))
 simp only [bP]
 rw [aQ] at xx ⊢
 refine(show br (AQ hp (some t) (aE i.bd.cU 0).da (n:Int)) _ from aaU g1 FP xx (by rw [hp'];exact ajA)).bind fun aD aI=>?_
 obtain⟨_,lB,ia,qE⟩:=aI
 rw [hp'] at lB
 obtain⟨alc,c6⟩:=aD
 simp only at lB ia qE ⊢
 have Pt:∀ q,Own hp t q→q≠m:=fun q Pu e=>by
  have:=oY n5;rw [← e] at this;rcases g1.I4 Pu with⟨c,ai⟩ | ⟨c,ai⟩ <;> rw [ai] at this <;> cases this
 have mX:pat c6 m=pat hp m:=ia.rest m (jV (oY n5)) fun hq=>Pt m hq rfl
 have Ou:lR c6 m=some em:=by rw [H4 mX];exact n5
 have FQ:∀ ba qI,(if ba=lx i.bd then none else g ba)=some qI↔ ∃ c∈dm l i.bd,iG (fD c.bd)=iG (fD i.bd)∧lx c.bd=ba∧c.b8=qI:=fun ba qI=>by
  by_cases mC:ba=lx i.bd
  ·rw [if_pos mC];refine⟨fun e=>(by cases e),fun⟨c,ai,bs,df,_⟩=>?_⟩;obtain⟨b4,a2⟩:=ng.1 ai;exact absurd (df.trans mC) ((WS c b4 bs).1 a2)
  rw [if_neg mC,g3];constructor
  ·rintro ⟨c,ai,bs,df,dz⟩;exact⟨c,ng.2 ⟨ai,(WS c ai bs).2 fun e=>mC (df.symm.trans e)⟩,bs,df,dz⟩
  rintro ⟨c,ai,bs⟩;exact⟨c,(ng.1 ai).1,bs⟩
 have tT:∀ dv fW,dv≠iG (fD i.bd)→ec em dv=some (some fW)→ ∃ eG,kE hp fW eG∧kE c6 fW eG∧ (∀ q,Own hp fW q→own q)∧ (∀ q,Own c6 fW q↔Own hp fW q)∧ ∀ ba n,eG ba=some n↔ ∃ c∈dm l i.bd,iG (fD c.bd)=dv∧lx c.bd=ba∧c.b8=n:=fun dv fW dC aI=>by
  obtain⟨ajv,eG,e,b4,a2,a3⟩:=aA dv _ aI;cases e;obtain⟨ew,eZ⟩:=b4.congr (hp':=c6) fun q hq=>ia.rest q (b4.y8 hq) fun pI=>bc _ _ _ _ bP aI dC.symm q pI hq;refine⟨eG,b4,ew,a2,eZ,fun ba n=>?_⟩;rw [a3];constructor
  ·rintro ⟨c,ai,bs,df⟩;exact⟨c,ng.2 ⟨ai,mh c ai (by rw [bs];exact dC)⟩,bs,df⟩
  rintro ⟨c,ai,bs⟩;exact⟨c,(ng.1 ai).1,bs⟩
 have de:fo hp c6 own:=⟨ia.keys,fun q hq gF=>ia.rest q hq fun pI=>gF (g2 q pI)⟩
 have cS:oZ s c6 m (dm l i.bd) own:=by
  refine⟨em,Ou,ae,fun dv nc j3=>?_,fun dv h0 c ai=>aV dv h0 c (ng.1 ai).1,fun dv ly t1 t2 kJ l0 dC q kg qp=>?_,kF⟩
  ·by_cases h0:dv=iG (fD i.bd)
   ·subst h0;rw [bP] at j3;cases j3;exact⟨t,_,rfl,lB,fun q hq=>g2 q (qE q hq),FQ⟩
   obtain⟨fW,eG,e,_⟩:=aA dv nc j3;subst e;obtain⟨zY,b4,a2,a3,a4,a5⟩:=tT dv fW h0 j3;exact⟨fW,zY,rfl,a2,fun q hq=>a3 q ((a4 q).1 hq),a5⟩
  have gu:∀ dv t1,ec em dv=some (some t1)→ ∀ q,Own c6 t1 q→Own hp t1 q:=fun dv t1 kJ q kg=>by
   by_cases av:dv=iG (fD i.bd)
   ·subst av;rw [bP] at kJ;cases kJ;exact qE q kg
   obtain⟨_,_,_,_,a4,_⟩:=tT dv t1 av kJ;exact(a4 q).1 kg
  exact bc _ _ _ _ kJ l0 dC q (gu dv t1 kJ q kg) (gu ly t2 l0 q qp)
 refine .eq Ou (.eq rfl ?_)
 simp only [bP]
 refine(show br (A3 c6 (some t)) _ from adR lB (fun ba cs id h1 ae=>?_) (l.map (·.b8)) (fun ba id h1=>?_) (by rw [List.length_map];have:=ao.ok.len;omega)).bind fun bh bs=>?_
 ·obtain⟨c,ai,_,ew,eZ⟩:=(FQ _ _).1 h1
  obtain⟨d,hd,_,d1,d2⟩:=(FQ _ _).1 ae
  have:=ao.ok.uniq (ng.1 ai).1 (ng.1 hd).1 (eZ.trans d2.symm)
  rw [← ew,← d1,this]
 ·obtain⟨c,ai,_,ew,eZ⟩:=(FQ _ _).1 h1
  exact List.mem_map.2 ⟨c,(ng.1 ai).1,eZ⟩
 refine .bind (P:=fun hp'=>oZ s hp' m (dm l i.bd) own∧fo hp hp' own) (.cond (fun cJ=>.eq rfl (.ret ?_)) fun _=>.ret ⟨cS,de⟩) fun m1 cP=>.ret cP
 have bs:=bs (by simpa using cJ)
 have Cr:=oY Ou
 have Ov:∀ fW eG,kE c6 fW eG→kE (cQ c6 m (Cell.nY (jg em (iG (fD i.bd))))) fW eG∧ ∀ q,Own (cQ c6 m (Cell.nY (jg em (iG (fD i.bd))))) fW q↔Own c6 fW q:=fun fW eG zW=>zW.congr fun q sr=>mI fun e=>by
  rw [e] at Cr;rcases zW.I4 sr with⟨c,ai⟩ | ⟨c,ai⟩ <;> rw [ai] at Cr <;> cases Cr
 refine⟨⟨_,Sl Cr,ae,fun dv nc j3=>?_,fun dv h0 c ai=>?_,fun dv ly t1 t2 kJ l0 dC q kg qp=>?_,kF.del⟩,de.trans (fo.up ae) fun q _ hq=>hq⟩
 ·rw [Bs kF] at j3
  split at j3
  ·cases j3
  rename_i h0
  obtain⟨fW,eG,e,_⟩:=aA dv nc j3
  subst e
  obtain⟨zY,b4,a2,a3,a4,a5⟩:=tT dv fW h0 j3
  obtain⟨ew,eZ⟩:=Ov fW zY a2
  exact⟨fW,zY,rfl,ew,fun q hq=>a3 q ((a4 q).1 ((eZ q).1 hq)),a5⟩
 ·rw [Bs kF] at h0
  split at h0
  ·rename_i e
   intro ar
   have:=(FQ _ _).2 ⟨c,ai,ar.trans e,rfl,rfl⟩
   rw [bs] at this;cases this
  exact aV dv h0 c (ng.1 ai).1
 rw [Bs kF] at kJ l0
 split at kJ
 ·cases kJ
 split at l0
 ·cases l0
 rename_i av aX
 obtain⟨ajq,b4,a2,a3,a4,_⟩:=tT dv t1 av kJ
 obtain⟨ajr,ew,eZ,ju,KH,_⟩:=tT ly t2 aX l0
 exact bc _ _ _ _ kJ l0 dC q ((a4 q).1 (((Ov t1 _ a2).2 q).1 kg)) ((KH q).1 (((Ov t2 _ eZ).2 q).1 qp))
theorem srem {s:aZ}{k:Nat}{hp:aC Cell}{q:Nat}{l:List az}{own:Nat→Prop}(hq:BX s k hp q l own)(ao:iH s k l){i:az}(au:i∈l):
 c9 (Dj hp ⟨some q⟩ i) (fun hp'=>BX s k hp' q (dm l i.bd) own∧fo hp hp' own):=by
 obtain⟨key,cap,h1,ae⟩:=hq.ok
 unfold Dj
 refine .eq rfl (.eq h1 (.eq (aaW ao.ok _) (.any fun aB=>.eq rfl (.ret ?_))))
 rw [Ir ao au (om _)]
 exact⟨⟨aB.1,aB.2,Sm (yZ h1),ae⟩,.up ae⟩
theorem aic {s:aZ}(h:cR s){k:Nat}{hp:aC Cell}{f:h5}{l:List az}{own:Nat→Prop}(hq:s3 s k hp f l own)(ao:iH s k l){i:az}(au:i∈l):
 c9 (KZ hp f i) (fun hp'=>s3 s k hp' f (dm l i.bd) own∧fo hp hp' own):=by
 rcases hq with⟨rfl,q,rfl,hq⟩ | ⟨rfl,m,rfl,hq⟩ | ⟨de,q,rfl,hq⟩
 ·exact c9.of ((aia h hq ao au).mono fun hp' aI=>⟨.inl ⟨rfl,q,rfl,aI.1⟩,aI.2⟩)
 ·exact c9.of ((aib h hq ao au).mono fun hp' aI=>⟨.inr (.inl ⟨rfl,m,rfl,aI.1⟩),aI.2⟩)
 exact(srem hq ao au).mono fun hp' aI=>⟨.inr (.inr ⟨de,q,rfl,aI.1⟩),aI.2⟩
theorem Q4 {α β:Type}[DecidableEq α]:∀ {l:List (α×β)} {x:α},pa l→jg l x=l.filter fun a=>decide (a.1≠x)
 | [],_,_=>rfl
 | (k,w)::r,x,h=>by
   obtain⟨h1,ae⟩:=List.pairwise_cons.1 h;unfold jg;by_cases e:x=k
   ·rw [if_pos e,List.filter_cons_of_neg (by simp [e])];exact(List.filter_eq_self.2 fun a a7=>by simpa using fun e'=>h1 a a7 (by rw [← e,e'])).symm
   rw [if_neg e,List.filter_cons_of_pos (by simpa using fun e'=>e e'.symm),Q4 ae]
theorem vH.Kz {s:aZ}{k:Nat}{em:List (Int×az)}{l:List az}(h:vH em l)(ao:mB s k l):pa em:=by
 refine(h.pairwise_iff fun cB=>Ne.symm cB).2 ?_;rw [List.pairwise_map];exact ao.num.imp fun cB=>cB
theorem aaX {s:aZ}(h:cR s){k:Nat}(hk:k<4){hp:aC Cell}{p:Nat}{l:List az}{own:Nat→Prop}(ar:lU s k hp p l own){e:a8}(he:gp s k e):
 c9 (Dz hp (some p) e) (fun r=>(r.1,r.2.1)=we (dE l e)∧lU s k r.2.2 p (dm l e) own∧fo hp r.2.2 own):=by
 obtain⟨f,m,em,h1,ae,aA,aV,bc,bs⟩:=ar.cell
 have hm:=sQ ae
 have hp':=oX h1
 have mX:p≠m:=fun e=>by rw [e,hm] at hp';cases hp'
 unfold Dz
 refine .eq (MA h hk ar he) ?_
 refine .bind (P:=fun m1=>lU s k m1 p (dm l e) own∧fo hp m1 own) (.cond (fun ai=>?_) fun ai=>.ret ?_) fun m1 cP=>.ret ⟨rfl,cP⟩
 ·cases aY:dE l e with
  | none=>rw [aY] at ai;cases ai
  | some i=>
    obtain⟨au,o6⟩:=oi aY
    have ajB:dm l i.bd=dm l e:=by
     rw [Ir ar.gx au (om _),Ir ar.gx au o6]
    refine .eq rfl (.eq h1 (.bind (aic h bs ar.gx au) fun c6 aI=>?_))
    obtain⟨lB,ia⟩:=aI
    have lB:s3 s k c6 f (dm l i.bd) (fun q=>own q∧q≠m∧q≠p):=lB
    rw [ajB] at lB
    show c9 (ak.bind (ak.of (jy c6 p)) fun c2=>ak.bind (ak.of c2.lG.p) fun cY=>ak.bind (ak.of (mu c6 cY)) fun dh=>ak.bind (ak.of (some (cQ c6 cY (Cell.mc (jg dh i.b8))))) fun bR=>ak.ret bR) _
    have b4:pat c6 p=some (.pv ⟨qK k,(KI s k:Int),f,⟨some m⟩⟩):=by rw [ia.rest p (jV hp') (fun hq=>hq.2.2 rfl)];exact hp'
    have a2:pat c6 m=some (.mc em):=by rw [ia.rest m (jV hm) (fun hq=>hq.2.1 rfl)];exact hm
    refine .eq (by unfold jy;rw [b4]) (.eq rfl (.eq (by unfold mu;rw [a2]) (.eq rfl (.ret ?_))))
    have ajC:fo hp c6 own:=⟨ia.keys,fun q hq gF=>ia.rest q hq fun h=>gF h.1⟩
    have uw:fo hp (cQ c6 m (Cell.mc (jg em i.b8))) own:=ajC.trans (fo.up (own:=own) aV) fun q _ hq=>hq
    refine⟨⟨ar.gx.dm e,⟨f,m,_,by unfold jy;rw [mI mX.symm,b4],abO a2,aA,aV,?_,lB.congr (fun q _ hq=>hq) fun q hq=>mI hq.2.1.symm⟩,fun q hq=>uw.keys q (ar.oL q hq)⟩,uw⟩
    unfold vH
    rw [Q4 (bc.Kz ar.gx.ok),Ir ar.gx au o6]
    refine(bc.filter _).trans ?_
    rw [List.filter_map]
    have:((fun a:Int×az=>decide (a.1≠i.b8)) ∘ fun c:az=>(c.b8,c))=fun c=>c.b8 !=i.b8:=by
     funext c;show decide (c.b8≠i.b8)=_;by_cases e:c.b8=i.b8 <;> simp [e]
    rw [this]
 have aY:dE l e=none:=by
  cases aY:dE l e with
  | none=>rfl
  | some i=>rw [aY] at ai;cases ai
 have:dm l e=l:=by
  unfold dm;exact List.filter_eq_self.2 fun c ai=>by rw [sL aY c ai];rfl
 rw [this]
 exact⟨ar,.refl⟩
theorem Ei {hp hp':aC Cell}{p:Nat}(h:pat hp' p=pat hp p):jM hp' p=jM hp p:=by unfold jM;rw [h]
theorem Ej {hp hp':aC Cell}{p:Nat}(h:pat hp' p=pat hp p):mr hp' p=mr hp p:=by unfold mr;rw [h]
theorem abQ {hp:aC Cell}{p:Nat}{k:Cell}{x:iW}(h:pat hp p=some k):jM (cQ hp p (.qd x)) p=some x:=by unfold jM;rw [rR h]
theorem abR {hp:aC Cell}{p:Nat}{k:Cell}{x:List (Int×Ref)}(h:pat hp p=some k):mr (cQ hp p (.se x)) p=some x:=by unfold mr;rw [rR h]
structure rT (s:aZ)(hp:aC Cell)(p m:Nat)(fq:List (Int×Ref))(n:Nat)(ls:Nat→List az)(own:Nat→Nat→Prop):Prop where
 has:∀ k,k<n→ ∃ q,ec fq ((k:Int)+1)=some (some q)∧lU s k hp q (ls k) (own k)
 no:∀ x:Int,x<1∨ (n:Int)<x→ec fq x=none
 GH:∀ k k',k<n→k'<n→k≠k'→ ∀ q,own k q→ ¬ own k' q
 out:∀ k,k<n→ ¬ own k p∧ ¬ own k m
theorem rT.congr {s:aZ}{hp hp':aC Cell}{p m:Nat}{fq:List (Int×Ref)}{n:Nat}{ls:Nat→List az}{own:Nat→Nat→Prop}(h:rT s hp p m fq n ls own)(hk:∀ q,q∈dZ hp→q∈dZ hp')(a7:∀ k,k<n→ ∀ q,own k q→pat hp' q=pat hp q):rT s hp' p m fq n ls own:=
 ⟨fun k kF=>by obtain⟨q,h1,ae⟩:=h.has k kF;exact⟨q,h1,ae.congr hk (a7 k kF)⟩,h.no,h.GH,h.out⟩
structure tb (s:aZ)(hp:aC Cell)(p:Nat)(ls:Nat→List az)(next:Int):Prop where
 cell:∃ m fq own,jM hp p=some ⟨s,⟨some m⟩,next⟩∧mr hp m=some fq∧rT s hp p m fq 4 ls own
def fg (ls:Nat→List az)(k:Nat)(l:List az):Nat→List az:=fun j=>if j=k then l else ls j
theorem L8 {s:aZ}{hp:aC Cell}{p:Nat}{ls:Nat→List az}{next:Int}(h:tb s hp p ls next){k:Nat}(hk:k<4):∃ q own,qN hp (some p) ((k:Int)+1)=some (some q)∧lU s k hp q (ls k) own:=by
 obtain⟨m,fq,own,h1,ae,aA⟩:=h.cell;obtain⟨q,aV,bc⟩:=aA.has k hk;refine⟨q,own k,?_,bc⟩;refine br.get ?_;unfold qN;refine .cond (fun ai=>by cases ai) fun _=>.eq rfl (.eq h1 (.eq rfl (.eq ae (.eq rfl (.ret ?_)))));rw [aV];rfl
theorem L9 {s:aZ}{hp:aC Cell}{p:Nat}{ls:Nat→List az}{next:Int}(h:tb s hp p ls next){x:Int}(ar:x<1∨4<x):qN hp (some p) x=some none:=by
 obtain⟨m,fq,own,h1,ae,aA⟩:=h.cell;refine br.get ?_;unfold qN;refine .cond (fun ai=>by cases ai) fun _=>.eq rfl (.eq h1 (.eq rfl (.eq ae (.eq rfl (.ret ?_)))));rw [aA.no x (by omega)];rfl
theorem Ti {s:aZ}(hs:cR s){hp:aC Cell}{p:Nat}{ls:Nat→List az}{next:Int}(h:tb s hp p ls next){k:Nat}(hk:k<4){e:a8}(he:gp s k e):yu hp (some p) e=some (we (dE (ls k) e)):=by
 obtain⟨q,own,h1,ae⟩:=L8 h hk;refine br.get ?_;unfold yu;rw [he.gG];exact .eq h1 (.eq (MA hs hk ae he) (.ret rfl))
theorem acQ {s:aZ}(hs:cR s){hp:aC Cell}{p:Nat}{ls:Nat→List az}{next:Int}(h:tb s hp p ls next){k:Nat}(hk:k<4):DO hp (some p) ((k:Int)+1)=some (aE s.bQ k).hG:=by
 obtain⟨m,fq,own,h1,ae,aA⟩:=h.cell;refine br.get ?_;unfold DO;refine .eq rfl (.eq h1 ((LA hs hk).bind fun aq av=>?_));subst av;exact .idx rfl (by rw [hs.mg];exact hk) (.ret rfl)
theorem acR {s:aZ}{hp:aC Cell}{p:Nat}{ls:Nat→List az}{next:Int}(h:tb s hp p ls next):DM hp (some p)=some next:=by
 obtain⟨m,fq,own,h1,ae,aA⟩:=h.cell;refine br.get ?_;unfold DM;exact .cond (fun ai=>by cases ai) fun _=>.eq rfl (.eq h1 (.ret rfl))
theorem Tj (o:Option az):(we o).2=o.isSome:=by cases o <;> rfl
theorem rT.change {s:aZ}{hp hp':aC Cell}{p:Nat}{ls:Nat→List az}{next:Int}{m:Nat}{fq:List (Int×Ref)}{own:Nat→Nat→Prop}(h1:jM hp p=some ⟨s,⟨some m⟩,next⟩)(ae:mr hp m=some fq)(aA:rT s hp p m fq 4 ls own){k:Nat}(hk:k<4){q:Nat}(hq:ec fq ((k:Int)+1)=some (some q)){l:List az}{own':Nat→Prop}
 (ar:lU s k hp' q l own') (bp:∀ x,own' x→own k x∨x ∉ dZ hp) (qu:fo hp hp' (own k)):jM hp' p=some ⟨s,⟨some m⟩,next⟩∧mr hp' m=some fq∧rT s hp' p m fq 4 (fg ls k l) (fun j=>if j=k then own' else own j):=by
 have lZ:=jV (nO h1)
 have iB:=jV (w8 ae)
 have bJ:=(aA.out k hk).1
 have cY:=(aA.out k hk).2
 refine⟨by rw [Ei (qu.rest p lZ bJ)];exact h1,by rw [Ej (qu.rest m iB cY)];exact ae,⟨fun j aF=>?_,aA.no,fun j rz aF sm dC x jh qw=>?_,fun j aF=>?_⟩⟩
 ·by_cases e:j=k
  ·subst e
   refine⟨q,hq,?_⟩
   unfold fg
   rw [if_pos rfl,if_pos rfl];exact ar
  obtain⟨oa,g1,g2⟩:=aA.has j aF
  refine⟨oa,g1,?_⟩
  unfold fg
  rw [if_neg e,if_neg e]
  exact g2.o3 qu fun x ar=>aA.GH j k aF hk e x ar
 ·have key:∀ j,j<4→j≠k→own' x→ ¬ own j x:=fun j aF dC aV bc=>by
   obtain⟨oa,g1,g2⟩:=aA.has j aF;rcases bp x aV with bs | bs
   ·exact aA.GH j k aF hk dC x bc bs
   exact bs (g2.oL x bc)
  by_cases e:j=k
  ·rw [if_pos e] at jh
   rw [if_neg (fun e'=>dC (e.trans e'.symm))] at qw
   exact key rz sm (fun e'=>dC (e.trans e'.symm)) jh qw
  rw [if_neg e] at jh
  by_cases e':rz=k
  ·rw [if_pos e'] at qw;exact key j aF e qw jh
  rw [if_neg e'] at qw;exact aA.GH j rz aF sm dC x jh qw
 by_cases e:j=k
 ·rw [if_pos e]
  refine⟨fun h=>?_,fun h=>?_⟩
  ·rcases bp p h with aV | aV
   ·exact bJ aV
   exact aV lZ
  rcases bp m h with aV | aV
  ·exact cY aV
  exact aV iB
 rw [if_neg e];exact aA.out j aF
theorem adS {s:aZ}(hs:cR s)(hp:aC Cell):c9 (Eh hp s) (fun r=> ∃ p,r.1=some p∧tb s r.2 p (fun _=>[]) 1):=by
 unfold Eh;refine .mk fun m hm=>.eq rfl (.mk fun p bR=>?_);simp only at bR ⊢;have mX:p≠m:=fun e=>bR (by rw [e];exact List.mem_cons_self);have oc:jM ((p,Cell.qd ⟨s,⟨some m⟩,1⟩)::(m,Cell.se [])::hp) p=some ⟨s,⟨some m⟩,1⟩:=by unfold jM;rw [kV,if_pos rfl]
 have d0:mr ((p,Cell.qd ⟨s,⟨some m⟩,1⟩)::(m,Cell.se [])::hp) m=some []:=by unfold mr;rw [kV,if_neg mX,kV,if_pos rfl]
 refine .eq oc ?_;simp only;refine .bind (P:=fun av=> ∃ fq own,jM av.2.2 p=some ⟨s,⟨some m⟩,1⟩∧mr av.2.2 m=some fq∧rT s av.2.2 p m fq 4 (fun _=>[]) own)
  (c9.loop 4 (fun i st=> ∃ hp' fq own,st=((i:Int),hp')∧jM hp' p=some ⟨s,⟨some m⟩,1⟩∧mr hp' m=some fq∧rT s hp' p m fq i (fun _=>[]) own) (by omega) ⟨_,[],fun _ _=>False,rfl,oc,d0,⟨fun k hk=>by omega,fun _ _=>rfl,fun k k' hk=>by omega,fun k hk=>by omega⟩⟩ (fun i st au dk=>?_) (fun st dk=>?_)) fun av h1=>.ret ⟨p,rfl,?_⟩
 ·obtain⟨hp',fq,own,rfl,g1,g2,g3⟩:=dk;have xY:=nO g1;have Gs:=w8 g2;refine .cond (fun _=>.idx rfl (by rw [hs.mg];exact au) (.eq g1 ?_)) fun ai=>by have:=hs.mg;simp at ai;omega
  rw [(hs.gG au).1];refine .bind (adQ hs au hp') fun aq h1=>?_;obtain⟨q,e,ar,hk⟩:=h1;obtain⟨ajD,c6⟩:=aq;simp only at e ar hk;subst e;have aU:jM c6 p=some ⟨s,⟨some m⟩,1⟩:=by rw [Ei (hk.rest p (jV xY) id)];exact g1
  have bK:mr c6 m=some fq:=by rw [Ej (hk.rest m (jV Gs) id)];exact g2
  have JV:=w8 bK;refine .eq (a:=()) (by unfold F3;rw [if_pos aU]) (.eq rfl (.eq bK (.eq rfl (.ret ?_))));have Cr:m≠p:=fun e=>by rw [e] at JV;rw [nO aU] at JV;cases JV
  have xZ:∀ x,x≠m→pat (cQ c6 m (Cell.se (gB fq ((i:Int)+1) (some q)))) x=pat c6 x:=fun x ar=>mI ar.symm;have hold:∀ j,j<i→ ∀ x,own j x→pat (cQ c6 m (Cell.se (gB fq ((i:Int)+1) (some q)))) x=pat hp' x:=fun j aF x ar=>by
   obtain⟨oa,_,eZ⟩:=g3.has j aF;rw [xZ x fun e=>(g3.out j aF).2 (e ▸ ar)];exact hk.rest x (eZ.oL x ar) id
  have sf:∀ x,nU CP hp' c6 x→x ∉ dZ hp':=fun x ar=>ar.elim (fun h=>h.elim) fun h=>h.1;refine⟨_,gB fq ((i:Int)+1) (some q),fun j=>if j=i then nU CP hp' c6 else own j,by simp only [fH (show i<2 ^ 62 by omega)],by rw [Ei (xZ p Cr.symm)];exact aU,abR JV,⟨fun j aF=>?_,fun x ar=>?_,fun j rz aF sm dC x jh qw=>?_,fun j aF=>?_⟩⟩
  ·by_cases e:j=i
   ·subst e;refine⟨q,by rw [uM,if_pos rfl],?_⟩;rw [if_pos rfl];exact ar.congr (fun x ar=>by rw [qR];exact ar) fun x jh=>xZ x fun e=>sf x jh (e ▸ jV Gs)
   obtain⟨oa,ew,eZ⟩:=g3.has j (by omega);refine⟨oa,by rw [uM,if_neg (by omega)];exact ew,?_⟩;rw [if_neg e];exact eZ.congr (fun x ar=>by rw [qR];exact hk.keys x ar) (hold j (by omega))
  ·rw [uM,if_neg (by omega)];exact g3.no x (by omega)
  ·have key:∀ j,j<i→nU CP hp' c6 x→ ¬ own j x:=fun j aF h1 ae=>by
    obtain⟨oa,_,eZ⟩:=g3.has j aF;exact sf x h1 (eZ.oL x ae)
   by_cases e:j=i
   ·rw [if_pos e] at jh;rw [if_neg (fun e'=>dC (e.trans e'.symm))] at qw;exact key rz (by omega) jh qw
   rw [if_neg e] at jh;by_cases e':rz=i
   ·rw [if_pos e'] at qw;exact key j (by omega) qw jh
   rw [if_neg e'] at qw;exact g3.GH j rz (by omega) (by omega) dC x jh qw
  by_cases e:j=i
  ·rw [if_pos e];exact⟨fun h=>sf p h (jV xY),fun h=>sf m h (jV Gs)⟩
  rw [if_neg e];exact g3.out j (by omega)
 ·obtain⟨hp',fq,own,rfl,g1,g2,g3⟩:=dk;refine .cond (fun ai=>by have:=hs.mg;simp at ai;omega) fun _=>.ret ⟨fq,own,g1,g2,g3⟩
 obtain⟨fq,own,b4,a2,a3⟩:=h1;exact⟨m,fq,own,b4,a2,a3⟩
theorem abS {l:List az}{e:a8}{i:az}(h:dE l e=none)(au:fE i.bd e=true):dE (l++[i]) e=some i:=by
 unfold dE at h ⊢;rw [List.find?_append,h,Option.none_or];simp [au]
def CQ:a8:= { (default:a8) with b3:=1,cU:= [({ (default:cg) with fO:=true } :cg)],fc:=1 }
theorem M9 {s:aZ}(h:cR s):gp s 0 CQ:=by
 refine⟨rfl,by rw [h.NP];rfl,fun i au=>?_,by decide,fun _=>rfl⟩;rw [h.NP] at au ⊢;have:i=0:=by have:i<1:=au;omega
 subst this;show r5 1 (Ai wA) { (default:cg) with fO:=true };have bH:∀ j,c7 ({ (default:cg) with fO:=true } :cg).da j=false:=fun j=>EG j;exact⟨fun h=>(by cases h),fun _=>rfl,fun _ j _ bm=>(by rw [bH] at bm;cases bm),fun h=>(by cases h),fun h=>(by cases h),FM,fun h=>(by cases h),fun _=>rfl,fun _=>rfl,fun h=>(by cases h),fun h=>(by cases h),fun h=>(by cases h),fun _=>rfl⟩
theorem jm {ls:Nat→List az}{k:Nat}{l:List az} :fg ls k l k=l:=by unfold fg;rw [if_pos rfl]
theorem jW {ls:Nat→List az}{k j:Nat}{l:List az}(h:j≠k):fg ls k l j=ls j:=by unfold fg;rw [if_neg h]
theorem Is (l:List az)(e:a8):(dm l e).length≤l.length:=List.length_filter_le _ _
end Go.Proofs.YtppgfphgdogpeaaGreat
