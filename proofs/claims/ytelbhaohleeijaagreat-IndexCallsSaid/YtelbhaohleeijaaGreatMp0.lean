/-
  What the programs compute, in plain Lean. Conditions: none.
-/
import Derived.Test.YtelbhaohleeijaaGreatMl0
import Derived.Test.YtelbhaohleeijaaGreatMl2
import Derived.Test.YtelbhaohleeijaaGreatMd
set_option linter.unusedVariables false
set_option linter.unusedSimpArgs false
set_option maxRecDepth 100000
namespace Gv
open Go
theorem O9 {σ ε:Type}{body:σ→Option (σ ⊕ ε)}{Q:ε→Prop}{cF:σ}(m:Nat)(gf:Nat→σ→Prop)
 (hm:m<2 ^ 80) (bR:gf 0 cF)
 (hs:∀ k s,k<m→gf k s→ (∃ cw,body s=some (.inl cw)∧gf (k+1) cw)∨ (∃ e,body s=some (.inr e)∧Q e))
 (he:∀ s,gf m s→ ∃ e,body s=some (.inr e)∧Q e):∃ e,ey et body cF=some e∧Q e:=by
 have key:∀ n k s,k≤m→m - k<n→gf k s→ ∃ e,ey n body s=some e∧Q e:=by
  intro n;induction n with
  | zero=>intro k s _ h;omega
  | succ n b7=>
    intro k s hk aO ar
    by_cases xF:k=m
    ·subst xF
     obtain⟨e,h1,ad⟩:=he s ar
     exact⟨e,by simp [ey,h1],ad⟩
    rcases hs k s (by omega) ar with⟨cw,h1,ad⟩ | ⟨e,h1,ad⟩
    ·obtain⟨e,aD,aZ⟩:=b7 (k+1) cw (by omega) (by omega) ad
     exact⟨e,by simp [ey,h1,aD],aZ⟩
    exact⟨e,by simp [ey,h1],ad⟩
 exact key et 0 cF (by omega) (by unfold et;omega) bR
def bs {β:Type}(m:Option β)(P:β→Prop):Prop:= ∃ r,m=some r∧P r
theorem bs.ret {β:Type}{P:β→Prop}{r:β}(h:P r):bs (some r) P:=⟨r,rfl,h⟩
theorem bs.bind {α β:Type}{m:Option α}{f:α→Option β}{P:α→Prop}{Q:β→Prop}(h:bs m P)(k:∀ a,P a→bs (f a) Q):bs (m.bind f) Q:=by
 obtain⟨a,h1,ad⟩:=h;rw [h1];exact k a ad
theorem bs.eq {α β:Type}{m:Option α}{a:α}{f:α→Option β}{Q:β→Prop}(h:m=some a)(k:bs (f a) Q):bs (m.bind f) Q:=by
 rw [h];exact k
theorem bs.mono {β:Type}{m:Option β}{P Q:β→Prop}(h:bs m P)(k:∀ a,P a→Q a):bs m Q:=by
 obtain⟨a,h1,ad⟩:=h;exact⟨a,h1,k a ad⟩
theorem bs.of_eq {β:Type}{m:Option β}{r:β}{P:β→Prop}(h:bs m P)(k:m=some r):P r:=by
 obtain⟨a,h1,ad⟩:=h;rw [k] at h1;cases h1;exact ad
theorem bs.cond {β:Type}{b:Bool}{m n:Option β}{P:β→Prop}(h1:b=true→bs m P)(ad:b=false→bs n P):bs (cond b m n) P:=by
 cases b
 ·exact ad rfl
 exact h1 rfl
theorem bs.cH {α β:Type}[Inhabited α]{b w:Bool}{m:Option α}{f:α→Option β}{P:α→Prop}{Q:β→Prop}(h:b=w→bs m P)(k:∀ a,(b=w→P a)→bs (f a) Q):bs ((cH b w m).bind f) Q:=by
 unfold Gv.cH;by_cases hb:b=w
 ·rw [if_pos hb];exact(h hb).bind fun a bo=>k a fun _=>bo
 rw [if_neg hb];exact k default fun h=>absurd h hb
theorem bs.loop {σ ε β:Type}{body:σ→Option (σ ⊕ ε)}{f:ε→Option β}{P:β→Prop}{cF:σ}(m:Nat)(gf:Nat→σ→Prop)
 (hm:m<2 ^ 80) (bR:gf 0 cF)
 (hs:∀ k s,k<m→gf k s→bs (body s) (fun x=>match x with | .inl cw=>gf (k+1) cw | .inr e=>bs (f e) P))
 (he:∀ s,gf m s→ ∃ e,body s=some (.inr e)∧bs (f e) P):bs ((ey et body cF).bind f) P:=by
 obtain⟨e,h1,ad⟩:=O9 (Q:=fun e=>bs (f e) P) m gf hm bR (fun k s hk ar=>by
  obtain⟨r,h1,ad⟩:=hs k s hk ar;cases r with
  | inl cw=>exact .inl ⟨cw,h1,ad⟩
  | inr e=>exact .inr ⟨e,h1,ad⟩) he
 rw [h1];exact ad
theorem bs.sY {σ ε:Type}{body:σ→Option (σ ⊕ ε)}{P:ε→Prop}{cF:σ}(m:Nat)(gf:Nat→σ→Prop)
 (hm:m<2 ^ 80) (bR:gf 0 cF)
 (hs:∀ k s,k<m→gf k s→bs (body s) (fun x=>match x with | .inl cw=>gf (k+1) cw | .inr e=>P e))
 (he:∀ s,gf m s→bs (body s) (fun x=>match x with | .inl _=>False | .inr e=>P e)):bs (ey et body cF) P:=by
 obtain⟨e,h1,ad⟩:=O9 (Q:=P) m gf hm bR (fun k s hk ar=>by
  obtain⟨r,h1,ad⟩:=hs k s hk ar;cases r with
  | inl cw=>exact .inl ⟨cw,h1,ad⟩
  | inr e=>exact .inr ⟨e,h1,ad⟩) fun s ar=>by
  obtain⟨r,h1,ad⟩:=he s ar;cases r with
  | inl cw=>exact ad.elim
  | inr e=>exact⟨e,h1,ad⟩
 exact⟨e,h1,ad⟩
theorem bs.idx {β:Type}{n:Nat}{i:Int}{k:Nat}{f:Nat→Option β}{Q:β→Prop}(ar:i=k)(hk:k<n)(h:bs (f k) Q):bs ((Gv.idx n i).bind f) Q:=by
 subst ar;have:Gv.idx n (k:Int)=some k:=by unfold Gv.idx;rw [if_pos (by omega)];simp
 rw [this];exact h
theorem ig {α:Type}[Inhabited α]{n:Nat}(v:Vector α n){k:Nat}(x:α)(hk:k<n)(j:Nat):bF (dr v k x) j=if j=k then x else bF v j:=by
 unfold bF dr;by_cases h:j=k
 ·subst h;simp [hk]
 rw [if_neg h,Vector.getElem?_setIfInBounds_ne (by omega)]
theorem FW {α:Type}[Inhabited α]{n:Nat}{v w:Vector α n}(h:∀ j,j<n→bF v j=bF w j):v=w:=by
 apply Vector.ext;intro i ar;have:=h i ar;simpa [bF,ar] using this
theorem Fu {α:Type}[Inhabited α]{n:Nat}(j:Nat):bF (default:Vector α n) j=default:=by
 show bF (Vector.replicate n default) j=default;unfold bF;by_cases h:j<n <;> simp [h]
theorem pa {n k:Nat}(h:k<n):idx n (k:Int)=some k:=by
 unfold idx;rw [if_pos (by omega)];simp
theorem wC {n:Nat}{i:Int}(h:0≤i)(df:i<n):idx n i=some i.toNat:=by
 unfold idx;rw [if_pos ⟨h,df⟩]
theorem e0 {k:Nat}(h:k<2 ^ 62):bE ((k:Int)+1)=((k+1:Nat):Int):=by
 rw [hN (by omega) (by omega)];simp
theorem pb {k:Nat}(h:k<2 ^ 64):(BitVec.ofInt 64 (k:Int)).toNat=k:=by
 simp;omega
theorem PT (x:BitVec 64):((x&&&1#64)==1#64)=x.getLsbD 0:=by
 rw [BitVec.and_one_eq_setWidth_ofBool_getLsbD];cases x.getLsbD 0 <;> rfl
theorem Y6 (x:BitVec 64)(n:Nat):(((x >>> n)&&&1#64)==1#64)=x.getLsbD n:=by
 rw [PT];simp
theorem OM (k j:Nat):((1#64) <<< k).getLsbD j=(decide (j=k)&&decide (j<64)):=by
 rw [BitVec.getLsbD_shiftLeft];by_cases h:j=k
 ·subst h;simp
 have:(1#64).getLsbD (j - k)=decide (j - k=0):=by
  rw [BitVec.getLsbD_one];simp
 rw [this];by_cases ad:j<k
 ·simp [ad,h]
 have: ¬ (j - k=0):=by omega
 simp [h,this]
theorem yP {α β:Type}[Inhabited α][Inhabited β](f:α→β){l:List α}{k:Nat}(hk:k<l.length):ay (l.map f) k=f (ay l k):=by
 rw [eU l hk,eU _ (by simpa using hk),List.getElem_map]
theorem oj {α:Type}[Inhabited α](l:List α){k:Nat}(hk:k<l.length):l.take (k+1)=l.take k++[ay l k]:=by
 rw [List.take_add_one,List.getElem?_eq_getElem hk,eU l hk];rfl
theorem PU {α:Type}[Inhabited α]{xs:List α}{p:α→Bool}{k:Nat}(hk:k<xs.length)(hp:p (ay xs k)=true)(aF:∀ j,j<k→p (ay xs j)=false):xs.find? p=some (ay xs k):=by
 rw [List.find?_eq_some_iff_getElem];refine⟨hp,k,hk,(eU xs hk).symm,fun j tx=>?_⟩;have:=aF j tx;rw [eU xs (by omega)] at this;simp [this]
theorem PV {α:Type}{xs:List α}{p:α→Bool}(h:∀ x∈xs,p x=false):xs.find? p=none:=
 List.find?_eq_none.2 fun x ao=>by simp [h x ao]
def ed {α:Type}(m:aA α)(P:α→Prop):Prop:= ∀ Q:α→Prop,(∀ r,P r→Q r)→m Q
theorem ed.run {α:Type}{m:aA α}{P:α→Prop}(h:ed m P):m P:=h P fun _ h=>h
theorem ed.ret {α:Type}{P:α→Prop}{x:α}(h:P x):ed (aA.ret x) P:=fun Q k=>k x h
theorem ed.bind {α β:Type}{m:aA α}{f:α→aA β}{P:α→Prop}{rm:β→Prop}(h:ed m P)(k:∀ r,P r→ed (f r) rm):ed (aA.bind m f) rm:=fun Q hq=>h _ fun r aR=>k r aR Q hq
theorem ed.of {α:Type}{o:Option α}{P:α→Prop}(h:bs o P):ed (aA.of o) P:=fun Q hq=>let⟨r,h1,ad⟩:=h; ⟨r,h1,hq r ad⟩
theorem ed.k5 {α β:Type}{o:Option α}{f:α→aA β}{P:α→Prop}{rm:β→Prop}(h:bs o P)(k:∀ r,P r→ed (f r) rm):ed (aA.bind (aA.of o) f) rm:= .bind (.of h) k
theorem ed.eq {α β:Type}{o:Option α}{a:α}{f:α→aA β}{rm:β→Prop}(h:o=some a)(k:ed (f a) rm):ed (aA.bind (aA.of o) f) rm:=fun Q hq=>⟨a,h,k Q hq⟩
theorem ed.mono {α:Type}{m:aA α}{P rm:α→Prop}(h:ed m P)(k:∀ r,P r→rm r):ed m rm:=fun Q hq=>h Q fun r aR=>hq r (k r aR)
theorem ed.cond {α:Type}{b:Bool}{m n:aA α}{P:α→Prop}(h1:b=true→ed m P)(ad:b=false→ed n P):ed (cond b m n) P:=by
 cases b
 ·exact ad rfl
 exact h1 rfl
theorem ed.cH {α β:Type}[Inhabited α]{b w:Bool}{m:Option α}{f:α→aA β}{P:α→Prop}{Q:β→Prop}(h:b=w→bs m P)(k:∀ a,(b=w→P a)→ed (f a) Q):ed (aA.bind (aA.of (cH b w m)) f) Q:=by
 unfold Gv.cH;by_cases hb:b=w
 ·rw [if_pos hb];exact .k5 (h hb) fun a bo=>k a fun _=>bo
 rw [if_neg hb];exact .eq rfl (k default fun h=>absurd h hb)
theorem ed.idx {β:Type}{n:Nat}{i:Int}{k:Nat}{f:Nat→aA β}{Q:β→Prop}(ar:i=k)(hk:k<n)(h:ed (f k) Q):ed (aA.bind (aA.of (Gv.idx n i)) f) Q:=by
 subst ar;exact .eq (pa hk) h
theorem ed.mk {cb β:Type}{hp:aY cb}{c:cb}{f:Nat×aY cb→aA β}{P:β→Prop}(k:∀ p,p ∉ fe hp→ed (f (p,(p,c)::hp)) P):ed (aA.bind (aA.mk hp c) f) P:=fun Q hq=>fun a bo=>by
 obtain⟨p,hp'⟩:=a;obtain⟨h1,ad⟩:=bo;simp only at h1 ad;subst ad;exact k p h1 Q hq
theorem ed.any {α β:Type}{f:α→aA β}{P:β→Prop}(k:∀ x,ed (f x) P):ed (aA.bind (aA.any α) f) P:=fun Q hq x=>k x Q hq
theorem ed.loop {σ ε:Type}{body:σ→aA (σ ⊕ ε)}{P:ε→Prop}{cF:σ}(m:Nat)(gf:Nat→σ→Prop)(hm:m<2 ^ 80)(bR:gf 0 cF)
 (hs:∀ k s,k<m→gf k s→ed (body s) (fun x=>match x with | .inl cw=>gf (k+1) cw | .inr e=>P e))
 (he:∀ s,gf m s→ed (body s) (fun x=>match x with | .inl _=>False | .inr e=>P e)):ed (p1 et body cF) P:=by
 have key:∀ n k s,k≤m→m - k<n→gf k s→ed (p1 n body s) P:=by
  intro n;induction n with
  | zero=>intro k s _ h;omega
  | succ n b7=>
    intro k s hk aO ar Q hq
    by_cases xF:k=m
    ·subst xF
     exact he s ar _ fun r aR=>by
      cases r with
      | inl cw=>exact aR.elim
      | inr e=>exact hq e aR
    exact hs k s (by omega) ar _ fun r aR=>by
     cases r with
     | inl cw=>exact b7 (k+1) cw (by omega) (by omega) aR Q hq
     | inr e=>exact hq e aR
 exact key et 0 cF (by omega) (by unfold et;omega) bR
theorem ui {cb:Type}{hp:aY cb}{p q:Nat}{k:cb} :pat ((p,k)::hp) q=if p=q then some k else pat hp q:=rfl
theorem Y7 {cb:Type}{hp:aY cb}{p:Nat}(h:p ∉ fe hp):pat hp p=none:=by
 cases e:pat hp p with
 | none=>rfl
 | some k=>exact absurd (la e) h
theorem wK {cb:Type}{hp:aY cb}{p:Nat}{k k':cb}(h:pat hp p=some k'):pat (dx hp p k) p=some k:=by rw [B2,if_pos rfl,h];rfl
theorem om {cb:Type}{hp:aY cb}{p q:Nat}{k:cb}(h:p≠q):pat (dx hp p k) q=pat hp q:=by rw [B2,if_neg h]
theorem BN {α β:Type}[DecidableEq α]{l:List (α×β)}{x y:α}{v:β} :eh (ht l x v) y=if y=x then some v else eh l y:=by
 induction l with
 | nil=>
   show(if y=x then some v else eh [] y)=_
   rfl
 | cons a r b7=>
   obtain⟨k,w⟩:=a
   simp only [ht]
   by_cases h:x=k
   ·rw [if_pos h]
    simp only [eh]
    by_cases ad:y=x
    ·simp [ad]
    simp [ad,show ¬ y=k from fun e=>ad (by rw [e,h])]
   rw [if_neg h]
   simp only [eh]
   by_cases ad:y=k
   ·subst ad;simp [show ¬ y=x from fun e=>h e.symm]
   rw [if_neg ad,b7,if_neg ad]
end Gv
namespace Go.Proofs.YtelbhaohleeijaaGreat
open Go Gv
def fF (b:Bool):Nat:=bif b then 1 else 0
def c4 (hp:aY Cell):Ref→List Bool→Ref
 | none,_=>none
 | some p,[]=>some p
 | some p,b::a1=>match cU hp p with
   | none=>none
   | some c=>c4 hp (bF c.db (fF b)) a1
theorem gQ {hp:aY Cell}{a1:List Bool} :c4 hp none a1=none:=by cases a1 <;> rfl
theorem mE {hp:aY Cell}{r:Ref} :c4 hp r []=r:=by cases r <;> rfl
theorem hW {hp:aY Cell}{p:Nat}{c:dX}{b:Bool}{a1:List Bool}(h:cU hp p=some c):c4 hp (some p) (b::a1)=c4 hp (bF c.db (fF b)) a1:=by
 show(match cU hp p with | none=>none | some c=>c4 hp (bF c.db (fF b)) a1)=_;rw [h]
theorem ma {hp:aY Cell} :∀ {r:Ref} {a1 cs:List Bool},c4 hp r (a1++cs)=c4 hp (c4 hp r a1) cs
 | none,a1,cs=>by rw [gQ,gQ,gQ]
 | some p,[],cs=>by rw [List.nil_append,mE]
 | some p,b::a1,cs=>by
   cases e:cU hp p with
   | none=>
     have h1:∀ xs,c4 hp (some p) (b::xs)=none:=fun xs=>by
      show(match cU hp p with | none=>none | some c=>c4 hp (bF c.db (fF b)) xs)=_;rw [e]
     rw [List.cons_append,h1,h1,gQ]
   | some c=>rw [List.cons_append,hW e,hW e,ma]
theorem ON {hp hp':aY Cell} :∀ {r:Ref} {a1:List Bool},(∀ p cs,c4 hp r cs=some p→cU hp' p=cU hp p)→c4 hp' r a1=c4 hp r a1
 | none,a1,_=>by rw [gQ,gQ]
 | some p,[],_=>rfl
 | some p,b::a1,h=>by
   have bR:=h p [] rfl;show(match cU hp' p with | none=>none | some c=>c4 hp' (bF c.db (fF b)) a1)=(match cU hp p with | none=>none | some c=>c4 hp (bF c.db (fF b)) a1);rw [bR];cases e:cU hp p with
   | none=>rfl
   | some c=>
     refine ON fun q cs hq=>h q (b::cs) ?_
     rw [hW e];exact hq
structure oB (hp:aY Cell)(root:Ref):Prop where
 reads:∀ a1 p,c4 hp root a1=some p→ ∃ c,cU hp p=some c
 inj:∀ a1 cs p,c4 hp root a1=some p→c4 hp root cs=some p→a1=cs
 dep:∀ a1 p,c4 hp root a1=some p→a1.length≤32
def cont (hp:aY Cell)(root:Ref)(a1:List Bool):Option Int:=match c4 hp root a1 with
 | none=>none
 | some p=>match cU hp p with
   | none=>none
   | some c=>bif c.e6 then some c.hQ else none
theorem kk {hp:aY Cell}{root:Ref}{a1:List Bool}{p:Nat}{c:dX}(h:c4 hp root a1=some p)(aj:cU hp p=some c):cont hp root a1=bif c.e6 then some c.hQ else none:=by
 unfold cont;rw [h];simp only [aj]
theorem kC {hp:aY Cell}{root:Ref}{a1:List Bool}(h:c4 hp root a1=none):cont hp root a1=none:=by
 unfold cont;rw [h]
theorem pO {hp:aY Cell}{p:Nat}{c:dX} :cU hp p=some c↔pat hp p=some (.gv c):=by
 refine⟨jz,fun h=>?_⟩;unfold cU;rw [h]
theorem sv {hp:aY Cell}{p:Nat}{c:fR} :ga hp p=some c↔pat hp p=some (.j9 c):=by
 refine⟨mF,fun h=>?_⟩;unfold ga;rw [h]
theorem wb {hp hp':aY Cell}{p:Nat}(h:pat hp' p=pat hp p):cU hp' p=cU hp p:=by unfold cU;rw [h]
theorem Fy {hp hp':aY Cell}{p:Nat}(h:pat hp' p=pat hp p):ga hp' p=ga hp p:=by unfold ga;rw [h]
structure fh (hp hp':aY Cell)(own:Nat→Prop):Prop where
 keys:∀ q,q∈fe hp→q∈fe hp'
 rest:∀ q,q∈fe hp→ ¬ own q→pat hp' q=pat hp q
theorem fh.refl {hp:aY Cell}{own:Nat→Prop} :fh hp hp own:=⟨fun _ h=>h,fun _ _ _=>rfl⟩
theorem fh.mk' {hp:aY Cell}{own:Nat→Prop}{a:Nat}{k:Cell}(bo:a ∉ fe hp):fh hp ((a,k)::hp) own:=
 ⟨fun q h=>List.mem_cons_of_mem _ h,fun q h _=>by rw [ui,if_neg (fun e:a=q=>bo (by rw [e];exact h))]⟩
theorem fh.up {hp:aY Cell}{own:Nat→Prop}{p:Nat}{k:Cell}(hp':own p):fh hp (dx hp p k) own:=
 ⟨fun q h=>by rw [wB];exact h,fun q h hq=>om (fun e:p=q=>hq (by rw [← e];exact hp'))⟩
theorem fh.trans {h1 ad aD:aY Cell}{own own':Nat→Prop}(a:fh h1 ad own)(b:fh ad aD own')(bk:∀ q,q∈fe h1→own' q→own q):fh h1 aD own:=
 ⟨fun q h=>b.keys q (a.keys q h),fun q h hq=>by rw [b.rest q (a.keys q h) fun df=>hq (bk q h df),a.rest q h hq]⟩
theorem Yf (b:Bool):bF (default:dX).db (fF b)=none:=by cases b <;> rfl
theorem OO {hp:aY Cell}{a:Nat}(h:cU hp a=some (default:dX)):∀ a1,c4 hp (some a) a1=if a1= [] then some a else none
 | []=>rfl
 | b::a1=>by rw [hW h,Yf,gQ];rfl
theorem Jh {hp hp':aY Cell}{root:Ref}{ws:List Bool}{b:Bool}{p a:Nat}{c:dX}(bP:oB hp root)(hw:c4 hp root ws=some p)(aj:cU hp p=some c)(aO:bF c.db (fF b)=none)(bo:cU hp a=none)
 (dd:cU hp' p=some { c with db:=dr c.db (fF b) (some a) }) (dq:cU hp' a=some default) (hB:∀ q,q≠p→q≠a→cU hp' q=cU hp q):
 ∀ (a1 us:List Bool) (q:Nat),c4 hp root us=some q→c4 hp' (some q) a1=if us++a1=ws++[b] then some a else c4 hp (some q) a1
 | [],us,q,hu=>by
   have: ¬ us++[]=ws++[b]:=fun e=>by
    rw [List.append_nil] at e;rw [e,ma,hw,hW aj,aO,gQ] at hu;cases hu
   rw [if_neg this];rfl
 | x::xs,us,q,hu=>by
   obtain⟨tP,oa⟩:=bP.reads us q hu;have mW:q≠a:=fun e=>by rw [e,bo] at oa;cases oa
   by_cases En:q=p
   ·subst En;have Ml:=bP.inj us ws q hu hw;subst Ml;rw [aj] at oa;cases oa;rw [hW dd,hW aj];simp only;have ct:fF b<2:=by cases b <;> decide
    rw [ig _ _ ct];by_cases xI:x=b
    ·subst xI;rw [if_pos rfl,aO,gQ,OO dq];by_cases h:xs= []
     ·subst h;rw [if_pos rfl,if_pos rfl]
     rw [if_neg h,if_neg fun e=>h ?_];have:=List.append_cancel_left e;simpa using this
    have da: ¬ fF x=fF b:=fun e=>xI (by cases x <;> cases b <;> first | rfl | cases e);have fU: ¬ us++x::xs=us++[b]:=fun e=>xI (by have:=List.append_cancel_left e;simpa using (List.cons.inj this).1);rw [if_neg da,if_neg fU];cases e:bF c.db (fF x) with
    | none=>rw [gQ,gQ]
    | some na=>
      have mU:c4 hp root (us++[x])=some na:=by rw [ma,hu,hW aj,e,mE]
      rw [Jh bP hw aj aO bo dd dq hB xs (us++[x]) na mU,List.append_assoc,List.singleton_append,if_neg fU]
   have h1:cU hp' q=some tP:=by rw [hB q En mW];exact oa
   rw [hW h1,hW oa];cases e:bF tP.db (fF x) with
   | none=>
     have fU: ¬ us++x::xs=ws++[b]:=fun aX=>by
      have agF:c4 hp root (us++[x])=none:=by rw [ma,hu,hW oa,e,gQ]
      rcases List.eq_nil_or_concat xs with rfl | ⟨ys,y,rfl⟩
      ·have:=(List.append_inj_left' aX rfl);subst this;rw [hu] at hw;cases hw;exact En rfl
      have aD:us++x::ys=ws:=by
       have:(us++x::ys)++[y]=ws++[b]:=by simpa using aX
       exact List.append_inj_left' this rfl
      rw [← aD,show us++x::ys=(us++[x])++ys by simp,ma,agF,gQ] at hw;cases hw
     rw [gQ,gQ,if_neg fU]
   | some na=>
     have mU:c4 hp root (us++[x])=some na:=by rw [ma,hu,hW oa,e,mE]
     rw [Jh bP hw aj aO bo dd dq hB xs (us++[x]) na mU,List.append_assoc,List.singleton_append]
theorem grow {hp hp':aY Cell}{r:Nat}{ws:List Bool}(hd:ws.length<32){b:Bool}{p a:Nat}{c:dX}(bP:oB hp (some r))(hw:c4 hp (some r) ws=some p)(aj:cU hp p=some c)(aO:bF c.db (fF b)=none)(bo:cU hp a=none)
 (dd:cU hp' p=some { c with db:=dr c.db (fF b) (some a) }) (dq:cU hp' a=some default) (hB:∀ q,q≠p→q≠a→cU hp' q=cU hp q):
 oB hp' (some r)∧ (∀ a1,c4 hp' (some r) a1=if a1=ws++[b] then some a else c4 hp (some r) a1)∧ ∀ a1,cont hp' (some r) a1=cont hp (some r) a1:=by
 have bb:∀ a1,c4 hp' (some r) a1=if a1=ws++[b] then some a else c4 hp (some r) a1:=fun a1=>Jh bP hw aj aO bo dd dq hB a1 [] r rfl
 have HG:∀ a1,c4 hp (some r) a1≠some a:=fun a1 h=>by
  obtain⟨c,h1⟩:=bP.reads a1 a h;rw [bo] at h1;cases h1
 have Mm:c4 hp (some r) (ws++[b])=none:=by rw [ma,hw,hW aj,aO,gQ]
 refine⟨⟨fun a1 q h=>?_,fun a1 cs q h1 ad=>?_,fun a1 q h=>?_⟩,bb,fun a1=>?_⟩
 ·rw [bb] at h
  split at h
  ·cases h;exact⟨_,dq⟩
  obtain⟨ke,h1⟩:=bP.reads a1 q h
  by_cases e:q=p
  ·subst e;exact⟨_,dd⟩
  exact⟨ke,by rw [hB q e fun aX=>HG a1 (aX ▸ h)];exact h1⟩
 ·rw [bb] at h1 ad
  split at h1 <;> split at ad
  ·rename_i aw aX;rw [aw,aX]
  ·cases h1;exact absurd ad (HG cs)
  ·cases ad;exact absurd h1 (HG a1)
  exact bP.inj a1 cs q h1 ad
 ·rw [bb] at h
  split at h
  ·rename_i e;rw [e];simp;omega
  exact bP.dep a1 q h
 by_cases e:a1=ws++[b]
 ·subst e
  rw [kC Mm,kk (by rw [bb,if_pos rfl]) dq];rfl
 have xJ:c4 hp' (some r) a1=c4 hp (some r) a1:=by rw [bb,if_neg e]
 cases h:c4 hp (some r) a1 with
 | none=>rw [kC h,kC (xJ.trans h)]
 | some q=>
   obtain⟨ke,h1⟩:=bP.reads a1 q h
   by_cases eq:q=p
   ·subst eq
    rw [aj] at h1;cases h1
    rw [kk h aj,kk (xJ.trans h) dd]
   rw [kk h h1,kk (xJ.trans h) (by rw [hB q eq fun aX=>HG a1 (aX ▸ h)];exact h1)]
theorem BW {hp hp':aY Cell}{p:Nat}{c ke:dX}(aj:cU hp p=some c)(nz:cU hp' p=some ke)(he:ke.db=c.db)(h:∀ q,q≠p→cU hp' q=cU hp q):∀ (a1:List Bool) (r:Ref),c4 hp' r a1=c4 hp r a1
 | a1,none=>by rw [gQ,gQ]
 | [],some q=>rfl
 | b::a1,some q=>by
   by_cases e:q=p
   ·subst e;rw [hW aj,hW nz,he];exact BW aj nz he h a1 _
   cases aX:cU hp q with
   | none=>
     show(match cU hp' q with | none=>none | some c=>c4 hp' (bF c.db (fF b)) a1)=(match cU hp q with | none=>none | some c=>c4 hp (bF c.db (fF b)) a1)
     rw [h q e,aX]
   | some d=>rw [hW aX,hW (by rw [h q e];exact aX)];exact BW aj nz he h a1 _
theorem Ty {hp hp':aY Cell}{root:Ref}{ws:List Bool}{p:Nat}{c ke:dX}(bP:oB hp root)(hw:c4 hp root ws=some p)(aj:cU hp p=some c)(nz:cU hp' p=some ke)(he:ke.db=c.db)(h:∀ q,q≠p→cU hp' q=cU hp q):
 oB hp' root∧ ∀ a1,cont hp' root a1=if a1=ws then(bif ke.e6 then some ke.hQ else none) else cont hp root a1:=by
 have bb:=BW aj nz he h
 refine⟨⟨fun a1 q hq=>?_,fun a1 cs q h1 ad=>bP.inj a1 cs q (by rw [← bb];exact h1) (by rw [← bb];exact ad),fun a1 q hq=>bP.dep a1 q (by rw [← bb];exact hq)⟩,fun a1=>?_⟩
 ·rw [bb] at hq
  obtain⟨d,h1⟩:=bP.reads a1 q hq
  by_cases e:q=p
  ·subst e;exact⟨_,nz⟩
  exact⟨d,by rw [h q e];exact h1⟩
 by_cases e:a1=ws
 ·subst e;rw [if_pos rfl,kk (by rw [bb];exact hw) nz]
 rw [if_neg e]
 cases h1:c4 hp root a1 with
 | none=>rw [kC h1,kC (by rw [bb];exact h1)]
 | some q=>
   obtain⟨d,ad⟩:=bP.reads a1 q h1
   have En:q≠p:=fun aX=>e (bP.inj a1 ws p (aX ▸ h1) hw)
   rw [kk h1 ad,kk (by rw [bb];exact h1) (by rw [h q En];exact ad)]
theorem iJ {α:Type}{b:Nat}(xs ys:List α)(h:xs.length+ys.length≤1000000)(hb:b≤100000):hf b xs ys=some (xs++ys):=by
 unfold hf;rw [if_pos];unfold maxLen;refine⟨Nat.le_trans (Nat.mul_le_mul h hb) (by omega),by omega⟩
def hh (c:aV):Prop:=0≤c.ta∧c.ch.length≤1000
theorem JA (l:List (BitVec 8))(n:Int)(bR:0≤n)(h1:n≤1000):bs (vY l n) hh:=by
 unfold vY;refine .eq (a:=(l.drop 0).take ((min (l.length:Int) n).toNat - 0)) ?_ (.ret ⟨Int.le_refl 0,?_⟩)
 ·unfold qz;rw [if_pos ⟨by omega,by omega,by omega⟩];rfl
 simp only [List.length_take,List.length_drop];omega
theorem gp (c:aV)(n:Int)(aj:hh c)(aO:1≤n):bs (fQ c n) (fun r=>hh r.2∧0≤r.1∧r.1<n∧r.1<256):=by
 unfold fQ Fc;obtain⟨l,a⟩:=c;obtain⟨bR,h1⟩:=aj;simp only at bR h1;obtain⟨k,rfl⟩:=Int.eq_ofNat_of_zero_le bR;refine .eq rfl (.cond (fun _=>.ret ⟨⟨bR,h1⟩,by omega,by omega,by omega⟩) fun h=>?_);simp only [Bool.or_eq_false_iff,Bool.not_eq_false',decide_eq_true_eq,decide_eq_false_iff_not] at h;have aw:bE ((k:Int)+1)=((k+1:Nat):Int):=e0 (by omega);simp only [aw];have aX:bE (((k+1:Nat):Int) - 1)=(k:Int):=by rw [hN (by omega) (by omega)];omega
 rw [aX];refine .idx rfl (by omega) (.eq (by unfold u1;rw [if_neg (by omega)]) (.ret ⟨⟨by simp only;omega,h1⟩,?_,?_,?_⟩))
 ·exact Int.tmod_nonneg _ (by omega)
 ·exact Int.tmod_lt_of_pos _ (by omega)
 simp only;have aD:(ay l k).toNat<256:=(ay l k).isLt;obtain⟨m,rfl⟩:=Int.eq_ofNat_of_zero_le (show 0≤n by omega);have aZ:(((ay l k).toNat:Int)).tmod m=(((ay l k).toNat % m:Nat):Int):=(Int.ofNat_tmod _ _).symm;have bc:=Nat.mod_le (ay l k).toNat m;omega
theorem nL (c:aV)(aj:hh c):bs (lI c) (fun r=>hh r.2):=by
 unfold lI;exact .bind (gp c 2 aj (by omega)) fun y h=>.ret h.1
theorem Xw (c:aV)(aj:hh c):bs (AL c) (fun r=>hh r.2∧r.1.length=3):=by
 unfold AL;refine .bind (gp c 4 aj (by omega)) fun aE h1=>?_;refine .eq (wC h1.2.1 (by simpa using h1.2.2.1)) (.eq rfl (.eq rfl (.bind (nL _ h1.1) fun an ad=>?_)));refine .bind (P:=fun m=>hh m.1) (.cond (fun _=>?_) (fun _=>.ret ad)) fun m1 ck=>?_
 ·refine .bind (gp _ 2 ad (by omega)) fun cg bu=>.eq rfl (.bind (gp _ 4 bu.1 (by omega)) fun cA dh=>?_);exact .eq (wC dh.2.1 (by simpa using dh.2.2.1)) (.eq rfl (.eq (iJ _ _ (by simp) (by omega)) (.ret dh.1)))
 refine .bind (gp _ 4 ck (by omega)) fun br aD=>.eq (wC aD.2.1 (by simpa using aD.2.2.1)) (.eq rfl (.eq rfl ?_));refine .bind (gp _ 3 aD.1 (by omega)) fun cc aZ=>?_;refine .bind (P:=fun m=>hh m.1) (.cond (fun _=>?_) (fun _=>.ret aZ.1)) fun m2 dP=>.ret ⟨dP,rfl⟩;exact .bind (gp _ 3 aZ.1 (by omega)) fun bz bc=>.eq rfl (.ret bc.1)
def qG (a:eo):Int×List Int:=(a.bV,a.kV.map (·.fH))
def zN:List (Int×List Int):= [(1,[]),(2,[]),(3,[16]),(4,[4]),(5,[4,12]),(6,[])]
theorem Y8 {α β:Type}[Inhabited α](f:α→β)(l:List α)(k:Nat)(x:α)(h:f x=f (ay l k)):(ka l k x).map f=l.map f:=by
 unfold ka;apply List.ext_getElem
 ·simp
 intro i h1 ad;simp only [List.length_map,List.length_set] at h1;simp only [List.getElem_map,List.getElem_set];split
 ·rename_i e;subst e;rw [h,eU l h1]
 rfl
theorem FN {α β:Type}[Inhabited α](f:α→β){l:List α}{k:Nat}{x:α}{r:List β}(h:f x=f (ay l k))(al:l.map f=r):(ka l k x).map f=r:=(Y8 f l k x h).trans al
theorem Xb (c:aV)(aj:hh c):bs (AE c) (fun r=>hh r.2∧r.1.map qG=zN):=by
 unfold AE;refine .eq rfl (.eq rfl (.eq rfl (.eq rfl (.eq rfl (.eq rfl (.eq rfl (.eq rfl (.eq rfl (.eq rfl (.eq rfl (.eq rfl (.eq rfl ?_))))))))))));refine .bind (gp _ 2 aj (by omega)) fun aE h1=>.eq rfl (.bind (gp _ 256 h1.1 (by omega)) fun an ad=>.eq rfl (.eq rfl (.eq rfl ?_)));refine .bind (nL _ ad.1) fun br aD=>?_;refine .bind (P:=fun m=>m.map qG=zN) (.cond (fun _=>?_) (fun _=>.ret rfl)) fun m1 ck=>?_
 ·exact .idx (k:=2) rfl (by simp) (.eq rfl (.ret (FN qG rfl rfl)))
 refine .bind (nL _ aD) fun cc aZ=>.bind (P:=fun m=>m.map qG=zN) (.cond (fun _=>?_) (fun _=>.ret ck)) fun m2 dP=>.ret ⟨aZ,dP⟩;have al:m1.length=6:=by rw [← List.length_map (f:=qG),ck];rfl
 exact .idx (k:=4) rfl (by omega) (.eq rfl (.ret (FN qG rfl ck)))
def pH:cW:= { cI:=ByteArray.mk #[97],hr:=4,cO:=1 }
def si:cW:= { cI:=ByteArray.mk #[100],hr:=7,cO:=2 }
def EG:cW:= { cI:=ByteArray.mk #[109],hr:=3,cO:=1 }
def x0:cW:= { cI:=ByteArray.mk #[101],hr:=6,cO:=3 }
def xK:cW:= { cI:=ByteArray.mk #[97],hr:=4,cO:=3 }
def H2:cW:= { cI:=ByteArray.mk #[98],hr:=5,cO:=1 }
def x1:cW:= { cI:=ByteArray.mk #[102],hr:=8,cO:=4 }
def H3:cW:= { cI:=ByteArray.mk #[103],hr:=9,cO:=1 }
def oJ (t:bl):Int×List Int×List cW:=(t.bV,t.dN,t.b4)
def nm (b:Bool):List cW:=if b then [si,EG] else [si]
def w5 (b:Bool):List cW:=if b then [x0,xK,H2] else [x0,xK]
def w6 (b:Bool):List cW:=if b then [x1,H3,si] else [x1]
def rV (dM eC hK:Bool):List (Int×List Int×List cW):=
 [(1,[1,2,4],[pH]),(2,[1,2,3,4],nm dM),(3,[1,2,3,5,6],w5 eC),(4,[1,3,5],w6 hK)]
theorem Xx (c:aV)(aj:hh c):bs (AN c) (fun r=>hh r.2∧ (∀ x∈r.1.map (·.j6),2≤x∧x≤12)∧ ∃ dM eC hK,r.1.map oJ=rV dM eC hK):=by
 unfold AN;refine .eq rfl (.bind (gp _ 2 aj (by omega)) fun aE h1=>.bind (gp _ 5 h1.1 (by omega)) fun an ad=>.eq rfl (.eq rfl ?_));refine .bind (gp _ 6 ad.1 (by omega)) fun br aD=>.bind (nL _ aD.1) fun cc aZ=>?_;refine .bind (P:=fun m=>(m.1.bV=2∧m.1.dN= [1,2,3,4]∧m.1.j6=bE (3+br.1))∧ ∃ b,m.2=nm b) (.cond (fun _=>?_) (fun _=>.ret ⟨⟨rfl,rfl,rfl⟩,false,rfl⟩)) fun m1 ck=>?_
 ·exact .eq rfl (.eq (iJ _ _ (by simp) (by omega)) (.ret ⟨⟨rfl,rfl,rfl⟩,true,rfl⟩))
 refine .eq rfl (.eq rfl (.bind (gp _ 6 aZ (by omega)) fun bz bc=>.bind (nL _ bc.1) fun cg bu=>?_));refine .bind (P:=fun m=>(m.1.bV=3∧m.1.dN= [1,2,3,5,6]∧m.1.j6=bE (4+bz.1))∧ ∃ b,m.2=w5 b) (.cond (fun _=>?_) (fun _=>.ret ⟨⟨rfl,rfl,rfl⟩,false,rfl⟩)) fun m2 dP=>?_
 ·exact .eq rfl (.eq (iJ _ _ (by simp) (by omega)) (.ret ⟨⟨rfl,rfl,rfl⟩,true,rfl⟩))
 refine .eq rfl (.bind (gp _ 5 bu (by omega)) fun cA dh=>.bind (nL _ dh.1) fun cT fk=>?_);refine .bind (P:=fun m=>(m.1.bV=4∧m.1.dN= [1,3,5]∧m.1.j6=bE (3+cA.1))∧ ∃ b,m.2=w6 b) (.cond (fun _=>?_) (fun _=>.ret ⟨⟨rfl,rfl,rfl⟩,false,rfl⟩)) fun m3 gj=>?_
 ·exact .eq rfl (.eq rfl (.eq (iJ _ _ (by simp) (by omega)) (.ret ⟨⟨rfl,rfl,rfl⟩,true,rfl⟩)))
 refine .eq rfl (.eq rfl (.eq rfl (.eq rfl (.eq rfl ?_))));obtain⟨⟨dn,a2,a4⟩,dM,a3⟩:=ck;obtain⟨⟨c1,c2,oU⟩,eC,gV⟩:=dP;obtain⟨⟨d1,d2,d4⟩,hK,d3⟩:=gj;refine bs.loop 4 (fun k s=>s.1=(k:Int)∧s.2.1.map oJ=rV dM eC hK∧hh s.2.2∧s.2.1.map (·.j6)= [bE (2+an.1),bE (3+br.1),bE (4+bz.1),bE (3+cA.1)]) (by omega) ⟨rfl,?_,fk,?_⟩ (fun k s hk ar=>?_) (fun s ar=>?_)
 ·simp only [List.map_cons,List.map_nil,oJ,dn,a2,a3,c1,c2,gV,d1,d2,d3,rV];rfl
 ·simp only [List.map_cons,List.map_nil,a4,oU,d4]
 ·obtain⟨i,h0,x2⟩:=s;obtain⟨aw,aX,dc,gA⟩:=ar;simp only at aw aX dc gA;subst aw;refine bs.cond (fun _=>?_) (fun h=>by simp at h;omega);have al:h0.length=4:=by rw [← List.length_map (f:=oJ),aX];rfl
  refine .idx rfl (by simpa using hk) (.bind (gp _ 3 dc (by omega)) fun gW gz=>.eq (wC gz.2.1 ?_) (.idx rfl (by simp only;omega) (.eq rfl (.ret ⟨e0 (by omega),?_,gz.1,?_⟩))))
  ·have kO:=gz.2.2.1;have:k=0∨k=1∨k=2∨k=3:=by omega
   rcases this with rfl | rfl | rfl | rfl <;> exact kO
  ·exact FN oJ rfl aX
  exact FN bl.j6 rfl gA
 obtain⟨i,h0,x2⟩:=s;obtain⟨aw,aX,dc,gA⟩:=ar;simp only at aw aX dc gA;subst aw;refine⟨_,rfl,?_⟩;refine .ret ⟨dc,fun x ao=>?_,dM,eC,hK,aX⟩;rw [gA] at ao;have g2:=ad.2;have g3:=aD.2;have g5:=bc.2;have g7:=dh.2;simp only [List.mem_cons,List.not_mem_nil,or_false] at ao;rcases ao with rfl | rfl | rfl | rfl <;> (rw [hN (by omega) (by omega)];omega)
theorem PW (n:Nat)(h:n≤1000):xt (α:=Bool) 1 (n:Int)=some (List.replicate n default):=by
 unfold xt;rw [if_pos ⟨by omega,by omega,by omega⟩];simp
theorem Yg (c:aV)(h0:List bl)(aj:hh c)(al:h0.length≤1000)(hk:∀ t∈h0,t.b4.length≤1000):bs (A2 c h0) (fun r=>hh r.2∧r.1.map (·.bV)= [1,2,7]):=by
 unfold A2;refine .bind (gp _ 3 aj (by omega)) fun aE h1=>.bind (gp _ 6 h1.1 (by omega)) fun an ad=>.bind (gp _ 6 ad.1 (by omega)) fun br aD=>.bind (gp _ 4 aD.1 (by omega)) fun cc aZ=>?_;refine bs.loop h0.length (fun k s=>s.1=(k:Int)∧hh s.2.2.2.1∧s.2.2.1.length≤k∧s.2.2.2.2.2.1.length≤k∧s.2.2.2.2.2.2.2.length≤k∧s.2.1.bV=7∧s.2.2.2.2.1.bV=2∧s.2.2.2.2.2.2.1.bV=1) (by omega) ⟨rfl,aZ.1,by simp,by simp,by simp,rfl,rfl,rfl⟩ (fun k s jS ar=>?_) (fun s ar=>?_)
 ·obtain⟨i,jI,g1,x2,hA,g2,oW,g3⟩:=s;obtain⟨aw,aX,dc,gA,iF,i1,i2,i3⟩:=ar;simp only at aw aX dc gA iF i1 i2 i3;subst aw;refine bs.cond (fun _=>?_) (fun h=>by simp at h;omega);have Tz:(ay h0 k).b4.length≤1000:=hk _ (by rw [eU h0 jS];exact List.getElem_mem jS);refine .idx rfl jS (.eq (PW _ Tz) (.eq (PW _ Tz) ?_));refine bs.loop (ay h0 k).b4.length (fun j s=>s.1=(j:Int)∧s.2.1.length=(ay h0 k).b4.length∧s.2.2.1.length=(ay h0 k).b4.length∧hh s.2.2.2) (by omega) ⟨rfl,by simp,by simp,aX⟩ (fun j s aF ar=>?_) (fun s ar=>?_)
  ·obtain⟨i,dM,eC,agG⟩:=s;obtain⟨f1,f2,f3,f4⟩:=ar;simp only at f1 f2 f3 f4;subst f1;refine bs.cond (fun _=>?_) (fun h=>by simp at h;omega);exact .bind (gp _ 4 f4 (by omega)) fun cA dh=>.idx rfl (by simp only;omega) (.idx rfl (by simp only;omega) (.ret ⟨e0 (by omega),by simp [ka,f2],by simp [ka,f3],dh.1⟩))
  obtain⟨i,dM,eC,agG⟩:=s;obtain⟨f1,f2,f3,f4⟩:=ar;simp only at f1 f2 f3 f4;subst f1;refine⟨_,by simp;rfl,?_⟩;refine .eq rfl (.eq (iJ _ _ (by simp;omega) (by omega)) (.bind (gp _ 4 f4 (by omega)) fun gW gz=>?_));refine .bind (P:=fun m=>hh m.1∧m.2.2.length≤k+1∧m.2.1.bV=2) (.cond (fun _=>?_) (fun _=>.ret ⟨gz.1,by simp only;omega,i2⟩)) fun m1 ck=>?_
  ·exact .bind (gp _ 4 gz.1 (by omega)) fun kp HH=>.bind (nL _ HH.1) fun vd HI=>.eq rfl (.eq (iJ _ _ (by simp;omega) (by omega)) (.ret ⟨HI,by simp;omega,i2⟩))
  refine .bind (nL _ ck.1) fun dm kO=>?_;refine .bind (P:=fun m=>hh m.1∧m.2.2.length≤k+1∧m.2.1.bV=7) (.cond (fun _=>?_) (fun _=>.ret ⟨kO,by simp only;omega,i1⟩)) fun m2 dP=>?_
  ·exact .bind (nL _ kO) fun jm r9=>.bind (nL _ r9) fun c5 sa=>.eq rfl (.eq (iJ _ _ (by simp;omega) (by omega)) (.ret ⟨sa,by simp;omega,i1⟩))
  exact .ret ⟨e0 (by omega),dP.1,dP.2.1,ck.2.1,by simp;omega,dP.2.2,ck.2.2,i3⟩
 obtain⟨i,jI,g1,x2,hA,g2,oW,g3⟩:=s;obtain⟨aw,aX,dc,gA,iF,i1,i2,i3⟩:=ar;simp only at aw aX dc gA iF i1 i2 i3;subst aw;refine⟨_,by simp;rfl,?_⟩;exact .eq rfl (.eq rfl (.ret ⟨aX,by simp only [List.map_cons,List.map_nil,i1,i2,i3]⟩))
def Le:List (Int×Int):= [(1,16),(2,16),(3,8),(4,4),(5,4),(6,8),(7,32),(8,12),(9,4)]
def C4 (f:fV):Int×Int:=(f.bV,f.fH)
structure dj (s:aQ):Prop where
 fields:s.fS.map C4=Le
 headers:s.mA.length=3
 Q7:s.nc.length=3
 JB:s.dN.map qG=zN
 tables:∃ dM eC hK,s.bh.map oJ=rV dM eC hK
 SL:s.kj.map (·.bV)= [1,2,7]
 ahD:∀ x∈s.bh.map (·.j6),2≤x∧x≤12
theorem dj.afj {s:aQ}(h:dj s):s.kj.length=3:=by rw [← List.length_map (f:=(·.bV)),h.SL];rfl
theorem dj.rW {s:aQ}(h:dj s):s.fS.length=9:=by rw [← List.length_map (f:=C4),h.fields];rfl
theorem dj.lj {s:aQ}(h:dj s):s.bh.length=4:=by obtain⟨dM,eC,hK,h1⟩:=h.tables;rw [← List.length_map (f:=oJ),h1];rfl
theorem dj.Lf {s:aQ}(h:dj s):s.dN.length=6:=by rw [← List.length_map (f:=qG),h.JB];rfl
theorem Oq (c:aV)(aj:hh c):bs (ya c) (fun r=>dj r.1∧hh r.2):=by
 unfold ya;refine .bind (gp _ 8 aj (by omega)) fun aE h1=>.bind (gp _ 30 h1.1 (by omega)) fun an ad=>?_;refine .eq rfl (.eq rfl (.eq rfl (.eq rfl (.eq rfl (.eq rfl (.eq rfl (.eq rfl (.eq rfl (.eq rfl (.eq rfl (.eq rfl ?_)))))))))));refine .bind (Xw _ ad.1) fun br aD=>.bind (Xb _ aD.1) fun cc aZ=>.bind (Xx _ aZ.1) fun bz bc=>.eq rfl (.eq rfl ?_);obtain⟨agH,ev,dM,eC,hK,bc⟩:=bc;have al:bz.1.length=4:=by rw [← List.length_map (f:=oJ),bc];rfl
 have acZ:∀ t∈bz.1,t.b4.length≤1000:=fun t bP=>by
  have bu:oJ t∈rV dM eC hK:=bc ▸ List.mem_map_of_mem bP;have dh:∀ p∈rV dM eC hK,p.2.2.length≤1000:=by
   intro p hp;simp only [rV,List.mem_cons,List.not_mem_nil,or_false] at hp;rcases hp with rfl | rfl | rfl | rfl
   ·simp
   ·cases dM <;> simp [nm]
   ·cases eC <;> simp [w5]
   cases hK <;> simp [w6]
  exact dh _ bu
 refine .bind (Yg _ _ agH (by simp only;omega) acZ) fun cg bu=>.eq rfl (.bind (nL _ bu.1) fun cA dh=>?_);let Inv (s:aQ):Prop:=s.fS.map C4=Le∧s.mA.length=3∧s.nc.length=3∧s.dN.map qG=zN∧s.bh=bz.1∧s.kj.map (·.bV)= [1,2,7];have hinv:∀ (st:List gn) (UI:List fy) (s:aQ),Inv s→Inv { s with oq:=st,pe:=UI } :=fun st UI s h=>h;refine .bind (P:=fun _=>True) (.cond (fun _=>.eq (iJ _ _ (by simp) (by omega)) (.ret trivial)) (fun _=>.ret trivial)) fun m1 _=>?_;refine .bind (nL _ dh) fun cT fk=>?_;refine .bind (P:=fun m=>Inv m.1∧m.2.length≤10) (.cond (fun _=>.eq rfl (.eq (iJ _ _ (by simp) (by omega)) (.ret ⟨⟨rfl,rfl,aD.2,aZ.2,rfl,bu.2⟩,by simp⟩))) (fun _=>.ret ⟨⟨rfl,rfl,aD.2,aZ.2,rfl,bu.2⟩,by simp⟩)) fun m2 dP=>?_;refine .bind (nL _ fk) fun gW gz=>?_;refine .cH (P:=fun _=>True) (fun _=>⟨2,pa (k:=2) (by rw [dP.1.2.2.2.2.1];omega),trivial⟩) fun aJ _=>?_;refine .bind (P:=fun m=>Inv m.1∧m.2.length≤11) (.cond (fun _=>.eq rfl (.eq (iJ _ _ (by have:=dP.2;simp;omega) (by omega)) (.ret ⟨dP.1,by have:=dP.2;simp;omega⟩))) (fun _=>.ret ⟨dP.1,by have:=dP.2;simp only;omega⟩)) fun m3 gj=>?_;refine .bind (nL _ gz) fun dm kO=>?_;refine .cH (P:=fun _=>True) (fun _=>⟨3,pa (k:=3) (by rw [gj.1.2.2.2.2.1];omega),trivial⟩) fun bT _=>?_;refine .bind (P:=fun m=>Inv m.1∧m.2.length≤13) (.cond (fun _=>.eq rfl (.eq rfl (.eq (iJ _ _ (by have:=gj.2;simp;omega) (by omega)) (.ret ⟨gj.1,by have:=gj.2;simp;omega⟩)))) (fun _=>.ret ⟨gj.1,by have:=gj.2;simp only;omega⟩)) fun m4 DM=>?_;obtain⟨⟨i1,i2,i3,i4,i5,i6⟩,_⟩:=DM;exact .eq rfl (.ret ⟨⟨i1,i2,i3,i4,⟨dM,eC,hK,by simp only [i5];exact bc⟩,i6,by simp only [i5];exact ev⟩,kO⟩)
theorem PX (x:Int)(n:Int)(h1:1≤n)(ad:n≤1000000):bs (vZ x n) (fun r=>0≤r∧r<n):=by
 unfold vZ;refine .cond (fun h=>by simp at h;omega) fun _=>?_;have hm:∀ y:Int,u1 y n=some (y.tmod n):=fun y=>by unfold u1;rw [if_neg (by omega)]
 refine .eq (hm _) ?_;have aD:=Int.tmod_lt_of_pos x (show 0<n by omega);have aZ: -n<x.tmod n:=by
  have:=Int.tmod_lt_of_pos (-x) (show 0<n by omega);rw [Int.neg_tmod] at this;omega
 rw [hN (by omega) (by omega)];exact .eq (hm _) (.ret ⟨Int.tmod_nonneg _ (by omega),Int.tmod_lt_of_pos _ (by omega)⟩)
def cx (v:au)(i:Nat):Bool:=if i<64 then v.bS.getLsbD i else v.cZ.getLsbD (i - 64)
theorem za {v w:au}(h:∀ j,j<128→cx v j=cx w j):v=w:=by
 cases v with | mk ahp ahq=>cases w with | mk ahr wl=>
 have h1:ahp=ahr:=by
  apply BitVec.eq_of_getLsbD_eq;intro i ar;have:=h (i+64) (by omega);simpa [cx,show ¬ (i+64<64) by omega] using this
 have ad:ahq=wl:=by
  apply BitVec.eq_of_getLsbD_eq;intro i ar;have:=h i (by omega);simpa [cx,ar] using this
 rw [h1,ad]
theorem B3 (j:Nat):cx default j=false:=by
 unfold cx;split <;> exact BitVec.getLsbD_zero
def tf (x y:au):au:= { cZ:=x.cZ&&&y.cZ,bS:=x.bS&&&y.bS }
def Uc (x y:au):au:= { cZ:=x.cZ|||y.cZ,bS:=x.bS|||y.bS }
def Lg (x y:au):au:= { cZ:=x.cZ ^^^ y.cZ,bS:=x.bS ^^^ y.bS }
@[simp] theorem wD (x y:au) (j:Nat):cx (tf x y) j=(cx x j&&cx y j):=by unfold cx tf;split <;> simp
@[simp] theorem ahz (x y:au) (j:Nat):cx (Uc x y) j=(cx x j||cx y j):=by unfold cx Uc;split <;> simp
@[simp] theorem ZU (x y:au) (j:Nat):cx (Lg x y) j=(cx x j ^^ cx y j):=by unfold cx Lg;split <;> simp
theorem and_eq (x y:au):uc x y=some (tf x y):=rfl
theorem xor_eq (x y:au):BD x y=some (Lg x y):=rfl
theorem yX (x:au):bs (ru x) (fun r=> ∀ j,j<128→bF r j=cx x j):=by
 unfold ru;refine bs.loop 64 (fun k s=>s.1=k∧ ∀ j,j<128→bF s.2 j=(decide (j % 64<k)&&cx x j)) (by omega)
  ⟨rfl,fun j aF=>by simp [Fu]⟩ (fun k s hk ar=>?_) (fun s ar=>?_)
 ·obtain⟨i,v⟩:=s;obtain⟨h1,ad⟩:=ar;simp only at h1 ad;subst h1;have aw:bE ((k:Int)+64)=((k+64:Nat):Int):=by rw [hN (by omega) (by omega)];simp
  refine bs.cond (fun _=>?_) (fun h=>by simp at h;omega);refine bs.idx rfl (show k<128 by omega) (.eq rfl (.idx aw (show k+64<128 by omega) (.eq rfl (.ret ⟨e0 (by omega),fun j aF=>?_⟩))));simp only [ig _ _ (show k<128 by omega),ig _ _ (show k+64<128 by omega),pb (show k<2 ^ 64 by omega),Y6,ad j aF];by_cases qa:j=k+64
  ·subst qa;have h1:(k+64) % 64<k+1:=by omega
   have ad: ¬ (k+64<64):=by omega
   simp only [cx,h1,ad,if_true,if_false,decide_true,Bool.true_and,Nat.add_sub_cancel]
  by_cases lv:j=k
  ·subst lv;have:j % 64<j+1:=by omega
   simp [cx,this,hk]
  rw [if_neg qa,if_neg lv];congr 1;rw [decide_eq_decide];omega
 obtain⟨i,v⟩:=s;obtain⟨h1,ad⟩:=ar;simp only at h1 ad;subst h1;refine⟨_,rfl,.ret fun j aF=>?_⟩;have:j % 64<64:=by omega
 simp [ad j aF,this]
theorem ZV (x:Vector Bool 128):bs (Bx x) (fun r=> ∀ j,j<128→cx r j=bF x j):=by
 unfold Bx;refine bs.loop 64 (fun k s=>s.1=k∧ ∀ j,j<128→cx s.2 j=(decide (j % 64<k)&&bF x j)) (by omega)
  ⟨rfl,fun j aF=>by simp [B3]⟩ (fun k s hk ar=>?_) (fun s ar=>?_)
 ·obtain⟨i,v⟩:=s;obtain⟨h1,ad⟩:=ar;simp only at h1 ad;subst h1;have aw:bE ((k:Int)+64)=((k+64:Nat):Int):=by rw [hN (by omega) (by omega)];simp
  refine bs.cond (fun _=>?_) (fun h=>by simp at h;omega);refine bs.idx rfl (show k<128 by omega) (.bind (P:=fun w=> ∀ j,j<128→cx w j=(cx v j||(bF x k&&decide (j=k)))) (.cond (fun hb=>.ret fun j aF=>?_) (fun hb=>.ret fun j aF=>by simp [hb])) fun w hw=>?_)
  ·simp only [cx,pb (show k<2 ^ 64 by omega),BitVec.getLsbD_or,OM,hb,Bool.true_and];split
   ·rename_i h;simp [h]
   have:j≠k:=by omega
   simp [this]
  refine .idx aw (show k+64<128 by omega) (.bind (P:=fun u=> ∀ j,j<128→cx u j=(cx w j||(bF x (k+64)&&decide (j=k+64)))) (.cond (fun hb=>.ret fun j aF=>?_) (fun hb=>.ret fun j aF=>by simp [hb])) fun u hu=>.ret ⟨e0 (by omega),fun j aF=>?_⟩)
  ·simp only [cx,pb (show k<2 ^ 64 by omega),BitVec.getLsbD_or,OM,hb,Bool.true_and];split
   ·have:j≠k+64:=by omega
    simp [this]
   have:(j - 64=k)↔j=k+64:=by omega
   have bu:j - 64<64:=by omega
   simp [this,bu]
  simp only [hu j aF,hw j aF,ad j aF];by_cases qa:j=k+64
  ·subst qa;simp [Nat.mod_eq_of_lt hk]
  by_cases lv:j=k
  ·subst lv;have h1:j % 64<j+1:=by omega
   have ad: ¬ (j % 64<j):=by omega
   simp [h1,ad]
  have h1:(j % 64<k+1)↔j % 64<k:=by omega
  simp [h1,qa,lv]
 obtain⟨i,v⟩:=s;obtain⟨h1,ad⟩:=ar;simp only at h1 ad;subst h1;refine⟨_,rfl,.ret fun j aF=>?_⟩;have:j % 64<64:=by omega
 simp [ad j aF,this]
theorem Yh (x y:au):bs (BC x y) (fun r=>r=tf x y):=by
 unfold BC;refine(yX x).bind fun a bo=>(yX y).bind fun b hb=>?_;refine bs.loop 128 (fun k s=>s.1=k∧ ∀ j,j<128→bF s.2 j=(cx x j&&(decide (k≤j)||cx y j))) (by omega)
  ⟨rfl,fun j aF=>by simp [bo j aF]⟩ (fun k s hk ar=>?_) (fun s ar=>?_)
 ·obtain⟨i,v⟩:=s;obtain⟨h1,ad⟩:=ar;simp only at h1 ad;subst h1;refine bs.cond (fun _=>?_) (fun h=>by simp at h;omega);refine .idx rfl hk (.cH (P:=fun q=>q=k) (fun _=>⟨k,pa hk,rfl⟩) fun q hq=>.idx rfl hk (.ret ⟨e0 (by omega),fun j aF=>?_⟩));simp only [ig _ _ hk];by_cases qa:j=k
  ·subst qa;have aD:=ad j aF;have aZ: ¬ (j+1≤j):=by omega
   cases a6:bF v j
   ·simp [a6] at aD;simp [aD,aZ]
   simp [a6] at aD;rw [hq a6,hb j aF];simp [aD,aZ]
  have aZ:(k+1≤j)↔k≤j:=by omega
  simp [qa,ad j aF,aZ]
 obtain⟨i,v⟩:=s;obtain⟨h1,ad⟩:=ar;simp only at h1 ad;subst h1;refine⟨_,rfl,(ZV v).bind fun r aR=>.ret (za fun j aF=>?_)⟩;have: ¬ (128≤j):=by omega
 simp [aR j aF,ad j aF,this]
theorem Pa (v:au)(n:Nat)(aO:n<2 ^ 62):bs (yF v n) (fun r=> ∀ j,j<128→cx r j=cx v (j+n)):=by
 unfold yF;refine .cond (fun h=>.ret fun j aF=>?_) (fun h=>.cond (fun df=>.eq rfl (.ret fun j aF=>?_)) (fun df=>.eq rfl (.eq rfl (.ret fun j aF=>?_))))
 ·have:n=0:=by simp at h;omega
  simp [this]
 ·simp only [decide_eq_true_eq] at df;have aw:bE ((n:Int) - 64)=((n - 64:Nat):Int):=by rw [hN (by omega) (by omega)];omega
  rw [aw,pb (by omega)];unfold cx;by_cases aF:j<64
  ·rw [if_pos aF,if_neg (by omega)];simp only [BitVec.getLsbD_ushiftRight];congr 1;omega
  rw [if_neg aF,if_neg (by omega)];rw [show(default:au).cZ=0#64 from rfl,BitVec.getLsbD_zero,BitVec.getLsbD_of_ge _ _ (by omega)]
 simp only [decide_eq_false_iff_not] at h df;have aw:bE (64 - (n:Int))=((64 - n:Nat):Int):=by rw [hN (by omega) (by omega)];omega
 rw [aw,pb (by omega),pb (by omega)];unfold cx;by_cases aF:j<64
 ·rw [if_pos aF];simp only [BitVec.getLsbD_or,BitVec.getLsbD_ushiftRight,BitVec.getLsbD_shiftLeft];by_cases aD:j+n<64
  ·rw [if_pos aD];have:j<64 - n:=by omega
   simp [this,Nat.add_comm]
  rw [if_neg aD,BitVec.getLsbD_of_ge _ (n+j) (by omega)];have: ¬ (j<64 - n):=by omega
  simp only [aF,this,decide_true,decide_false,Bool.true_and,Bool.not_false,Bool.false_or];congr 1;omega
 rw [if_neg aF,if_neg (by omega)];simp only [BitVec.getLsbD_ushiftRight];congr 1;omega
theorem aaJ (v:au)(i:Int):bs (v8 v i) (fun r=>r=(decide (0≤i∧i<128)&&cx v i.toNat)):=by
 unfold v8;refine .cH (P:=fun r=> ∀ j,j<128→cx r j=cx v (j+i.toNat)) (fun h=>?_) fun y a7=>.eq rfl (.ret ?_)
 ·simp at h;obtain⟨n,rfl⟩:=Int.eq_ofNat_of_zero_le h.1;exact Pa v n (by omega)
 by_cases h:0≤i∧i<128
 ·have h1:(decide (i≥0)&&decide (i<128))=true:=by simp;omega
  rw [h1,PT];have:=a7 h1 0 (by omega);rw [show cx y 0=y.bS.getLsbD 0 from rfl,Nat.zero_add] at this;rw [this,decide_eq_true h]
 have h1:(decide (i≥0)&&decide (i<128))=false:=by simp;omega
 simp [h1,h]
theorem ZW (x y:au):bs (BD x y) (fun r=> ∀ j,j<128→cx r j=(cx x j ^^ cx y j)):=⟨_,xor_eq x y,fun j _=>ZU x y j⟩
theorem JC (n:Int):bs (vW n) (fun r=> ∀ j,j<128→cx r j=decide ((j:Int)<n)):=by
 unfold vW yB;refine .eq rfl (.eq rfl ?_);have hm:bE (128 - min (max 0 n) 128)=((128 - min (max 0 n) 128).toNat:Int):=by rw [hN (by omega) (by omega)];omega
 rw [hm];refine(Pa _ _ (by omega)).bind fun r aR=>.ret fun j aF=>?_;rw [aR j aF];have k2:∀ i,cx { cZ:=18446744073709551615#64,bS:=18446744073709551615#64 } i=decide (i<128):=by
  intro i;have bk:(18446744073709551615#64)=BitVec.allOnes 64:=by rfl
  unfold cx;simp only [bk,BitVec.getLsbD_allOnes];by_cases h:i<64
  ·simp [h];omega
  simp [h];omega
 rw [k2,decide_eq_decide];omega
def rX:List Int:= [16,16,8,4,4,8,32,12,4]
theorem dj.tz {s:aQ}(h:dj s){k:Nat}(hk:k<9):(ay s.fS k).bV=(k:Int)+1∧ (ay s.fS k).fH=ay rX k:=by
 have h1:=yP C4 (l:=s.fS) (k:=k) (by rw [h.rW];exact hk);rw [h.fields] at h1;have ad:ay Le k=((k:Int)+1,ay rX k):=by
  have:k=0∨k=1∨k=2∨k=3∨k=4∨k=5∨k=6∨k=7∨k=8:=by omega
  rcases this with rfl | rfl | rfl | rfl | rfl | rfl | rfl | rfl | rfl <;> rfl
 rw [ad] at h1;simp only [C4,Prod.mk.injEq] at h1;exact⟨h1.1.symm,h1.2.symm⟩
def u7:List (List Int):= [[],[],[16],[4],[4,12],[]]
theorem dj.act {s:aQ}(h:dj s){k:Nat}(hk:k<6):(ay s.dN k).bV=(k:Int)+1∧ (ay s.dN k).kV.map (·.fH)=ay u7 k:=by
 have h1:=yP qG (l:=s.dN) (k:=k) (by rw [h.Lf];exact hk);rw [h.JB] at h1;have ad:ay zN k=((k:Int)+1,ay u7 k):=by
  have:k=0∨k=1∨k=2∨k=3∨k=4∨k=5:=by omega
  rcases this with rfl | rfl | rfl | rfl | rfl | rfl <;> rfl
 rw [ad] at h1;simp only [qG,Prod.mk.injEq] at h1;exact⟨h1.1.symm,h1.2.symm⟩
def km (key:cW):Prop:= ∃ j:Nat,j<9∧key.hr=(j:Int)+1∧1≤key.cO∧key.cO≤4∧4≤ay rX j∧ay rX j≤32∧ (key.cO=2→j=6)
def fv (key:cW):Int:=ay rX (key.hr - 1).toNat
theorem dj.jD {s:aQ}(h:dj s){k:Nat}(hk:k<4):(ay s.bh k).bV=(k:Int)+1∧
 (1≤ (ay s.bh k).b4.length∧ (ay s.bh k).b4.length≤3)∧ (∀ key∈ (ay s.bh k).b4,km key)∧
 (1≤ (ay s.bh k).dN.length∧ (ay s.bh k).dN.length≤5)∧ (∀ a∈ (ay s.bh k).dN,1≤a∧a≤6):=by
 obtain⟨dM,eC,hK,bP⟩:=h.tables
 have h1:=yP oJ (l:=s.bh) (k:=k) (by rw [h.lj];exact hk)
 rw [bP] at h1
 have ad:∀ p:Int×List Int×List cW,p=oJ (ay s.bh k)→p.1=(k:Int)+1→ (1≤p.2.2.length∧p.2.2.length≤3)→ (∀ key∈p.2.2,km key)→
  (1≤p.2.1.length∧p.2.1.length≤5)→ (∀ a∈p.2.1,1≤a∧a≤6)→ (ay s.bh k).bV=(k:Int)+1∧
  (1≤ (ay s.bh k).b4.length∧ (ay s.bh k).b4.length≤3)∧ (∀ key∈ (ay s.bh k).b4,km key)∧
  (1≤ (ay s.bh k).dN.length∧ (ay s.bh k).dN.length≤5)∧ (∀ a∈ (ay s.bh k).dN,1≤a∧a≤6):=by
  rintro p rfl a b c d e
  exact⟨a,b,c,d,e⟩
 have a0:(1≤ ([1,2,4]:List Int).length∧ ([1,2,4]:List Int).length≤5)∧ ∀ a∈ ([1,2,4]:List Int),1≤a∧a≤6:=by decide
 have dn:(1≤ ([1,2,3,4]:List Int).length∧ ([1,2,3,4]:List Int).length≤5)∧ ∀ a∈ ([1,2,3,4]:List Int),1≤a∧a≤6:=by decide
 have a2:(1≤ ([1,2,3,5,6]:List Int).length∧ ([1,2,3,5,6]:List Int).length≤5)∧ ∀ a∈ ([1,2,3,5,6]:List Int),1≤a∧a≤6:=by decide
 have a3:(1≤ ([1,3,5]:List Int).length∧ ([1,3,5]:List Int).length≤5)∧ ∀ a∈ ([1,3,5]:List Int),1≤a∧a≤6:=by decide
 have ac0:km pH:=⟨3,by decide,rfl,by decide,by decide,by decide,by decide,by decide⟩
 have Q8:km xK:=⟨3,by decide,rfl,by decide,by decide,by decide,by decide,by decide⟩
 have ac1:km H2:=⟨4,by decide,rfl,by decide,by decide,by decide,by decide,by decide⟩
 have KL:km si:=⟨6,by decide,rfl,by decide,by decide,by decide,by decide,by decide⟩
 have ac2:km EG:=⟨2,by decide,rfl,by decide,by decide,by decide,by decide,by decide⟩
 have SM:km x0:=⟨5,by decide,rfl,by decide,by decide,by decide,by decide,by decide⟩
 have SN:km x1:=⟨7,by decide,rfl,by decide,by decide,by decide,by decide,by decide⟩
 have ac3:km H3:=⟨8,by decide,rfl,by decide,by decide,by decide,by decide,by decide⟩
 have:k=0∨k=1∨k=2∨k=3:=by omega
 rcases this with rfl | rfl | rfl | rfl
 ·refine ad _ h1 rfl (show 1≤ [pH].length∧ [pH].length≤3 by decide) ?_ a0.1 a0.2
  intro key kn
  rcases List.mem_singleton.1 kn with rfl
  exact ac0
 ·refine ad _ h1 rfl ?_ ?_ dn.1 dn.2
  ·show 1≤ (nm dM).length∧ (nm dM).length≤3
   cases dM <;> decide
  intro key kn
  replace kn:key∈nm dM:=kn
  cases dM <;> simp only [nm,List.mem_cons,List.not_mem_nil,or_false,if_true,if_false,Bool.false_eq_true] at kn
  ·subst kn;exact KL
  rcases kn with rfl | rfl;exact KL;exact ac2
 ·refine ad _ h1 rfl ?_ ?_ a2.1 a2.2
  ·show 1≤ (w5 eC).length∧ (w5 eC).length≤3
   cases eC <;> decide
  intro key kn
  replace kn:key∈w5 eC:=kn
  cases eC <;> simp only [w5,List.mem_cons,List.not_mem_nil,or_false,if_true,if_false,Bool.false_eq_true] at kn
  ·rcases kn with rfl | rfl;exact SM;exact Q8
  rcases kn with rfl | rfl | rfl;exact SM;exact Q8;exact ac1
 refine ad _ h1 rfl ?_ ?_ a3.1 a3.2
 ·show 1≤ (w6 hK).length∧ (w6 hK).length≤3
  cases hK <;> decide
 intro key kn
 replace kn:key∈w6 hK:=kn
 cases hK <;> simp only [w6,List.mem_cons,List.not_mem_nil,or_false,if_true,if_false,Bool.false_eq_true] at kn
 ·subst kn;exact SN
 rcases kn with rfl | rfl | rfl;exact SN;exact ac3;exact KL
theorem Xy {s:aQ}(h:dj s){j:Nat}(aF:j<9):bs (Bp s ((j:Int)+1)) (fun r=>r=ay rX j):=by
 unfold Bp;have al:=h.rW;refine bs.loop j (fun k s=>s=(k:Int)) (by omega) rfl (fun k i hk ar=>?_) (fun i ar=>?_)
 ·subst ar;refine bs.cond (fun _=>?_) (fun h=>by simp at h;omega);refine .idx rfl (by omega) (.cond (fun aj=>?_) (fun aj=>.ret (e0 (by omega))));have:=(h.tz (show k<9 by omega)).1;simp only [this,beq_iff_eq] at aj;omega
 subst ar;have h1:decide ((j:Int)<(s.fS.length:Int))=true:=by simp;omega
 have ad:((ay s.fS j).bV==(j:Int)+1)=true:=by rw [(h.tz aF).1];simp
 rw [h1];simp only [cond_true];rw [pa (by omega)];simp only [Option.bind_some,ad,cond_true];exact⟨_,rfl,.ret (h.tz aF).2⟩
theorem Xc {s:aQ}(h:dj s){j:Nat}(aF:j<6):bs (Bg s ((j:Int)+1)) (fun r=>r=ay s.dN j):=by
 unfold Bg;have al:=h.Lf;refine bs.loop j (fun k s=>s=(k:Int)) (by omega) rfl (fun k i hk ar=>?_) (fun i ar=>?_)
 ·subst ar;refine bs.cond (fun _=>?_) (fun h=>by simp at h;omega);refine .idx rfl (by omega) (.cond (fun aj=>?_) (fun aj=>.ret (e0 (by omega))));have:=(h.act (show k<6 by omega)).1;simp only [this,beq_iff_eq] at aj;omega
 subst ar;have h1:decide ((j:Int)<(s.dN.length:Int))=true:=by simp;omega
 have ad:((ay s.dN j).bV==(j:Int)+1)=true:=by rw [(h.act aF).1];simp
 rw [h1];simp only [cond_true];rw [pa (by omega)];simp only [Option.bind_some,ad,cond_true];exact⟨_,rfl,.ret rfl⟩
theorem yQ {n:Nat}(aO:n<64)(j:Nat):(((1#64) <<< n) - 1#64).getLsbD j=decide (j<n):=by
 have h1:(((1#64) <<< n) - 1#64).toNat=2 ^ n - 1:=by
  have ad:((1#64) <<< n).toNat=2 ^ n:=by
   rw [BitVec.toNat_shiftLeft,BitVec.toNat_ofNat,Nat.shiftLeft_eq];have:=Nat.pow_lt_pow_right (show 1<2 by omega) aO;rw [show(1 % 2 ^ 64:Nat)=1 from rfl,Nat.one_mul];exact Nat.mod_eq_of_lt this
  have aD:1≤2 ^ n:=Nat.one_le_two_pow;have aZ:=Nat.pow_lt_pow_right (show 1<2 by omega) aO;rw [BitVec.toNat_sub,ad];simp only [BitVec.toNat_ofNat];omega
 rw [← BitVec.testBit_toNat,h1,Nat.testBit_two_pow_sub_one]
theorem J9 (x:au)(n:Int)(bR:0≤n)(h1:n<1000):bs (v7 x n) (fun r=> ∀ j,j<128→cx r j=(cx x j&&decide ((j:Int)<n))):=by
 unfold v7;obtain⟨m,rfl⟩:=Int.eq_ofNat_of_zero_le bR;refine .cond (fun h=>.ret fun j aF=>?_) fun h=>.cond (fun df=>.eq rfl (.ret fun j aF=>?_)) fun df=>.cond (fun Mn=>.ret fun j aF=>?_) fun Mn=>.eq rfl (.eq rfl (.ret fun j aF=>?_))
 ·simp only [decide_eq_true_eq] at h;have:decide ((j:Int)<(m:Int))=true:=by simp;omega
  rw [this,Bool.and_true]
 ·simp only [decide_eq_true_eq,decide_eq_false_iff_not] at h df;have e:bE ((m:Int) - 64)=((m - 64:Nat):Int):=by rw [hN (by omega) (by omega)];omega
  simp only [cx,e,pb (show m - 64<2 ^ 64 by omega),BitVec.getLsbD_and,yQ (show m - 64<64 by omega)];split
  ·have:decide ((j:Int)<(m:Int))=true:=by simp;omega
   rw [this,Bool.and_true]
  congr 1;rw [decide_eq_decide];omega
 ·simp only [decide_eq_true_eq] at Mn;have:decide ((j:Int)<(m:Int))=false:=by simp;omega
  rw [B3,this,Bool.and_false]
 simp only [decide_eq_true_eq,decide_eq_false_iff_not] at h df Mn;simp only [cx,pb (show m<2 ^ 64 by omega),BitVec.getLsbD_and,yQ (show m<64 by omega)];split
 ·congr 1;rw [decide_eq_decide];omega
 have:decide ((j:Int)<(m:Int))=false:=by simp;omega
 rw [this,Bool.and_false];exact BitVec.getLsbD_zero
theorem SO (w:BitVec 64)(j:Nat):cx { (default:au) with bS:=w } j=w.getLsbD j:=by
 unfold cx;split
 ·rfl
 rw [BitVec.getLsbD_of_ge w j (by omega)];exact BitVec.getLsbD_zero
structure nR (kind b:Int)(m:b5):Prop where
 off:m.ff=false→m=default
 HJ:kind=1→m.ff=true
 low:kind=1→ ∀ j,j<128→cx m.cM j=true→ (j:Int)<b
 ah1:kind=3→ ∀ j,j<128→cx m.fE j=true→ (j:Int)<b
 agI:kind=3→ ∀ j,j<128→cx m.cM j=true→cx m.fE j=true
 pre:0≤m.dK∧m.dK≤32
 HK:kind=2→m.ff=true→1≤m.dK
 Mo:kind≠2→m.dK=0
 hT:kind≠3→m.fE=default
 agJ:kind=3→m.ff=true→m.fE≠default
 q8:kind=4→m.ff=true→m.cM.cZ=m.jr.cZ∧m.cM.bS≤m.jr.bS
 Mp:kind=2→ ∀ j,j<128→cx m.cM j=true→32 - m.dK≤ (j:Int)∧j<32
 HL:kind≠4→m.jr=default
theorem G5:(0:Int)≤0∧ (0:Int)≤32:=⟨Int.le_refl 0,by decide⟩
theorem I4 {kind b:Int}(h:kind≠1):nR kind b default:=
 ⟨fun _=>rfl,fun k=>absurd k h,fun k=>absurd k h,fun _ j _ a6=>(by rw [show(default:b5).fE=default from rfl,B3] at a6;cases a6),
  fun _ j _ a6=>(by rw [show(default:b5).cM=default from rfl,B3] at a6;cases a6),
  G5,fun _ k=>(by cases k),fun _=>rfl,fun _=>rfl,fun _ k=>(by cases k),fun _ k=>(by cases k),
  fun _ j _ a6=>(by rw [show(default:b5).cM=default from rfl,B3] at a6;cases a6),fun _=>rfl⟩
theorem ZX {a x y:BitVec 64}(h1:a≤x)(ad:a≤y):a≤xe x y:=by
 unfold xe;split <;> assumption
theorem ZY {v:au}{b c:Int}(hb:0≤b∧b≤32)(aj:0≤c∧c<256)(a6:∀ j,j<128→cx v j=true→ (j:Int)<b):
 v.cZ=0#64∧v.bS≤xe (v.bS+BitVec.ofInt 64 c) (((1#64) <<< (BitVec.ofInt 64 b).toNat) - (1#64)):=by
 have eL:v.cZ=0#64:=by
  apply BitVec.eq_of_getLsbD_eq;intro i ar;have h:=a6 (64+i) (by omega);unfold cx at h;rw [if_neg (by omega),Nat.add_sub_cancel_left] at h;rw [BitVec.getLsbD_zero];cases ao:v.cZ.getLsbD i
  ·rfl
  have:=h ao;omega
 obtain⟨n,rfl⟩:=Int.eq_ofNat_of_zero_le hb.1
 have aO:n≤32:=by omega
 have Mb:(BitVec.ofInt 64 (n:Int)).toNat=n:=pb (by omega)
 rw [Mb]
 have SP:v.bS≤ ((1#64) <<< n) - 1#64:=by
  have hand:v.bS&&&(((1#64) <<< n) - 1#64)=v.bS:=by
   apply BitVec.eq_of_getLsbD_eq;intro i ar;rw [BitVec.getLsbD_and,yQ (by omega)];have h:=a6 i (by omega);unfold cx at h;rw [if_pos ar] at h;cases ao:v.bS.getLsbD i
   ·rfl
   have:=h ao;simp;omega
  rw [← hand];rw [BitVec.le_def,BitVec.toNat_and];exact Nat.and_le_right
 have vD:(((1#64) <<< n) - 1#64).toNat<2 ^ 33:=by
  have Eo:(((1#64) <<< n) - 1#64)&&&(((1#64) <<< 32) - 1#64)=(((1#64) <<< n) - 1#64):=by
   apply BitVec.eq_of_getLsbD_eq;intro i ar;rw [BitVec.getLsbD_and,yQ (by omega),yQ (by omega)];simp;omega
  rw [← Eo,BitVec.toNat_and];exact Nat.lt_of_le_of_lt Nat.and_le_right (by decide)
 refine⟨eL,ZX ?_ SP⟩
 rw [BitVec.le_def] at SP ⊢
 obtain⟨m,rfl⟩:=Int.eq_ofNat_of_zero_le aj.1
 rw [BitVec.toNat_add,pb (by omega),Nat.mod_eq_of_lt (by omega)]
 omega
theorem Y9 (x:BitVec 64){n:Int}(h1:1≤n)(ad:n≤32){i:Nat}(ar:i<128)
 (a6:cx { (default:au) with bS:=x&&&((((1#64) <<< (BitVec.ofInt 64 32).toNat) - (1#64)) - (((1#64) <<< (BitVec.ofInt 64 (bE (32 - n))).toNat) - (1#64))) } i=true):32 - n≤ (i:Int)∧i<32:=by
 rw [SO,BitVec.getLsbD_and,Bool.and_eq_true] at a6
 have aD:=a6.2
 obtain⟨k,hk⟩:=Int.eq_ofNat_of_zero_le (show 0≤32 - n by omega)
 have cS:k<32:=by omega
 have e:bE (32 - n)=(k:Int):=by rw [hk,hN (by omega) (by omega)]
 rw [e,pb (by omega)] at aD
 have Mq:i<64:=by
  rcases Nat.lt_or_ge i 64 with h | h
  ·exact h
  rw [BitVec.getLsbD_of_ge _ i h] at aD;cases aD
 have key:∀ (k:Fin 32) (i:Fin 64),((((1#64) <<< (BitVec.ofInt 64 32).toNat) - (1#64)) - (((1#64) <<< k.1) - (1#64))).getLsbD i.1=true→k.1≤i.1∧i.1<32:=by decide +kernel
 have:=key ⟨k,cS⟩ ⟨i,Mq⟩ aD
 simp only at this
 omega
theorem Yi (c:aV){s:aQ}(key:cW)(aj:hh c)(h:dj s)(hk:km key):
 bs (AZ c s key) (fun r=>hh r.2∧nR key.cO (fv key) r.1):=by
 obtain⟨j,aF,bb,aJ,gU,H4,agK,cS⟩:=hk
 have hb:fv key=ay rX j:=by unfold fv;rw [bb];congr 1;omega
 unfold AZ
 rw [bb]
 refine(Xy h aF).bind fun aE aw=>?_
 rw [hb]
 subst aw
 generalize ib:ay rX j=b at *
 refine .bind (gp _ 256 aj (by omega)) fun an ad=>.bind (gp _ 16 ad.1 (by omega)) fun br aD=>.eq rfl (.bind (gp _ 16 aD.1 (by omega)) fun cc aZ=>.eq rfl ?_)
 refine .bind (J9 _ b (by omega) (by omega)) fun bz bc=>?_
 refine .cond (fun q=>?_) fun q=>?_
 ·have q:key.cO=2:=by simpa using q
  refine .bind (gp _ 5 aZ.1 (by omega)) fun cg bu=>.cond (fun _=>?_) fun _=>.ret ⟨bu.1,I4 (by omega)⟩
  refine .bind (gp _ b bu.1 (by omega)) fun cA dh=>.bind (gp _ 5 dh.1 (by omega)) fun cT fk=>?_
  refine .eq (wC fk.2.1 (by simpa using fk.2.2.1)) ?_
  have jC:1≤ay [b,8,16,1,bE (1+cA.1)] cT.1.toNat∧ay [b,8,16,1,bE (1+cA.1)] cT.1.toNat≤32:=by
   have ct:cT.1.toNat<[b,8,16,1,bE (1+cA.1)].length:=by have:=fk.2.1;have:=fk.2.2.1;simp;omega
   have hm:=List.getElem_mem ct;rw [← eU _ ct] at hm;have hw:bE (1+cA.1)=1+cA.1:=hN (by have:=dh.2.1;omega) (by have:=dh.2.2.1;omega);have:=dh.2.1;have:=dh.2.2.1;simp only [List.mem_cons,List.not_mem_nil,or_false] at hm;rcases hm with hm | hm | hm | hm | hm <;> rw [hm] <;> omega
  unfold Fp
  refine .eq rfl (.eq rfl (.eq rfl (.ret ⟨fk.1,fun h=>(by cases h),fun h=>(by omega),fun h=>by omega,fun h=>(by omega),fun h=>(by omega),⟨by have:=jC.1;show 0≤ay _ _;omega,jC.2⟩,fun _ _=>jC.1,fun h=>absurd q h,fun _=>rfl,fun h=>(by omega),fun h=>(by omega),fun _ i ar a6=>?_,fun _=>rfl⟩)))
  have Eo:b=32:=by rw [← ib,cS q];rfl
  rw [Eo] at jC a6
  rw [Eo]
  exact Y9 _ jC.1 jC.2 ar a6
 refine .cond (fun bt=>?_) fun bt=>?_
 ·have bt:key.cO=3:=by simpa using bt
  refine .bind (gp _ 256 aZ.1 (by omega)) fun dm kO=>.bind (gp _ 5 kO.1 (by omega)) fun jm r9=>?_
  refine .eq (wC r9.2.1 (by simpa using r9.2.2.1)) (.eq rfl (.bind (J9 _ b (by omega) (by omega)) fun c5 sa=>?_))
  refine .cond (fun Mr=>?_) fun _=>.ret ⟨r9.1,I4 (by omega)⟩
  refine .eq rfl (.eq rfl (.ret ⟨r9.1,fun h=>(by cases h),fun h=>(by omega),fun h=>by omega,fun _ i ar a6=>?_,fun _ i ar a6=>?_,G5,fun h=>(by omega),fun _=>rfl,fun h=>absurd bt h,fun _ _ hd=>?_,fun h=>(by omega),fun h=>(by omega),fun _=>rfl⟩))
  ·have tA:=sa i ar
   simp only at a6
   rw [a6] at tA
   have:=tA.symm
   simp only [Bool.and_eq_true,decide_eq_true_eq] at this
   exact this.2
  ·simp only at a6 ⊢
   rw [SO,BitVec.getLsbD_and,Bool.and_eq_true] at a6
   have Mq:i<64:=by
    rcases Nat.lt_or_ge i 64 with h | h
    ·exact h
    rw [BitVec.getLsbD_of_ge _ i h] at a6;cases a6.1
   unfold cx;rw [if_pos Mq];exact a6.2
  have hd':c5=default:=hd
  rw [hd'] at Mr;simp at Mr
  exact Mr rfl
 refine .cond (fun fD=>?_) fun fD=>?_
 ·have fD:key.cO=4:=by simpa using fD
  refine .bind (gp _ 256 aZ.1 (by omega)) fun jP tA=>.eq rfl (.bind (gp _ 5 tA.1 (by omega)) fun kp HH=>.eq rfl (.cond (fun _=>?_) fun _=>.ret ⟨HH.1,I4 (by omega)⟩))
  have xL:=ZY (v:=bz) (b:=b) (c:=jP.1) ⟨by omega,agK⟩ ⟨tA.2.1,tA.2.2.1⟩ fun i ar a6=>by
   have HI:=bc i ar;rw [a6] at HI;have:=HI.symm;simp only [Bool.and_eq_true,decide_eq_true_eq] at this;exact this.2
  exact .eq rfl (.ret ⟨HH.1,fun h=>(by cases h),fun h=>(by omega),fun h=>by omega,fun h=>(by omega),fun h=>(by omega),G5,fun h=>(by omega),fun _=>rfl,fun _=>rfl,fun h=>(by omega),fun _ _=>xL,fun h=>(by omega),fun h=>absurd fD h⟩)
 have aq:key.cO=1:=by
  simp only [beq_eq_false_iff_ne] at q bt fD;omega
 refine .eq rfl (.ret ⟨aZ.1,fun h=>(by cases h),fun _=>rfl,fun _ i ar a6=>?_,fun h=>(by omega),fun h=>(by omega),G5,fun h=>(by omega),fun _=>rfl,fun _=>rfl,fun h=>(by omega),fun h=>(by omega),fun h=>(by omega),fun _=>rfl⟩)
 have tA:=bc i ar
 simp only at a6
 rw [a6] at tA
 have:=tA.symm
 simp only [Bool.and_eq_true,decide_eq_true_eq] at this
 exact this.2
structure il (s:aQ)(k:Nat)(e:bd):Prop where
 jD:e.dB=(k:Int)+1
 len:e.bY.length=(ay s.bh k).b4.length
 tB:∀ i,i<(ay s.bh k).b4.length→nR (ay (ay s.bh k).b4 i).cO (fv (ay (ay s.bh k).b4 i)) (ay e.bY i)
 args:e.hX.length≤10
 pri:(∀ i,i<(ay s.bh k).b4.length→ (ay (ay s.bh k).b4 i).cO≤2)→e.fG=0
theorem I5 {α:Type}[Inhabited α](l:List α)(x:α)(i:Nat):ay (l++[x]) i=if i=l.length then x else ay l i:=by
 unfold ay;by_cases h:i=l.length
 ·subst h;simp
 rw [if_neg h];rcases Nat.lt_or_ge i l.length with h1 | h1
 ·rw [List.getElem?_append_left h1]
 rw [List.getElem?_eq_none (by simp;omega),List.getElem?_eq_none h1]
theorem Yj (c:aV){s:aQ}(x:Int)(aj:hh c)(h:dj s):
 bs (A0 c s x) (fun r=>hh r.2∧ ∃ k:Nat,k<4∧vZ x (s.bh.length:Int)=some (k:Int)∧il s k r.1):=by
 unfold A0
 obtain⟨aE,aw,bR,h1⟩:=PX x (s.bh.length:Int) (by rw [h.lj];omega) (by rw [h.lj];omega)
 obtain⟨k,rfl⟩:=Int.eq_ofNat_of_zero_le bR
 have hk:k<4:=by have:=h.lj;omega
 obtain⟨t1,⟨t2,t3⟩,t4,⟨t5,t6⟩,t7⟩:=h.jD hk
 refine .eq aw (.idx rfl (by have:=h.lj;omega) ?_)
 refine bs.loop (ay s.bh k).b4.length (fun i st=>st.1=(i:Int)∧st.2.1.dB=(k:Int)+1∧st.2.2.1.length=i∧hh st.2.2.2∧
  (∀ j,j<i→nR (ay (ay s.bh k).b4 j).cO (fv (ay (ay s.bh k).b4 j)) (ay st.2.2.1 j))∧ ((∀ j,j<i→ (ay (ay s.bh k).b4 j).cO≤2)→st.2.1.fG=0)) (by omega) ⟨rfl,t1,rfl,aj,fun j aF=>by omega,fun _=>rfl⟩ (fun i st ar hs=>?_) (fun st hs=>?_)
 ·obtain⟨EH,e,ms,x2⟩:=st;obtain⟨aX,dc,gA,iF,kT,EI⟩:=hs
  simp only at aX dc gA iF kT EI;subst aX
  refine bs.cond (fun _=>?_) (fun h=>by simp at h;omega)
  refine .idx rfl ar (.bind (Yi _ _ iF h (t4 _ (by rw [eU _ ar];exact List.getElem_mem ar))) fun an ad=>.eq (iJ _ _ (by simp;omega) (by omega)) (.eq rfl ?_))
  refine .bind (P:=fun m=>m.1.dB=(k:Int)+1∧hh m.2∧ ((ay (ay s.bh k).b4 i).cO≤2→m.1.fG=e.fG)) (.cond (fun dS=>.bind (gp _ 5 ad.1 (by omega)) fun cc aZ=>.eq rfl (.ret ⟨dc,aZ.1,fun h=>by simp at dS;omega⟩)) (fun _=>.ret ⟨dc,ad.1,fun _=>rfl⟩)) fun m1 ck=>?_
  refine .ret ⟨e0 (by omega),ck.1,by simp;omega,ck.2.1,fun j aF=>?_,fun h=>?_⟩
  ·simp only [I5]
   by_cases lv:j=ms.length
   ·rw [if_pos lv];rw [lv,gA];exact ad.2
   rw [if_neg lv];exact kT j (by omega)
  exact(ck.2.2 (h i (by omega))).trans (EI fun j aF=>h j (by omega))
 obtain⟨EH,e,ms,x2⟩:=st;obtain⟨aX,dc,gA,iF,kT,EI⟩:=hs
 simp only at aX dc gA iF kT EI;subst aX
 refine⟨_,by simp;rfl,?_⟩
 refine .bind (gp _ _ iF (by omega)) fun bz bc=>?_
 refine .eq (wC bc.2.1 bc.2.2.1) (.eq rfl ?_)
 have bo:1≤ay (ay s.bh k).dN bz.1.toNat∧ay (ay s.bh k).dN bz.1.toNat≤6:=t7 _ (by
  have ct:bz.1.toNat<(ay s.bh k).dN.length:=by have:=bc.2.1;have:=bc.2.2.1;omega
  rw [eU _ ct];exact List.getElem_mem ct)
 obtain⟨a,gk⟩:=Int.eq_ofNat_of_zero_le (show 0≤ay (ay s.bh k).dN bz.1.toNat - 1 by omega)
 have agL:ay (ay s.bh k).dN bz.1.toNat=(a:Int)+1:=by omega
 simp only [agL]
 refine .bind (Xc h (show a<6 by omega)) fun cg bu=>?_
 obtain⟨aK,aP⟩:=h.act (show a<6 by omega)
 rw [← bu] at aP
 have hp:cg.kV.length≤10∧ ∀ i,i<cg.kV.length→0≤ (ay cg.kV i).fH∧ (ay cg.kV i).fH<1000:=by
  have hq:∀ l∈u7,l.length≤10∧ ∀ b∈l,0≤b∧b<1000:=by decide
  have hm:ay u7 a∈u7:=by rw [eU u7 (show a<u7.length by simp [u7];omega)];exact List.getElem_mem _
  obtain⟨aq,dJ⟩:=hq _ hm;rw [← aP] at aq dJ;refine⟨by simpa using aq,fun i ar=>dJ _ ?_⟩;rw [eU _ ar];exact List.mem_map.2 ⟨_,List.getElem_mem ar,rfl⟩
 refine bs.loop cg.kV.length (fun i st=>st.1=(i:Int)∧st.2.1.dB=(k:Int)+1∧st.2.2.1.length=i∧hh st.2.2.2∧st.2.1.fG=e.fG) (by omega) ⟨rfl,dc,rfl,bc.1,rfl⟩ (fun i st ar hs=>?_) (fun st hs=>?_)
 ·obtain⟨EH,e',vs,agM⟩:=st;obtain⟨f2,f3,f4,f5,f6⟩:=hs
  simp only at f2 f3 f4 f5 f6;subst f2
  refine bs.cond (fun _=>?_) (fun h=>by simp at h;omega)
  refine .idx rfl ar (.bind (gp _ 256 f5 (by omega)) fun cA dh=>.eq rfl (.bind (J9 _ _ (hp.2 i ar).1 (hp.2 i ar).2) fun cT fk=>.eq (iJ _ _ (by have:=hp.1;simp;omega) (by omega)) (.ret ⟨e0 (by have:=hp.1;omega),f3,by simp;omega,dh.1,f6⟩)))
 obtain⟨EH,e',vs,agM⟩:=st;obtain⟨f2,f3,f4,f5,f6⟩:=hs
 simp only at f2 f3 f4 f5 f6;subst f2
 refine⟨_,by simp;rfl,?_⟩
 exact .eq rfl (.ret ⟨f5,k,hk,aw,f3,gA,kT,by show vs.length≤10;have:=hp.1;omega,fun h=>f6.trans (EI h)⟩)
structure ac4 (s:aQ)(r:Vector (List Int) 6):Prop where
 fields:bF r 0=s.fS.map (·.bV)
 headers:bF r 1=s.mA.map (·.bV)
 Q7:bF r 2=s.nc.map (·.bV)
 JB:bF r 3=s.dN.map (·.bV)
 tables:bF r 4=s.bh.map (·.bV)
 SL:bF r 5=s.kj.map (·.bV)
theorem Q9 {s:aQ}(h:dj s):bs (yM s) (ac4 s):=by
 unfold yM;have Al:=h.rW;have UE:=h.headers;have aik:=h.Q7;have ail:=h.Lf;have aim:=h.lj;have ain:=h.afj;refine bs.loop s.fS.length (fun k st=>st.1=(k:Int)∧st.2.1=(s.fS.take k).map (·.bV)) (by omega) ⟨rfl,rfl⟩ (fun k st hk ar=>?_) (fun st ar=>?_)
 ·obtain⟨i,a,v⟩:=st;obtain⟨aw,aX⟩:=ar;simp only at aw aX;subst aw;subst aX;refine bs.cond (fun _=>?_) (fun h=>by simp at h;omega);exact .idx rfl hk (.eq (iJ _ _ (by simp;omega) (by omega)) (.ret ⟨e0 (by omega),by rw [oj _ hk,List.map_append];rfl⟩))
 obtain⟨i,a0,v⟩:=st;obtain⟨aw,aX⟩:=ar;simp only at aw aX;subst aw;subst aX;refine⟨_,by simp only [show decide ((s.fS.length:Int)<(s.fS.length:Int))=false by simp,cond_false];rfl,?_⟩;refine bs.loop s.mA.length (fun k st=>st.1=(k:Int)∧st.2.1=(s.mA.take k).map (·.bV)) (by omega) ⟨rfl,rfl⟩ (fun k st hk ar=>?_) (fun st ar=>?_)
 ·obtain⟨i,a,v⟩:=st;obtain⟨aw,aX⟩:=ar;simp only at aw aX;subst aw;subst aX;refine bs.cond (fun _=>?_) (fun h=>by simp at h;omega);exact .idx rfl hk (.eq (iJ _ _ (by simp;omega) (by omega)) (.ret ⟨e0 (by omega),by rw [oj _ hk,List.map_append];rfl⟩))
 obtain⟨i,dn,v⟩:=st;obtain⟨aw,aX⟩:=ar;simp only at aw aX;subst aw;subst aX;refine⟨_,by simp only [show decide ((s.mA.length:Int)<(s.mA.length:Int))=false by simp,cond_false];rfl,?_⟩;refine bs.loop s.nc.length (fun k st=>st.1=(k:Int)∧st.2.1=(s.nc.take k).map (·.bV)) (by omega) ⟨rfl,rfl⟩ (fun k st hk ar=>?_) (fun st ar=>?_)
 ·obtain⟨i,a,v⟩:=st;obtain⟨aw,aX⟩:=ar;simp only at aw aX;subst aw;subst aX;refine bs.cond (fun _=>?_) (fun h=>by simp at h;omega);exact .idx rfl hk (.eq (iJ _ _ (by simp;omega) (by omega)) (.ret ⟨e0 (by omega),by rw [oj _ hk,List.map_append];rfl⟩))
 obtain⟨i,a2,v⟩:=st;obtain⟨aw,aX⟩:=ar;simp only at aw aX;subst aw;subst aX;refine⟨_,by simp only [show decide ((s.nc.length:Int)<(s.nc.length:Int))=false by simp,cond_false];rfl,?_⟩;refine bs.loop s.dN.length (fun k st=>st.1=(k:Int)∧st.2.1=(s.dN.take k).map (·.bV)) (by omega) ⟨rfl,rfl⟩ (fun k st hk ar=>?_) (fun st ar=>?_)
 ·obtain⟨i,a,v⟩:=st;obtain⟨aw,aX⟩:=ar;simp only at aw aX;subst aw;subst aX;refine bs.cond (fun _=>?_) (fun h=>by simp at h;omega);exact .idx rfl hk (.eq (iJ _ _ (by simp;omega) (by omega)) (.ret ⟨e0 (by omega),by rw [oj _ hk,List.map_append];rfl⟩))
 obtain⟨i,a3,v⟩:=st;obtain⟨aw,aX⟩:=ar;simp only at aw aX;subst aw;subst aX;refine⟨_,by simp only [show decide ((s.dN.length:Int)<(s.dN.length:Int))=false by simp,cond_false];rfl,?_⟩;refine bs.loop s.bh.length (fun k st=>st.1=(k:Int)∧st.2.1=(s.bh.take k).map (·.bV)) (by omega) ⟨rfl,rfl⟩ (fun k st hk ar=>?_) (fun st ar=>?_)
 ·obtain⟨i,a,v⟩:=st;obtain⟨aw,aX⟩:=ar;simp only at aw aX;subst aw;subst aX;refine bs.cond (fun _=>?_) (fun h=>by simp at h;omega);exact .idx rfl hk (.eq (iJ _ _ (by simp;omega) (by omega)) (.ret ⟨e0 (by omega),by rw [oj _ hk,List.map_append];rfl⟩))
 obtain⟨i,a4,v⟩:=st;obtain⟨aw,aX⟩:=ar;simp only at aw aX;subst aw;subst aX;refine⟨_,by simp only [show decide ((s.bh.length:Int)<(s.bh.length:Int))=false by simp,cond_false];rfl,?_⟩;refine bs.loop s.kj.length (fun k st=>st.1=(k:Int)∧st.2.1=(s.kj.take k).map (·.bV)) (by omega) ⟨rfl,rfl⟩ (fun k st hk ar=>?_) (fun st ar=>?_)
 ·obtain⟨i,a,v⟩:=st;obtain⟨aw,aX⟩:=ar;simp only at aw aX;subst aw;subst aX;refine bs.cond (fun _=>?_) (fun h=>by simp at h;omega);exact .idx rfl hk (.eq (iJ _ _ (by simp;omega) (by omega)) (.ret ⟨e0 (by omega),by rw [oj _ hk,List.map_append];rfl⟩))
 obtain⟨i,a5,v⟩:=st;obtain⟨aw,aX⟩:=ar;simp only at aw aX;subst aw;subst aX;refine⟨_,by simp only [show decide ((s.kj.length:Int)<(s.kj.length:Int))=false by simp,cond_false];rfl,?_⟩;refine .eq rfl (.ret ⟨?_,?_,?_,?_,?_,?_⟩)
 ·simp only [List.take_length];rw [ig _ _ (by omega),if_neg (by omega),ig _ _ (by omega),if_neg (by omega),ig _ _ (by omega),if_neg (by omega),ig _ _ (by omega),if_neg (by omega),ig _ _ (by omega),if_neg (by omega),ig _ _ (by omega),if_pos rfl]
 ·simp only [List.take_length];rw [ig _ _ (by omega),if_neg (by omega),ig _ _ (by omega),if_neg (by omega),ig _ _ (by omega),if_neg (by omega),ig _ _ (by omega),if_neg (by omega),ig _ _ (by omega),if_pos rfl]
 ·simp only [List.take_length];rw [ig _ _ (by omega),if_neg (by omega),ig _ _ (by omega),if_neg (by omega),ig _ _ (by omega),if_neg (by omega),ig _ _ (by omega),if_pos rfl]
 ·simp only [List.take_length];rw [ig _ _ (by omega),if_neg (by omega),ig _ _ (by omega),if_neg (by omega),ig _ _ (by omega),if_pos rfl]
 ·simp only [List.take_length];rw [ig _ _ (by omega),if_neg (by omega),ig _ _ (by omega),if_pos rfl]
 simp only [List.take_length];rw [ig _ _ (by omega),if_pos rfl]
theorem No {xs:List bl}{f:bl→Option Bool}{g:bl→Bool}(bb:∀ x∈xs,f x=some (g x))(al:xs.length<2 ^ 62):
 bs (Ar xs f) (fun r=>(r= -1∧ ∀ x∈xs,g x=false)∨ ∃ i:Nat,i<xs.length∧r=i∧g (ay xs i)=true∧ ∀ j,j<i→g (ay xs j)=false):=by
 unfold Ar
 refine bs.loop xs.length (fun k s=>s=(k:Int)∧ ∀ j,j<k→g (ay xs j)=false) (by omega) ⟨rfl,fun j aF=>by omega⟩ (fun k s hk ar=>?_) (fun s ar=>?_)
 ·obtain⟨aw,aX⟩:=ar;subst aw
  refine bs.cond (fun _=>?_) (fun h=>by simp at h;omega)
  refine .idx rfl hk (.eq (bb _ (by rw [eU xs hk];exact List.getElem_mem hk)) (.cond (fun h=>.ret ?_) (fun h=>.ret ⟨e0 (by omega),fun j aF=>?_⟩)))
  ·exact .ret (.inr ⟨k,hk,rfl,h,aX⟩)
  by_cases tx:j=k
  ·subst tx;exact h
  exact aX j (by omega)
 obtain⟨aw,aX⟩:=ar;subst aw
 refine⟨_,by simp;rfl,?_⟩
 refine .ret (.inl ⟨rfl,fun x ao=>?_⟩)
 obtain⟨j,aF,rfl⟩:=List.mem_iff_getElem.1 ao
 rw [← eU xs aF];exact aX j aF
theorem VU {xs:List fV}{f:fV→Option Bool}{g:fV→Bool}(bb:∀ x∈xs,f x=some (g x))(al:xs.length<2 ^ 62):
 bs (As xs f) (fun r=>(r= -1∧ ∀ x∈xs,g x=false)∨ ∃ i:Nat,i<xs.length∧r=i∧g (ay xs i)=true∧ ∀ j,j<i→g (ay xs j)=false):=by
 unfold As
 refine bs.loop xs.length (fun k s=>s=(k:Int)∧ ∀ j,j<k→g (ay xs j)=false) (by omega) ⟨rfl,fun j aF=>by omega⟩ (fun k s hk ar=>?_) (fun s ar=>?_)
 ·obtain⟨aw,aX⟩:=ar;subst aw
  refine bs.cond (fun _=>?_) (fun h=>by simp at h;omega)
  refine .idx rfl hk (.eq (bb _ (by rw [eU xs hk];exact List.getElem_mem hk)) (.cond (fun h=>.ret ?_) (fun h=>.ret ⟨e0 (by omega),fun j aF=>?_⟩)))
  ·exact .ret (.inr ⟨k,hk,rfl,h,aX⟩)
  by_cases tx:j=k
  ·subst tx;exact h
  exact aX j (by omega)
 obtain⟨aw,aX⟩:=ar;subst aw
 refine⟨_,by simp;rfl,?_⟩
 refine .ret (.inl ⟨rfl,fun x ao=>?_⟩)
 obtain⟨j,aF,rfl⟩:=List.mem_iff_getElem.1 ao
 rw [← eU xs aF];exact aX j aF
theorem N6 {s:aQ}(h:dj s){k:Nat}(hk:k<4):bs (tY s ((k:Int)+1)) (fun r=>r=(k:Int)):=by
 unfold tY;refine(No (g:=fun t=>t.bV==(k:Int)+1) (fun x ao=>rfl) (by rw [h.lj];omega)).bind fun r aR=>.ret ?_;have cS:k<s.bh.length:=by rw [h.lj];exact hk
 rcases aR with⟨_,aR⟩ | ⟨i,h1,ad,aD,aZ⟩
 ·have:=aR (ay s.bh k) (by rw [eU _ cS];exact List.getElem_mem cS);simp only [(h.jD hk).1,beq_self_eq_true] at this;cases this
 have bc:=(h.jD (show i<4 by have:=h.lj;omega)).1;simp only [bc,beq_iff_eq] at aD;omega
theorem N7 {s:aQ}(h:dj s){k:Nat}(hk:k<9):bs (yo s ((k:Int)+1)) (fun r=>r=(k:Int)):=by
 unfold yo;refine(VU (g:=fun t=>t.bV==(k:Int)+1) (fun x ao=>rfl) (by rw [h.rW];omega)).bind fun r aR=>.ret ?_;have cS:k<s.fS.length:=by rw [h.rW];exact hk
 rcases aR with⟨_,aR⟩ | ⟨i,h1,ad,aD,aZ⟩
 ·have:=aR (ay s.fS k) (by rw [eU _ cS];exact List.getElem_mem cS);simp only [(h.tz hk).1,beq_self_eq_true] at this;cases this
 have bc:=(h.tz (show i<9 by have:=h.rW;omega)).1;simp only [bc,beq_iff_eq] at aD;omega
theorem Pb (l:List Int){k:Nat}(hk:k<l.length)(al:l.length<2 ^ 30)(h:∀ j,j<l.length→ay l j=(j:Int)+1):bs (yE l ((k:Int)+1)) (fun r=>r=(k:Int)):=by
 unfold yE;refine bs.loop k (fun j s=>s=(j:Int)) (by omega) rfl (fun j i aF ar=>?_) (fun i ar=>?_)
 ·subst ar;refine bs.cond (fun _=>?_) (fun h=>by simp at h;omega);refine .idx rfl (by omega) (.cond (fun aj=>?_) (fun aj=>.ret (e0 (by omega))));rw [h j (by omega),beq_iff_eq] at aj;omega
 subst ar;have h1:decide ((k:Int)<(l.length:Int))=true:=by simp;omega
 have ad:(ay l k==(k:Int)+1)=true:=by rw [h k hk];simp
 rw [h1];simp only [cond_true];rw [pa (by omega)];simp only [Option.bind_some,ad,cond_true];exact⟨_,rfl,.ret rfl⟩
theorem N8 {s:aQ}(h:dj s){k:Nat}(hk:k<4):bs (yq s ((k:Int)+1)) (fun r=>r=(k:Int)):=by
 unfold yq;refine(Q9 h).bind fun y a7=>?_;have al:=h.lj;rw [a7.tables];refine(Pb _ (by simp;omega) (by simp;omega) fun j aF=>?_).bind fun r aR=>.ret aR;rw [yP _ (by simpa using aF)];exact(h.jD (by simp at aF;omega)).1
theorem Xd {s:aQ}(h:dj s){k:Nat}(hk:k<9):bs (Bh s ((k:Int)+1)) (fun r=>r=(k:Int)):=by
 unfold Bh;refine(Q9 h).bind fun y a7=>?_;have al:=h.rW;rw [a7.fields];refine(Pb _ (by simp;omega) (by simp;omega) fun j aF=>?_).bind fun r aR=>.ret aR;rw [yP _ (by simpa using aF)];exact(h.tz (by simp at aF;omega)).1
theorem GM {key:cW}{j:Nat}(h:key.hr=(j:Int)+1):fv key=ay rX j:=by unfold fv;rw [h];congr 1;omega
theorem Xz {s:aQ}(h:dj s){t:bl}{i:Nat}(ar:i<t.b4.length)(hk:km (ay t.b4 i)):bs (Bk s t (i:Int)) (fun r=>r=fv (ay t.b4 i)):=by
 obtain⟨j,aF,bb,_⟩:=hk;unfold Bk Fq;refine .idx rfl ar ?_;rw [GM bb,bb];refine .bind (P:=fun r=>r=ay rX j) ((Xd h aF).bind fun y a7=>.idx a7 (by rw [h.rW];exact aF) (.ret (h.tz aF).2)) fun y a7=>.ret a7
def lead (n k:Int)(j:Nat):Bool:=decide ((j:Int)<n)&&decide (n - max 0 (min k n)≤ (j:Int))
theorem Ot (n k:Int)(bR:0≤n)(h1:n≤128):bs (yt n k) (fun r=> ∀ j,j<128→cx r j=lead n k j):=by
 unfold yt yB;have e:min (max 0 n) 128=n:=by omega
 rw [e];have aX:bE (n - min (max 0 k) n)=n - min (max 0 k) n:=hN (by omega) (by omega);refine .eq rfl ((JC n).bind fun a bo=>?_);rw [aX];refine(JC _).bind fun b hb=>(ZW a b).bind fun r aR=>.ret fun j aF=>?_;rw [aR j aF,bo j aF,hb j aF];unfold lead;by_cases p:(j:Int)<n
 ·rw [decide_eq_true p];by_cases q:(j:Int)<n - min (max 0 k) n
  ·rw [decide_eq_true q,decide_eq_false (by omega)];rfl
  rw [decide_eq_false q,decide_eq_true (by omega)];rfl
 rw [decide_eq_false p,decide_eq_false (by omega)];rfl
theorem km.fv {key:cW}(h:km key):4≤Go.Proofs.YtelbhaohleeijaaGreat.fv key∧Go.Proofs.YtelbhaohleeijaaGreat.fv key≤32:=by
 obtain⟨j,aF,bb,_,_,h1,ad,_⟩:=h;rw [GM bb];exact⟨h1,ad⟩
theorem ZZ {v w:au} :decide (v=w)=true↔ ∀ j,j<128→cx v j=cx w j:=by
 rw [decide_eq_true_eq];exact⟨fun h j _=>by rw [h],za⟩
theorem Yk (c:aV)(aj:hh c):bs (AY c) (fun r=>hh r.2):=by
 unfold AY;refine bs.loop 4 (fun k st=>st.1=(k:Int)∧hh st.2.2) (by omega) ⟨rfl,aj⟩ (fun k st hk ar=>?_) (fun st ar=>?_)
 ·obtain⟨i,p,x2⟩:=st;obtain⟨aw,aX⟩:=ar;simp only at aw aX;subst aw;refine bs.cond (fun _=>?_) (fun h=>by simp at h;omega);refine .bind (gp _ 256 aX (by omega)) fun aE h1=>.eq rfl (.idx rfl hk (.bind (gp _ 4 h1.1 (by omega)) fun an ad=>?_));refine .bind (P:=fun m=>hh m.1) (.cond (fun _=>?_) fun _=>.ret ad.1) fun m1 ck=>.ret ⟨e0 (by omega),ck⟩;exact .idx rfl hk (.bind (gp _ 256 ad.1 (by omega)) fun br aD=>.eq rfl (.idx rfl hk (.eq rfl (.ret aD.1))))
 obtain⟨i,p,x2⟩:=st;obtain⟨aw,aX⟩:=ar;simp only at aw aX;subst aw;refine⟨_,rfl,?_⟩;exact .ret aX
def jU (a b:au):Bool:=decide (a.cZ<b.cZ)||(a.cZ==b.cZ&&decide (a.bS<b.bS))
theorem yY {a b:au} :jU a b=true↔a.cZ<b.cZ∨ (a.cZ=b.cZ∧a.bS<b.bS):=by simp [jU]
theorem ug (a:au):jU a a=false:=by simp [jU]
theorem yO {a b:au}(h:jU a b=true):jU b a=false:=by
 rw [Bool.eq_false_iff];intro ad;rw [yY] at h ad;simp only [BitVec.lt_def,BitVec.toNat_eq] at h ad;omega
theorem XA {x y i:Nat}(h1:x.testBit i=false)(ad:y.testBit i=true)(aD:∀ j,i<j→x.testBit j=y.testBit j):x<y:=by
 have aZ:x / 2 ^ (i+1)=y / 2 ^ (i+1):=Nat.eq_of_testBit_eq fun j=>by
  rw [Nat.testBit_div_two_pow,Nat.testBit_div_two_pow];exact aD _ (by omega)
 rw [Nat.testBit_eq_decide_div_mod_eq] at h1 ad;simp only [decide_eq_false_iff_not,decide_eq_true_eq] at h1 ad;rw [Nat.pow_succ,← Nat.div_div_eq_div_mul,← Nat.div_div_eq_div_mul] at aZ;have bc:x / 2 ^ i<y / 2 ^ i:=by omega
 exact Nat.lt_of_div_lt_div bc
theorem PY {x y:BitVec 64}{i:Nat}(h1:x.getLsbD i=false)(ad:y.getLsbD i=true)(aD:∀ j,i<j→j<64→x.getLsbD j=y.getLsbD j):x<y:=by
 rw [BitVec.lt_def];refine XA h1 ad fun j aF=>?_;by_cases lv:j<64
 ·exact aD j aF lv
 show x.getLsbD j=y.getLsbD j;rw [BitVec.getLsbD_of_ge _ _ (by omega),BitVec.getLsbD_of_ge _ _ (by omega)]
theorem Pc {a b:au}{i:Nat}(ar:i<128)(h1:cx a i=false)(ad:cx b i=true)(aD:∀ j,i<j→j<128→cx a j=cx b j):jU a b=true:=by
 rw [yY];by_cases h:i<64
 ·right;unfold cx at h1 ad;rw [if_pos h] at h1 ad;constructor
  ·apply BitVec.eq_of_getLsbD_eq;intro j aF;have:=aD (j+64) (by omega) (by omega);unfold cx at this;rw [if_neg (by omega),if_neg (by omega)] at this;simpa using this
  refine PY h1 ad fun j aF lv=>?_;have:=aD j aF (by omega);unfold cx at this;rwa [if_pos lv,if_pos lv] at this
 left;unfold cx at h1 ad;rw [if_neg h] at h1 ad;refine PY h1 ad fun j aF lv=>?_;have:=aD (j+64) (by omega) (by omega);unfold cx at this;rw [if_neg (by omega),if_neg (by omega)] at this;simpa using this
theorem Ou (a b:au):bs (pL a b) (fun r=>(r<0↔jU a b=true)∧ (r=0↔a=b)∧ (-1≤r∧r≤1)):=by
 unfold pL;refine .cond (fun h=>.ret ?_) fun h=>.eq rfl (.cond (fun ad=>.ret ?_) fun ad=>.ret ?_)
 ·simp only [decide_eq_true_eq] at h;subst h;simp [ug]
 ·simp only [decide_eq_false_iff_not] at h;exact⟨⟨fun _=>ad,fun _=>by omega⟩,⟨fun aD=>by omega,fun aD=>absurd aD h⟩,by omega,by omega⟩
 simp only [decide_eq_false_iff_not] at h;have lz:jU a b=false:=ad;exact⟨⟨fun aD=>by omega,fun aD=>by rw [lz] at aD;cases aD⟩,⟨fun aD=>by omega,fun aD=>absurd aD h⟩,by omega,by omega⟩
theorem Fz (a b:au):bs (pM a b) (fun r=>(r>0↔jU b a=true)∧ (r<0↔jU a b=true)):=by
 unfold pM;refine(yX a).bind fun x ao=>(yX b).bind fun y a7=>?_;refine bs.loop 128 (fun k s=>s=127 - (k:Int)∧ ∀ j,128≤j+k→j<128→cx a j=cx b j) (by omega) ⟨rfl,fun j h1 ad=>by omega⟩ (fun k s hk ar=>?_) (fun s ar=>?_)
 ·obtain⟨rfl,aX⟩:=ar;refine bs.cond (fun _=>?_) (fun h=>by simp at h;omega);have jS:(127 - (k:Int))=((127 - k:Nat):Int):=by omega
  have u9:127 - k<128:=by omega
  refine .idx jS u9 (.idx jS u9 ?_);rw [ao _ u9,a7 _ u9];refine .cond (fun da=>.idx jS u9 ?_) fun heq=>.ret ⟨?_,fun j h1 ad=>?_⟩
  ·have heq:∀ j,127 - k<j→j<128→cx a j=cx b j:=fun j h1 ad=>aX j (by omega) ad;rw [a7 _ u9];refine .cond (fun hb=>.ret (.ret ?_)) fun hb=>.ret (.ret ?_)
   ·have bo:cx a (127 - k)=false:=by rw [hb] at da;simpa using da
    have:=Pc u9 bo hb heq;exact⟨⟨fun h=>by simp at h,fun h=>by rw [yO this] at h;cases h⟩,fun _=>this,fun _=>by simp⟩
   have bo:cx a (127 - k)=true:=by rw [hb] at da;simpa using da
   have:=Pc u9 hb bo fun j h1 ad=>(heq j h1 ad).symm;exact⟨⟨fun _=>this,fun _=>by simp⟩,fun h=>by simp at h,fun h=>by rw [yO this] at h;cases h⟩
  ·rw [hN (by omega) (by omega)];omega
  by_cases aF:j=127 - k
  ·subst aF;simpa using heq
  exact aX j (by omega) ad
 obtain⟨rfl,aX⟩:=ar;refine⟨_,rfl,?_⟩;have:a=b:=za fun j aF=>aX j (by omega) aF;subst this;refine .ret ⟨?_,?_⟩ <;> simp [ug]
end Go.Proofs.YtelbhaohleeijaaGreat
namespace Gv
structure q9 {α:Type}(b:α→α→Bool):Prop where
 asymm:∀ x y,b x y=true→b y x=false
 trans:∀ x y z,b x y=true→b y z=true→b x z=true
def ins {α:Type}(b:α→α→Bool):List α→α→List α
 | [],x=>[x]
 | a::l,x=>if b a x=true then a::ins b l x else x::a::l
def eR {α:Type}(b:α→α→Bool)(l:List α):List α:=l.foldl (ins b) []
def kr {α:Type}(b:α→α→Bool):List α→α→Nat
 | [],_=>0
 | a::l,x=>if b a x=true then kr b l x+1 else 0
def sb {α:Type}(b:α→α→Bool)(x y:α):Prop:=b x y=true∨b y x=true
variable {α:Type} {b:α→α→Bool}
theorem Pd (a:α)(l:List α)(x:α):ins b (a::l) x=if b a x=true then a::ins b l x else x::a::l:=rfl
theorem Ka:∀ {l:List α} {x:α},kr b l x≤l.length
 | [],_=>Nat.le_refl _
 | a::l,x=>by
   have:=Ka (l:=l) (x:=x);unfold kr;split <;> simp <;> omega
theorem Ra:∀ (l:List α) (x:α),ins b l x=l.take (kr b l x)++x::l.drop (kr b l x)
 | [],x=>rfl
 | a::l,x=>by
   unfold ins kr;split
   ·rw [Ra l x];rfl
   rfl
theorem Ji:∀ (l:List α) (x:α),(ins b l x).Perm (x::l)
 | [],x=>List.Perm.refl _
 | a::l,x=>by
   unfold ins;split
   ·exact((Ji l x).cons a).trans (List.Perm.swap x a l)
   exact List.Perm.refl _
theorem Z0 {l:List α}{x y:α} :y∈ins b l x↔y=x∨y∈l:=by
 rw [(Ji l x).mem_iff];simp
theorem B4 (l:List α)(x:α):eR b (l++[x])=ins b (eR b l) x:=by
 simp [eR,List.foldl_append]
theorem JD (l:List α):(eR b l).Perm l:=by
 have key:∀ (l m:List α),(l.foldl (ins b) m).Perm (m++l):=by
  intro l;induction l with
  | nil=>intro m;simp
  | cons a l b7=>
    intro m
    refine(b7 (ins b m a)).trans ?_
    refine((Ji m a).append_right l).trans ?_
    exact(List.perm_middle (a:=a) (l₁:=m) (l₂:=l)).symm
 exact key l []
theorem oC {l:List α}{y:α} :y∈eR b l↔y∈l:=(JD l).mem_iff
theorem aaK {l:List α} :(eR b l).length=l.length:=(JD l).length_eq
theorem Ov (hb:q9 b):∀ {l:List α} {x:α},l.Pairwise (fun x y=>b x y=true)→ (∀ a∈l,sb b a x)→ (ins b l x).Pairwise (fun x y=>b x y=true)
 | [],x,_,_=>by simp [ins]
 | a::l,x,hs,bP=>by
   obtain⟨h1,ad⟩:=List.pairwise_cons.1 hs;unfold ins;split
   ·rename_i ob;refine List.pairwise_cons.2 ⟨fun c aj=>?_,Ov hb ad fun a bo=>bP a (by simp [bo])⟩;rcases Z0.1 aj with rfl | aj
    ·exact ob
    exact h1 c aj
   rename_i ob;have vv:b x a=true:=(bP a (by simp)).resolve_left ob;refine List.pairwise_cons.2 ⟨fun c aj=>?_,hs⟩;rcases List.mem_cons.1 aj with rfl | aj
   ·exact vv
   exact hb.trans _ _ _ vv (h1 c aj)
theorem Pe (hb:q9 b){p:α→Bool} :∀ {l:List α} {x:α},l.Pairwise (fun x y=>b x y=true)→ (∀ a∈l,sb b a x)→
 (ins b l x).find? p=if p x=true then(match l.find? p with | none=>some x | some c=>if b x c=true then some x else some c) else l.find? p
 | [],x,_,_=>by
   unfold ins;by_cases hp:p x=true
   ·simp [hp]
   simp only [Bool.not_eq_true] at hp;simp [hp]
 | a::l,x,hs,bP=>by
   obtain⟨h1,ad⟩:=List.pairwise_cons.1 hs;unfold ins;by_cases ob:b a x=true
   ·rw [if_pos ob];by_cases HM:p a=true
    ·rw [List.find?_cons_of_pos HM,List.find?_cons_of_pos HM];simp [hb.asymm _ _ ob]
    rw [List.find?_cons_of_neg HM,List.find?_cons_of_neg HM];exact Pe hb ad fun a bo=>bP a (by simp [bo])
   rw [if_neg ob];have vv:b x a=true:=(bP a (by simp)).resolve_left ob;by_cases hp:p x=true
   ·rw [List.find?_cons_of_pos hp,if_pos hp];cases bb:(a::l).find? p with
    | none=>rfl
    | some c=>
      have aj:=List.mem_of_find?_eq_some bb
      have:b x c=true:=by
       rcases List.mem_cons.1 aj with rfl | aj
       ·exact vv
       exact hb.trans _ _ _ vv (h1 c aj)
      simp [this]
   rw [List.find?_cons_of_neg hp,if_neg hp]
theorem Yl {l:List α}{x:α}(h:∀ c∈l,b c x=false):ins b l x=x::l:=by
 cases l with
 | nil=>rfl
 | cons a l=>unfold ins;rw [if_neg (by simp [h a (by simp)])]
theorem Ow (hb:q9 b){q:α→Bool} :∀ {l:List α} {x:α},l.Pairwise (fun x y=>b x y=true)→ (∀ a∈l,sb b a x)→
 (ins b l x).filter q=if q x=true then ins b (l.filter q) x else l.filter q
 | [],x,_,_=>by
   show [x].filter q=if q x=true then [x] else [];by_cases hp:q x=true
   ·simp [hp]
   simp only [Bool.not_eq_true] at hp;simp [hp]
 | a::l,x,hs,bP=>by
   obtain⟨h1,ad⟩:=List.pairwise_cons.1 hs;have b7:=Ow hb (q:=q) (x:=x) ad fun a bo=>bP a (by simp [bo]);rw [Pd];by_cases ob:b a x=true
   ·rw [if_pos ob];by_cases mW:q a=true
    ·rw [List.filter_cons_of_pos mW,List.filter_cons_of_pos mW,b7];by_cases hq:q x=true
     ·rw [if_pos hq,if_pos hq,Pd,if_pos ob]
     rw [if_neg hq,if_neg hq]
    rw [List.filter_cons_of_neg mW,List.filter_cons_of_neg mW,b7]
   rw [if_neg ob];have vv:b x a=true:=(bP a (by simp)).resolve_left ob;by_cases hq:q x=true
   ·rw [List.filter_cons_of_pos hq,if_pos hq,Yl];intro c aj;have nz:=(List.mem_filter.1 aj).1;refine hb.asymm _ _ ?_;rcases List.mem_cons.1 nz with rfl | nz
    ·exact vv
    exact hb.trans _ _ _ vv (h1 c nz)
   rw [List.filter_cons_of_neg hq,if_neg hq]
def tg (b:α→α→Bool)(l:List α):Prop:=l.Pairwise (sb b)
theorem sb.symm {x y:α}(h:sb b x y):sb b y x:=h.elim .inr .inl
theorem tg.snoc {l:List α}{x:α}(h:tg b (l++[x])):tg b l∧ ∀ a∈l,sb b a x:=by
 unfold tg at *;rw [List.pairwise_append] at h;exact⟨h.1,fun a bo=>h.2.2 a bo x (by simp)⟩
theorem Pf {P:List α→Prop}(bR:P [])(h1:∀ l x,P l→P (l++[x]))(l:List α):P l:=by
 have:∀ r:List α,P r.reverse:=by
  intro r;induction r with
  | nil=>exact bR
  | cons a r b7=>rw [List.reverse_cons];exact h1 _ _ b7
 have:=this l.reverse;rwa [List.reverse_reverse] at this
theorem BO (hb:q9 b){l:List α}(h:tg b l):(eR b l).Pairwise (fun x y=>b x y=true):=by
 induction l using Pf with
 | bR=>exact List.Pairwise.nil
 | h1 l x b7=>
   obtain⟨h1,ad⟩:=h.snoc
   rw [B4]
   exact Ov hb (b7 h1) fun a bo=>ad a (oC.1 bo)
theorem Ym (hb:q9 b){q:α→Bool}{l:List α}(h:tg b l):(eR b l).filter q=eR b (l.filter q):=by
 induction l using Pf with
 | bR=>rfl
 | h1 l x b7=>
   obtain⟨h1,ad⟩:=h.snoc
   rw [B4,Ow hb (BO hb h1) fun a bo=>ad a (oC.1 bo),b7 h1,List.filter_append]
   by_cases hq:q x=true
   ·rw [if_pos hq,List.filter_cons_of_pos hq,List.filter_nil,B4]
   rw [if_neg hq,List.filter_cons_of_neg hq,List.filter_nil,List.append_nil]
theorem Kb [Inhabited α](hb:q9 b):∀ {l:List α} {x:α} {k:Nat},l.Pairwise (fun x y=>b x y=true)→k<l.length→ (b (ay l k) x=true↔k<kr b l x)
 | [],x,k,_,hk=>by simp at hk
 | a::l,x,k,hs,hk=>by
   obtain⟨h1,ad⟩:=List.pairwise_cons.1 hs;unfold kr;cases k with
   | zero=>
     have:ay (a::l) 0=a:=rfl
     rw [this]
     split <;> simp_all
   | succ k=>
     have jQ:k<l.length:=by simpa using hk
     have he:ay (a::l) (k+1)=ay l k:=by rw [eU _ hk,eU _ jQ];rfl
     rw [he,Kb hb ad jQ]
     split
     ·omega
     rename_i ob
     constructor
     ·intro ct
      have bc:=(Kb hb ad jQ).2 ct
      have bu:=h1 (ay l k) (by rw [eU _ jQ];exact List.getElem_mem _)
      exact absurd (hb.trans _ _ _ bu bc) ob
     intro h;omega
end Gv
namespace Go.Proofs.YtelbhaohleeijaaGreat
open Go Gv
theorem V6 {xs:List cW}{f:cW→Option Bool}{g:cW→Bool}(bb:∀ x∈xs,f x=some (g x))(al:xs.length<2 ^ 62):
 bs (Au xs f) (fun r=>(r= -1∧ ∀ x∈xs,g x=false)∨ ∃ i:Nat,i<xs.length∧r=i∧g (ay xs i)=true∧ ∀ j,j<i→g (ay xs j)=false):=by
 unfold Au
 refine bs.loop xs.length (fun k s=>s=(k:Int)∧ ∀ j,j<k→g (ay xs j)=false) (by omega) ⟨rfl,fun j aF=>by omega⟩ (fun k s hk ar=>?_) (fun s ar=>?_)
 ·obtain⟨aw,aX⟩:=ar;subst aw
  refine bs.cond (fun _=>?_) (fun h=>by simp at h;omega)
  refine .idx rfl hk (.eq (bb _ (by rw [eU xs hk];exact List.getElem_mem hk)) (.cond (fun h=>.ret ?_) (fun h=>.ret ⟨e0 (by omega),fun j aF=>?_⟩)))
  ·exact .ret (.inr ⟨k,hk,rfl,h,aX⟩)
  by_cases tx:j=k
  ·subst tx;exact h
  exact aX j (by omega)
 obtain⟨aw,aX⟩:=ar;subst aw
 refine⟨_,by simp;rfl,?_⟩
 refine .ret (.inl ⟨rfl,fun x ao=>?_⟩)
 obtain⟨j,aF,rfl⟩:=List.mem_iff_getElem.1 ao
 rw [← eU xs aF];exact aX j aF
theorem _root_.Gv.bs.get {β:Type}{m:Option β}{v:β}(h:bs m (fun r=>r=v)):m=some v:=by
 obtain⟨r,h1,rfl⟩:=h;exact h1
theorem PZ (a b:au):jU a b=true∨a=b∨jU b a=true:=by
 rw [yY,yY];rcases a with⟨aio,dW⟩;rcases b with⟨aip,aiq⟩;simp only [BitVec.lt_def,au.mk.injEq,← BitVec.toNat_inj];omega
theorem aaL {a b:au}(h:a.cZ=b.cZ)(df:a.bS≤b.bS):jU b a=false:=by
 cases a6:jU b a with
 | false=>rfl
 | true=>
   rw [yY] at a6
   rw [h] at a6
   simp only [BitVec.lt_def,BitVec.le_def] at a6 df
   omega
def h9 (kind b:Int)(m:b5)(x:au):Bool:=
 if m.ff=false then true
 else if kind=1 then decide (x=m.cM)
 else if kind=2 then(List.range 128).all fun j=> !lead b m.dK j||(cx x j==cx m.cM j)
 else if kind=3 then decide (tf x m.fE=m.cM)
 else !jU x m.cM&& !jU m.jr x
theorem XB {key:cW}(hk:km key)(m:b5)(x:au):Bt m key.cO (fv key) x=some (h9 key.cO (fv key) m x):=by
 have hb:=hk.fv;obtain⟨_,_,_,aJ,gU,_⟩:=hk;refine bs.get ?_;unfold Bt h9;refine .cond (fun hp=>.ret ?_) fun hp=>?_
 ·simp only [Bool.not_eq_true'] at hp;rw [if_pos hp];simp;omega
 simp only [Bool.not_eq_false'] at hp;rw [if_neg (by simp [hp])];refine .cond (fun h1=>.ret ?_) fun h1=>.cond (fun ad=>?_) fun ad=>.cond (fun aD=>?_) fun aD=>?_
 ·rw [if_pos (by simpa using h1)]
 ·rw [if_neg (by simpa using h1),if_pos (by simpa using ad)];refine(Ot _ _ (by omega) (by omega)).bind fun aE aw=>.eq (and_eq _ _) (.eq (and_eq _ _) (.ret ?_));rw [Bool.eq_iff_iff,ZZ,List.all_eq_true];constructor
  ·intro h j aF;have z7:=List.mem_range.1 aF;have:=h j z7;rw [wD,wD,aw j z7] at this;cases al:lead (fv key) m.dK j
   ·rfl
   rw [al] at this;simpa using this
  intro h j aF;have:=h j (List.mem_range.2 aF);rw [wD,wD,aw j aF];cases al:lead (fv key) m.dK j
  ·simp
  rw [al] at this;simpa using this
 ·rw [if_neg (by simpa using h1),if_neg (by simpa using ad),if_pos (by simpa using aD)];exact .eq (and_eq _ _) (.ret rfl)
 have mm:key.cO=4:=by simp only [beq_eq_false_iff_ne] at h1 ad aD;omega
 rw [if_neg (by simpa using h1),if_neg (by simpa using ad),if_neg (by simpa using aD)];refine .cond (fun _=>?_) fun h=>by rw [mm] at h;cases h
 refine(Ou _ _).bind fun bz ⟨dn,a2,a3⟩=>.cH (P:=fun r=>(r<0↔jU x m.jr=true)∧ (r=0↔x=m.jr)∧ -1≤r∧r≤1) (fun _=>Ou _ _) fun cg bu=>.ret ?_;have gF:decide (bz≤0)= !jU x m.cM:=by
  rw [Bool.eq_iff_iff,decide_eq_true_eq,Bool.not_eq_true'];rcases PZ m.cM x with h | h | h
  ·have:=dn.2 h;rw [yO h];simp;omega
  ·have:=a2.2 h;rw [h,ug];simp;omega
  rw [h];simp;have dh: ¬ bz<0:=fun cu=>by rw [yO h] at dn;simpa using dn.1 cu
  have fk:bz≠0:=fun cu=>by rw [a2.1 cu,ug] at h;cases h
  omega
 rw [gF];cases ao:jU x m.cM
 ·rw [gF,ao] at bu;obtain⟨dM,eC,hK⟩:=bu rfl;simp only [Bool.not_false,Bool.true_and];rw [Bool.eq_iff_iff,decide_eq_true_eq,Bool.not_eq_true'];rcases PZ x m.jr with h | h | h
  ·have:=dM.2 h;rw [yO h];simp;omega
  ·have:=eC.2 h;rw [h,ug];simp;omega
  rw [h];simp;have dh: ¬ cg<0:=fun cu=>by rw [yO h] at dM;simpa using dM.1 cu
  have fk:cg≠0:=fun cu=>by rw [eC.1 cu,ug] at h;cases h
  omega
 simp
theorem XC {key:cW}(hk:km key){m:b5}(hm:nR key.cO (fv key) m)(x:au):Bs m key.cO (fv key) x=some (h9 key.cO (fv key) m x):=by
 have hb:=hk.fv;obtain⟨_,_,_,aJ,gU,_⟩:=hk;refine bs.get ?_;unfold Bs h9;refine .cond (fun hp=>.ret ?_) fun hp=>?_
 ·simp only [Bool.not_eq_true'] at hp;rw [if_pos hp];simp;omega
 simp only [Bool.not_eq_false'] at hp;rw [if_neg (by simp [hp])];refine .cond (fun h1=>.ret ?_) fun h1=>.cond (fun ad=>?_) fun ad=>.cond (fun aD=>?_) fun aD=>?_
 ·rw [if_pos (by simpa using h1)]
 ·rw [if_neg (by simpa using h1),if_pos (by simpa using ad)];have Ac:=hm.HK (by simpa using ad) hp;have ahK:=hm.pre.2;refine(yX _).bind fun aE aw=>(yX _).bind fun an aX=>?_;rw [hN (by omega) (by omega)];refine bs.loop m.dK.toNat (fun r s=>s=fv key - m.dK+(r:Int)∧ ∀ j:Nat,j<128→fv key - m.dK≤ (j:Int)→ (j:Int)<fv key - m.dK+(r:Int)→cx x j=cx m.cM j) (by omega) ⟨by simp,fun j aF h1 ad=>by omega⟩ (fun r s aR hs=>?_) (fun s hs=>?_)
  ·obtain⟨rfl,hs⟩:=hs;refine .cond (fun _=>?_) (fun h=>by simp at h;omega);by_cases bR:0≤fv key - m.dK+(r:Int)
   ·obtain⟨j,aF⟩:=Int.eq_ofNat_of_zero_le bR;rw [aF];have C5:j<128:=by omega
    refine .cH (P:=fun k=>k=j) (fun _=>⟨j,pa C5,rfl⟩) fun aJ cz=>.cH (P:=fun k=>k=j) (fun _=>⟨j,pa C5,rfl⟩) fun bT cS=>.eq rfl ?_;have HU:(decide ((j:Int)≥0)&&decide ((j:Int)<128))=true:=by simp;omega
    rw [cz HU,cS HU,HU,Bool.true_and,aw j C5,aX j C5];refine .cond (fun da=>.ret ?_) fun heq=>.ret ⟨by rw [hN (by omega) (by omega)];omega,fun i ar aD aZ=>?_⟩
    ·simp only [Sum.elim_inr];refine .ret ?_;refine(Bool.eq_false_iff.2 fun k2=>?_).symm;have:=List.all_eq_true.1 k2 j (List.mem_range.2 C5);have al:lead (fv key) m.dK j=true:=by unfold lead;simp;omega
     rw [al] at this;simp at this da;exact da this
    by_cases gd:i=j
    ·subst gd;simpa using heq
    exact hs i ar aD (by omega)
   have jy:(decide (fv key - m.dK+(r:Int)≥0)&&decide (fv key - m.dK+(r:Int)<128))=false:=by simp;omega
   refine .cH (P:=fun _=>True) (fun h=>by rw [jy] at h;cases h) fun aJ _=>.cH (P:=fun _=>True) (fun h=>by rw [jy] at h;cases h) fun bT _=>.eq rfl ?_;rw [jy,Bool.false_and];refine .cond (fun h=>by cases h) fun _=>.ret ⟨by rw [hN (by omega) (by omega)];omega,fun i ar aD aZ=>hs i ar aD (by omega)⟩
  obtain⟨rfl,hs⟩:=hs;have ns:decide (fv key - m.dK+(m.dK.toNat:Int)<fv key)=false:=by simp;omega
  rw [ns];refine⟨_,rfl,?_⟩;simp only [Sum.elim_inl];refine .ret ?_;refine(List.all_eq_true.2 fun j aF=>?_).symm;have z7:=List.mem_range.1 aF;cases al:lead (fv key) m.dK j
  ·rfl
  unfold lead at al;simp only [Bool.and_eq_true,decide_eq_true_eq] at al;have:=hs j z7 (by omega) (by omega);simp [this]
 ·rw [if_neg (by simpa using h1),if_neg (by simpa using ad),if_pos (by simpa using aD)];refine(Yh _ _).bind fun y a7=>.ret ?_;rw [a7]
 have mm:key.cO=4:=by simp only [beq_eq_false_iff_ne] at h1 ad aD;omega
 rw [if_neg (by simpa using h1),if_neg (by simpa using ad),if_neg (by simpa using aD)];refine .cond (fun _=>?_) fun h=>by rw [mm] at h;cases h
 refine(Fz _ _).bind fun bz ⟨dn,a2⟩=>.cH (P:=fun r=>(r>0↔jU m.jr x=true)∧ (r<0↔jU x m.jr=true)) (fun _=>Fz _ _) fun cg bu=>.ret ?_;have gF:decide (bz≤0)= !jU x m.cM:=by
  rw [Bool.eq_iff_iff,decide_eq_true_eq,Bool.not_eq_true',← Bool.not_eq_true,← dn];omega
 rw [gF];cases ao:jU x m.cM
 ·rw [gF,ao] at bu;obtain⟨dM,eC⟩:=bu rfl;simp only [Bool.not_false,Bool.true_and];rw [Bool.eq_iff_iff,decide_eq_true_eq,Bool.not_eq_true',← Bool.not_eq_true,← dM];omega
 simp
def mt (s:aQ)(k:Nat)(p:Vector au 4)(e:bd):Bool:=
 (List.range (ay s.bh k).b4.length).all fun i=>h9 (ay (ay s.bh k).b4 i).cO (fv (ay (ay s.bh k).b4 i)) (ay e.bY i) (bF p i)
theorem XD {s:aQ}(h:dj s){key:cW}(hk:km key):Br s key=some (fv key):=by
 obtain⟨j,aF,bb,_⟩:=hk;refine bs.get ?_;unfold Br;rw [bb];refine(N7 h aF).bind fun r aR=>?_;subst aR;rw [show decide ((j:Int)<0)=false from decide_eq_false (by omega),cond_false];refine .idx rfl (by have:=h.rW;omega) (.ret ?_);rw [(h.tz aF).2,GM bb]
theorem OP {s:aQ}(h:dj s){k:Nat}(hk:k<4){e:bd}(he:e.dB=(k:Int)+1):yG s e=some (ay s.bh k,true):=by
 refine bs.get ?_;unfold yG;rw [he];refine(N6 h hk).bind fun r aR=>?_;subst aR;rw [show decide ((k:Int)<0)=false from decide_eq_false (by omega),cond_false];exact .idx rfl (by have:=h.lj;omega) (.ret rfl)
theorem Kc {n i:Nat}{f:Nat→Bool}(h:∀ c,c<n→f c=true)(aO:i=n):(List.range i).all f=true:=by
 subst aO;exact List.all_eq_true.2 fun c aj=>h c (List.mem_range.1 aj)
theorem Rb {n i:Nat}{f:Nat→Bool}(ar:i<n)(h:f i=false):(List.range n).all f=false:=by
 rw [Bool.eq_false_iff];intro h1;have:=List.all_eq_true.1 h1 i (List.mem_range.2 ar);rw [h] at this;cases this
theorem Xe {s:aQ}(h:dj s){k:Nat}(hk:k<4){e:bd}(he:il s k e)(p:Vector au 4):yw s e p=some (mt s k p e):=by
 obtain⟨t1,⟨t2,t3⟩,t4,_⟩:=h.jD hk;refine bs.get ?_;unfold yw mt;refine .eq (OP h hk he.jD) (.cond (fun h=>by cases h) fun _=>?_);have hm:=he.len;simp only;refine bs.loop (ay s.bh k).b4.length (fun i st=>st=(i:Int)∧ ∀ c,c<i→h9 (ay (ay s.bh k).b4 c).cO (fv (ay (ay s.bh k).b4 c)) (ay e.bY c) (bF p c)=true) (by omega) ⟨rfl,fun c aj=>by omega⟩ (fun i st ar hs=>?_) (fun st hs=>?_)
 ·obtain⟨rfl,hs⟩:=hs;have jS:km (ay (ay s.bh k).b4 i):=t4 _ (by rw [eU _ ar];exact List.getElem_mem ar);refine .cond (fun _=>?_) (fun h=>by simp at h;omega);refine .idx rfl ar ?_;have jy:(decide ((i:Int)≥ (e.bY.length:Int))||decide ((i:Int)≥4))=false:=by simp;omega
  rw [jy];refine .cH (P:=fun c=>c=i) (fun _=>⟨i,pa (by omega),rfl⟩) fun bT aX=>.cH (P:=fun c=>c=fv (ay (ay s.bh k).b4 i)) (fun _=>⟨_,XD h jS,rfl⟩) fun an dc=>.cH (P:=fun c=>c=i) (fun _=>⟨i,pa (by omega),rfl⟩) fun dC gA=>?_;rw [aX rfl,dc rfl,gA rfl];refine .cH (P:=fun c=>c=h9 (ay (ay s.bh k).b4 i).cO (fv (ay (ay s.bh k).b4 i)) (ay e.bY i) (bF p i)) (fun _=>⟨_,XB jS _ _,rfl⟩) fun br iF=>.eq rfl ?_;rw [iF rfl,Bool.false_or];refine .cond (fun aO=>.ret ?_) fun a7=>.ret ⟨e0 (by omega),fun c aj=>?_⟩
  ·simp only [Sum.elim_inr];exact .ret (Rb ar (by simpa using aO)).symm
  by_cases vw:c=i
  ·subst vw;simpa using a7
  exact hs c (by omega)
 obtain⟨rfl,hs⟩:=hs;rw [show decide (((ay s.bh k).b4.length:Int)<((ay s.bh k).b4.length:Int))=false by simp];refine⟨_,rfl,?_⟩;simp only [Sum.elim_inl];exact .ret (Kc hs rfl).symm
theorem Xf {s:aQ}(h:dj s){k:Nat}(hk:k<4){e:bd}(he:il s k e)(p:Vector au 4):Bm s e p=some (mt s k p e):=by
 obtain⟨t1,⟨t2,t3⟩,t4,_⟩:=h.jD hk;refine bs.get ?_;unfold Bm mt;rw [he.jD];refine(N8 h hk).bind fun r aR=>?_;subst aR;refine .idx rfl (by have:=h.lj;omega) ?_;have hm:=he.len;refine bs.loop (ay s.bh k).b4.length (fun i st=>st=(i:Int)∧ ∀ c,c<i→h9 (ay (ay s.bh k).b4 c).cO (fv (ay (ay s.bh k).b4 c)) (ay e.bY c) (bF p c)=true) (by omega) ⟨rfl,fun c aj=>by omega⟩ (fun i st ar hs=>?_) (fun st hs=>?_)
 ·obtain⟨rfl,hs⟩:=hs;have jS:km (ay (ay s.bh k).b4 i):=t4 _ (by rw [eU _ ar];exact List.getElem_mem ar);refine .cond (fun _=>?_) (fun h=>by simp at h;omega);refine .idx rfl ar (.idx rfl (by omega) ((Xz h ar jS).bind fun an dc=>.idx rfl (by omega) ?_));rw [dc];refine .eq (XC jS (he.tB i ar) _) (.cond (fun aO=>.ret ?_) fun a7=>.ret ⟨e0 (by omega),fun c aj=>?_⟩)
  ·simp only [Sum.elim_inr];exact .ret (Rb ar (by simpa using aO)).symm
  by_cases vw:c=i
  ·subst vw;simpa using a7
  exact hs c (by omega)
 obtain⟨rfl,hs⟩:=hs;rw [show decide (((ay s.bh k).b4.length:Int)<((ay s.bh k).b4.length:Int))=false by simp];refine⟨_,rfl,?_⟩;simp only [Sum.elim_inl];exact .ret (Kc hs rfl).symm
def tC:List cW→List b5→Int
 | key::aS,m::ms=>if key.cO=2 then m.dK else tC aS ms
 | _,_=>0
theorem Gn:∀ {aS:List cW} {ms:List b5} {i:Nat},ms.length=aS.length→i<aS.length→ (ay aS i).cO=2→ (∀ j,j<i→ (ay aS j).cO≠2)→tC aS ms=(ay ms i).dK
 | [],_,i,_,ar,_,_=>by simp at ar
 | key::aS,[],i,al,_,_,_=>by simp at al
 | key::aS,m::ms,0,_,_,ad,_=>by
   have:(ay (key::aS) 0)=key:=rfl;rw [this] at ad;unfold tC;rw [if_pos ad];rfl
 | key::aS,m::ms,i+1,al,ar,ad,aO=>by
   have bR:=aO 0 (by omega);have:(ay (key::aS) 0)=key:=rfl;rw [this] at bR;unfold tC;rw [if_neg bR];have bH:∀ {β:Type} [Inhabited β] (x:β) (l:List β) (n:Nat),ay (x::l) (n+1)=ay l n:=fun x l n=>by simp [ay]
   rw [bH] at ad ⊢;exact Gn (by simpa using al) (by simpa using ar) ad fun j aF=>by have:=aO (j+1) (by omega);rwa [bH] at this
theorem Kd:∀ {aS:List cW} {ms:List b5},(∀ key∈aS,key.cO≠2)→tC aS ms=0
 | [],_,_=>by unfold tC;rfl
 | key::aS,[],_=>by unfold tC;rfl
 | key::aS,m::ms,aO=>by
   unfold tC;rw [if_neg (aO key (by simp))];exact Kd fun k hk=>aO k (by simp [hk])
def sj (s:aQ)(k:Nat)(e:bd):Int:=tC (ay s.bh k).b4 e.bY
theorem Ox {s:aQ}(h:dj s){k:Nat}(hk:k<4){e:bd}(he:il s k e):yC s e=some (sj s k e):=by
 obtain⟨t1,⟨t2,t3⟩,t4,_⟩:=h.jD hk;have hm:=he.len;refine bs.get ?_;unfold yC sj;refine .eq (OP h hk he.jD) ?_;simp only;refine(V6 (g:=fun key=>key.cO==2) (fun x ao=>rfl) (by omega)).bind fun r aR=>.eq rfl ?_;rcases aR with⟨rfl,aR⟩ | ⟨i,h1,rfl,aD,aZ⟩
 ·refine .cond (fun _=>.ret ?_) (fun h=>by simp at h);rw [Kd fun key kn=>by simpa using aR key kn]
 have dS:(!true||decide ((i:Int)<0)||decide ((i:Int)≥ (e.bY.length:Int)))=false:=by simp;omega
 rw [dS,cond_false];refine .idx rfl (by omega) (.ret ?_);rw [Gn hm h1 (by simpa using aD) fun j aF=>by simpa using aZ j aF]
theorem Oy {s:aQ}(h:dj s){k:Nat}(hk:k<4){e:bd}(he:il s k e):yD s e=some (sj s k e):=by
 obtain⟨t1,⟨t2,t3⟩,t4,_⟩:=h.jD hk;have hm:=he.len;refine bs.get ?_;unfold yD sj;rw [he.jD];refine(N8 h hk).bind fun r aR=>?_;subst aR;rw [show decide ((k:Int)<0)=false from decide_eq_false (by omega),cond_false];refine .idx rfl (by have:=h.lj;omega) ?_;refine bs.loop (ay s.bh k).b4.length (fun i st=>st=(i:Int)∧ ∀ j,j<i→ (ay (ay s.bh k).b4 j).cO≠2) (by omega) ⟨rfl,fun j aF=>by omega⟩ (fun i st ar hs=>?_) (fun st hs=>?_)
 ·obtain⟨rfl,hs⟩:=hs;refine .cond (fun _=>?_) (fun h=>by simp at h;omega);refine .idx rfl ar (.eq rfl (.cond (fun aj=>?_) fun aj=>.ret ⟨e0 (by omega),fun j aF=>?_⟩))
  ·simp only [Bool.and_eq_true,beq_iff_eq] at aj;refine .idx rfl (by omega) (.ret ?_);simp only [Sum.elim_inr];exact .ret (Gn hm ar aj.1 hs).symm
  by_cases hZ:j=i
  ·subst hZ;have hd:decide ((j:Int)<(e.bY.length:Int))=true:=by simp;omega
   rw [hd,Bool.and_true] at aj;simpa using aj
  exact hs j (by omega)
 obtain⟨rfl,hs⟩:=hs;rw [show decide (((ay s.bh k).b4.length:Int)<((ay s.bh k).b4.length:Int))=false by simp];refine⟨_,rfl,?_⟩;simp only [Sum.elim_inl];refine .ret (Kd fun key kn=>?_).symm;obtain⟨j,aF,rfl⟩:=List.mem_iff_getElem.1 kn;rw [← eU _ aF];exact hs j aF
def eJ (s:aQ)(k:Nat)(a c:ax):Bool:=
 decide (c.bA.fG<a.bA.fG∨ (a.bA.fG=c.bA.fG∧ (sj s k c.bA<sj s k a.bA∨ (sj s k a.bA=sj s k c.bA∧c.cB<a.cB))))
theorem qB (s:aQ)(k:Nat):q9 (eJ s k) where
 asymm x y h:=by
  unfold eJ at *;rw [decide_eq_true_eq] at h;rw [decide_eq_false_iff_not];omega
 trans x y z h df:=by
  unfold eJ at *;rw [decide_eq_true_eq] at *;omega
theorem aaM {s:aQ}{k:Nat}{a c:ax}(h:a.cB≠c.cB):sb (eJ s k) a c:=by
 unfold sb eJ;rw [decide_eq_true_eq,decide_eq_true_eq];omega
def fm (x y:Int):Int:=if x<y then -1 else if y<x then 1 else 0
theorem wL (x y:Int):pK x y=some (fm x y):=by
 unfold pK Bi fm;have:∀ z:Int,(z !=z)=false:=fun z=>by simp
 rw [this,this];simp only [Option.bind_some,cond_false];by_cases h1:x<y
 ·simp [h1]
 by_cases ad:y<x
 ·simp [h1,ad]
 simp [h1,ad]
theorem Za (a c d:Int):sr [a,c,d]=some (if a≠0 then a else if c≠0 then c else d):=by
 refine bs.get ?_;unfold sr;refine bs.loop 3 (fun i st=>st=(i:Int)∧ ∀ j,j<i→ay [a,c,d] j=0) (by omega) ⟨rfl,fun j aF=>by omega⟩ (fun i st ar hs=>?_) (fun st hs=>?_)
 ·obtain⟨rfl,hs⟩:=hs;refine .cond (fun _=>?_) (fun h=>by simp at h;omega);refine .idx rfl (by simpa using ar) (.cond (fun aj=>.ret ?_) fun aj=>.ret ⟨e0 (by omega),fun j aF=>?_⟩)
  ·simp only [Sum.elim_inr];refine .ret ?_;have bR:=hs 0;have h1:=hs 1;rcases (show i=0∨i=1∨i=2 by omega) with rfl | rfl | rfl
   ·have:a≠0:=by simpa [ay] using aj
    rw [if_pos this];rfl
   ·have:c≠0:=by simpa [ay] using aj
    have Ms:a=0:=by simpa [ay] using bR (by omega)
    rw [if_neg (by simpa using Ms),if_pos this];rfl
   have Ms:a=0:=by simpa [ay] using bR (by omega)
   have agN:c=0:=by simpa [ay] using h1 (by omega)
   rw [if_neg (by simpa using Ms),if_neg (by simpa using agN)];rfl
  by_cases hZ:j=i
  ·subst hZ;simpa using aj
  exact hs j (by omega)
 obtain⟨rfl,hs⟩:=hs;refine⟨_,rfl,?_⟩;simp only [Sum.elim_inl];refine .ret ?_;have bR:a=0:=by simpa [ay] using hs 0 (by omega)
 have h1:c=0:=by simpa [ay] using hs 1 (by omega)
 have ad:d=0:=by simpa [ay] using hs 2 (by omega)
 simp [bR,h1,ad]
theorem OQ {s:aQ}(h:dj s){k:Nat}(hk:k<4){a c:ax}(bo:il s k a.bA)(aj:il s k c.bA):yH s a c=some (eJ s k a c):=by
 unfold yH eJ;rw [wL,Option.bind_some,Ox h hk bo,Option.bind_some,Ox h hk aj,Option.bind_some,wL,Option.bind_some,wL,Option.bind_some,Za,Option.bind_some];congr 1;rw [decide_eq_decide];unfold fm;split <;> split <;> (repeat' split) <;> omega
theorem Yn {s:aQ}(h:dj s){k:Nat}(hk:k<4){a c:ax}(bo:il s k a.bA)(aj:il s k c.bA):Bv s a c=some (eJ s k a c):=by
 refine bs.get ?_;unfold Bv eJ;refine .cond (fun h1=>.ret ?_) fun h1=>.eq (Oy h hk bo) (.eq (Oy h hk aj) (.cond (fun ad=>.ret ?_) fun ad=>.ret ?_))
 ·rw [decide_eq_decide];simp at h1;omega
 ·rw [decide_eq_decide];simp at h1 ad;omega
 rw [decide_eq_decide];simp at h1 ad;omega
theorem Vd {xs:List ax}{f:ax→Option Bool}{g:ax→Bool}(bb:∀ x∈xs,f x=some (g x))(al:xs.length<2 ^ 62):
 bs (vH xs f) (fun r=>(r= -1∧ ∀ x∈xs,g x=false)∨ ∃ i:Nat,i<xs.length∧r=i∧g (ay xs i)=true∧ ∀ j,j<i→g (ay xs j)=false):=by
 unfold vH
 refine bs.loop xs.length (fun k s=>s=(k:Int)∧ ∀ j,j<k→g (ay xs j)=false) (by omega) ⟨rfl,fun j aF=>by omega⟩ (fun k s hk ar=>?_) (fun s ar=>?_)
 ·obtain⟨aw,aX⟩:=ar;subst aw
  refine bs.cond (fun _=>?_) (fun h=>by simp at h;omega)
  refine .idx rfl hk (.eq (bb _ (by rw [eU xs hk];exact List.getElem_mem hk)) (.cond (fun h=>.ret ?_) (fun h=>.ret ⟨e0 (by omega),fun j aF=>?_⟩)))
  ·exact .ret (.inr ⟨k,hk,rfl,h,aX⟩)
  by_cases tx:j=k
  ·subst tx;exact h
  exact aX j (by omega)
 obtain⟨aw,aX⟩:=ar;subst aw
 refine⟨_,by simp;rfl,?_⟩
 refine .ret (.inl ⟨rfl,fun x ao=>?_⟩)
 obtain⟨j,aF,rfl⟩:=List.mem_iff_getElem.1 ao
 rw [← eU xs aF];exact aX j aF
structure kc (s:aQ)(k:Nat)(i:ax):Prop where
 fC:il s k i.bA
theorem Z1 {i:ax}(h1:i.bA.bY.length≤1000)(ad:i.bA.hX.length≤1000):oi i=some i:=by
 unfold oi Fx ES ET;rw [iJ _ _ (by simp;omega) (by omega),iJ _ _ (by simp;omega) (by omega)];rfl
theorem zb {s:aQ}(h:dj s){k:Nat}(hk:k<4){i:ax}(ar:kc s k i):oi i=some i:=by
 have h1:=ar.fC.len;have ad:=ar.fC.args;have aD:=(h.jD hk).2.1.2;exact Z1 (by omega) (by omega)
def iY (l:List ax)(n:Int):Bool:=l.any fun c=>c.cB==n
theorem SQ (x:cK)(n:Int)(al:x.ch.length≤1000):bs ((vH x.ch (fun a0=>vK a0 n)).bind fun aE=>some aE) (fun r=>(r= -1∧iY x.ch n=false)∨ ∃ i:Nat,i<x.ch.length∧r=i∧ (ay x.ch i).cB=n∧iY x.ch n=true∧ ∀ j,j<i→ (ay x.ch j).cB≠n):=by
 refine(Vd (g:=fun c=>c.cB==n) (fun c aj=>rfl) (by omega)).bind fun r aR=>.ret ?_;rcases aR with⟨h1,ad⟩ | ⟨i,h1,ad,aD,aZ⟩
 ·exact .inl ⟨h1,by unfold iY;rw [List.any_eq_false];exact fun c aj=>by simp [ad c aj]⟩
 refine .inr ⟨i,h1,ad,by simpa using aD,?_,fun j aF=>by simpa using aZ j aF⟩;unfold iY;rw [List.any_eq_true];exact⟨ay x.ch i,by rw [eU _ h1];exact List.getElem_mem _,aD⟩
theorem Zb {s:aQ}(h:dj s){k:Nat}(hk:k<4){x:cK}(ao:x.o6=s){a c:ax}(bo:kc s k a)(aj:kc s k c):
 bs (x6 x a c) (fun r=>r<0↔eJ s k a c=true):=by
 unfold x6
 rw [ao]
 refine .eq (OQ h hk bo.fC aj.fC) (.cond (fun hb=>.ret ⟨fun _=>hb,fun _=>by omega⟩) fun hb=>.eq (OQ h hk aj.fC bo.fC) (.cond (fun _=>.ret ?_) fun _=>.ret ?_))
 ·rw [hb];simp
 rw [hb];simp
theorem aaN {i j:Nat}(h:i+j<2 ^ 62):bE ((BitVec.ofInt 64 (bE ((i:Int)+(j:Int)))) >>> (1#64).toNat).toNat=(((i+j) / 2:Nat):Int):=by
 rw [show(i:Int)+(j:Int)=((i+j:Nat):Int) by omega,hN (x:=((i+j:Nat):Int)) (by omega) (by omega)];have:((BitVec.ofInt 64 ((i+j:Nat):Int)) >>> (1#64).toNat).toNat=(i+j) / 2:=by
  rw [BitVec.toNat_ushiftRight,pb (by omega)];rw [show(1#64).toNat=1 from rfl,Nat.shiftRight_eq_div_pow,Nat.pow_one]
 rw [this,hN (by omega) (by omega)]
theorem Yo {l:List ax}{x:ax}{b:ax→ax→Bool}(hb:q9 b)(hs:l.Pairwise (fun x y=>b x y=true))(al:l.length≤1000)
 {f:ax→ax→Option Int} (bb:∀ a∈l,bs (f a x) (fun r=>r<0↔b a x=true)):
 bs (An l x f) (fun r=>r.1=(kr b l x:Int)):=by
 unfold An
 have gk:=Ka (b:=b) (l:=l) (x:=x)
 have u4:∀ h,h<l.length→ay l h∈l:=fun h cu=>by rw [eU _ cu];exact List.getElem_mem _
 have ns:∀ q:Bool,bs ((cH (decide (((kr b l x:Nat):Int)<(l.length:Int))) true (idx l.length ((kr b l x:Nat):Int))).bind fun bT=>
  (cH (decide (((kr b l x:Nat):Int)<(l.length:Int))) true (f (ay l bT) x)).bind fun an=>some (((kr b l x:Nat):Int),(decide (((kr b l x:Nat):Int)<(l.length:Int)))&&(an==0))) (fun r=>r.1=(kr b l x:Int)):=fun _=>by
  refine .cH (P:=fun c=>c=kr b l x) (fun h=>⟨_,pa (by simpa using h),rfl⟩) fun bT ad=>.cH (P:=fun _=>True) (fun h=>?_) fun an _=>.ret rfl
  rw [ad h]
  exact(bb _ (u4 _ (by simpa using h))).mono fun _ _=>trivial
 refine bs.loop l.length (fun r st=> ∃ i j:Nat,st=((i:Int),(j:Int))∧i≤kr b l x∧kr b l x≤j∧j≤l.length∧j - i≤l.length - r) (by omega) ⟨0,l.length,rfl,by omega,by omega,by omega,by omega⟩ (fun r st aR kN=>?_) (fun st kN=>?_)
 ·obtain⟨i,j,rfl,h1,ad,aD,aZ⟩:=kN
  refine .cond (fun aj=>?_) fun aj=>.ret ?_
  ·have gd:i<j:=by simpa using aj
   rw [aaN (by omega)]
   have hm:(i+j) / 2<l.length:=by omega
   refine .idx rfl hm ((bb _ (u4 _ hm)).bind fun aE bw=>?_)
   have ct:=Kb hb (x:=x) hs hm
   refine .bind (P:=fun m=> ∃ i j:Nat,m=((i:Int),(j:Int))∧i≤kr b l x∧kr b l x≤j∧j≤l.length∧j - i≤l.length - (r+1)) (.cond (fun a7=>.eq rfl (.ret ?_)) fun a7=>.ret ?_) fun m hm=>.ret ?_
   ·have:=ct.1 (bw.1 (by simpa using a7))
    refine⟨(i+j) / 2+1,j,?_,by omega,ad,aD,by omega⟩
    simp only [e0 (show(i+j) / 2<2 ^ 62 by omega)]
   ·have: ¬ (i+j) / 2<kr b l x:=fun cu=>by
     have:=bw.2 (ct.2 cu);simp at a7;omega
    exact⟨i,(i+j) / 2,rfl,h1,by omega,by omega,by omega⟩
   obtain⟨EH,Uu,rfl,bc⟩:=hm
   exact⟨EH,Uu,rfl,bc⟩
  have gd: ¬ i<j:=by simpa using aj
  have:i=kr b l x:=by omega
  subst this
  exact ns true
 obtain⟨i,j,rfl,h1,ad,aD,aZ⟩:=kN
 have gd:i=kr b l x:=by omega
 have aj:decide ((i:Int)<(j:Int))=false:=by simp;omega
 simp only [aj,cond_false]
 refine⟨_,rfl,?_⟩
 subst gd
 exact ns true
structure jv (s:aQ)(k:Nat)(l:List ax):Prop where
 ok:∀ i∈l,kc s k i
 num:l.Pairwise fun a c=>a.cB≠c.cB
 len:l.length≤900
theorem jv.vx {s:aQ}{k:Nat}{l:List ax}(h:jv s k l):tg (eJ s k) l:=h.num.imp fun cu=>aaM cu
theorem jv.eR {s:aQ}{k:Nat}{l:List ax}(h:jv s k l):(∀ i∈eR (eJ s k) l,kc s k i)∧ (eR (eJ s k) l).length≤900:=
 ⟨fun i ar=>h.ok i (oC.1 ar),by rw [aaK];exact h.len⟩
theorem F8 {s:aQ}{k:Nat}{l:List ax}{n:Int} :iY (eR (eJ s k) l) n=iY l n:=by
 unfold iY;rw [Bool.eq_iff_iff,List.any_eq_true,List.any_eq_true];exact⟨fun⟨c,h1,ad⟩=>⟨c,oC.1 h1,ad⟩,fun⟨c,h1,ad⟩=>⟨c,oC.2 h1,ad⟩⟩
theorem P0 {l:List ax}{n:Int}(h:iY l n=false):∀ c∈l,c.cB≠n:=fun c aj=>by
 unfold iY at h;rw [List.any_eq_false] at h;simpa using h c aj
theorem jv.snoc {s:aQ}{k:Nat}{l:List ax}(h:jv s k l){i:ax}(ar:kc s k i)(aO:iY l i.cB=false)(al:l.length<900):jv s k (l++[i]) where
 ok c aj:=by
  rcases List.mem_append.1 aj with aj | aj
  ·exact h.ok c aj
  rw [List.mem_singleton.1 aj];exact ar
 num:=by
  rw [List.pairwise_append];exact⟨h.num,by simp,fun a bo c aj=>by rw [List.mem_singleton.1 aj];exact P0 aO a bo⟩
 len:=by simp;omega
def oK (s:aQ)(k:Nat)(l:List ax):cK:= { o6:=s,ch:=eR (eJ s k) l }
theorem aaO {s:aQ}(h:dj s){k:Nat}(hk:k<4){l:List ax}(al:jv s k l){i:ax}(ar:kc s k i)(hlen:l.length<900):
 AB (oK s k l) i=some (!iY l i.cB,if iY l i.cB=true then oK s k l else oK s k (l++[i])):=by
 refine bs.get ?_
 unfold AB
 obtain⟨jI,hA⟩:=al.eR
 refine .cH (fun _=>SQ (oK s k l) _ (by show(eR _ l).length≤1000;omega)) fun aE h1=>?_
 have h1:=h1 rfl
 rw [Bool.false_or]
 rcases h1 with⟨rfl,ad⟩ | ⟨j,ad,rfl,aD,aZ,bc⟩
 ·have lz:iY l i.cB=false:=by rw [← ad];exact F8.symm
  refine .cond (fun aj=>by simp at aj) fun _=>?_
  refine(Yo (b:=eJ s k) (qB s k) (BO (qB s k) al.vx) (by omega) fun a bo=>Zb h hk rfl (jI a bo) ar).bind fun an cy=>.eq (zb h hk ar) ?_
  rw [cy]
  unfold EN
  have gk:=Ka (b:=eJ s k) (l:=eR (eJ s k) l) (x:=i)
  refine .eq (a:=eR (eJ s k) (l++[i])) ?_ (.ret ?_)
  ·show Dx 88 (eR (eJ s k) l) _ _=_
   unfold Dx
   have mR:maxLen=9223372036854775807:=rfl
   rw [if_pos ⟨by omega,by omega,by simp,by simp <;> omega,by simp <;> omega⟩,B4,Ra]
   simp
  rw [lz];rfl
 have Ad:iY l i.cB=true:=by rw [← aZ];exact F8.symm
 refine .cond (fun _=>.ret ?_) fun aj=>by simp at aj <;> omega
 rw [Ad];rfl
theorem Yp {s:aQ}(h:dj s){k:Nat}(hk:k<4){l:List ax}(al:jv s k l)(p:Vector au 4):
 x3 (oK s k l) p=some (match (eR (eJ s k) l).find? (fun c=>mt s k p c.bA) with | some c=>(c,true) | none=>(default,false)):=by
 refine bs.get ?_
 obtain⟨jI,hA⟩:=al.eR
 unfold x3
 refine .eq (a:=p) rfl ?_
 unfold Ao
 have L3:∀ i (ar:i<(eR (eJ s k) l).length),yw s (ay (eR (eJ s k) l) i).bA p=some (mt s k p (ay (eR (eJ s k) l) i).bA)∧oi (ay (eR (eJ s k) l) i)=some (ay (eR (eJ s k) l) i):=fun i ar=>by
  have hm:=jI (ay (eR (eJ s k) l) i) (by rw [eU _ ar];exact List.getElem_mem _);exact⟨Xe h hk hm.fC p,zb h hk hm⟩
 show bs ((Option.bind (Option.bind (ey et _ _) _) _)) _
 rw [Option.bind_assoc]
 refine bs.loop (eR (eJ s k) l).length (fun i st=>st=((i:Int),())∧ ∀ j,j<i→mt s k p (ay (eR (eJ s k) l) j).bA=false) (by omega) ⟨rfl,fun j aF=>by omega⟩ (fun i st ar hs=>?_) (fun st hs=>?_)
 ·obtain⟨rfl,hs⟩:=hs
  obtain⟨g1,g2⟩:=L3 i ar
  refine .cond (fun _=>?_) (fun aj=>by simp [oK] at aj;omega)
  refine .idx rfl ar (.eq g1 (.cond (fun hm=>.eq (a:=(Sum.inr (true,ay (eR (eJ s k) l) i):Unit ⊕ (Bool×ax))) (by show Option.bind (oi (ay (eR (eJ s k) l) i)) _=_;rw [g2];rfl) (.ret ?_)) fun hm=>.ret ⟨?_,fun j aF=>?_⟩))
  ·refine .ret ?_
   rw [PU (xs:=eR (eJ s k) l) (p:=fun c=>mt s k p c.bA) ar hm hs]
  ·rw [e0 (by omega)]
  by_cases hZ:j=i
  ·subst hZ;exact hm
  exact hs j (by omega)
 obtain⟨rfl,hs⟩:=hs
 have aj:decide (((eR (eJ s k) l).length:Int)<((oK s k l).ch.length:Int))=false:=by simp [oK]
 simp only [aj,cond_false]
 refine⟨_,rfl,.ret ?_⟩
 rw [PV fun c aj=>?_]
 obtain⟨j,aF,rfl⟩:=List.mem_iff_getElem.1 aj
 rw [← eU _ aF];exact hs j aF
theorem XE {s:aQ}(h:dj s){k:Nat}(hk:k<4){l:List ax}(al:∀ i∈l,kc s k i)(aO:l.length≤1000):yK l=some l:=by
 refine bs.get ?_;unfold yK;refine bs.loop l.length (fun i st=>st=((i:Int),l.take i)) (by omega) rfl (fun i st ar hs=>?_) (fun st hs=>?_)
 ·subst hs;refine .cond (fun _=>?_) (fun aj=>by simp at aj;omega);refine .idx rfl ar (.eq (zb h hk (al _ (by rw [eU _ ar];exact List.getElem_mem _))) (.eq (iJ _ _ (by simp;omega) (by omega)) (.ret ?_)));rw [e0 (by omega),oj l ar]
 subst hs;refine⟨_,by simp;rfl,.ret ?_⟩;simp
theorem aaP {s:aQ}(h:dj s){k:Nat}(hk:k<4){l:List ax}(al:jv s k l):AA (oK s k l)=some (eR (eJ s k) l):=by
 unfold AA;obtain⟨jI,hA⟩:=al.eR;show Option.bind (yK (eR (eJ s k) l)) _=_;rw [XE h hk jI (by omega)];rfl
theorem FO (v:au):pM v v=some 0:=by
 obtain⟨r,h1,ad,aD⟩:=Fz v v;rw [ug] at ad aD;have:r=0:=by
  have dn: ¬ r>0:=fun h=>by simpa using ad.1 h
  have a2: ¬ r<0:=fun h=>by simpa using aD.1 h
  omega
 rw [h1,this]
theorem Xg (m:b5):vV m m=some 0:=by
 unfold vV;rw [FO,FO,FO];simp
theorem BP (n:Int):o3 n n=some 0:=by
 unfold o3;simp
theorem Wz (l:List b5)(al:l.length≤1000):tZ l l=some 0:=by
 refine bs.get ?_;unfold tZ;refine bs.loop l.length (fun i st=>st=(i:Int)) (by omega) rfl (fun i st ar hs=>?_) (fun st hs=>?_)
 ·subst hs;refine .cond (fun _=>?_) (fun aj=>by simp at aj;omega);exact .idx rfl ar (.idx rfl ar (.eq (Xg _) (.cond (fun aj=>by simp at aj) fun _=>.ret (e0 (by omega)))))
 subst hs;refine⟨_,by simp;rfl,?_⟩;simp only [Sum.elim_inl];exact .eq (BP _) (.ret rfl)
theorem WV (l:List au)(al:l.length≤1000):vS l l=some 0:=by
 refine bs.get ?_;unfold vS;refine bs.loop l.length (fun i st=>st=(i:Int)) (by omega) rfl (fun i st ar hs=>?_) (fun st hs=>?_)
 ·subst hs;refine .cond (fun _=>?_) (fun aj=>by simp at aj;omega);exact .idx rfl ar (.idx rfl ar (.eq (FO _) (.cond (fun aj=>by simp at aj) fun _=>.ret (e0 (by omega)))))
 subst hs;refine⟨_,by simp;rfl,?_⟩;simp only [Sum.elim_inl];exact .eq (BP _) (.ret rfl)
theorem Yq {e:bd}(h1:e.bY.length≤1000)(ad:e.hX.length≤1000):ua e e=some 0:=by
 unfold ua;rw [BP,Option.bind_some,BP,Option.bind_some,Wz _ h1,Option.bind_some,BP,Option.bind_some];refine bs.get ?_;refine bs.loop 4 (fun i st=>st=(i:Int)) (by omega) rfl (fun i st ar hs=>?_) (fun st hs=>?_)
 ·subst hs;refine .cond (fun _=>?_) (fun aj=>by simp at aj;omega);have bR:ay [(0:Int),0,0,0] i=0:=by
   rcases (show i=0∨i=1∨i=2∨i=3 by omega) with rfl | rfl | rfl | rfl <;> rfl
  refine .idx rfl (by simpa using ar) (.cond (fun aj=>by rw [bR] at aj;simp at aj) fun _=>.ret (e0 (by omega)))
 subst hs;refine⟨_,rfl,?_⟩;simp only [Sum.elim_inl];exact .eq (WV _ ad) (.ret rfl)
theorem FP {i:ax}(h1:i.bA.bY.length≤1000)(ad:i.bA.hX.length≤1000):qo i i=some true:=by
 unfold qo Fs;rw [Yq h1 ad];simp
theorem kc.small {s:aQ}(h:dj s){k:Nat}(hk:k<4){i:ax}(ar:kc s k i):i.bA.bY.length≤1000∧i.bA.hX.length≤1000:=by
 have h1:=ar.fC.len;have ad:=ar.fC.args;have aD:=(h.jD hk).2.1.2;exact⟨by omega,by omega⟩
theorem WW {l:List ax}(al:∀ i∈l,i.bA.bY.length≤1000∧i.bA.hX.length≤1000)(aO:l.length≤1000):Bn l l=some true:=by
 refine bs.get ?_;unfold Bn;refine .cond (fun aj=>by simp at aj) fun _=>?_;refine bs.loop l.length (fun i st=>st=(i:Int)) (by omega) rfl (fun i st ar hs=>?_) (fun st hs=>?_)
 ·subst hs;refine .cond (fun _=>?_) (fun aj=>by simp at aj;omega);have:=al (ay l i) (by rw [eU _ ar];exact List.getElem_mem _);exact .idx rfl ar (.idx rfl ar (.eq (FP this.1 this.2) (.cond (fun aj=>by simp at aj) fun _=>.ret (e0 (by omega)))))
 subst hs;refine⟨_,by simp;rfl,?_⟩;simp only [Sum.elim_inl];exact .ret rfl
def kQ (o:Option ax):ax×Bool:=match o with | some c=>(c,true) | none=>(default,false)
theorem Z2 {s:aQ}(h:dj s){k:Nat}(hk:k<4){l:List ax}(al:jv s k l)(p:Vector au 4):
 BA s l p=some (kQ ((eR (eJ s k) l).find? (fun c=>mt s k p c.bA))):=by
 refine bs.get ?_
 unfold BA
 have hlen:=al.len
 refine bs.loop l.length (fun i st=>st=((kQ ((eR (eJ s k) (l.take i)).find? (fun c=>mt s k p c.bA))).2,(i:Int),(kQ ((eR (eJ s k) (l.take i)).find? (fun c=>mt s k p c.bA))).1)) (by omega) rfl (fun i st ar hs=>?_) (fun st hs=>?_)
 ·subst hs
  refine .cond (fun _=>?_) (fun aj=>by simp at aj;omega)
  have ao:kc s k (ay l i):=al.ok _ (by rw [eU _ ar];exact List.getElem_mem _)
  refine .idx rfl ar (.eq (Xf h hk ao.fC p) ?_)
  have zW:tg (eJ s k) (l.take (i+1)):=al.vx.sublist (List.take_sublist _ _)
  rw [oj l ar] at zW
  obtain⟨dQ,fr⟩:=zW.snoc
  have bb:=Pe (qB s k) (p:=fun c=>mt s k p c.bA) (x:=ay l i) (BO (qB s k) dQ) fun a bo=>fr a (oC.1 bo)
  rw [← B4,← oj l ar] at bb
  have u4:∀ c,(eR (eJ s k) (l.take i)).find? (fun c=>mt s k p c.bA)=some c→kc s k c:=fun c aj=>al.ok c (List.mem_of_mem_take (oC.1 (List.mem_of_find?_eq_some aj)))
  rw [bb]
  cases hm:mt s k p (ay l i).bA
  ·refine .cH (P:=fun _=>True) (fun aj=>by simp at aj) fun an _=>?_
   refine .eq rfl (.ret ?_)
   simp only [e0 (show i<2 ^ 62 by omega)]
   simp
  cases agO:(eR (eJ s k) (l.take i)).find? (fun c=>mt s k p c.bA) with
  | none=>
    refine .cH (P:=fun _=>True) (fun aj=>by simp [kQ] at aj) fun an _=>?_
    refine .eq (a:=(true,ay l i)) (by simp [kQ]) (.ret ?_)
    simp only [e0 (show i<2 ^ 62 by omega)]
    simp [kQ]
  | some c=>
    refine .cH (P:=fun r=>r=eJ s k (ay l i) c) (fun aj=>⟨_,Yn h hk ao.fC (u4 c agO).fC,rfl⟩) fun an ad=>?_
    rw [ad (by simp [kQ])]
    cases Ud:eJ s k (ay l i) c
    ·refine .eq (a:=(true,c)) (by simp [kQ]) (.ret ?_)
     simp only [e0 (show i<2 ^ 62 by omega)]
     simp [kQ,Ud]
    refine .eq (a:=(true,ay l i)) (by simp [kQ]) (.ret ?_)
    simp only [e0 (show i<2 ^ 62 by omega)]
    simp [kQ,Ud]
 subst hs
 refine⟨_,by simp;rfl,.ret ?_⟩
 simp
theorem XF {s:aQ}(h:dj s){k:Nat}(hk:k<4){l:List ax}(al:jv s k l)(p:Vector au 4):
 x3 (oK s k l) p=some (kQ ((eR (eJ s k) l).find? (fun c=>mt s k p c.bA))):=by
 rw [Yp h hk al];unfold kQ;cases List.find? (fun c=>mt s k p c.bA) (eR (eJ s k) l) <;> rfl
theorem Zc (c:aV):bs (AK c) (fun _=>True):=by
 unfold AK;first | exact .ret trivial | exact .eq rfl (.ret trivial)
structure js (hp:aY Cell)(t:Nat)(g:List Bool→Option Int):Prop where
 ok:∃ c,ga hp t=some c∧c.fT=32∧oB hp c.eg∧ ∀ a1,cont hp c.eg a1=g a1
def Own (hp:aY Cell)(t q:Nat):Prop:=q=t∨ ∃ c a1,ga hp t=some c∧c4 hp c.eg a1=some q
def dG (v:au)(n:Nat):List Bool:=(List.range n).map fun i=>cx v (31 - i)
theorem BI (v:au)(n:Nat):dG v (n+1)=dG v n++[cx v (31 - n)]:=by simp [dG,List.range_succ]
theorem BJ (v:au):dG v 0= []:=rfl
theorem OR {hp:aY Cell}{t:Nat}{c:fR}(aj:ga hp t=some c)(hb:c.fT=32){n:Nat}(aO:n≤32){v:au}(a6:∀ j,j<128→cx v j=true→lead 32 n j=true):
 yd hp (some t) v n=some true:=by
 refine bs.get ?_
 unfold yd
 have aw:(Option.isSome (some t)&&decide ((n:Int)≥0))=true:=by simp
 have aX:decide ((n:Int)≤c.fT)=true:=by rw [hb];simp;omega
 refine .cH (P:=fun r=>r=t) (fun _=>⟨t,rfl,rfl⟩) fun cC h1=>?_
 rw [h1 aw]
 refine .cH (P:=fun r=>r=c) (fun _=>⟨c,aj,rfl⟩) fun c1 ad=>?_
 rw [ad aw]
 rw [aw,aX]
 refine .cH (P:=fun r=>r=t) (fun _=>⟨t,rfl,rfl⟩) fun cV aD=>?_
 rw [aD rfl]
 refine .cH (P:=fun r=>r=c) (fun _=>⟨c,aj,rfl⟩) fun c2 aZ=>?_
 rw [aZ rfl,hb]
 refine .cH (fun _=>Ot 32 n (by decide) (by decide)) fun aE bc=>?_
 refine .cH (P:=fun r=>r=tf v aE) (fun _=>⟨_,and_eq v aE,rfl⟩) fun an bu=>?_
 refine .eq rfl (.ret ?_)
 have:an=v:=by
  rw [bu rfl];refine za fun j aF=>?_;rw [wD,bc rfl j aF];cases e:cx v j with
  | false=>rfl
  | true=>rw [a6 j aF e];rfl
 rw [this];simp
theorem Rc {v:au}{i:Nat}(ar:i<32):bs (v8 v (bE ((bE ((32:Int) - 1)) - (i:Int)))) (fun r=>r=cx v (31 - i)):=by
 have e:bE ((bE ((32:Int) - 1)) - (i:Int))=((31 - i:Nat):Int):=by
  rw [show bE ((32:Int) - 1)=31 from by rw [hN (by decide) (by decide)];rfl,hN (by omega) (by omega)];omega
 rw [e];refine(aaJ v _).mono fun r aR=>?_;rw [aR];have:decide (0≤ ((31 - i:Nat):Int)∧ ((31 - i:Nat):Int)<128)=true:=by rw [decide_eq_true_eq];omega
 rw [this,Bool.true_and];rfl
theorem Re (b:Bool):(cond b (some (1:Int)) (some 0))=some ((fF b:Nat):Int):=by cases b <;> rfl
theorem KM {σ ε:Type}{hp:aY Cell}{t:Nat}{c:fR}(aj:ga hp t=some c)(hb:c.fT=32)(v:au){n:Nat}(aO:n≤32){step:Int→σ→Option (σ ⊕ ε)}{cF:σ}{P:σ ⊕ ε→Prop}(gf:Nat→σ→Prop)(bR:gf 0 cF)
 (hs:∀ i s,i<n→gf i s→bs (step ((fF (cx v (31 - i)):Nat):Int) s) (fun r=>match r with | .inl cw=>gf (i+1) cw | .inr e=>P (.inr e))) (he:∀ s,gf n s→P (.inl s)):bs (qm hp n v (some t) step cF) P:=by
 unfold qm
 refine bs.loop n (fun i s=>s.1=(i:Int)∧gf i s.2) (by omega) ⟨rfl,bR⟩ (fun i s ar eS=>?_) (fun s eS=>?_)
 ·obtain⟨j,s⟩:=s;obtain⟨aw,aX⟩:=eS
  simp only at aw aX;subst aw
  refine bs.cond (fun _=>?_) (fun h=>by simp at h;omega)
  refine .eq rfl (.eq aj ?_)
  rw [hb]
  refine(Rc (by omega)).bind fun aE h1=>.eq (Re aE) ?_
  rw [h1]
  refine(hs i s ar aX).bind fun r aR=>?_
  cases r with
  | inl cw=>exact .ret ⟨e0 (by omega),aR⟩
  | inr e=>exact .ret (.ret aR)
 obtain⟨j,s⟩:=s;obtain⟨aw,aX⟩:=eS
 simp only at aw aX;subst aw
 refine⟨_,by simp;rfl,?_⟩
 exact .ret (he s aX)
theorem ac5 {σ ε:Type}{t:Nat}(v:au){n:Nat}(aO:n≤32){hq:σ→aY Cell}{step:Int→σ→aA (σ ⊕ ε)}{cF:σ}{P:σ ⊕ ε→Prop}(gf:Nat→σ→Prop)(bR:gf 0 cF)(mw:∀ i s,gf i s→ ∃ c,ga (hq s) t=some c∧c.fT=32)
 (hs:∀ i s,i<n→gf i s→ed (step ((fF (cx v (31 - i)):Nat):Int) s) (fun r=>match r with | .inl cw=>gf (i+1) cw | .inr e=>P (.inr e))) (he:∀ s,gf n s→P (.inl s)):ed (vO n v (some t) hq step cF) P:=by
 unfold vO
 refine .bind (P:=fun e=>match e with | .inl e=>P (.inl e.2.2) | .inr e=>P (.inr e.2.2.2.2.2.2)) (ed.loop n (fun i s=>s.1=(i:Int)∧gf i s.2) (by omega) ⟨rfl,bR⟩ (fun i s ar eS=>?_) (fun s eS=>?_)) fun e h=>?_
 ·obtain⟨j,s⟩:=s;obtain⟨aw,aX⟩:=eS
  simp only at aw aX;subst aw
  refine ed.cond (fun _=>?_) (fun h=>by simp at h;omega)
  obtain⟨c,aj,hb⟩:=mw i s aX
  refine .eq rfl (.eq aj ?_)
  rw [hb]
  refine .k5 (Rc (by omega)) fun aE h1=>.eq (Re aE) ?_
  rw [h1]
  refine .bind (hs i s ar aX) fun r aR=>?_
  cases r with
  | inl cw=>exact .ret ⟨e0 (by omega),aR⟩
  | inr e=>exact .ret aR
 ·obtain⟨j,s⟩:=s;obtain⟨aw,aX⟩:=eS
  simp only at aw aX;subst aw
  refine ed.cond (fun h=>by simp at h) fun _=>.ret (he s aX)
 cases e with
 | inl e=>exact .ret h
 | inr e=>exact .ret h
theorem Pg {hp:aY Cell}{t:Nat}{c:fR}(aj:ga hp t=some c)(hb:c.fT=32)(bP:oB hp c.eg){n:Nat}(aO:n≤32){v:au}(a6:∀ j,j<128→cx v j=true→lead 32 n j=true):
 ym hp (some t) v n=some (c4 hp c.eg (dG v n)):=by
 refine bs.get ?_
 unfold ym
 refine .eq (OR aj hb aO a6) (.cond (fun h=>by cases h) fun _=>.eq rfl (.eq aj (.eq rfl ?_)))
 show bs (Option.bind (qm hp (n:Int) v (some t) _ _) _) _
 refine bs.bind (P:=fun e:Ref ⊕ (Ref×Ref)=>e.elim (fun s=>s=c4 hp c.eg (dG v n)) (fun q=>q.2=c4 hp c.eg (dG v n))) (KM aj hb v aO (fun i s=>s=c4 hp c.eg (dG v i)) mE.symm (fun i s ar hs=>?_) (fun s hs=>hs)) fun e he=>?_
 ·refine .cond (fun h=>.ret ?_) fun h=>?_
  ·rw [Option.isNone_iff_eq_none] at h
   have aw:dG v n=dG v i++(dG v n).drop i:=by
    have:dG v i=(dG v n).take i:=by unfold dG;rw [← List.map_take,List.take_range];congr 2;omega
    rw [this,List.take_append_drop]
   show(none:Ref)=_
   rw [aw,ma,← hs,h,gQ]
  cases s with
  | none=>simp at h
  | some p=>
    obtain⟨c1,h1⟩:=bP.reads _ _ hs.symm
    refine .eq rfl (.idx rfl (by cases cx v (31 - i) <;> decide) (.eq h1 (.ret ?_)))
    show bF c1.db _=_
    rw [BI,ma,← hs,hW h1,mE]
 cases e with
 | inl s=>exact .ret he
 | inr q=>exact .ret he
theorem Rf {hp:aY Cell}{t:Nat}{g:List Bool→Option Int}(h:js hp t g){n:Nat}(aO:n≤32){v:au}(a6:∀ j,j<128→cx v j=true→lead 32 n j=true):
 vR hp (some t) v n=some (match g (dG v n) with | none=>(0,false) | some id=>(id,true)):=by
 obtain⟨c,aj,hb,bP,bH⟩:=h.ok
 refine bs.get ?_
 unfold vR
 refine .eq (Pg aj hb bP aO a6) ?_
 rw [← bH]
 cases e:c4 hp c.eg (dG v n) with
 | none=>
   rw [kC e]
   refine .cH (P:=fun _=>True) (fun h=>by cases h) fun o _=>.cH (P:=fun _=>True) (fun h=>by cases h) fun o _=>.cond (fun _=>.ret rfl) fun h=>by cases h
 | some p=>
   obtain⟨d,hd⟩:=bP.reads _ _ e
   rw [kk e hd]
   refine .cH (P:=fun r=>r=p) (fun _=>⟨p,rfl,rfl⟩) fun o h1=>?_
   rw [h1 rfl]
   refine .cH (P:=fun r=>r=d) (fun _=>⟨d,hd,rfl⟩) fun c1 ad=>?_
   rw [ad rfl]
   refine .cond (fun h=>?_) fun h=>?_
   ·have:d.e6=false:=by simpa using h
    rw [this];exact .ret rfl
   have:d.e6=true:=by simpa using h
   rw [this];exact .eq rfl (.eq hd (.ret rfl))
structure G6 (kR hp:aY Cell)(t:Nat)(g:List Bool→Option Int)(r:Nat):Prop where
 cell:∃ c,ga hp t=some c∧c.fT=32∧c.eg=some r
 tree:oB hp (some r)
 cont:∀ a1,cont hp (some r) a1=g a1
 keeps:fh kR hp (Own kR t)
 own:∀ a1 q,c4 hp (some r) a1=some q→Own kR t q∨q ∉ fe kR
theorem BQ {hp:aY Cell}{a t:Nat}{k:Cell}(bo:a ∉ fe hp)(h:pat hp t=some k):a≠t:=fun e=>bo (e ▸ la h)
theorem Ph {hp:aY Cell}{a:Nat}{x:dX} :cU ((a,.gv x)::hp) a=some x:=by rw [pO,ui,if_pos rfl]
theorem XG {hp:aY Cell}{a:Nat}(bo:a ∉ fe hp):cU hp a=none:=by unfold cU;rw [Y7 bo]
theorem yR {hp:aY Cell}{p:Nat}{k:Cell}{x:dX}(h:pat hp p=some k):cU (dx hp p (.gv x)) p=some x:=by rw [pO,wK h]
theorem ue {hp:aY Cell}{p q:Nat}{k:Cell}(h:p≠q):cU (dx hp p k) q=cU hp q:=wb (om h)
theorem N9 {hp:aY Cell}{a q:Nat}{k:Cell}(h:a≠q):cU ((a,k)::hp) q=cU hp q:=wb (by rw [ui,if_neg h])
theorem Pj {hp:aY Cell}{p:Nat}{k:Cell}{x:fR}(h:pat hp p=some k):ga (dx hp p (.j9 x)) p=some x:=by rw [sv,wK h]
theorem FA {hp:aY Cell}{p q:Nat}{k:Cell}(h:p≠q):ga (dx hp p k) q=ga hp q:=Fy (om h)
theorem Oa {hp:aY Cell}{a q:Nat}{k:Cell}(h:a≠q):ga ((a,k)::hp) q=ga hp q:=Fy (by rw [ui,if_neg h])
theorem GN {hp:aY Cell}{p t:Nat}{x:dX}{c:fR}(h1:cU hp p=some x)(ad:ga hp t=some c):p≠t:=fun e=>by
 subst e;rw [pO] at h1;rw [sv,h1] at ad;cases ad
theorem aaQ {hp:aY Cell}{t:Nat}{g:List Bool→Option Int}{c:fR}(aj:ga hp t=some c)(hb:c.fT=32)(bP:oB hp c.eg)(bH:∀ a1,cont hp c.eg a1=g a1):
 ed (cond c.eg.isNone (
     aA.bind (aA.mk hp (Cell.gv (default:dX))) fun a2=>
     aA.bind (aA.of (ga a2.2 t)) fun Et=>
     aA.bind (aA.of (some (dx a2.2 t (Cell.j9 ({ Et with eg:=(some a2.1:Ref) } :fR))))) fun vg=>
     aA.ret vg) (aA.ret hp)) (fun dd=> ∃ r,G6 hp dd t g r):=by
 have hz:=sv.1 aj
 refine .cond (fun h=>.mk fun a bo=>?_) fun h=>?_
 ·have aR:c.eg=none:=by rw [Option.isNone_iff_eq_none] at h;exact h
  have Ue:=BQ bo hz
  have Hl:ga ((a,Cell.gv default)::hp) t=some c:=by rw [Oa Ue];exact aj
  refine .eq Hl (.eq rfl (.ret ⟨a,?_⟩))
  have aO:cU (dx ((a,Cell.gv default)::hp) t (.j9 { c with eg:=some a })) a=some default:=by
   rw [ue Ue.symm,Ph]
  have bb:=OO aO
  refine⟨⟨_,Pj (sv.1 Hl),hb,rfl⟩,⟨fun a1 p h1=>?_,fun a1 cs p h1 ad=>?_,fun a1 p h1=>?_⟩,fun a1=>?_,?_,fun a1 q h1=>?_⟩
  ·rw [bb] at h1
   split at h1
   ·cases h1;exact⟨_,aO⟩
   cases h1
  ·rw [bb] at h1 ad
   split at h1 <;> split at ad
   ·rename_i aw aX;rw [aw,aX]
   ·cases ad
   ·cases h1
   cases h1
  ·rw [bb] at h1
   split at h1
   ·rename_i e;rw [e];exact Nat.zero_le _
   cases h1
  ·rw [← bH,aR,kC gQ]
   by_cases e:a1= []
   ·rw [kk (by rw [bb,if_pos e]) aO];rfl
   rw [kC (by rw [bb,if_neg e])]
  ·exact(fh.mk' bo).trans (own':=fun q=>q=t) (fh.up (own:=fun q=>q=t) rfl) fun q _ h1=>.inl h1
  rw [bb] at h1
  split at h1
  ·cases h1;exact .inr bo
  cases h1
 cases aR:c.eg with
 | none=>rw [aR] at h;cases h
 | some r=>
   rw [aR] at bP bH
   exact .ret ⟨r,⟨c,aj,hb,aR⟩,bP,bH,.refl,fun a1 q h1=>.inl (.inr ⟨c,a1,aj,by rw [aR];exact h1⟩)⟩
theorem ac6 {hp:aY Cell}{t:Nat}{g:List Bool→Option Int}(h:js hp t g){n:Nat}(aO:n≤32){v:au}(a6:∀ j,j<128→cx v j=true→lead 32 n j=true)(id:Int)(fU:g (dG v n)=none):
 ed (yx hp (some t) v n id) (fun r=>r.1=true∧js r.2 t (fun a1=>if a1=dG v n then some id else g a1)∧fh hp r.2 (Own hp t)∧ ∀ q,Own r.2 t q→Own hp t q∨q ∉ fe hp):=by
 obtain⟨c,aj,hb,bP,bH⟩:=h.ok
 unfold yx
 refine .eq (OR aj hb aO a6) (.cond (fun h=>by cases h) fun _=>.eq (Pg aj hb bP aO a6) ?_)
 refine .cH (P:=fun o=>c4 hp c.eg (dG v n)=some o) (fun h1=>?_) fun cC h1=>?_
 ·cases e:c4 hp c.eg (dG v n) with
  | none=>rw [e] at h1;cases h1
  | some p=>exact⟨p,rfl,rfl⟩
 refine .cH (P:=fun d=>cU hp cC=some d) (fun ad=>?_) fun c1 ad=>?_
 ·obtain⟨d,hd⟩:=bP.reads _ _ (h1 ad)
  exact⟨d,hd,hd⟩
 refine .cond (fun aD=>?_) fun _=>?_
 ·simp only [Bool.and_eq_true] at aD
  rw [← bH,kk (h1 aD.1) (ad aD.1),aD.2] at fU
  cases fU
 refine .eq rfl (.eq aj (.bind (aaQ aj hb bP bH) fun m1 ck=>?_))
 obtain⟨r,ck⟩:=ck
 obtain⟨gV,lT,ah2,Mi⟩:=ck.cell
 refine .eq lT (.eq rfl ?_)
 show ed (aA.bind (vO (n:Int) v (some t) _ _ _) _) _
 refine .bind (P:=fun e:(Ref×aY Cell) ⊕ Empty=> ∃ p dq,e= .inl (some p,dq)∧c4 dq (some r) (dG v n)=some p∧G6 hp dq t g r) (ac5 v aO (fun i s=> ∃ p,s.1=some p∧c4 s.2 (some r) (dG v i)=some p∧G6 hp s.2 t g r) ⟨r,Mi,mE,ck⟩ (fun i s ar=>?_) (fun i s ar hs=>?_) (fun s hs=>?_)) fun e he=>?_
 ·obtain⟨p,_,_,hm⟩:=ar
  obtain⟨d,aZ,bc,_⟩:=hm.cell
  exact⟨d,aZ,bc⟩
 ·obtain⟨agP,dq⟩:=s
  obtain⟨p,aw,aX,hm⟩:=hs
  simp only at aw aX hm
  subst aw
  obtain⟨d,hd⟩:=hm.tree.reads _ _ aX
  have ct:fF (cx v (31 - i))<2:=by cases cx v (31 - i) <;> decide
  refine .eq rfl (.idx rfl ct (.eq hd ?_))
  refine .bind (P:=fun hB=> ∃ q l5,cU hB p=some l5∧bF l5.db (fF (cx v (31 - i)))=some q∧c4 hB (some r) (dG v i)=some p∧G6 hp hB t g r) (.cond (fun bu=>.mk fun a bo=>?_) fun bu=>.ret ?_) fun hB dh=>?_
  ·have pB:bF d.db (fF (cx v (31 - i)))=none:=by rw [Option.isNone_iff_eq_none] at bu;exact bu
   have Uf:=BQ bo (pO.1 hd)
   have iQ:cU ((a,Cell.gv default)::dq) p=some d:=by rw [N9 Uf];exact hd
   refine .idx rfl ct (.eq iQ (.eq rfl (.ret ?_)))
   have gk:cU (dx ((a,Cell.gv default)::dq) p (.gv { d with db:=dr d.db (fF (cx v (31 - i))) (some a) })) a=some default:=by
    rw [ue Uf.symm,Ph]
   have dg:cU (dx ((a,Cell.gv default)::dq) p (.gv { d with db:=dr d.db (fF (cx v (31 - i))) (some a) })) p=some { d with db:=dr d.db (fF (cx v (31 - i))) (some a) } :=yR (pO.1 iQ)
   obtain⟨g1,g2,g3⟩:=grow (by unfold dG;simp;omega) hm.tree aX hd pB (XG bo) dg gk fun q jT oP=>by rw [ue jT.symm,N9 oP.symm]
   have DG:Own hp t p∨p ∉ fe hp:=hm.own _ _ aX
   refine⟨a,_,dg,by rw [ig _ _ ct,if_pos rfl],by rw [g2,if_neg (fun e=>by have:=congrArg List.length e;simp at this)];exact aX,?_,g1,fun a1=>by rw [g3,hm.cont],?_,fun a1 q hq=>?_⟩
   ·obtain⟨d4,aZ,bc,fk⟩:=hm.cell
    have hz:=GN hd aZ
    exact⟨d4,by rw [FA hz,Oa (BQ bo (sv.1 aZ))];exact aZ,bc,fk⟩
   ·refine hm.keeps.trans (own':=fun q=>q=p) ((fh.mk' bo).trans (own':=fun q=>q=p) (fh.up (own:=fun q=>q=p) rfl) fun q _ gz=>gz) fun q hq gz=>?_
    subst gz
    exact DG.resolve_right fun kO=>kO hq
   rw [g2] at hq
   split at hq
   ·cases hq;exact .inr fun gz=>bo (hm.keeps.keys _ gz)
   exact hm.own _ _ hq
  ·cases pB:bF d.db (fF (cx v (31 - i))) with
   | none=>rw [pB] at bu;cases bu
   | some q=>exact⟨q,d,hd,pB,aX,hm⟩
  obtain⟨q,l5,fk,gz,kO,r9⟩:=dh
  refine .idx rfl ct (.eq fk (.ret ⟨q,gz,?_,r9⟩))
  show c4 hB (some r) (dG v (i+1))=some q
  rw [BI,ma,kO,hW fk,gz,mE]
 ·obtain⟨agP,dq⟩:=s
  obtain⟨p,aw,aX,hm⟩:=hs
  simp only at aw aX hm
  subst aw
  exact⟨p,dq,rfl,aX,hm⟩
 obtain⟨p,dq,rfl,aX,hm⟩:=he
 obtain⟨d,hd⟩:=hm.tree.reads _ _ aX
 have Mt:=pO.1 hd
 refine .eq rfl (.eq hd (.eq rfl (.eq rfl ?_)))
 have iQ:cU (dx dq p (.gv { d with e6:=true })) p=some { d with e6:=true } :=yR Mt
 refine .eq iQ (.eq rfl (.ret ?_))
 have oO:cU (dx (dx dq p (.gv { d with e6:=true })) p (.gv { d with e6:=true,hQ:=id })) p=some { d with e6:=true,hQ:=id } :=yR (pO.1 iQ)
 obtain⟨s1,s2⟩:=Ty hm.tree aX hd oO rfl fun q hq=>by rw [ue hq.symm,ue hq.symm]
 obtain⟨d4,aZ,bc,fk⟩:=hm.cell
 have hz:=GN hd aZ
 have Ad:ga (dx (dx dq p (.gv { d with e6:=true })) p (.gv { d with e6:=true,hQ:=id })) t=some d4:=by rw [FA hz,FA hz];exact aZ
 have DG:Own hp t p∨p ∉ fe hp:=hm.own _ _ aX
 refine⟨rfl,⟨d4,Ad,bc,by rw [fk];exact s1,fun a1=>?_⟩,?_,fun q hq=>?_⟩
 ·rw [fk,s2,hm.cont];rfl
 ·refine hm.keeps.trans (own':=fun q=>q=p) ((fh.up (own:=fun q=>q=p) rfl).trans (own':=fun q=>q=p) (fh.up (own:=fun q=>q=p) rfl) fun q _ gz=>gz) fun q hq gz=>?_
  subst gz
  exact DG.resolve_right fun kO=>kO hq
 rcases hq with rfl | ⟨ke,a1,h1,ad⟩
 ·exact .inl (.inl rfl)
 rw [Ad] at h1;cases h1
 rw [fk,BW hd oO rfl (fun q hq=>by rw [ue hq.symm,ue hq.symm])] at ad
 exact hm.own _ _ ad
theorem le_toNat {x:BitVec 64}{k:Nat}(hk:k<2 ^ 64):decide (x≥BitVec.ofNat 64 k)=decide (k≤x.toNat):=by
 rw [decide_eq_decide,ge_iff_le,BitVec.le_def,BitVec.toNat_ofNat,Nat.mod_eq_of_lt hk]
theorem Yr (x:BitVec 64)(h:x.toNat<2 ^ 32):bs (yj x) (fun r=>r≤32):=by
 unfold yj;refine .bind (P:=fun m=>m=(x,0)) (.cond (fun aj=>?_) fun _=>.ret rfl) fun m1 h1=>?_
 ·rw [le_toNat (by decide)] at aj;simp at aj;omega
 subst h1;refine .bind (P:=fun m=>m.1.toNat<65536∧0≤m.2∧m.2≤16) (.cond (fun aj=>.ret ⟨?_,?_⟩) fun aj=>.ret ⟨?_,Int.le_refl 0,by show(0:Int)≤16;decide⟩) fun m2 ad=>?_
 ·rw [BitVec.toNat_ushiftRight,show(16#64).toNat=16 from rfl,Nat.shiftRight_eq_div_pow];simp only;omega
 ·rw [show bE ((0:Int)+16)=16 from by rw [hN (by decide) (by decide)];rfl];exact⟨by show(0:Int)≤16;decide,Int.le_refl 16⟩
 ·rw [le_toNat (by decide)] at aj;simp at aj;exact aj
 refine .bind (P:=fun m=>m.1.toNat<256∧0≤m.2∧m.2≤24) (.cond (fun aj=>.ret ⟨?_,?_⟩) fun aj=>.ret ⟨?_,ad.2.1,by have:=ad.2.2;simp only;omega⟩) fun m3 aD=>?_
 ·rw [BitVec.toNat_ushiftRight,show(8#64).toNat=8 from rfl,Nat.shiftRight_eq_div_pow];have:=ad.1;omega
 ·have:=ad.2;rw [hN (by omega) (by omega)];constructor <;> omega
 ·rw [le_toNat (by decide)] at aj;simp at aj;exact aj
 obtain⟨aD,aZ,bc⟩:=aD;have key:∀ k:Fin 256,∃ y,Dz (ByteArray.mk (List.toArray (List.append (List.append [0,1,2,2,3,3,3,3,4,4,4,4,4,4,4,4,5,5,5,5,5,5,5,5,5,5,5,5,5,5,5,5,6,6,6,6,6,6,6,6,6,6,6,6,6,6,6,6,6,6,6,6,6,6,6,6,6,6,6,6,6,6,6,6] [7,7,7,7,7,7,7,7,7,7,7,7,7,7,7,7,7,7,7,7,7,7,7,7,7,7,7,7,7,7,7,7,7,7,7,7,7,7,7,7,7,7,7,7,7,7,7,7,7,7,7,7,7,7,7,7,7,7,7,7,7,7,7,7]) (List.append [8,8,8,8,8,8,8,8,8,8,8,8,8,8,8,8,8,8,8,8,8,8,8,8,8,8,8,8,8,8,8,8,8,8,8,8,8,8,8,8,8,8,8,8,8,8,8,8,8,8,8,8,8,8,8,8,8,8,8,8,8,8,8,8] [8,8,8,8,8,8,8,8,8,8,8,8,8,8,8,8,8,8,8,8,8,8,8,8,8,8,8,8,8,8,8,8,8,8,8,8,8,8,8,8,8,8,8,8,8,8,8,8,8,8,8,8,8,8,8,8,8,8,8,8,8,8,8,8])))) ((k.1:Nat):Int)=some y∧y.toNat≤8:=by
  intro k;have h1:(match Dz (ByteArray.mk (List.toArray (List.append (List.append [0,1,2,2,3,3,3,3,4,4,4,4,4,4,4,4,5,5,5,5,5,5,5,5,5,5,5,5,5,5,5,5,6,6,6,6,6,6,6,6,6,6,6,6,6,6,6,6,6,6,6,6,6,6,6,6,6,6,6,6,6,6,6,6] [7,7,7,7,7,7,7,7,7,7,7,7,7,7,7,7,7,7,7,7,7,7,7,7,7,7,7,7,7,7,7,7,7,7,7,7,7,7,7,7,7,7,7,7,7,7,7,7,7,7,7,7,7,7,7,7,7,7,7,7,7,7,7,7]) (List.append [8,8,8,8,8,8,8,8,8,8,8,8,8,8,8,8,8,8,8,8,8,8,8,8,8,8,8,8,8,8,8,8,8,8,8,8,8,8,8,8,8,8,8,8,8,8,8,8,8,8,8,8,8,8,8,8,8,8,8,8,8,8,8,8] [8,8,8,8,8,8,8,8,8,8,8,8,8,8,8,8,8,8,8,8,8,8,8,8,8,8,8,8,8,8,8,8,8,8,8,8,8,8,8,8,8,8,8,8,8,8,8,8,8,8,8,8,8,8,8,8,8,8,8,8,8,8,8,8])))) ((k.1:Nat):Int) with | some y=>decide (y.toNat≤8) | none=>false)=true:=by
   revert k;decide +kernel
  split at h1
  ·rename_i y e;exact⟨y,e,by simpa using h1⟩
  cases h1
 obtain⟨y,aw,aX⟩:=key ⟨(m3.1.setWidth 8).toNat,(m3.1.setWidth 8).isLt⟩;refine .eq aw (.ret ?_);rw [hN (by omega) (by omega)];omega
def Small (v:au):Prop:= ∀ j,j<128→cx v j=true→j<32
theorem Z3 {v:au}(h:Small v):Bz v 32=some true:=by
 refine bs.get ?_;have eL:v.cZ=0#64:=by
  apply BitVec.eq_of_getLsbD_eq;intro i ar;have h1:=h (64+i) (by omega);unfold cx at h1;rw [if_neg (by omega),show 64+i - 64=i by omega] at h1;rw [BitVec.getLsbD_zero];cases e:v.cZ.getLsbD i with
  | false=>rfl
  | true=>have:=h1 e;omega
 have hy:v.bS.toNat<2 ^ 32:=by
  refine Nat.lt_pow_two_of_testBit _ fun i ar=>?_;cases e:v.bS.toNat.testBit i with
  | false=>rfl
  | true=>
    have ct:i<64:=by
     rcases Nat.lt_or_ge i 64 with h1 | h1
     ·exact h1
     rw [Nat.testBit_lt_two_pow (Nat.lt_of_lt_of_le v.bS.isLt (Nat.pow_le_pow_right (by decide) h1))] at e;cases e
    have:=h i (by omega) (by unfold cx;rw [if_pos ct,BitVec.getLsbD,e])
    omega
 unfold Bz Fw;rw [eL];refine .bind (P:=fun r=>r≤32) (.cond (fun aj=>by simp at aj) fun _=>(Yr _ hy).bind fun y a7=>.ret a7) fun y a7=>.ret ?_;rw [decide_eq_true a7]
def j0 (g:List Bool→Option Int)(v:au):Nat→Option (Nat×Int)
 | 0=>(g []).map fun id=>(0,id)
 | k+1=>match g (dG v (k+1)) with
   | some id=>some (k+1,id)
   | none=>j0 g v k
def enc:Option (Nat×Int)→Int×Int×Bool
 | none=>(0,0,false)
 | some (n,id)=>((n:Int),id,true)
theorem Pk {hp:aY Cell}{root:Ref}(bP:oB hp root)(a1:List Bool)(d:Nat)(o:Option (Nat×Int)):
 vL hp (c4 hp root a1) d (enc o).1 (enc o).2.1 (enc o).2.2=some (enc (match cont hp root a1 with | some id=>some (d,id) | none=>o)):=by
 refine bs.get ?_
 unfold vL
 cases e:c4 hp root a1 with
 | none=>
   rw [kC e]
   refine .cH (P:=fun _=>True) (fun h=>by cases h) fun o _=>.cH (P:=fun _=>True) (fun h=>by cases h) fun o _=>.eq rfl (.ret rfl)
 | some p=>
   obtain⟨c,aj⟩:=bP.reads _ _ e
   rw [kk e aj]
   refine .cH (P:=fun r=>r=p) (fun _=>⟨p,rfl,rfl⟩) fun cC h1=>?_
   rw [h1 rfl]
   refine .cH (P:=fun r=>r=c) (fun _=>⟨c,aj,rfl⟩) fun c1 ad=>?_
   rw [ad rfl]
   cases hu:c.e6 with
   | true=>exact .eq (a:=((d:Int),c.hQ,true)) (by simp [aj]) (.ret rfl)
   | false=>exact .eq rfl (.ret rfl)
theorem XH {hp:aY Cell}{t:Nat}{g:List Bool→Option Int}(h:js hp t g){v:au}(a6:Small v):A4 hp (some t) v=some (enc (j0 g v 32)):=by
 obtain⟨c,aj,hb,bP,bH⟩:=h.ok;refine bs.get ?_;unfold A4;refine .cH (P:=fun r=>r=t) (fun _=>⟨t,rfl,rfl⟩) fun cC h1=>?_;rw [h1 rfl];refine .cH (P:=fun r=>r=c) (fun _=>⟨c,aj,rfl⟩) fun c1 ad=>?_;rw [ad rfl,hb];refine .cH (P:=fun r=>r=true) (fun _=>⟨true,Z3 a6,rfl⟩) fun aE aD=>?_;rw [aD rfl];refine .cond (fun aj=>by cases aj) fun _=>.eq rfl (.eq aj ?_);have v0:vL hp c.eg 0 0 0 false=some (enc (j0 g v 0)):=by
  have:=Pk bP [] 0 none;rw [mE,bH] at this;refine this.trans ?_;unfold j0;cases g [] <;> rfl
 rw [hb];refine .eq v0 (.eq rfl ?_);show bs (Option.bind (qm hp ((32:Nat):Int) v (some t) _ _) _) _;refine bs.bind (P:=fun e:(Ref×Int×Int×Int×Bool) ⊕ (Ref×Int×Int×Int×Bool)=>e.elim (fun s=>s.2.2=enc (j0 g v 32)) (fun q=>q.2.2=enc (j0 g v 32)))
  (KM aj hb v (Nat.le_refl 32) (fun i s=>s=(c4 hp c.eg (dG v i),(i:Int),enc (j0 g v i))) (by rw [BJ,mE];rfl) (fun i s ar hs=>?_) (fun s hs=>by rw [hs];rfl)) fun e he=>?_
 ·subst hs;refine .cond (fun h=>.ret ?_) fun h=>?_
  ·have aO:c4 hp c.eg (dG v i)=none:=by
    simp only [Option.isNone_iff_eq_none] at h;exact h
   have key:∀ k,j0 g v (i+k)=j0 g v i:=fun k=>by
    induction k with
    | zero=>rfl
    | succ k b7=>
      have aw:dG v (i+k+1)=dG v i++(dG v (i+k+1)).drop i:=by
       have:dG v i=(dG v (i+k+1)).take i:=by unfold dG;rw [← List.map_take,List.take_range];congr 2;omega
       rw [this,List.take_append_drop]
      have:g (dG v (i+k+1))=none:=by
       rw [← bH,kC];rw [aw,ma,aO,gQ]
      show(match g (dG v (i+k+1)) with | some id=>some (i+k+1,id) | none=>j0 g v (i+k))=_
      rw [this];exact b7
   show enc (j0 g v i)=enc (j0 g v 32);have:=key (32 - i);rw [show i+(32 - i)=32 by omega] at this;rw [this]
  cases e:c4 hp c.eg (dG v i) with
  | none=>simp [e] at h
  | some p=>
    obtain⟨d,hd⟩:=bP.reads _ _ e
    refine .eq rfl (.idx rfl (by cases cx v (31 - i) <;> decide) (.eq hd ?_))
    have pB:bF d.db (fF (cx v (31 - i)))=c4 hp c.eg (dG v (i+1)):=by rw [BI,ma,e,hW hd,mE]
    have hw:bE ((i:Int)+1)=((i+1:Nat):Int):=e0 (by omega)
    simp only [pB,hw]
    refine .eq (Pk bP (dG v (i+1)) (i+1) (j0 g v i)) (.ret ?_)
    rw [bH]
    rfl
 cases e with
 | inl s=>exact .ret he
 | inr q=>exact .ret he
theorem dj.Ep {s:aQ}(h:dj s):∃ dM eC hK,∀ k,k<4→oJ (ay s.bh k)=ay (rV dM eC hK) k:=by
 obtain⟨dM,eC,hK,e⟩:=h.tables;refine⟨dM,eC,hK,fun k hk=>?_⟩;rw [← e,yP oJ (by rw [h.lj];exact hk)]
theorem wh (t:bl){r:Int×Int}(aS:List cW)(hk:t.b4=aS)(h:yz { (default:bl) with b4:=aS } =some r):yz t=some r:=by
 subst hk;exact h
def kf (k:Nat):Int:=ay [1,2,3,3] k
theorem Ys {s:aQ}(h:dj s){k:Nat}(hk:k<4):bs (yz (ay s.bh k)) (fun r=>r.1=kf k∧ (k=1→r.2=0)):=by
 obtain⟨dM,eC,hK,e⟩:=h.Ep;have e:=e k hk;have gy:(ay s.bh k).b4=(ay (rV dM eC hK) k).2.2:=congrArg (·.2.2) e;have:k=0∨k=1∨k=2∨k=3:=by omega
 rcases this with rfl | rfl | rfl | rfl
 ·exact⟨_,wh _ [pH] gy rfl,rfl,fun h=>by simp at h⟩
 ·cases dM
  ·exact⟨_,wh _ [si] gy rfl,rfl,fun _=>rfl⟩
  exact⟨_,wh _ [si,EG] gy rfl,rfl,fun _=>rfl⟩
 ·cases eC
  ·exact⟨_,wh _ [x0,xK] gy rfl,rfl,fun h=>by simp at h⟩
  exact⟨_,wh _ [x0,xK,H2] gy rfl,rfl,fun h=>by simp at h⟩
 cases hK
 ·exact⟨_,wh _ [x1] gy rfl,rfl,fun h=>by simp at h⟩
 exact⟨_,wh _ [x1,H3,si] gy rfl,rfl,fun h=>by simp at h⟩
theorem Xh {s:aQ}(h:dj s){x:Int}(ao:x<1∨4<x):bs (tY s x) (fun r=>r= -1):=by
 unfold tY;have al:=h.lj;refine(No (g:=fun t=>t.bV==x) (fun _ _=>rfl) (by omega)).bind fun r aR=>.ret ?_;rcases aR with⟨h1,_⟩ | ⟨i,h1,ad,aD,aZ⟩
 ·exact h1
 have ar:i<4:=by omega
 have:=(h.jD ar).1;simp only [beq_iff_eq] at aD;omega
structure xi (s:aQ)(k:Nat)(kR hp:aY Cell)(p:Nat):Prop where
 cell:∃ c m,iw hp p=some c∧c.qv=kf k∧c.pU=((ay s.bh k).b4.length:Int)∧c.ki=⟨some m⟩∧mf hp m=some []∧
  (k=0→ ∃ q m2,c.jc= .mK ⟨some q⟩∧nh hp q=some ⟨⟨some m2⟩⟩∧me hp m2=some []∧q ∉ fe kR∧m2 ∉ fe kR)∧
  (k=1→ ∃ m3,c.jc= .mL ⟨0,32,⟨some m3⟩⟩∧j8 hp m3=some []∧m3 ∉ fe kR)∧
  (2≤k→ ∃ q key cap,c.jc= .mM ⟨some q⟩∧oI hp q=some (({ o6:=s,ch:= [] } :cK),key,cap)∧q ∉ fe kR)∧
  p ∉ fe kR∧m ∉ fe kR∧ (∀ q,q∈fe kR→q∈fe hp)∧ ∀ q,q∈fe kR→pat hp q=pat kR q
theorem C6 {s:aQ}(h:dj s){k:Nat}(hk:k<4)(hp:aY Cell):ed (o4 hp s ((k:Int)+1)) (fun r=> ∃ p,r.1=some p∧xi s k hp r.2 p):=by
 unfold o4;refine .k5 (N6 h hk) fun aE aw=>?_;subst aw;refine .cond (fun aj=>by simp at aj;omega) fun _=>?_;refine .idx rfl (by rw [h.lj];exact hk) (.k5 (Ys h hk) fun an ad=>.mk fun m hm=>.eq rfl (.mk fun p dd=>?_));obtain⟨ahs,key⟩:=an;obtain⟨ad,aD⟩:=ad;simp only at ad aD dd;subst ad;have lx:p≠m:=fun e=>by subst e;simp [fe] at dd
 have:k=0∨k=1∨2≤k:=by omega
 rcases this with rfl | rfl | cS
 ·have e:(kf 0==1)=true:=rfl;simp only [e,cond_true];unfold Fv;refine .bind (P:=fun dq=>xi s 0 hp dq p) (.bind (P:=fun r=> ∃ q m2,r=((some q:Ref),(q,Cell.zv ⟨⟨some m2⟩⟩)::(m2,Cell.oL [])::(p,_)::(m,Cell.kI [])::hp)∧m2 ∉ fe ((p,_)::(m,Cell.kI [])::hp)∧q ∉ fe ((m2,Cell.oL [])::(p,_)::(m,Cell.kI [])::hp)) (.mk fun m2 dP=>.mk fun q hq=>.ret ⟨q,m2,rfl,dP,hq⟩) fun br aZ=>?_) fun dq bc=>.ret ⟨p,rfl,bc⟩;obtain⟨q,m2,rfl,dP,hq⟩:=aZ;simp only [fe,List.map_cons,List.mem_cons,not_or] at dP hq dd;refine .eq (by simp [iw,pat,hq.1,hq.2,dP.1,hq.2.2.1,Ne.symm];rfl) (.eq rfl (.ret ?_));refine⟨{ qv:=kf 0,pU:=((ay s.bh 0).b4.length:Int),jc:= .mK ⟨some q⟩,ki:=⟨some m⟩ },m,?_,rfl,rfl,rfl,?_,?_,fun aj=>by simp at aj,fun aj=>by simp at aj,dd.2,hm,fun x ao=>by rw [wB];exact List.mem_cons_of_mem _ (List.mem_cons_of_mem _ (List.mem_cons_of_mem _ (List.mem_cons_of_mem _ ao))),fun x ao=>?_⟩
  ·simp [iw,pat,dx,hq.1,hq.2,dP.1,hq.2.2.1]
  ·simp [mf,pat,dx,hq.1,hq.2,dP.1,hq.2.2.1,dP.2.1,dd.1]
  ·intro _;refine⟨q,m2,rfl,?_,?_,hq.2.2.2,dP.2.2⟩
   ·simp [nh,pat,dx,hq.1,hq.2,dP.1,hq.2.2.1,dP.2.1,dd.1]
   simp [me,pat,dx,hq.1,hq.2,dP.1,hq.2.2.1,dP.2.1,dd.1]
  have oT:q≠x:=fun e=>hq.2.2.2 (by rw [e];exact ao);have M5:m2≠x:=fun e=>dP.2.2 (by rw [e];exact ao);have EJ:p≠x:=fun e=>dd.2 (by rw [e];exact ao);have EK:m≠x:=fun e=>hm (by rw [e];exact ao);simp [B2,pat,oT,M5,EJ,EK]
 ·have e:(kf 1==1)=false:=rfl;have aX:(kf 1==2)=true:=rfl;simp only [e,aX,cond_true,cond_false];have aD:=aD rfl;subst aD;obtain⟨t1,⟨t2,t3⟩,t4,_⟩:=h.jD hk;have bb:(ay (ay s.bh 1).b4 0).hr=((6:Nat):Int)+1:=by
   obtain⟨dM,eC,hK,e⟩:=h.Ep;have e:=congrArg (·.2.2) (e 1 hk);show(ay (oJ (ay s.bh 1)).2.2 0).hr=_;rw [e];cases dM <;> rfl
  refine .bind (P:=fun dq=>xi s 1 hp dq p) (.bind (P:=fun dq=>xi s 1 hp dq p) ?_ fun _ bu=>.ret bu) fun dq bc=>.ret ⟨p,rfl,bc⟩;refine .idx (k:=0) rfl (by omega) ?_;simp only [bb];refine .k5 (N7 h (show 6<9 by decide)) fun cc gA=>?_;subst gA;refine .k5 (P:=fun r=>r=32) (.cond (fun _=>.idx rfl (by rw [h.rW];decide) (.ret (h.tz (show 6<9 by decide)).2)) (fun aj=>by simp at aj)) fun b hb=>?_;subst hb;refine .mk fun m3 gj=>?_;simp only [fe,List.map_cons,List.mem_cons,not_or] at gj dd;refine .eq rfl (.eq (by simp [iw,pat,gj.1];rfl) (.eq rfl (.ret ?_)));refine⟨{ qv:=kf 1,pU:=((ay s.bh 1).b4.length:Int),jc:= .mL ⟨0,32,⟨some m3⟩⟩,ki:=⟨some m⟩ },m,?_,rfl,rfl,rfl,?_,fun aj=>by simp at aj,?_,fun aj=>by simp at aj,dd.2,hm,fun x ao=>by rw [wB];exact List.mem_cons_of_mem _ (List.mem_cons_of_mem _ (List.mem_cons_of_mem _ ao)),fun x ao=>?_⟩
  ·simp [iw,pat,dx,gj.1]
  ·simp [mf,pat,dx,gj.1,gj.2.1,dd.1]
  ·intro _;refine⟨m3,rfl,?_,gj.2.2⟩;simp [j8,pat,dx,gj.1,gj.2.1,dd.1]
  have oT:m3≠x:=fun e=>gj.2.2 (by rw [e];exact ao);have EJ:p≠x:=fun e=>dd.2 (by rw [e];exact ao);have EK:m≠x:=fun e=>hm (by rw [e];exact ao);simp [B2,pat,oT,EJ,EK]
 have e:(kf k==1)=false:=by
  have:k=2∨k=3:=by omega
  rcases this with rfl | rfl <;> rfl
 have aX:(kf k==2)=false:=by
  have:k=2∨k=3:=by omega
  rcases this with rfl | rfl <;> rfl
 simp only [e,aX,cond_true,cond_false];refine .bind (P:=fun dq=>xi s k hp dq p) (.bind (P:=fun dq=>xi s k hp dq p) ?_ fun _ bu=>.ret bu) fun dq bc=>.ret ⟨p,rfl,bc⟩;refine .eq rfl (.any fun bt=>.mk fun q hq=>?_);simp only [fe,List.map_cons,List.mem_cons,not_or] at hq dd;refine .eq (by simp [iw,pat,hq.1];rfl) (.eq rfl (.ret ?_));refine⟨{ qv:=kf k,pU:=((ay s.bh k).b4.length:Int),jc:= .mM ⟨some q⟩,ki:=⟨some m⟩ },m,?_,rfl,rfl,rfl,?_,fun aj=>by omega,fun aj=>by omega,fun _=>⟨q,bt.1,bt.2,rfl,?_,hq.2.2⟩,dd.2,hm,fun x ao=>by rw [wB];exact List.mem_cons_of_mem _ (List.mem_cons_of_mem _ (List.mem_cons_of_mem _ ao)),fun x ao=>?_⟩
 ·simp [iw,pat,dx,hq.1]
 ·simp [mf,pat,dx,hq.1,hq.2.1,dd.1]
 ·simp [oI,pat,dx,hq.1]
 have oT:q≠x:=fun e=>hq.2.2 (by rw [e];exact ao);have EJ:p≠x:=fun e=>dd.2 (by rw [e];exact ao);have EK:m≠x:=fun e=>hm (by rw [e];exact ao);simp [B2,pat,oT,EJ,EK]
theorem aaR {s:aQ}(h:dj s){x:Int}(ao:x<1∨4<x)(hp:aY Cell):ed (o4 hp s x) (fun r=>r.1=none):=by
 unfold o4;refine .k5 (Xh h ao) fun aE aw=>?_;subst aw;exact .cond (fun _=>.ret rfl) fun aj=>by simp at aj
theorem F9 {s:aQ}{k:Nat}{kR hp:aY Cell}{p:Nat}(h:xi s k kR hp p):qn hp (some p)=some (kf k):=by
 obtain⟨c,m,h1,ad,_⟩:=h.cell;unfold qn;simp [h1,ad]
theorem Z4 (hp:aY Cell):ed (Bw hp) (fun r=>r.1=true):=by
 unfold Bw;refine .k5 (JA [] 0 (by decide) (by decide)) fun aE h1=>.k5 (Oq _ h1) fun an ad=>?_;obtain⟨ad,_⟩:=ad;refine .bind (C6 ad (k:=0) (by decide) _) fun br aD=>?_;obtain⟨p,e,aD⟩:=aD;rw [e];refine .eq (F9 aD) ?_;have iS:(kf 0==1)=true:=rfl;simp only [iS,decide_true,cond_true];refine .bind (C6 ad (k:=1) (by decide) _) fun cc aZ=>?_;obtain⟨bW,gA,aZ⟩:=aZ;rw [gA];refine .eq (a:=kf 1) (by unfold cH;rw [if_pos rfl];exact F9 aZ) ?_;have aw:(true&&kf 1==2)=true:=rfl;simp only [aw,decide_true,cond_true];refine .bind (C6 ad (k:=2) (by decide) _) fun bz bc=>?_;obtain⟨cm,iF,bc⟩:=bc;rw [iF];refine .eq (a:=kf 2) (by unfold cH;rw [if_pos rfl];exact F9 bc) ?_;have aX:(true&&kf 2==3)=true:=rfl;simp only [aX,decide_true,cond_true];refine .bind (C6 ad (k:=3) (by decide) _) fun cg bu=>?_;obtain⟨kS,kT,bu⟩:=bu;rw [kT];refine .eq (a:=kf 3) (by unfold cH;rw [if_pos rfl];exact F9 bu) ?_;have dc:(true&&kf 3==3)=true:=rfl;simp only [dc,decide_true,cond_true];refine .bind (aaR ad (x:=9) (by decide) _) fun cA dh=>?_;refine .eq rfl (.ret ?_);rw [dh];rfl
theorem Pl {α:Type}{b:α→α→Bool}(hb:q9 b){q:α→Bool} :∀ {l:List α} {c:α},l.Pairwise (fun x y=>b x y=true)→c∈l→q c=true→ (∀ d∈l,q d=true→d=c∨b c d=true)→l.find? q=some c
 | [],c,_,aj,_,_=>by cases aj
 | a::l,c,hs,aj,hq,hd=>by
   obtain⟨h1,ad⟩:=List.pairwise_cons.1 hs;by_cases mW:q a=true
   ·rw [List.find?_cons_of_pos mW];rcases hd a (by simp) mW with h | h
    ·rw [h]
    rcases List.mem_cons.1 aj with aD | aD
    ·rw [aD]
    have:=hb.asymm _ _ (h1 c aD);rw [this] at h;cases h
   rw [List.find?_cons_of_neg mW];rcases List.mem_cons.1 aj with aD | aD
   ·rw [aD] at hq;exact absurd hq mW
   exact Pl hb ad aD hq fun d hd' Mu=>hd d (by simp [hd']) Mu
theorem Ga {α:Type}{b:α→α→Bool}(hb:q9 b){q:α→Bool}{l:List α}{c:α}(h:tg b l)(aj:c∈l)(hq:q c=true)(hd:∀ d∈l,q d=true→d=c∨b c d=true):(eR b l).find? q=some c:=
 Pl hb (BO hb h) (oC.2 aj) hq fun d hd'=>hd d (oC.1 hd')
theorem JE {α:Type}{b:α→α→Bool}{q:α→Bool}{l:List α}(hd:∀ d∈l,q d=false):(eR b l).find? q=none:=by
 rw [List.find?_eq_none];intro x ao;rw [hd x (oC.1 ao)];simp
theorem jv.uniq {s:aQ}{k:Nat} :∀ {l:List ax},jv s k l→ ∀ {a c:ax},a∈l→c∈l→a.cB=c.cB→a=c:=fun {l} h {a c} bo aj e=>by
 have aO:=h.num;clear h;induction l with
 | nil=>cases bo
 | cons x l b7=>
   obtain⟨h1,ad⟩:=List.pairwise_cons.1 aO
   rcases List.mem_cons.1 bo with g1 | g1 <;> rcases List.mem_cons.1 aj with g2 | g2
   ·rw [g1,g2]
   ·rw [g1] at e;exact absurd e (h1 c g2)
   ·rw [g2] at e;exact absurd e.symm (h1 a g1)
   exact b7 g1 g2 ad
theorem dj.SR {s:aQ}(h:dj s):(ay s.bh 0).b4= [pH]:=by
 obtain⟨dM,eC,hK,e⟩:=h.Ep;exact congrArg (·.2.2) (e 0 (by decide))
theorem dj.C7 {s:aQ}(h:dj s):∃ b,(ay s.bh 1).b4=nm b:=by
 obtain⟨dM,eC,hK,e⟩:=h.Ep;exact⟨dM,congrArg (·.2.2) (e 1 (by decide))⟩
def h2 (s:aQ)(k:Nat):Nat:=(ay s.bh k).b4.length
theorem P1 {α:Type}[Inhabited α]{n:Nat}{f:Fin n→α}{j:Nat}(h:j<n):bF (Vector.ofFn f) j=f ⟨j,h⟩:=by unfold bF;simp [h]
def e1 (e:bd):Vector au 4:=Vector.ofFn fun i=>if i.1<e.bY.length then(ay e.bY i.1).cM else default
def k8 (n:Nat)(p:Vector au 4):Vector au 4:=Vector.ofFn fun i=>if i.1<n then bF p i.1 else default
def gH (p:Vector au 4):Vector au 4:=dr p 0 default
theorem l9 {e:bd}{j:Nat}(h:j<4):bF (e1 e) j=if j<e.bY.length then(ay e.bY j).cM else default:=P1 h
theorem nN {n:Nat}{p:Vector au 4}{j:Nat}(h:j<4):bF (k8 n p) j=if j<n then bF p j else default:=P1 h
theorem Gb {p:Vector au 4}{j:Nat} :bF (gH p) j=if j=0 then default else bF p j:=by unfold gH;rw [ig _ _ (by decide)]
theorem DH {v w:Vector au 4} :v=w↔bF v 0=bF w 0∧bF v 1=bF w 1∧bF v 2=bF w 2∧bF v 3=bF w 3:=by
 refine⟨fun h=>by rw [h];exact⟨rfl,rfl,rfl,rfl⟩,fun⟨bR,h1,ad,aD⟩=>FW fun j aF=>?_⟩;rcases (show j=0∨j=1∨j=2∨j=3 by omega) with rfl | rfl | rfl | rfl <;> assumption
theorem JF {s:aQ}(h:dj s){e:bd}(he:il s 0 e)(p:Vector au 4):mt s 0 p e=true↔k8 (h2 s 0) p=e1 e:=by
 have al:=he.len;have hm:=he.tB 0;unfold mt h2;rw [h.SR] at al hm ⊢;have hm:=(hm (by decide)).HJ rfl;have hm:(ay e.bY 0).ff=true:=hm;have aw:e.bY.length=1:=al;have iS:((List.range [pH].length).all fun i=>h9 (ay [pH] i).cO (fv (ay [pH] i)) (ay e.bY i) (bF p i))=decide (bF p 0=(ay e.bY 0).cM):=by
  show(h9 1 (fv pH) (ay e.bY 0) (bF p 0)&&true)=_;unfold h9;rw [hm];simp
 rw [iS,decide_eq_true_eq,DH];simp only [nN (show 0<4 by decide),nN (show 1<4 by decide),nN (show 2<4 by decide),nN (show 3<4 by decide),l9 (show 0<4 by decide),l9 (show 1<4 by decide),l9 (show 2<4 by decide),l9 (show 3<4 by decide),aw];simp
theorem ac7 {s:aQ}(h:dj s){l:List ax}(al:jv s 0 l)(p:Vector au 4){o:Option Int}(bk:∀ n,o=some n↔ ∃ i∈l,e1 i.bA=k8 (h2 s 0) p∧i.cB=n):
 (∀ n,o=some n→ ∃ i∈l,i.cB=n∧ (eR (eJ s 0) l).find? (fun c=>mt s 0 p c.bA)=some i)∧ (o=none→ (eR (eJ s 0) l).find? (fun c=>mt s 0 p c.bA)=none):=by
 constructor
 rotate_left
 ·intro aO
  subst aO
  refine JE fun d hd=>?_
  rw [Bool.eq_false_iff]
  intro hm
  have:=(bk d.cB).2 ⟨d,hd,((JF h (al.ok d hd).fC p).1 hm).symm,rfl⟩
  cases this
 intro n aO
 subst aO
 obtain⟨i,ar,h1,ad⟩:=(bk n).1 rfl
 refine⟨i,ar,ad,Ga (qB s 0) al.vx ar ((JF h (al.ok i ar).fC p).2 h1.symm) fun d hd hm=>.inl ?_⟩
 have aD:=(bk d.cB).2 ⟨d,hd,((JF h (al.ok d hd).fC p).1 hm).symm,rfl⟩
 have aD:n=d.cB:=by simpa using aD
 exact al.uniq hd ar (by rw [ad,aD])
theorem Zd {v w:au}{n m:Nat} :dG v n=dG w m↔n=m∧ ∀ i,i<n→cx v (31 - i)=cx w (31 - i):=by
 unfold dG;constructor
 ·intro h;have al:=congrArg List.length h;simp only [List.length_map,List.length_range] at al;subst al;refine⟨rfl,fun i ar=>?_⟩;have:=congrArg (·[i]?) h;simpa [ar] using this
 rintro ⟨rfl,h⟩;exact List.map_congr_left fun i ar=>h i (List.mem_range.1 ar)
def jV (e:bd):List Bool:=dG (ay e.bY 0).cM (ay e.bY 0).dK.toNat
theorem va {s:aQ}(h:dj s){e:bd}(he:il s 1 e):nR 2 32 (ay e.bY 0):=by
 have hm:=he.tB 0;obtain⟨b,hb⟩:=h.C7;rw [hb] at hm;cases b
 ·exact hm (by decide)
 exact hm (by decide)
theorem zc {k:Int}(bR:0≤k)(h1:k≤32){j:Nat} :lead 32 k j=true↔32 - k≤ (j:Int)∧j<32:=by
 unfold lead;rw [Bool.and_eq_true,decide_eq_true_eq,decide_eq_true_eq];omega
theorem JG {m:b5}(hm:nR 2 32 m){v:au}{n:Nat}(aO:n≤32):dG m.cM m.dK.toNat=dG v n↔m.dK=n∧ ∀ j,j<128→lead 32 m.dK j=true→cx v j=cx m.cM j:=by
 have hp:=hm.pre;rw [Zd];constructor
 ·rintro ⟨h1,ad⟩;refine⟨by omega,fun j aF al=>?_⟩;rw [zc hp.1 hp.2] at al;have:=ad (31 - j) (by omega);rw [show 31 - (31 - j)=j by omega] at this;exact this.symm
 rintro ⟨h1,ad⟩;refine⟨by omega,fun i ar=>?_⟩;exact(ad (31 - i) (by omega) ((zc hp.1 hp.2).2 (by omega))).symm
theorem P2 {s:aQ}(h:dj s){e:bd}(he:il s 1 e)(p:Vector au 4):mt s 1 p e=true↔
 gH (k8 (h2 s 1) p)=gH (e1 e)∧ ∀ j,j<128→lead 32 (ay e.bY 0).dK j=true→cx (bF p 0) j=cx (ay e.bY 0).cM j:=by
 have al:=he.len
 have hm:=he.tB 1
 have hi:=va h he
 obtain⟨b,hb⟩:=h.C7
 unfold mt h2
 rw [hb] at al hm ⊢
 have iS:h9 2 32 (ay e.bY 0) (bF p 0)=true↔ ∀ j,j<128→lead 32 (ay e.bY 0).dK j=true→cx (bF p 0) j=cx (ay e.bY 0).cM j:=by
  unfold h9;by_cases hp:(ay e.bY 0).ff=false
  ·rw [if_pos hp,hi.off hp];refine⟨fun _ j aF al=>?_,fun _=>rfl⟩;have:lead 32 (default:b5).dK j=true:=al;rw [zc (by decide) (by decide)] at this;have bR:(default:b5).dK=0:=rfl;rw [bR] at this;omega
  rw [if_neg hp,if_neg (by decide),if_pos rfl,List.all_eq_true];refine⟨fun h1 j aF al=>?_,fun h1 j aF=>?_⟩
  ·have:=h1 j (List.mem_range.2 aF);rw [al] at this;simpa using this
  cases al:lead 32 (ay e.bY 0).dK j
  ·rfl
  simp [h1 j (List.mem_range.1 aF) al]
 cases b
 ·have aw:e.bY.length=1:=al
  have aX:((List.range (nm false).length).all fun i=>h9 (ay (nm false) i).cO (fv (ay (nm false) i)) (ay e.bY i) (bF p i))=h9 2 32 (ay e.bY 0) (bF p 0):=by
   show(h9 2 32 (ay e.bY 0) (bF p 0)&&true)=_;rw [Bool.and_true]
  rw [aX,iS,DH]
  simp only [Gb,nN (show 0<4 by decide),nN (show 1<4 by decide),nN (show 2<4 by decide),nN (show 3<4 by decide),l9 (show 0<4 by decide),l9 (show 1<4 by decide),l9 (show 2<4 by decide),l9 (show 3<4 by decide),aw]
  simp [nm]
 have aw:e.bY.length=2:=al
 have ck:(ay e.bY 1).ff=true:=(hm (by decide)).HJ rfl
 have aX:((List.range (nm true).length).all fun i=>h9 (ay (nm true) i).cO (fv (ay (nm true) i)) (ay e.bY i) (bF p i))=(h9 2 32 (ay e.bY 0) (bF p 0)&&decide (bF p 1=(ay e.bY 1).cM)):=by
  show(h9 2 32 (ay e.bY 0) (bF p 0)&&(h9 1 (fv EG) (ay e.bY 1) (bF p 1)&&true))=_;rw [Bool.and_true];congr 1;unfold h9;rw [ck];simp
 rw [aX,Bool.and_eq_true,iS,DH,decide_eq_true_eq]
 simp only [Gb,nN (show 0<4 by decide),nN (show 1<4 by decide),nN (show 2<4 by decide),nN (show 3<4 by decide),l9 (show 0<4 by decide),l9 (show 1<4 by decide),l9 (show 2<4 by decide),l9 (show 3<4 by decide),aw]
 simp [nm,And.comm]
theorem P3 {g:List Bool→Option Int}{v:au} :∀ {m n:Nat} {id:Int},j0 g v m=some (n,id)→n≤m∧g (dG v n)=some id∧ ∀ k,n<k→k≤m→g (dG v k)=none
 | 0,n,id,h=>by
   unfold j0 at h;cases bH:g [] with
   | none=>rw [bH] at h;cases h
   | some x=>
     rw [bH] at h;cases h
     exact⟨Nat.le_refl 0,by rw [BJ];exact bH,fun k h1 ad=>by omega⟩
 | m+1,n,id,h=>by
   unfold j0 at h;cases bH:g (dG v (m+1)) with
   | none=>
     rw [bH] at h
     obtain⟨h1,ad,aD⟩:=P3 h
     refine⟨by omega,ad,fun k aZ bc=>?_⟩
     by_cases hk:k=m+1
     ·rw [hk];exact bH
     exact aD k aZ (by omega)
   | some x=>
     rw [bH] at h;cases h
     exact⟨Nat.le_refl _,bH,fun k h1 ad=>by omega⟩
theorem P4 {g:List Bool→Option Int}{v:au} :∀ {m:Nat},j0 g v m=none→ ∀ k,k≤m→g (dG v k)=none
 | 0,h,k,hk=>by
   have:k=0:=by omega
   subst this;unfold j0 at h;cases bH:g [] with
   | none=>rw [BJ];exact bH
   | some x=>rw [bH] at h;cases h
 | m+1,h,k,hk=>by
   unfold j0 at h;cases bH:g (dG v (m+1)) with
   | none=>
     rw [bH] at h
     by_cases xF:k=m+1
     ·rw [xF];exact bH
     exact P4 h k (by omega)
   | some x=>rw [bH] at h;cases h
theorem Ug {s:aQ}(h:dj s){e:bd}(he:il s 1 e):sj s 1 e=(ay e.bY 0).dK:=by
 have al:=he.len;unfold sj;obtain⟨b,hb⟩:=h.C7;rw [hb] at al ⊢;refine Gn (i:=0) al ?_ ?_ fun j aF=>by omega
 ·cases b <;> decide
 cases b <;> rfl
theorem G7 {s:aQ}(h:dj s){e:bd}(he:il s 1 e):e.fG=0:=by
 refine he.pri fun i ar=>?_;obtain⟨b,hb⟩:=h.C7;rw [hb] at ar ⊢;cases b
 ·have:i=0:=by have:i<1:=ar;omega
  subst this;decide
 have:i=0∨i=1:=by have:i<2:=ar;omega
 rcases this with rfl | rfl <;> decide
theorem SS {s:aQ}(h:dj s){l:List ax}(al:jv s 1 l)(p:Vector au 4){g:List Bool→Option Int}{v:au}(a6:∀ j,j<128→cx v j=(cx (bF p 0) j&&decide (j<32)))
 (bH:∀ a1 n,g a1=some n↔ ∃ i∈l,gH (e1 i.bA)=gH (k8 (h2 s 1) p)∧jV i.bA=a1∧i.cB=n):
 match j0 g v 32 with | some r=> ∃ i∈l,i.cB=r.2∧ (eR (eJ s 1) l).find? (fun c=>mt s 1 p c.bA)=some i | none=>(eR (eJ s 1) l).find? (fun c=>mt s 1 p c.bA)=none:=by
 have q2:∀ k j,j<128→lead 32 k j=true→cx v j=cx (bF p 0) j:=fun k j aF hk=>by
  rw [a6 j aF];unfold lead at hk;rw [Bool.and_eq_true,decide_eq_true_eq] at hk;rw [decide_eq_true (show j<32 by omega),Bool.and_true]
 have Ae:∀ d∈l,mt s 1 p d.bA=true→ ∃ n:Nat,n≤32∧ (ay d.bA.bY 0).dK=n∧g (dG v n)=some d.cB:=fun d hd hm=>by
  have he:=(al.ok d hd).fC;have hi:=va h he;have hp:=hi.pre;obtain⟨n,aO⟩:=Int.eq_ofNat_of_zero_le hp.1;obtain⟨h1,ad⟩:=(P2 h he p).1 hm;refine⟨n,by omega,aO,(bH _ _).2 ⟨d,hd,h1.symm,?_,rfl⟩⟩;exact(JG hi (by omega)).2 ⟨aO,fun j aF xM=>by rw [q2 _ j aF xM];exact ad j aF xM⟩
 cases e:j0 g v 32 with
 | none=>
   refine JE fun d hd=>?_
   rw [Bool.eq_false_iff]
   intro hm
   obtain⟨n,aO,_,ad⟩:=Ae d hd hm
   rw [P4 e n aO] at ad;cases ad
 | some r=>
   obtain⟨n,id⟩:=r
   obtain⟨h1,ad,aD⟩:=P3 e
   obtain⟨i,ar,g1,g2,g3⟩:=(bH _ _).1 ad
   have he:=(al.ok i ar).fC
   obtain⟨g4,g5⟩:=(JG (va h he) h1).1 g2
   have L8:mt s 1 p i.bA=true:=(P2 h he p).2 ⟨g1.symm,fun j aF xM=>by rw [← q2 _ j aF xM];exact g5 j aF xM⟩
   refine⟨i,ar,g3,Ga (qB s 1) al.vx ar L8 fun d hd hm=>?_⟩
   have Uh:=(al.ok d hd).fC
   obtain⟨m,ck,dP,gj⟩:=Ae d hd hm
   have rY:m≤n:=by
    rcases Nat.lt_or_ge n m with ct | pw
    ·rw [aD m ct ck] at gj;cases gj
    exact pw
   by_cases KQ:m=n
   ·subst KQ
    rw [ad] at gj
    have:id=d.cB:=by simpa using gj
    exact .inl (al.uniq hd ar (by rw [g3,this]))
   right
   unfold eJ
   rw [decide_eq_true_eq,Ug h he,Ug h Uh,G7 h he,G7 h Uh,dP,g4]
   omega
theorem Own.iff {hp hp':aY Cell}{t:Nat}{c:fR}(aj:ga hp t=some c)(h:∀ q,Own hp t q→pat hp' q=pat hp q):ga hp' t=some c∧ (∀ a1,c4 hp' c.eg a1=c4 hp c.eg a1)∧ ∀ q,Own hp' t q↔Own hp t q:=by
 have h1:ga hp' t=some c:=by rw [Fy (h t (.inl rfl))];exact aj
 have ad:∀ a1,c4 hp' c.eg a1=c4 hp c.eg a1:=fun a1=>ON fun p cs hp=>wb (h p (.inr ⟨c,cs,aj,hp⟩));refine⟨h1,ad,fun q=>⟨fun hq=>?_,fun hq=>?_⟩⟩
 ·rcases hq with rfl | ⟨ke,a1,g1,g2⟩
  ·exact .inl rfl
  rw [h1] at g1;cases g1;rw [ad] at g2;exact .inr ⟨c,a1,aj,g2⟩
 rcases hq with rfl | ⟨ke,a1,g1,g2⟩
 ·exact .inl rfl
 rw [aj] at g1;cases g1;exact .inr ⟨c,a1,h1,by rw [ad];exact g2⟩
theorem js.congr {hp hp':aY Cell}{t:Nat}{g:List Bool→Option Int}(h:js hp t g)(bo:∀ q,Own hp t q→pat hp' q=pat hp q):js hp' t g∧ ∀ q,Own hp' t q↔Own hp t q:=by
 obtain⟨c,aj,hb,bP,bH⟩:=h.ok;obtain⟨h1,ad,aD⟩:=Own.iff aj bo;refine⟨⟨⟨c,h1,hb,⟨fun a1 p hp=>?_,fun a1 cs p g1 g2=>?_,fun a1 p g1=>bP.dep a1 p (by rw [← ad];exact g1)⟩,fun a1=>?_⟩⟩,aD⟩
 ·rw [ad] at hp;obtain⟨d,hd⟩:=bP.reads a1 p hp;exact⟨d,by rw [wb (bo p (.inr ⟨c,a1,aj,hp⟩))];exact hd⟩
 ·rw [ad] at g1 g2;exact bP.inj a1 cs p g1 g2
 rw [← bH];cases e:c4 hp c.eg a1 with
 | none=>rw [kC e,kC (by rw [ad];exact e)]
 | some p=>
   obtain⟨d,hd⟩:=bP.reads a1 p e
   rw [kk e hd,kk (by rw [ad];exact e) (by rw [wb (bo p (.inr ⟨c,a1,aj,e⟩))];exact hd)]
theorem js.wM {hp:aY Cell}{t:Nat}{g:List Bool→Option Int}(h:js hp t g){q:Nat}(hq:Own hp t q):q∈fe hp:=by
 obtain⟨c,aj,hb,bP,bH⟩:=h.ok;rcases hq with rfl | ⟨ke,a1,g1,g2⟩
 ·exact la (sv.1 aj)
 rw [aj] at g1;cases g1;obtain⟨d,hd⟩:=bP.reads a1 q g2;exact la (pO.1 hd)
theorem js.Gp {hp:aY Cell}{t:Nat}{g:List Bool→Option Int}(h:js hp t g){q:Nat}(hq:Own hp t q):(∃ c,pat hp q=some (.j9 c))∨ ∃ c,pat hp q=some (.gv c):=by
 obtain⟨c,aj,hb,bP,bH⟩:=h.ok;rcases hq with rfl | ⟨ke,a1,g1,g2⟩
 ·exact .inl ⟨c,sv.1 aj⟩
 rw [aj] at g1;cases g1;obtain⟨d,hd⟩:=bP.reads a1 q g2;exact .inr ⟨d,pO.1 hd⟩
def hn (a c:bd):Bool:=decide (a.dB=c.dB∧a.bY=c.bY∧a.fG=c.fG)
theorem uF {a c:bd} :hn a c=true↔a.dB=c.dB∧a.bY=c.bY∧a.fG=c.fG:=by unfold hn;rw [decide_eq_true_eq]
theorem P5 (a:bd):hn a a=true:=uF.2 ⟨rfl,rfl,rfl⟩
theorem qu (a c:bd):hn a c=hn c a:=by
 rw [Bool.eq_iff_iff,uF,uF];exact⟨fun⟨x,y,z⟩=>⟨x.symm,y.symm,z.symm⟩,fun⟨x,y,z⟩=>⟨x.symm,y.symm,z.symm⟩⟩
theorem Jj {a c d:bd}(h1:hn a c=true)(ad:hn c d=true):hn a d=true:=by
 rw [uF] at *;exact⟨h1.1.trans ad.1,h1.2.1.trans ad.2.1,h1.2.2.trans ad.2.2⟩
theorem JH {a c:b5}(h1:a.ff=c.ff)(ad:a.cM=c.cM)(aD:a.fE=c.fE)(aZ:a.dK=c.dK)(bc:a.jr=c.jr):a=c:=by
 cases a;cases c;simp_all
theorem P6 {b:Int}{m ql:b5}(h:nR 1 b m)(df:nR 1 b ql)(e:m.cM=ql.cM):m=ql:=
 JH (by rw [h.HJ rfl,df.HJ rfl]) e (by rw [h.hT (by decide),df.hT (by decide)]) (by rw [h.Mo (by decide),df.Mo (by decide)]) (by rw [h.HL (by decide),df.HL (by decide)])
theorem Z5 {m ql:b5}(h:nR 2 32 m)(df:nR 2 32 ql)(e:dG m.cM m.dK.toNat=dG ql.cM ql.dK.toNat):m=ql:=by
 have hp:=h.pre;have hp':=df.pre;obtain⟨n,aO⟩:=Int.eq_ofNat_of_zero_le hp'.1;rw [aO,Int.toNat_natCast] at e;obtain⟨aw,aX⟩:=(JG h (by omega)).1 e;have dc:m.dK=ql.dK:=by omega
 have Ac:m.ff=ql.ff:=by
  cases g1:m.ff <;> cases g2:ql.ff
  ·rfl
  ·have:=df.HK rfl g2;have:=h.off g1;have bR:(default:b5).dK=0:=rfl;rw [this,bR] at dc;omega
  ·have:=h.HK rfl g1;have:=df.off g2;have bR:(default:b5).dK=0:=rfl;rw [this,bR] at dc;omega
  rfl
 refine JH Ac (za fun j aF=>?_) (by rw [h.hT (by decide),df.hT (by decide)]) dc (by rw [h.HL (by decide),df.HL (by decide)]);cases al:lead 32 m.dK j with
 | true=>exact(aX j aF al).symm
 | false=>
   have n9:cx m.cM j=false:=by
    rw [Bool.eq_false_iff];intro a6;have:=h.Mp rfl j aF a6;rw [(zc hp.1 hp.2).2 this] at al;cases al
   have px:cx ql.cM j=false:=by
    rw [Bool.eq_false_iff];intro a6;have:=df.Mp rfl j aF a6;rw [dc,(zc hp'.1 hp'.2).2 this] at al;cases al
   rw [n9,px]
theorem G8 {α:Type}[Inhabited α]{l:List α}(h:l.length=1):l= [ay l 0]:=by
 match l,h with
 | [x],_=>rfl
theorem TA {α:Type}[Inhabited α]{l:List α}(h:l.length=2):l= [ay l 0,ay l 1]:=by
 match l,h with
 | [x,y],_=>rfl
theorem Er {s:aQ}(h:dj s){a c:bd}(bo:il s 0 a)(aj:il s 0 c):hn a c=true↔e1 a=e1 c:=by
 rw [uF];have rk:=bo.len;have lc:=aj.len;have EL:=bo.tB 0;have nG:=aj.tB 0;have H5:=bo.pri;have H6:=aj.pri;rw [h.SR] at rk lc EL nG H5 H6;have hk:∀ i,i<[pH].length→ (ay [pH] i).cO≤2:=by decide
 refine⟨fun⟨h1,ad,aD⟩=>by unfold e1;rw [ad],fun e=>⟨by rw [bo.jD,aj.jD],?_,by rw [H5 hk,H6 hk]⟩⟩;have iS:=(DH.1 e).1;rw [l9 (by decide),l9 (by decide),rk,lc] at iS;have iS:(ay a.bY 0).cM=(ay c.bY 0).cM:=iS;rw [G8 (l:=a.bY) rk,G8 (l:=c.bY) lc,P6 (EL (by decide)) (nG (by decide)) iS]
theorem Af {s:aQ}(h:dj s){a c:bd}(bo:il s 1 a)(aj:il s 1 c):hn a c=true↔gH (e1 a)=gH (e1 c)∧jV a=jV c:=by
 rw [uF];have rk:=bo.len;have lc:=aj.len;have EL:=bo.tB 1;have nG:=aj.tB 1;have H5:=G7 h bo;have H6:=G7 h aj;have m0:=va h bo;have agQ:=va h aj;obtain⟨b,hb⟩:=h.C7;rw [hb] at rk lc EL nG;refine⟨fun⟨h1,ad,aD⟩=>by unfold e1 jV;rw [ad];exact⟨rfl,rfl⟩,fun⟨e,e'⟩=>⟨by rw [bo.jD,aj.jD],?_,by rw [H5,H6]⟩⟩;have bR:=Z5 m0 agQ e';cases b
 ·rw [G8 (l:=a.bY) rk,G8 (l:=c.bY) lc,bR]
 have aw:=(DH.1 e).2.1;rw [Gb,Gb,if_neg (by decide),if_neg (by decide),l9 (by decide),l9 (by decide),rk,lc] at aw;have aw:(ay a.bY 1).cM=(ay c.bY 1).cM:=aw;rw [TA (l:=a.bY) rk,TA (l:=c.bY) lc,bR,P6 (EL (by decide)) (nG (by decide)) aw]
structure gZ (s:aQ)(k:Nat)(l:List ax):Prop where
 ok:jv s k l
 key:l.Pairwise fun a c=>hn a.bA c.bA=false
theorem gZ.uniq {s:aQ}{k:Nat}{l:List ax}(h:gZ s k l){a c:ax}(bo:a∈l)(aj:c∈l)(e:hn a.bA c.bA=true):a=c:=by
 have aO:=h.key;clear h;induction l with
 | nil=>cases bo
 | cons x l b7=>
   obtain⟨h1,ad⟩:=List.pairwise_cons.1 aO
   rcases List.mem_cons.1 bo with g1 | g1 <;> rcases List.mem_cons.1 aj with g2 | g2
   ·rw [g1,g2]
   ·rw [g1,h1 c g2] at e;cases e
   ·rw [g2,qu,h1 a g1] at e;cases e
   exact b7 g1 g2 ad
def gL (l:List ax)(e:bd):Option ax:=l.find? fun i=>hn i.bA e
theorem sy {l:List ax}{e:bd}{i:ax}(h:gL l e=some i):i∈l∧hn i.bA e=true:=by
 unfold gL at h;have ad:=List.find?_some h;exact⟨List.mem_of_find?_eq_some h,ad⟩
theorem sA {l:List ax}{e:bd}(h:gL l e=none):∀ i∈l,hn i.bA e=false:=fun i ar=>by
 have:=List.find?_eq_none.1 h i ar;simpa using this
theorem gZ.aaS {s:aQ}{k:Nat}{l:List ax}(h:gZ s k l){e:bd}{i:ax}(ar:i∈l)(hk:hn i.bA e=true):gL l e=some i:=by
 cases bb:gL l e with
 | none=>rw [sA bb i ar] at hk;cases hk
 | some c=>
   obtain⟨h1,ad⟩:=sy bb
   rw [h.uniq h1 ar (Jj ad (by rw [qu];exact hk))]
def od (o:Option ax):Int×Bool:=match o with | some i=>(i.cB,true) | none=>(0,false)
theorem P7 {i:ax}{n:Int}(h:i.cB=n):od (some i)=(n,true):=by rw [← h];rfl
def oe {α β:Type}(l:List (α×β)):Prop:=l.Pairwise fun a c=>a.1≠c.1
theorem Pm {α β:Type}[DecidableEq α]:∀ {l:List (α×β)} {x:α} {v:β} {a:α×β},a∈ht l x v→a.1=x∨a∈l
 | [],x,v,a,h=>by
   have:a=(x,v):=by simpa [ht] using h
   rw [this];exact .inl rfl
 | (k,w)::r,x,v,a,h=>by
   unfold ht at h;split at h
   ·rcases List.mem_cons.1 h with h | h
    ·rw [h];exact .inl rfl
    exact .inr (by simp [h])
   rcases List.mem_cons.1 h with h | h
   ·exact .inr (by simp [h])
   exact(Pm h).imp id fun h=>List.mem_cons_of_mem _ h
theorem oe.put {α β:Type}[DecidableEq α]:∀ {l:List (α×β)} {x:α} {v:β},oe l→oe (ht l x v)
 | [],x,v,_=>by unfold ht oe;simp
 | (k,w)::r,x,v,h=>by
   obtain⟨h1,ad⟩:=List.pairwise_cons.1 h;unfold ht;split
   ·rename_i e;refine List.pairwise_cons.2 ⟨fun a bo=>?_,ad⟩;have:=h1 a bo;rw [e];exact this
   rename_i e;refine List.pairwise_cons.2 ⟨fun a bo=>?_,oe.put ad⟩;rcases Pm bo with g | g
   ·rw [g];exact fun e'=>e e'.symm
   exact h1 a g
theorem Pn {α β:Type}[DecidableEq α]:∀ {l:List (α×β)} {x:α} {a:α×β},a∈iy l x→a∈l
 | [],x,a,h=>by cases h
 | (k,w)::r,x,a,h=>by
   unfold iy at h;split at h
   ·exact List.mem_cons_of_mem _ h
   rcases List.mem_cons.1 h with h | h
   ·simp [h]
   exact List.mem_cons_of_mem _ (Pn h)
theorem oe.del {α β:Type}[DecidableEq α]:∀ {l:List (α×β)} {x:α},oe l→oe (iy l x)
 | [],x,_=>by unfold iy oe;exact .nil
 | (k,w)::r,x,h=>by
   obtain⟨h1,ad⟩:=List.pairwise_cons.1 h;unfold iy;split
   ·exact ad
   exact List.pairwise_cons.2 ⟨fun a bo=>h1 a (Pn bo),oe.del ad⟩
theorem P8 {α β:Type}[DecidableEq α]:∀ {l:List (α×β)} {x:α},(∀ a∈l,a.1≠x)→eh l x=none
 | [],_,_=>rfl
 | (k,w)::r,x,h=>by
   unfold eh;rw [if_neg fun e=>h (k,w) (by simp) e.symm,P8 fun a bo=>h a (by simp [bo])]
theorem BR {α β:Type}[DecidableEq α]:∀ {l:List (α×β)} {x y:α},oe l→eh (iy l x) y=if y=x then none else eh l y
 | [],x,y,_=>by
   show none=if y=x then none else none;split <;> rfl
 | (k,w)::r,x,y,h=>by
   obtain⟨h1,ad⟩:=List.pairwise_cons.1 h;unfold iy;by_cases e:x=k
   ·rw [if_pos e];by_cases aX:y=x
    ·rw [if_pos aX,aX,e];exact P8 fun a bo=>(h1 a bo).symm
    rw [if_neg aX];show _=if y=k then _ else _;rw [if_neg (by rw [← e];exact aX)]
   rw [if_neg e];show(if y=k then some w else eh (iy r x) y)=_;by_cases aX:y=k
   ·rw [if_pos aX,if_neg (by rw [aX];exact fun dc=>e dc.symm)];show _=if y=k then _ else _;rw [if_pos aX]
   rw [if_neg aX,BR ad];show _=if y=x then none else if y=k then _ else _;rw [if_neg aX]
structure wN (s:aQ)(hp:aY Cell)(q:Nat)(l:List ax)(own:Nat→Prop):Prop where
 ok:∃ m em,nh hp q=some ⟨⟨some m⟩⟩∧me hp m=some em∧own q∧own m∧ (∀ c6 n,eh em c6=some n↔ ∃ i∈l,e1 i.bA=c6∧i.cB=n)∧oe em
structure mI (s:aQ)(hp:aY Cell)(m:Nat)(l:List ax)(own:Nat→Prop):Prop where
 ok:∃ em,j8 hp m=some em∧own m∧
  (∀ c6 r,eh em c6=some r→ ∃ t g,r=some t∧js hp t g∧ (∀ q,Own hp t q→own q)∧ ∀ a1 n,g a1=some n↔ ∃ i∈l,gH (e1 i.bA)=c6∧jV i.bA=a1∧i.cB=n)∧
  (∀ c6,eh em c6=none→ ∀ i∈l,gH (e1 i.bA)≠c6)∧
  (∀ c6 kd t fL,eh em c6=some (some t)→eh em kd=some (some fL)→c6≠kd→ ∀ q,Own hp t q→ ¬ Own hp fL q)∧oe em
structure wO (s:aQ)(k:Nat)(hp:aY Cell)(q:Nat)(l:List ax)(own:Nat→Prop):Prop where
 ok:∃ key cap,oI hp q=some (oK s k l,key,cap)∧own q
def p3 (s:aQ)(k:Nat)(hp:aY Cell)(f:gO)(l:List ax)(own:Nat→Prop):Prop:=
 (k=0∧ ∃ q,f= .mK ⟨some q⟩∧wN s hp q l own)∨ (k=1∧ ∃ m,f= .mL ⟨0,32,⟨some m⟩⟩∧mI s hp m l own)∨ (2≤k∧ ∃ q,f= .mM ⟨some q⟩∧wO s k hp q l own)
theorem IN {hp hp':aY Cell}{p:Nat}(h:pat hp' p=pat hp p):nh hp' p=nh hp p:=by unfold nh;rw [h]
theorem Xi {hp hp':aY Cell}{p:Nat}(h:pat hp' p=pat hp p):me hp' p=me hp p:=by unfold me;rw [h]
theorem FB {hp hp':aY Cell}{p:Nat}(h:pat hp' p=pat hp p):j8 hp' p=j8 hp p:=by unfold j8;rw [h]
theorem Xj {hp hp':aY Cell}{p:Nat}(h:pat hp' p=pat hp p):oI hp' p=oI hp p:=by unfold oI;rw [h]
theorem p3.congr {s:aQ}{k:Nat}{hp hp':aY Cell}{f:gO}{l:List ax}{own:Nat→Prop}(h:p3 s k hp f l own){own':Nat→Prop}(bk:∀ q,q∈fe hp→own q→own' q)(bo:∀ q,own q→pat hp' q=pat hp q):p3 s k hp' f l own':=by
 rcases h with⟨rfl,q,rfl,h⟩ | ⟨rfl,m,rfl,h⟩ | ⟨hk,q,rfl,h⟩
 ·obtain⟨m,em,h1,ad,aD,aZ,bc,kq⟩:=h.ok;refine .inl ⟨rfl,q,rfl,⟨m,em,by rw [IN (bo q aD)];exact h1,by rw [Xi (bo m aZ)];exact ad,bk q (la (uw h1)) aD,bk m (la (rH ad)) aZ,bc,kq⟩⟩
 ·obtain⟨em,h1,ad,aD,aZ,bc,kq⟩:=h.ok;have key:∀ c6 r,eh em c6=some r→ ∃ t g,r=some t∧js hp t g∧js hp' t g∧ (∀ q,Own hp t q→own q)∧ (∀ q,Own hp' t q↔Own hp t q)∧ ∀ a1 n,g a1=some n↔ ∃ i∈l,gH (e1 i.bA)=c6∧jV i.bA=a1∧i.cB=n:=fun c6 r aR=>by
   obtain⟨t,g,rfl,g1,g2,g3⟩:=aD c6 r aR;obtain⟨g4,g5⟩:=g1.congr fun q hq=>bo q (g2 q hq);exact⟨t,g,rfl,g1,g4,g2,g5,g3⟩
  refine .inr (.inl ⟨rfl,m,rfl,⟨em,by rw [FB (bo m ad)];exact h1,bk m (la (mG h1)) ad,fun c6 r aR=>?_,aZ,fun c6 kd t fL bP xN da q hq=>?_,kq⟩⟩)
  ·obtain⟨t,g,rfl,g0,g1,g2,g3,g4⟩:=key c6 r aR;exact⟨t,g,rfl,g1,fun q hq=>bk q (g0.wM ((g3 q).1 hq)) (g2 q ((g3 q).1 hq)),g4⟩
  obtain⟨_,g,e,g0,g1,g2,g3,g4⟩:=key c6 _ bP;obtain⟨_,eW,e',ah3,agR,agS,agT,ah4⟩:=key kd _ xN;cases e;cases e';rw [agT];exact bc c6 kd t fL bP xN da q ((g3 q).1 hq)
 obtain⟨key,cap,h1,ad⟩:=h.ok;exact .inr (.inr ⟨hk,q,rfl,⟨key,cap,by rw [Xj (bo q ad)];exact h1,bk q (la (uz h1)) ad⟩⟩)
theorem Gc {e:bd}(al:e.bY.length≤4):ub e=some (e1 e):=by
 refine bs.get ?_;unfold ub;refine .eq (a:=e.bY) (by unfold qz;rw [if_pos ⟨by omega,by omega,by omega⟩,Int.toNat_zero,List.drop_zero,Nat.sub_zero,List.take_of_length_le (by omega)]) ?_;refine bs.loop e.bY.length (fun i st=>st.1=(i:Int)∧ ∀ j,j<4→bF st.2 j=if j<i then(ay e.bY j).cM else default) (by omega) ⟨rfl,fun j aF=>by rw [Fu];rfl⟩ (fun i st ar hs=>?_) (fun st hs=>?_)
 ·obtain⟨j,v⟩:=st;obtain⟨aw,aX⟩:=hs;simp only at aw aX;subst aw;refine .cond (fun _=>?_) (fun aj=>by simp at aj;omega);refine .idx rfl ar (.idx rfl (by omega) (.ret ⟨e0 (by omega),fun j aF=>?_⟩));rw [ig _ _ (by omega)];by_cases hZ:j=i
  ·rw [if_pos hZ,if_pos (by omega),hZ]
  rw [if_neg hZ,aX j aF];by_cases h:j<i
  ·rw [if_pos h,if_pos (by omega)]
  rw [if_neg h,if_neg (by omega)]
 obtain⟨j,v⟩:=st;obtain⟨aw,aX⟩:=hs;simp only at aw aX;subst aw;refine⟨_,by simp;rfl,.ret ?_⟩;exact FW fun j aF=>by rw [aX j aF,l9 aF]
theorem il.G9 {s:aQ}(h:dj s){k:Nat}(hk:k<4){e:bd}(he:il s k e):e.bY.length≤4∧1≤e.bY.length:=by
 have:=(h.jD hk).2.1;rw [he.len];omega
theorem Ze {a c:List b5}(al:a.length≤1000):Aw a c=some (decide (a=c)):=by
 refine bs.get ?_;unfold Aw;refine .cond (fun h=>.ret ?_) fun h=>?_
 ·have:a≠c:=fun e=>by rw [e] at h;simp at h
  simp [this]
 have Hz:c.length=a.length:=by
  have:(a.length:Int)=c.length:=by simpa using h
  omega
 refine bs.loop a.length (fun i st=>st=(i:Int)∧ ∀ j,j<i→ay a j=ay c j) (by omega) ⟨rfl,fun j aF=>by omega⟩ (fun i st ar hs=>?_) (fun st hs=>?_)
 ·obtain⟨rfl,hs⟩:=hs;refine .cond (fun _=>?_) (fun aj=>by simp at aj;omega);refine .idx rfl ar (.idx rfl (by omega) (.cond (fun da=>.ret ?_) fun he=>.ret ⟨e0 (by omega),fun j aF=>?_⟩))
  ·simp only [Sum.elim_inr];refine .ret ?_;have:a≠c:=fun e=>by rw [e] at da;simp at da
   simp [this]
  by_cases hZ:j=i
  ·subst hZ;simpa using he
  exact hs j (by omega)
 obtain⟨rfl,hs⟩:=hs;refine⟨_,by simp;rfl,?_⟩;simp only [Sum.elim_inl];refine .ret ?_;have:a=c:=List.ext_getElem Hz.symm fun j h1 ad=>by
  have:=hs j h1;rwa [eU _ h1,eU _ ad] at this
 simp [this]
theorem XI {a c:bd}(al:a.bY.length≤1000):Bj a c=some (hn a c):=by
 refine bs.get ?_;unfold Bj hn;refine .cH (P:=fun r=>r=decide (a.bY=c.bY)) (fun _=>⟨_,Ze al,rfl⟩) fun y a7=>.ret ?_;by_cases h:a.dB=c.dB
 ·rw [a7 (by simpa using h)];rw [Bool.eq_iff_iff];simp [h]
 simp [h]
theorem ac8 {s:aQ}(h:dj s){hp:aY Cell}{q:Nat}{l:List ax}{own:Nat→Prop}(hq:wN s hp q l own)(al:gZ s 0 l){e:bd}(he:il s 0 e):A3 hp ⟨some q⟩ e=some (od (gL l e)):=by
 obtain⟨m,em,h1,ad,_,_,bc,_⟩:=hq.ok;refine bs.get ?_;unfold A3 tW;refine .eq (Gc (he.G9 h (by decide)).1) ?_;have hm:eh em (e1 e)=(gL l e).map (·.cB):=by
  cases bb:gL l e with
  | none=>
    cases bH:eh em (e1 e) with
    | none=>rfl
    | some n=>
      obtain⟨i,ar,bu,_⟩:=(bc _ _).1 bH
      have:=sA bb i ar
      rw [(Er h (al.ok.ok i ar).fC he).2 bu] at this;cases this
  | some i=>
    obtain⟨ar,hk⟩:=sy bb
    exact(bc _ _).2 ⟨i,ar,(Er h (al.ok.ok i ar).fC he).1 hk,rfl⟩
 refine .eq (a:=od (gL l e)) ?_ (.ret rfl);show(nh hp q).bind _=_;rw [h1];show(me hp m).bind _=_;rw [ad];show some ((eh em (e1 e)).getD default,(eh em (e1 e)).isSome)=_;rw [hm];cases gL l e <;> rfl
theorem JI {s:aQ}(h:dj s){e:bd}(he:il s 1 e)(m:gE):vM ⟨0,32,m⟩ e=some (gH (e1 e),(ay e.bY 0).cM,(ay e.bY 0).dK):=by
 have al:=he.G9 h (by decide);refine bs.get ?_;unfold vM x5;refine .eq (Gc al.1) (.eq (a:=(gH (e1 e),bF (e1 e) 0)) rfl (.cond (fun aj=>by have aj:(0:Int)≥ (e.bY.length:Int):=of_decide_eq_true aj;omega) fun _=>.idx (k:=0) rfl (by omega) (.ret ?_)));rw [l9 (by decide),if_pos (by omega)]
theorem Jk {m:b5}(h:nR 2 32 m):∀ j,j<128→cx m.cM j=true→lead 32 m.dK j=true:=fun j aF a6=>
 (zc h.pre.1 h.pre.2).2 (h.Mp rfl j aF a6)
theorem ac9 {s:aQ}(h:dj s){hp:aY Cell}{m:Nat}{l:List ax}{own:Nat→Prop}(hq:mI s hp m l own)(al:gZ s 1 l){e:bd}(he:il s 1 e):AH hp ⟨0,32,⟨some m⟩⟩ e=some (od (gL l e)):=by
 obtain⟨em,h1,_,aD,aZ,_⟩:=hq.ok;have hi:=va h he;refine bs.get ?_;unfold AH;refine .eq (JI h he _) (.eq rfl (.eq h1 (.eq rfl ?_)));obtain⟨n,aO⟩:=Int.eq_ofNat_of_zero_le hi.pre.1;have DI:n≤32:=by have:=hi.pre.2;omega
 have uR:=Jk hi;refine .eq (a:=od (gL l e)) ?_ (.ret rfl);simp only;cases aR:eh em (gH (e1 e)) with
 | none=>
   have bb:gL l e=none:=by
    cases bb:gL l e with
    | none=>rfl
    | some i=>
      obtain⟨ar,hk⟩:=sy bb
      exact absurd ((Af h (al.ok.ok i ar).fC he).1 hk).1 (aZ _ aR i ar)
   rw [bb];rfl
 | some r=>
   obtain⟨t,g,rfl,g1,_,g3⟩:=aD _ _ aR
   have bH:g (jV e)=(gL l e).map (·.cB):=by
    cases bb:gL l e with
    | none=>
      cases Mv:g (jV e) with
      | none=>rfl
      | some n=>
        obtain⟨i,ar,bu,dh,_⟩:=(g3 _ _).1 Mv
        have:=sA bb i ar
        rw [(Af h (al.ok.ok i ar).fC he).2 ⟨bu,dh⟩] at this;cases this
    | some i=>
      obtain⟨ar,hk⟩:=sy bb
      obtain⟨bu,dh⟩:=(Af h (al.ok.ok i ar).fC he).1 hk
      exact(g3 _ _).2 ⟨i,ar,bu,dh,rfl⟩
   rw [aO] at uR ⊢
   show vR hp (some t) _ (n:Int)=_
   rw [Rf g1 DI uR]
   have hp':dG (ay e.bY 0).cM n=jV e:=by unfold jV;rw [aO];rfl
   rw [hp',bH]
   cases gL l e <;> rfl
theorem ada {s:aQ}(h:dj s){k:Nat}(hk:k<4){hp:aY Cell}{q:Nat}{l:List ax}{own:Nat→Prop}(hq:wO s k hp q l own)(al:gZ s k l){e:bd}(he:il s k e):A5 hp ⟨some q⟩ e=some (od (gL l e)):=by
 obtain⟨key,cap,h1,_⟩:=hq.ok;refine bs.get ?_;unfold A5;refine .eq rfl (.eq h1 (.eq (aaP h hk al.ok) ?_));obtain⟨jI,hA⟩:=al.ok.eR;have bb:gL l e=(eR (eJ s k) l).find? fun i=>hn i.bA e:=by
  cases bb:gL l e with
  | none=>
    symm
    rw [List.find?_eq_none]
    intro x ao
    rw [sA bb x (oC.1 ao)];simp
  | some i=>
    obtain⟨ar,r8⟩:=sy bb
    exact(Ga (qB s k) al.ok.vx ar r8 fun d hd agU=>.inl (al.uniq hd ar (Jj agU (by rw [qu];exact r8)))).symm
 rw [bb];refine bs.loop (eR (eJ s k) l).length (fun i st=>st=(i:Int)∧ ∀ j,j<i→hn (ay (eR (eJ s k) l) j).bA e=false) (by omega) ⟨rfl,fun j aF=>by omega⟩ (fun i st ar hs=>?_) (fun st hs=>?_)
 ·obtain⟨rfl,hs⟩:=hs;refine .cond (fun _=>?_) (fun aj=>by simp at aj;omega);have hm:=jI (ay (eR (eJ s k) l) i) (by rw [eU _ ar];exact List.getElem_mem _);refine .idx rfl ar (.eq (XI (hm.small h hk).1) (.cond (fun aj=>.ret ?_) fun aj=>.ret ⟨e0 (by omega),fun j aF=>?_⟩))
  ·simp only [Sum.elim_inr];refine .ret ?_;rw [PU (p:=fun i=>hn i.bA e) ar aj hs];rfl
  by_cases hZ:j=i
  ·subst hZ;exact aj
  exact hs j (by omega)
 obtain⟨rfl,hs⟩:=hs;refine⟨_,by simp;rfl,?_⟩;simp only [Sum.elim_inl];refine .ret ?_;rw [PV fun c aj=>?_]
 ·rfl
 obtain⟨j,aF,rfl⟩:=List.mem_iff_getElem.1 aj;rw [← eU _ aF];exact hs j aF
theorem SU {s:aQ}(h:dj s){k:Nat}(hk:k<4){hp:aY Cell}{f:gO}{l:List ax}{own:Nat→Prop}(hq:p3 s k hp f l own)(al:gZ s k l){e:bd}(he:il s k e):E4 hp f e=some (od (gL l e)):=by
 rcases hq with⟨rfl,q,rfl,hq⟩ | ⟨rfl,m,rfl,hq⟩ | ⟨cS,q,rfl,hq⟩
 ·exact ac8 h hq al he
 ·exact ac9 h hq al he
 exact ada h hk hq al he
def ks (s:aQ)(k:Nat)(l:List ax)(p:Vector au 4):Option ax:=(eR (eJ s k) l).find? fun c=>mt s k p c.bA
theorem JJ {s:aQ}{k:Nat}{l:List ax}{p:Vector au 4}{i:ax}(h:ks s k l p=some i):i∈l:=by
 unfold ks at h;exact oC.1 (List.mem_of_find?_eq_some h)
theorem adb {s:aQ}(h:dj s){k:Nat}(hk:k<4)(p:Vector au 4)(e:bd):mt s k (k8 (h2 s k) p) e=mt s k p e:=by
 unfold mt;rw [Bool.eq_iff_iff,List.all_eq_true,List.all_eq_true];have al:=(h.jD hk).2.1;have key:∀ i∈List.range (ay s.bh k).b4.length,bF (k8 (h2 s k) p) i=bF p i:=fun i ar=>by
  have:=List.mem_range.1 ar;rw [nN (by omega),if_pos (show i<h2 s k from this)]
 exact⟨fun h1 i ar=>by have:=h1 i ar;rwa [key i ar] at this,fun h1 i ar=>by rw [key i ar];exact h1 i ar⟩
theorem ade {s:aQ}(h:dj s){hp:aY Cell}{q:Nat}{l:List ax}{own:Nat→Prop}(hq:wN s hp q l own)(al:gZ s 0 l)(p:Vector au 4):AD hp ⟨some q⟩ (k8 (h2 s 0) p)=some (od (ks s 0 l p)):=by
 obtain⟨m,em,h1,ad,_,_,bc,_⟩:=hq.ok;have hb:=ac7 h al.ok p (o:=eh em (k8 (h2 s 0) p)) fun n=>bc _ n;refine bs.get ?_;unfold AD tW;refine .eq (a:=od (ks s 0 l p)) ?_ (.ret rfl);show(nh hp q).bind _=_;rw [h1];show(me hp m).bind _=_;rw [ad];show some ((eh em (k8 (h2 s 0) p)).getD default,(eh em (k8 (h2 s 0) p)).isSome)=_;cases bH:eh em (k8 (h2 s 0) p) with
 | none=>
   have hb:ks s 0 l p=none:=hb.2 bH
   rw [hb];rfl
 | some n=>
   obtain⟨i,_,aw,aX⟩:=hb.1 n bH
   have aX:ks s 0 l p=some i:=aX
   rw [aX,P7 aw];rfl
theorem SV {g:List Bool→Option Int}(h:∀ a1,g a1=none)(v:au):∀ m,j0 g v m=none
 | 0=>by unfold j0;rw [h];rfl
 | m+1=>by unfold j0;rw [h];exact SV h v m
theorem adf {s:aQ}(h:dj s){hp:aY Cell}{m:Nat}{l:List ax}{own:Nat→Prop}(hq:mI s hp m l own)(al:gZ s 1 l)(p:Vector au 4):Ay hp ⟨0,32,⟨some m⟩⟩ (k8 (h2 s 1) p)=some (od (ks s 1 l p)):=by
 obtain⟨em,h1,_,aD,aZ,_⟩:=hq.ok;have aO:1≤h2 s 1:=(h.jD (show 1<4 by decide)).2.1.1;refine bs.get ?_;unfold Ay x5;refine .eq (a:=(gH (k8 (h2 s 1) p),bF p 0)) (by show some (gH (k8 (h2 s 1) p),bF (k8 (h2 s 1) p) 0)=_;rw [nN (by decide),if_pos (by omega)]) (.eq rfl (.eq h1 (.eq rfl ((JC 32).bind fun an aX=>.eq (and_eq _ _) ?_))));simp only;have a6:∀ j,j<128→cx (tf (bF p 0) an) j=(cx (bF p 0) j&&decide (j<32)):=fun j aF=>by
  rw [wD,aX j aF];congr 1;rw [decide_eq_decide];omega
 cases aR:eh em (gH (k8 (h2 s 1) p)) with
 | none=>
   have hb:=SS h al.ok p a6 (g:=fun _=>none) fun a1 n=>⟨fun h=>(by cases h),fun⟨i,ar,bu,_⟩=>absurd bu (aZ _ aR i ar)⟩
   rw [SV (fun _=>rfl)] at hb
   have hb:ks s 1 l p=none:=hb
   rw [hb]
   exact .eq rfl (.ret rfl)
 | some r=>
   obtain⟨t,g,rfl,g1,_,g3⟩:=aD _ _ aR
   have hb:=SS h al.ok p a6 g3
   have hs:Small (tf (bF p 0) an):=fun j aF hb=>by
    rw [a6 j aF,Bool.and_eq_true,decide_eq_true_eq] at hb;exact hb.2
   refine .eq (XH g1 hs) (.ret ?_)
   cases Ui:j0 g (tf (bF p 0) an) 32 with
   | none=>
     rw [Ui] at hb
     have hb:ks s 1 l p=none:=hb
     rw [hb];rfl
   | some r=>
     rw [Ui] at hb
     obtain⟨i,_,aw,dc⟩:=hb
     have dc:ks s 1 l p=some i:=dc
     rw [dc,P7 aw];rfl
theorem adg {s:aQ}(h:dj s){k:Nat}(hk:k<4){hp:aY Cell}{q:Nat}{l:List ax}{own:Nat→Prop}(hq:wO s k hp q l own)(al:gZ s k l)(p:Vector au 4):AI hp ⟨some q⟩ (k8 (h2 s k) p)=some (od (ks s k l p)):=by
 obtain⟨key,cap,h1,_⟩:=hq.ok;refine bs.get ?_;unfold AI;refine .eq rfl (.eq h1 (.eq (XF h hk al.ok _) (.ret ?_)));have:((eR (eJ s k) l).find? fun c=>mt s k (k8 (h2 s k) p) c.bA)=ks s k l p:=by
  unfold ks;congr 1;funext c;exact adb h hk p c.bA
 rw [this];cases ks s k l p <;> rfl
theorem adh {s:aQ}(h:dj s){k:Nat}(hk:k<4){hp:aY Cell}{f:gO}{l:List ax}{own:Nat→Prop}(hq:p3 s k hp f l own)(al:gZ s k l)(p:Vector au 4):Ik hp f (k8 (h2 s k) p)=some (od (ks s k l p)):=by
 rcases hq with⟨rfl,q,rfl,hq⟩ | ⟨rfl,m,rfl,hq⟩ | ⟨cS,q,rfl,hq⟩
 ·exact ade h hq al p
 ·exact adf h hq al p
 exact adg h hk hq al p
def nS (own:Nat→Prop)(hp hp':aY Cell)(q:Nat):Prop:=own q∨ (q ∉ fe hp∧q∈fe hp')
theorem Po {hp:aY Cell}{p:Nat}{k:Cell}{x:List (Vector au 4×Int)}(h:pat hp p=some k):me (dx hp p (.oL x)) p=some x:=by unfold me;rw [wK h]
theorem Pp {hp:aY Cell}{p:Nat}{k:Cell}{x:List (Vector au 4×Ref)}(h:pat hp p=some k):j8 (dx hp p (.mh x)) p=some x:=by unfold j8;rw [wK h]
theorem afk {s:aQ}(h:dj s){hp:aY Cell}{q:Nat}{l:List ax}{own:Nat→Prop}(hq:wN s hp q l own)(al:gZ s 0 l){i:ax}(ar:kc s 0 i)(bb:gL l i.bA=none):
 bs (A7 hp ⟨some q⟩ i) (fun hp'=>wN s hp' q (l++[i]) (nS own hp hp')∧fh hp hp' own):=by
 obtain⟨m,em,h1,ad,aD,aZ,bc,kq⟩:=hq.ok
 have fU:eh em (e1 i.bA)=none:=by
  cases bH:eh em (e1 i.bA) with
  | none=>rfl
  | some n=>
    obtain⟨c,aj,bu,_⟩:=(bc _ _).1 bH
    have:=sA bb c aj
    rw [(Er h (al.ok.ok c aj).fC ar.fC).2 bu] at this;cases this
 unfold A7 Fi
 refine .eq (Gc (ar.fC.G9 h (by decide)).1) ?_
 refine .eq (a:=(true,dx hp m (Cell.oL (ht em (e1 i.bA) i.cB)))) ?_ (.ret ?_)
 ·show(nh hp q).bind _=_
  rw [h1]
  show(me hp m).bind _=_
  rw [ad]
  show cond (eh em (e1 i.bA)).isSome _ _=_
  rw [fU];rfl
 have Es:q≠m:=fun e=>by
  subst e;have:=uw h1;rw [rH ad] at this;cases this
 refine⟨⟨m,_,by rw [IN (om Es.symm)];exact h1,Po (rH ad),.inl aD,.inl aZ,fun c6 n=>?_,kq.put⟩,.up aZ⟩
 rw [BN]
 by_cases hz:c6=e1 i.bA
 ·rw [if_pos hz]
  constructor
  ·intro e
   cases e
   exact⟨i,by simp,hz.symm,rfl⟩
  rintro ⟨c,aj,bu,dh⟩
  rcases List.mem_append.1 aj with aj | aj
  ·have:=(bc _ _).2 ⟨c,aj,bu,dh⟩
   rw [hz,fU] at this;cases this
  rw [List.mem_singleton.1 aj] at dh;rw [dh]
 rw [if_neg hz,bc]
 constructor
 ·rintro ⟨c,aj,bu⟩;exact⟨c,by simp [aj],bu⟩
 rintro ⟨c,aj,bu,dh⟩
 rcases List.mem_append.1 aj with aj | aj
 ·exact⟨c,aj,bu,dh⟩
 rw [List.mem_singleton.1 aj] at bu;exact absurd bu.symm hz
theorem afl {s:aQ}(h:dj s){hp:aY Cell}{m:Nat}{l:List ax}{own:Nat→Prop}(hq:mI s hp m l own)(fc:∀ q,own q→q∈fe hp)(al:gZ s 1 l){i:ax}(ar:kc s 1 i)(bb:gL l i.bA=none)
 {em:List (Vector au 4×Ref)} (mv:j8 hp m=some em) {t:Nat} (bP:eh em (gH (e1 i.bA))=some (some t)):
 ed (yx hp (some t) (ay i.bA.bY 0).cM (ay i.bA.bY 0).dK i.cB) (fun r=>mI s r.2 m (l++[i]) (nS own hp r.2)∧fh hp r.2 own):=by
 obtain⟨agV,h1,ad,aD,aZ,bc,kq⟩:=hq.ok
 rw [mv] at h1;cases h1
 have hi:=va h ar.fC
 obtain⟨fL,g,e,g1,g2,g3⟩:=aD _ _ bP
 cases e
 obtain⟨n,aO⟩:=Int.eq_ofNat_of_zero_le hi.pre.1
 have DI:n≤32:=by have:=hi.pre.2;omega
 have uR:=Jk hi
 have hp':dG (ay i.bA.bY 0).cM n=jV i.bA:=by unfold jV;rw [aO];rfl
 have fU:g (jV i.bA)=none:=by
  cases Mv:g (jV i.bA) with
  | none=>rfl
  | some n=>
    obtain⟨c,aj,bu,dh,_⟩:=(g3 _ _).1 Mv
    have:=sA bb c aj
    rw [(Af h (al.ok.ok c aj).fC ar.fC).2 ⟨bu,dh⟩] at this;cases this
 rw [aO] at uR ⊢
 refine(ac6 g1 DI uR i.cB (by rw [hp'];exact fU)).mono fun r aR=>?_
 obtain⟨_,jI,hA,oW⟩:=aR
 rw [hp'] at jI
 have Ae:∀ q,Own hp t q→q≠m:=fun q Mw e=>by
  have:=mG mv;rw [← e] at this;rcases g1.Gp Mw with⟨c,aj⟩ | ⟨c,aj⟩ <;> rw [aj] at this <;> cases this
 have lx:pat r.2 m=pat hp m:=hA.rest m (la (mG mv)) fun hq=>Ae m hq rfl
 have rI:∀ c6 fL,c6≠gH (e1 i.bA)→eh em c6=some (some fL)→ ∃ eW,js hp fL eW∧js r.2 fL eW∧ (∀ q,Own hp fL q→own q)∧ (∀ q,Own r.2 fL q↔Own hp fL q)∧ ∀ a1 n,eW a1=some n↔ ∃ i∈l,gH (e1 i.bA)=c6∧jV i.bA=a1∧i.cB=n:=fun c6 fL da aR=>by
  obtain⟨agW,eW,e,dn,a2,a3⟩:=aD c6 _ aR;cases e;obtain⟨dM,eC⟩:=dn.congr (hp':=r.2) fun q hq=>hA.rest q (dn.wM hq) fun jn=>bc _ _ _ _ bP aR da.symm q jn hq;exact⟨eW,dn,dM,a2,eC,a3⟩
 have DG:∀ q,Own r.2 t q→nS own hp r.2 q:=fun q hq=>by
  rcases oW q hq with bu | bu
  ·exact .inl (g2 q bu)
  exact .inr ⟨bu,jI.wM hq⟩
 refine⟨⟨em,by rw [FB lx];exact mv,.inl ad,fun c6 kz ia=>?_,fun c6 hz c aj=>?_,fun c6 kd t1 t2 jE kt da q jT oP=>?_,kq⟩,⟨hA.keys,fun q hq fU=>hA.rest q hq fun jn=>fU (g2 q jn)⟩⟩
 ·by_cases hz:c6=gH (e1 i.bA)
  ·subst hz
   rw [bP] at ia;cases ia
   refine⟨t,_,rfl,jI,DG,fun a1 tM=>?_⟩
   by_cases k6:a1=jV i.bA
   ·simp only [if_pos k6]
    constructor
    ·intro e;cases e
     exact⟨i,by simp,rfl,k6.symm,rfl⟩
    rintro ⟨c,aj,bu,dh,fk⟩
    rcases List.mem_append.1 aj with aj | aj
    ·have:=(g3 _ _).2 ⟨c,aj,bu,dh,fk⟩
     rw [k6,fU] at this;cases this
    rw [List.mem_singleton.1 aj] at fk;rw [fk]
   simp only [if_neg k6]
   rw [g3]
   constructor
   ·rintro ⟨c,aj,bu⟩;exact⟨c,by simp [aj],bu⟩
   rintro ⟨c,aj,bu,dh,fk⟩
   rcases List.mem_append.1 aj with aj | aj
   ·exact⟨c,aj,bu,dh,fk⟩
   rw [List.mem_singleton.1 aj] at dh;exact absurd dh.symm k6
  obtain⟨fL,eW,e,_⟩:=aD c6 kz ia
  subst e
  obtain⟨xO,dn,a2,a3,a4,a5⟩:=rI c6 fL hz ia
  refine⟨fL,xO,rfl,a2,fun q hq=>.inl (a3 q ((a4 q).1 hq)),fun a1 tM=>?_⟩
  rw [a5]
  constructor
  ·rintro ⟨c,aj,bu⟩;exact⟨c,by simp [aj],bu⟩
  rintro ⟨c,aj,bu,dh⟩
  rcases List.mem_append.1 aj with aj | aj
  ·exact⟨c,aj,bu,dh⟩
  rw [List.mem_singleton.1 aj] at bu;exact absurd bu.symm hz
 ·rcases List.mem_append.1 aj with aj | aj
  ·exact aZ c6 hz c aj
  rw [List.mem_singleton.1 aj]
  intro e
  rw [← e,bP] at hz;cases hz
 
 have Rg:∀ c6 fL,c6≠gH (e1 i.bA)→eh em c6=some (some fL)→ ∀ q,Own r.2 t q→ ¬ Own r.2 fL q:=fun c6 fL da aR q hq jn=>by
  obtain⟨xO,dn,a2,a3,a4,a5⟩:=rI c6 fL da aR;have jn:=(a4 q).1 jn;rcases oW q hq with bu | bu
  ·exact bc _ _ _ _ bP aR da.symm q bu jn
  exact bu (dn.wM jn)
 by_cases aw:c6=gH (e1 i.bA)
 ·subst aw
  rw [bP] at jE;cases jE
  exact Rg kd t2 da.symm kt q jT oP
 by_cases aX:kd=gH (e1 i.bA)
 ·subst aX
  rw [bP] at kt;cases kt
  exact Rg c6 t1 aw jE q oP jT
 obtain⟨_,_,_,_,a4,_⟩:=rI c6 t1 aw jE
 obtain⟨_,_,_,_,H4,_⟩:=rI kd t2 aX kt
 exact bc _ _ _ _ jE kt da q ((a4 q).1 jT) ((H4 q).1 oP)
theorem WA {own:Nat→Prop}{bR h1 ad:aY Cell}{q:Nat}(hk:∀ q,q∈fe bR→q∈fe h1)(cS:∀ q,q∈fe h1→q∈fe ad)(h:nS (nS own bR h1) h1 ad q):nS own bR ad q:=by
 rcases h with(h | ⟨h,df⟩) | ⟨h,df⟩
 ·exact .inl h
 ·exact .inr ⟨h,cS q df⟩
 exact .inr ⟨fun aD=>h (hk q aD),df⟩
theorem mI.mono {s:aQ}{hp:aY Cell}{m:Nat}{l:List ax}{own own':Nat→Prop}(h:mI s hp m l own)(bk:∀ q,own q→own' q):mI s hp m l own':=by
 obtain⟨em,h1,ad,aD,aZ,bc,kq⟩:=h.ok;exact⟨em,h1,bk m ad,fun c6 r aR=>by obtain⟨t,g,e,a,b,c⟩:=aD c6 r aR;exact⟨t,g,e,a,fun q hq=>bk q (b q hq),c⟩,aZ,bc,kq⟩
theorem fh.grow {bR h1 ad:aY Cell}{own:Nat→Prop}(a:fh bR h1 own)(b:fh h1 ad (nS own bR h1)):fh bR ad own:=
 a.trans b fun q hq h=>h.elim (fun h=>h) fun h=>absurd hq h.1
theorem afm {s:aQ}{hp:aY Cell}{m:Nat}{l:List ax}{own:Nat→Prop}(hq:mI s hp m l own)
 {em:List (Vector au 4×Ref)} (mv:j8 hp m=some em) {c6:Vector au 4} (fU:eh em c6=none) {a:Nat} (bo:a ∉ fe hp) {z:fR} (dS:z.fT=32) (aR:z.eg=none):
 mI s (dx ((a,Cell.j9 z)::hp) m (.mh (ht em c6 (some a)))) m l (nS own hp (dx ((a,Cell.j9 z)::hp) m (.mh (ht em c6 (some a)))))∧fh hp (dx ((a,Cell.j9 z)::hp) m (.mh (ht em c6 (some a)))) own∧
  j8 (dx ((a,Cell.j9 z)::hp) m (.mh (ht em c6 (some a)))) m=some (ht em c6 (some a)):=by
 obtain⟨agV,h1,ad,aD,aZ,bc,kq⟩:=hq.ok
 rw [mv] at h1;cases h1
 have lx:=mG mv
 have Uj:=BQ bo lx
 have ck:pat ((a,Cell.j9 z)::hp) m=some (.mh em):=by rw [ui,if_neg Uj];exact lx
 generalize dg:dx ((a,Cell.j9 z)::hp) m (.mh (ht em c6 (some a)))=dd
 have g1:j8 dd m=some (ht em c6 (some a)):=by rw [← dg];exact Pp ck
 have g2:pat dd a=some (.j9 z):=by rw [← dg,om Uj.symm,ui,if_pos rfl]
 have g3:∀ q,q≠m→q≠a→pat dd q=pat hp q:=fun q Es mW=>by rw [← dg,om Es.symm,ui,if_neg mW.symm]
 have hk:fh hp dd own:=by
  rw [← dg];exact(fh.mk' (own:=own) bo).trans (fh.up ad) fun q _ h=>h
 have Uk:ga dd a=some z:=sv.2 g2
 have adi:js dd a (fun _=>none):=⟨z,Uk,dS,by rw [aR];exact⟨fun a1 p h=>(by rw [gQ] at h;cases h),fun a1 cs p h _=>(by rw [gQ] at h;cases h),fun a1 p h=>(by rw [gQ] at h;cases h)⟩,fun a1=>by rw [aR];exact kC gQ⟩
 have KN:∀ q,Own dd a q→q=a:=fun q qf=>by
  rcases qf with h | ⟨c,a1,bu,dh⟩
  ·exact h
  rw [Uk] at bu;cases bu;rw [aR,gQ] at dh;cases dh
 have hold:∀ t g,js hp t g→js dd t g∧ ∀ q,Own dd t q↔Own hp t q:=fun t g bP=>bP.congr fun q qf=>by
  refine g3 q (fun e=>?_) fun e=>bo (by rw [← e];exact bP.wM qf);rw [← e] at lx;rcases bP.Gp qf with⟨c,aj⟩ | ⟨c,aj⟩ <;> rw [aj] at lx <;> cases lx
 refine⟨⟨_,g1,.inl ad,fun kd r ia=>?_,fun kd ia=>?_,fun Mx HN t1 t2 jE kt da q jT oP=>?_,kq.put⟩,hk,g1⟩
 ·rw [BN] at ia
  by_cases e:kd=c6
  ·rw [if_pos e] at ia;cases ia
   exact⟨a,_,rfl,adi,fun q qf=>by rw [KN q qf];exact .inr ⟨bo,la g2⟩,fun a1 n=>⟨fun h=>(by cases h),fun⟨i,ar,bu,_⟩=>absurd (bu.trans e) (aZ c6 fU i ar)⟩⟩
  rw [if_neg e] at ia
  obtain⟨t,g,rfl,dn,a2,a3⟩:=aD kd r ia
  obtain⟨dM,eC⟩:=hold t g dn
  exact⟨t,g,rfl,dM,fun q qf=>.inl (a2 q ((eC q).1 qf)),a3⟩
 ·rw [BN] at ia
  by_cases e:kd=c6
  ·rw [if_pos e] at ia;cases ia
  rw [if_neg e] at ia;exact aZ kd ia
 rw [BN] at jE kt
 have ao:∀ kd fL,eh em kd=some (some fL)→ ∀ q,q=a→ ¬ Own dd fL q:=fun kd fL xN q e qf=>by
  obtain⟨t,g,e',dn,_⟩:=aD kd _ xN;cases e';have:=(hold fL g dn).2 q |>.1 qf;exact bo (by rw [← e];exact dn.wM this)
 by_cases aw:Mx=c6
 ·rw [if_pos aw] at jE;cases jE
  by_cases aX:HN=c6
  ·exact da (aw.trans aX.symm)
  rw [if_neg aX] at kt
  exact ao HN t2 kt q (KN q jT) oP
 rw [if_neg aw] at jE
 by_cases aX:HN=c6
 ·rw [if_pos aX] at kt;cases kt
  exact ao Mx t1 jE q (KN q oP) jT
 rw [if_neg aX] at kt
 obtain⟨t,g,e',dn,_⟩:=aD Mx _ jE
 cases e'
 obtain⟨fL,eW,L4,agX,_⟩:=aD HN _ kt
 cases L4
 exact bc _ _ _ _ jE kt da q (((hold _ _ dn).2 q).1 jT) (((hold _ _ agX).2 q).1 oP)
theorem adj {s:aQ}(h:dj s){hp:aY Cell}{m:Nat}{l:List ax}{own:Nat→Prop}(hq:mI s hp m l own)(fc:∀ q,own q→q∈fe hp)(al:gZ s 1 l){i:ax}(ar:kc s 1 i)(bb:gL l i.bA=none):
 ed (AS hp ⟨0,32,⟨some m⟩⟩ i) (fun hp'=>mI s hp' m (l++[i]) (nS own hp hp')∧fh hp hp' own):=by
 obtain⟨em,mv,ad,aD,aZ,bc,_⟩:=hq.ok
 unfold AS
 refine .eq (JI h ar.fC _) (.eq rfl (.eq mv (.eq rfl ?_)))
 simp only
 refine .bind (P:=fun m1=>mI s m1 m l (nS own hp m1)∧fh hp m1 own∧ ∃ My t,j8 m1 m=some My∧eh My (gH (e1 i.bA))=some (some t)) (.cond (fun aj=>?_) fun aj=>.ret ?_) fun m1 ck=>?_
 ·have fU:eh em (gH (e1 i.bA))=none:=by
   cases bH:eh em (gH (e1 i.bA)) with
   | none=>rfl
   | some r=>
     obtain⟨t,_,rfl,_⟩:=aD _ _ bH
     rw [bH] at aj;cases aj
  unfold FC
  refine .bind (P:=fun r=> ∃ a,a ∉ fe hp∧r=((some a:Ref),(a,Cell.j9 ({ (default:fR) with fT:=32 }))::hp)) (.eq rfl (.mk fun a bo=>.ret ⟨a,bo,rfl⟩)) fun br bu=>?_
  obtain⟨a,bo,rfl⟩:=bu
  have lT:j8 ((a,Cell.j9 ({ (default:fR) with fT:=32 }))::hp) m=some em:=(FB (hp:=hp) (by rw [ui,if_neg (BQ bo (mG mv))])).trans mv
  obtain⟨g1,g2,g3⟩:=afm hq mv fU bo (z:= { (default:fR) with fT:=32 }) rfl rfl
  refine .eq lT (.eq rfl (.ret ⟨g1,g2,_,a,g3,by rw [BN,if_pos rfl]⟩))
 ·cases bH:eh em (gH (e1 i.bA)) with
  | none=>rw [bH] at aj;cases aj
  | some r=>
    obtain⟨t,_,rfl,_⟩:=aD _ _ bH
    exact⟨hq.mono fun q hq=>.inl hq,.refl,em,t,mv,bH⟩
 obtain⟨g1,g2,My,t,g3,g4⟩:=ck
 refine .eq g3 (.eq rfl ?_)
 simp only [g4]
 refine .bind (afl h g1 (fun q hq=>hq.elim (fun hq=>g2.keys q (fc q hq)) fun hq=>hq.2) al ar bb g3 g4) fun r aR=>.ret ?_
 exact⟨aR.1.mono fun q hq=>WA g2.keys aR.2.keys hq,g2.grow aR.2⟩
theorem Pq {hp:aY Cell}{p:Nat}{k:Cell}{x:cK}{y:Option Nat}{n:Nat}(h:pat hp p=some k):oI (dx hp p (.rQ x y n)) p=some (x,y,n):=by unfold oI;rw [wK h]
theorem adk {s:aQ}(h:dj s){k:Nat}(hk:k<4){hp:aY Cell}{q:Nat}{l:List ax}{own:Nat→Prop}(hq:wO s k hp q l own)(al:gZ s k l){i:ax}(ar:kc s k i)(k7:iY l i.cB=false)(hlen:l.length<900):
 ed (A8 hp ⟨some q⟩ i) (fun hp'=>wO s k hp' q (l++[i]) (nS own hp hp')∧fh hp hp' own):=by
 obtain⟨key,cap,h1,ad⟩:=hq.ok
 unfold A8
 refine .eq rfl (.eq h1 (.eq (aaO h hk al.ok ar hlen) (.any fun aq=>.eq rfl (.ret ?_))))
 rw [k7]
 exact⟨⟨aq.1,aq.2,Pq (uz h1),.inl ad⟩,.up ad⟩
theorem adl {s:aQ}(h:dj s){k:Nat}(hk:k<4){hp:aY Cell}{f:gO}{l:List ax}{own:Nat→Prop}(hq:p3 s k hp f l own)(fc:∀ q,own q→q∈fe hp)(al:gZ s k l){i:ax}(ar:kc s k i)(bb:gL l i.bA=none)(k7:iY l i.cB=false)(hlen:l.length<900):
 ed (Ix hp f i) (fun hp'=>p3 s k hp' f (l++[i]) (nS own hp hp')∧fh hp hp' own):=by
 rcases hq with⟨rfl,q,rfl,hq⟩ | ⟨rfl,m,rfl,hq⟩ | ⟨cS,q,rfl,hq⟩
 ·exact ed.of ((afk h hq al ar bb).mono fun hp' aR=>⟨.inl ⟨rfl,q,rfl,aR.1⟩,aR.2⟩)
 ·exact(adj h hq fc al ar bb).mono fun hp' aR=>⟨.inr (.inl ⟨rfl,m,rfl,aR.1⟩),aR.2⟩
 exact(adk h hk hq al ar k7 hlen).mono fun hp' aR=>⟨.inr (.inr ⟨cS,q,rfl,aR.1⟩),aR.2⟩
theorem Pr {α β:Type}[DecidableEq α]:∀ {l:List (α×β)} {x:α} {v:β},eh l x=some v→ (x,v)∈l
 | [],_,_,h=>by cases h
 | (k,w)::r,x,v,h=>by
   unfold eh at h;split at h
   ·rename_i e;cases h;rw [e];simp
   exact List.mem_cons_of_mem _ (Pr h)
theorem P9 {α β:Type}[DecidableEq α]:∀ {l:List (α×β)} {x:α} {v:β},l.Pairwise (fun a c=>a.1≠c.1)→ (x,v)∈l→eh l x=some v
 | [],_,_,_,h=>by cases h
 | (k,w)::r,x,v,aO,h=>by
   obtain⟨h1,ad⟩:=List.pairwise_cons.1 aO;unfold eh;rcases List.mem_cons.1 h with h | h
   ·cases h;rw [if_pos rfl]
   rw [if_neg (fun e=>h1 _ h e.symm),P9 ad h]
theorem Ps {α β:Type}[DecidableEq α]:∀ {l:List (α×β)} {x:α} {v:β},eh l x=none→ht l x v=l++[(x,v)]
 | [],_,_,_=>rfl
 | (k,w)::r,x,v,h=>by
   unfold eh at h;split at h
   ·cases h
   rename_i e;show(if x=k then _ else _)=_;rw [if_neg e,Ps h];rfl
def th (em:List (Int×ax))(l:List ax):Prop:=em.Perm (l.map fun i=>(i.cB,i))
theorem th.get {s:aQ}{k:Nat}{em:List (Int×ax)}{l:List ax}(h:th em l)(al:jv s k l)(n:Int)(i:ax):eh em n=some i↔i∈l∧i.cB=n:=by
 have hd:em.Pairwise (fun a c=>a.1≠c.1):=by
  refine(h.pairwise_iff fun cu=>Ne.symm cu).2 ?_;rw [List.pairwise_map];exact al.num.imp fun cu=>cu
 have hm:(n,i)∈em↔i∈l∧i.cB=n:=by
  rw [h.mem_iff,List.mem_map];constructor
  ·rintro ⟨c,aj,e⟩;cases e;exact⟨aj,rfl⟩
  rintro ⟨ar,rfl⟩;exact⟨i,ar,rfl⟩
 rw [← hm];exact⟨Pr,P9 hd⟩
theorem th.no {s:aQ}{k:Nat}{em:List (Int×ax)}{l:List ax}(h:th em l)(al:jv s k l)(n:Int):(eh em n).isSome=iY l n:=by
 rw [Bool.eq_iff_iff,Option.isSome_iff_exists];unfold iY;rw [List.any_eq_true];constructor
 ·rintro ⟨i,ar⟩;obtain⟨h1,ad⟩:=(h.get al n i).1 ar;exact⟨i,h1,by simpa using ad⟩
 rintro ⟨i,ar,ad⟩;exact⟨i,(h.get al n i).2 ⟨ar,by simpa using ad⟩⟩
structure ml (s:aQ)(k:Nat)(hp:aY Cell)(p:Nat)(l:List ax)(own:Nat→Prop):Prop where
 lG:gZ s k l
 cell:∃ f m em,iw hp p=some ⟨kf k,(h2 s k:Int),f,⟨some m⟩⟩∧mf hp m=some em∧own p∧own m∧th em l∧p3 s k hp f l (fun q=>own q∧q≠m∧q≠p)
 HO:∀ q,own q→q∈fe hp
theorem entry_eq {s:aQ}(h:dj s){k:Nat}(hk:k<4){hp:aY Cell}{p:Nat}{l:List ax}{own:Nat→Prop}(ao:ml s k hp p l own){o:Option ax}(bk:∀ i,o=some i→i∈l):yc hp (some p) (od o).1 (od o).2=some (kQ o):=by
 obtain⟨f,m,em,h1,ad,aD,aZ,bc,bu⟩:=ao.cell;refine bs.get ?_;unfold yc;cases o with
 | none=>exact .cond (fun _=>.ret rfl) fun aj=>by cases aj
 | some i=>
   have ar:=bk i rfl
   refine .cond (fun aj=>by cases aj) fun _=>.eq rfl (.eq h1 (.eq rfl (.eq ad (.eq rfl ?_))))
   have bH:eh em i.cB=some i:=(bc.get ao.lG.ok _ _).2 ⟨ar,rfl⟩
   show bs (Option.bind (oi ((eh em i.cB).getD default)) _) _
   rw [bH]
   exact .eq (zb h hk (ao.lG.ok.ok i ar)) (.ret rfl)
theorem Qa {s:aQ}(h:dj s){k:Nat}(hk:k<4){hp:aY Cell}{p:Nat}{l:List ax}{own:Nat→Prop}(ao:ml s k hp p l own){e:bd}(he:il s k e):yg hp (some p) e=some (kQ (gL l e)):=by
 obtain⟨f,m,em,h1,ad,aD,aZ,bc,bu⟩:=ao.cell;refine bs.get ?_;unfold yg;refine .cond (fun aj=>by cases aj) fun _=>.eq rfl (.eq h1 (.eq (SU h hk bu ao.lG he) (.eq (entry_eq h hk ao fun i ar=>(sy ar).1) (.ret rfl))))
theorem Yt {s:aQ}(h:dj s){k:Nat}(hk:k<4){hp:aY Cell}{p:Nat}{l:List ax}{own:Nat→Prop}(ao:ml s k hp p l own)(c6:Vector au 4):AU hp (some p) c6=some (kQ (ks s k l c6)):=by
 obtain⟨f,m,em,h1,ad,aD,aZ,bc,bu⟩:=ao.cell;refine bs.get ?_;unfold AU;refine .cond (fun aj=>by cases aj) fun _=>?_;refine bs.loop 4 (fun i st=>st.1=(i:Int)∧ ∀ j,j<4→bF st.2 j=if j<i then(if j<h2 s k then bF c6 j else default) else bF c6 j) (by decide) ⟨rfl,fun j aF=>rfl⟩ (fun i st ar hs=>?_) (fun st hs=>?_)
 ·obtain⟨j,v⟩:=st;obtain⟨aw,aX⟩:=hs;simp only at aw aX;subst aw;refine .cond (fun _=>.eq rfl (.eq h1 ?_)) (fun aj=>by simp at aj;omega);refine .bind (P:=fun vE=> ∀ j,j<4→bF vE j=if j<i+1 then(if j<h2 s k then bF c6 j else default) else bF c6 j) (.cond (fun aj=>.idx rfl ar (.ret fun j aF=>?_)) fun aj=>.ret fun j aF=>?_) fun vE nx=>.ret ⟨e0 (by omega),nx⟩
  ·have aj:h2 s k≤i:=by simp at aj;omega
   rw [ig _ _ ar];by_cases hZ:j=i
   ·rw [if_pos hZ,if_pos (show j<i+1 by omega),if_neg (show ¬ j<h2 s k by omega)]
   rw [if_neg hZ,aX j aF];by_cases ct:j<i
   ·rw [if_pos ct,if_pos (show j<i+1 by omega)]
   rw [if_neg ct,if_neg (show ¬ j<i+1 by omega)]
  have aj:i<h2 s k:=by simp at aj;omega
  rw [aX j aF];by_cases hZ:j=i
  ·rw [if_neg (show ¬ j<i by omega),if_pos (show j<i+1 by omega),if_pos (show j<h2 s k by omega)]
  by_cases ct:j<i
  ·rw [if_pos ct,if_pos (show j<i+1 by omega)]
  rw [if_neg ct,if_neg (show ¬ j<i+1 by omega)]
 obtain⟨j,v⟩:=st;obtain⟨aw,aX⟩:=hs;simp only at aw aX;subst aw;refine⟨_,by simp;rfl,?_⟩;have a6:v=k8 (h2 s k) c6:=FW fun j aF=>by rw [aX j aF,if_pos aF,nN aF]
 subst a6;exact .eq rfl (.eq h1 (.eq (adh h hk bu ao.lG c6) (.eq (entry_eq h hk ao fun i ar=>JJ ar) (.ret rfl))))
theorem aaT {s:aQ}{k:Nat}{hp:aY Cell}{p:Nat}{l:List ax}{own:Nat→Prop}(ao:ml s k hp p l own):Ba hp (some p)=some (l.length:Int):=by
 obtain⟨f,m,em,h1,ad,aD,aZ,bc,bu⟩:=ao.cell;have al:em.length=l.length:=by rw [bc.length_eq,List.length_map]
 refine bs.get ?_;unfold Ba;refine .cond (fun aj=>by cases aj) fun _=>.eq rfl (.eq h1 (.eq rfl (.eq ad ?_)));rw [al];first | exact .ret rfl | exact .eq rfl (.ret rfl)
theorem ml.mono {s:aQ}{k:Nat}{hp:aY Cell}{p:Nat}{l:List ax}{own own':Nat→Prop}(h:ml s k hp p l own)(bk:∀ q,own q→own' q)(ar:∀ q,own' q→q∈fe hp):ml s k hp p l own':=by
 obtain⟨f,m,em,h1,ad,aD,aZ,bc,bu⟩:=h.cell;exact⟨h.lG,⟨f,m,em,h1,ad,bk p aD,bk m aZ,bc,bu.congr (fun q _ hq=>⟨bk q hq.1,hq.2⟩) fun q hq=>rfl⟩,ar⟩
theorem gZ.nil {s:aQ}{k:Nat} :gZ s k []:=⟨⟨fun i ar=>by(cases ar),.nil,by simp⟩,.nil⟩
def Mz:Nat→Prop:=fun _=>False
theorem aaU {s:aQ}(h:dj s){k:Nat}(hk:k<4)(hp:aY Cell):ed (o4 hp s ((k:Int)+1)) (fun r=> ∃ p,r.1=some p∧ml s k r.2 p [] (nS Mz hp r.2)∧fh hp r.2 Mz):=by
 refine(C6 h hk hp).mono fun r aR=>?_;obtain⟨p,e,aR⟩:=aR;obtain⟨c,m,h1,ad,aD,aZ,bc,bu,dh,fk,gz,kO,r9,sa⟩:=aR.cell;obtain⟨ahs,aS,f,ew⟩:=c;simp only at ad aD aZ bu dh fk;subst ad aD aZ;have hm:=qw bc;have hp':=lL h1;refine⟨p,e,⟨gZ.nil,⟨f,m,[],h1,bc,.inr ⟨gz,la hp'⟩,.inr ⟨kO,la hm⟩,List.Perm.refl _,?_⟩,fun q hq=>hq.elim (fun h=>h.elim) fun h=>h.2⟩,⟨r9,fun q hq _=>sa q hq⟩⟩;have key:∀ q c,pat r.2 q=some c→ (∀ x,c≠ .kI x)→ (∀ x,c≠ .nU x)→q ∉ fe hp→nS Mz hp r.2 q∧q≠m∧q≠p:=fun q c aj oT M5 aO=>
  ⟨.inr ⟨aO,la aj⟩,fun e=>by rw [e,hm] at aj;cases aj;exact oT _ rfl,fun e=>by rw [e,hp'] at aj;cases aj;exact M5 _ rfl⟩
 have:k=0∨k=1∨2≤k:=by omega
 rcases this with rfl | rfl | cS
 ·obtain⟨q,m2,rfl,g1,g2,g3,g4⟩:=bu rfl;exact .inl ⟨rfl,q,rfl,⟨m2,[],g1,g2,key q _ (uw g1) (fun _ h=>by cases h) (fun _ h=>by cases h) g3,key m2 _ (rH g2) (fun _ h=>by cases h) (fun _ h=>by cases h) g4,fun c6 n=>⟨fun h=>(by cases h),fun⟨i,ar,_⟩=>(by cases ar)⟩,.nil⟩⟩
 ·obtain⟨m3,rfl,g1,g2⟩:=dh rfl;exact .inr (.inl ⟨rfl,m3,rfl,⟨[],g1,key m3 _ (mG g1) (fun _ h=>by cases h) (fun _ h=>by cases h) g2,fun c6 r h=>(by cases h),fun c6 _ i ar=>(by cases ar),fun c6 kd t fL h=>(by cases h),.nil⟩⟩)
 obtain⟨q,aht,cap,rfl,g1,g2⟩:=fk cS;exact .inr (.inr ⟨cS,q,rfl,⟨aht,cap,g1,key q _ (uz g1) (fun _ h=>by cases h) (fun _ h=>by cases h) g2⟩⟩)
theorem gZ.snoc {s:aQ}{k:Nat}{l:List ax}(h:gZ s k l){i:ax}(ar:kc s k i)(bb:gL l i.bA=none)(aO:iY l i.cB=false)(al:l.length<900):gZ s k (l++[i]) where
 ok:=h.ok.snoc ar aO al
 key:=by
  rw [List.pairwise_append];exact⟨h.key,by simp,fun a bo c aj=>by rw [List.mem_singleton.1 aj];exact sA bb a bo⟩
theorem Zf {hp:aY Cell}{p:Nat}{k:Cell}{x:List (Int×ax)}(h:pat hp p=some k):mf (dx hp p (.kI x)) p=some x:=by unfold mf;rw [wK h]
theorem Rh (o:Option ax):(od o).2=o.isSome:=by cases o <;> rfl
def pC (l:List ax)(i:ax):Bool:=(gL l i.bA).isNone&& !iY l i.cB
def added (l:List ax)(i:ax):List ax:=if pC l i=true then l++[i] else l
theorem aaV {s:aQ}(h:dj s){k:Nat}(hk:k<4){hp:aY Cell}{p:Nat}{l:List ax}{own:Nat→Prop}(ao:ml s k hp p l own){i:ax}(ar:kc s k i)(hlen:l.length<900):
 ed (Bf hp (some p) i) (fun r=>r.1=pC l i∧ml s k r.2 p (added l i) (nS own hp r.2)∧fh hp r.2 own):=by
 obtain⟨f,m,em,h1,ad,aD,aZ,bc,bu⟩:=ao.cell
 have hm:=qw ad
 have hp':=lL h1
 have lx:p≠m:=fun e=>by rw [e,hm] at hp';cases hp'
 have fU:=bc.no ao.lG.ok i.cB
 unfold Bf
 refine .cond (fun aj=>by cases aj) fun _=>.eq rfl (.eq h1 (.eq rfl (.eq ad (.eq rfl (.eq rfl (.eq h1 (.eq (SU h hk bu ao.lG ar.fC) (.cond (fun aj=>.ret ?_) fun aj=>?_))))))))
 ·rw [fU,Rh,Bool.or_eq_true] at aj
  have bP:pC l i=false:=by
   unfold pC;rcases aj with aj | aj
   ·cases bb:gL l i.bA with
    | none=>rw [bb] at aj;cases aj
    | some _=>rfl
   rw [aj];simp
  refine⟨bP.symm,?_,.refl⟩
  unfold added
  rw [bP]
  exact ao.mono (fun q hq=>.inl hq) fun q hq=>hq.elim (ao.HO q) fun hq=>absurd hq.2 hq.1
 rw [fU,Rh,Bool.or_eq_false_iff] at aj
 obtain⟨c1,c2⟩:=aj
 have bb:gL l i.bA=none:=by
  cases bb:gL l i.bA with
  | none=>rfl
  | some _=>rw [bb] at c1;cases c1
 have bP:pC l i=true:=by unfold pC;rw [bb,c2];rfl
 have bH:eh em i.cB=none:=by
  cases bH:eh em i.cB with
  | none=>rfl
  | some _=>rw [bH,c2] at fU;cases fU
 have aq:pat (dx hp m (Cell.kI (ht em i.cB i))) p=some (.nU ⟨kf k,(h2 s k:Int),f,⟨some m⟩⟩):=by rw [om lx.symm];exact hp'
 have f1:p3 s k (dx hp m (Cell.kI (ht em i.cB i))) f l (fun q=>own q∧q≠m∧q≠p):=bu.congr (fun q _ hq=>hq) fun q hq=>om hq.2.1.symm
 refine .eq rfl (.eq h1 (.eq (zb h hk ar) (.eq rfl (.eq ad (.eq rfl (.eq (by unfold iw;rw [aq]) (.bind (adl h hk f1 (fun q hq=>by rw [wB];exact ao.HO q hq.1) ao.lG ar bb c2 hlen) fun hB aR=>.ret ⟨bP.symm,?_,?_⟩)))))))
 ·obtain⟨jI,hA⟩:=aR
  have dn:pat hB p=some (.nU ⟨kf k,(h2 s k:Int),f,⟨some m⟩⟩):=by rw [hA.rest p (la aq) (fun hq=>hq.2.2 rfl)];exact aq
  have a2:pat hB m=some (.kI (ht em i.cB i)):=by
   have:pat (dx hp m (Cell.kI (ht em i.cB i))) m=some (.kI (ht em i.cB i)):=wK hm;rw [hA.rest m (la this) (fun hq=>hq.2.1 rfl)];exact this
  unfold added
  rw [if_pos bP]
  refine⟨ao.lG.snoc ar bb c2 hlen,⟨f,m,_,by unfold iw;rw [dn],by unfold mf;rw [a2],.inl aD,.inl aZ,?_,jI.congr (fun q _ hq=>?_) fun q _=>rfl⟩,fun q hq=>?_⟩
  ·unfold th
   rw [Ps bH,List.map_append]
   exact List.Perm.append_right _ bc
  ·rcases hq with hq | ⟨g1,g2⟩
   ·exact⟨.inl hq.1,hq.2⟩
   rw [wB] at g1
   exact⟨.inr ⟨g1,g2⟩,fun e=>g1 (e ▸ la hm),fun e=>g1 (e ▸ la hp')⟩
  rcases hq with hq | hq
  ·exact hA.keys q (by rw [wB];exact ao.HO q hq)
  exact hq.2
 exact(fh.up (own:=own) aZ).trans aR.2 fun q _ hq=>hq.1
end Go.Proofs.YtelbhaohleeijaaGreat
