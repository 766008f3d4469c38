/-
  What the programs compute, in plain Lean. Conditions: none.
-/
import Derived.Test.YtmnggbjcnoffeaaGreatMl0
import Derived.Test.YtmnggbjcnoffeaaGreatMl2
import Derived.Test.YtmnggbjcnoffeaaGreatMd
set_option linter.unusedVariables false
set_option linter.unusedSimpArgs false
set_option maxRecDepth 100000
namespace Gv
open Go
theorem MA {σ ε:Type} {body:σ→Option (σ ⊕ ε)} {Q:ε→Prop} {cc:σ} (m:Nat) (fD:Nat→σ→Prop)
 (hm:m < 2 ^ 80) (bI:fD 0 cc)
 (hs:∀ k s,k < m→fD k s→ (∃ b6,body s=some (.inl b6)∧fD (k + 1) b6)∨ (∃ e,body s=some (.inr e)∧Q e))
 (he:∀ s,fD m s→ ∃ e,body s=some (.inr e)∧Q e):∃ e,e5 eU body cc=some e∧Q e:=by
 have key:∀ n k s,k≤m→m - k < n→fD k s→ ∃ e,e5 n body s=some e∧Q e:=by
  intro n
  induction n with
  | zero=>intro k s _ h; omega
  | succ n bJ=>
    intro k s ay aO au
    by_cases sB:k=m
    ·subst sB
     obtain⟨e,J,ad⟩:=he s au
     exact⟨e,by simp [e5,J],ad⟩
    ·rcases hs k s (by omega) au with⟨b6,J,ad⟩ | ⟨e,J,ad⟩
     ·obtain⟨e,aC,aU⟩:=bJ (k + 1) b6 (by omega) (by omega) ad
      exact⟨e,by simp [e5,J,aC],aU⟩
     ·exact⟨e,by simp [e5,J],ad⟩
 exact key eU 0 cc (by omega) (by unfold eU; omega) bI
def bt {β:Type} (m:Option β) (P:β→Prop):Prop:= ∃ r,m=some r∧P r
theorem bt.ret {β:Type} {P:β→Prop} {r:β} (h:P r):bt (some r) P:=⟨r,rfl,h⟩
theorem bt.bind {α β:Type} {m:Option α} {f:α→Option β} {P:α→Prop} {Q:β→Prop} (h:bt m P) (k:∀ a,P a→bt (f a) Q):bt (m.bind f) Q:=by
 obtain⟨a,J,ad⟩:=h
 rw [J]; exact k a ad
theorem bt.eq {α β:Type} {m:Option α} {a:α} {f:α→Option β} {Q:β→Prop} (h:m=some a) (k:bt (f a) Q):bt (m.bind f) Q:=by
 rw [h]; exact k
theorem bt.mono {β:Type} {m:Option β} {P Q:β→Prop} (h:bt m P) (k:∀ a,P a→Q a):bt m Q:=by
 obtain⟨a,J,ad⟩:=h
 exact⟨a,J,k a ad⟩
theorem bt.cond {β:Type} {b:Bool} {m n:Option β} {P:β→Prop} (J:b=true→bt m P) (ad:b=false→bt n P):bt (cond b m n) P:=by
 cases b
 ·exact ad rfl
 ·exact J rfl
theorem bt.cy {α β:Type} [Inhabited α] {b w:Bool} {m:Option α} {f:α→Option β} {P:α→Prop} {Q:β→Prop} (h:b=w→bt m P) (k:∀ a,(b=w→P a)→bt (f a) Q):bt ((cy b w m).bind f) Q:=by
 unfold Gv.cy
 by_cases hb:b=w
 ·rw [if_pos hb]; exact(h hb).bind fun a bj=>k a fun _=>bj
 ·rw [if_neg hb]; exact k default fun h=>absurd h hb
theorem bt.loop {σ ε β:Type} {body:σ→Option (σ ⊕ ε)} {f:ε→Option β} {P:β→Prop} {cc:σ} (m:Nat) (fD:Nat→σ→Prop)
 (hm:m < 2 ^ 80) (bI:fD 0 cc)
 (hs:∀ k s,k < m→fD k s→bt (body s) (fun x=>match x with | .inl b6=>fD (k + 1) b6 | .inr e=>bt (f e) P))
 (he:∀ s,fD m s→ ∃ e,body s=some (.inr e)∧bt (f e) P):bt ((e5 eU body cc).bind f) P:=by
 obtain⟨e,J,ad⟩:=MA (Q:=fun e=>bt (f e) P) m fD hm bI (fun k s ay au=>by
  obtain⟨r,J,ad⟩:=hs k s ay au
  cases r with
  | inl b6=>exact .inl ⟨b6,J,ad⟩
  | inr e=>exact .inr ⟨e,J,ad⟩) he
 rw [J]; exact ad
theorem bt.tG {σ ε:Type} {body:σ→Option (σ ⊕ ε)} {P:ε→Prop} {cc:σ} (m:Nat) (fD:Nat→σ→Prop)
 (hm:m < 2 ^ 80) (bI:fD 0 cc)
 (hs:∀ k s,k < m→fD k s→bt (body s) (fun x=>match x with | .inl b6=>fD (k + 1) b6 | .inr e=>P e))
 (he:∀ s,fD m s→bt (body s) (fun x=>match x with | .inl _=>False | .inr e=>P e)):bt (e5 eU body cc) P:=by
 obtain⟨e,J,ad⟩:=MA (Q:=P) m fD hm bI (fun k s ay au=>by
  obtain⟨r,J,ad⟩:=hs k s ay au
  cases r with
  | inl b6=>exact .inl ⟨b6,J,ad⟩
  | inr e=>exact .inr ⟨e,J,ad⟩) fun s au=>by
  obtain⟨r,J,ad⟩:=he s au
  cases r with
  | inl b6=>exact ad.elim
  | inr e=>exact⟨e,J,ad⟩
 exact⟨e,J,ad⟩
theorem bt.idx {β:Type} {n:Nat} {i:Int} {k:Nat} {f:Nat→Option β} {Q:β→Prop} (au:i=k) (ay:k < n) (h:bt (f k) Q):bt ((Gv.idx n i).bind f) Q:=by
 subst au
 have:Gv.idx n (k:Int)=some k:=by unfold Gv.idx; rw [if_pos (by omega)]; simp
 rw [this]; exact h
theorem qG {α:Type} [Inhabited α] {n:Nat} (v:Vector α n) {k:Nat} (x:α) (ay:k < n) (j:Nat):bD (fP v k x) j=if j=k then x else bD v j:=by
 unfold bD fP
 by_cases h:j=k
 ·subst h; simp [ay]
 ·rw [if_neg h,Vector.getElem?_setIfInBounds_ne (by omega)]
theorem DZ {α:Type} [Inhabited α] {n:Nat} {v w:Vector α n} (h:∀ j,j < n→bD v j=bD w j):v=w:=by
 apply Vector.ext
 intro i au
 have:=h i au
 simpa [bD,au] using this
theorem DA {α:Type} [Inhabited α] {n:Nat} (j:Nat):bD (default:Vector α n) j=default:=by
 show bD (Vector.replicate n default) j=default
 unfold bD
 by_cases h:j < n <;> simp [h]
theorem ox {n k:Nat} (h:k < n):idx n (k:Int)=some k:=by
 unfold idx; rw [if_pos (by omega)]; simp
theorem vf {n:Nat} {i:Int} (h:0≤i) (c0:i < n):idx n i=some i.toNat:=by
 unfold idx; rw [if_pos ⟨h,c0⟩]
theorem gb {k:Nat} (h:k < 2 ^ 62):bq ((k:Int) + 1)=((k + 1:Nat):Int):=by
 rw [g9 (by omega) (by omega)]; simp
theorem pJ {k:Nat} (h:k < 2 ^ 64):(BitVec.ofInt 64 (k:Int)).toNat=k:=by
 simp; omega
theorem Nd (x:BitVec 64):((x &&& 1#64) ==1#64)=x.getLsbD 0:=by
 rw [BitVec.and_one_eq_setWidth_ofBool_getLsbD]
 cases x.getLsbD 0 <;> rfl
theorem UY (x:BitVec 64) (n:Nat):(((x >>> n) &&& 1#64) ==1#64)=x.getLsbD n:=by
 rw [Nd]; simp
theorem D0 {α β:Type} [Inhabited α] [Inhabited β] (f:α→β) {l:List α} {k:Nat} (ay:k < l.length):aE (l.map f) k=f (aE l k):=by
 rw [ew l ay,ew _ (by simpa using ay),List.getElem_map]
theorem Ln {α:Type} [Inhabited α] (l:List α) {k:Nat} (ay:k < l.length):l.take (k + 1)=l.take k ++ [aE l k]:=by
 rw [List.take_add_one,List.getElem?_eq_getElem ay,ew l ay]; rfl
theorem Nf {α:Type} [Inhabited α] {xs:List α} {p:α→Bool} {k:Nat} (ay:k < xs.length) (hp:p (aE xs k)=true) (aH:∀ j,j < k→p (aE xs j)=false):xs.find? p=some (aE xs k):=by
 rw [List.find?_eq_some_iff_getElem]
 refine⟨hp,k,ay,(ew xs ay).symm,fun j sE=> ?_⟩
 have:=aH j sE
 rw [ew xs (by omega)] at this
 simp [this]
theorem Ng {α:Type} {xs:List α} {p:α→Bool} (h:∀ x∈xs,p x=false):xs.find? p=none:=
 List.find?_eq_none.2 fun x an=>by simp [h x an]
def dH {α:Type} (m:ax α) (P:α→Prop):Prop:= ∀ Q:α→Prop,(∀ r,P r→Q r)→m Q
theorem dH.run {α:Type} {m:ax α} {P:α→Prop} (h:dH m P):m P:=h P fun _ h=>h
theorem dH.ret {α:Type} {P:α→Prop} {x:α} (h:P x):dH (ax.ret x) P:=fun Q k=>k x h
theorem dH.bind {α β:Type} {m:ax α} {f:α→ax β} {P:α→Prop} {qw:β→Prop} (h:dH m P) (k:∀ r,P r→dH (f r) qw):dH (ax.bind m f) qw:=fun Q hq=>h _ fun r aR=>k r aR Q hq
theorem dH.of {α:Type} {o:Option α} {P:α→Prop} (h:bt o P):dH (ax.of o) P:=fun Q hq=>let⟨r,J,ad⟩:=h; ⟨r,J,hq r ad⟩
theorem dH.my {α β:Type} {o:Option α} {f:α→ax β} {P:α→Prop} {qw:β→Prop} (h:bt o P) (k:∀ r,P r→dH (f r) qw):dH (ax.bind (ax.of o) f) qw:= .bind (.of h) k
theorem dH.eq {α β:Type} {o:Option α} {a:α} {f:α→ax β} {qw:β→Prop} (h:o=some a) (k:dH (f a) qw):dH (ax.bind (ax.of o) f) qw:=fun Q hq=>⟨a,h,k Q hq⟩
theorem dH.mono {α:Type} {m:ax α} {P qw:α→Prop} (h:dH m P) (k:∀ r,P r→qw r):dH m qw:=fun Q hq=>h Q fun r aR=>hq r (k r aR)
theorem dH.cond {α:Type} {b:Bool} {m n:ax α} {P:α→Prop} (J:b=true→dH m P) (ad:b=false→dH n P):dH (cond b m n) P:=by
 cases b
 ·exact ad rfl
 ·exact J rfl
theorem dH.cy {α β:Type} [Inhabited α] {b w:Bool} {m:Option α} {f:α→ax β} {P:α→Prop} {Q:β→Prop} (h:b=w→bt m P) (k:∀ a,(b=w→P a)→dH (f a) Q):dH (ax.bind (ax.of (cy b w m)) f) Q:=by
 unfold Gv.cy
 by_cases hb:b=w
 ·rw [if_pos hb]; exact .my (h hb) fun a bj=>k a fun _=>bj
 ·rw [if_neg hb]; exact .eq rfl (k default fun h=>absurd h hb)
theorem dH.idx {β:Type} {n:Nat} {i:Int} {k:Nat} {f:Nat→ax β} {Q:β→Prop} (au:i=k) (ay:k < n) (h:dH (f k) Q):dH (ax.bind (ax.of (Gv.idx n i)) f) Q:=by
 subst au
 exact .eq (ox ay) h
theorem dH.mk {bU β:Type} {hp:aS bU} {c:bU} {f:Nat × aS bU→ax β} {P:β→Prop} (k:∀ p,p ∉ eN hp→dH (f (p,(p,c) :: hp)) P):dH (ax.bind (ax.mk hp c) f) P:=fun Q hq=>fun a bj=>by
 obtain⟨p,hp'⟩:=a
 obtain⟨J,ad⟩:=bj
 simp only at J ad
 subst ad
 exact k p J Q hq
theorem dH.any {α β:Type} {f:α→ax β} {P:β→Prop} (k:∀ x,dH (f x) P):dH (ax.bind (ax.any α) f) P:=fun Q hq x=>k x Q hq
theorem dH.loop {σ ε:Type} {body:σ→ax (σ ⊕ ε)} {P:ε→Prop} {cc:σ} (m:Nat) (fD:Nat→σ→Prop) (hm:m < 2 ^ 80) (bI:fD 0 cc)
 (hs:∀ k s,k < m→fD k s→dH (body s) (fun x=>match x with | .inl b6=>fD (k + 1) b6 | .inr e=>P e))
 (he:∀ s,fD m s→dH (body s) (fun x=>match x with | .inl _=>False | .inr e=>P e)):dH (nb eU body cc) P:=by
 have key:∀ n k s,k≤m→m - k < n→fD k s→dH (nb n body s) P:=by
  intro n
  induction n with
  | zero=>intro k s _ h; omega
  | succ n bJ=>
    intro k s ay aO au Q hq
    by_cases sB:k=m
    ·subst sB
     exact he s au _ fun r aR=>by
      cases r with
      | inl b6=>exact aR.elim
      | inr e=>exact hq e aR
    ·exact hs k s (by omega) au _ fun r aR=>by
      cases r with
      | inl b6=>exact bJ (k + 1) b6 (by omega) (by omega) aR Q hq
      | inr e=>exact hq e aR
 exact key eU 0 cc (by omega) (by unfold eU; omega) bI
theorem tf {bU:Type} {hp:aS bU} {p q:Nat} {k:bU} :pat ((p,k) :: hp) q=if p=q then some k else pat hp q:=rfl
theorem UZ {bU:Type} {hp:aS bU} {p:Nat} (h:p ∉ eN hp):pat hp p=none:=by
 cases e:pat hp p with
 | none=>rfl
 | some k=>exact absurd (kS e) h
theorem vq {bU:Type} {hp:aS bU} {p:Nat} {k k':bU} (h:pat hp p=some k'):pat (df hp p k) p=some k:=by rw [AO,if_pos rfl,h]; rfl
theorem nH {bU:Type} {hp:aS bU} {p q:Nat} {k:bU} (h:p≠q):pat (df hp p k) q=pat hp q:=by rw [AO,if_neg h]
theorem Au {α β:Type} [DecidableEq α] {l:List (α × β)} {x y:α} {v:β} :dM (gO l x v) y=if y=x then some v else dM l y:=by
 induction l with
 | nil=>
   show(if y=x then some v else dM [] y)=_
   rfl
 | cons a r bJ=>
   obtain⟨k,w⟩:=a
   simp only [gO]
   by_cases h:x=k
   ·rw [if_pos h]
    simp only [dM]
    by_cases ad:y=x
    ·simp [ad]
    ·simp [ad,show ¬ y=k from fun e=>ad (by rw [e,h])]
   ·rw [if_neg h]
    simp only [dM]
    by_cases ad:y=k
    ·subst ad; simp [show ¬ y=x from fun e=>h e.symm]
    ·rw [if_neg ad,bJ,if_neg ad]
end Gv
namespace Go.Proofs.YtmnggbjcnoffeaaGreat
open Go Gv
def fh (b:Bool):Nat:=bif b then 1 else 0
def cK (hp:aS Cell):Ref→List Bool→Ref
 | none,_=>none
 | some p,[]=>some p
 | some p,b :: aW=>match cD hp p with
   | none=>none
   | some c=>cK hp (bD c.cU (fh b)) aW
theorem gn {hp:aS Cell} {aW:List Bool} :cK hp none aW=none:=by cases aW <;> rfl
theorem ma {hp:aS Cell} {r:Ref} :cK hp r []=r:=by cases r <;> rfl
theorem hl {hp:aS Cell} {p:Nat} {c:dx} {b:Bool} {aW:List Bool} (h:cD hp p=some c):cK hp (some p) (b :: aW)=cK hp (bD c.cU (fh b)) aW:=by
 show(match cD hp p with | none=>none | some c=>cK hp (bD c.cU (fh b)) aW)=_
 rw [h]
theorem lM {hp:aS Cell} :∀ {r:Ref} {aW cs:List Bool},cK hp r (aW ++ cs)=cK hp (cK hp r aW) cs
 | none,aW,cs=>by rw [gn,gn,gn]
 | some p,[],cs=>by rw [List.nil_append,ma]
 | some p,b :: aW,cs=>by
   cases e:cD hp p with
   | none=>
     have J:∀ xs,cK hp (some p) (b :: xs)=none:=fun xs=>by
      show(match cD hp p with | none=>none | some c=>cK hp (bD c.cU (fh b)) xs)=_
      rw [e]
     rw [List.cons_append,J,J,gn]
   | some c=>rw [List.cons_append,hl e,hl e,lM]
theorem Mh {hp hp':aS Cell} :∀ {r:Ref} {aW:List Bool},(∀ p cs,cK hp r cs=some p→cD hp' p=cD hp p)→cK hp' r aW=cK hp r aW
 | none,aW,_=>by rw [gn,gn]
 | some p,[],_=>rfl
 | some p,b :: aW,h=>by
   have bI:=h p [] rfl
   show(match cD hp' p with | none=>none | some c=>cK hp' (bD c.cU (fh b)) aW)=(match cD hp p with | none=>none | some c=>cK hp (bD c.cU (fh b)) aW)
   rw [bI]
   cases e:cD hp p with
   | none=>rfl
   | some c=>
     refine Mh fun q cs hq=>h q (b :: cs) ?_
     rw [hl e]; exact hq
structure nT (hp:aS Cell) (root:Ref):Prop where
 reads:∀ aW p,cK hp root aW=some p→ ∃ c,cD hp p=some c
 inj:∀ aW cs p,cK hp root aW=some p→cK hp root cs=some p→aW=cs
 dep:∀ aW p,cK hp root aW=some p→aW.length≤32
def cont (hp:aS Cell) (root:Ref) (aW:List Bool):Option Int:=match cK hp root aW with
 | none=>none
 | some p=>match cD hp p with
   | none=>none
   | some c=>bif c.dC then some c.hc else none
theorem jO {hp:aS Cell} {root:Ref} {aW:List Bool} {p:Nat} {c:dx} (h:cK hp root aW=some p) (ak:cD hp p=some c):cont hp root aW=bif c.dC then some c.hc else none:=by
 unfold cont; rw [h]; simp only [ak]
theorem j4 {hp:aS Cell} {root:Ref} {aW:List Bool} (h:cK hp root aW=none):cont hp root aW=none:=by
 unfold cont; rw [h]
theorem o4 {hp:aS Cell} {p:Nat} {c:dx} :cD hp p=some c↔pat hp p=some (.fQ c):=by
 refine⟨iP,fun h=> ?_⟩
 unfold cD; rw [h]
theorem rE {hp:aS Cell} {p:Nat} {c:fv} :fB hp p=some c↔pat hp p=some (.jy c):=by
 refine⟨mb,fun h=> ?_⟩
 unfold fB; rw [h]
theorem uT {hp hp':aS Cell} {p:Nat} (h:pat hp' p=pat hp p):cD hp' p=cD hp p:=by unfold cD; rw [h]
theorem DF {hp hp':aS Cell} {p:Nat} (h:pat hp' p=pat hp p):fB hp' p=fB hp p:=by unfold fB; rw [h]
structure eL (hp hp':aS Cell) (own:Nat→Prop):Prop where
 keys:∀ q,q∈eN hp→q∈eN hp'
 rest:∀ q,q∈eN hp→ ¬ own q→pat hp' q=pat hp q
theorem eL.refl {hp:aS Cell} {own:Nat→Prop} :eL hp hp own:=⟨fun _ h=>h,fun _ _ _=>rfl⟩
theorem eL.mk' {hp:aS Cell} {own:Nat→Prop} {a:Nat} {k:Cell} (bj:a ∉ eN hp):eL hp ((a,k) :: hp) own:=
 ⟨fun q h=>List.mem_cons_of_mem _ h,fun q h _=>by rw [tf,if_neg (fun e:a=q=>bj (by rw [e]; exact h))]⟩
theorem eL.up {hp:aS Cell} {own:Nat→Prop} {p:Nat} {k:Cell} (hp':own p):eL hp (df hp p k) own:=
 ⟨fun q h=>by rw [vd]; exact h,fun q h hq=>nH (fun e:p=q=>hq (by rw [← e]; exact hp'))⟩
theorem eL.trans {J ad aC:aS Cell} {own own':Nat→Prop} (a:eL J ad own) (b:eL ad aC own') (bb:∀ q,q∈eN J→own' q→own q):eL J aC own:=
 ⟨fun q h=>b.keys q (a.keys q h),fun q h hq=>by rw [b.rest q (a.keys q h) fun c0=>hq (bb q h c0),a.rest q h hq]⟩
theorem Ud (b:Bool):bD (default:dx).cU (fh b)=none:=by cases b <;> rfl
theorem Mi {hp:aS Cell} {a:Nat} (h:cD hp a=some (default:dx)):∀ aW,cK hp (some a) aW=if aW= [] then some a else none
 | []=>rfl
 | b :: aW=>by rw [hl h,Ud,gn]; rfl
theorem Hn {hp hp':aS Cell} {root:Ref} {ws:List Bool} {b:Bool} {p a:Nat} {c:dx} (bL:nT hp root) (hw:cK hp root ws=some p) (ak:cD hp p=some c) (aO:bD c.cU (fh b)=none) (bj:cD hp a=none)
 (cS:cD hp' p=some { c with cU:=fP c.cU (fh b) (some a) }) (cO:cD hp' a=some default) (gj:∀ q,q≠p→q≠a→cD hp' q=cD hp q):
 ∀ (aW us:List Bool) (q:Nat),cK hp root us=some q→cK hp' (some q) aW=if us ++ aW=ws ++ [b] then some a else cK hp (some q) aW
 | [],us,q,hu=>by
   have: ¬ us ++ []=ws ++ [b]:=fun e=>by
    rw [List.append_nil] at e
    rw [e,lM,hw,hl ak,aO,gn] at hu; cases hu
   rw [if_neg this]; rfl
 | x :: xs,us,q,hu=>by
   obtain⟨sU,nx⟩:=bL.reads us q hu
   have mz:q≠a:=fun e=>by rw [e,bj] at nx; cases nx
   by_cases Cx:q=p
   ·subst Cx
    have J3:=bL.inj us ws q hu hw
    subst J3
    rw [ak] at nx; cases nx
    rw [hl cS,hl ak]
    simp only
    have b5:fh b < 2:=by cases b <;> decide
    rw [qG _ _ b5]
    by_cases wN:x=b
    ·subst wN
     rw [if_pos rfl,aO,gn,Mi cO]
     by_cases h:xs= []
     ·subst h; rw [if_pos rfl,if_pos rfl]
     ·rw [if_neg h,if_neg fun e=>h ?_]
      have:=List.append_cancel_left e
      simpa using this
    ·have c6: ¬ fh x=fh b:=fun e=>wN (by cases x <;> cases b <;> first | rfl | cases e)
     have e8: ¬ us ++ x :: xs=us ++ [b]:=fun e=>wN (by have:=List.append_cancel_left e; simpa using (List.cons.inj this).1)
     rw [if_neg c6,if_neg e8]
     cases e:bD c.cU (fh x) with
     | none=>rw [gn,gn]
     | some mC=>
       have mw:cK hp root (us ++ [x])=some mC:=by rw [lM,hu,hl ak,e,ma]
       rw [Hn bL hw ak aO bj cS cO gj xs (us ++ [x]) mC mw,List.append_assoc,List.singleton_append,if_neg e8]
   ·have J:cD hp' q=some sU:=by rw [gj q Cx mz]; exact nx
    rw [hl J,hl nx]
    cases e:bD sU.cU (fh x) with
    | none=>
      have e8: ¬ us ++ x :: xs=ws ++ [b]:=fun aX=>by
       have abl:cK hp root (us ++ [x])=none:=by rw [lM,hu,hl nx,e,gn]
       rcases List.eq_nil_or_concat xs with rfl | ⟨ys,y,rfl⟩
       ·have:=(List.append_inj_left' aX rfl)
        subst this
        rw [hu] at hw; cases hw; exact Cx rfl
       ·have aC:us ++ x :: ys=ws:=by
         have:(us ++ x :: ys) ++ [y]=ws ++ [b]:=by simpa using aX
         exact List.append_inj_left' this rfl
        rw [← aC,show us ++ x :: ys=(us ++ [x]) ++ ys by simp,lM,abl,gn] at hw
        cases hw
      rw [gn,gn,if_neg e8]
    | some mC=>
      have mw:cK hp root (us ++ [x])=some mC:=by rw [lM,hu,hl nx,e,ma]
      rw [Hn bL hw ak aO bj cS cO gj xs (us ++ [x]) mC mw,List.append_assoc,List.singleton_append]
theorem grow {hp hp':aS Cell} {r:Nat} {ws:List Bool} (hd:ws.length < 32) {b:Bool} {p a:Nat} {c:dx} (bL:nT hp (some r)) (hw:cK hp (some r) ws=some p) (ak:cD hp p=some c) (aO:bD c.cU (fh b)=none) (bj:cD hp a=none)
 (cS:cD hp' p=some { c with cU:=fP c.cU (fh b) (some a) }) (cO:cD hp' a=some default) (gj:∀ q,q≠p→q≠a→cD hp' q=cD hp q):
 nT hp' (some r)∧ (∀ aW,cK hp' (some r) aW=if aW=ws ++ [b] then some a else cK hp (some r) aW)∧ ∀ aW,cont hp' (some r) aW=cont hp (some r) aW:=by
 have ba:∀ aW,cK hp' (some r) aW=if aW=ws ++ [b] then some a else cK hp (some r) aW:=fun aW=>Hn bL hw ak aO bj cS cO gj aW [] r rfl
 have FK:∀ aW,cK hp (some r) aW≠some a:=fun aW h=>by
  obtain⟨c,J⟩:=bL.reads aW a h
  rw [bj] at J; cases J
 have J4:cK hp (some r) (ws ++ [b])=none:=by rw [lM,hw,hl ak,aO,gn]
 refine⟨⟨fun aW q h=> ?_,fun aW cs q J ad=> ?_,fun aW q h=> ?_⟩,ba,fun aW=> ?_⟩
 ·rw [ba] at h
  split at h
  ·cases h; exact⟨_,cO⟩
  ·obtain⟨hj,J⟩:=bL.reads aW q h
   by_cases e:q=p
   ·subst e; exact⟨_,cS⟩
   ·exact⟨hj,by rw [gj q e fun aX=>FK aW (aX ▸ h)]; exact J⟩
 ·rw [ba] at J ad
  split at J <;> split at ad
  ·rename_i av aX; rw [av,aX]
  ·cases J; exact absurd ad (FK cs)
  ·cases ad; exact absurd J (FK aW)
  ·exact bL.inj aW cs q J ad
 ·rw [ba] at h
  split at h
  ·rename_i e; rw [e]; simp; omega
  ·exact bL.dep aW q h
 ·by_cases e:aW=ws ++ [b]
  ·subst e
   rw [j4 J4,jO (by rw [ba,if_pos rfl]) cO]; rfl
  ·have wO:cK hp' (some r) aW=cK hp (some r) aW:=by rw [ba,if_neg e]
   cases h:cK hp (some r) aW with
   | none=>rw [j4 h,j4 (wO.trans h)]
   | some q=>
     obtain⟨hj,J⟩:=bL.reads aW q h
     by_cases eq:q=p
     ·subst eq
      rw [ak] at J; cases J
      rw [jO h ak,jO (wO.trans h) cS]
     ·rw [jO h J,jO (wO.trans h) (by rw [gj q eq fun aX=>FK aW (aX ▸ h)]; exact J)]
theorem AG {hp hp':aS Cell} {p:Nat} {c hj:dx} (ak:cD hp p=some c) (jF:cD hp' p=some hj) (he:hj.cU=c.cU) (h:∀ q,q≠p→cD hp' q=cD hp q):∀ (aW:List Bool) (r:Ref),cK hp' r aW=cK hp r aW
 | aW,none=>by rw [gn,gn]
 | [],some q=>rfl
 | b :: aW,some q=>by
   by_cases e:q=p
   ·subst e
    rw [hl ak,hl jF,he]; exact AG ak jF he h aW _
   ·cases aX:cD hp q with
    | none=>
      show(match cD hp' q with | none=>none | some c=>cK hp' (bD c.cU (fh b)) aW)=(match cD hp q with | none=>none | some c=>cK hp (bD c.cU (fh b)) aW)
      rw [h q e,aX]
    | some d=>rw [hl aX,hl (by rw [h q e]; exact aX)]; exact AG ak jF he h aW _
theorem PW {hp hp':aS Cell} {root:Ref} {ws:List Bool} {p:Nat} {c hj:dx} (bL:nT hp root) (hw:cK hp root ws=some p) (ak:cD hp p=some c) (jF:cD hp' p=some hj) (he:hj.cU=c.cU) (h:∀ q,q≠p→cD hp' q=cD hp q):
 nT hp' root∧ ∀ aW,cont hp' root aW=if aW=ws then(bif hj.dC then some hj.hc else none) else cont hp root aW:=by
 have ba:=AG ak jF he h
 refine⟨⟨fun aW q hq=> ?_,fun aW cs q J ad=>bL.inj aW cs q (by rw [← ba]; exact J) (by rw [← ba]; exact ad),fun aW q hq=>bL.dep aW q (by rw [← ba]; exact hq)⟩,fun aW=> ?_⟩
 ·rw [ba] at hq
  obtain⟨d,J⟩:=bL.reads aW q hq
  by_cases e:q=p
  ·subst e; exact⟨_,jF⟩
  ·exact⟨d,by rw [h q e]; exact J⟩
 ·by_cases e:aW=ws
  ·subst e; rw [if_pos rfl,jO (by rw [ba]; exact hw) jF]
  ·rw [if_neg e]
   cases J:cK hp root aW with
   | none=>rw [j4 J,j4 (by rw [ba]; exact J)]
   | some q=>
     obtain⟨d,ad⟩:=bL.reads aW q J
     have Cx:q≠p:=fun aX=>e (bL.inj aW ws p (aX ▸ J) hw)
     rw [jO J ad,jO (by rw [ba]; exact J) (by rw [h q Cx]; exact ad)]
theorem j2 {α:Type} {b:Nat} (xs ys:List α) (h:xs.length + ys.length≤1000000) (hb:b≤100000):hA b xs ys=some (xs ++ ys):=by
 unfold hA
 rw [if_pos]
 unfold maxLen
 refine⟨Nat.le_trans (Nat.mul_le_mul h hb) (by omega),by omega⟩
def gE (c:bf):Prop:=0≤c.sd∧c.b1.length≤1000
theorem Eb (l:List (BitVec 8)) (n:Int) (bI:0≤n) (J:n≤1000):bt (s8 l n) gE:=by
 unfold s8
 refine .eq (a:=(l.drop 0).take ((min (l.length:Int) n).toNat - 0)) ?_ (.ret ⟨Int.le_refl 0,?_⟩)
 ·unfold vl; rw [if_pos ⟨by omega,by omega,by omega⟩]; rfl
 ·simp only [List.length_take,List.length_drop]; omega
theorem gp (c:bf) (n:Int) (ak:gE c) (aO:1≤n):bt (fH c n) (fun r=>gE r.2∧0≤r.1∧r.1 < n∧r.1 < 256):=by
 unfold fH Dn
 obtain⟨l,a⟩:=c
 obtain⟨bI,J⟩:=ak
 simp only at bI J
 obtain⟨k,rfl⟩:=Int.eq_ofNat_of_zero_le bI
 refine .eq rfl (.cond (fun _=> .ret ⟨⟨bI,J⟩,by omega,by omega,by omega⟩) fun h=> ?_)
 simp only [Bool.or_eq_false_iff,Bool.not_eq_false',decide_eq_true_eq,decide_eq_false_iff_not] at h
 have av:bq ((k:Int) + 1)=((k + 1:Nat):Int):=gb (by omega)
 simp only [av]
 have aX:bq (((k + 1:Nat):Int) - 1)=(k:Int):=by rw [g9 (by omega) (by omega)]; omega
 rw [aX]
 refine .idx rfl (by omega) (.eq (by unfold tN; rw [if_neg (by omega)]) (.ret ⟨⟨by simp only; omega,J⟩,?_,?_,?_⟩))
 ·exact Int.tmod_nonneg _ (by omega)
 ·exact Int.tmod_lt_of_pos _ (by omega)
 ·simp only
  have aC:(aE l k).toNat < 256:=(aE l k).isLt
  obtain⟨m,rfl⟩:=Int.eq_ofNat_of_zero_le (show 0≤n by omega)
  have aU:(((aE l k).toNat:Int)).tmod m=(((aE l k).toNat % m:Nat):Int):=(Int.ofNat_tmod _ _).symm
  have a1:=Nat.mod_le (aE l k).toNat m
  omega
theorem nL (c:bf) (ak:gE c):bt (lJ c) (fun r=>gE r.2):=by
 unfold lJ
 exact .bind (gp c 2 ak (by omega)) fun y h=> .ret h.1
theorem TC (c:bf) (ak:gE c):bt (zy c) (fun r=>gE r.2∧r.1.length=3):=by
 unfold zy
 refine .bind (gp c 4 ak (by omega)) fun aG J=> ?_
 refine .eq (vf J.2.1 (by simpa using J.2.2.1)) (.eq rfl (.eq rfl (.bind (nL _ J.1) fun aJ ad=> ?_)))
 refine .bind (P:=fun m=>gE m.1) (.cond (fun _=> ?_) (fun _=> .ret ad)) fun bp ck=> ?_
 ·refine .bind (gp _ 2 ad (by omega)) fun dg bk=> .eq rfl (.bind (gp _ 4 bk.1 (by omega)) fun c8 cT=> ?_)
  exact .eq (vf cT.2.1 (by simpa using cT.2.2.1)) (.eq rfl (.eq (j2 _ _ (by simp) (by omega)) (.ret cT.1)))
 ·refine .bind (gp _ 4 ck (by omega)) fun bh aC=> .eq (vf aC.2.1 (by simpa using aC.2.2.1)) (.eq rfl (.eq rfl ?_))
  refine .bind (gp _ 3 aC.1 (by omega)) fun bn aU=> ?_
  refine .bind (P:=fun m=>gE m.1) (.cond (fun _=> ?_) (fun _=> .ret aU.1)) fun cP eb=> .ret ⟨eb,rfl⟩
  exact .bind (gp _ 3 aU.1 (by omega)) fun cw a1=> .eq rfl (.ret a1.1)
def pT (a:dT):Int × List Int:=(a.bX,a.kt.map (·.fq))
def yz:List (Int × List Int):= [(1,[]),(2,[]),(3,[16]),(4,[4]),(5,[4,12]),(6,[])]
theorem U0 {α β:Type} [Inhabited α] (f:α→β) (l:List α) (k:Nat) (x:α) (h:f x=f (aE l k)):(en l k x).map f=l.map f:=by
 unfold en
 apply List.ext_getElem
 ·simp
 ·intro i J ad
  simp only [List.length_map,List.length_set] at J
  simp only [List.getElem_map,List.getElem_set]
  split
  ·rename_i e; subst e; rw [h,ew l J]
  ·rfl
theorem DS {α β:Type} [Inhabited α] (f:α→β) {l:List α} {k:Nat} {x:α} {r:List β} (h:f x=f (aE l k)) (ao:l.map f=r):(en l k x).map f=r:=(U0 f l k x h).trans ao
theorem Tg (c:bf) (ak:gE c):bt (zr c) (fun r=>gE r.2∧r.1.map pT=yz):=by
 unfold zr
 refine .eq rfl (.eq rfl (.eq rfl (.eq rfl (.eq rfl (.eq rfl (.eq rfl (.eq rfl (.eq rfl (.eq rfl (.eq rfl (.eq rfl (.eq rfl ?_))))))))))))
 refine .bind (gp _ 2 ak (by omega)) fun aG J=> .eq rfl (.bind (gp _ 256 J.1 (by omega)) fun aJ ad=> .eq rfl (.eq rfl (.eq rfl ?_)))
 refine .bind (nL _ ad.1) fun bh aC=> ?_
 refine .bind (P:=fun m=>m.map pT=yz) (.cond (fun _=> ?_) (fun _=> .ret rfl)) fun bp ck=> ?_
 ·exact .idx (k:=2) rfl (by simp) (.eq rfl (.ret (DS pT rfl rfl)))
 ·refine .bind (nL _ aC) fun bn aU=> .bind (P:=fun m=>m.map pT=yz) (.cond (fun _=> ?_) (fun _=> .ret ck)) fun cP eb=> .ret ⟨aU,eb⟩
  have ao:bp.length=6:=by rw [← List.length_map (f:=pT),ck]; rfl
  exact .idx (k:=4) rfl (by omega) (.eq rfl (.ret (DS pT rfl ck)))
def pD:cH:= { cn:=ByteArray.mk #[97],gW:=4,cN:=1 }
def w2:cH:= { cn:=ByteArray.mk #[100],gW:=7,cN:=2 }
def F6:cH:= { cn:=ByteArray.mk #[109],gW:=3,cN:=1 }
def CR:cH:= { cn:=ByteArray.mk #[101],gW:=6,cN:=3 }
def Cy:cH:= { cn:=ByteArray.mk #[97],gW:=4,cN:=3 }
def KG:cH:= { cn:=ByteArray.mk #[98],gW:=5,cN:=1 }
def CS:cH:= { cn:=ByteArray.mk #[102],gW:=8,cN:=4 }
def KH:cH:= { cn:=ByteArray.mk #[103],gW:=9,cN:=1 }
def nX (t:bW):Int × List Int × List cH:=(t.bX,t.dU,t.cl)
def mM (b:Bool):List cH:=if b then [w2,F6] else [w2]
def vN (b:Bool):List cH:=if b then [CR,Cy,KG] else [CR,Cy]
def vO (b:Bool):List cH:=if b then [CS,KH,w2] else [CS]
def sh (dJ ev hH:Bool):List (Int × List Int × List cH):=
 [(1,[1,2,4],[pD]),(2,[1,2,3,4],mM dJ),(3,[1,2,3,5,6],vN ev),(4,[1,3,5],vO hH)]
theorem TD (c:bf) (ak:gE c):bt (zA c) (fun r=>gE r.2∧ (∀ x∈r.1.map (·.iQ),2≤x∧x≤20)∧ ∃ dJ ev hH,r.1.map nX=sh dJ ev hH):=by
 unfold zA
 refine .eq rfl (.bind (gp _ 2 ak (by omega)) fun aG J=> .bind (gp _ 5 J.1 (by omega)) fun aJ ad=> .eq rfl (.eq rfl ?_))
 refine .bind (gp _ 6 ad.1 (by omega)) fun bh aC=> .bind (nL _ aC.1) fun bn aU=> ?_
 refine .bind (P:=fun m=>(m.1.bX=2∧m.1.dU= [1,2,3,4]∧m.1.iQ=bq (3 + bh.1))∧ ∃ b,m.2=mM b) (.cond (fun _=> ?_) (fun _=> .ret ⟨⟨rfl,rfl,rfl⟩,false,rfl⟩)) fun bp ck=> ?_
 ·exact .eq rfl (.eq (j2 _ _ (by simp) (by omega)) (.ret ⟨⟨rfl,rfl,rfl⟩,true,rfl⟩))
 refine .eq rfl (.eq rfl (.bind (gp _ 6 aU (by omega)) fun cw a1=> .bind (nL _ a1.1) fun dg bk=> ?_))
 refine .bind (P:=fun m=>(m.1.bX=3∧m.1.dU= [1,2,3,5,6]∧m.1.iQ=bq (4 + cw.1))∧ ∃ b,m.2=vN b) (.cond (fun _=> ?_) (fun _=> .ret ⟨⟨rfl,rfl,rfl⟩,false,rfl⟩)) fun cP eb=> ?_
 ·exact .eq rfl (.eq (j2 _ _ (by simp) (by omega)) (.ret ⟨⟨rfl,rfl,rfl⟩,true,rfl⟩))
 refine .eq rfl (.bind (gp _ 5 bk (by omega)) fun c8 cT=> .bind (nL _ cT.1) fun eX fa=> ?_)
 refine .bind (P:=fun m=>(m.1.bX=4∧m.1.dU= [1,3,5]∧m.1.iQ=bq (3 + c8.1))∧ ∃ b,m.2=vO b) (.cond (fun _=> ?_) (fun _=> .ret ⟨⟨rfl,rfl,rfl⟩,false,rfl⟩)) fun ff gG=> ?_
 ·exact .eq rfl (.eq rfl (.eq (j2 _ _ (by simp) (by omega)) (.ret ⟨⟨rfl,rfl,rfl⟩,true,rfl⟩)))
 refine .eq rfl (.eq rfl (.eq rfl (.eq rfl (.eq rfl ?_))))
 obtain⟨⟨c2,dc,jH⟩,dJ,gJ⟩:=ck
 obtain⟨⟨bC,cf,od⟩,ev,eH⟩:=eb
 obtain⟨⟨d1,d2,d4⟩,hH,d3⟩:=gG
 refine bt.loop 4 (fun k s=>s.1=(k:Int)∧s.2.1.map nX=sh dJ ev hH∧gE s.2.2∧s.2.1.map (·.iQ)= [bq (2 + aJ.1),bq (3 + bh.1),bq (4 + cw.1),bq (3 + c8.1)]) (by omega) ⟨rfl,?_,fa,?_⟩ (fun k s ay au=> ?_) (fun s au=> ?_)
 ·simp only [List.map_cons,List.map_nil,nX,c2,dc,gJ,bC,cf,eH,d1,d2,d3,sh]; rfl
 ·simp only [List.map_cons,List.map_nil,jH,od,d4]
 ·obtain⟨i,ht,w3⟩:=s; obtain⟨av,aX,c4,gT⟩:=au
  simp only at av aX c4 gT; subst av
  refine bt.cond (fun _=> ?_) (fun h=>by simp at h; omega)
  have ao:ht.length=4:=by rw [← List.length_map (f:=nX),aX]; rfl
  refine .idx rfl (by simpa using ay) (.bind (gp _ 3 c4 (by omega)) fun fV fX=> .eq (vf fX.2.1 ?_) (.idx rfl (by simp only; omega) (.eq rfl (.ret ⟨gb (by omega),?_,fX.1,?_⟩))))
  ·have kG:=fX.2.2.1
   have:k=0∨k=1∨k=2∨k=3:=by omega
   rcases this with rfl | rfl | rfl | rfl <;> exact kG
  ·exact DS nX rfl aX
  ·exact DS bW.iQ rfl gT
 ·obtain⟨i,ht,w3⟩:=s; obtain⟨av,aX,c4,gT⟩:=au
  simp only at av aX c4 gT; subst av
  refine⟨_,rfl,?_⟩
  refine .ret ⟨c4,fun x an=> ?_,dJ,ev,hH,aX⟩
  rw [gT] at an
  have bd:=ad.2; have bN:=aC.2; have k9:=a1.2; have ac8:=cT.2
  simp only [List.mem_cons,List.not_mem_nil,or_false] at an
  rcases an with rfl | rfl | rfl | rfl <;> (rw [g9 (by omega) (by omega)]; omega)
theorem Nh (n:Nat) (h:n≤1000):wu (α:=Bool) 1 (n:Int)=some (List.replicate n default):=by
 unfold wu; rw [if_pos ⟨by omega,by omega,by omega⟩]; simp
theorem Ue (c:bf) (ht:List bW) (ak:gE c) (ao:ht.length≤1000) (ay:∀ t∈ht,t.cl.length≤1000):bt (zL c ht) (fun r=>gE r.2∧r.1.map (·.bX)= [1,2,7]):=by
 unfold zL
 refine .bind (gp _ 3 ak (by omega)) fun aG J=> .bind (gp _ 6 J.1 (by omega)) fun aJ ad=> .bind (gp _ 6 ad.1 (by omega)) fun bh aC=> .bind (gp _ 4 aC.1 (by omega)) fun bn aU=> ?_
 refine bt.loop ht.length (fun k s=>s.1=(k:Int)∧gE s.2.2.2.1∧s.2.2.1.length≤k∧s.2.2.2.2.2.1.length≤k∧s.2.2.2.2.2.2.2.length≤k∧s.2.1.bX=7∧s.2.2.2.2.1.bX=2∧s.2.2.2.2.2.2.1.bX=1) (by omega) ⟨rfl,aU.1,by simp,by simp,by simp,rfl,rfl,rfl⟩ (fun k s jE au=> ?_) (fun s au=> ?_)
 ·obtain⟨i,iE,aq,w3,gx,bd,oe,bN⟩:=s; obtain⟨av,aX,c4,gT,l6,i1,i2,i3⟩:=au
  simp only at av aX c4 gT l6 i1 i2 i3; subst av
  refine bt.cond (fun _=> ?_) (fun h=>by simp at h; omega)
  have PX:(aE ht k).cl.length≤1000:=ay _ (by rw [ew ht jE]; exact List.getElem_mem jE)
  refine .idx rfl jE (.eq (Nh _ PX) (.eq (Nh _ PX) ?_))
  refine bt.loop (aE ht k).cl.length (fun j s=>s.1=(j:Int)∧s.2.1.length=(aE ht k).cl.length∧s.2.2.1.length=(aE ht k).cl.length∧gE s.2.2.2) (by omega) ⟨rfl,by simp,by simp,aX⟩ (fun j s aH au=> ?_) (fun s au=> ?_)
  ·obtain⟨i,dJ,ev,abm⟩:=s; obtain⟨f1,f2,f3,f4⟩:=au
   simp only at f1 f2 f3 f4; subst f1
   refine bt.cond (fun _=> ?_) (fun h=>by simp at h; omega)
   exact .bind (gp _ 4 f4 (by omega)) fun c8 cT=> .idx rfl (by simp only; omega) (.idx rfl (by simp only; omega) (.ret ⟨gb (by omega),by simp [en,f2],by simp [en,f3],cT.1⟩))
  ·obtain⟨i,dJ,ev,abm⟩:=s; obtain⟨f1,f2,f3,f4⟩:=au
   simp only at f1 f2 f3 f4; subst f1
   refine⟨_,by simp; rfl,?_⟩
   refine .eq rfl (.eq (j2 _ _ (by simp; omega) (by omega)) (.bind (gp _ 4 f4 (by omega)) fun fV fX=> ?_))
   refine .bind (P:=fun m=>gE m.1∧m.2.2.length≤k + 1∧m.2.1.bX=2) (.cond (fun _=> ?_) (fun _=> .ret ⟨fX.1,by simp only; omega,i2⟩)) fun bp ck=> ?_
   ·exact .bind (gp _ 4 fX.1 (by omega)) fun hL yS=> .bind (nL _ yS.1) fun nr yT=> .eq rfl (.eq (j2 _ _ (by simp; omega) (by omega)) (.ret ⟨yT,by simp; omega,i2⟩))
   refine .bind (nL _ ck.1) fun gH kG=> ?_
   refine .bind (P:=fun m=>gE m.1∧m.2.2.length≤k + 1∧m.2.1.bX=7) (.cond (fun _=> ?_) (fun _=> .ret ⟨kG,by simp only; omega,i1⟩)) fun cP eb=> ?_
   ·exact .bind (nL _ kG) fun hY rh=> .bind (nL _ rh) fun gQ wP=> .eq rfl (.eq (j2 _ _ (by simp; omega) (by omega)) (.ret ⟨wP,by simp; omega,i1⟩))
   exact .ret ⟨gb (by omega),eb.1,eb.2.1,ck.2.1,by simp; omega,eb.2.2,ck.2.2,i3⟩
 ·obtain⟨i,iE,aq,w3,gx,bd,oe,bN⟩:=s; obtain⟨av,aX,c4,gT,l6,i1,i2,i3⟩:=au
  simp only at av aX c4 gT l6 i1 i2 i3; subst av
  refine⟨_,by simp; rfl,?_⟩
  exact .eq rfl (.eq rfl (.ret ⟨aX,by simp only [List.map_cons,List.map_nil,i1,i2,i3]⟩))
def Jf:List (Int × Int):= [(1,16),(2,16),(3,8),(4,4),(5,4),(6,8),(7,32),(8,12),(9,4)]
def Bl (f:fx):Int × Int:=(f.bX,f.fq)
structure dk (s:a3):Prop where
 fields:s.gV.map Bl=Jf
 headers:s.te.length=3
 Wu:s.u2.length=3
 HG:s.dU.map pT=yz
 tables:∃ dJ ev hH,s.b7.map nX=sh dJ ev hH
 Yp:s.ow.map (·.bX)= [1,2,7]
 Yq:∀ x∈s.b7.map (·.iQ),2≤x∧x≤20
theorem dk.wa {s:a3} (h:dk s):s.gV.length=9:=by rw [← List.length_map (f:=Bl),h.fields]; rfl
theorem dk.lV {s:a3} (h:dk s):s.b7.length=4:=by obtain⟨dJ,ev,hH,J⟩:=h.tables; rw [← List.length_map (f:=nX),J]; rfl
theorem dk.PY {s:a3} (h:dk s):s.dU.length=6:=by rw [← List.length_map (f:=pT),h.HG]; rfl
theorem LW (c:bf) (ak:gE c):bt (xf c) (fun r=>dk r.1∧gE r.2):=by
 unfold xf
 refine .bind (gp _ 8 ak (by omega)) fun aG J=> .bind (gp _ 30 J.1 (by omega)) fun aJ ad=> ?_
 refine .eq rfl (.eq rfl (.eq rfl (.eq rfl (.eq rfl (.eq rfl (.eq rfl (.eq rfl (.eq rfl (.eq rfl (.eq rfl (.eq rfl ?_)))))))))))
 refine .bind (TC _ ad.1) fun bh aC=> .bind (Tg _ aC.1) fun bn aU=> .bind (TD _ aU.1) fun cw a1=> .eq rfl (.eq rfl ?_)
 obtain⟨abn,eE,dJ,ev,hH,a1⟩:=a1
 have ao:cw.1.length=4:=by rw [← List.length_map (f:=nX),a1]; rfl
 have Yr:∀ t∈cw.1,t.cl.length≤1000:=fun t bL=>by
  have bk:nX t∈sh dJ ev hH:=a1 ▸ List.mem_map_of_mem bL
  have cT:∀ p∈sh dJ ev hH,p.2.2.length≤1000:=by
   intro p hp
   simp only [sh,List.mem_cons,List.not_mem_nil,or_false] at hp
   rcases hp with rfl | rfl | rfl | rfl
   ·simp
   ·cases dJ <;> simp [mM]
   ·cases ev <;> simp [vN]
   ·cases hH <;> simp [vO]
  exact cT _ bk
 refine .bind (Ue _ _ abn (by simp only; omega) Yr) fun dg bk=> .eq rfl (.bind (nL _ bk.1) fun c8 cT=> ?_)
 let Inv (s:a3):Prop:=s.gV.map Bl=Jf∧s.te.length=3∧s.u2.length=3∧s.dU.map pT=yz∧s.b7=cw.1∧s.ow.map (·.bX)= [1,2,7]
 have hinv:∀ (st:List fJ) (QY:List fc) (s:a3),Inv s→Inv { s with nJ:=st,oA:=QY } :=fun st QY s h=>h
 refine .bind (P:=fun _=>True) (.cond (fun _=> .eq (j2 _ _ (by simp) (by omega)) (.ret trivial)) (fun _=> .ret trivial)) fun bp _=> ?_
 refine .bind (nL _ cT) fun eX fa=> ?_
 refine .bind (P:=fun m=>Inv m.1∧m.2.length≤10) (.cond (fun _=> .eq rfl (.eq (j2 _ _ (by simp) (by omega)) (.ret ⟨⟨rfl,rfl,aC.2,aU.2,rfl,bk.2⟩,by simp⟩))) (fun _=> .ret ⟨⟨rfl,rfl,aC.2,aU.2,rfl,bk.2⟩,by simp⟩)) fun cP eb=> ?_
 refine .bind (nL _ fa) fun fV fX=> ?_
 refine .cy (P:=fun _=>True) (fun _=>⟨2,ox (k:=2) (by rw [eb.1.2.2.2.2.1]; omega),trivial⟩) fun a8 _=> ?_
 refine .bind (P:=fun m=>Inv m.1∧m.2.length≤11) (.cond (fun _=> .eq rfl (.eq (j2 _ _ (by have:=eb.2; simp; omega) (by omega)) (.ret ⟨eb.1,by have:=eb.2; simp; omega⟩))) (fun _=> .ret ⟨eb.1,by have:=eb.2; simp only; omega⟩)) fun ff gG=> ?_
 refine .bind (nL _ fX) fun gH kG=> ?_
 refine .cy (P:=fun _=>True) (fun _=>⟨3,ox (k:=3) (by rw [gG.1.2.2.2.2.1]; omega),trivial⟩) fun bY _=> ?_
 refine .bind (P:=fun m=>Inv m.1∧m.2.length≤13) (.cond (fun _=> .eq rfl (.eq rfl (.eq (j2 _ _ (by have:=gG.2; simp; omega) (by omega)) (.ret ⟨gG.1,by have:=gG.2; simp; omega⟩)))) (fun _=> .ret ⟨gG.1,by have:=gG.2; simp only; omega⟩)) fun pA BT=> ?_
 obtain⟨⟨i1,i2,i3,i4,i5,i6⟩,_⟩:=BT
 exact .eq rfl (.ret ⟨⟨i1,i2,i3,i4,⟨dJ,ev,hH,by simp only [i5]; exact a1⟩,i6,by simp only [i5]; exact eE⟩,kG⟩)
theorem dk.size {s:a3} (h:dk s) {k:Nat} (ay:k < 4):2≤ (aE s.b7 k).iQ∧ (aE s.b7 k).iQ≤20:=by
 have ao:=h.lV
 exact h.Yq _ (List.mem_map.2 ⟨_,by rw [ew _ (by omega)]; exact List.getElem_mem _,rfl⟩)
theorem Ni (x:Int) (n:Int) (J:1≤n) (ad:n≤1000000):bt (rD x n) (fun r=>0≤r∧r < n):=by
 unfold rD
 refine .cond (fun h=>by simp at h; omega) fun _=> ?_
 have hm:∀ y:Int,tN y n=some (y.tmod n):=fun y=>by unfold tN; rw [if_neg (by omega)]
 refine .eq (hm _) ?_
 have aC:=Int.tmod_lt_of_pos x (show 0 < n by omega)
 have aU: -n < x.tmod n:=by
  have:=Int.tmod_lt_of_pos (-x) (show 0 < n by omega)
  rw [Int.neg_tmod] at this; omega
 rw [g9 (by omega) (by omega)]
 exact .eq (hm _) (.ret ⟨Int.tmod_nonneg _ (by omega),Int.tmod_lt_of_pos _ (by omega)⟩)
def ch (v:ar) (i:Nat):Bool:=if i < 64 then v.bG.getLsbD i else v.cV.getLsbD (i - 64)
theorem A3 {v w:ar} (h:∀ j,j < 128→ch v j=ch w j):v=w:=by
 cases v with | mk ab8 ab9=>cases w with | mk aca wl=>
 have J:ab8=aca:=by
  apply BitVec.eq_of_getLsbD_eq
  intro i au
  have:=h (i + 64) (by omega)
  simpa [ch,show ¬ (i + 64 < 64) by omega] using this
 have ad:ab9=wl:=by
  apply BitVec.eq_of_getLsbD_eq
  intro i au
  have:=h i (by omega)
  simpa [ch,au] using this
 rw [J,ad]
theorem Ec (j:Nat):ch default j=false:=by
 unfold ch; split <;> exact BitVec.getLsbD_zero
def tU (x y:ar):ar:= { cV:=x.cV &&& y.cV,bG:=x.bG &&& y.bG }
def Qy (x y:ar):ar:= { cV:=x.cV ||| y.cV,bG:=x.bG ||| y.bG }
def Jg (x y:ar):ar:= { cV:=x.cV ^^^ y.cV,bG:=x.bG ^^^ y.bG }
@[simp] theorem vg (x y:ar) (j:Nat):ch (tU x y) j=(ch x j && ch y j):=by unfold ch tU; split <;> simp
@[simp] theorem acn (x y:ar) (j:Nat):ch (Qy x y) j=(ch x j || ch y j):=by unfold ch Qy; split <;> simp
@[simp] theorem VH (x y:ar) (j:Nat):ch (Jg x y) j=(ch x j ^^ ch y j):=by unfold ch Jg; split <;> simp
theorem and_eq (x y:ar):s9 x y=some (tU x y):=rfl
theorem xor_eq (x y:ar):Ag x y=some (Jg x y):=rfl
theorem Nj (x:ar):bt (xI x) (fun r=> ∀ j,j < 128→bD r j=ch x j):=by
 unfold xI
 refine bt.loop 64 (fun k s=>s.1=k∧ ∀ j,j < 128→bD s.2 j=(decide (j % 64 < k) && ch x j)) (by omega)
  ⟨rfl,fun j aH=>by simp [DA]⟩ (fun k s ay au=> ?_) (fun s au=> ?_)
 ·obtain⟨i,v⟩:=s; obtain⟨J,ad⟩:=au
  simp only at J ad; subst J
  have av:bq ((k:Int) + 64)=((k + 64:Nat):Int):=by rw [g9 (by omega) (by omega)]; simp
  refine bt.cond (fun _=> ?_) (fun h=>by simp at h; omega)
  refine bt.idx rfl (show k < 128 by omega) (.eq rfl (.idx av (show k + 64 < 128 by omega) (.eq rfl (.ret ⟨gb (by omega),fun j aH=> ?_⟩))))
  simp only [qG _ _ (show k < 128 by omega),qG _ _ (show k + 64 < 128 by omega),pJ (show k < 2 ^ 64 by omega),UY,ad j aH]
  by_cases yD:j=k + 64
  ·subst yD
   have J:(k + 64) % 64 < k + 1:=by omega
   have ad: ¬ (k + 64 < 64):=by omega
   simp only [ch,J,ad,if_true,if_false,decide_true,Bool.true_and,Nat.add_sub_cancel]
  ·by_cases n8:j=k
   ·subst n8
    have:j % 64 < j + 1:=by omega
    simp [ch,this,ay]
   ·rw [if_neg yD,if_neg n8]
    congr 1
    rw [decide_eq_decide]; omega
 ·obtain⟨i,v⟩:=s; obtain⟨J,ad⟩:=au
  simp only at J ad; subst J
  refine⟨_,rfl,.ret fun j aH=> ?_⟩
  have:j % 64 < 64:=by omega
  simp [ad j aH,this]
theorem MB (v:ar) (n:Nat) (aO:n < 2 ^ 62):bt (xF v n) (fun r=> ∀ j,j < 128→ch r j=ch v (j + n)):=by
 unfold xF
 refine .cond (fun h=> .ret fun j aH=> ?_) (fun h=> .cond (fun c0=> .eq rfl (.ret fun j aH=> ?_)) (fun c0=> .eq rfl (.eq rfl (.ret fun j aH=> ?_))))
 ·have:n=0:=by simp at h; omega
  simp [this]
 ·simp only [decide_eq_true_eq] at c0
  have av:bq ((n:Int) - 64)=((n - 64:Nat):Int):=by rw [g9 (by omega) (by omega)]; omega
  rw [av,pJ (by omega)]
  unfold ch
  by_cases aH:j < 64
  ·rw [if_pos aH,if_neg (by omega)]
   simp only [BitVec.getLsbD_ushiftRight]
   congr 1; omega
  ·rw [if_neg aH,if_neg (by omega)]
   rw [show(default:ar).cV=0#64 from rfl,BitVec.getLsbD_zero,BitVec.getLsbD_of_ge _ _ (by omega)]
 ·simp only [decide_eq_false_iff_not] at h c0
  have av:bq (64 - (n:Int))=((64 - n:Nat):Int):=by rw [g9 (by omega) (by omega)]; omega
  rw [av,pJ (by omega),pJ (by omega)]
  unfold ch
  by_cases aH:j < 64
  ·rw [if_pos aH]
   simp only [BitVec.getLsbD_or,BitVec.getLsbD_ushiftRight,BitVec.getLsbD_shiftLeft]
   by_cases aC:j + n < 64
   ·rw [if_pos aC]
    have:j < 64 - n:=by omega
    simp [this,Nat.add_comm]
   ·rw [if_neg aC,BitVec.getLsbD_of_ge _ (n + j) (by omega)]
    have: ¬ (j < 64 - n):=by omega
    simp only [aH,this,decide_true,decide_false,Bool.true_and,Bool.not_false,Bool.false_or]
    congr 1; omega
  ·rw [if_neg aH,if_neg (by omega)]
   simp only [BitVec.getLsbD_ushiftRight]
   congr 1; omega
theorem Wv (v:ar) (i:Int):bt (uR v i) (fun r=>r=(decide (0≤i∧i < 128) && ch v i.toNat)):=by
 unfold uR
 refine .cy (P:=fun r=> ∀ j,j < 128→ch r j=ch v (j + i.toNat)) (fun h=> ?_) fun y a5=> .eq rfl (.ret ?_)
 ·simp at h
  obtain⟨n,rfl⟩:=Int.eq_ofNat_of_zero_le h.1
  exact MB v n (by omega)
 ·by_cases h:0≤i∧i < 128
  ·have J:(decide (i≥0) && decide (i < 128))=true:=by simp; omega
   rw [J,Nd]
   have:=a5 J 0 (by omega)
   rw [show ch y 0=y.bG.getLsbD 0 from rfl,Nat.zero_add] at this
   rw [this,decide_eq_true h]
  ·have J:(decide (i≥0) && decide (i < 128))=false:=by simp; omega
   simp [J,h]
def QZ (w:Vector ar 4) (i:Nat):Bool:=ch (bD w (i / 128)) (127 - i % 128)
def cell (val mask:Vector ar 4) (i:Nat):BitVec 8:=if QZ mask i then(if QZ val i then 1#8 else 0#8) else 2#8
theorem VI (x y:ar):bt (Ag x y) (fun r=> ∀ j,j < 128→ch r j=(ch x j ^^ ch y j)):=⟨_,xor_eq x y,fun j _=>VH x y j⟩
theorem HH (n:Int):bt (uM n) (fun r=> ∀ j,j < 128→ch r j=decide ((j:Int) < n)):=by
 unfold uM xC
 refine .eq rfl (.eq rfl ?_)
 have hm:bq (128 - min (max 0 n) 128)=((128 - min (max 0 n) 128).toNat:Int):=by rw [g9 (by omega) (by omega)]; omega
 rw [hm]
 refine(MB _ _ (by omega)).bind fun r aR=> .ret fun j aH=> ?_
 rw [aR j aH]
 have kA:∀ i,ch { cV:=18446744073709551615#64,bG:=18446744073709551615#64 } i=decide (i < 128):=by
  intro i
  have bb:(18446744073709551615#64)=BitVec.allOnes 64:=by rfl
  unfold ch
  simp only [bb,BitVec.getLsbD_allOnes]
  by_cases h:i < 64
  ·simp [h]; omega
  ·simp [h]; omega
 rw [kA,decide_eq_decide]; omega
def val (w:Nat):Nat→ (Nat→Nat)→Nat
 | 0,_=>0
 | n + 1,d=>d 0 + 2 ^ w * val w n (fun k=>d (k + 1))
def si:List Int:= [16,16,8,4,4,8,32,12,4]
theorem dk.wQ {s:a3} (h:dk s) {k:Nat} (ay:k < 9):(aE s.gV k).bX=(k:Int) + 1∧ (aE s.gV k).fq=aE si k:=by
 have J:=D0 Bl (l:=s.gV) (k:=k) (by rw [h.wa]; exact ay)
 rw [h.fields] at J
 have ad:aE Jf k=((k:Int) + 1,aE si k):=by
  have:k=0∨k=1∨k=2∨k=3∨k=4∨k=5∨k=6∨k=7∨k=8:=by omega
  rcases this with rfl | rfl | rfl | rfl | rfl | rfl | rfl | rfl | rfl <;> rfl
 rw [ad] at J
 simp only [Bl,Prod.mk.injEq] at J
 exact⟨J.1.symm,J.2.symm⟩
def tV:List (List Int):= [[],[],[16],[4],[4,12],[]]
theorem dk.act {s:a3} (h:dk s) {k:Nat} (ay:k < 6):(aE s.dU k).bX=(k:Int) + 1∧ (aE s.dU k).kt.map (·.fq)=aE tV k:=by
 have J:=D0 pT (l:=s.dU) (k:=k) (by rw [h.PY]; exact ay)
 rw [h.HG] at J
 have ad:aE yz k=((k:Int) + 1,aE tV k):=by
  have:k=0∨k=1∨k=2∨k=3∨k=4∨k=5:=by omega
  rcases this with rfl | rfl | rfl | rfl | rfl | rfl <;> rfl
 rw [ad] at J
 simp only [pT,Prod.mk.injEq] at J
 exact⟨J.1.symm,J.2.symm⟩
def kX (key:cH):Prop:= ∃ j:Nat,j < 9∧key.gW=(j:Int) + 1∧1≤key.cN∧key.cN≤4∧4≤aE si j∧aE si j≤32∧ (key.cN=2→j=6)
def gU (key:cH):Int:=aE si (key.gW - 1).toNat
theorem dk.kl {s:a3} (h:dk s) {k:Nat} (ay:k < 4):(aE s.b7 k).bX=(k:Int) + 1∧
 (1≤ (aE s.b7 k).cl.length∧ (aE s.b7 k).cl.length≤3)∧ (∀ key∈ (aE s.b7 k).cl,kX key)∧
 (1≤ (aE s.b7 k).dU.length∧ (aE s.b7 k).dU.length≤5)∧ (∀ a∈ (aE s.b7 k).dU,1≤a∧a≤6):=by
 obtain⟨dJ,ev,hH,bL⟩:=h.tables
 have J:=D0 nX (l:=s.b7) (k:=k) (by rw [h.lV]; exact ay)
 rw [bL] at J
 have ad:∀ p:Int × List Int × List cH,p=nX (aE s.b7 k)→p.1=(k:Int) + 1→ (1≤p.2.2.length∧p.2.2.length≤3)→ (∀ key∈p.2.2,kX key)→
  (1≤p.2.1.length∧p.2.1.length≤5)→ (∀ a∈p.2.1,1≤a∧a≤6)→ (aE s.b7 k).bX=(k:Int) + 1∧
  (1≤ (aE s.b7 k).cl.length∧ (aE s.b7 k).cl.length≤3)∧ (∀ key∈ (aE s.b7 k).cl,kX key)∧
  (1≤ (aE s.b7 k).dU.length∧ (aE s.b7 k).dU.length≤5)∧ (∀ a∈ (aE s.b7 k).dU,1≤a∧a≤6):=by
  rintro p rfl a b c d e
  exact⟨a,b,c,d,e⟩
 have ib:(1≤ ([1,2,4]:List Int).length∧ ([1,2,4]:List Int).length≤5)∧ ∀ a∈ ([1,2,4]:List Int),1≤a∧a≤6:=by decide
 have c2:(1≤ ([1,2,3,4]:List Int).length∧ ([1,2,3,4]:List Int).length≤5)∧ ∀ a∈ ([1,2,3,4]:List Int),1≤a∧a≤6:=by decide
 have dc:(1≤ ([1,2,3,5,6]:List Int).length∧ ([1,2,3,5,6]:List Int).length≤5)∧ ∀ a∈ ([1,2,3,5,6]:List Int),1≤a∧a≤6:=by decide
 have gJ:(1≤ ([1,3,5]:List Int).length∧ ([1,3,5]:List Int).length≤5)∧ ∀ a∈ ([1,3,5]:List Int),1≤a∧a≤6:=by decide
 have Ys:kX pD:=⟨3,by decide,rfl,by decide,by decide,by decide,by decide,by decide⟩
 have NY:kX Cy:=⟨3,by decide,rfl,by decide,by decide,by decide,by decide,by decide⟩
 have Yt:kX KG:=⟨4,by decide,rfl,by decide,by decide,by decide,by decide,by decide⟩
 have IP:kX w2:=⟨6,by decide,rfl,by decide,by decide,by decide,by decide,by decide⟩
 have Yu:kX F6:=⟨2,by decide,rfl,by decide,by decide,by decide,by decide,by decide⟩
 have Pb:kX CR:=⟨5,by decide,rfl,by decide,by decide,by decide,by decide,by decide⟩
 have Pc:kX CS:=⟨7,by decide,rfl,by decide,by decide,by decide,by decide,by decide⟩
 have Yv:kX KH:=⟨8,by decide,rfl,by decide,by decide,by decide,by decide,by decide⟩
 have:k=0∨k=1∨k=2∨k=3:=by omega
 rcases this with rfl | rfl | rfl | rfl
 ·refine ad _ J rfl (show 1≤ [pD].length∧ [pD].length≤3 by decide) ?_ ib.1 ib.2
  intro key kC
  rcases List.mem_singleton.1 kC with rfl
  exact Ys
 ·refine ad _ J rfl ?_ ?_ c2.1 c2.2
  ·show 1≤ (mM dJ).length∧ (mM dJ).length≤3
   cases dJ <;> decide
  ·intro key kC
   replace kC:key∈mM dJ:=kC
   cases dJ <;> simp only [mM,List.mem_cons,List.not_mem_nil,or_false,if_true,if_false,Bool.false_eq_true] at kC
   ·subst kC; exact IP
   ·rcases kC with rfl | rfl; exact IP; exact Yu
 ·refine ad _ J rfl ?_ ?_ dc.1 dc.2
  ·show 1≤ (vN ev).length∧ (vN ev).length≤3
   cases ev <;> decide
  ·intro key kC
   replace kC:key∈vN ev:=kC
   cases ev <;> simp only [vN,List.mem_cons,List.not_mem_nil,or_false,if_true,if_false,Bool.false_eq_true] at kC
   ·rcases kC with rfl | rfl; exact Pb; exact NY
   ·rcases kC with rfl | rfl | rfl; exact Pb; exact NY; exact Yt
 ·refine ad _ J rfl ?_ ?_ gJ.1 gJ.2
  ·show 1≤ (vO hH).length∧ (vO hH).length≤3
   cases hH <;> decide
  ·intro key kC
   replace kC:key∈vO hH:=kC
   cases hH <;> simp only [vO,List.mem_cons,List.not_mem_nil,or_false,if_true,if_false,Bool.false_eq_true] at kC
   ·subst kC; exact Pc
   ·rcases kC with rfl | rfl | rfl; exact Pc; exact Yv; exact IP
theorem TE {s:a3} (h:dk s) {j:Nat} (aH:j < 9):bt (z3 s ((j:Int) + 1)) (fun r=>r=aE si j):=by
 unfold z3
 have ao:=h.wa
 refine bt.loop j (fun k s=>s=(k:Int)) (by omega) rfl (fun k i ay au=> ?_) (fun i au=> ?_)
 ·subst au
  refine bt.cond (fun _=> ?_) (fun h=>by simp at h; omega)
  refine .idx rfl (by omega) (.cond (fun ak=> ?_) (fun ak=> .ret (gb (by omega))))
  have:=(h.wQ (show k < 9 by omega)).1
  simp only [this,beq_iff_eq] at ak
  omega
 ·subst au
  have J:decide ((j:Int) < (s.gV.length:Int))=true:=by simp; omega
  have ad:((aE s.gV j).bX ==(j:Int) + 1)=true:=by rw [(h.wQ aH).1]; simp
  rw [J]
  simp only [cond_true]
  rw [ox (by omega)]
  simp only [Option.bind_some,ad,cond_true]
  exact⟨_,rfl,.ret (h.wQ aH).2⟩
theorem Th {s:a3} (h:dk s) {j:Nat} (aH:j < 6):bt (zU s ((j:Int) + 1)) (fun r=>r=aE s.dU j):=by
 unfold zU
 have ao:=h.PY
 refine bt.loop j (fun k s=>s=(k:Int)) (by omega) rfl (fun k i ay au=> ?_) (fun i au=> ?_)
 ·subst au
  refine bt.cond (fun _=> ?_) (fun h=>by simp at h; omega)
  refine .idx rfl (by omega) (.cond (fun ak=> ?_) (fun ak=> .ret (gb (by omega))))
  have:=(h.act (show k < 6 by omega)).1
  simp only [this,beq_iff_eq] at ak
  omega
 ·subst au
  have J:decide ((j:Int) < (s.dU.length:Int))=true:=by simp; omega
  have ad:((aE s.dU j).bX ==(j:Int) + 1)=true:=by rw [(h.act aH).1]; simp
  rw [J]
  simp only [cond_true]
  rw [ox (by omega)]
  simp only [Option.bind_some,ad,cond_true]
  exact⟨_,rfl,.ret rfl⟩
theorem xN {n:Nat} (aO:n < 64) (j:Nat):(((1#64) <<< n) - 1#64).getLsbD j=decide (j < n):=by
 have J:(((1#64) <<< n) - 1#64).toNat=2 ^ n - 1:=by
  have ad:((1#64) <<< n).toNat=2 ^ n:=by
   rw [BitVec.toNat_shiftLeft,BitVec.toNat_ofNat,Nat.shiftLeft_eq]
   have:=Nat.pow_lt_pow_right (show 1 < 2 by omega) aO
   rw [show(1 % 2 ^ 64:Nat)=1 from rfl,Nat.one_mul]
   exact Nat.mod_eq_of_lt this
  have aC:1≤2 ^ n:=Nat.one_le_two_pow
  have aU:=Nat.pow_lt_pow_right (show 1 < 2 by omega) aO
  rw [BitVec.toNat_sub,ad]
  simp only [BitVec.toNat_ofNat]
  omega
 rw [← BitVec.testBit_toNat,J,Nat.testBit_two_pow_sub_one]
theorem H8 (x:ar) (n:Int) (bI:0≤n) (J:n < 1000):bt (uP x n) (fun r=> ∀ j,j < 128→ch r j=(ch x j && decide ((j:Int) < n))):=by
 unfold uP
 obtain⟨m,rfl⟩:=Int.eq_ofNat_of_zero_le bI
 refine .cond (fun h=> .ret fun j aH=> ?_) fun h=> .cond (fun c0=> .eq rfl (.ret fun j aH=> ?_)) fun c0=> .cond (fun J5=> .ret fun j aH=> ?_) fun J5=> .eq rfl (.eq rfl (.ret fun j aH=> ?_))
 ·simp only [decide_eq_true_eq] at h
  have:decide ((j:Int) < (m:Int))=true:=by simp; omega
  rw [this,Bool.and_true]
 ·simp only [decide_eq_true_eq,decide_eq_false_iff_not] at h c0
  have e:bq ((m:Int) - 64)=((m - 64:Nat):Int):=by rw [g9 (by omega) (by omega)]; omega
  simp only [ch,e,pJ (show m - 64 < 2 ^ 64 by omega),BitVec.getLsbD_and,xN (show m - 64 < 64 by omega)]
  split
  ·have:decide ((j:Int) < (m:Int))=true:=by simp; omega
   rw [this,Bool.and_true]
  ·congr 1; rw [decide_eq_decide]; omega
 ·simp only [decide_eq_true_eq] at J5
  have:decide ((j:Int) < (m:Int))=false:=by simp; omega
  rw [Ec,this,Bool.and_false]
 ·simp only [decide_eq_true_eq,decide_eq_false_iff_not] at h c0 J5
  simp only [ch,pJ (show m < 2 ^ 64 by omega),BitVec.getLsbD_and,xN (show m < 64 by omega)]
  split
  ·congr 1; rw [decide_eq_decide]; omega
  ·have:decide ((j:Int) < (m:Int))=false:=by simp; omega
   rw [this,Bool.and_false]; exact BitVec.getLsbD_zero
theorem Pd (w:BitVec 64) (j:Nat):ch { (default:ar) with bG:=w } j=w.getLsbD j:=by
 unfold ch
 split
 ·rfl
 ·rw [BitVec.getLsbD_of_ge w j (by omega)]; exact BitVec.getLsbD_zero
structure nY (kind b:Int) (m:bV):Prop where
 off:m.fF=false→m=default
 FL:kind=1→m.fF=true
 low:kind=1→ ∀ j,j < 128→ch m.cI j=true→ (j:Int) < b
 acO:kind=3→ ∀ j,j < 128→ch m.fL j=true→ (j:Int) < b
 abo:kind=3→ ∀ j,j < 128→ch m.cI j=true→ch m.fL j=true
 pre:0≤m.ez∧m.ez≤32
 J6:kind=2→m.fF=true→1≤m.ez
 J7:kind≠2→m.ez=0
 gk:kind≠3→m.fL=default
 abp:kind=3→m.fF=true→m.fL≠default
 ql:kind=4→m.fF=true→m.cI.cV=m.jP.cV∧m.cI.bG≤m.jP.bG
 J8:kind=2→ ∀ j,j < 128→ch m.cI j=true→32 - m.ez≤ (j:Int)∧j < 32
 FM:kind≠4→m.jP=default
theorem E9:(0:Int)≤0∧ (0:Int)≤32:=⟨Int.le_refl 0,by decide⟩
theorem G7 {kind b:Int} (h:kind≠1):nY kind b default:=
 ⟨fun _=>rfl,fun k=>absurd k h,fun k=>absurd k h,fun _ j _ a0=>(by rw [show(default:bV).fL=default from rfl,Ec] at a0; cases a0),
  fun _ j _ a0=>(by rw [show(default:bV).cI=default from rfl,Ec] at a0; cases a0),
  E9,fun _ k=>(by cases k),fun _=>rfl,fun _=>rfl,fun _ k=>(by cases k),fun _ k=>(by cases k),
  fun _ j _ a0=>(by rw [show(default:bV).cI=default from rfl,Ec] at a0; cases a0),fun _=>rfl⟩
theorem VJ {a x y:BitVec 64} (J:a≤x) (ad:a≤y):a≤v5 x y:=by
 unfold v5; split <;> assumption
theorem VK {v:ar} {b c:Int} (hb:0≤b∧b≤32) (ak:0≤c∧c < 256) (a0:∀ j,j < 128→ch v j=true→ (j:Int) < b):
 v.cV=0#64∧v.bG≤v5 (v.bG + BitVec.ofInt 64 c) (((1#64) <<< (BitVec.ofInt 64 b).toNat) - (1#64)):=by
 have dr:v.cV=0#64:=by
  apply BitVec.eq_of_getLsbD_eq
  intro i au
  have h:=a0 (64 + i) (by omega)
  unfold ch at h
  rw [if_neg (by omega),Nat.add_sub_cancel_left] at h
  rw [BitVec.getLsbD_zero]
  cases an:v.cV.getLsbD i
  ·rfl
  ·have:=h an; omega
 obtain⟨n,rfl⟩:=Int.eq_ofNat_of_zero_le hb.1
 have aO:n≤32:=by omega
 have JW:(BitVec.ofInt 64 (n:Int)).toNat=n:=pJ (by omega)
 rw [JW]
 have Pe:v.bG≤ ((1#64) <<< n) - 1#64:=by
  have hand:v.bG &&& (((1#64) <<< n) - 1#64)=v.bG:=by
   apply BitVec.eq_of_getLsbD_eq
   intro i au
   rw [BitVec.getLsbD_and,xN (by omega)]
   have h:=a0 i (by omega)
   unfold ch at h
   rw [if_pos au] at h
   cases an:v.bG.getLsbD i
   ·rfl
   ·have:=h an
    simp; omega
  rw [← hand]
  rw [BitVec.le_def,BitVec.toNat_and]
  exact Nat.and_le_right
 have uw:(((1#64) <<< n) - 1#64).toNat < 2 ^ 33:=by
  have Cz:(((1#64) <<< n) - 1#64) &&& (((1#64) <<< 32) - 1#64)=(((1#64) <<< n) - 1#64):=by
   apply BitVec.eq_of_getLsbD_eq
   intro i au
   rw [BitVec.getLsbD_and,xN (by omega),xN (by omega)]
   simp; omega
  rw [← Cz,BitVec.toNat_and]
  exact Nat.lt_of_le_of_lt Nat.and_le_right (by decide)
 refine⟨dr,VJ ?_ Pe⟩
 rw [BitVec.le_def] at Pe ⊢
 obtain⟨m,rfl⟩:=Int.eq_ofNat_of_zero_le ak.1
 rw [BitVec.toNat_add,pJ (by omega),Nat.mod_eq_of_lt (by omega)]
 omega
theorem U1 (x:BitVec 64) {n:Int} (J:1≤n) (ad:n≤32) {i:Nat} (au:i < 128)
 (a0:ch { (default:ar) with bG:=x &&& ((((1#64) <<< (BitVec.ofInt 64 32).toNat) - (1#64)) - (((1#64) <<< (BitVec.ofInt 64 (bq (32 - n))).toNat) - (1#64))) } i=true):32 - n≤ (i:Int)∧i < 32:=by
 rw [Pd,BitVec.getLsbD_and,Bool.and_eq_true] at a0
 have aC:=a0.2
 obtain⟨k,ay⟩:=Int.eq_ofNat_of_zero_le (show 0≤32 - n by omega)
 have cX:k < 32:=by omega
 have e:bq (32 - n)=(k:Int):=by rw [ay,g9 (by omega) (by omega)]
 rw [e,pJ (by omega)] at aC
 have J9:i < 64:=by
  rcases Nat.lt_or_ge i 64 with h | h
  ·exact h
  ·rw [BitVec.getLsbD_of_ge _ i h] at aC; cases aC
 have key:∀ (k:Fin 32) (i:Fin 64),((((1#64) <<< (BitVec.ofInt 64 32).toNat) - (1#64)) - (((1#64) <<< k.1) - (1#64))).getLsbD i.1=true→k.1≤i.1∧i.1 < 32:=by decide +kernel
 have:=key ⟨k,cX⟩ ⟨i,J9⟩ aC
 simp only at this
 omega
theorem Uf (c:bf) {s:a3} (key:cH) (ak:gE c) (h:dk s) (ay:kX key):
 bt (zJ c s key) (fun r=>gE r.2∧nY key.cN (gU key) r.1):=by
 obtain⟨j,aH,ba,a8,fu,F7,abq,cX⟩:=ay
 have hb:gU key=aE si j:=by unfold gU; rw [ba]; congr 1; omega
 unfold zJ
 rw [ba]
 refine(TE h aH).bind fun aG av=> ?_
 rw [hb]
 subst av
 generalize hr:aE si j=b at *
 refine .bind (gp _ 256 ak (by omega)) fun aJ ad=> .bind (gp _ 16 ad.1 (by omega)) fun bh aC=> .eq rfl (.bind (gp _ 16 aC.1 (by omega)) fun bn aU=> .eq rfl ?_)
 refine .bind (H8 _ b (by omega) (by omega)) fun cw a1=> ?_
 refine .cond (fun q=> ?_) fun q=> ?_
 ·have q:key.cN=2:=by simpa using q
  refine .bind (gp _ 5 aU.1 (by omega)) fun dg bk=> .cond (fun _=> ?_) fun _=> .ret ⟨bk.1,G7 (by omega)⟩
  refine .bind (gp _ b bk.1 (by omega)) fun c8 cT=> .bind (gp _ 5 cT.1 (by omega)) fun eX fa=> ?_
  refine .eq (vf fa.2.1 (by simpa using fa.2.2.1)) ?_
  have iV:1≤aE [b,8,16,1,bq (1 + c8.1)] eX.1.toNat∧aE [b,8,16,1,bq (1 + c8.1)] eX.1.toNat≤32:=by
   have b5:eX.1.toNat < [b,8,16,1,bq (1 + c8.1)].length:=by have:=fa.2.1; have:=fa.2.2.1; simp; omega
   have hm:=List.getElem_mem b5
   rw [← ew _ b5] at hm
   have hw:bq (1 + c8.1)=1 + c8.1:=g9 (by have:=cT.2.1; omega) (by have:=cT.2.2.1; omega)
   have:=cT.2.1; have:=cT.2.2.1
   simp only [List.mem_cons,List.not_mem_nil,or_false] at hm
   rcases hm with hm | hm | hm | hm | hm <;> rw [hm] <;> omega
  unfold Dy
  refine .eq rfl (.eq rfl (.eq rfl (.ret ⟨fa.1,fun h=>(by cases h),fun h=>(by omega),fun h=>by omega,fun h=>(by omega),fun h=>(by omega),⟨by have:=iV.1; show 0≤aE _ _; omega,iV.2⟩,fun _ _=>iV.1,fun h=>absurd q h,fun _=>rfl,fun h=>(by omega),fun h=>(by omega),fun _ i au a0=> ?_,fun _=>rfl⟩)))
  have Cz:b=32:=by rw [← hr,cX q]; rfl
  rw [Cz] at iV a0
  rw [Cz]
  exact U1 _ iV.1 iV.2 au a0
 refine .cond (fun dZ=> ?_) fun dZ=> ?_
 ·have dZ:key.cN=3:=by simpa using dZ
  refine .bind (gp _ 256 aU.1 (by omega)) fun gH kG=> .bind (gp _ 5 kG.1 (by omega)) fun hY rh=> ?_
  refine .eq (vf rh.2.1 (by simpa using rh.2.2.1)) (.eq rfl (.bind (H8 _ b (by omega) (by omega)) fun gQ wP=> ?_))
  refine .cond (fun Ka=> ?_) fun _=> .ret ⟨rh.1,G7 (by omega)⟩
  refine .eq rfl (.eq rfl (.ret ⟨rh.1,fun h=>(by cases h),fun h=>(by omega),fun h=>by omega,fun _ i au a0=> ?_,fun _ i au a0=> ?_,E9,fun h=>(by omega),fun _=>rfl,fun h=>absurd dZ h,fun _ _ hd=> ?_,fun h=>(by omega),fun h=>(by omega),fun _=>rfl⟩))
  ·have qm:=wP i au
   simp only at a0
   rw [a0] at qm
   have:=qm.symm
   simp only [Bool.and_eq_true,decide_eq_true_eq] at this
   exact this.2
  ·simp only at a0 ⊢
   rw [Pd,BitVec.getLsbD_and,Bool.and_eq_true] at a0
   have J9:i < 64:=by
    rcases Nat.lt_or_ge i 64 with h | h
    ·exact h
    ·rw [BitVec.getLsbD_of_ge _ i h] at a0; cases a0.1
   unfold ch; rw [if_pos J9]; exact a0.2
  ·have hd':gQ=default:=hd
   rw [hd'] at Ka; simp at Ka
   exact Ka rfl
 refine .cond (fun l3=> ?_) fun l3=> ?_
 ·have l3:key.cN=4:=by simpa using l3
  refine .bind (gp _ 256 aU.1 (by omega)) fun h7 qm=> .eq rfl (.bind (gp _ 5 qm.1 (by omega)) fun hL yS=> .eq rfl (.cond (fun _=> ?_) fun _=> .ret ⟨yS.1,G7 (by omega)⟩))
  have FN:=VK (v:=cw) (b:=b) (c:=h7.1) ⟨by omega,abq⟩ ⟨qm.2.1,qm.2.2.1⟩ fun i au a0=>by
   have yT:=a1 i au
   rw [a0] at yT
   have:=yT.symm
   simp only [Bool.and_eq_true,decide_eq_true_eq] at this
   exact this.2
  exact .eq rfl (.ret ⟨yS.1,fun h=>(by cases h),fun h=>(by omega),fun h=>by omega,fun h=>(by omega),fun h=>(by omega),E9,fun h=>(by omega),fun _=>rfl,fun _=>rfl,fun h=>(by omega),fun _ _=>FN,fun h=>(by omega),fun h=>absurd l3 h⟩)
 ·have az:key.cN=1:=by
   simp only [beq_eq_false_iff_ne] at q dZ l3
   omega
  refine .eq rfl (.ret ⟨aU.1,fun h=>(by cases h),fun _=>rfl,fun _ i au a0=> ?_,fun h=>(by omega),fun h=>(by omega),E9,fun h=>(by omega),fun _=>rfl,fun _=>rfl,fun h=>(by omega),fun h=>(by omega),fun h=>(by omega),fun _=>rfl⟩)
  have qm:=a1 i au
  simp only at a0
  rw [a0] at qm
  have:=qm.symm
  simp only [Bool.and_eq_true,decide_eq_true_eq] at this
  exact this.2
structure jf (s:a3) (k:Nat) (e:bu):Prop where
 kl:e.dW=(k:Int) + 1
 len:e.bZ.length=(aE s.b7 k).cl.length
 ui:∀ i,i < (aE s.b7 k).cl.length→nY (aE (aE s.b7 k).cl i).cN (gU (aE (aE s.b7 k).cl i)) (aE e.bZ i)
 args:e.iw.length≤10
 pri:(∀ i,i < (aE s.b7 k).cl.length→ (aE (aE s.b7 k).cl i).cN≤2)→e.hI=0
theorem G8 {α:Type} [Inhabited α] (l:List α) (x:α) (i:Nat):aE (l ++ [x]) i=if i=l.length then x else aE l i:=by
 unfold aE
 by_cases h:i=l.length
 ·subst h; simp
 ·rw [if_neg h]
  rcases Nat.lt_or_ge i l.length with J | J
  ·rw [List.getElem?_append_left J]
  ·rw [List.getElem?_eq_none (by simp; omega),List.getElem?_eq_none J]
theorem Mj (c:bf) {s:a3} (x:Int) (ak:gE c) (h:dk s):
 bt (xi c s x) (fun r=>gE r.2∧ ∃ k:Nat,k < 4∧rD x (s.b7.length:Int)=some (k:Int)∧jf s k r.1):=by
 unfold xi
 obtain⟨aG,av,bI,J⟩:=Ni x (s.b7.length:Int) (by rw [h.lV]; omega) (by rw [h.lV]; omega)
 obtain⟨k,rfl⟩:=Int.eq_ofNat_of_zero_le bI
 have ay:k < 4:=by have:=h.lV; omega
 obtain⟨t1,⟨t2,t3⟩,t4,⟨t5,t6⟩,t7⟩:=h.kl ay
 refine .eq av (.idx rfl (by have:=h.lV; omega) ?_)
 refine bt.loop (aE s.b7 k).cl.length (fun i st=>st.1=(i:Int)∧st.2.1.dW=(k:Int) + 1∧st.2.2.1.length=i∧gE st.2.2.2∧
  (∀ j,j < i→nY (aE (aE s.b7 k).cl j).cN (gU (aE (aE s.b7 k).cl j)) (aE st.2.2.1 j))∧ ((∀ j,j < i→ (aE (aE s.b7 k).cl j).cN≤2)→st.2.1.hI=0)) (by omega) ⟨rfl,t1,rfl,ak,fun j aH=>by omega,fun _=>rfl⟩ (fun i st au hs=> ?_) (fun st hs=> ?_)
 ·obtain⟨CT,e,ms,w3⟩:=st; obtain⟨aX,c4,gT,l6,pB,qx⟩:=hs
  simp only at aX c4 gT l6 pB qx; subst aX
  refine bt.cond (fun _=> ?_) (fun h=>by simp at h; omega)
  refine .idx rfl au (.bind (Uf _ _ l6 h (t4 _ (by rw [ew _ au]; exact List.getElem_mem au))) fun aJ ad=> .eq (j2 _ _ (by simp; omega) (by omega)) (.eq rfl ?_))
  refine .bind (P:=fun m=>m.1.dW=(k:Int) + 1∧gE m.2∧ ((aE (aE s.b7 k).cl i).cN≤2→m.1.hI=e.hI)) (.cond (fun db=> .bind (gp _ 5 ad.1 (by omega)) fun bn aU=> .eq rfl (.ret ⟨c4,aU.1,fun h=>by simp at db; omega⟩)) (fun _=> .ret ⟨c4,ad.1,fun _=>rfl⟩)) fun bp ck=> ?_
  refine .ret ⟨gb (by omega),ck.1,by simp; omega,ck.2.1,fun j aH=> ?_,fun h=> ?_⟩
  ·simp only [G8]
   by_cases n8:j=ms.length
   ·rw [if_pos n8]; rw [n8,gT]; exact ad.2
   ·rw [if_neg n8]; exact pB j (by omega)
  ·exact(ck.2.2 (h i (by omega))).trans (qx fun j aH=>h j (by omega))
 ·obtain⟨CT,e,ms,w3⟩:=st; obtain⟨aX,c4,gT,l6,pB,qx⟩:=hs
  simp only at aX c4 gT l6 pB qx; subst aX
  refine⟨_,by simp; rfl,?_⟩
  refine .bind (gp _ _ l6 (by omega)) fun cw a1=> ?_
  refine .eq (vf a1.2.1 a1.2.2.1) (.eq rfl ?_)
  have bj:1≤aE (aE s.b7 k).dU cw.1.toNat∧aE (aE s.b7 k).dU cw.1.toNat≤6:=t7 _ (by
   have b5:cw.1.toNat < (aE s.b7 k).dU.length:=by have:=a1.2.1; have:=a1.2.2.1; omega
   rw [ew _ b5]; exact List.getElem_mem b5)
  obtain⟨a,fY⟩:=Int.eq_ofNat_of_zero_le (show 0≤aE (aE s.b7 k).dU cw.1.toNat - 1 by omega)
  have abr:aE (aE s.b7 k).dU cw.1.toNat=(a:Int) + 1:=by omega
  simp only [abr]
  refine .bind (Th h (show a < 6 by omega)) fun dg bk=> ?_
  obtain⟨aZ,bc⟩:=h.act (show a < 6 by omega)
  rw [← bk] at bc
  have hp:dg.kt.length≤10∧ ∀ i,i < dg.kt.length→0≤ (aE dg.kt i).fq∧ (aE dg.kt i).fq < 1000:=by
   have hq:∀ l∈tV,l.length≤10∧ ∀ b∈l,0≤b∧b < 1000:=by decide
   have hm:aE tV a∈tV:=by rw [ew tV (show a < tV.length by simp [tV]; omega)]; exact List.getElem_mem _
   obtain⟨az,c7⟩:=hq _ hm
   rw [← bc] at az c7
   refine⟨by simpa using az,fun i au=>c7 _ ?_⟩
   rw [ew _ au]
   exact List.mem_map.2 ⟨_,List.getElem_mem au,rfl⟩
  refine bt.loop dg.kt.length (fun i st=>st.1=(i:Int)∧st.2.1.dW=(k:Int) + 1∧st.2.2.1.length=i∧gE st.2.2.2∧st.2.1.hI=e.hI) (by omega) ⟨rfl,c4,rfl,a1.1,rfl⟩ (fun i st au hs=> ?_) (fun st hs=> ?_)
  ·obtain⟨CT,e',vs,abt⟩:=st; obtain⟨f2,f3,f4,f5,f6⟩:=hs
   simp only at f2 f3 f4 f5 f6; subst f2
   refine bt.cond (fun _=> ?_) (fun h=>by simp at h; omega)
   refine .idx rfl au (.bind (gp _ 256 f5 (by omega)) fun c8 cT=> .eq rfl (.bind (H8 _ _ (hp.2 i au).1 (hp.2 i au).2) fun eX fa=> .eq (j2 _ _ (by have:=hp.1; simp; omega) (by omega)) (.ret ⟨gb (by have:=hp.1; omega),f3,by simp; omega,cT.1,f6⟩)))
  ·obtain⟨CT,e',vs,abt⟩:=st; obtain⟨f2,f3,f4,f5,f6⟩:=hs
   simp only at f2 f3 f4 f5 f6; subst f2
   refine⟨_,by simp; rfl,?_⟩
   exact .eq rfl (.ret ⟨f5,k,ay,av,f3,gT,pB,by show vs.length≤10; have:=hp.1; omega,fun h=>f6.trans (qx h)⟩)
structure acq (s:a3) (r:Vector (List Int) 6):Prop where
 fields:bD r 0=s.gV.map (·.bX)
 headers:bD r 1=s.te.map (·.bX)
 Wu:bD r 2=s.u2.map (·.bX)
 HG:bD r 3=s.dU.map (·.bX)
 tables:bD r 4=s.b7.map (·.bX)
 Yp:bD r 5=s.ow.map (·.bX)
theorem K2 {xs:List bW} {f:bW→Option Bool} {g:bW→Bool} (ba:∀ x∈xs,f x=some (g x)) (ao:xs.length < 2 ^ 62):
 bt (zf xs f) (fun r=>(r= -1∧ ∀ x∈xs,g x=false)∨ ∃ i:Nat,i < xs.length∧r=i∧g (aE xs i)=true∧ ∀ j,j < i→g (aE xs j)=false):=by
 unfold zf
 refine bt.loop xs.length (fun k s=>s=(k:Int)∧ ∀ j,j < k→g (aE xs j)=false) (by omega) ⟨rfl,fun j aH=>by omega⟩ (fun k s ay au=> ?_) (fun s au=> ?_)
 ·obtain⟨av,aX⟩:=au; subst av
  refine bt.cond (fun _=> ?_) (fun h=>by simp at h; omega)
  refine .idx rfl ay (.eq (ba _ (by rw [ew xs ay]; exact List.getElem_mem ay)) (.cond (fun h=> .ret ?_) (fun h=> .ret ⟨gb (by omega),fun j aH=> ?_⟩)))
  ·exact .ret (.inr ⟨k,ay,rfl,h,aX⟩)
  ·by_cases sE:j=k
   ·subst sE; exact h
   ·exact aX j (by omega)
 ·obtain⟨av,aX⟩:=au; subst av
  refine⟨_,by simp; rfl,?_⟩
  refine .ret (.inl ⟨rfl,fun x an=> ?_⟩)
  obtain⟨j,aH,rfl⟩:=List.mem_iff_getElem.1 an
  rw [← ew xs aH]; exact aX j aH
theorem R9 {xs:List fx} {f:fx→Option Bool} {g:fx→Bool} (ba:∀ x∈xs,f x=some (g x)) (ao:xs.length < 2 ^ 62):
 bt (zg xs f) (fun r=>(r= -1∧ ∀ x∈xs,g x=false)∨ ∃ i:Nat,i < xs.length∧r=i∧g (aE xs i)=true∧ ∀ j,j < i→g (aE xs j)=false):=by
 unfold zg
 refine bt.loop xs.length (fun k s=>s=(k:Int)∧ ∀ j,j < k→g (aE xs j)=false) (by omega) ⟨rfl,fun j aH=>by omega⟩ (fun k s ay au=> ?_) (fun s au=> ?_)
 ·obtain⟨av,aX⟩:=au; subst av
  refine bt.cond (fun _=> ?_) (fun h=>by simp at h; omega)
  refine .idx rfl ay (.eq (ba _ (by rw [ew xs ay]; exact List.getElem_mem ay)) (.cond (fun h=> .ret ?_) (fun h=> .ret ⟨gb (by omega),fun j aH=> ?_⟩)))
  ·exact .ret (.inr ⟨k,ay,rfl,h,aX⟩)
  ·by_cases sE:j=k
   ·subst sE; exact h
   ·exact aX j (by omega)
 ·obtain⟨av,aX⟩:=au; subst av
  refine⟨_,by simp; rfl,?_⟩
  refine .ret (.inl ⟨rfl,fun x an=> ?_⟩)
  obtain⟨j,aH,rfl⟩:=List.mem_iff_getElem.1 an
  rw [← ew xs aH]; exact aX j aH
theorem LG {s:a3} (h:dk s) {k:Nat} (ay:k < 4):bt (s6 s ((k:Int) + 1)) (fun r=>r=(k:Int)):=by
 unfold s6
 refine(K2 (g:=fun t=>t.bX ==(k:Int) + 1) (fun x an=>rfl) (by rw [h.lV]; omega)).bind fun r aR=> .ret ?_
 have cX:k < s.b7.length:=by rw [h.lV]; exact ay
 rcases aR with⟨_,aR⟩ | ⟨i,J,ad,aC,aU⟩
 ·have:=aR (aE s.b7 k) (by rw [ew _ cX]; exact List.getElem_mem cX)
  simp only [(h.kl ay).1,beq_self_eq_true] at this; cases this
 ·have a1:=(h.kl (show i < 4 by have:=h.lV; omega)).1
  simp only [a1,beq_iff_eq] at aC; omega
theorem LH {s:a3} (h:dk s) {k:Nat} (ay:k < 9):bt (xr s ((k:Int) + 1)) (fun r=>r=(k:Int)):=by
 unfold xr
 refine(R9 (g:=fun t=>t.bX ==(k:Int) + 1) (fun x an=>rfl) (by rw [h.wa]; omega)).bind fun r aR=> .ret ?_
 have cX:k < s.gV.length:=by rw [h.wa]; exact ay
 rcases aR with⟨_,aR⟩ | ⟨i,J,ad,aC,aU⟩
 ·have:=aR (aE s.gV k) (by rw [ew _ cX]; exact List.getElem_mem cX)
  simp only [(h.wQ ay).1,beq_self_eq_true] at this; cases this
 ·have a1:=(h.wQ (show i < 9 by have:=h.wa; omega)).1
  simp only [a1,beq_iff_eq] at aC; omega
theorem IQ {key:cH} {j:Nat} (h:key.gW=(j:Int) + 1):gU key=aE si j:=by unfold gU; rw [h]; congr 1; omega
def lead (n k:Int) (j:Nat):Bool:=decide ((j:Int) < n) && decide (n - max 0 (min k n)≤ (j:Int))
theorem LX (n k:Int) (bI:0≤n) (J:n≤128):bt (xt n k) (fun r=> ∀ j,j < 128→ch r j=lead n k j):=by
 unfold xt xC
 have e:min (max 0 n) 128=n:=by omega
 rw [e]
 have aX:bq (n - min (max 0 k) n)=n - min (max 0 k) n:=g9 (by omega) (by omega)
 refine .eq rfl ((HH n).bind fun a bj=> ?_)
 rw [aX]
 refine(HH _).bind fun b hb=>(VI a b).bind fun r aR=> .ret fun j aH=> ?_
 rw [aR j aH,bj j aH,hb j aH]
 unfold lead
 by_cases p:(j:Int) < n
 ·rw [decide_eq_true p]
  by_cases q:(j:Int) < n - min (max 0 k) n
  ·rw [decide_eq_true q,decide_eq_false (by omega)]; rfl
  ·rw [decide_eq_false q,decide_eq_true (by omega)]; rfl
 ·rw [decide_eq_false p,decide_eq_false (by omega)]; rfl
theorem kX.gU {key:cH} (h:kX key):4≤Go.Proofs.YtmnggbjcnoffeaaGreat.gU key∧Go.Proofs.YtmnggbjcnoffeaaGreat.gU key≤32:=by
 obtain⟨j,aH,ba,_,_,J,ad,_⟩:=h
 rw [IQ ba]; exact⟨J,ad⟩
theorem VL {v w:ar} :decide (v=w)=true↔ ∀ j,j < 128→ch v j=ch w j:=by
 rw [decide_eq_true_eq]; exact⟨fun h j _=>by rw [h],A3⟩
theorem Ug (c:bf) (ak:gE c):bt (zI c) (fun r=>gE r.2):=by
 unfold zI
 refine bt.loop 4 (fun k st=>st.1=(k:Int)∧gE st.2.2) (by omega) ⟨rfl,ak⟩ (fun k st ay au=> ?_) (fun st au=> ?_)
 ·obtain⟨i,p,w3⟩:=st; obtain⟨av,aX⟩:=au
  simp only at av aX; subst av
  refine bt.cond (fun _=> ?_) (fun h=>by simp at h; omega)
  refine .bind (gp _ 256 aX (by omega)) fun aG J=> .eq rfl (.idx rfl ay (.bind (gp _ 4 J.1 (by omega)) fun aJ ad=> ?_))
  refine .bind (P:=fun m=>gE m.1) (.cond (fun _=> ?_) fun _=> .ret ad.1) fun bp ck=> .ret ⟨gb (by omega),ck⟩
  exact .idx rfl ay (.bind (gp _ 256 ad.1 (by omega)) fun bh aC=> .eq rfl (.idx rfl ay (.eq rfl (.ret aC.1))))
 ·obtain⟨i,p,w3⟩:=st; obtain⟨av,aX⟩:=au
  simp only at av aX; subst av
  refine⟨_,rfl,?_⟩
  exact .ret aX
def k7 (a b:ar):Bool:=decide (a.cV < b.cV) || (a.cV ==b.cV && decide (a.bG < b.bG))
theorem AP {a b:ar} :k7 a b=true↔a.cV < b.cV∨ (a.cV=b.cV∧a.bG < b.bG):=by simp [k7]
theorem td (a:ar):k7 a a=false:=by simp [k7]
theorem xM {a b:ar} (h:k7 a b=true):k7 b a=false:=by
 rw [Bool.eq_false_iff]
 intro ad
 rw [AP] at h ad
 simp only [BitVec.lt_def,BitVec.toNat_eq] at h ad
 omega
theorem TF {x y i:Nat} (J:x.testBit i=false) (ad:y.testBit i=true) (aC:∀ j,i < j→x.testBit j=y.testBit j):x < y:=by
 have aU:x / 2 ^ (i + 1)=y / 2 ^ (i + 1):=Nat.eq_of_testBit_eq fun j=>by
  rw [Nat.testBit_div_two_pow,Nat.testBit_div_two_pow]; exact aC _ (by omega)
 rw [Nat.testBit_eq_decide_div_mod_eq] at J ad
 simp only [decide_eq_false_iff_not,decide_eq_true_eq] at J ad
 rw [Nat.pow_succ,← Nat.div_div_eq_div_mul,← Nat.div_div_eq_div_mul] at aU
 have a1:x / 2 ^ i < y / 2 ^ i:=by omega
 exact Nat.lt_of_div_lt_div a1
theorem Nk {x y:BitVec 64} {i:Nat} (J:x.getLsbD i=false) (ad:y.getLsbD i=true) (aC:∀ j,i < j→j < 64→x.getLsbD j=y.getLsbD j):x < y:=by
 rw [BitVec.lt_def]
 refine TF J ad fun j aH=> ?_
 by_cases n8:j < 64
 ·exact aC j aH n8
 ·show x.getLsbD j=y.getLsbD j
  rw [BitVec.getLsbD_of_ge _ _ (by omega),BitVec.getLsbD_of_ge _ _ (by omega)]
theorem MC {a b:ar} {i:Nat} (au:i < 128) (J:ch a i=false) (ad:ch b i=true) (aC:∀ j,i < j→j < 128→ch a j=ch b j):k7 a b=true:=by
 rw [AP]
 by_cases h:i < 64
 ·right
  unfold ch at J ad
  rw [if_pos h] at J ad
  constructor
  ·apply BitVec.eq_of_getLsbD_eq
   intro j aH
   have:=aC (j + 64) (by omega) (by omega)
   unfold ch at this
   rw [if_neg (by omega),if_neg (by omega)] at this
   simpa using this
  ·refine Nk J ad fun j aH n8=> ?_
   have:=aC j aH (by omega)
   unfold ch at this
   rwa [if_pos n8,if_pos n8] at this
 ·left
  unfold ch at J ad
  rw [if_neg h] at J ad
  refine Nk J ad fun j aH n8=> ?_
  have:=aC (j + 64) (by omega) (by omega)
  unfold ch at this
  rw [if_neg (by omega),if_neg (by omega)] at this
  simpa using this
theorem LY (a b:ar):bt (o2 a b) (fun r=>(r < 0↔k7 a b=true)∧ (r=0↔a=b)∧ (-1≤r∧r≤1)):=by
 unfold o2
 refine .cond (fun h=> .ret ?_) fun h=> .eq rfl (.cond (fun ad=> .ret ?_) fun ad=> .ret ?_)
 ·simp only [decide_eq_true_eq] at h
  subst h
  simp [td]
 ·simp only [decide_eq_false_iff_not] at h
  exact⟨⟨fun _=>ad,fun _=>by omega⟩,⟨fun aC=>by omega,fun aC=>absurd aC h⟩,by omega,by omega⟩
 ·simp only [decide_eq_false_iff_not] at h
  have kj:k7 a b=false:=ad
  exact⟨⟨fun aC=>by omega,fun aC=>by rw [kj] at aC; cases aC⟩,⟨fun aC=>by omega,fun aC=>absurd aC h⟩,by omega,by omega⟩
theorem Ti (a b:ar):bt (rB a b) (fun r=>(r > 0↔k7 b a=true)∧ (r < 0↔k7 a b=true)):=by
 unfold rB
 refine(Nj a).bind fun x an=>(Nj b).bind fun y a5=> ?_
 refine bt.loop 128 (fun k s=>s=127 - (k:Int)∧ ∀ j,128≤j + k→j < 128→ch a j=ch b j) (by omega) ⟨rfl,fun j J ad=>by omega⟩ (fun k s ay au=> ?_) (fun s au=> ?_)
 ·obtain⟨rfl,aX⟩:=au
  refine bt.cond (fun _=> ?_) (fun h=>by simp at h; omega)
  have jE:(127 - (k:Int))=((127 - k:Nat):Int):=by omega
  have tW:127 - k < 128:=by omega
  refine .idx jE tW (.idx jE tW ?_)
  rw [an _ tW,a5 _ tW]
  refine .cond (fun c6=> .idx jE tW ?_) fun heq=> .ret ⟨?_,fun j J ad=> ?_⟩
  ·have heq:∀ j,127 - k < j→j < 128→ch a j=ch b j:=fun j J ad=>aX j (by omega) ad
   rw [a5 _ tW]
   refine .cond (fun hb=> .ret (.ret ?_)) fun hb=> .ret (.ret ?_)
   ·have bj:ch a (127 - k)=false:=by rw [hb] at c6; simpa using c6
    have:=MC tW bj hb heq
    exact⟨⟨fun h=>by simp at h,fun h=>by rw [xM this] at h; cases h⟩,fun _=>this,fun _=>by simp⟩
   ·have bj:ch a (127 - k)=true:=by rw [hb] at c6; simpa using c6
    have:=MC tW hb bj fun j J ad=>(heq j J ad).symm
    exact⟨⟨fun _=>this,fun _=>by simp⟩,fun h=>by simp at h,fun h=>by rw [xM this] at h; cases h⟩
  ·rw [g9 (by omega) (by omega)]; omega
  ·by_cases aH:j=127 - k
   ·subst aH; simpa using heq
   ·exact aX j (by omega) ad
 ·obtain⟨rfl,aX⟩:=au
  refine⟨_,rfl,?_⟩
  have:a=b:=A3 fun j aH=>aX j (by omega) aH
  subst this
  refine .ret ⟨?_,?_⟩ <;> simp [td]
end Go.Proofs.YtmnggbjcnoffeaaGreat
namespace Gv
structure ri {α:Type} (b:α→α→Bool):Prop where
 asymm:∀ x y,b x y=true→b y x=false
 trans:∀ x y z,b x y=true→b y z=true→b x z=true
def ins {α:Type} (b:α→α→Bool):List α→α→List α
 | [],x=> [x]
 | a :: l,x=>if b a x=true then a :: ins b l x else x :: a :: l
def eR {α:Type} (b:α→α→Bool) (l:List α):List α:=l.foldl (ins b) []
def jV {α:Type} (b:α→α→Bool):List α→α→Nat
 | [],_=>0
 | a :: l,x=>if b a x=true then jV b l x + 1 else 0
def sF {α:Type} (b:α→α→Bool) (x y:α):Prop:=b x y=true∨b y x=true
variable {α:Type} {b:α→α→Bool}
theorem MD (a:α) (l:List α) (x:α):ins b (a :: l) x=if b a x=true then a :: ins b l x else x :: a :: l:=rfl
theorem H9:∀ {l:List α} {x:α},jV b l x≤l.length
 | [],_=>Nat.le_refl _
 | a :: l,x=>by
   have:=H9 (l:=l) (x:=x)
   unfold jV; split <;> simp <;> omega
theorem NZ:∀ (l:List α) (x:α),ins b l x=l.take (jV b l x) ++ x :: l.drop (jV b l x)
 | [],x=>rfl
 | a :: l,x=>by
   unfold ins jV
   split
   ·rw [NZ l x]; rfl
   ·rfl
theorem Ho:∀ (l:List α) (x:α),(ins b l x).Perm (x :: l)
 | [],x=>List.Perm.refl _
 | a :: l,x=>by
   unfold ins
   split
   ·exact((Ho l x).cons a).trans (List.Perm.swap x a l)
   ·exact List.Perm.refl _
theorem VM {l:List α} {x y:α} :y∈ins b l x↔y=x∨y∈l:=by
 rw [(Ho l x).mem_iff]; simp
theorem Ed (l:List α) (x:α):eR b (l ++ [x])=ins b (eR b l) x:=by
 simp [eR,List.foldl_append]
theorem HI (l:List α):(eR b l).Perm l:=by
 have key:∀ (l m:List α),(l.foldl (ins b) m).Perm (m ++ l):=by
  intro l
  induction l with
  | nil=>intro m; simp
  | cons a l bJ=>
    intro m
    refine(bJ (ins b m a)).trans ?_
    refine((Ho m a).append_right l).trans ?_
    exact(List.perm_middle (a:=a) (l₁:=m) (l₂:=l)).symm
 exact key l []
theorem oC {l:List α} {y:α} :y∈eR b l↔y∈l:=(HI l).mem_iff
theorem Ww {l:List α} :(eR b l).length=l.length:=(HI l).length_eq
theorem LZ (hb:ri b):∀ {l:List α} {x:α},l.Pairwise (fun x y=>b x y=true)→ (∀ a∈l,sF b a x)→ (ins b l x).Pairwise (fun x y=>b x y=true)
 | [],x,_,_=>by simp [ins]
 | a :: l,x,hs,bL=>by
   obtain⟨J,ad⟩:=List.pairwise_cons.1 hs
   unfold ins
   split
   ·rename_i rj
    refine List.pairwise_cons.2 ⟨fun c ak=> ?_,LZ hb ad fun a bj=>bL a (by simp [bj])⟩
    rcases VM.1 ak with rfl | ak
    ·exact rj
    ·exact J c ak
   ·rename_i rj
    have CA:b x a=true:=(bL a (by simp)).resolve_left rj
    refine List.pairwise_cons.2 ⟨fun c ak=> ?_,hs⟩
    rcases List.mem_cons.1 ak with rfl | ak
    ·exact CA
    ·exact hb.trans _ _ _ CA (J c ak)
theorem Uh {l:List α} {x:α} (h:∀ c∈l,b c x=false):ins b l x=x :: l:=by
 cases l with
 | nil=>rfl
 | cons a l=>unfold ins; rw [if_neg (by simp [h a (by simp)])]
theorem L0 (hb:ri b) {q:α→Bool} :∀ {l:List α} {x:α},l.Pairwise (fun x y=>b x y=true)→ (∀ a∈l,sF b a x)→
 (ins b l x).filter q=if q x=true then ins b (l.filter q) x else l.filter q
 | [],x,_,_=>by
   show [x].filter q=if q x=true then [x] else []
   by_cases hp:q x=true
   ·simp [hp]
   ·simp only [Bool.not_eq_true] at hp; simp [hp]
 | a :: l,x,hs,bL=>by
   obtain⟨J,ad⟩:=List.pairwise_cons.1 hs
   have bJ:=L0 hb (q:=q) (x:=x) ad fun a bj=>bL a (by simp [bj])
   rw [MD]
   by_cases rj:b a x=true
   ·rw [if_pos rj]
    by_cases mz:q a=true
    ·rw [List.filter_cons_of_pos mz,List.filter_cons_of_pos mz,bJ]
     by_cases hq:q x=true
     ·rw [if_pos hq,if_pos hq,MD,if_pos rj]
     ·rw [if_neg hq,if_neg hq]
    ·rw [List.filter_cons_of_neg mz,List.filter_cons_of_neg mz,bJ]
   ·rw [if_neg rj]
    have CA:b x a=true:=(bL a (by simp)).resolve_left rj
    by_cases hq:q x=true
    ·rw [List.filter_cons_of_pos hq,if_pos hq,Uh]
     intro c ak
     have jF:=(List.mem_filter.1 ak).1
     refine hb.asymm _ _ ?_
     rcases List.mem_cons.1 jF with rfl | jF
     ·exact CA
     ·exact hb.trans _ _ _ CA (J c jF)
    ·rw [List.filter_cons_of_neg hq,if_neg hq]
def p2 (b:α→α→Bool) (l:List α):Prop:=l.Pairwise (sF b)
theorem sF.symm {x y:α} (h:sF b x y):sF b y x:=h.elim .inr .inl
theorem p2.snoc {l:List α} {x:α} (h:p2 b (l ++ [x])):p2 b l∧ ∀ a∈l,sF b a x:=by
 unfold p2 at *
 rw [List.pairwise_append] at h
 exact⟨h.1,fun a bj=>h.2.2 a bj x (by simp)⟩
theorem p2.perm {l m:List α} (h:p2 b l) (p:l.Perm m):p2 b m:=(p.pairwise_iff fun h=>h.symm).1 h
theorem ME {P:List α→Prop} (bI:P []) (J:∀ l x,P l→P (l ++ [x])) (l:List α):P l:=by
 have:∀ r:List α,P r.reverse:=by
  intro r
  induction r with
  | nil=>exact bI
  | cons a r bJ=>rw [List.reverse_cons]; exact J _ _ bJ
 have:=this l.reverse
 rwa [List.reverse_reverse] at this
theorem DT (hb:ri b) {l:List α} (h:p2 b l):(eR b l).Pairwise (fun x y=>b x y=true):=by
 induction l using ME with
 | bI=>exact List.Pairwise.nil
 | J l x bJ=>
   obtain⟨J,ad⟩:=h.snoc
   rw [Ed]
   exact LZ hb (bJ J) fun a bj=>ad a (oC.1 bj)
theorem Ui (hb:ri b) {q:α→Bool} {l:List α} (h:p2 b l):(eR b l).filter q=eR b (l.filter q):=by
 induction l using ME with
 | bI=>rfl
 | J l x bJ=>
   obtain⟨J,ad⟩:=h.snoc
   rw [Ed,L0 hb (DT hb J) fun a bj=>ad a (oC.1 bj),bJ J,List.filter_append]
   by_cases hq:q x=true
   ·rw [if_pos hq,List.filter_cons_of_pos hq,List.filter_nil,Ed]
   ·rw [if_neg hq,List.filter_cons_of_neg hq,List.filter_nil,List.append_nil]
theorem Ia [Inhabited α] (hb:ri b):∀ {l:List α} {x:α} {k:Nat},l.Pairwise (fun x y=>b x y=true)→k < l.length→ (b (aE l k) x=true↔k < jV b l x)
 | [],x,k,_,ay=>by simp at ay
 | a :: l,x,k,hs,ay=>by
   obtain⟨J,ad⟩:=List.pairwise_cons.1 hs
   unfold jV
   cases k with
   | zero=>
     have:aE (a :: l) 0=a:=rfl
     rw [this]
     split <;> simp_all
   | succ k=>
     have iT:k < l.length:=by simpa using ay
     have he:aE (a :: l) (k + 1)=aE l k:=by rw [ew _ ay,ew _ iT]; rfl
     rw [he,Ia hb ad iT]
     split
     ·omega
     ·rename_i rj
      constructor
      ·intro b5
       have a1:=(Ia hb ad iT).2 b5
       have bk:=J (aE l k) (by rw [ew _ iT]; exact List.getElem_mem _)
       exact absurd (hb.trans _ _ _ bk a1) rj
      ·intro h; omega
end Gv
namespace Go.Proofs.YtmnggbjcnoffeaaGreat
open Go Gv
theorem Sj {xs:List cH} {f:cH→Option Bool} {g:cH→Bool} (ba:∀ x∈xs,f x=some (g x)) (ao:xs.length < 2 ^ 62):
 bt (zh xs f) (fun r=>(r= -1∧ ∀ x∈xs,g x=false)∨ ∃ i:Nat,i < xs.length∧r=i∧g (aE xs i)=true∧ ∀ j,j < i→g (aE xs j)=false):=by
 unfold zh
 refine bt.loop xs.length (fun k s=>s=(k:Int)∧ ∀ j,j < k→g (aE xs j)=false) (by omega) ⟨rfl,fun j aH=>by omega⟩ (fun k s ay au=> ?_) (fun s au=> ?_)
 ·obtain⟨av,aX⟩:=au; subst av
  refine bt.cond (fun _=> ?_) (fun h=>by simp at h; omega)
  refine .idx rfl ay (.eq (ba _ (by rw [ew xs ay]; exact List.getElem_mem ay)) (.cond (fun h=> .ret ?_) (fun h=> .ret ⟨gb (by omega),fun j aH=> ?_⟩)))
  ·exact .ret (.inr ⟨k,ay,rfl,h,aX⟩)
  ·by_cases sE:j=k
   ·subst sE; exact h
   ·exact aX j (by omega)
 ·obtain⟨av,aX⟩:=au; subst av
  refine⟨_,by simp; rfl,?_⟩
  refine .ret (.inl ⟨rfl,fun x an=> ?_⟩)
  obtain⟨j,aH,rfl⟩:=List.mem_iff_getElem.1 an
  rw [← ew xs aH]; exact aX j aH
theorem _root_.Gv.bt.get {β:Type} {m:Option β} {v:β} (h:bt m (fun r=>r=v)):m=some v:=by
 obtain⟨r,J,rfl⟩:=h; exact J
theorem Nl (a b:ar):k7 a b=true∨a=b∨k7 b a=true:=by
 rw [AP,AP]
 rcases a with⟨ac9,dw⟩
 rcases b with⟨ada,adb⟩
 simp only [BitVec.lt_def,ar.mk.injEq,← BitVec.toNat_inj]
 omega
theorem Wx {a b:ar} (h:a.cV=b.cV) (c0:a.bG≤b.bG):k7 b a=false:=by
 cases a0:k7 b a with
 | false=>rfl
 | true=>
   rw [AP] at a0
   rw [h] at a0
   simp only [BitVec.lt_def,BitVec.le_def] at a0 c0
   omega
def h9 (kind b:Int) (m:bV) (x:ar):Bool:=
 if m.fF=false then true
 else if kind=1 then decide (x=m.cI)
 else if kind=2 then(List.range 128).all fun j=> !lead b m.ez j || (ch x j ==ch m.cI j)
 else if kind=3 then decide (tU x m.fL=m.cI)
 else !k7 x m.cI && !k7 m.jP x
theorem TG {key:cH} (ay:kX key) (m:bV) (x:ar):z7 m key.cN (gU key) x=some (h9 key.cN (gU key) m x):=by
 have hb:=ay.gU
 obtain⟨_,_,_,a8,fu,_⟩:=ay
 refine bt.get ?_
 unfold z7 h9
 refine .cond (fun hp=> .ret ?_) fun hp=> ?_
 ·simp only [Bool.not_eq_true'] at hp
  rw [if_pos hp]; simp; omega
 simp only [Bool.not_eq_false'] at hp
 rw [if_neg (by simp [hp])]
 refine .cond (fun J=> .ret ?_) fun J=> .cond (fun ad=> ?_) fun ad=> .cond (fun aC=> ?_) fun aC=> ?_
 ·rw [if_pos (by simpa using J)]
 ·rw [if_neg (by simpa using J),if_pos (by simpa using ad)]
  refine(LX _ _ (by omega) (by omega)).bind fun aG av=> .eq (and_eq _ _) (.eq (and_eq _ _) (.ret ?_))
  rw [Bool.eq_iff_iff,VL,List.all_eq_true]
  constructor
  ·intro h j aH
   have wJ:=List.mem_range.1 aH
   have:=h j wJ
   rw [vg,vg,av j wJ] at this
   cases ao:lead (gU key) m.ez j
   ·rfl
   ·rw [ao] at this; simpa using this
  ·intro h j aH
   have:=h j (List.mem_range.2 aH)
   rw [vg,vg,av j aH]
   cases ao:lead (gU key) m.ez j
   ·simp
   ·rw [ao] at this; simpa using this
 ·rw [if_neg (by simpa using J),if_neg (by simpa using ad),if_pos (by simpa using aC)]
  exact .eq (and_eq _ _) (.ret rfl)
 ·have mR:key.cN=4:=by simp only [beq_eq_false_iff_ne] at J ad aC; omega
  rw [if_neg (by simpa using J),if_neg (by simpa using ad),if_neg (by simpa using aC)]
  refine .cond (fun _=> ?_) fun h=>by rw [mR] at h; cases h
  refine(LY _ _).bind fun cw ⟨c2,dc,gJ⟩=> .cy (P:=fun r=>(r < 0↔k7 x m.jP=true)∧ (r=0↔x=m.jP)∧ -1≤r∧r≤1) (fun _=>LY _ _) fun dg bk=> .ret ?_
  have g3:decide (cw≤0)= !k7 x m.cI:=by
   rw [Bool.eq_iff_iff,decide_eq_true_eq,Bool.not_eq_true']
   rcases Nl m.cI x with h | h | h
   ·have:=c2.2 h; rw [xM h]; simp; omega
   ·have:=dc.2 h; rw [h,td]; simp; omega
   ·rw [h]; simp
    have cT: ¬ cw < 0:=fun b3=>by rw [xM h] at c2; simpa using c2.1 b3
    have fa:cw≠0:=fun b3=>by rw [dc.1 b3,td] at h; cases h
    omega
  rw [g3]
  cases an:k7 x m.cI
  ·rw [g3,an] at bk
   obtain⟨dJ,ev,hH⟩:=bk rfl
   simp only [Bool.not_false,Bool.true_and]
   rw [Bool.eq_iff_iff,decide_eq_true_eq,Bool.not_eq_true']
   rcases Nl x m.jP with h | h | h
   ·have:=dJ.2 h; rw [xM h]; simp; omega
   ·have:=ev.2 h; rw [h,td]; simp; omega
   ·rw [h]; simp
    have cT: ¬ dg < 0:=fun b3=>by rw [xM h] at dJ; simpa using dJ.1 b3
    have fa:dg≠0:=fun b3=>by rw [ev.1 b3,td] at h; cases h
    omega
  ·simp
def mt (s:a3) (k:Nat) (p:Vector ar 4) (e:bu):Bool:=
 (List.range (aE s.b7 k).cl.length).all fun i=>h9 (aE (aE s.b7 k).cl i).cN (gU (aE (aE s.b7 k).cl i)) (aE e.bZ i) (bD p i)
theorem TH {s:a3} (h:dk s) {key:cH} (ay:kX key):z5 s key=some (gU key):=by
 obtain⟨j,aH,ba,_⟩:=ay
 refine bt.get ?_
 unfold z5
 rw [ba]
 refine(LH h aH).bind fun r aR=> ?_
 subst aR
 rw [show decide ((j:Int) < 0)=false from decide_eq_false (by omega),cond_false]
 refine .idx rfl (by have:=h.wa; omega) (.ret ?_)
 rw [(h.wQ aH).2,IQ ba]
theorem Mk {s:a3} (h:dk s) {k:Nat} (ay:k < 4) {e:bu} (he:e.dW=(k:Int) + 1):xG s e=some (aE s.b7 k,true):=by
 refine bt.get ?_
 unfold xG
 rw [he]
 refine(LG h ay).bind fun r aR=> ?_
 subst aR
 rw [show decide ((k:Int) < 0)=false from decide_eq_false (by omega),cond_false]
 exact .idx rfl (by have:=h.lV; omega) (.ret rfl)
theorem N0 {n i:Nat} {f:Nat→Bool} (h:∀ c,c < n→f c=true) (aO:i=n):(List.range i).all f=true:=by
 subst aO; exact List.all_eq_true.2 fun c ak=>h c (List.mem_range.1 ak)
theorem Wy {n i:Nat} {f:Nat→Bool} (au:i < n) (h:f i=false):(List.range n).all f=false:=by
 rw [Bool.eq_false_iff]; intro J
 have:=List.all_eq_true.1 J i (List.mem_range.2 au)
 rw [h] at this; cases this
theorem Tj {s:a3} (h:dk s) {k:Nat} (ay:k < 4) {e:bu} (he:jf s k e) (p:Vector ar 4):xy s e p=some (mt s k p e):=by
 obtain⟨t1,⟨t2,t3⟩,t4,_⟩:=h.kl ay
 refine bt.get ?_
 unfold xy mt
 refine .eq (Mk h ay he.kl) (.cond (fun h=>by cases h) fun _=> ?_)
 have hm:=he.len
 simp only
 refine bt.loop (aE s.b7 k).cl.length (fun i st=>st=(i:Int)∧ ∀ c,c < i→h9 (aE (aE s.b7 k).cl c).cN (gU (aE (aE s.b7 k).cl c)) (aE e.bZ c) (bD p c)=true) (by omega) ⟨rfl,fun c ak=>by omega⟩ (fun i st au hs=> ?_) (fun st hs=> ?_)
 ·obtain⟨rfl,hs⟩:=hs
  have jE:kX (aE (aE s.b7 k).cl i):=t4 _ (by rw [ew _ au]; exact List.getElem_mem au)
  refine .cond (fun _=> ?_) (fun h=>by simp at h; omega)
  refine .idx rfl au ?_
  have nz:(decide ((i:Int)≥ (e.bZ.length:Int)) || decide ((i:Int)≥4))=false:=by simp; omega
  rw [nz]
  refine .cy (P:=fun c=>c=i) (fun _=>⟨i,ox (by omega),rfl⟩) fun bY aX=> .cy (P:=fun c=>c=gU (aE (aE s.b7 k).cl i)) (fun _=>⟨_,TH h jE,rfl⟩) fun aJ c4=> .cy (P:=fun c=>c=i) (fun _=>⟨i,ox (by omega),rfl⟩) fun cY gT=> ?_
  rw [aX rfl,c4 rfl,gT rfl]
  refine .cy (P:=fun c=>c=h9 (aE (aE s.b7 k).cl i).cN (gU (aE (aE s.b7 k).cl i)) (aE e.bZ i) (bD p i)) (fun _=>⟨_,TG jE _ _,rfl⟩) fun bh l6=> .eq rfl ?_
  rw [l6 rfl,Bool.false_or]
  refine .cond (fun aO=> .ret ?_) fun a5=> .ret ⟨gb (by omega),fun c ak=> ?_⟩
  ·simp only [Sum.elim_inr]
   exact .ret (Wy au (by simpa using aO)).symm
  ·by_cases yU:c=i
   ·subst yU; simpa using a5
   ·exact hs c (by omega)
 ·obtain⟨rfl,hs⟩:=hs
  rw [show decide (((aE s.b7 k).cl.length:Int) < ((aE s.b7 k).cl.length:Int))=false by simp]
  refine⟨_,rfl,?_⟩
  simp only [Sum.elim_inl]
  exact .ret (N0 hs rfl).symm
def sG:List cH→List bV→Int
 | key :: aQ,m :: ms=>if key.cN=2 then m.ez else sG aQ ms
 | _,_=>0
theorem Ib:∀ {aQ:List cH} {ms:List bV} {i:Nat},ms.length=aQ.length→i < aQ.length→ (aE aQ i).cN=2→ (∀ j,j < i→ (aE aQ j).cN≠2)→sG aQ ms=(aE ms i).ez
 | [],_,i,_,au,_,_=>by simp at au
 | key :: aQ,[],i,ao,_,_,_=>by simp at ao
 | key :: aQ,m :: ms,0,_,_,ad,_=>by
   have:(aE (key :: aQ) 0)=key:=rfl
   rw [this] at ad
   unfold sG; rw [if_pos ad]; rfl
 | key :: aQ,m :: ms,i + 1,ao,au,ad,aO=>by
   have bI:=aO 0 (by omega)
   have:(aE (key :: aQ) 0)=key:=rfl
   rw [this] at bI
   unfold sG; rw [if_neg bI]
   have bs:∀ {β:Type} [Inhabited β] (x:β) (l:List β) (n:Nat),aE (x :: l) (n + 1)=aE l n:=fun x l n=>by simp [aE]
   rw [bs] at ad ⊢
   exact Ib (by simpa using ao) (by simpa using au) ad fun j aH=>by have:=aO (j + 1) (by omega); rwa [bs] at this
theorem N1:∀ {aQ:List cH} {ms:List bV},(∀ key∈aQ,key.cN≠2)→sG aQ ms=0
 | [],_,_=>by unfold sG; rfl
 | key :: aQ,[],_=>by unfold sG; rfl
 | key :: aQ,m :: ms,aO=>by
   unfold sG; rw [if_neg (aO key (by simp))]
   exact N1 fun k ay=>aO k (by simp [ay])
def uz (s:a3) (k:Nat) (e:bu):Int:=sG (aE s.b7 k).cl e.bZ
theorem L1 {s:a3} (h:dk s) {k:Nat} (ay:k < 4) {e:bu} (he:jf s k e):xE s e=some (uz s k e):=by
 obtain⟨t1,⟨t2,t3⟩,t4,_⟩:=h.kl ay
 have hm:=he.len
 refine bt.get ?_
 unfold xE uz
 refine .eq (Mk h ay he.kl) ?_
 simp only
 refine(Sj (g:=fun key=>key.cN ==2) (fun x an=>rfl) (by omega)).bind fun r aR=> .eq rfl ?_
 rcases aR with⟨rfl,aR⟩ | ⟨i,J,rfl,aC,aU⟩
 ·refine .cond (fun _=> .ret ?_) (fun h=>by simp at h)
  rw [N1 fun key kC=>by simpa using aR key kC]
 ·have db:(!true || decide ((i:Int) < 0) || decide ((i:Int)≥ (e.bZ.length:Int)))=false:=by simp; omega
  rw [db,cond_false]
  refine .idx rfl (by omega) (.ret ?_)
  rw [Ib hm J (by simpa using aC) fun j aH=>by simpa using aU j aH]
def e3 (s:a3) (k:Nat) (a c:aA):Bool:=
 decide (c.bA.hI < a.bA.hI∨ (a.bA.hI=c.bA.hI∧ (uz s k c.bA < uz s k a.bA∨ (uz s k a.bA=uz s k c.bA∧c.cd < a.cd))))
theorem rV (s:a3) (k:Nat):ri (e3 s k) where
 asymm x y h:=by
  unfold e3 at *
  rw [decide_eq_true_eq] at h
  rw [decide_eq_false_iff_not]; omega
 trans x y z h c0:=by
  unfold e3 at *
  rw [decide_eq_true_eq] at *
  omega
theorem Wz {s:a3} {k:Nat} {a c:aA} (h:a.cd≠c.cd):sF (e3 s k) a c:=by
 unfold sF e3
 rw [decide_eq_true_eq,decide_eq_true_eq]; omega
def kN (x y:Int):Int:=if x < y then -1 else if y < x then 1 else 0
theorem vr (x y:Int):o1 x y=some (kN x y):=by
 unfold o1 zV kN
 have:∀ z:Int,(z !=z)=false:=fun z=>by simp
 rw [this,this]
 simp only [Option.bind_some,cond_false]
 by_cases J:x < y
 ·simp [J]
 ·by_cases ad:y < x
  ·simp [J,ad]
  ·simp [J,ad]
theorem U2 (a c d:Int):rC [a,c,d]=some (if a≠0 then a else if c≠0 then c else d):=by
 refine bt.get ?_
 unfold rC
 refine bt.loop 3 (fun i st=>st=(i:Int)∧ ∀ j,j < i→aE [a,c,d] j=0) (by omega) ⟨rfl,fun j aH=>by omega⟩ (fun i st au hs=> ?_) (fun st hs=> ?_)
 ·obtain⟨rfl,hs⟩:=hs
  refine .cond (fun _=> ?_) (fun h=>by simp at h; omega)
  refine .idx rfl (by simpa using au) (.cond (fun ak=> .ret ?_) fun ak=> .ret ⟨gb (by omega),fun j aH=> ?_⟩)
  ·simp only [Sum.elim_inr]
   refine .ret ?_
   have bI:=hs 0
   have J:=hs 1
   rcases (show i=0∨i=1∨i=2 by omega) with rfl | rfl | rfl
   ·have:a≠0:=by simpa [aE] using ak
    rw [if_pos this]; rfl
   ·have:c≠0:=by simpa [aE] using ak
    have Kb:a=0:=by simpa [aE] using bI (by omega)
    rw [if_neg (by simpa using Kb),if_pos this]; rfl
   ·have Kb:a=0:=by simpa [aE] using bI (by omega)
    have Kc:c=0:=by simpa [aE] using J (by omega)
    rw [if_neg (by simpa using Kb),if_neg (by simpa using Kc)]; rfl
  ·by_cases g5:j=i
   ·subst g5; simpa using ak
   ·exact hs j (by omega)
 ·obtain⟨rfl,hs⟩:=hs
  refine⟨_,rfl,?_⟩
  simp only [Sum.elim_inl]
  refine .ret ?_
  have bI:a=0:=by simpa [aE] using hs 0 (by omega)
  have J:c=0:=by simpa [aE] using hs 1 (by omega)
  have ad:d=0:=by simpa [aE] using hs 2 (by omega)
  simp [bI,J,ad]
theorem Ml {s:a3} (h:dk s) {k:Nat} (ay:k < 4) {a c:aA} (bj:jf s k a.bA) (ak:jf s k c.bA):xH s a c=some (e3 s k a c):=by
 unfold xH e3
 rw [vr,Option.bind_some,L1 h ay bj,Option.bind_some,L1 h ay ak,Option.bind_some,vr,Option.bind_some,vr,Option.bind_some,U2,Option.bind_some]
 congr 1
 rw [decide_eq_decide]
 unfold kN
 split <;> split <;> (repeat' split) <;> omega
theorem Rv {xs:List aA} {f:aA→Option Bool} {g:aA→Bool} (ba:∀ x∈xs,f x=some (g x)) (ao:xs.length < 2 ^ 62):
 bt (w4 xs f) (fun r=>(r= -1∧ ∀ x∈xs,g x=false)∨ ∃ i:Nat,i < xs.length∧r=i∧g (aE xs i)=true∧ ∀ j,j < i→g (aE xs j)=false):=by
 unfold w4
 refine bt.loop xs.length (fun k s=>s=(k:Int)∧ ∀ j,j < k→g (aE xs j)=false) (by omega) ⟨rfl,fun j aH=>by omega⟩ (fun k s ay au=> ?_) (fun s au=> ?_)
 ·obtain⟨av,aX⟩:=au; subst av
  refine bt.cond (fun _=> ?_) (fun h=>by simp at h; omega)
  refine .idx rfl ay (.eq (ba _ (by rw [ew xs ay]; exact List.getElem_mem ay)) (.cond (fun h=> .ret ?_) (fun h=> .ret ⟨gb (by omega),fun j aH=> ?_⟩)))
  ·exact .ret (.inr ⟨k,ay,rfl,h,aX⟩)
  ·by_cases sE:j=k
   ·subst sE; exact h
   ·exact aX j (by omega)
 ·obtain⟨av,aX⟩:=au; subst av
  refine⟨_,by simp; rfl,?_⟩
  refine .ret (.inl ⟨rfl,fun x an=> ?_⟩)
  obtain⟨j,aH,rfl⟩:=List.mem_iff_getElem.1 an
  rw [← ew xs aH]; exact aX j aH
structure lF (s:a3) (k:Nat) (i:aA):Prop where
 e9:jf s k i.bA
theorem VN {i:aA} (J:i.bA.bZ.length≤1000) (ad:i.bA.iw.length≤1000):nF i=some i:=by
 unfold nF DE C3 C4
 rw [j2 _ _ (by simp; omega) (by omega),j2 _ _ (by simp; omega) (by omega)]
 rfl
theorem x6 {s:a3} (h:dk s) {k:Nat} (ay:k < 4) {i:aA} (au:lF s k i):nF i=some i:=by
 have J:=au.e9.len
 have ad:=au.e9.args
 have aC:=(h.kl ay).2.1.2
 exact VN (by omega) (by omega)
def iJ (l:List aA) (n:Int):Bool:=l.any fun c=>c.cd ==n
theorem find_eq (x:cu) (n:Int) (ao:x.b1.length≤1000):bt (zs x n) (fun r=>(r= -1∧iJ x.b1 n=false)∨ ∃ i:Nat,i < x.b1.length∧r=i∧ (aE x.b1 i).cd=n∧iJ x.b1 n=true∧ ∀ j,j < i→ (aE x.b1 j).cd≠n):=by
 unfold zs
 refine(Rv (g:=fun c=>c.cd ==n) (fun c ak=>rfl) (by omega)).bind fun r aR=> .ret ?_
 rcases aR with⟨J,ad⟩ | ⟨i,J,ad,aC,aU⟩
 ·exact .inl ⟨J,by unfold iJ; rw [List.any_eq_false]; exact fun c ak=>by simp [ad c ak]⟩
 ·refine .inr ⟨i,J,ad,by simpa using aC,?_,fun j aH=>by simpa using aU j aH⟩
  unfold iJ; rw [List.any_eq_true]
  exact⟨aE x.b1 i,by rw [ew _ J]; exact List.getElem_mem _,aC⟩
theorem U3 {s:a3} (h:dk s) {k:Nat} (ay:k < 4) {x:cu} (an:x.ou=s) {a c:aA} (bj:lF s k a) (ak:lF s k c):
 bt (xa x a c) (fun r=>r < 0↔e3 s k a c=true):=by
 unfold xa
 rw [an]
 refine .eq (Ml h ay bj.e9 ak.e9) (.cond (fun hb=> .ret ⟨fun _=>hb,fun _=>by omega⟩) fun hb=> .eq (Ml h ay ak.e9 bj.e9) (.cond (fun _=> .ret ?_) fun _=> .ret ?_))
 ·rw [hb]; simp
 ·rw [hb]; simp
theorem WA {i j:Nat} (h:i + j < 2 ^ 62):bq ((BitVec.ofInt 64 (bq ((i:Int) + (j:Int)))) >>> (1#64).toNat).toNat=(((i + j) / 2:Nat):Int):=by
 rw [show(i:Int) + (j:Int)=((i + j:Nat):Int) by omega,g9 (x:=((i + j:Nat):Int)) (by omega) (by omega)]
 have:((BitVec.ofInt 64 ((i + j:Nat):Int)) >>> (1#64).toNat).toNat=(i + j) / 2:=by
  rw [BitVec.toNat_ushiftRight,pJ (by omega)]
  rw [show(1#64).toNat=1 from rfl,Nat.shiftRight_eq_div_pow,Nat.pow_one]
 rw [this,g9 (by omega) (by omega)]
theorem Uj {l:List aA} {x:aA} {b:aA→aA→Bool} (hb:ri b) (hs:l.Pairwise (fun x y=>b x y=true)) (ao:l.length≤1000)
 {f:aA→aA→Option Int} (ba:∀ a∈l,bt (f a x) (fun r=>r < 0↔b a x=true)):
 bt (za l x f) (fun r=>r.1=(jV b l x:Int)):=by
 unfold za
 have fY:=H9 (b:=b) (l:=l) (x:=x)
 have tQ:∀ h,h < l.length→aE l h∈l:=fun h b3=>by rw [ew _ b3]; exact List.getElem_mem _
 have n4:∀ q:Bool,bt ((cy (decide (((jV b l x:Nat):Int) < (l.length:Int))) true (idx l.length ((jV b l x:Nat):Int))).bind fun bY=>
  (cy (decide (((jV b l x:Nat):Int) < (l.length:Int))) true (f (aE l bY) x)).bind fun aJ=>some (((jV b l x:Nat):Int),(decide (((jV b l x:Nat):Int) < (l.length:Int))) && (aJ ==0))) (fun r=>r.1=(jV b l x:Int)):=fun _=>by
  refine .cy (P:=fun c=>c=jV b l x) (fun h=>⟨_,ox (by simpa using h),rfl⟩) fun bY ad=> .cy (P:=fun _=>True) (fun h=> ?_) fun aJ _=> .ret rfl
  rw [ad h]
  exact(ba _ (tQ _ (by simpa using h))).mono fun _ _=>trivial
 refine bt.loop l.length (fun r st=> ∃ i j:Nat,st=((i:Int),(j:Int))∧i≤jV b l x∧jV b l x≤j∧j≤l.length∧j - i≤l.length - r) (by omega) ⟨0,l.length,rfl,by omega,by omega,by omega,by omega⟩ (fun r st aR ki=> ?_) (fun st ki=> ?_)
 ·obtain⟨i,j,rfl,J,ad,aC,aU⟩:=ki
  refine .cond (fun ak=> ?_) fun ak=> .ret ?_
  ·have ft:i < j:=by simpa using ak
   rw [WA (by omega)]
   have hm:(i + j) / 2 < l.length:=by omega
   refine .idx rfl hm ((ba _ (tQ _ hm)).bind fun aG bo=> ?_)
   have b5:=Ia hb (x:=x) hs hm
   refine .bind (P:=fun m=> ∃ i j:Nat,m=((i:Int),(j:Int))∧i≤jV b l x∧jV b l x≤j∧j≤l.length∧j - i≤l.length - (r + 1)) (.cond (fun a5=> .eq rfl (.ret ?_)) fun a5=> .ret ?_) fun m hm=> .ret ?_
   ·have:=b5.1 (bo.1 (by simpa using a5))
    refine⟨(i + j) / 2 + 1,j,?_,by omega,ad,aC,by omega⟩
    simp only [gb (show(i + j) / 2 < 2 ^ 62 by omega)]
   ·have: ¬ (i + j) / 2 < jV b l x:=fun b3=>by
     have:=bo.2 (b5.2 b3)
     simp at a5; omega
    exact⟨i,(i + j) / 2,rfl,J,by omega,by omega,by omega⟩
   ·obtain⟨CT,QL,rfl,a1⟩:=hm
    exact⟨CT,QL,rfl,a1⟩
  ·have ft: ¬ i < j:=by simpa using ak
   have:i=jV b l x:=by omega
   subst this
   exact n4 true
 ·obtain⟨i,j,rfl,J,ad,aC,aU⟩:=ki
  have ft:i=jV b l x:=by omega
  have ak:decide ((i:Int) < (j:Int))=false:=by simp; omega
  simp only [ak,cond_false]
  refine⟨_,rfl,?_⟩
  subst ft
  exact n4 true
structure iW (s:a3) (k:Nat) (l:List aA):Prop where
 ok:∀ i∈l,lF s k i
 num:l.Pairwise fun a c=>a.cd≠c.cd
 len:l.length≤900
theorem iW.wR {s:a3} {k:Nat} {l:List aA} (h:iW s k l):p2 (e3 s k) l:=h.num.imp fun b3=>Wz b3
theorem iW.eR {s:a3} {k:Nat} {l:List aA} (h:iW s k l):(∀ i∈eR (e3 s k) l,lF s k i)∧ (eR (e3 s k) l).length≤900:=
 ⟨fun i au=>h.ok i (oC.1 au),by rw [Ww]; exact h.len⟩
theorem Ee {s:a3} {k:Nat} {l:List aA} {n:Int} :iJ (eR (e3 s k) l) n=iJ l n:=by
 unfold iJ
 rw [Bool.eq_iff_iff,List.any_eq_true,List.any_eq_true]
 exact⟨fun⟨c,J,ad⟩=>⟨c,oC.1 J,ad⟩,fun⟨c,J,ad⟩=>⟨c,oC.2 J,ad⟩⟩
theorem Nm {l:List aA} {n:Int} (h:iJ l n=false):∀ c∈l,c.cd≠n:=fun c ak=>by
 unfold iJ at h
 rw [List.any_eq_false] at h
 simpa using h c ak
theorem iW.snoc {s:a3} {k:Nat} {l:List aA} (h:iW s k l) {i:aA} (au:lF s k i) (aO:iJ l i.cd=false) (ao:l.length < 900):iW s k (l ++ [i]) where
 ok c ak:=by
  rcases List.mem_append.1 ak with ak | ak
  ·exact h.ok c ak
  ·rw [List.mem_singleton.1 ak]; exact au
 num:=by
  rw [List.pairwise_append]
  exact⟨h.num,by simp,fun a bj c ak=>by rw [List.mem_singleton.1 ak]; exact Nm aO a bj⟩
 len:=by simp; omega
def nZ (s:a3) (k:Nat) (l:List aA):cu:= { ou:=s,b1:=eR (e3 s k) l }
theorem WB {s:a3} (h:dk s) {k:Nat} (ay:k < 4) {l:List aA} (ao:iW s k l) {i:aA} (au:lF s k i) (hlen:l.length < 900):
 zp (nZ s k l) i=some (!iJ l i.cd,if iJ l i.cd=true then nZ s k l else nZ s k (l ++ [i])):=by
 refine bt.get ?_
 unfold zp
 obtain⟨iE,gx⟩:=ao.eR
 refine .cy (fun _=>find_eq (nZ s k l) _ (by show(eR _ l).length≤1000; omega)) fun aG J=> ?_
 have J:=J rfl
 rw [Bool.false_or]
 rcases J with⟨rfl,ad⟩ | ⟨j,ad,rfl,aC,aU,a1⟩
 ·have kj:iJ l i.cd=false:=by rw [← ad]; exact Ee.symm
  refine .cond (fun ak=>by simp at ak) fun _=> ?_
  refine(Uj (b:=e3 s k) (rV s k) (DT (rV s k) ao.wR) (by omega) fun a bj=>U3 h ay rfl (iE a bj) au).bind fun aJ cr=> .eq (x6 h ay au) ?_
  rw [cr]
  unfold CZ
  have fY:=H9 (b:=e3 s k) (l:=eR (e3 s k) l) (x:=i)
  refine .eq (a:=eR (e3 s k) (l ++ [i])) ?_ (.ret ?_)
  ·show Bz 88 (eR (e3 s k) l) _ _=_
   unfold Bz
   have mT:maxLen=9223372036854775807:=rfl
   rw [if_pos ⟨by omega,by omega,by simp,by simp <;> omega,by simp <;> omega⟩,Ed,NZ]
   simp
  ·rw [kj]; rfl
 ·have uj:iJ l i.cd=true:=by rw [← aU]; exact Ee.symm
  refine .cond (fun _=> .ret ?_) fun ak=>by simp at ak <;> omega
  rw [uj]; rfl
theorem Uk {s:a3} (h:dk s) {k:Nat} (ay:k < 4) {l:List aA} (ao:iW s k l) (p:Vector ar 4):
 w5 (nZ s k l) p=some (match (eR (e3 s k) l).find? (fun c=>mt s k p c.bA) with | some c=>(c,true) | none=>(default,false)):=by
 refine bt.get ?_
 obtain⟨iE,gx⟩:=ao.eR
 unfold w5
 refine .eq (a:=p) rfl ?_
 unfold zc
 have JR:∀ i (au:i < (eR (e3 s k) l).length),xy s (aE (eR (e3 s k) l) i).bA p=some (mt s k p (aE (eR (e3 s k) l) i).bA)∧nF (aE (eR (e3 s k) l) i)=some (aE (eR (e3 s k) l) i):=fun i au=>by
  have hm:=iE (aE (eR (e3 s k) l) i) (by rw [ew _ au]; exact List.getElem_mem _)
  exact⟨Tj h ay hm.e9 p,x6 h ay hm⟩
 show bt ((Option.bind (Option.bind (e5 eU _ _) _) _)) _
 rw [Option.bind_assoc]
 refine bt.loop (eR (e3 s k) l).length (fun i st=>st=((i:Int),())∧ ∀ j,j < i→mt s k p (aE (eR (e3 s k) l) j).bA=false) (by omega) ⟨rfl,fun j aH=>by omega⟩ (fun i st au hs=> ?_) (fun st hs=> ?_)
 ·obtain⟨rfl,hs⟩:=hs
  obtain⟨aq,bd⟩:=JR i au
  refine .cond (fun _=> ?_) (fun ak=>by simp [nZ] at ak; omega)
  refine .idx rfl au (.eq aq (.cond (fun hm=> .eq (a:=(Sum.inr (true,aE (eR (e3 s k) l) i):Unit ⊕ (Bool × aA))) (by show Option.bind (nF (aE (eR (e3 s k) l) i)) _=_; rw [bd]; rfl) (.ret ?_)) fun hm=> .ret ⟨?_,fun j aH=> ?_⟩))
  ·refine .ret ?_
   rw [Nf (xs:=eR (e3 s k) l) (p:=fun c=>mt s k p c.bA) au hm hs]
  ·rw [gb (by omega)]
  ·by_cases g5:j=i
   ·subst g5; exact hm
   ·exact hs j (by omega)
 ·obtain⟨rfl,hs⟩:=hs
  have ak:decide (((eR (e3 s k) l).length:Int) < ((nZ s k l).b1.length:Int))=false:=by simp [nZ]
  simp only [ak,cond_false]
  refine⟨_,rfl,.ret ?_⟩
  rw [Ng fun c ak=> ?_]
  obtain⟨j,aH,rfl⟩:=List.mem_iff_getElem.1 ak
  rw [← ew _ aH]; exact hs j aH
theorem TI {s:a3} (h:dk s) {k:Nat} (ay:k < 4) {l:List aA} (ao:∀ i∈l,lF s k i) (aO:l.length≤1000):xJ l=some l:=by
 refine bt.get ?_
 unfold xJ
 refine bt.loop l.length (fun i st=>st=((i:Int),l.take i)) (by omega) rfl (fun i st au hs=> ?_) (fun st hs=> ?_)
 ·subst hs
  refine .cond (fun _=> ?_) (fun ak=>by simp at ak; omega)
  refine .idx rfl au (.eq (x6 h ay (ao _ (by rw [ew _ au]; exact List.getElem_mem _))) (.eq (j2 _ _ (by simp; omega) (by omega)) (.ret ?_)))
  rw [gb (by omega),Ln l au]
 ·subst hs
  refine⟨_,by simp; rfl,.ret ?_⟩
  simp
theorem WC {s:a3} (h:dk s) {k:Nat} (ay:k < 4) {l:List aA} (ao:iW s k l):zo (nZ s k l)=some (eR (e3 s k) l):=by
 unfold zo
 obtain⟨iE,gx⟩:=ao.eR
 show Option.bind (xJ (eR (e3 s k) l)) _=_
 rw [TI h ay iE (by omega)]; rfl
theorem DU (v:ar):rB v v=some 0:=by
 obtain⟨r,J,ad,aC⟩:=Ti v v
 rw [td] at ad aC
 have:r=0:=by
  have c2: ¬ r > 0:=fun h=>by simpa using ad.1 h
  have dc: ¬ r < 0:=fun h=>by simpa using aC.1 h
  omega
 rw [J,this]
theorem Tk (m:bV):Aa m m=some 0:=by
 unfold Aa
 rw [DU,DU,DU]
 simp
theorem Av (n:Int):qC n n=some 0:=by
 unfold qC
 simp
theorem SL (l:List bV) (ao:l.length≤1000):zY l l=some 0:=by
 refine bt.get ?_
 unfold zY
 refine bt.loop l.length (fun i st=>st=(i:Int)) (by omega) rfl (fun i st au hs=> ?_) (fun st hs=> ?_)
 ·subst hs
  refine .cond (fun _=> ?_) (fun ak=>by simp at ak; omega)
  exact .idx rfl au (.idx rfl au (.eq (Tk _) (.cond (fun ak=>by simp at ak) fun _=> .ret (gb (by omega)))))
 ·subst hs
  refine⟨_,by simp; rfl,?_⟩
  simp only [Sum.elim_inl]
  exact .eq (Av _) (.ret rfl)
theorem S1 (l:List ar) (ao:l.length≤1000):z6 l l=some 0:=by
 refine bt.get ?_
 unfold z6
 refine bt.loop l.length (fun i st=>st=(i:Int)) (by omega) rfl (fun i st au hs=> ?_) (fun st hs=> ?_)
 ·subst hs
  refine .cond (fun _=> ?_) (fun ak=>by simp at ak; omega)
  exact .idx rfl au (.idx rfl au (.eq (DU _) (.cond (fun ak=>by simp at ak) fun _=> .ret (gb (by omega)))))
 ·subst hs
  refine⟨_,by simp; rfl,?_⟩
  simp only [Sum.elim_inl]
  exact .eq (Av _) (.ret rfl)
theorem Ul {e:bu} (J:e.bZ.length≤1000) (ad:e.iw.length≤1000):z0 e e=some 0:=by
 unfold z0
 rw [Av,Option.bind_some,Av,Option.bind_some,SL _ J,Option.bind_some,Av,Option.bind_some]
 refine bt.get ?_
 refine bt.loop 4 (fun i st=>st=(i:Int)) (by omega) rfl (fun i st au hs=> ?_) (fun st hs=> ?_)
 ·subst hs
  refine .cond (fun _=> ?_) (fun ak=>by simp at ak; omega)
  have bI:aE [(0:Int),0,0,0] i=0:=by
   rcases (show i=0∨i=1∨i=2∨i=3 by omega) with rfl | rfl | rfl | rfl <;> rfl
  refine .idx rfl (by simpa using au) (.cond (fun ak=>by rw [bI] at ak; simp at ak) fun _=> .ret (gb (by omega)))
 ·subst hs
  refine⟨_,rfl,?_⟩
  simp only [Sum.elim_inl]
  exact .eq (S1 _ ad) (.ret rfl)
theorem G9 {i:aA} (J:i.bA.bZ.length≤1000) (ad:i.bA.iw.length≤1000):uN i i=some true:=by
 unfold uN Dz
 rw [Ul J ad]
 simp
theorem lF.small {s:a3} (h:dk s) {k:Nat} (ay:k < 4) {i:aA} (au:lF s k i):i.bA.bZ.length≤1000∧i.bA.iw.length≤1000:=by
 have J:=au.e9.len
 have ad:=au.e9.args
 have aC:=(h.kl ay).2.1.2
 exact⟨by omega,by omega⟩
theorem S2 {l:List aA} (ao:∀ i∈l,i.bA.bZ.length≤1000∧i.bA.iw.length≤1000) (aO:l.length≤1000):z1 l l=some true:=by
 refine bt.get ?_
 unfold z1
 refine .cond (fun ak=>by simp at ak) fun _=> ?_
 refine bt.loop l.length (fun i st=>st=(i:Int)) (by omega) rfl (fun i st au hs=> ?_) (fun st hs=> ?_)
 ·subst hs
  refine .cond (fun _=> ?_) (fun ak=>by simp at ak; omega)
  have:=ao (aE l i) (by rw [ew _ au]; exact List.getElem_mem _)
  exact .idx rfl au (.idx rfl au (.eq (G9 this.1 this.2) (.cond (fun ak=>by simp at ak) fun _=> .ret (gb (by omega)))))
 ·subst hs
  refine⟨_,by simp; rfl,?_⟩
  simp only [Sum.elim_inl]
  exact .ret rfl
def yV (o:Option aA):aA × Bool:=match o with | some c=>(c,true) | none=>(default,false)
theorem TJ {s:a3} (h:dk s) {k:Nat} (ay:k < 4) {l:List aA} (ao:iW s k l) (p:Vector ar 4):
 w5 (nZ s k l) p=some (yV ((eR (e3 s k) l).find? (fun c=>mt s k p c.bA))):=by
 rw [Uk h ay ao]; unfold yV; cases List.find? (fun c=>mt s k p c.bA) (eR (e3 s k) l) <;> rfl
theorem MF (c:bf):bt (xc c) (fun _=>True):=by
 unfold xc
 first | exact .ret trivial | exact .eq rfl (.ret trivial)
structure iH (hp:aS Cell) (t:Nat) (g:List Bool→Option Int):Prop where
 ok:∃ c,fB hp t=some c∧c.fw=32∧nT hp c.cB∧ ∀ aW,cont hp c.cB aW=g aW
def Own (hp:aS Cell) (t q:Nat):Prop:=q=t∨ ∃ c aW,fB hp t=some c∧cK hp c.cB aW=some q
def dm (v:ar) (n:Nat):List Bool:=(List.range n).map fun i=>ch v (31 - i)
theorem Am (v:ar) (n:Nat):dm v (n + 1)=dm v n ++ [ch v (31 - n)]:=by simp [dm,List.range_succ]
theorem An (v:ar):dm v 0= []:=rfl
theorem Mm {hp:aS Cell} {t:Nat} {c:fv} (ak:fB hp t=some c) (hb:c.fw=32) {n:Nat} (aO:n≤32) {v:ar} (a0:∀ j,j < 128→ch v j=true→lead 32 n j=true):
 xk hp (some t) v n=some true:=by
 refine bt.get ?_
 unfold xk
 have av:(Option.isSome (some t) && decide ((n:Int)≥0))=true:=by simp
 have aX:decide ((n:Int)≤c.fw)=true:=by rw [hb]; simp; omega
 refine .cy (P:=fun r=>r=t) (fun _=>⟨t,rfl,rfl⟩) fun ca J=> ?_
 rw [J av]
 refine .cy (P:=fun r=>r=c) (fun _=>⟨c,ak,rfl⟩) fun bC ad=> ?_
 rw [ad av]
 rw [av,aX]
 refine .cy (P:=fun r=>r=t) (fun _=>⟨t,rfl,rfl⟩) fun b2 aC=> ?_
 rw [aC rfl]
 refine .cy (P:=fun r=>r=c) (fun _=>⟨c,ak,rfl⟩) fun cf aU=> ?_
 rw [aU rfl,hb]
 refine .cy (fun _=>LX 32 n (by decide) (by decide)) fun aG a1=> ?_
 refine .cy (P:=fun r=>r=tU v aG) (fun _=>⟨_,and_eq v aG,rfl⟩) fun aJ bk=> ?_
 refine .eq rfl (.ret ?_)
 have:aJ=v:=by
  rw [bk rfl]
  refine A3 fun j aH=> ?_
  rw [vg,a1 rfl j aH]
  cases e:ch v j with
  | false=>rfl
  | true=>rw [a0 j aH e]; rfl
 rw [this]; simp
theorem N2 {v:ar} {i:Nat} (au:i < 32):bt (uR v (bq ((bq ((32:Int) - 1)) - (i:Int)))) (fun r=>r=ch v (31 - i)):=by
 have e:bq ((bq ((32:Int) - 1)) - (i:Int))=((31 - i:Nat):Int):=by
  rw [show bq ((32:Int) - 1)=31 from by rw [g9 (by decide) (by decide)]; rfl,g9 (by omega) (by omega)]; omega
 rw [e]
 refine(Wv v _).mono fun r aR=> ?_
 rw [aR]
 have:decide (0≤ ((31 - i:Nat):Int)∧ ((31 - i:Nat):Int) < 128)=true:=by rw [decide_eq_true_eq]; omega
 rw [this,Bool.true_and]; rfl
theorem N3 (b:Bool):(cond b (some (1:Int)) (some 0))=some ((fh b:Nat):Int):=by cases b <;> rfl
theorem IS {σ ε:Type} {hp:aS Cell} {t:Nat} {c:fv} (ak:fB hp t=some c) (hb:c.fw=32) (v:ar) {n:Nat} (aO:n≤32) {step:Int→σ→Option (σ ⊕ ε)} {cc:σ} {P:σ ⊕ ε→Prop} (fD:Nat→σ→Prop) (bI:fD 0 cc)
 (hs:∀ i s,i < n→fD i s→bt (step ((fh (ch v (31 - i)):Nat):Int) s) (fun r=>match r with | .inl b6=>fD (i + 1) b6 | .inr e=>P (.inr e))) (he:∀ s,fD n s→P (.inl s)):bt (pF hp n v (some t) step cc) P:=by
 unfold pF
 refine bt.loop n (fun i s=>s.1=(i:Int)∧fD i s.2) (by omega) ⟨rfl,bI⟩ (fun i s au e0=> ?_) (fun s e0=> ?_)
 ·obtain⟨j,s⟩:=s; obtain⟨av,aX⟩:=e0
  simp only at av aX; subst av
  refine bt.cond (fun _=> ?_) (fun h=>by simp at h; omega)
  refine .eq rfl (.eq ak ?_)
  rw [hb]
  refine(N2 (by omega)).bind fun aG J=> .eq (N3 aG) ?_
  rw [J]
  refine(hs i s au aX).bind fun r aR=> ?_
  cases r with
  | inl b6=>exact .ret ⟨gb (by omega),aR⟩
  | inr e=>exact .ret (.ret aR)
 ·obtain⟨j,s⟩:=s; obtain⟨av,aX⟩:=e0
  simp only at av aX; subst av
  refine⟨_,by simp; rfl,?_⟩
  exact .ret (he s aX)
theorem Yw {σ ε:Type} {t:Nat} (v:ar) {n:Nat} (aO:n≤32) {hq:σ→aS Cell} {step:Int→σ→ax (σ ⊕ ε)} {cc:σ} {P:σ ⊕ ε→Prop} (fD:Nat→σ→Prop) (bI:fD 0 cc) (la:∀ i s,fD i s→ ∃ c,fB (hq s) t=some c∧c.fw=32)
 (hs:∀ i s,i < n→fD i s→dH (step ((fh (ch v (31 - i)):Nat):Int) s) (fun r=>match r with | .inl b6=>fD (i + 1) b6 | .inr e=>P (.inr e))) (he:∀ s,fD n s→P (.inl s)):dH (uE n v (some t) hq step cc) P:=by
 unfold uE
 refine .bind (P:=fun e=>match e with | .inl e=>P (.inl e.2.2) | .inr e=>P (.inr e.2.2.2.2.2.2)) (dH.loop n (fun i s=>s.1=(i:Int)∧fD i s.2) (by omega) ⟨rfl,bI⟩ (fun i s au e0=> ?_) (fun s e0=> ?_)) fun e h=> ?_
 ·obtain⟨j,s⟩:=s; obtain⟨av,aX⟩:=e0
  simp only at av aX; subst av
  refine dH.cond (fun _=> ?_) (fun h=>by simp at h; omega)
  obtain⟨c,ak,hb⟩:=la i s aX
  refine .eq rfl (.eq ak ?_)
  rw [hb]
  refine .my (N2 (by omega)) fun aG J=> .eq (N3 aG) ?_
  rw [J]
  refine .bind (hs i s au aX) fun r aR=> ?_
  cases r with
  | inl b6=>exact .ret ⟨gb (by omega),aR⟩
  | inr e=>exact .ret aR
 ·obtain⟨j,s⟩:=s; obtain⟨av,aX⟩:=e0
  simp only at av aX; subst av
  refine dH.cond (fun h=>by simp at h) fun _=> .ret (he s aX)
 ·cases e with
  | inl e=>exact .ret h
  | inr e=>exact .ret h
theorem MG {hp:aS Cell} {t:Nat} {c:fv} (ak:fB hp t=some c) (hb:c.fw=32) (bL:nT hp c.cB) {n:Nat} (aO:n≤32) {v:ar} (a0:∀ j,j < 128→ch v j=true→lead 32 n j=true):
 xq hp (some t) v n=some (cK hp c.cB (dm v n)):=by
 refine bt.get ?_
 unfold xq
 refine .eq (Mm ak hb aO a0) (.cond (fun h=>by cases h) fun _=> .eq rfl (.eq ak (.eq rfl ?_)))
 show bt (Option.bind (pF hp (n:Int) v (some t) _ _) _) _
 refine bt.bind (P:=fun e:Ref ⊕ (Ref × Ref)=>e.elim (fun s=>s=cK hp c.cB (dm v n)) (fun q=>q.2=cK hp c.cB (dm v n))) (IS ak hb v aO (fun i s=>s=cK hp c.cB (dm v i)) ma.symm (fun i s au hs=> ?_) (fun s hs=>hs)) fun e he=> ?_
 ·refine .cond (fun h=> .ret ?_) fun h=> ?_
  ·rw [Option.isNone_iff_eq_none] at h
   have av:dm v n=dm v i ++ (dm v n).drop i:=by
    have:dm v i=(dm v n).take i:=by unfold dm; rw [← List.map_take,List.take_range]; congr 2; omega
    rw [this,List.take_append_drop]
   show(none:Ref)=_
   rw [av,lM,← hs,h,gn]
  ·cases s with
   | none=>simp at h
   | some p=>
     obtain⟨bC,J⟩:=bL.reads _ _ hs.symm
     refine .eq rfl (.idx rfl (by cases ch v (31 - i) <;> decide) (.eq J (.ret ?_)))
     show bD bC.cU _=_
     rw [Am,lM,← hs,hl J,ma]
 ·cases e with
  | inl s=>exact .ret he
  | inr q=>exact .ret he
theorem N4 {hp:aS Cell} {t:Nat} {g:List Bool→Option Int} (h:iH hp t g) {n:Nat} (aO:n≤32) {v:ar} (a0:∀ j,j < 128→ch v j=true→lead 32 n j=true):
 uJ hp (some t) v n=some (match g (dm v n) with | none=>(0,false) | some id=>(id,true)):=by
 obtain⟨c,ak,hb,bL,bs⟩:=h.ok
 refine bt.get ?_
 unfold uJ
 refine .eq (MG ak hb bL aO a0) ?_
 rw [← bs]
 cases e:cK hp c.cB (dm v n) with
 | none=>
   rw [j4 e]
   refine .cy (P:=fun _=>True) (fun h=>by cases h) fun o _=> .cy (P:=fun _=>True) (fun h=>by cases h) fun o _=> .cond (fun _=> .ret rfl) fun h=>by cases h
 | some p=>
   obtain⟨d,hd⟩:=bL.reads _ _ e
   rw [jO e hd]
   refine .cy (P:=fun r=>r=p) (fun _=>⟨p,rfl,rfl⟩) fun o J=> ?_
   rw [J rfl]
   refine .cy (P:=fun r=>r=d) (fun _=>⟨d,hd,rfl⟩) fun bC ad=> ?_
   rw [ad rfl]
   refine .cond (fun h=> ?_) fun h=> ?_
   ·have:d.dC=false:=by simpa using h
    rw [this]; exact .ret rfl
   ·have:d.dC=true:=by simpa using h
    rw [this]; exact .eq rfl (.eq hd (.ret rfl))
structure Fa (km hp:aS Cell) (t:Nat) (g:List Bool→Option Int) (r:Nat):Prop where
 cell:∃ c,fB hp t=some c∧c.fw=32∧c.cB=some r
 tree:nT hp (some r)
 cont:∀ aW,cont hp (some r) aW=g aW
 keeps:eL km hp (Own km t)
 own:∀ aW q,cK hp (some r) aW=some q→Own km t q∨q ∉ eN km
theorem Aw {hp:aS Cell} {a t:Nat} {k:Cell} (bj:a ∉ eN hp) (h:pat hp t=some k):a≠t:=fun e=>bj (e ▸ kS h)
theorem MH {hp:aS Cell} {a:Nat} {x:dx} :cD ((a,.fQ x) :: hp) a=some x:=by rw [o4,tf,if_pos rfl]
theorem TK {hp:aS Cell} {a:Nat} (bj:a ∉ eN hp):cD hp a=none:=by unfold cD; rw [UZ bj]
theorem xO {hp:aS Cell} {p:Nat} {k:Cell} {x:dx} (h:pat hp p=some k):cD (df hp p (.fQ x)) p=some x:=by rw [o4,vq h]
theorem tb {hp:aS Cell} {p q:Nat} {k:Cell} (h:p≠q):cD (df hp p k) q=cD hp q:=uT (nH h)
theorem LI {hp:aS Cell} {a q:Nat} {k:Cell} (h:a≠q):cD ((a,k) :: hp) q=cD hp q:=uT (by rw [tf,if_neg h])
theorem MI {hp:aS Cell} {p:Nat} {k:Cell} {x:fv} (h:pat hp p=some k):fB (df hp p (.jy x)) p=some x:=by rw [rE,vq h]
theorem DG {hp:aS Cell} {p q:Nat} {k:Cell} (h:p≠q):fB (df hp p k) q=fB hp q:=DF (nH h)
theorem LJ {hp:aS Cell} {a q:Nat} {k:Cell} (h:a≠q):fB ((a,k) :: hp) q=fB hp q:=DF (by rw [tf,if_neg h])
theorem ES {hp:aS Cell} {p t:Nat} {x:dx} {c:fv} (J:cD hp p=some x) (ad:fB hp t=some c):p≠t:=fun e=>by
 subst e
 rw [o4] at J; rw [rE,J] at ad; cases ad
theorem WD {hp:aS Cell} {t:Nat} {g:List Bool→Option Int} {c:fv} (ak:fB hp t=some c) (hb:c.fw=32) (bL:nT hp c.cB) (bs:∀ aW,cont hp c.cB aW=g aW):
 dH (cond c.cB.isNone (
     ax.bind (ax.mk hp (Cell.fQ (default:dx))) fun dc=>
     ax.bind (ax.of (fB dc.2 t)) fun CF=>
     ax.bind (ax.of (some (df dc.2 t (Cell.jy ({ CF with cB:=(some dc.1:Ref) } :fv))))) fun po=>
     ax.ret po) (ax.ret hp)) (fun cS=> ∃ r,Fa hp cS t g r):=by
 have gS:=rE.1 ak
 refine .cond (fun h=> .mk fun a bj=> ?_) fun h=> ?_
 ·have aR:c.cB=none:=by rw [Option.isNone_iff_eq_none] at h; exact h
  have Qz:=Aw bj gS
  have Fs:fB ((a,Cell.fQ default) :: hp) t=some c:=by rw [LJ Qz]; exact ak
  refine .eq Fs (.eq rfl (.ret ⟨a,?_⟩))
  have aO:cD (df ((a,Cell.fQ default) :: hp) t (.jy { c with cB:=some a })) a=some default:=by
   rw [tb Qz.symm,MH]
  have ba:=Mi aO
  refine⟨⟨_,MI (rE.1 Fs),hb,rfl⟩,⟨fun aW p J=> ?_,fun aW cs p J ad=> ?_,fun aW p J=> ?_⟩,fun aW=> ?_,?_,fun aW q J=> ?_⟩
  ·rw [ba] at J
   split at J
   ·cases J; exact⟨_,aO⟩
   ·cases J
  ·rw [ba] at J ad
   split at J <;> split at ad
   ·rename_i av aX; rw [av,aX]
   ·cases ad
   ·cases J
   ·cases J
  ·rw [ba] at J
   split at J
   ·rename_i e; rw [e]; exact Nat.zero_le _
   ·cases J
  ·rw [← bs,aR,j4 gn]
   by_cases e:aW= []
   ·rw [jO (by rw [ba,if_pos e]) aO]; rfl
   ·rw [j4 (by rw [ba,if_neg e])]
  ·exact(eL.mk' bj).trans (own':=fun q=>q=t) (eL.up (own:=fun q=>q=t) rfl) fun q _ J=> .inl J
  ·rw [ba] at J
   split at J
   ·cases J; exact .inr bj
   ·cases J
 ·cases aR:c.cB with
  | none=>rw [aR] at h; cases h
  | some r=>
    rw [aR] at bL bs
    exact .ret ⟨r,⟨c,ak,hb,aR⟩,bL,bs,.refl,fun aW q J=> .inl (.inr ⟨c,aW,ak,by rw [aR]; exact J⟩)⟩
theorem Yx {hp:aS Cell} {t:Nat} {g:List Bool→Option Int} (h:iH hp t g) {n:Nat} (aO:n≤32) {v:ar} (a0:∀ j,j < 128→ch v j=true→lead 32 n j=true) (id:Int) (e8:g (dm v n)=none):
 dH (xz hp (some t) v n id) (fun r=>r.1=true∧iH r.2 t (fun aW=>if aW=dm v n then some id else g aW)∧eL hp r.2 (Own hp t)∧ ∀ q,Own r.2 t q→Own hp t q∨q ∉ eN hp):=by
 obtain⟨c,ak,hb,bL,bs⟩:=h.ok
 unfold xz
 refine .eq (Mm ak hb aO a0) (.cond (fun h=>by cases h) fun _=> .eq (MG ak hb bL aO a0) ?_)
 refine .cy (P:=fun o=>cK hp c.cB (dm v n)=some o) (fun J=> ?_) fun ca J=> ?_
 ·cases e:cK hp c.cB (dm v n) with
  | none=>rw [e] at J; cases J
  | some p=>exact⟨p,rfl,rfl⟩
 refine .cy (P:=fun d=>cD hp ca=some d) (fun ad=> ?_) fun bC ad=> ?_
 ·obtain⟨d,hd⟩:=bL.reads _ _ (J ad)
  exact⟨d,hd,hd⟩
 refine .cond (fun aC=> ?_) fun _=> ?_
 ·simp only [Bool.and_eq_true] at aC
  rw [← bs,jO (J aC.1) (ad aC.1),aC.2] at e8
  cases e8
 refine .eq rfl (.eq ak (.bind (WD ak hb bL bs) fun bp ck=> ?_))
 obtain⟨r,ck⟩:=ck
 obtain⟨eH,lv,acP,J2⟩:=ck.cell
 refine .eq lv (.eq rfl ?_)
 show dH (ax.bind (uE (n:Int) v (some t) _ _ _) _) _
 refine .bind (P:=fun e:(Ref × aS Cell) ⊕ Empty=> ∃ p cO,e= .inl (some p,cO)∧cK cO (some r) (dm v n)=some p∧Fa hp cO t g r) (Yw v aO (fun i s=> ∃ p,s.1=some p∧cK s.2 (some r) (dm v i)=some p∧Fa hp s.2 t g r) ⟨r,J2,ma,ck⟩ (fun i s au=> ?_) (fun i s au hs=> ?_) (fun s hs=> ?_)) fun e he=> ?_
 ·obtain⟨p,_,_,hm⟩:=au
  obtain⟨d,aU,a1,_⟩:=hm.cell
  exact⟨d,aU,a1⟩
 ·obtain⟨abu,cO⟩:=s
  obtain⟨p,av,aX,hm⟩:=hs
  simp only at av aX hm
  subst av
  obtain⟨d,hd⟩:=hm.tree.reads _ _ aX
  have b5:fh (ch v (31 - i)) < 2:=by cases ch v (31 - i) <;> decide
  refine .eq rfl (.idx rfl b5 (.eq hd ?_))
  refine .bind (P:=fun gj=> ∃ q KI,cD gj p=some KI∧bD KI.cU (fh (ch v (31 - i)))=some q∧cK gj (some r) (dm v i)=some p∧Fa hp gj t g r) (.cond (fun bk=> .mk fun a bj=> ?_) fun bk=> .ret ?_) fun gj cT=> ?_
  ·have oQ:bD d.cU (fh (ch v (31 - i)))=none:=by rw [Option.isNone_iff_eq_none] at bk; exact bk
   have QA:=Aw bj (o4.1 hd)
   have jh:cD ((a,Cell.fQ default) :: cO) p=some d:=by rw [LI QA]; exact hd
   refine .idx rfl b5 (.eq jh (.eq rfl (.ret ?_)))
   have fY:cD (df ((a,Cell.fQ default) :: cO) p (.fQ { d with cU:=fP d.cU (fh (ch v (31 - i))) (some a) })) a=some default:=by
    rw [tb QA.symm,MH]
   have de:cD (df ((a,Cell.fQ default) :: cO) p (.fQ { d with cU:=fP d.cU (fh (ch v (31 - i))) (some a) })) p=some { d with cU:=fP d.cU (fh (ch v (31 - i))) (some a) } :=xO (o4.1 jh)
   obtain⟨aq,bd,bN⟩:=grow (by unfold dm; simp; omega) hm.tree aX hd oQ (TK bj) de fY fun q jk n7=>by rw [tb jk.symm,LI n7.symm]
   have BL:Own hp t p∨p ∉ eN hp:=hm.own _ _ aX
   refine⟨a,_,de,by rw [qG _ _ b5,if_pos rfl],by rw [bd,if_neg (fun e=>by have:=congrArg List.length e; simp at this)]; exact aX,?_,aq,fun aW=>by rw [bN,hm.cont],?_,fun aW q hq=> ?_⟩
   ·obtain⟨d4,aU,a1,fa⟩:=hm.cell
    have gS:=ES hd aU
    exact⟨d4,by rw [DG gS,LJ (Aw bj (rE.1 aU))]; exact aU,a1,fa⟩
   ·refine hm.keeps.trans (own':=fun q=>q=p) ((eL.mk' bj).trans (own':=fun q=>q=p) (eL.up (own:=fun q=>q=p) rfl) fun q _ fX=>fX) fun q hq fX=> ?_
    subst fX
    exact BL.resolve_right fun kG=>kG hq
   ·rw [bd] at hq
    split at hq
    ·cases hq; exact .inr fun fX=>bj (hm.keeps.keys _ fX)
    ·exact hm.own _ _ hq
  ·cases oQ:bD d.cU (fh (ch v (31 - i))) with
   | none=>rw [oQ] at bk; cases bk
   | some q=>exact⟨q,d,hd,oQ,aX,hm⟩
  ·obtain⟨q,KI,fa,fX,kG,rh⟩:=cT
   refine .idx rfl b5 (.eq fa (.ret ⟨q,fX,?_,rh⟩))
   show cK gj (some r) (dm v (i + 1))=some q
   rw [Am,lM,kG,hl fa,fX,ma]
 ·obtain⟨abu,cO⟩:=s
  obtain⟨p,av,aX,hm⟩:=hs
  simp only at av aX hm
  subst av
  exact⟨p,cO,rfl,aX,hm⟩
 ·obtain⟨p,cO,rfl,aX,hm⟩:=he
  obtain⟨d,hd⟩:=hm.tree.reads _ _ aX
  have Kd:=o4.1 hd
  refine .eq rfl (.eq hd (.eq rfl (.eq rfl ?_)))
  have jh:cD (df cO p (.fQ { d with dC:=true })) p=some { d with dC:=true } :=xO Kd
  refine .eq jh (.eq rfl (.ret ?_))
  have pk:cD (df (df cO p (.fQ { d with dC:=true })) p (.fQ { d with dC:=true,hc:=id })) p=some { d with dC:=true,hc:=id } :=xO (o4.1 jh)
  obtain⟨s1,s2⟩:=PW hm.tree aX hd pk rfl fun q hq=>by rw [tb hq.symm,tb hq.symm]
  obtain⟨d4,aU,a1,fa⟩:=hm.cell
  have gS:=ES hd aU
  have uj:fB (df (df cO p (.fQ { d with dC:=true })) p (.fQ { d with dC:=true,hc:=id })) t=some d4:=by rw [DG gS,DG gS]; exact aU
  have BL:Own hp t p∨p ∉ eN hp:=hm.own _ _ aX
  refine⟨rfl,⟨d4,uj,a1,by rw [fa]; exact s1,fun aW=> ?_⟩,?_,fun q hq=> ?_⟩
  ·rw [fa,s2,hm.cont]; rfl
  ·refine hm.keeps.trans (own':=fun q=>q=p) ((eL.up (own:=fun q=>q=p) rfl).trans (own':=fun q=>q=p) (eL.up (own:=fun q=>q=p) rfl) fun q _ fX=>fX) fun q hq fX=> ?_
   subst fX
   exact BL.resolve_right fun kG=>kG hq
  ·rcases hq with rfl | ⟨hj,aW,J,ad⟩
   ·exact .inl (.inl rfl)
   ·rw [uj] at J; cases J
    rw [fa,AG hd pk rfl (fun q hq=>by rw [tb hq.symm,tb hq.symm])] at ad
    exact hm.own _ _ ad
theorem le_toNat {x:BitVec 64} {k:Nat} (ay:k < 2 ^ 64):decide (x≥BitVec.ofNat 64 k)=decide (k≤x.toNat):=by
 rw [decide_eq_decide,ge_iff_le,BitVec.le_def,BitVec.toNat_ofNat,Nat.mod_eq_of_lt ay]
theorem Um (x:BitVec 64) (h:x.toNat < 2 ^ 32):bt (uG x) (fun r=>r≤32):=by
 unfold uG
 refine .bind (P:=fun m=>m=(x,0)) (.cond (fun ak=> ?_) fun _=> .ret rfl) fun bp J=> ?_
 ·rw [le_toNat (by decide)] at ak; simp at ak; omega
 subst J
 refine .bind (P:=fun m=>m.1.toNat < 65536∧0≤m.2∧m.2≤16) (.cond (fun ak=> .ret ⟨?_,?_⟩) fun ak=> .ret ⟨?_,Int.le_refl 0,by show(0:Int)≤16; decide⟩) fun cP ad=> ?_
 ·rw [BitVec.toNat_ushiftRight,show(16#64).toNat=16 from rfl,Nat.shiftRight_eq_div_pow]; simp only; omega
 ·rw [show bq ((0:Int) + 16)=16 from by rw [g9 (by decide) (by decide)]; rfl]; exact⟨by show(0:Int)≤16; decide,Int.le_refl 16⟩
 ·rw [le_toNat (by decide)] at ak; simp at ak; exact ak
 refine .bind (P:=fun m=>m.1.toNat < 256∧0≤m.2∧m.2≤24) (.cond (fun ak=> .ret ⟨?_,?_⟩) fun ak=> .ret ⟨?_,ad.2.1,by have:=ad.2.2; simp only; omega⟩) fun ff aC=> ?_
 ·rw [BitVec.toNat_ushiftRight,show(8#64).toNat=8 from rfl,Nat.shiftRight_eq_div_pow]; have:=ad.1; omega
 ·have:=ad.2; rw [g9 (by omega) (by omega)]; constructor <;> omega
 ·rw [le_toNat (by decide)] at ak; simp at ak; exact ak
 obtain⟨aC,aU,a1⟩:=aC
 have key:∀ k:Fin 256,∃ y,BB (ByteArray.mk (List.toArray (List.append (List.append [0,1,2,2,3,3,3,3,4,4,4,4,4,4,4,4,5,5,5,5,5,5,5,5,5,5,5,5,5,5,5,5,6,6,6,6,6,6,6,6,6,6,6,6,6,6,6,6,6,6,6,6,6,6,6,6,6,6,6,6,6,6,6,6] [7,7,7,7,7,7,7,7,7,7,7,7,7,7,7,7,7,7,7,7,7,7,7,7,7,7,7,7,7,7,7,7,7,7,7,7,7,7,7,7,7,7,7,7,7,7,7,7,7,7,7,7,7,7,7,7,7,7,7,7,7,7,7,7]) (List.append [8,8,8,8,8,8,8,8,8,8,8,8,8,8,8,8,8,8,8,8,8,8,8,8,8,8,8,8,8,8,8,8,8,8,8,8,8,8,8,8,8,8,8,8,8,8,8,8,8,8,8,8,8,8,8,8,8,8,8,8,8,8,8,8] [8,8,8,8,8,8,8,8,8,8,8,8,8,8,8,8,8,8,8,8,8,8,8,8,8,8,8,8,8,8,8,8,8,8,8,8,8,8,8,8,8,8,8,8,8,8,8,8,8,8,8,8,8,8,8,8,8,8,8,8,8,8,8,8])))) ((k.1:Nat):Int)=some y∧y.toNat≤8:=by
  intro k
  have J:(match BB (ByteArray.mk (List.toArray (List.append (List.append [0,1,2,2,3,3,3,3,4,4,4,4,4,4,4,4,5,5,5,5,5,5,5,5,5,5,5,5,5,5,5,5,6,6,6,6,6,6,6,6,6,6,6,6,6,6,6,6,6,6,6,6,6,6,6,6,6,6,6,6,6,6,6,6] [7,7,7,7,7,7,7,7,7,7,7,7,7,7,7,7,7,7,7,7,7,7,7,7,7,7,7,7,7,7,7,7,7,7,7,7,7,7,7,7,7,7,7,7,7,7,7,7,7,7,7,7,7,7,7,7,7,7,7,7,7,7,7,7]) (List.append [8,8,8,8,8,8,8,8,8,8,8,8,8,8,8,8,8,8,8,8,8,8,8,8,8,8,8,8,8,8,8,8,8,8,8,8,8,8,8,8,8,8,8,8,8,8,8,8,8,8,8,8,8,8,8,8,8,8,8,8,8,8,8,8] [8,8,8,8,8,8,8,8,8,8,8,8,8,8,8,8,8,8,8,8,8,8,8,8,8,8,8,8,8,8,8,8,8,8,8,8,8,8,8,8,8,8,8,8,8,8,8,8,8,8,8,8,8,8,8,8,8,8,8,8,8,8,8,8])))) ((k.1:Nat):Int) with | some y=>decide (y.toNat≤8) | none=>false)=true:=by
   revert k; decide +kernel
  split at J
  ·rename_i y e; exact⟨y,e,by simpa using J⟩
  ·cases J
 obtain⟨y,av,aX⟩:=key ⟨(ff.1.setWidth 8).toNat,(ff.1.setWidth 8).isLt⟩
 refine .eq av (.ret ?_)
 rw [g9 (by omega) (by omega)]; omega
def Small (v:ar):Prop:= ∀ j,j < 128→ch v j=true→j < 32
theorem VO {v:ar} (h:Small v):Ac v 32=some true:=by
 refine bt.get ?_
 have dr:v.cV=0#64:=by
  apply BitVec.eq_of_getLsbD_eq
  intro i au
  have J:=h (64 + i) (by omega)
  unfold ch at J
  rw [if_neg (by omega),show 64 + i - 64=i by omega] at J
  rw [BitVec.getLsbD_zero]
  cases e:v.cV.getLsbD i with
  | false=>rfl
  | true=>have:=J e; omega
 have fU:v.bG.toNat < 2 ^ 32:=by
  refine Nat.lt_pow_two_of_testBit _ fun i au=> ?_
  cases e:v.bG.toNat.testBit i with
  | false=>rfl
  | true=>
    have b5:i < 64:=by
     rcases Nat.lt_or_ge i 64 with J | J
     ·exact J
     ·rw [Nat.testBit_lt_two_pow (Nat.lt_of_lt_of_le v.bG.isLt (Nat.pow_le_pow_right (by decide) J))] at e; cases e
    have:=h i (by omega) (by unfold ch; rw [if_pos b5,BitVec.getLsbD,e])
    omega
 unfold Ac DD
 rw [dr]
 refine .bind (P:=fun r=>r≤32) (.cond (fun ak=>by simp at ak) fun _=>(Um _ fU).bind fun y a5=> .ret a5) fun y a5=> .ret ?_
 rw [decide_eq_true a5]
def js (g:List Bool→Option Int) (v:ar):Nat→Option (Nat × Int)
 | 0=>(g []).map fun id=>(0,id)
 | k + 1=>match g (dm v (k + 1)) with
   | some id=>some (k + 1,id)
   | none=>js g v k
def enc:Option (Nat × Int)→Int × Int × Bool
 | none=>(0,0,false)
 | some (n,id)=>((n:Int),id,true)
theorem MJ {hp:aS Cell} {root:Ref} (bL:nT hp root) (aW:List Bool) (d:Nat) (o:Option (Nat × Int)):
 uC hp (cK hp root aW) d (enc o).1 (enc o).2.1 (enc o).2.2=some (enc (match cont hp root aW with | some id=>some (d,id) | none=>o)):=by
 refine bt.get ?_
 unfold uC
 cases e:cK hp root aW with
 | none=>
   rw [j4 e]
   refine .cy (P:=fun _=>True) (fun h=>by cases h) fun o _=> .cy (P:=fun _=>True) (fun h=>by cases h) fun o _=> .eq rfl (.ret rfl)
 | some p=>
   obtain⟨c,ak⟩:=bL.reads _ _ e
   rw [jO e ak]
   refine .cy (P:=fun r=>r=p) (fun _=>⟨p,rfl,rfl⟩) fun ca J=> ?_
   rw [J rfl]
   refine .cy (P:=fun r=>r=c) (fun _=>⟨c,ak,rfl⟩) fun bC ad=> ?_
   rw [ad rfl]
   cases hu:c.dC with
   | true=>exact .eq (a:=((d:Int),c.hc,true)) (by simp [ak]) (.ret rfl)
   | false=>exact .eq rfl (.ret rfl)
theorem TL {hp:aS Cell} {t:Nat} {g:List Bool→Option Int} (h:iH hp t g) {v:ar} (a0:Small v):zN hp (some t) v=some (enc (js g v 32)):=by
 obtain⟨c,ak,hb,bL,bs⟩:=h.ok
 refine bt.get ?_
 unfold zN
 refine .cy (P:=fun r=>r=t) (fun _=>⟨t,rfl,rfl⟩) fun ca J=> ?_
 rw [J rfl]
 refine .cy (P:=fun r=>r=c) (fun _=>⟨c,ak,rfl⟩) fun bC ad=> ?_
 rw [ad rfl,hb]
 refine .cy (P:=fun r=>r=true) (fun _=>⟨true,VO a0,rfl⟩) fun aG aC=> ?_
 rw [aC rfl]
 refine .cond (fun ak=>by cases ak) fun _=> .eq rfl (.eq ak ?_)
 have v0:uC hp c.cB 0 0 0 false=some (enc (js g v 0)):=by
  have:=MJ bL [] 0 none
  rw [ma,bs] at this
  refine this.trans ?_
  unfold js
  cases g [] <;> rfl
 rw [hb]
 refine .eq v0 (.eq rfl ?_)
 show bt (Option.bind (pF hp ((32:Nat):Int) v (some t) _ _) _) _
 refine bt.bind (P:=fun e:(Ref × Int × Int × Int × Bool) ⊕ (Ref × Int × Int × Int × Bool)=>e.elim (fun s=>s.2.2=enc (js g v 32)) (fun q=>q.2.2=enc (js g v 32)))
  (IS ak hb v (Nat.le_refl 32) (fun i s=>s=(cK hp c.cB (dm v i),(i:Int),enc (js g v i))) (by rw [An,ma]; rfl) (fun i s au hs=> ?_) (fun s hs=>by rw [hs]; rfl)) fun e he=> ?_
 ·subst hs
  refine .cond (fun h=> .ret ?_) fun h=> ?_
  ·have aO:cK hp c.cB (dm v i)=none:=by
    simp only [Option.isNone_iff_eq_none] at h; exact h
   have key:∀ k,js g v (i + k)=js g v i:=fun k=>by
    induction k with
    | zero=>rfl
    | succ k bJ=>
      have av:dm v (i + k + 1)=dm v i ++ (dm v (i + k + 1)).drop i:=by
       have:dm v i=(dm v (i + k + 1)).take i:=by unfold dm; rw [← List.map_take,List.take_range]; congr 2; omega
       rw [this,List.take_append_drop]
      have:g (dm v (i + k + 1))=none:=by
       rw [← bs,j4]
       rw [av,lM,aO,gn]
      show(match g (dm v (i + k + 1)) with | some id=>some (i + k + 1,id) | none=>js g v (i + k))=_
      rw [this]; exact bJ
   show enc (js g v i)=enc (js g v 32)
   have:=key (32 - i)
   rw [show i + (32 - i)=32 by omega] at this
   rw [this]
  ·cases e:cK hp c.cB (dm v i) with
   | none=>simp [e] at h
   | some p=>
     obtain⟨d,hd⟩:=bL.reads _ _ e
     refine .eq rfl (.idx rfl (by cases ch v (31 - i) <;> decide) (.eq hd ?_))
     have oQ:bD d.cU (fh (ch v (31 - i)))=cK hp c.cB (dm v (i + 1)):=by rw [Am,lM,e,hl hd,ma]
     have hw:bq ((i:Int) + 1)=((i + 1:Nat):Int):=gb (by omega)
     simp only [oQ,hw]
     refine .eq (MJ bL (dm v (i + 1)) (i + 1) (js g v i)) (.ret ?_)
     rw [bs]
     rfl
 ·cases e with
  | inl s=>exact .ret he
  | inr q=>exact .ret he
theorem dk.FO {s:a3} (h:dk s):∃ dJ ev hH,∀ k,k < 4→nX (aE s.b7 k)=aE (sh dJ ev hH) k:=by
 obtain⟨dJ,ev,hH,e⟩:=h.tables
 refine⟨dJ,ev,hH,fun k ay=> ?_⟩
 rw [← e,D0 nX (by rw [h.lV]; exact ay)]
theorem uY (t:bW) {r:Int × Int} (aQ:List cH) (ay:t.cl=aQ) (h:xB { (default:bW) with cl:=aQ } =some r):xB t=some r:=by
 subst ay
 exact h
def kp (k:Nat):Int:=aE [1,2,3,3] k
theorem Un {s:a3} (h:dk s) {k:Nat} (ay:k < 4):bt (xB (aE s.b7 k)) (fun r=>r.1=kp k∧ (k=1→r.2=0)):=by
 obtain⟨dJ,ev,hH,e⟩:=h.FO
 have e:=e k ay
 have hh:(aE s.b7 k).cl=(aE (sh dJ ev hH) k).2.2:=congrArg (·.2.2) e
 have:k=0∨k=1∨k=2∨k=3:=by omega
 rcases this with rfl | rfl | rfl | rfl
 ·exact⟨_,uY _ [pD] hh rfl,rfl,fun h=>by simp at h⟩
 ·cases dJ
  ·exact⟨_,uY _ [w2] hh rfl,rfl,fun _=>rfl⟩
  ·exact⟨_,uY _ [w2,F6] hh rfl,rfl,fun _=>rfl⟩
 ·cases ev
  ·exact⟨_,uY _ [CR,Cy] hh rfl,rfl,fun h=>by simp at h⟩
  ·exact⟨_,uY _ [CR,Cy,KG] hh rfl,rfl,fun h=>by simp at h⟩
 ·cases hH
  ·exact⟨_,uY _ [CS] hh rfl,rfl,fun h=>by simp at h⟩
  ·exact⟨_,uY _ [CS,KH,w2] hh rfl,rfl,fun h=>by simp at h⟩
theorem Tl {s:a3} (h:dk s) {x:Int} (an:x < 1∨4 < x):bt (s6 s x) (fun r=>r= -1):=by
 unfold s6
 have ao:=h.lV
 refine(K2 (g:=fun t=>t.bX ==x) (fun _ _=>rfl) (by omega)).bind fun r aR=> .ret ?_
 rcases aR with⟨J,_⟩ | ⟨i,J,ad,aC,aU⟩
 ·exact J
 ·have au:i < 4:=by omega
  have:=(h.kl au).1
  simp only [beq_iff_eq] at aC
  omega
structure wb (s:a3) (k:Nat) (km hp:aS Cell) (p:Nat):Prop where
 cell:∃ c m,hz hp p=some c∧c.pK=kp k∧c.o9=((aE s.b7 k).cl.length:Int)∧c.ks=⟨some m⟩∧kW hp m=some []∧
  (k=0→ ∃ q cP,c.iu= .mh ⟨some q⟩∧mI hp q=some ⟨⟨some cP⟩⟩∧lQ hp cP=some []∧q ∉ eN km∧cP ∉ eN km)∧
  (k=1→ ∃ ff,c.iu= .mi ⟨0,32,⟨some ff⟩⟩∧jv hp ff=some []∧ff ∉ eN km)∧
  (2≤k→ ∃ q key cap,c.iu= .mj ⟨some q⟩∧nV hp q=some (({ ou:=s,b1:= [] } :cu),key,cap)∧q ∉ eN km)∧
  p ∉ eN km∧m ∉ eN km∧ (∀ q,q∈eN km→q∈eN hp)∧ ∀ q,q∈eN km→pat hp q=pat km q
theorem Bm {s:a3} (h:dk s) {k:Nat} (ay:k < 4) (hp:aS Cell):dH (nG hp s ((k:Int) + 1)) (fun r=> ∃ p,r.1=some p∧wb s k hp r.2 p):=by
 unfold nG
 refine .my (LG h ay) fun aG av=> ?_
 subst av
 refine .cond (fun ak=>by simp at ak; omega) fun _=> ?_
 refine .idx rfl (by rw [h.lV]; exact ay) (.my (Un h ay) fun aJ ad=> .mk fun m hm=> .eq rfl (.mk fun p cS=> ?_))
 obtain⟨acb,key⟩:=aJ
 obtain⟨ad,aC⟩:=ad
 simp only at ad aC cS
 subst ad
 have lZ:p≠m:=fun e=>by subst e; simp [eN] at cS
 have:k=0∨k=1∨2≤k:=by omega
 rcases this with rfl | rfl | cX
 ·have e:(kp 0 ==1)=true:=rfl
  simp only [e,cond_true]
  unfold DC
  refine .bind (P:=fun cO=>wb s 0 hp cO p) (.bind (P:=fun r=> ∃ q cP,r=((some q:Ref),(q,Cell.yk ⟨⟨some cP⟩⟩) :: (cP,Cell.n0 []) :: (p,_) :: (m,Cell.kb []) :: hp)∧cP ∉ eN ((p,_) :: (m,Cell.kb []) :: hp)∧q ∉ eN ((cP,Cell.n0 []) :: (p,_) :: (m,Cell.kb []) :: hp)) (.mk fun cP eb=> .mk fun q hq=> .ret ⟨q,cP,rfl,eb,hq⟩) fun bh aU=> ?_) fun cO a1=> .ret ⟨p,rfl,a1⟩
  obtain⟨q,cP,rfl,eb,hq⟩:=aU
  simp only [eN,List.map_cons,List.mem_cons,not_or] at eb hq cS
  refine .eq (by simp [hz,pat,hq.1,hq.2,eb.1,hq.2.2.1,Ne.symm]; rfl) (.eq rfl (.ret ?_))
  refine⟨{ pK:=kp 0,o9:=((aE s.b7 0).cl.length:Int),iu:= .mh ⟨some q⟩,ks:=⟨some m⟩ },m,?_,rfl,rfl,rfl,?_,?_,fun ak=>by simp at ak,fun ak=>by simp at ak,cS.2,hm,fun x an=>by rw [vd]; exact List.mem_cons_of_mem _ (List.mem_cons_of_mem _ (List.mem_cons_of_mem _ (List.mem_cons_of_mem _ an))),fun x an=> ?_⟩
  ·simp [hz,pat,df,hq.1,hq.2,eb.1,hq.2.2.1]
  ·simp [kW,pat,df,hq.1,hq.2,eb.1,hq.2.2.1,eb.2.1,cS.1]
  ·intro _
   refine⟨q,cP,rfl,?_,?_,hq.2.2.2,eb.2.2⟩
   ·simp [mI,pat,df,hq.1,hq.2,eb.1,hq.2.2.1,eb.2.1,cS.1]
   ·simp [lQ,pat,df,hq.1,hq.2,eb.1,hq.2.2.1,eb.2.1,cS.1]
  ·have oc:q≠x:=fun e=>hq.2.2.2 (by rw [e]; exact an)
   have KJ:cP≠x:=fun e=>eb.2.2 (by rw [e]; exact an)
   have CU:p≠x:=fun e=>cS.2 (by rw [e]; exact an)
   have CV:m≠x:=fun e=>hm (by rw [e]; exact an)
   simp [AO,pat,oc,KJ,CU,CV]
 ·have e:(kp 1 ==1)=false:=rfl
  have aX:(kp 1 ==2)=true:=rfl
  simp only [e,aX,cond_true,cond_false]
  have aC:=aC rfl
  subst aC
  obtain⟨t1,⟨t2,t3⟩,t4,_⟩:=h.kl ay
  have ba:(aE (aE s.b7 1).cl 0).gW=((6:Nat):Int) + 1:=by
   obtain⟨dJ,ev,hH,e⟩:=h.FO
   have e:=congrArg (·.2.2) (e 1 ay)
   show(aE (nX (aE s.b7 1)).2.2 0).gW=_
   rw [e]
   cases dJ <;> rfl
  refine .bind (P:=fun cO=>wb s 1 hp cO p) (.bind (P:=fun cO=>wb s 1 hp cO p) ?_ fun _ bk=> .ret bk) fun cO a1=> .ret ⟨p,rfl,a1⟩
  refine .idx (k:=0) rfl (by omega) ?_
  simp only [ba]
  refine .my (LH h (show 6 < 9 by decide)) fun bn gT=> ?_
  subst gT
  refine .my (P:=fun r=>r=32) (.cond (fun _=> .idx rfl (by rw [h.wa]; decide) (.ret (h.wQ (show 6 < 9 by decide)).2)) (fun ak=>by simp at ak)) fun b hb=> ?_
  subst hb
  refine .mk fun ff gG=> ?_
  simp only [eN,List.map_cons,List.mem_cons,not_or] at gG cS
  refine .eq rfl (.eq (by simp [hz,pat,gG.1]; rfl) (.eq rfl (.ret ?_)))
  refine⟨{ pK:=kp 1,o9:=((aE s.b7 1).cl.length:Int),iu:= .mi ⟨0,32,⟨some ff⟩⟩,ks:=⟨some m⟩ },m,?_,rfl,rfl,rfl,?_,fun ak=>by simp at ak,?_,fun ak=>by simp at ak,cS.2,hm,fun x an=>by rw [vd]; exact List.mem_cons_of_mem _ (List.mem_cons_of_mem _ (List.mem_cons_of_mem _ an)),fun x an=> ?_⟩
  ·simp [hz,pat,df,gG.1]
  ·simp [kW,pat,df,gG.1,gG.2.1,cS.1]
  ·intro _
   refine⟨ff,rfl,?_,gG.2.2⟩
   simp [jv,pat,df,gG.1,gG.2.1,cS.1]
  ·have oc:ff≠x:=fun e=>gG.2.2 (by rw [e]; exact an)
   have CU:p≠x:=fun e=>cS.2 (by rw [e]; exact an)
   have CV:m≠x:=fun e=>hm (by rw [e]; exact an)
   simp [AO,pat,oc,CU,CV]
 ·have e:(kp k ==1)=false:=by
   have:k=2∨k=3:=by omega
   rcases this with rfl | rfl <;> rfl
  have aX:(kp k ==2)=false:=by
   have:k=2∨k=3:=by omega
   rcases this with rfl | rfl <;> rfl
  simp only [e,aX,cond_true,cond_false]
  refine .bind (P:=fun cO=>wb s k hp cO p) (.bind (P:=fun cO=>wb s k hp cO p) ?_ fun _ bk=> .ret bk) fun cO a1=> .ret ⟨p,rfl,a1⟩
  refine .eq rfl (.any fun dZ=> .mk fun q hq=> ?_)
  simp only [eN,List.map_cons,List.mem_cons,not_or] at hq cS
  refine .eq (by simp [hz,pat,hq.1]; rfl) (.eq rfl (.ret ?_))
  refine⟨{ pK:=kp k,o9:=((aE s.b7 k).cl.length:Int),iu:= .mj ⟨some q⟩,ks:=⟨some m⟩ },m,?_,rfl,rfl,rfl,?_,fun ak=>by omega,fun ak=>by omega,fun _=>⟨q,dZ.1,dZ.2,rfl,?_,hq.2.2⟩,cS.2,hm,fun x an=>by rw [vd]; exact List.mem_cons_of_mem _ (List.mem_cons_of_mem _ (List.mem_cons_of_mem _ an)),fun x an=> ?_⟩
  ·simp [hz,pat,df,hq.1]
  ·simp [kW,pat,df,hq.1,hq.2.1,cS.1]
  ·simp [nV,pat,df,hq.1]
  ·have oc:q≠x:=fun e=>hq.2.2 (by rw [e]; exact an)
   have CU:p≠x:=fun e=>cS.2 (by rw [e]; exact an)
   have CV:m≠x:=fun e=>hm (by rw [e]; exact an)
   simp [AO,pat,oc,CU,CV]
theorem WE {s:a3} (h:dk s) {x:Int} (an:x < 1∨4 < x) (hp:aS Cell):dH (nG hp s x) (fun r=>r.1=none):=by
 unfold nG
 refine .my (Tl h an) fun aG av=> ?_
 subst av
 exact .cond (fun _=> .ret rfl) fun ak=>by simp at ak
theorem Ef {s:a3} {k:Nat} {km hp:aS Cell} {p:Nat} (h:wb s k km hp p):s3 hp (some p)=some (kp k):=by
 obtain⟨c,m,J,ad,_⟩:=h.cell
 unfold s3
 simp [J,ad]
theorem VP (hp:aS Cell):dH (Ab hp) (fun r=>r.1=true):=by
 unfold Ab
 refine .my (Eb [] 0 (by decide) (by decide)) fun aG J=> .my (LW _ J) fun aJ ad=> ?_
 obtain⟨ad,_⟩:=ad
 refine .bind (Bm ad (k:=0) (by decide) _) fun bh aC=> ?_
 obtain⟨p,e,aC⟩:=aC
 rw [e]
 refine .eq (Ef aC) ?_
 have iZ:(kp 0 ==1)=true:=rfl
 simp only [iZ,decide_true,cond_true]
 refine .bind (Bm ad (k:=1) (by decide) _) fun bn aU=> ?_
 obtain⟨fm,gT,aU⟩:=aU
 rw [gT]
 refine .eq (a:=kp 1) (by unfold cy; rw [if_pos rfl]; exact Ef aU) ?_
 have av:(true && kp 1 ==2)=true:=rfl
 simp only [av,decide_true,cond_true]
 refine .bind (Bm ad (k:=2) (by decide) _) fun cw a1=> ?_
 obtain⟨iY,l6,a1⟩:=a1
 rw [l6]
 refine .eq (a:=kp 2) (by unfold cy; rw [if_pos rfl]; exact Ef a1) ?_
 have aX:(true && kp 2 ==3)=true:=rfl
 simp only [aX,decide_true,cond_true]
 refine .bind (Bm ad (k:=3) (by decide) _) fun dg bk=> ?_
 obtain⟨kJ,pB,bk⟩:=bk
 rw [pB]
 refine .eq (a:=kp 3) (by unfold cy; rw [if_pos rfl]; exact Ef bk) ?_
 have c4:(true && kp 3 ==3)=true:=rfl
 simp only [c4,decide_true,cond_true]
 refine .bind (WE ad (x:=9) (by decide) _) fun c8 cT=> ?_
 refine .eq rfl (.ret ?_)
 rw [cT]; rfl
theorem MK {α:Type} {b:α→α→Bool} (hb:ri b) {q:α→Bool} :∀ {l:List α} {c:α},l.Pairwise (fun x y=>b x y=true)→c∈l→q c=true→ (∀ d∈l,q d=true→d=c∨b c d=true)→l.find? q=some c
 | [],c,_,ak,_,_=>by cases ak
 | a :: l,c,hs,ak,hq,hd=>by
   obtain⟨J,ad⟩:=List.pairwise_cons.1 hs
   by_cases mz:q a=true
   ·rw [List.find?_cons_of_pos mz]
    rcases hd a (by simp) mz with h | h
    ·rw [h]
    ·rcases List.mem_cons.1 ak with aC | aC
     ·rw [aC]
     ·have:=hb.asymm _ _ (J c aC)
      rw [this] at h; cases h
   ·rw [List.find?_cons_of_neg mz]
    rcases List.mem_cons.1 ak with aC | aC
    ·rw [aC] at hq; exact absurd hq mz
    ·exact MK hb ad aC hq fun d hd' Ke=>hd d (by simp [hd']) Ke
theorem Eg {α:Type} {b:α→α→Bool} (hb:ri b) {q:α→Bool} {l:List α} {c:α} (h:p2 b l) (ak:c∈l) (hq:q c=true) (hd:∀ d∈l,q d=true→d=c∨b c d=true):(eR b l).find? q=some c:=
 MK hb (DT hb h) (oC.2 ak) hq fun d hd'=>hd d (oC.1 hd')
theorem HJ {α:Type} {b:α→α→Bool} {q:α→Bool} {l:List α} (hd:∀ d∈l,q d=false):(eR b l).find? q=none:=by
 rw [List.find?_eq_none]
 intro x an
 rw [hd x (oC.1 an)]; simp
theorem iW.uniq {s:a3} {k:Nat} :∀ {l:List aA},iW s k l→ ∀ {a c:aA},a∈l→c∈l→a.cd=c.cd→a=c:=fun {l} h {a c} bj ak e=>by
 have aO:=h.num
 clear h
 induction l with
 | nil=>cases bj
 | cons x l bJ=>
   obtain⟨J,ad⟩:=List.pairwise_cons.1 aO
   rcases List.mem_cons.1 bj with aq | aq <;> rcases List.mem_cons.1 ak with bd | bd
   ·rw [aq,bd]
   ·rw [aq] at e; exact absurd e (J c bd)
   ·rw [bd] at e; exact absurd e.symm (J a aq)
   ·exact bJ aq bd ad
theorem dk.Pf {s:a3} (h:dk s):(aE s.b7 0).cl= [pD]:=by
 obtain⟨dJ,ev,hH,e⟩:=h.FO
 exact congrArg (·.2.2) (e 0 (by decide))
theorem dk.Bn {s:a3} (h:dk s):∃ b,(aE s.b7 1).cl=mM b:=by
 obtain⟨dJ,ev,hH,e⟩:=h.FO
 exact⟨dJ,congrArg (·.2.2) (e 1 (by decide))⟩
def hv (s:a3) (k:Nat):Nat:=(aE s.b7 k).cl.length
theorem Nn {α:Type} [Inhabited α] {n:Nat} {f:Fin n→α} {j:Nat} (h:j < n):bD (Vector.ofFn f) j=f ⟨j,h⟩:=by unfold bD; simp [h]
def eO (e:bu):Vector ar 4:=Vector.ofFn fun i=>if i.1 < e.bZ.length then(aE e.bZ i.1).cI else default
def kO (n:Nat) (p:Vector ar 4):Vector ar 4:=Vector.ofFn fun i=>if i.1 < n then bD p i.1 else default
def ga (p:Vector ar 4):Vector ar 4:=fP p 0 default
theorem lK {e:bu} {j:Nat} (h:j < 4):bD (eO e) j=if j < e.bZ.length then(aE e.bZ j).cI else default:=Nn h
theorem m9 {n:Nat} {p:Vector ar 4} {j:Nat} (h:j < 4):bD (kO n p) j=if j < n then bD p j else default:=Nn h
theorem Eh {p:Vector ar 4} {j:Nat} :bD (ga p) j=if j=0 then default else bD p j:=by unfold ga; rw [qG _ _ (by decide)]
theorem BM {v w:Vector ar 4} :v=w↔bD v 0=bD w 0∧bD v 1=bD w 1∧bD v 2=bD w 2∧bD v 3=bD w 3:=by
 refine⟨fun h=>by rw [h]; exact⟨rfl,rfl,rfl,rfl⟩,fun⟨bI,J,ad,aC⟩=>DZ fun j aH=> ?_⟩
 rcases (show j=0∨j=1∨j=2∨j=3 by omega) with rfl | rfl | rfl | rfl <;> assumption
theorem HK {s:a3} (h:dk s) {e:bu} (he:jf s 0 e) (p:Vector ar 4):mt s 0 p e=true↔kO (hv s 0) p=eO e:=by
 have ao:=he.len
 have hm:=he.ui 0
 unfold mt hv
 rw [h.Pf] at ao hm ⊢
 have hm:=(hm (by decide)).FL rfl
 have hm:(aE e.bZ 0).fF=true:=hm
 have av:e.bZ.length=1:=ao
 have iZ:((List.range [pD].length).all fun i=>h9 (aE [pD] i).cN (gU (aE [pD] i)) (aE e.bZ i) (bD p i))=decide (bD p 0=(aE e.bZ 0).cI):=by
  show(h9 1 (gU pD) (aE e.bZ 0) (bD p 0) && true)=_
  unfold h9
  rw [hm]; simp
 rw [iZ,decide_eq_true_eq,BM]
 simp only [m9 (show 0 < 4 by decide),m9 (show 1 < 4 by decide),m9 (show 2 < 4 by decide),m9 (show 3 < 4 by decide),lK (show 0 < 4 by decide),lK (show 1 < 4 by decide),lK (show 2 < 4 by decide),lK (show 3 < 4 by decide),av]
 simp
theorem Yy {s:a3} (h:dk s) {l:List aA} (ao:iW s 0 l) (p:Vector ar 4) {o:Option Int} (bb:∀ n,o=some n↔ ∃ i∈l,eO i.bA=kO (hv s 0) p∧i.cd=n):
 (∀ n,o=some n→ ∃ i∈l,i.cd=n∧ (eR (e3 s 0) l).find? (fun c=>mt s 0 p c.bA)=some i)∧ (o=none→ (eR (e3 s 0) l).find? (fun c=>mt s 0 p c.bA)=none):=by
 constructor
 rotate_left
 ·intro aO
  subst aO
  refine HJ fun d hd=> ?_
  rw [Bool.eq_false_iff]
  intro hm
  have:=(bb d.cd).2 ⟨d,hd,((HK h (ao.ok d hd).e9 p).1 hm).symm,rfl⟩
  cases this
 ·intro n aO
  subst aO
  obtain⟨i,au,J,ad⟩:=(bb n).1 rfl
  refine⟨i,au,ad,Eg (rV s 0) ao.wR au ((HK h (ao.ok i au).e9 p).2 J.symm) fun d hd hm=> .inl ?_⟩
  have aC:=(bb d.cd).2 ⟨d,hd,((HK h (ao.ok d hd).e9 p).1 hm).symm,rfl⟩
  have aC:n=d.cd:=by simpa using aC
  exact ao.uniq hd au (by rw [ad,aC])
theorem U4 {v w:ar} {n m:Nat} :dm v n=dm w m↔n=m∧ ∀ i,i < n→ch v (31 - i)=ch w (31 - i):=by
 unfold dm
 constructor
 ·intro h
  have ao:=congrArg List.length h
  simp only [List.length_map,List.length_range] at ao
  subst ao
  refine⟨rfl,fun i au=> ?_⟩
  have:=congrArg (·[i]?) h
  simpa [au] using this
 ·rintro ⟨rfl,h⟩
  exact List.map_congr_left fun i au=>h i (List.mem_range.1 au)
def jl (e:bu):List Bool:=dm (aE e.bZ 0).cI (aE e.bZ 0).ez.toNat
theorem tX {s:a3} (h:dk s) {e:bu} (he:jf s 1 e):nY 2 32 (aE e.bZ 0):=by
 have hm:=he.ui 0
 obtain⟨b,hb⟩:=h.Bn
 rw [hb] at hm
 cases b
 ·exact hm (by decide)
 ·exact hm (by decide)
theorem x7 {k:Int} (bI:0≤k) (J:k≤32) {j:Nat} :lead 32 k j=true↔32 - k≤ (j:Int)∧j < 32:=by
 unfold lead; rw [Bool.and_eq_true,decide_eq_true_eq,decide_eq_true_eq]; omega
theorem HL {m:bV} (hm:nY 2 32 m) {v:ar} {n:Nat} (aO:n≤32):dm m.cI m.ez.toNat=dm v n↔m.ez=n∧ ∀ j,j < 128→lead 32 m.ez j=true→ch v j=ch m.cI j:=by
 have hp:=hm.pre
 rw [U4]
 constructor
 ·rintro ⟨J,ad⟩
  refine⟨by omega,fun j aH ao=> ?_⟩
  rw [x7 hp.1 hp.2] at ao
  have:=ad (31 - j) (by omega)
  rw [show 31 - (31 - j)=j by omega] at this
  exact this.symm
 ·rintro ⟨J,ad⟩
  refine⟨by omega,fun i au=> ?_⟩
  exact(ad (31 - i) (by omega) ((x7 hp.1 hp.2).2 (by omega))).symm
theorem No {s:a3} (h:dk s) {e:bu} (he:jf s 1 e) (p:Vector ar 4):mt s 1 p e=true↔
 ga (kO (hv s 1) p)=ga (eO e)∧ ∀ j,j < 128→lead 32 (aE e.bZ 0).ez j=true→ch (bD p 0) j=ch (aE e.bZ 0).cI j:=by
 have ao:=he.len
 have hm:=he.ui 1
 have gI:=tX h he
 obtain⟨b,hb⟩:=h.Bn
 unfold mt hv
 rw [hb] at ao hm ⊢
 have iZ:h9 2 32 (aE e.bZ 0) (bD p 0)=true↔ ∀ j,j < 128→lead 32 (aE e.bZ 0).ez j=true→ch (bD p 0) j=ch (aE e.bZ 0).cI j:=by
  unfold h9
  by_cases hp:(aE e.bZ 0).fF=false
  ·rw [if_pos hp,gI.off hp]
   refine⟨fun _ j aH ao=> ?_,fun _=>rfl⟩
   have:lead 32 (default:bV).ez j=true:=ao
   rw [x7 (by decide) (by decide)] at this
   have bI:(default:bV).ez=0:=rfl
   rw [bI] at this; omega
  ·rw [if_neg hp,if_neg (by decide),if_pos rfl,List.all_eq_true]
   refine⟨fun J j aH ao=> ?_,fun J j aH=> ?_⟩
   ·have:=J j (List.mem_range.2 aH)
    rw [ao] at this; simpa using this
   ·cases ao:lead 32 (aE e.bZ 0).ez j
    ·rfl
    ·simp [J j (List.mem_range.1 aH) ao]
 cases b
 ·have av:e.bZ.length=1:=ao
  have aX:((List.range (mM false).length).all fun i=>h9 (aE (mM false) i).cN (gU (aE (mM false) i)) (aE e.bZ i) (bD p i))=h9 2 32 (aE e.bZ 0) (bD p 0):=by
   show(h9 2 32 (aE e.bZ 0) (bD p 0) && true)=_
   rw [Bool.and_true]
  rw [aX,iZ,BM]
  simp only [Eh,m9 (show 0 < 4 by decide),m9 (show 1 < 4 by decide),m9 (show 2 < 4 by decide),m9 (show 3 < 4 by decide),lK (show 0 < 4 by decide),lK (show 1 < 4 by decide),lK (show 2 < 4 by decide),lK (show 3 < 4 by decide),av]
  simp [mM]
 ·have av:e.bZ.length=2:=ao
  have ck:(aE e.bZ 1).fF=true:=(hm (by decide)).FL rfl
  have aX:((List.range (mM true).length).all fun i=>h9 (aE (mM true) i).cN (gU (aE (mM true) i)) (aE e.bZ i) (bD p i))=(h9 2 32 (aE e.bZ 0) (bD p 0) && decide (bD p 1=(aE e.bZ 1).cI)):=by
   show(h9 2 32 (aE e.bZ 0) (bD p 0) && (h9 1 (gU F6) (aE e.bZ 1) (bD p 1) && true))=_
   rw [Bool.and_true]
   congr 1
   unfold h9
   rw [ck]; simp
  rw [aX,Bool.and_eq_true,iZ,BM,decide_eq_true_eq]
  simp only [Eh,m9 (show 0 < 4 by decide),m9 (show 1 < 4 by decide),m9 (show 2 < 4 by decide),m9 (show 3 < 4 by decide),lK (show 0 < 4 by decide),lK (show 1 < 4 by decide),lK (show 2 < 4 by decide),lK (show 3 < 4 by decide),av]
  simp [mM,And.comm]
theorem Np {g:List Bool→Option Int} {v:ar} :∀ {m n:Nat} {id:Int},js g v m=some (n,id)→n≤m∧g (dm v n)=some id∧ ∀ k,n < k→k≤m→g (dm v k)=none
 | 0,n,id,h=>by
   unfold js at h
   cases bs:g [] with
   | none=>rw [bs] at h; cases h
   | some x=>
     rw [bs] at h; cases h
     exact⟨Nat.le_refl 0,by rw [An]; exact bs,fun k J ad=>by omega⟩
 | m + 1,n,id,h=>by
   unfold js at h
   cases bs:g (dm v (m + 1)) with
   | none=>
     rw [bs] at h
     obtain⟨J,ad,aC⟩:=Np h
     refine⟨by omega,ad,fun k aU a1=> ?_⟩
     by_cases ay:k=m + 1
     ·rw [ay]; exact bs
     ·exact aC k aU (by omega)
   | some x=>
     rw [bs] at h; cases h
     exact⟨Nat.le_refl _,bs,fun k J ad=>by omega⟩
theorem Nq {g:List Bool→Option Int} {v:ar} :∀ {m:Nat},js g v m=none→ ∀ k,k≤m→g (dm v k)=none
 | 0,h,k,ay=>by
   have:k=0:=by omega
   subst this
   unfold js at h
   cases bs:g [] with
   | none=>rw [An]; exact bs
   | some x=>rw [bs] at h; cases h
 | m + 1,h,k,ay=>by
   unfold js at h
   cases bs:g (dm v (m + 1)) with
   | none=>
     rw [bs] at h
     by_cases sB:k=m + 1
     ·rw [sB]; exact bs
     ·exact Nq h k (by omega)
   | some x=>rw [bs] at h; cases h
theorem QB {s:a3} (h:dk s) {e:bu} (he:jf s 1 e):uz s 1 e=(aE e.bZ 0).ez:=by
 have ao:=he.len
 unfold uz
 obtain⟨b,hb⟩:=h.Bn
 rw [hb] at ao ⊢
 refine Ib (i:=0) ao ?_ ?_ fun j aH=>by omega
 ·cases b <;> decide
 ·cases b <;> rfl
theorem Fb {s:a3} (h:dk s) {e:bu} (he:jf s 1 e):e.hI=0:=by
 refine he.pri fun i au=> ?_
 obtain⟨b,hb⟩:=h.Bn
 rw [hb] at au ⊢
 cases b
 ·have:i=0:=by have:i < 1:=au; omega
  subst this; decide
 ·have:i=0∨i=1:=by have:i < 2:=au; omega
  rcases this with rfl | rfl <;> decide
theorem Pg {s:a3} (h:dk s) {l:List aA} (ao:iW s 1 l) (p:Vector ar 4) {g:List Bool→Option Int} {v:ar} (a0:∀ j,j < 128→ch v j=(ch (bD p 0) j && decide (j < 32)))
 (bs:∀ aW n,g aW=some n↔ ∃ i∈l,ga (eO i.bA)=ga (kO (hv s 1) p)∧jl i.bA=aW∧i.cd=n):
 match js g v 32 with | some r=> ∃ i∈l,i.cd=r.2∧ (eR (e3 s 1) l).find? (fun c=>mt s 1 p c.bA)=some i | none=>(eR (e3 s 1) l).find? (fun c=>mt s 1 p c.bA)=none:=by
 have qe:∀ k j,j < 128→lead 32 k j=true→ch v j=ch (bD p 0) j:=fun k j aH ay=>by
  rw [a0 j aH]
  unfold lead at ay
  rw [Bool.and_eq_true,decide_eq_true_eq] at ay
  rw [decide_eq_true (show j < 32 by omega),Bool.and_true]
 have yW:∀ d∈l,mt s 1 p d.bA=true→ ∃ n:Nat,n≤32∧ (aE d.bA.bZ 0).ez=n∧g (dm v n)=some d.cd:=fun d hd hm=>by
  have he:=(ao.ok d hd).e9
  have gI:=tX h he
  have hp:=gI.pre
  obtain⟨n,aO⟩:=Int.eq_ofNat_of_zero_le hp.1
  obtain⟨J,ad⟩:=(No h he p).1 hm
  refine⟨n,by omega,aO,(bs _ _).2 ⟨d,hd,J.symm,?_,rfl⟩⟩
  exact(HL gI (by omega)).2 ⟨aO,fun j aH oR=>by rw [qe _ j aH oR]; exact ad j aH oR⟩
 cases e:js g v 32 with
 | none=>
   refine HJ fun d hd=> ?_
   rw [Bool.eq_false_iff]
   intro hm
   obtain⟨n,aO,_,ad⟩:=yW d hd hm
   rw [Nq e n aO] at ad; cases ad
 | some r=>
   obtain⟨n,id⟩:=r
   obtain⟨J,ad,aC⟩:=Np e
   obtain⟨i,au,aq,bd,bN⟩:=(bs _ _).1 ad
   have he:=(ao.ok i au).e9
   obtain⟨dq,k9⟩:=(HL (tX h he) J).1 bd
   have Cl:mt s 1 p i.bA=true:=(No h he p).2 ⟨aq.symm,fun j aH oR=>by rw [← qe _ j aH oR]; exact k9 j aH oR⟩
   refine⟨i,au,bN,Eg (rV s 1) ao.wR au Cl fun d hd hm=> ?_⟩
   have QC:=(ao.ok d hd).e9
   obtain⟨m,ck,eb,gG⟩:=yW d hd hm
   have q6:m≤n:=by
    rcases Nat.lt_or_ge n m with b5 | qb
    ·rw [aC m b5 ck] at gG; cases gG
    ·exact qb
   by_cases IX:m=n
   ·subst IX
    rw [ad] at gG
    have:id=d.cd:=by simpa using gG
    exact .inl (ao.uniq hd au (by rw [bN,this]))
   ·right
    unfold e3
    rw [decide_eq_true_eq,QB h he,QB h QC,Fb h he,Fb h QC,eb,dq]
    omega
theorem Own.iff {hp hp':aS Cell} {t:Nat} {c:fv} (ak:fB hp t=some c) (h:∀ q,Own hp t q→pat hp' q=pat hp q):fB hp' t=some c∧ (∀ aW,cK hp' c.cB aW=cK hp c.cB aW)∧ ∀ q,Own hp' t q↔Own hp t q:=by
 have J:fB hp' t=some c:=by rw [DF (h t (.inl rfl))]; exact ak
 have ad:∀ aW,cK hp' c.cB aW=cK hp c.cB aW:=fun aW=>Mh fun p cs hp=>uT (h p (.inr ⟨c,cs,ak,hp⟩))
 refine⟨J,ad,fun q=>⟨fun hq=> ?_,fun hq=> ?_⟩⟩
 ·rcases hq with rfl | ⟨hj,aW,aq,bd⟩
  ·exact .inl rfl
  ·rw [J] at aq; cases aq
   rw [ad] at bd
   exact .inr ⟨c,aW,ak,bd⟩
 ·rcases hq with rfl | ⟨hj,aW,aq,bd⟩
  ·exact .inl rfl
  ·rw [ak] at aq; cases aq
   exact .inr ⟨c,aW,J,by rw [ad]; exact bd⟩
theorem iH.congr {hp hp':aS Cell} {t:Nat} {g:List Bool→Option Int} (h:iH hp t g) (bj:∀ q,Own hp t q→pat hp' q=pat hp q):iH hp' t g∧ ∀ q,Own hp' t q↔Own hp t q:=by
 obtain⟨c,ak,hb,bL,bs⟩:=h.ok
 obtain⟨J,ad,aC⟩:=Own.iff ak bj
 refine⟨⟨⟨c,J,hb,⟨fun aW p hp=> ?_,fun aW cs p aq bd=> ?_,fun aW p aq=>bL.dep aW p (by rw [← ad]; exact aq)⟩,fun aW=> ?_⟩⟩,aC⟩
 ·rw [ad] at hp
  obtain⟨d,hd⟩:=bL.reads aW p hp
  exact⟨d,by rw [uT (bj p (.inr ⟨c,aW,ak,hp⟩))]; exact hd⟩
 ·rw [ad] at aq bd
  exact bL.inj aW cs p aq bd
 ·rw [← bs]
  cases e:cK hp c.cB aW with
  | none=>rw [j4 e,j4 (by rw [ad]; exact e)]
  | some p=>
    obtain⟨d,hd⟩:=bL.reads aW p e
    rw [jO e hd,jO (by rw [ad]; exact e) (by rw [uT (bj p (.inr ⟨c,aW,ak,e⟩))]; exact hd)]
theorem iH.vt {hp:aS Cell} {t:Nat} {g:List Bool→Option Int} (h:iH hp t g) {q:Nat} (hq:Own hp t q):q∈eN hp:=by
 obtain⟨c,ak,hb,bL,bs⟩:=h.ok
 rcases hq with rfl | ⟨hj,aW,aq,bd⟩
 ·exact kS (rE.1 ak)
 ·rw [ak] at aq; cases aq
  obtain⟨d,hd⟩:=bL.reads aW q bd
  exact kS (o4.1 hd)
theorem iH.Et {hp:aS Cell} {t:Nat} {g:List Bool→Option Int} (h:iH hp t g) {q:Nat} (hq:Own hp t q):(∃ c,pat hp q=some (.jy c))∨ ∃ c,pat hp q=some (.fQ c):=by
 obtain⟨c,ak,hb,bL,bs⟩:=h.ok
 rcases hq with rfl | ⟨hj,aW,aq,bd⟩
 ·exact .inl ⟨c,rE.1 ak⟩
 ·rw [ak] at aq; cases aq
  obtain⟨d,hd⟩:=bL.reads aW q bd
  exact .inr ⟨d,o4.1 hd⟩
def iO (a c:bu):Bool:=decide (a.dW=c.dW∧a.bZ=c.bZ∧a.hI=c.hI)
theorem vu {a c:bu} :iO a c=true↔a.dW=c.dW∧a.bZ=c.bZ∧a.hI=c.hI:=by unfold iO; rw [decide_eq_true_eq]
theorem Ei (a:bu):iO a a=true:=vu.2 ⟨rfl,rfl,rfl⟩
theorem AQ (a c:bu):iO a c=iO c a:=by
 rw [Bool.eq_iff_iff,vu,vu]
 exact⟨fun⟨x,y,z⟩=>⟨x.symm,y.symm,z.symm⟩,fun⟨x,y,z⟩=>⟨x.symm,y.symm,z.symm⟩⟩
theorem ML {a c d:bu} (J:iO a c=true) (ad:iO c d=true):iO a d=true:=by
 rw [vu] at *
 exact⟨J.1.trans ad.1,J.2.1.trans ad.2.1,J.2.2.trans ad.2.2⟩
theorem HM {a c:bV} (J:a.fF=c.fF) (ad:a.cI=c.cI) (aC:a.fL=c.fL) (aU:a.ez=c.ez) (a1:a.jP=c.jP):a=c:=by
 cases a; cases c; simp_all
theorem Nr {b:Int} {m pE:bV} (h:nY 1 b m) (c0:nY 1 b pE) (e:m.cI=pE.cI):m=pE:=
 HM (by rw [h.FL rfl,c0.FL rfl]) e (by rw [h.gk (by decide),c0.gk (by decide)]) (by rw [h.J7 (by decide),c0.J7 (by decide)]) (by rw [h.FM (by decide),c0.FM (by decide)])
theorem VQ {m pE:bV} (h:nY 2 32 m) (c0:nY 2 32 pE) (e:dm m.cI m.ez.toNat=dm pE.cI pE.ez.toNat):m=pE:=by
 have hp:=h.pre
 have hp':=c0.pre
 obtain⟨n,aO⟩:=Int.eq_ofNat_of_zero_le hp'.1
 rw [aO,Int.toNat_natCast] at e
 obtain⟨av,aX⟩:=(HL h (by omega)).1 e
 have c4:m.ez=pE.ez:=by omega
 have CB:m.fF=pE.fF:=by
  cases aq:m.fF <;> cases bd:pE.fF
  ·rfl
  ·have:=c0.J6 rfl bd
   have:=h.off aq
   have bI:(default:bV).ez=0:=rfl
   rw [this,bI] at c4; omega
  ·have:=h.J6 rfl aq
   have:=c0.off bd
   have bI:(default:bV).ez=0:=rfl
   rw [this,bI] at c4; omega
  ·rfl
 refine HM CB (A3 fun j aH=> ?_) (by rw [h.gk (by decide),c0.gk (by decide)]) c4 (by rw [h.FM (by decide),c0.FM (by decide)])
 cases ao:lead 32 m.ez j with
 | true=>exact(aX j aH ao).symm
 | false=>
   have nv:ch m.cI j=false:=by
    rw [Bool.eq_false_iff]; intro a0
    have:=h.J8 rfl j aH a0
    rw [(x7 hp.1 hp.2).2 this] at ao; cases ao
   have oO:ch pE.cI j=false:=by
    rw [Bool.eq_false_iff]; intro a0
    have:=c0.J8 rfl j aH a0
    rw [c4,(x7 hp'.1 hp'.2).2 this] at ao; cases ao
   rw [nv,oO]
theorem Fc {α:Type} [Inhabited α] {l:List α} (h:l.length=1):l= [aE l 0]:=by
 match l,h with
 | [x],_=>rfl
theorem PZ {α:Type} [Inhabited α] {l:List α} (h:l.length=2):l= [aE l 0,aE l 1]:=by
 match l,h with
 | [x,y],_=>rfl
theorem CC {s:a3} (h:dk s) {a c:bu} (bj:jf s 0 a) (ak:jf s 0 c):iO a c=true↔eO a=eO c:=by
 rw [vu]
 have qu:=bj.len; have lc:=ak.len
 have CW:=bj.ui 0; have rr:=ak.ui 0
 have F8:=bj.pri; have F9:=ak.pri
 rw [h.Pf] at qu lc CW rr F8 F9
 have ay:∀ i,i < [pD].length→ (aE [pD] i).cN≤2:=by decide
 refine⟨fun⟨J,ad,aC⟩=>by unfold eO; rw [ad],fun e=>⟨by rw [bj.kl,ak.kl],?_,by rw [F8 ay,F9 ay]⟩⟩
 have iZ:=(BM.1 e).1
 rw [lK (by decide),lK (by decide),qu,lc] at iZ
 have iZ:(aE a.bZ 0).cI=(aE c.bZ 0).cI:=iZ
 rw [Fc (l:=a.bZ) qu,Fc (l:=c.bZ) lc,Nr (CW (by decide)) (rr (by decide)) iZ]
theorem yX {s:a3} (h:dk s) {a c:bu} (bj:jf s 1 a) (ak:jf s 1 c):iO a c=true↔ga (eO a)=ga (eO c)∧jl a=jl c:=by
 rw [vu]
 have qu:=bj.len; have lc:=ak.len
 have CW:=bj.ui 1; have rr:=ak.ui 1
 have F8:=Fb h bj; have F9:=Fb h ak
 have KK:=tX h bj; have abv:=tX h ak
 obtain⟨b,hb⟩:=h.Bn
 rw [hb] at qu lc CW rr
 refine⟨fun⟨J,ad,aC⟩=>by unfold eO jl; rw [ad]; exact⟨rfl,rfl⟩,fun⟨e,e'⟩=>⟨by rw [bj.kl,ak.kl],?_,by rw [F8,F9]⟩⟩
 have bI:=VQ KK abv e'
 cases b
 ·rw [Fc (l:=a.bZ) qu,Fc (l:=c.bZ) lc,bI]
 ·have av:=(BM.1 e).2.1
  rw [Eh,Eh,if_neg (by decide),if_neg (by decide),lK (by decide),lK (by decide),qu,lc] at av
  have av:(aE a.bZ 1).cI=(aE c.bZ 1).cI:=av
  rw [PZ (l:=a.bZ) qu,PZ (l:=c.bZ) lc,bI,Nr (CW (by decide)) (rr (by decide)) av]
structure gy (s:a3) (k:Nat) (l:List aA):Prop where
 ok:iW s k l
 key:l.Pairwise fun a c=>iO a.bA c.bA=false
theorem gy.uniq {s:a3} {k:Nat} {l:List aA} (h:gy s k l) {a c:aA} (bj:a∈l) (ak:c∈l) (e:iO a.bA c.bA=true):a=c:=by
 have aO:=h.key
 clear h
 induction l with
 | nil=>cases bj
 | cons x l bJ=>
   obtain⟨J,ad⟩:=List.pairwise_cons.1 aO
   rcases List.mem_cons.1 bj with aq | aq <;> rcases List.mem_cons.1 ak with bd | bd
   ·rw [aq,bd]
   ·rw [aq,J c bd] at e; cases e
   ·rw [bd,AQ,J a aq] at e; cases e
   ·exact bJ aq bd ad
def g6 (l:List aA) (e:bu):Option aA:=l.find? fun i=>iO i.bA e
theorem xP {l:List aA} {e:bu} {i:aA} (h:g6 l e=some i):i∈l∧iO i.bA e=true:=by
 unfold g6 at h
 have ad:=List.find?_some h
 exact⟨List.mem_of_find?_eq_some h,ad⟩
theorem u6 {l:List aA} {e:bu} (h:g6 l e=none):∀ i∈l,iO i.bA e=false:=fun i au=>by
 have:=List.find?_eq_none.1 h i au
 simpa using this
def nB (o:Option aA):Int × Bool:=match o with | some i=>(i.cd,true) | none=>(0,false)
theorem Ns {i:aA} {n:Int} (h:i.cd=n):nB (some i)=(n,true):=by rw [← h]; rfl
def nC {α β:Type} (l:List (α × β)):Prop:=l.Pairwise fun a c=>a.1≠c.1
theorem MM {α β:Type} [DecidableEq α]:∀ {l:List (α × β)} {x:α} {v:β} {a:α × β},a∈gO l x v→a.1=x∨a∈l
 | [],x,v,a,h=>by
   have:a=(x,v):=by simpa [gO] using h
   rw [this]; exact .inl rfl
 | (k,w) :: r,x,v,a,h=>by
   unfold gO at h
   split at h
   ·rcases List.mem_cons.1 h with h | h
    ·rw [h]; exact .inl rfl
    ·exact .inr (by simp [h])
   ·rcases List.mem_cons.1 h with h | h
    ·exact .inr (by simp [h])
    ·exact(MM h).imp id fun h=>List.mem_cons_of_mem _ h
theorem nC.put {α β:Type} [DecidableEq α]:∀ {l:List (α × β)} {x:α} {v:β},nC l→nC (gO l x v)
 | [],x,v,_=>by unfold gO nC; simp
 | (k,w) :: r,x,v,h=>by
   obtain⟨J,ad⟩:=List.pairwise_cons.1 h
   unfold gO
   split
   ·rename_i e
    refine List.pairwise_cons.2 ⟨fun a bj=> ?_,ad⟩
    have:=J a bj
    rw [e]; exact this
   ·rename_i e
    refine List.pairwise_cons.2 ⟨fun a bj=> ?_,nC.put ad⟩
    rcases MM bj with g | g
    ·rw [g]; exact fun e'=>e e'.symm
    ·exact J a g
theorem MN {α β:Type} [DecidableEq α]:∀ {l:List (α × β)} {x:α} {a:α × β},a∈hR l x→a∈l
 | [],x,a,h=>by cases h
 | (k,w) :: r,x,a,h=>by
   unfold hR at h
   split at h
   ·exact List.mem_cons_of_mem _ h
   ·rcases List.mem_cons.1 h with h | h
    ·simp [h]
    ·exact List.mem_cons_of_mem _ (MN h)
theorem nC.del {α β:Type} [DecidableEq α]:∀ {l:List (α × β)} {x:α},nC l→nC (hR l x)
 | [],x,_=>by unfold hR nC; exact .nil
 | (k,w) :: r,x,h=>by
   obtain⟨J,ad⟩:=List.pairwise_cons.1 h
   unfold hR
   split
   ·exact ad
   ·exact List.pairwise_cons.2 ⟨fun a bj=>J a (MN bj),nC.del ad⟩
theorem Nt {α β:Type} [DecidableEq α]:∀ {l:List (α × β)} {x:α},(∀ a∈l,a.1≠x)→dM l x=none
 | [],_,_=>rfl
 | (k,w) :: r,x,h=>by
   unfold dM
   rw [if_neg fun e=>h (k,w) (by simp) e.symm,Nt fun a bj=>h a (by simp [bj])]
theorem Ax {α β:Type} [DecidableEq α]:∀ {l:List (α × β)} {x y:α},nC l→dM (hR l x) y=if y=x then none else dM l y
 | [],x,y,_=>by
   show none=if y=x then none else none
   split <;> rfl
 | (k,w) :: r,x,y,h=>by
   obtain⟨J,ad⟩:=List.pairwise_cons.1 h
   unfold hR
   by_cases e:x=k
   ·rw [if_pos e]
    by_cases aX:y=x
    ·rw [if_pos aX,aX,e]; exact Nt fun a bj=>(J a bj).symm
    ·rw [if_neg aX]; show _=if y=k then _ else _; rw [if_neg (by rw [← e]; exact aX)]
   ·rw [if_neg e]
    show(if y=k then some w else dM (hR r x) y)=_
    by_cases aX:y=k
    ·rw [if_pos aX,if_neg (by rw [aX]; exact fun c4=>e c4.symm)]; show _=if y=k then _ else _; rw [if_pos aX]
    ·rw [if_neg aX,Ax ad]
     show _=if y=x then none else if y=k then _ else _
     rw [if_neg aX]
structure vv (s:a3) (hp:aS Cell) (q:Nat) (l:List aA) (own:Nat→Prop):Prop where
 ok:∃ m em,mI hp q=some ⟨⟨some m⟩⟩∧lQ hp m=some em∧own q∧own m∧ (∀ cQ n,dM em cQ=some n↔ ∃ i∈l,eO i.bA=cQ∧i.cd=n)∧nC em
structure me (s:a3) (hp:aS Cell) (m:Nat) (l:List aA) (own:Nat→Prop):Prop where
 ok:∃ em,jv hp m=some em∧own m∧
  (∀ cQ r,dM em cQ=some r→ ∃ t g,r=some t∧iH hp t g∧ (∀ q,Own hp t q→own q)∧ ∀ aW n,g aW=some n↔ ∃ i∈l,ga (eO i.bA)=cQ∧jl i.bA=aW∧i.cd=n)∧
  (∀ cQ,dM em cQ=none→ ∀ i∈l,ga (eO i.bA)≠cQ)∧
  (∀ cQ jG t fp,dM em cQ=some (some t)→dM em jG=some (some fp)→cQ≠jG→ ∀ q,Own hp t q→ ¬ Own hp fp q)∧nC em
structure vw (s:a3) (k:Nat) (hp:aS Cell) (q:Nat) (l:List aA) (own:Nat→Prop):Prop where
 ok:∃ key cap,nV hp q=some (nZ s k l,key,cap)∧own q
def pf (s:a3) (k:Nat) (hp:aS Cell) (f:gm) (l:List aA) (own:Nat→Prop):Prop:=
 (k=0∧ ∃ q,f= .mh ⟨some q⟩∧vv s hp q l own)∨ (k=1∧ ∃ m,f= .mi ⟨0,32,⟨some m⟩⟩∧me s hp m l own)∨ (2≤k∧ ∃ q,f= .mj ⟨some q⟩∧vw s k hp q l own)
theorem GU {hp hp':aS Cell} {p:Nat} (h:pat hp' p=pat hp p):mI hp' p=mI hp p:=by unfold mI; rw [h]
theorem Tm {hp hp':aS Cell} {p:Nat} (h:pat hp' p=pat hp p):lQ hp' p=lQ hp p:=by unfold lQ; rw [h]
theorem DH {hp hp':aS Cell} {p:Nat} (h:pat hp' p=pat hp p):jv hp' p=jv hp p:=by unfold jv; rw [h]
theorem Tn {hp hp':aS Cell} {p:Nat} (h:pat hp' p=pat hp p):nV hp' p=nV hp p:=by unfold nV; rw [h]
theorem To {hp hp':aS Cell} {p:Nat} (h:pat hp' p=pat hp p):hz hp' p=hz hp p:=by unfold hz; rw [h]
theorem Tp {hp hp':aS Cell} {p:Nat} (h:pat hp' p=pat hp p):kW hp' p=kW hp p:=by unfold kW; rw [h]
theorem pf.congr {s:a3} {k:Nat} {hp hp':aS Cell} {f:gm} {l:List aA} {own:Nat→Prop} (h:pf s k hp f l own) {own':Nat→Prop} (bb:∀ q,q∈eN hp→own q→own' q) (bj:∀ q,own q→pat hp' q=pat hp q):pf s k hp' f l own':=by
 rcases h with⟨rfl,q,rfl,h⟩ | ⟨rfl,m,rfl,h⟩ | ⟨ay,q,rfl,h⟩
 ·obtain⟨m,em,J,ad,aC,aU,a1,jU⟩:=h.ok
  refine .inl ⟨rfl,q,rfl,⟨m,em,by rw [GU (bj q aC)]; exact J,by rw [Tm (bj m aU)]; exact ad,bb q (kS (tn J)) aC,bb m (kS (qO ad)) aU,a1,jU⟩⟩
 ·obtain⟨em,J,ad,aC,aU,a1,jU⟩:=h.ok
  have key:∀ cQ r,dM em cQ=some r→ ∃ t g,r=some t∧iH hp t g∧iH hp' t g∧ (∀ q,Own hp t q→own q)∧ (∀ q,Own hp' t q↔Own hp t q)∧ ∀ aW n,g aW=some n↔ ∃ i∈l,ga (eO i.bA)=cQ∧jl i.bA=aW∧i.cd=n:=fun cQ r aR=>by
   obtain⟨t,g,rfl,aq,bd,bN⟩:=aC cQ r aR
   obtain⟨dq,k9⟩:=aq.congr fun q hq=>bj q (bd q hq)
   exact⟨t,g,rfl,aq,dq,bd,k9,bN⟩
  refine .inr (.inl ⟨rfl,m,rfl,⟨em,by rw [DH (bj m ad)]; exact J,bb m (kS (mc J)) ad,fun cQ r aR=> ?_,aU,fun cQ jG t fp bL wS c6 q hq=> ?_,jU⟩⟩)
  ·obtain⟨t,g,rfl,g0,aq,bd,bN,dq⟩:=key cQ r aR
   exact⟨t,g,rfl,aq,fun q hq=>bb q (g0.vt ((bN q).1 hq)) (bd q ((bN q).1 hq)),dq⟩
  ·obtain⟨_,g,e,g0,aq,bd,bN,dq⟩:=key cQ _ bL
   obtain⟨_,eF,e',acQ,abw,abx,aby,acR⟩:=key jG _ wS
   cases e; cases e'
   rw [aby]
   exact a1 cQ jG t fp bL wS c6 q ((bN q).1 hq)
 ·obtain⟨key,cap,J,ad⟩:=h.ok
  exact .inr (.inr ⟨ay,q,rfl,⟨key,cap,by rw [Tn (bj q ad)]; exact J,bb q (kS (tr J)) ad⟩⟩)
theorem Ej {e:bu} (ao:e.bZ.length≤4):s7 e=some (eO e):=by
 refine bt.get ?_
 unfold s7
 refine .eq (a:=e.bZ) (by unfold vl; rw [if_pos ⟨by omega,by omega,by omega⟩,Int.toNat_zero,List.drop_zero,Nat.sub_zero,List.take_of_length_le (by omega)]) ?_
 refine bt.loop e.bZ.length (fun i st=>st.1=(i:Int)∧ ∀ j,j < 4→bD st.2 j=if j < i then(aE e.bZ j).cI else default) (by omega) ⟨rfl,fun j aH=>by rw [DA]; rfl⟩ (fun i st au hs=> ?_) (fun st hs=> ?_)
 ·obtain⟨j,v⟩:=st
  obtain⟨av,aX⟩:=hs
  simp only at av aX; subst av
  refine .cond (fun _=> ?_) (fun ak=>by simp at ak; omega)
  refine .idx rfl au (.idx rfl (by omega) (.ret ⟨gb (by omega),fun j aH=> ?_⟩))
  rw [qG _ _ (by omega)]
  by_cases g5:j=i
  ·rw [if_pos g5,if_pos (by omega),g5]
  ·rw [if_neg g5,aX j aH]
   by_cases h:j < i
   ·rw [if_pos h,if_pos (by omega)]
   ·rw [if_neg h,if_neg (by omega)]
 ·obtain⟨j,v⟩:=st
  obtain⟨av,aX⟩:=hs
  simp only at av aX; subst av
  refine⟨_,by simp; rfl,.ret ?_⟩
  exact DZ fun j aH=>by rw [aX j aH,lK aH]
theorem jf.Fe {s:a3} (h:dk s) {k:Nat} (ay:k < 4) {e:bu} (he:jf s k e):e.bZ.length≤4∧1≤e.bZ.length:=by
 have:=(h.kl ay).2.1
 rw [he.len]; omega
theorem U5 {a c:List bV} (ao:a.length≤1000):zj a c=some (decide (a=c)):=by
 refine bt.get ?_
 unfold zj
 refine .cond (fun h=> .ret ?_) fun h=> ?_
 ·have:a≠c:=fun e=>by rw [e] at h; simp at h
  simp [this]
 have FF:c.length=a.length:=by
  have:(a.length:Int)=c.length:=by simpa using h
  omega
 refine bt.loop a.length (fun i st=>st=(i:Int)∧ ∀ j,j < i→aE a j=aE c j) (by omega) ⟨rfl,fun j aH=>by omega⟩ (fun i st au hs=> ?_) (fun st hs=> ?_)
 ·obtain⟨rfl,hs⟩:=hs
  refine .cond (fun _=> ?_) (fun ak=>by simp at ak; omega)
  refine .idx rfl au (.idx rfl (by omega) (.cond (fun c6=> .ret ?_) fun he=> .ret ⟨gb (by omega),fun j aH=> ?_⟩))
  ·simp only [Sum.elim_inr]
   refine .ret ?_
   have:a≠c:=fun e=>by rw [e] at c6; simp at c6
   simp [this]
  ·by_cases g5:j=i
   ·subst g5; simpa using he
   ·exact hs j (by omega)
 ·obtain⟨rfl,hs⟩:=hs
  refine⟨_,by simp; rfl,?_⟩
  simp only [Sum.elim_inl]
  refine .ret ?_
  have:a=c:=List.ext_getElem FF.symm fun j J ad=>by
   have:=hs j J
   rwa [ew _ J,ew _ ad] at this
  simp [this]
theorem TM {a c:bu} (ao:a.bZ.length≤1000):zX a c=some (iO a c):=by
 refine bt.get ?_
 unfold zX iO
 refine .cy (P:=fun r=>r=decide (a.bZ=c.bZ)) (fun _=>⟨_,U5 ao,rfl⟩) fun y a5=> .ret ?_
 by_cases h:a.dW=c.dW
 ·rw [a5 (by simpa using h)]
  rw [Bool.eq_iff_iff]
  simp [h]
 ·simp [h]
theorem Yz {s:a3} (h:dk s) {hp:aS Cell} {q:Nat} {l:List aA} {own:Nat→Prop} (hq:vv s hp q l own) (ao:gy s 0 l) {e:bu} (he:jf s 0 e):zM hp ⟨some q⟩ e=some (nB (g6 l e)):=by
 obtain⟨m,em,J,ad,_,_,a1,_⟩:=hq.ok
 refine bt.get ?_
 unfold zM s4
 refine .eq (Ej (he.Fe h (by decide)).1) ?_
 have hm:dM em (eO e)=(g6 l e).map (·.cd):=by
  cases ba:g6 l e with
  | none=>
    cases bs:dM em (eO e) with
    | none=>rfl
    | some n=>
      obtain⟨i,au,bk,_⟩:=(a1 _ _).1 bs
      have:=u6 ba i au
      rw [(CC h (ao.ok.ok i au).e9 he).2 bk] at this; cases this
  | some i=>
    obtain⟨au,ay⟩:=xP ba
    exact(a1 _ _).2 ⟨i,au,(CC h (ao.ok.ok i au).e9 he).1 ay,rfl⟩
 refine .eq (a:=nB (g6 l e)) ?_ (.ret rfl)
 show(mI hp q).bind _=_
 rw [J]
 show(lQ hp m).bind _=_
 rw [ad]
 show some ((dM em (eO e)).getD default,(dM em (eO e)).isSome)=_
 rw [hm]
 cases g6 l e <;> rfl
theorem HN {s:a3} (h:dk s) {e:bu} (he:jf s 1 e) (m:gf):uD ⟨0,32,m⟩ e=some (ga (eO e),(aE e.bZ 0).cI,(aE e.bZ 0).ez):=by
 have ao:=he.Fe h (by decide)
 refine bt.get ?_
 unfold uD w8
 refine .eq (Ej ao.1) (.eq (a:=(ga (eO e),bD (eO e) 0)) rfl (.cond (fun ak=>by have ak:(0:Int)≥ (e.bZ.length:Int):=of_decide_eq_true ak; omega) fun _=> .idx (k:=0) rfl (by omega) (.ret ?_)))
 rw [lK (by decide),if_pos (by omega)]
theorem Hp {m:bV} (h:nY 2 32 m):∀ j,j < 128→ch m.cI j=true→lead 32 m.ez j=true:=fun j aH a0=>
 (x7 h.pre.1 h.pre.2).2 (h.J8 rfl j aH a0)
theorem YA {s:a3} (h:dk s) {hp:aS Cell} {m:Nat} {l:List aA} {own:Nat→Prop} (hq:me s hp m l own) (ao:gy s 1 l) {e:bu} (he:jf s 1 e):zv hp ⟨0,32,⟨some m⟩⟩ e=some (nB (g6 l e)):=by
 obtain⟨em,J,_,aC,aU,_⟩:=hq.ok
 have gI:=tX h he
 refine bt.get ?_
 unfold zv
 refine .eq (HN h he _) (.eq rfl (.eq J (.eq rfl ?_)))
 obtain⟨n,aO⟩:=Int.eq_ofNat_of_zero_le gI.pre.1
 have BN:n≤32:=by have:=gI.pre.2; omega
 have tH:=Hp gI
 refine .eq (a:=nB (g6 l e)) ?_ (.ret rfl)
 simp only
 cases aR:dM em (ga (eO e)) with
 | none=>
   have ba:g6 l e=none:=by
    cases ba:g6 l e with
    | none=>rfl
    | some i=>
      obtain⟨au,ay⟩:=xP ba
      exact absurd ((yX h (ao.ok.ok i au).e9 he).1 ay).1 (aU _ aR i au)
   rw [ba]; rfl
 | some r=>
   obtain⟨t,g,rfl,aq,_,bN⟩:=aC _ _ aR
   have bs:g (jl e)=(g6 l e).map (·.cd):=by
    cases ba:g6 l e with
    | none=>
      cases Kf:g (jl e) with
      | none=>rfl
      | some n=>
        obtain⟨i,au,bk,cT,_⟩:=(bN _ _).1 Kf
        have:=u6 ba i au
        rw [(yX h (ao.ok.ok i au).e9 he).2 ⟨bk,cT⟩] at this; cases this
    | some i=>
      obtain⟨au,ay⟩:=xP ba
      obtain⟨bk,cT⟩:=(yX h (ao.ok.ok i au).e9 he).1 ay
      exact(bN _ _).2 ⟨i,au,bk,cT,rfl⟩
   rw [aO] at tH ⊢
   show uJ hp (some t) _ (n:Int)=_
   rw [N4 aq BN tH]
   have hp':dm (aE e.bZ 0).cI n=jl e:=by unfold jl; rw [aO]; rfl
   rw [hp',bs]
   cases g6 l e <;> rfl
theorem YB {s:a3} (h:dk s) {k:Nat} (ay:k < 4) {hp:aS Cell} {q:Nat} {l:List aA} {own:Nat→Prop} (hq:vw s k hp q l own) (ao:gy s k l) {e:bu} (he:jf s k e):zO hp ⟨some q⟩ e=some (nB (g6 l e)):=by
 obtain⟨key,cap,J,_⟩:=hq.ok
 refine bt.get ?_
 unfold zO
 refine .eq rfl (.eq J (.eq (WC h ay ao.ok) ?_))
 obtain⟨iE,gx⟩:=ao.ok.eR
 have ba:g6 l e=(eR (e3 s k) l).find? fun i=>iO i.bA e:=by
  cases ba:g6 l e with
  | none=>
    symm
    rw [List.find?_eq_none]
    intro x an
    rw [u6 ba x (oC.1 an)]; simp
  | some i=>
    obtain⟨au,ps⟩:=xP ba
    exact(Eg (rV s k) ao.ok.wR au ps fun d hd abz=> .inl (ao.uniq hd au (ML abz (by rw [AQ]; exact ps)))).symm
 rw [ba]
 refine bt.loop (eR (e3 s k) l).length (fun i st=>st=(i:Int)∧ ∀ j,j < i→iO (aE (eR (e3 s k) l) j).bA e=false) (by omega) ⟨rfl,fun j aH=>by omega⟩ (fun i st au hs=> ?_) (fun st hs=> ?_)
 ·obtain⟨rfl,hs⟩:=hs
  refine .cond (fun _=> ?_) (fun ak=>by simp at ak; omega)
  have hm:=iE (aE (eR (e3 s k) l) i) (by rw [ew _ au]; exact List.getElem_mem _)
  refine .idx rfl au (.eq (TM (hm.small h ay).1) (.cond (fun ak=> .ret ?_) fun ak=> .ret ⟨gb (by omega),fun j aH=> ?_⟩))
  ·simp only [Sum.elim_inr]
   refine .ret ?_
   rw [Nf (p:=fun i=>iO i.bA e) au ak hs]; rfl
  ·by_cases g5:j=i
   ·subst g5; exact ak
   ·exact hs j (by omega)
 ·obtain⟨rfl,hs⟩:=hs
  refine⟨_,by simp; rfl,?_⟩
  simp only [Sum.elim_inl]
  refine .ret ?_
  rw [Ng fun c ak=> ?_]
  ·rfl
  ·obtain⟨j,aH,rfl⟩:=List.mem_iff_getElem.1 ak
   rw [← ew _ aH]; exact hs j aH
theorem Ph {s:a3} (h:dk s) {k:Nat} (ay:k < 4) {hp:aS Cell} {f:gm} {l:List aA} {own:Nat→Prop} (hq:pf s k hp f l own) (ao:gy s k l) {e:bu} (he:jf s k e):Df hp f e=some (nB (g6 l e)):=by
 rcases hq with⟨rfl,q,rfl,hq⟩ | ⟨rfl,m,rfl,hq⟩ | ⟨cX,q,rfl,hq⟩
 ·exact Yz h hq ao he
 ·exact YA h hq ao he
 ·exact YB h ay hq ao he
def jm (s:a3) (k:Nat) (l:List aA) (p:Vector ar 4):Option aA:=(eR (e3 s k) l).find? fun c=>mt s k p c.bA
theorem HO {s:a3} {k:Nat} {l:List aA} {p:Vector ar 4} {i:aA} (h:jm s k l p=some i):i∈l:=by
 unfold jm at h
 exact oC.1 (List.mem_of_find?_eq_some h)
theorem YC {s:a3} (h:dk s) {k:Nat} (ay:k < 4) (p:Vector ar 4) (e:bu):mt s k (kO (hv s k) p) e=mt s k p e:=by
 unfold mt
 rw [Bool.eq_iff_iff,List.all_eq_true,List.all_eq_true]
 have ao:=(h.kl ay).2.1
 have key:∀ i∈List.range (aE s.b7 k).cl.length,bD (kO (hv s k) p) i=bD p i:=fun i au=>by
  have:=List.mem_range.1 au
  rw [m9 (by omega),if_pos (show i < hv s k from this)]
 exact⟨fun J i au=>by have:=J i au; rwa [key i au] at this,fun J i au=>by rw [key i au]; exact J i au⟩
theorem YD {s:a3} (h:dk s) {hp:aS Cell} {q:Nat} {l:List aA} {own:Nat→Prop} (hq:vv s hp q l own) (ao:gy s 0 l) (p:Vector ar 4):zq hp ⟨some q⟩ (kO (hv s 0) p)=some (nB (jm s 0 l p)):=by
 obtain⟨m,em,J,ad,_,_,a1,_⟩:=hq.ok
 have hb:=Yy h ao.ok p (o:=dM em (kO (hv s 0) p)) fun n=>a1 _ n
 refine bt.get ?_
 unfold zq s4
 refine .eq (a:=nB (jm s 0 l p)) ?_ (.ret rfl)
 show(mI hp q).bind _=_
 rw [J]
 show(lQ hp m).bind _=_
 rw [ad]
 show some ((dM em (kO (hv s 0) p)).getD default,(dM em (kO (hv s 0) p)).isSome)=_
 cases bs:dM em (kO (hv s 0) p) with
 | none=>
   have hb:jm s 0 l p=none:=hb.2 bs
   rw [hb]; rfl
 | some n=>
   obtain⟨i,_,av,aX⟩:=hb.1 n bs
   have aX:jm s 0 l p=some i:=aX
   rw [aX,Ns av]; rfl
theorem Pj {g:List Bool→Option Int} (h:∀ aW,g aW=none) (v:ar):∀ m,js g v m=none
 | 0=>by unfold js; rw [h]; rfl
 | m + 1=>by unfold js; rw [h]; exact Pj h v m
theorem YE {s:a3} (h:dk s) {hp:aS Cell} {m:Nat} {l:List aA} {own:Nat→Prop} (hq:me s hp m l own) (ao:gy s 1 l) (p:Vector ar 4):zl hp ⟨0,32,⟨some m⟩⟩ (kO (hv s 1) p)=some (nB (jm s 1 l p)):=by
 obtain⟨em,J,_,aC,aU,_⟩:=hq.ok
 have aO:1≤hv s 1:=(h.kl (show 1 < 4 by decide)).2.1.1
 refine bt.get ?_
 unfold zl w8
 refine .eq (a:=(ga (kO (hv s 1) p),bD p 0)) (by show some (ga (kO (hv s 1) p),bD (kO (hv s 1) p) 0)=_; rw [m9 (by decide),if_pos (by omega)]) (.eq rfl (.eq J (.eq rfl ((HH 32).bind fun aJ aX=> .eq (and_eq _ _) ?_))))
 simp only
 have a0:∀ j,j < 128→ch (tU (bD p 0) aJ) j=(ch (bD p 0) j && decide (j < 32)):=fun j aH=>by
  rw [vg,aX j aH]
  congr 1
  rw [decide_eq_decide]; omega
 cases aR:dM em (ga (kO (hv s 1) p)) with
 | none=>
   have hb:=Pg h ao.ok p a0 (g:=fun _=>none) fun aW n=>⟨fun h=>(by cases h),fun⟨i,au,bk,_⟩=>absurd bk (aU _ aR i au)⟩
   rw [Pj (fun _=>rfl)] at hb
   have hb:jm s 1 l p=none:=hb
   rw [hb]
   exact .eq rfl (.ret rfl)
 | some r=>
   obtain⟨t,g,rfl,aq,_,bN⟩:=aC _ _ aR
   have hb:=Pg h ao.ok p a0 bN
   have hs:Small (tU (bD p 0) aJ):=fun j aH hb=>by
    rw [a0 j aH,Bool.and_eq_true,decide_eq_true_eq] at hb
    exact hb.2
   refine .eq (TL aq hs) (.ret ?_)
   cases QD:js g (tU (bD p 0) aJ) 32 with
   | none=>
     rw [QD] at hb
     have hb:jm s 1 l p=none:=hb
     rw [hb]; rfl
   | some r=>
     rw [QD] at hb
     obtain⟨i,_,av,c4⟩:=hb
     have c4:jm s 1 l p=some i:=c4
     rw [c4,Ns av]; rfl
theorem YF {s:a3} (h:dk s) {k:Nat} (ay:k < 4) {hp:aS Cell} {q:Nat} {l:List aA} {own:Nat→Prop} (hq:vw s k hp q l own) (ao:gy s k l) (p:Vector ar 4):zw hp ⟨some q⟩ (kO (hv s k) p)=some (nB (jm s k l p)):=by
 obtain⟨key,cap,J,_⟩:=hq.ok
 refine bt.get ?_
 unfold zw
 refine .eq rfl (.eq J (.eq (TJ h ay ao.ok _) (.ret ?_)))
 have:((eR (e3 s k) l).find? fun c=>mt s k (kO (hv s k) p) c.bA)=jm s k l p:=by
  unfold jm; congr 1; funext c; exact YC h ay p c.bA
 rw [this]
 cases jm s k l p <;> rfl
theorem YG {s:a3} (h:dk s) {k:Nat} (ay:k < 4) {hp:aS Cell} {f:gm} {l:List aA} {own:Nat→Prop} (hq:pf s k hp f l own) (ao:gy s k l) (p:Vector ar 4):Gl hp f (kO (hv s k) p)=some (nB (jm s k l p)):=by
 rcases hq with⟨rfl,q,rfl,hq⟩ | ⟨rfl,m,rfl,hq⟩ | ⟨cX,q,rfl,hq⟩
 ·exact YD h hq ao p
 ·exact YE h hq ao p
 ·exact YF h ay hq ao p
def lR (own:Nat→Prop) (hp hp':aS Cell) (q:Nat):Prop:=own q∨ (q ∉ eN hp∧q∈eN hp')
theorem MO {hp:aS Cell} {p:Nat} {k:Cell} {x:List (Vector ar 4 × Int)} (h:pat hp p=some k):lQ (df hp p (.n0 x)) p=some x:=by unfold lQ; rw [vq h]
theorem MP {hp:aS Cell} {p:Nat} {k:Cell} {x:List (Vector ar 4 × Ref)} (h:pat hp p=some k):jv (df hp p (.lS x)) p=some x:=by unfold jv; rw [vq h]
theorem aaa {s:a3} (h:dk s) {hp:aS Cell} {q:Nat} {l:List aA} {own:Nat→Prop} (hq:vv s hp q l own) (ao:gy s 0 l) {i:aA} (au:lF s 0 i) (ba:g6 l i.bA=none):
 bt (zP hp ⟨some q⟩ i) (fun hp'=>vv s hp' q (l ++ [i]) (lR own hp hp')∧eL hp hp' own):=by
 obtain⟨m,em,J,ad,aC,aU,a1,jU⟩:=hq.ok
 have e8:dM em (eO i.bA)=none:=by
  cases bs:dM em (eO i.bA) with
  | none=>rfl
  | some n=>
    obtain⟨c,ak,bk,_⟩:=(a1 _ _).1 bs
    have:=u6 ba c ak
    rw [(CC h (ao.ok.ok c ak).e9 au.e9).2 bk] at this; cases this
 unfold zP Dt
 refine .eq (Ej (au.e9.Fe h (by decide)).1) ?_
 refine .eq (a:=(true,df hp m (Cell.n0 (gO em (eO i.bA) i.cd)))) ?_ (.ret ?_)
 ·show(mI hp q).bind _=_
  rw [J]
  show(lQ hp m).bind _=_
  rw [ad]
  show cond (dM em (eO i.bA)).isSome _ _=_
  rw [e8]; rfl
 have CD:q≠m:=fun e=>by
  subst e
  have:=tn J
  rw [qO ad] at this; cases this
 refine⟨⟨m,_,by rw [GU (nH CD.symm)]; exact J,MO (qO ad),.inl aC,.inl aU,fun cQ n=> ?_,jU.put⟩,.up aU⟩
 rw [Au]
 by_cases gS:cQ=eO i.bA
 ·rw [if_pos gS]
  constructor
  ·intro e
   cases e
   exact⟨i,by simp,gS.symm,rfl⟩
  ·rintro ⟨c,ak,bk,cT⟩
   rcases List.mem_append.1 ak with ak | ak
   ·have:=(a1 _ _).2 ⟨c,ak,bk,cT⟩
    rw [gS,e8] at this; cases this
   ·rw [List.mem_singleton.1 ak] at cT; rw [cT]
 ·rw [if_neg gS,a1]
  constructor
  ·rintro ⟨c,ak,bk⟩; exact⟨c,by simp [ak],bk⟩
  ·rintro ⟨c,ak,bk,cT⟩
   rcases List.mem_append.1 ak with ak | ak
   ·exact⟨c,ak,bk,cT⟩
   ·rw [List.mem_singleton.1 ak] at bk; exact absurd bk.symm gS
theorem aab {s:a3} (h:dk s) {hp:aS Cell} {m:Nat} {l:List aA} {own:Nat→Prop} (hq:me s hp m l own) (eu:∀ q,own q→q∈eN hp) (ao:gy s 1 l) {i:aA} (au:lF s 1 i) (ba:g6 l i.bA=none)
 {em:List (Vector ar 4 × Ref)} (l2:jv hp m=some em) {t:Nat} (bL:dM em (ga (eO i.bA))=some (some t)):
 dH (xz hp (some t) (aE i.bA.bZ 0).cI (aE i.bA.bZ 0).ez i.cd) (fun r=>me s r.2 m (l ++ [i]) (lR own hp r.2)∧eL hp r.2 own):=by
 obtain⟨abA,J,ad,aC,aU,a1,jU⟩:=hq.ok
 rw [l2] at J; cases J
 have gI:=tX h au.e9
 obtain⟨fp,g,e,aq,bd,bN⟩:=aC _ _ bL
 cases e
 obtain⟨n,aO⟩:=Int.eq_ofNat_of_zero_le gI.pre.1
 have BN:n≤32:=by have:=gI.pre.2; omega
 have tH:=Hp gI
 have hp':dm (aE i.bA.bZ 0).cI n=jl i.bA:=by unfold jl; rw [aO]; rfl
 have e8:g (jl i.bA)=none:=by
  cases Kf:g (jl i.bA) with
  | none=>rfl
  | some n=>
    obtain⟨c,ak,bk,cT,_⟩:=(bN _ _).1 Kf
    have:=u6 ba c ak
    rw [(yX h (ao.ok.ok c ak).e9 au.e9).2 ⟨bk,cT⟩] at this; cases this
 rw [aO] at tH ⊢
 refine(Yx aq BN tH i.cd (by rw [hp']; exact e8)).mono fun r aR=> ?_
 obtain⟨_,iE,gx,oe⟩:=aR
 rw [hp'] at iE
 have yW:∀ q,Own hp t q→q≠m:=fun q Kg e=>by
  have:=mc l2
  rw [← e] at this
  rcases aq.Et Kg with⟨c,ak⟩ | ⟨c,ak⟩ <;> rw [ak] at this <;> cases this
 have lZ:pat r.2 m=pat hp m:=gx.rest m (kS (mc l2)) fun hq=>yW m hq rfl
 have qR:∀ cQ fp,cQ≠ga (eO i.bA)→dM em cQ=some (some fp)→ ∃ eF,iH hp fp eF∧iH r.2 fp eF∧ (∀ q,Own hp fp q→own q)∧ (∀ q,Own r.2 fp q↔Own hp fp q)∧ ∀ aW n,eF aW=some n↔ ∃ i∈l,ga (eO i.bA)=cQ∧jl i.bA=aW∧i.cd=n:=fun cQ fp c6 aR=>by
  obtain⟨abB,eF,e,c2,dc,gJ⟩:=aC cQ _ aR
  cases e
  obtain⟨dJ,ev⟩:=c2.congr (hp':=r.2) fun q hq=>gx.rest q (c2.vt hq) fun iA=>a1 _ _ _ _ bL aR c6.symm q iA hq
  exact⟨eF,c2,dJ,dc,ev,gJ⟩
 have BL:∀ q,Own r.2 t q→lR own hp r.2 q:=fun q hq=>by
  rcases oe q hq with bk | bk
  ·exact .inl (bd q bk)
  ·exact .inr ⟨bk,iE.vt hq⟩
 refine⟨⟨em,by rw [DH lZ]; exact l2,.inl ad,fun cQ j1 iL=> ?_,fun cQ gS c ak=> ?_,fun cQ jG t1 t2 iX jW c6 q jk n7=> ?_,jU⟩,⟨gx.keys,fun q hq e8=>gx.rest q hq fun iA=>e8 (bd q iA)⟩⟩
 ·by_cases gS:cQ=ga (eO i.bA)
  ·subst gS
   rw [bL] at iL; cases iL
   refine⟨t,_,rfl,iE,BL,fun aW sQ=> ?_⟩
   by_cases kI:aW=jl i.bA
   ·simp only [if_pos kI]
    constructor
    ·intro e; cases e
     exact⟨i,by simp,rfl,kI.symm,rfl⟩
    ·rintro ⟨c,ak,bk,cT,fa⟩
     rcases List.mem_append.1 ak with ak | ak
     ·have:=(bN _ _).2 ⟨c,ak,bk,cT,fa⟩
      rw [kI,e8] at this; cases this
     ·rw [List.mem_singleton.1 ak] at fa; rw [fa]
   ·simp only [if_neg kI]
    rw [bN]
    constructor
    ·rintro ⟨c,ak,bk⟩; exact⟨c,by simp [ak],bk⟩
    ·rintro ⟨c,ak,bk,cT,fa⟩
     rcases List.mem_append.1 ak with ak | ak
     ·exact⟨c,ak,bk,cT,fa⟩
     ·rw [List.mem_singleton.1 ak] at cT; exact absurd cT.symm kI
  ·obtain⟨fp,eF,e,_⟩:=aC cQ j1 iL
   subst e
   obtain⟨wT,c2,dc,gJ,jH,pC⟩:=qR cQ fp gS iL
   refine⟨fp,wT,rfl,dc,fun q hq=> .inl (gJ q ((jH q).1 hq)),fun aW sQ=> ?_⟩
   rw [pC]
   constructor
   ·rintro ⟨c,ak,bk⟩; exact⟨c,by simp [ak],bk⟩
   ·rintro ⟨c,ak,bk,cT⟩
    rcases List.mem_append.1 ak with ak | ak
    ·exact⟨c,ak,bk,cT⟩
    ·rw [List.mem_singleton.1 ak] at bk; exact absurd bk.symm gS
 ·rcases List.mem_append.1 ak with ak | ak
  ·exact aU cQ gS c ak
  ·rw [List.mem_singleton.1 ak]
   intro e
   rw [← e,bL] at gS; cases gS
 ·
  have N5:∀ cQ fp,cQ≠ga (eO i.bA)→dM em cQ=some (some fp)→ ∀ q,Own r.2 t q→ ¬ Own r.2 fp q:=fun cQ fp c6 aR q hq iA=>by
   obtain⟨wT,c2,dc,gJ,jH,pC⟩:=qR cQ fp c6 aR
   have iA:=(jH q).1 iA
   rcases oe q hq with bk | bk
   ·exact a1 _ _ _ _ bL aR c6.symm q bk iA
   ·exact bk (c2.vt iA)
  by_cases av:cQ=ga (eO i.bA)
  ·subst av
   rw [bL] at iX; cases iX
   exact N5 jG t2 c6.symm jW q jk n7
  ·by_cases aX:jG=ga (eO i.bA)
   ·subst aX
    rw [bL] at jW; cases jW
    exact N5 cQ t1 av iX q n7 jk
   ·obtain⟨_,_,_,_,jH,_⟩:=qR cQ t1 av iX
    obtain⟨_,_,_,_,F7,_⟩:=qR jG t2 aX jW
    exact a1 _ _ _ _ iX jW c6 q ((jH q).1 jk) ((F7 q).1 n7)
theorem SM {own:Nat→Prop} {bI J ad:aS Cell} {q:Nat} (ay:∀ q,q∈eN bI→q∈eN J) (cX:∀ q,q∈eN J→q∈eN ad) (h:lR (lR own bI J) J ad q):lR own bI ad q:=by
 rcases h with(h | ⟨h,c0⟩) | ⟨h,c0⟩
 ·exact .inl h
 ·exact .inr ⟨h,cX q c0⟩
 ·exact .inr ⟨fun aC=>h (ay q aC),c0⟩
theorem me.mono {s:a3} {hp:aS Cell} {m:Nat} {l:List aA} {own own':Nat→Prop} (h:me s hp m l own) (bb:∀ q,own q→own' q):me s hp m l own':=by
 obtain⟨em,J,ad,aC,aU,a1,jU⟩:=h.ok
 exact⟨em,J,bb m ad,fun cQ r aR=>by obtain⟨t,g,e,a,b,c⟩:=aC cQ r aR; exact⟨t,g,e,a,fun q hq=>bb q (b q hq),c⟩,aU,a1,jU⟩
theorem eL.grow {bI J ad:aS Cell} {own:Nat→Prop} (a:eL bI J own) (b:eL J ad (lR own bI J)):eL bI ad own:=
 a.trans b fun q hq h=>h.elim (fun h=>h) fun h=>absurd hq h.1
theorem aac {s:a3} {hp:aS Cell} {m:Nat} {l:List aA} {own:Nat→Prop} (hq:me s hp m l own)
 {em:List (Vector ar 4 × Ref)} (l2:jv hp m=some em) {cQ:Vector ar 4} (e8:dM em cQ=none) {a:Nat} (bj:a ∉ eN hp) {z:fv} (db:z.fw=32) (aR:z.cB=none):
 me s (df ((a,Cell.jy z) :: hp) m (.lS (gO em cQ (some a)))) m l (lR own hp (df ((a,Cell.jy z) :: hp) m (.lS (gO em cQ (some a)))))∧eL hp (df ((a,Cell.jy z) :: hp) m (.lS (gO em cQ (some a)))) own∧
  jv (df ((a,Cell.jy z) :: hp) m (.lS (gO em cQ (some a)))) m=some (gO em cQ (some a)):=by
 obtain⟨abA,J,ad,aC,aU,a1,jU⟩:=hq.ok
 rw [l2] at J; cases J
 have lZ:=mc l2
 have QE:=Aw bj lZ
 have ck:pat ((a,Cell.jy z) :: hp) m=some (.lS em):=by rw [tf,if_neg QE]; exact lZ
 generalize de:df ((a,Cell.jy z) :: hp) m (.lS (gO em cQ (some a)))=cS
 have aq:jv cS m=some (gO em cQ (some a)):=by rw [← de]; exact MP ck
 have bd:pat cS a=some (.jy z):=by rw [← de,nH QE.symm,tf,if_pos rfl]
 have bN:∀ q,q≠m→q≠a→pat cS q=pat hp q:=fun q CD mz=>by rw [← de,nH CD.symm,tf,if_neg mz.symm]
 have ay:eL hp cS own:=by
  rw [← de]
  exact(eL.mk' (own:=own) bj).trans (eL.up ad) fun q _ h=>h
 have QF:fB cS a=some z:=rE.2 bd
 have YH:iH cS a (fun _=>none):=⟨z,QF,db,by rw [aR]; exact⟨fun aW p h=>(by rw [gn] at h; cases h),fun aW cs p h _=>(by rw [gn] at h; cases h),fun aW p h=>(by rw [gn] at h; cases h)⟩,fun aW=>by rw [aR]; exact j4 gn⟩
 have IT:∀ q,Own cS a q→q=a:=fun q px=>by
  rcases px with h | ⟨c,aW,bk,cT⟩
  ·exact h
  ·rw [QF] at bk; cases bk
   rw [aR,gn] at cT; cases cT
 have hold:∀ t g,iH hp t g→iH cS t g∧ ∀ q,Own cS t q↔Own hp t q:=fun t g bL=>bL.congr fun q px=>by
  refine bN q (fun e=> ?_) fun e=>bj (by rw [← e]; exact bL.vt px)
  rw [← e] at lZ
  rcases bL.Et px with⟨c,ak⟩ | ⟨c,ak⟩ <;> rw [ak] at lZ <;> cases lZ
 refine⟨⟨_,aq,.inl ad,fun jG r iL=> ?_,fun jG iL=> ?_,fun Kh FP t1 t2 iX jW c6 q jk n7=> ?_,jU.put⟩,ay,aq⟩
 ·rw [Au] at iL
  by_cases e:jG=cQ
  ·rw [if_pos e] at iL; cases iL
   exact⟨a,_,rfl,YH,fun q px=>by rw [IT q px]; exact .inr ⟨bj,kS bd⟩,fun aW n=>⟨fun h=>(by cases h),fun⟨i,au,bk,_⟩=>absurd (bk.trans e) (aU cQ e8 i au)⟩⟩
  ·rw [if_neg e] at iL
   obtain⟨t,g,rfl,c2,dc,gJ⟩:=aC jG r iL
   obtain⟨dJ,ev⟩:=hold t g c2
   exact⟨t,g,rfl,dJ,fun q px=> .inl (dc q ((ev q).1 px)),gJ⟩
 ·rw [Au] at iL
  by_cases e:jG=cQ
  ·rw [if_pos e] at iL; cases iL
  ·rw [if_neg e] at iL; exact aU jG iL
 ·rw [Au] at iX jW
  have an:∀ jG fp,dM em jG=some (some fp)→ ∀ q,q=a→ ¬ Own cS fp q:=fun jG fp wS q e px=>by
   obtain⟨t,g,e',c2,_⟩:=aC jG _ wS
   cases e'
   have:=(hold fp g c2).2 q |>.1 px
   exact bj (by rw [← e]; exact c2.vt this)
  by_cases av:Kh=cQ
  ·rw [if_pos av] at iX; cases iX
   by_cases aX:FP=cQ
   ·exact c6 (av.trans aX.symm)
   ·rw [if_neg aX] at jW
    exact an FP t2 jW q (IT q jk) n7
  ·rw [if_neg av] at iX
   by_cases aX:FP=cQ
   ·rw [if_pos aX] at jW; cases jW
    exact an Kh t1 iX q (IT q n7) jk
   ·rw [if_neg aX] at jW
    obtain⟨t,g,e',c2,_⟩:=aC Kh _ iX
    cases e'
    obtain⟨fp,eF,JS,abC,_⟩:=aC FP _ jW
    cases JS
    exact a1 _ _ _ _ iX jW c6 q (((hold _ _ c2).2 q).1 jk) (((hold _ _ abC).2 q).1 n7)
theorem YI {s:a3} (h:dk s) {hp:aS Cell} {m:Nat} {l:List aA} {own:Nat→Prop} (hq:me s hp m l own) (eu:∀ q,own q→q∈eN hp) (ao:gy s 1 l) {i:aA} (au:lF s 1 i) (ba:g6 l i.bA=none):
 dH (zD hp ⟨0,32,⟨some m⟩⟩ i) (fun hp'=>me s hp' m (l ++ [i]) (lR own hp hp')∧eL hp hp' own):=by
 obtain⟨em,l2,ad,aC,aU,a1,_⟩:=hq.ok
 unfold zD
 refine .eq (HN h au.e9 _) (.eq rfl (.eq l2 (.eq rfl ?_)))
 simp only
 refine .bind (P:=fun bp=>me s bp m l (lR own hp bp)∧eL hp bp own∧ ∃ Ki t,jv bp m=some Ki∧dM Ki (ga (eO i.bA))=some (some t)) (.cond (fun ak=> ?_) fun ak=> .ret ?_) fun bp ck=> ?_
 ·have e8:dM em (ga (eO i.bA))=none:=by
   cases bs:dM em (ga (eO i.bA)) with
   | none=>rfl
   | some r=>
     obtain⟨t,_,rfl,_⟩:=aC _ _ bs
     rw [bs] at ak; cases ak
  unfold DI
  refine .bind (P:=fun r=> ∃ a,a ∉ eN hp∧r=((some a:Ref),(a,Cell.jy ({ (default:fv) with fw:=32 })) :: hp)) (.eq rfl (.mk fun a bj=> .ret ⟨a,bj,rfl⟩)) fun bh bk=> ?_
  obtain⟨a,bj,rfl⟩:=bk
  have lv:jv ((a,Cell.jy ({ (default:fv) with fw:=32 })) :: hp) m=some em:=(DH (hp:=hp) (by rw [tf,if_neg (Aw bj (mc l2))])).trans l2
  obtain⟨aq,bd,bN⟩:=aac hq l2 e8 bj (z:= { (default:fv) with fw:=32 }) rfl rfl
  refine .eq lv (.eq rfl (.ret ⟨aq,bd,_,a,bN,by rw [Au,if_pos rfl]⟩))
 ·cases bs:dM em (ga (eO i.bA)) with
  | none=>rw [bs] at ak; cases ak
  | some r=>
    obtain⟨t,_,rfl,_⟩:=aC _ _ bs
    exact⟨hq.mono fun q hq=> .inl hq,.refl,em,t,l2,bs⟩
 ·obtain⟨aq,bd,Ki,t,bN,dq⟩:=ck
  refine .eq bN (.eq rfl ?_)
  simp only [dq]
  refine .bind (aab h aq (fun q hq=>hq.elim (fun hq=>bd.keys q (eu q hq)) fun hq=>hq.2) ao au ba bN dq) fun r aR=> .ret ?_
  exact⟨aR.1.mono fun q hq=>SM bd.keys aR.2.keys hq,bd.grow aR.2⟩
theorem MQ {hp:aS Cell} {p:Nat} {k:Cell} {x:cu} {y:Option Nat} {n:Nat} (h:pat hp p=some k):nV (df hp p (.q0 x y n)) p=some (x,y,n):=by unfold nV; rw [vq h]
theorem YJ {s:a3} (h:dk s) {k:Nat} (ay:k < 4) {hp:aS Cell} {q:Nat} {l:List aA} {own:Nat→Prop} (hq:vw s k hp q l own) (ao:gy s k l) {i:aA} (au:lF s k i) (kM:iJ l i.cd=false) (hlen:l.length < 900):
 dH (zQ hp ⟨some q⟩ i) (fun hp'=>vw s k hp' q (l ++ [i]) (lR own hp hp')∧eL hp hp' own):=by
 obtain⟨key,cap,J,ad⟩:=hq.ok
 unfold zQ
 refine .eq rfl (.eq J (.eq (WB h ay ao.ok au hlen) (.any fun az=> .eq rfl (.ret ?_))))
 rw [kM]
 exact⟨⟨az.1,az.2,MQ (tr J),.inl ad⟩,.up ad⟩
theorem YK {s:a3} (h:dk s) {k:Nat} (ay:k < 4) {hp:aS Cell} {f:gm} {l:List aA} {own:Nat→Prop} (hq:pf s k hp f l own) (eu:∀ q,own q→q∈eN hp) (ao:gy s k l) {i:aA} (au:lF s k i) (ba:g6 l i.bA=none) (kM:iJ l i.cd=false) (hlen:l.length < 900):
 dH (Gy hp f i) (fun hp'=>pf s k hp' f (l ++ [i]) (lR own hp hp')∧eL hp hp' own):=by
 rcases hq with⟨rfl,q,rfl,hq⟩ | ⟨rfl,m,rfl,hq⟩ | ⟨cX,q,rfl,hq⟩
 ·exact dH.of ((aaa h hq ao au ba).mono fun hp' aR=>⟨.inl ⟨rfl,q,rfl,aR.1⟩,aR.2⟩)
 ·exact(YI h hq eu ao au ba).mono fun hp' aR=>⟨.inr (.inl ⟨rfl,m,rfl,aR.1⟩),aR.2⟩
 ·exact(YJ h ay hq ao au kM hlen).mono fun hp' aR=>⟨.inr (.inr ⟨cX,q,rfl,aR.1⟩),aR.2⟩
theorem MR {α β:Type} [DecidableEq α]:∀ {l:List (α × β)} {x:α} {v:β},dM l x=some v→ (x,v)∈l
 | [],_,_,h=>by cases h
 | (k,w) :: r,x,v,h=>by
   unfold dM at h
   split at h
   ·rename_i e; cases h; rw [e]; simp
   ·exact List.mem_cons_of_mem _ (MR h)
theorem Nu {α β:Type} [DecidableEq α]:∀ {l:List (α × β)} {x:α} {v:β},l.Pairwise (fun a c=>a.1≠c.1)→ (x,v)∈l→dM l x=some v
 | [],_,_,_,h=>by cases h
 | (k,w) :: r,x,v,aO,h=>by
   obtain⟨J,ad⟩:=List.pairwise_cons.1 aO
   unfold dM
   rcases List.mem_cons.1 h with h | h
   ·cases h; rw [if_pos rfl]
   ·rw [if_neg (fun e=>J _ h e.symm),Nu ad h]
theorem MS {α β:Type} [DecidableEq α]:∀ {l:List (α × β)} {x:α} {v:β},dM l x=none→gO l x v=l ++ [(x,v)]
 | [],_,_,_=>rfl
 | (k,w) :: r,x,v,h=>by
   unfold dM at h
   split at h
   ·cases h
   ·rename_i e
    show(if x=k then _ else _)=_
    rw [if_neg e,MS h]; rfl
def sj (em:List (Int × aA)) (l:List aA):Prop:=em.Perm (l.map fun i=>(i.cd,i))
theorem sj.get {s:a3} {k:Nat} {em:List (Int × aA)} {l:List aA} (h:sj em l) (ao:iW s k l) (n:Int) (i:aA):dM em n=some i↔i∈l∧i.cd=n:=by
 have hd:em.Pairwise (fun a c=>a.1≠c.1):=by
  refine(h.pairwise_iff fun b3=>Ne.symm b3).2 ?_
  rw [List.pairwise_map]
  exact ao.num.imp fun b3=>b3
 have hm:(n,i)∈em↔i∈l∧i.cd=n:=by
  rw [h.mem_iff,List.mem_map]
  constructor
  ·rintro ⟨c,ak,e⟩
   cases e; exact⟨ak,rfl⟩
  ·rintro ⟨au,rfl⟩
   exact⟨i,au,rfl⟩
 rw [← hm]
 exact⟨MR,Nu hd⟩
theorem sj.no {s:a3} {k:Nat} {em:List (Int × aA)} {l:List aA} (h:sj em l) (ao:iW s k l) (n:Int):(dM em n).isSome=iJ l n:=by
 rw [Bool.eq_iff_iff,Option.isSome_iff_exists]
 unfold iJ
 rw [List.any_eq_true]
 constructor
 ·rintro ⟨i,au⟩
  obtain⟨J,ad⟩:=(h.get ao n i).1 au
  exact⟨i,J,by simpa using ad⟩
 ·rintro ⟨i,au,ad⟩
  exact⟨i,(h.get ao n i).2 ⟨au,by simpa using ad⟩⟩
structure iS (s:a3) (k:Nat) (hp:aS Cell) (p:Nat) (l:List aA) (own:Nat→Prop):Prop where
 kP:gy s k l
 cell:∃ f m em,hz hp p=some ⟨kp k,(hv s k:Int),f,⟨some m⟩⟩∧kW hp m=some em∧own p∧own m∧sj em l∧pf s k hp f l (fun q=>own q∧q≠m∧q≠p)
 uk:∀ q,own q→q∈eN hp
theorem iS.congr {s:a3} {k:Nat} {hp hp':aS Cell} {p:Nat} {l:List aA} {own:Nat→Prop} (h:iS s k hp p l own) (ay:∀ q,q∈eN hp→q∈eN hp') (bj:∀ q,own q→pat hp' q=pat hp q):iS s k hp' p l own:=by
 obtain⟨f,m,em,J,ad,aC,aU,a1,bk⟩:=h.cell
 exact⟨h.kP,⟨f,m,em,by rw [To (bj p aC)]; exact J,by rw [Tp (bj m aU)]; exact ad,aC,aU,a1,bk.congr (fun q _ hq=>hq) fun q hq=>bj q hq.1⟩,fun q hq=>ay q (h.uk q hq)⟩
theorem iS.pg {s:a3} {k:Nat} {hp hp':aS Cell} {p:Nat} {l:List aA} {own own':Nat→Prop} (h:iS s k hp p l own) (ay:eL hp hp' own') (hd:∀ q,own q→ ¬ own' q):iS s k hp' p l own:=
 h.congr ay.keys fun q hq=>ay.rest q (h.uk q hq) (hd q hq)
theorem entry_eq {s:a3} (h:dk s) {k:Nat} (ay:k < 4) {hp:aS Cell} {p:Nat} {l:List aA} {own:Nat→Prop} (an:iS s k hp p l own) {o:Option aA} (bb:∀ i,o=some i→i∈l):xj hp (some p) (nB o).1 (nB o).2=some (yV o):=by
 obtain⟨f,m,em,J,ad,aC,aU,a1,bk⟩:=an.cell
 refine bt.get ?_
 unfold xj
 cases o with
 | none=>exact .cond (fun _=> .ret rfl) fun ak=>by cases ak
 | some i=>
   have au:=bb i rfl
   refine .cond (fun ak=>by cases ak) fun _=> .eq rfl (.eq J (.eq rfl (.eq ad (.eq rfl ?_))))
   have bs:dM em i.cd=some i:=(a1.get an.kP.ok _ _).2 ⟨au,rfl⟩
   show bt (Option.bind (nF ((dM em i.cd).getD default)) _) _
   rw [bs]
   exact .eq (x6 h ay (an.kP.ok.ok i au)) (.ret rfl)
theorem VR {s:a3} (h:dk s) {k:Nat} (ay:k < 4) {hp:aS Cell} {p:Nat} {l:List aA} {own:Nat→Prop} (an:iS s k hp p l own) {e:bu} (he:jf s k e):zR hp (some p) e=some (yV (g6 l e)):=by
 obtain⟨f,m,em,J,ad,aC,aU,a1,bk⟩:=an.cell
 refine bt.get ?_
 unfold zR
 refine .cond (fun ak=>by cases ak) fun _=> .eq rfl (.eq J (.eq (Ph h ay bk an.kP he) (.eq (entry_eq h ay an fun i au=>(xP au).1) (.ret rfl))))
theorem Mn {s:a3} (h:dk s) {k:Nat} (ay:k < 4) {hp:aS Cell} {p:Nat} {l:List aA} {own:Nat→Prop} (an:iS s k hp p l own) (cQ:Vector ar 4):xg hp (some p) cQ=some (yV (jm s k l cQ)):=by
 obtain⟨f,m,em,J,ad,aC,aU,a1,bk⟩:=an.cell
 refine bt.get ?_
 unfold xg
 refine .cond (fun ak=>by cases ak) fun _=> ?_
 refine bt.loop 4 (fun i st=>st.1=(i:Int)∧ ∀ j,j < 4→bD st.2 j=if j < i then(if j < hv s k then bD cQ j else default) else bD cQ j) (by decide) ⟨rfl,fun j aH=>rfl⟩ (fun i st au hs=> ?_) (fun st hs=> ?_)
 ·obtain⟨j,v⟩:=st
  obtain⟨av,aX⟩:=hs
  simp only at av aX; subst av
  refine .cond (fun _=> .eq rfl (.eq J ?_)) (fun ak=>by simp at ak; omega)
  refine .bind (P:=fun wZ=> ∀ j,j < 4→bD wZ j=if j < i + 1 then(if j < hv s k then bD cQ j else default) else bD cQ j) (.cond (fun ak=> .idx rfl au (.ret fun j aH=> ?_)) fun ak=> .ret fun j aH=> ?_) fun wZ mW=> .ret ⟨gb (by omega),mW⟩
  ·have ak:hv s k≤i:=by simp at ak; omega
   rw [qG _ _ au]
   by_cases g5:j=i
   ·rw [if_pos g5,if_pos (show j < i + 1 by omega),if_neg (show ¬ j < hv s k by omega)]
   ·rw [if_neg g5,aX j aH]
    by_cases b5:j < i
    ·rw [if_pos b5,if_pos (show j < i + 1 by omega)]
    ·rw [if_neg b5,if_neg (show ¬ j < i + 1 by omega)]
  ·have ak:i < hv s k:=by simp at ak; omega
   rw [aX j aH]
   by_cases g5:j=i
   ·rw [if_neg (show ¬ j < i by omega),if_pos (show j < i + 1 by omega),if_pos (show j < hv s k by omega)]
   ·by_cases b5:j < i
    ·rw [if_pos b5,if_pos (show j < i + 1 by omega)]
    ·rw [if_neg b5,if_neg (show ¬ j < i + 1 by omega)]
 ·obtain⟨j,v⟩:=st
  obtain⟨av,aX⟩:=hs
  simp only at av aX; subst av
  refine⟨_,by simp; rfl,?_⟩
  have a0:v=kO (hv s k) cQ:=DZ fun j aH=>by rw [aX j aH,if_pos aH,m9 aH]
  subst a0
  exact .eq rfl (.eq J (.eq (YG h ay bk an.kP cQ) (.eq (entry_eq h ay an fun i au=>HO au) (.ret rfl))))
theorem iS.mono {s:a3} {k:Nat} {hp:aS Cell} {p:Nat} {l:List aA} {own own':Nat→Prop} (h:iS s k hp p l own) (bb:∀ q,own q→own' q) (au:∀ q,own' q→q∈eN hp):iS s k hp p l own':=by
 obtain⟨f,m,em,J,ad,aC,aU,a1,bk⟩:=h.cell
 exact⟨h.kP,⟨f,m,em,J,ad,bb p aC,bb m aU,a1,bk.congr (fun q _ hq=>⟨bb q hq.1,hq.2⟩) fun q hq=>rfl⟩,au⟩
theorem gy.nil {s:a3} {k:Nat} :gy s k []:=⟨⟨fun i au=>by(cases au),.nil,by simp⟩,.nil⟩
def FQ:Nat→Prop:=fun _=>False
theorem N6 {s:a3} (h:dk s) {k:Nat} (ay:k < 4) (hp:aS Cell):dH (nG hp s ((k:Int) + 1)) (fun r=> ∃ p,r.1=some p∧iS s k r.2 p [] (lR FQ hp r.2)∧eL hp r.2 FQ):=by
 refine(Bm h ay hp).mono fun r aR=> ?_
 obtain⟨p,e,aR⟩:=aR
 obtain⟨c,m,J,ad,aC,aU,a1,bk,cT,fa,fX,kG,rh,wP⟩:=aR.cell
 obtain⟨acb,aQ,f,ej⟩:=c
 simp only at ad aC aU bk cT fa
 subst ad aC aU
 have hm:=qQ a1
 have hp':=lN J
 refine⟨p,e,⟨gy.nil,⟨f,m,[],J,a1,.inr ⟨fX,kS hp'⟩,.inr ⟨kG,kS hm⟩,List.Perm.refl _,?_⟩,fun q hq=>hq.elim (fun h=>h.elim) fun h=>h.2⟩,⟨rh,fun q hq _=>wP q hq⟩⟩
 have key:∀ q c,pat r.2 q=some c→ (∀ x,c≠ .kb x)→ (∀ x,c≠ .nf x)→q ∉ eN hp→lR FQ hp r.2 q∧q≠m∧q≠p:=fun q c ak oc KJ aO=>
  ⟨.inr ⟨aO,kS ak⟩,fun e=>by rw [e,hm] at ak; cases ak; exact oc _ rfl,fun e=>by rw [e,hp'] at ak; cases ak; exact KJ _ rfl⟩
 have:k=0∨k=1∨2≤k:=by omega
 rcases this with rfl | rfl | cX
 ·obtain⟨q,cP,rfl,aq,bd,bN,dq⟩:=bk rfl
  exact .inl ⟨rfl,q,rfl,⟨cP,[],aq,bd,key q _ (tn aq) (fun _ h=>by cases h) (fun _ h=>by cases h) bN,key cP _ (qO bd) (fun _ h=>by cases h) (fun _ h=>by cases h) dq,fun cQ n=>⟨fun h=>(by cases h),fun⟨i,au,_⟩=>(by cases au)⟩,.nil⟩⟩
 ·obtain⟨ff,rfl,aq,bd⟩:=cT rfl
  exact .inr (.inl ⟨rfl,ff,rfl,⟨[],aq,key ff _ (mc aq) (fun _ h=>by cases h) (fun _ h=>by cases h) bd,fun cQ r h=>(by cases h),fun cQ _ i au=>(by cases au),fun cQ jG t fp h=>(by cases h),.nil⟩⟩)
 ·obtain⟨q,acd,cap,rfl,aq,bd⟩:=fa cX
  exact .inr (.inr ⟨cX,q,rfl,⟨acd,cap,aq,key q _ (tr aq) (fun _ h=>by cases h) (fun _ h=>by cases h) bd⟩⟩)
theorem gy.snoc {s:a3} {k:Nat} {l:List aA} (h:gy s k l) {i:aA} (au:lF s k i) (ba:g6 l i.bA=none) (aO:iJ l i.cd=false) (ao:l.length < 900):gy s k (l ++ [i]) where
 ok:=h.ok.snoc au aO ao
 key:=by
  rw [List.pairwise_append]
  exact⟨h.key,by simp,fun a bj c ak=>by rw [List.mem_singleton.1 ak]; exact u6 ba a bj⟩
theorem U6 {hp:aS Cell} {p:Nat} {k:Cell} {x:List (Int × aA)} (h:pat hp p=some k):kW (df hp p (.kb x)) p=some x:=by unfold kW; rw [vq h]
theorem N7 (o:Option aA):(nB o).2=o.isSome:=by cases o <;> rfl
def qn (l:List aA) (i:aA):Bool:=(g6 l i.bA).isNone && !iJ l i.cd
def added (l:List aA) (i:aA):List aA:=if qn l i=true then l ++ [i] else l
theorem Ic {s:a3} (h:dk s) {k:Nat} (ay:k < 4) {hp:aS Cell} {p:Nat} {l:List aA} {own:Nat→Prop} (an:iS s k hp p l own) {i:aA} (au:lF s k i) (hlen:l.length < 900):
 dH (uI hp (some p) i) (fun r=>r.1=qn l i∧iS s k r.2 p (added l i) (lR own hp r.2)∧eL hp r.2 own):=by
 obtain⟨f,m,em,J,ad,aC,aU,a1,bk⟩:=an.cell
 have hm:=qQ ad
 have hp':=lN J
 have lZ:p≠m:=fun e=>by rw [e,hm] at hp'; cases hp'
 have e8:=a1.no an.kP.ok i.cd
 unfold uI
 refine .cond (fun ak=>by cases ak) fun _=> .eq rfl (.eq J (.eq rfl (.eq ad (.eq rfl (.eq rfl (.eq J (.eq (Ph h ay bk an.kP au.e9) (.cond (fun ak=> .ret ?_) fun ak=> ?_))))))))
 ·rw [e8,N7,Bool.or_eq_true] at ak
  have bL:qn l i=false:=by
   unfold qn
   rcases ak with ak | ak
   ·cases ba:g6 l i.bA with
    | none=>rw [ba] at ak; cases ak
    | some _=>rfl
   ·rw [ak]; simp
  refine⟨bL.symm,?_,.refl⟩
  unfold added
  rw [bL]
  exact an.mono (fun q hq=> .inl hq) fun q hq=>hq.elim (an.uk q) fun hq=>absurd hq.2 hq.1
 ·rw [e8,N7,Bool.or_eq_false_iff] at ak
  obtain⟨bC,cf⟩:=ak
  have ba:g6 l i.bA=none:=by
   cases ba:g6 l i.bA with
   | none=>rfl
   | some _=>rw [ba] at bC; cases bC
  have bL:qn l i=true:=by unfold qn; rw [ba,cf]; rfl
  have bs:dM em i.cd=none:=by
   cases bs:dM em i.cd with
   | none=>rfl
   | some _=>rw [bs,cf] at e8; cases e8
  have az:pat (df hp m (Cell.kb (gO em i.cd i))) p=some (.nf ⟨kp k,(hv s k:Int),f,⟨some m⟩⟩):=by rw [nH lZ.symm]; exact hp'
  have f1:pf s k (df hp m (Cell.kb (gO em i.cd i))) f l (fun q=>own q∧q≠m∧q≠p):=bk.congr (fun q _ hq=>hq) fun q hq=>nH hq.2.1.symm
  refine .eq rfl (.eq J (.eq (x6 h ay au) (.eq rfl (.eq ad (.eq rfl (.eq (by unfold hz; rw [az]) (.bind (YK h ay f1 (fun q hq=>by rw [vd]; exact an.uk q hq.1) an.kP au ba cf hlen) fun gj aR=> .ret ⟨bL.symm,?_,?_⟩)))))))
  ·obtain⟨iE,gx⟩:=aR
   have c2:pat gj p=some (.nf ⟨kp k,(hv s k:Int),f,⟨some m⟩⟩):=by rw [gx.rest p (kS az) (fun hq=>hq.2.2 rfl)]; exact az
   have dc:pat gj m=some (.kb (gO em i.cd i)):=by
    have:pat (df hp m (Cell.kb (gO em i.cd i))) m=some (.kb (gO em i.cd i)):=vq hm
    rw [gx.rest m (kS this) (fun hq=>hq.2.1 rfl)]; exact this
   unfold added
   rw [if_pos bL]
   refine⟨an.kP.snoc au ba cf hlen,⟨f,m,_,by unfold hz; rw [c2],by unfold kW; rw [dc],.inl aC,.inl aU,?_,iE.congr (fun q _ hq=> ?_) fun q _=>rfl⟩,fun q hq=> ?_⟩
   ·unfold sj
    rw [MS bs,List.map_append]
    exact List.Perm.append_right _ a1
   ·rcases hq with hq | ⟨aq,bd⟩
    ·exact⟨.inl hq.1,hq.2⟩
    ·rw [vd] at aq
     exact⟨.inr ⟨aq,bd⟩,fun e=>aq (e ▸ kS hm),fun e=>aq (e ▸ kS hp')⟩
   ·rcases hq with hq | hq
    ·exact gx.keys q (by rw [vd]; exact an.uk q hq)
    ·exact hq.2
  ·exact(eL.up (own:=own) aU).trans aR.2 fun q _ hq=>hq.1
structure jK {α:Type} (f:α→α→Int):Prop where
 neg:∀ x y,f x y < 0↔0 < f y x
 qy:∀ x y z,f x y≤0→f y z≤0→f x z≤0
theorem jK.self {α:Type} {f:α→α→Int} (h:jK f) (x:α):f x x=0:=by have:=h.neg x x; omega
theorem jK.on {α β:Type} {f:β→β→Int} (h:jK f) (g:α→β):jK (fun x y=>f (g x) (g y)):=⟨fun x y=>h.neg _ _,fun x y z=>h.qy _ _ _⟩
theorem jK.rev {α:Type} {f:α→α→Int} (h:jK f):jK (fun x y=>f y x):=⟨fun x y=>h.neg y x,fun x y z J ad=>h.qy z y x ad J⟩
def kn {α:Type} (f g:α→α→Int) (x y:α):Int:=if f x y=0 then g x y else f x y
theorem u7 {α:Type} {f g:α→α→Int} {x y:α} (h:kn f g x y=0):f x y=0∧g x y=0:=by
 unfold kn at h
 split at h
 ·rename_i e; exact⟨e,h⟩
 ·rename_i e; exact absurd h e
theorem jK.kn {α:Type} {f g:α→α→Int} (h:jK f) (k:jK g):jK (Go.Proofs.YtmnggbjcnoffeaaGreat.kn f g) where
 neg x y:=by
  unfold Go.Proofs.YtmnggbjcnoffeaaGreat.kn
  have J:=h.neg x y
  have ad:=h.neg y x
  by_cases e:f x y=0
  ·rw [if_pos e,if_pos (by omega)]; exact k.neg x y
  ·rw [if_neg e,if_neg (by omega)]; exact J
 qy x y z:=by
  unfold Go.Proofs.YtmnggbjcnoffeaaGreat.kn
  intro J ad
  have c2:f x y≤0:=by by_cases e:f x y=0 <;> simp [e] at J <;> omega
  have dc:f y z≤0:=by by_cases e:f y z=0 <;> simp [e] at ad <;> omega
  have gJ:=h.qy x y z c2 dc
  by_cases e:f x z=0
  ·have uy:f z x≤0:=by have:=h.neg x z; have:=h.neg z x; omega
   have dJ:=h.qy z x y uy c2
   have ev:=h.qy y z x dc uy
   have bC:f y z=0:=by have:=h.neg y z; omega
   have cf:f x y=0:=by have:=h.neg x y; omega
   rw [if_pos cf] at J
   rw [if_pos bC] at ad
   rw [if_pos e]
   exact k.qy x y z J ad
  ·rw [if_neg e]; exact gJ
theorem YL {x y:Int} :kN x y < 0↔x < y:=by unfold kN; split <;> (try split) <;> omega
theorem ET {x y:Int} :0 < kN x y↔y < x:=by unfold kN; split <;> (try split) <;> omega
theorem tl {x y:Int} :kN x y=0↔x=y:=by unfold kN; split <;> (try split) <;> omega
theorem r7:jK kN:=⟨fun x y=>by rw [YL,ET],fun x y z J ad=>by
 have a:= @ET x y; have b:= @ET y z; have c:= @ET x z; omega⟩
def lc {α:Type} (g:α→α→Int):List α→List α→Int
 | [],[]=>0
 | [],_ :: _=> -1
 | _ :: _,[]=>1
 | a :: r,b :: t=>if g a b=0 then lc g r t else g a b
theorem N8 {α:Type} {g:α→α→Int} (h:jK g):∀ (x y:List α),lc g x y < 0↔0 < lc g y x
 | [],[]=>by simp [lc]
 | [],_ :: _=>by simp [lc]
 | _ :: _,[]=>by simp [lc]
 | a :: r,b :: t=>by
   have J:=h.neg a b
   have ad:=h.neg b a
   unfold lc
   by_cases e:g a b=0
   ·rw [if_pos e,if_pos (by omega)]; exact N8 h r t
   ·rw [if_neg e,if_neg (by omega)]; exact J
theorem Pk {α:Type} {g:α→α→Int} (h:jK g):∀ (x y z:List α),lc g x y≤0→lc g y z≤0→lc g x z≤0
 | [],_,[],_,_=>by simp [lc]
 | [],_,_ :: _,_,_=>by simp [lc]
 | _ :: _,[],_,J,_=>by simp [lc] at J
 | _ :: _,_ :: _,[],_,ad=>by simp [lc] at ad
 | a :: r,b :: t,c :: u,J,ad=>by
   unfold lc at J ad ⊢
   have c2:g a b≤0:=by by_cases e:g a b=0 <;> simp [e] at J <;> omega
   have dc:g b c≤0:=by by_cases e:g b c=0 <;> simp [e] at ad <;> omega
   have gJ:=h.qy a b c c2 dc
   by_cases e:g a c=0
   ·have uy:g c a≤0:=by have:=h.neg a c; have:=h.neg c a; omega
    have dJ:=h.qy c a b uy c2
    have ev:=h.qy b c a dc uy
    have bC:g b c=0:=by have:=h.neg b c; omega
    have cf:g a b=0:=by have:=h.neg a b; omega
    rw [if_pos cf] at J
    rw [if_pos bC] at ad
    rw [if_pos e]
    exact Pk h r t u J ad
   ·rw [if_neg e]; exact gJ
theorem Pl {α:Type} {g:α→α→Int} (h:jK g):jK (lc g):=⟨N8 h,Pk h⟩
theorem Nv {α:Type} {g:α→α→Int} (h:∀ a b,g a b=0→a=b):∀ {x y:List α},lc g x y=0→x=y
 | [],[],_=>rfl
 | [],_ :: _,e=>by simp [lc] at e
 | _ :: _,[],e=>by simp [lc] at e
 | a :: r,b :: t,e=>by
   unfold lc at e
   split at e
   ·rename_i av; rw [h a b av,Nv h e]
   ·rename_i av; exact absurd e av
def jL (v:ar):Int:=((v.cV.toNat * 18446744073709551616 + v.bG.toNat:Nat):Int)
theorem Eu {x y:ar} (h:jL x=jL y):x=y:=by
 obtain⟨a,b⟩:=x
 obtain⟨c,d⟩:=y
 unfold jL at h
 simp only at h
 first
 | (have J:=a.isLt; have ad:=b.isLt; have aC:=c.isLt; have aU:=d.isLt
    have av:a=c:=BitVec.eq_of_toNat_eq (by omega)
    have aX:b=d:=BitVec.eq_of_toNat_eq (by omega)
    rw [av,aX])
theorem Nw (x y:ar):o2 x y=some (kN (jL x) (jL y)):=by
 unfold o2
 by_cases e:x=y
 ·subst e
  simp only [decide_true,cond_true]
  rw [tl.2 rfl]
 ·simp only [e,decide_false,cond_false,Option.bind_some]
  have c6:jL x≠jL y:=fun h=>e (Eu h)
  have b5:((decide (x.cV < y.cV)) || ((x.cV ==y.cV) && (decide (x.bG < y.bG))))=decide (jL x < jL y):=by
   rw [Bool.eq_iff_iff]
   simp only [Bool.or_eq_true,Bool.and_eq_true,decide_eq_true_eq,beq_iff_eq,BitVec.lt_def]
   unfold jL
   have J:=x.cV.isLt; have ad:=x.bG.isLt; have aC:=y.cV.isLt; have aU:=y.bG.isLt
   constructor
   ·rintro (h | ⟨h,c0⟩)
    ·omega
    ·rw [h]; omega
   ·intro h
    by_cases b3:x.cV.toNat < y.cV.toNat
    ·exact .inl b3
    ·have:x.cV.toNat=y.cV.toNat:=by omega
     exact .inr ⟨BitVec.eq_of_toNat_eq this,by omega⟩
  rw [b5]
  unfold kN
  by_cases a0:jL x < jL y
  ·simp [a0]
  ·rw [decide_eq_false a0,if_neg a0,if_pos (by omega)]; rfl
def sk:List Int→Int
 | []=>0
 | a :: r=>if a=0 then sk r else a
theorem Mo {l:List Int} (ao:l.length≤1000):rC l=some (sk l):=by
 refine bt.get ?_
 unfold rC
 refine .bind (P:=fun e=>(∃ q,e= .inl q∧sk l=0)∨ ∃ q:Int × Int × Int × Bool × Bool,e= .inr q∧q.1=sk l)
  (bt.tG l.length (fun j st=>st=(j:Int)∧sk l=sk (l.drop j)) (by omega) ⟨rfl,rfl⟩ (fun j st aH hs=> ?_) (fun st hs=> ?_)) fun e he=> ?_
 ·obtain⟨rfl,hs⟩:=hs
  rw [List.drop_eq_getElem_cons aH] at hs
  have hs:sk l=if l[j]=0 then sk (l.drop (j + 1)) else l[j]:=hs
  refine .cond (fun _=> .idx rfl aH ?_) fun ak=>by simp at ak; omega
  rw [ew _ aH]
  refine .cond (fun ak=> .ret (.inr ⟨_,rfl,?_⟩)) fun ak=> .ret ⟨gb (by omega),?_⟩
  ·have:l[j]≠0:=by simpa using ak
   rw [hs,if_neg this]
  ·have:l[j]=0:=by simpa using ak
   rw [hs,if_pos this]
 ·obtain⟨rfl,hs⟩:=hs
  refine .cond (fun ak=>by simp at ak) fun _=> .ret (.inl ⟨_,rfl,?_⟩)
  rw [hs,List.drop_length]; rfl
 ·rcases he with⟨q,rfl,hq⟩ | ⟨q,rfl,hq⟩
  ·simp only [Sum.elim_inl]; exact .ret hq.symm
  ·simp only [Sum.elim_inr]; exact .ret hq
theorem RP {g:bV→bV→Int} {f:bV→bV→Option Int} (ba:∀ a b,f a b=some (g a b)) {xs ys:List bV} (an:xs.length≤100000) (a5:ys.length≤100000):zd xs ys f=some (lc g xs ys):=by
 refine bt.get ?_
 unfold zd
 refine .bind (P:=fun e=>(∃ q,e= .inl q∧lc g xs ys=if xs.length < ys.length then -1 else 0)∨ ∃ q:Int × Int × Int × Bool × Bool,e= .inr q∧q.1=lc g xs ys)
  (bt.tG xs.length (fun j st=>st=(j:Int)∧j≤ys.length∧lc g xs ys=lc g (xs.drop j) (ys.drop j)) (by omega) ⟨rfl,by omega,rfl⟩ (fun j st aH hs=> ?_) (fun st hs=> ?_)) fun e he=> ?_
 ·obtain⟨rfl,Kj,hs⟩:=hs
  refine .cond (fun _=> .idx rfl aH (.cond (fun ak=> .ret (.inr ⟨_,rfl,?_⟩)) fun ak=> ?_)) fun ak=>by simp at ak; omega
  ·have ak:ys.length≤j:=by simpa using ak
   rw [hs,List.drop_eq_getElem_cons aH,List.drop_eq_nil_of_le ak]; rfl
  ·have b5:j < ys.length:=by simpa using ak
   rw [List.drop_eq_getElem_cons aH,List.drop_eq_getElem_cons b5] at hs
   refine .idx rfl b5 (.eq (ba _ _) ?_)
   rw [ew _ aH,ew _ b5]
   have hs:lc g xs ys=if g xs[j] ys[j]=0 then lc g (xs.drop (j + 1)) (ys.drop (j + 1)) else g xs[j] ys[j]:=hs
   refine .cond (fun ak=> .ret (.inr ⟨_,rfl,?_⟩)) fun ak=> .ret ⟨gb (by omega),b5,?_⟩
   ·have:g xs[j] ys[j]≠0:=by simpa using ak
    rw [hs,if_neg this]
   ·have:g xs[j] ys[j]=0:=by simpa using ak
    rw [hs,if_pos this]
 ·obtain⟨rfl,Kj,hs⟩:=hs
  refine .cond (fun ak=>by simp at ak) fun _=> .ret (.inl ⟨_,rfl,?_⟩)
  rw [hs,List.drop_length]
  cases hd:ys.drop xs.length with
  | nil=>
    have:=List.drop_eq_nil_iff.1 hd
    rw [if_neg (by omega)]; rfl
  | cons z lI=>
    have:ys.length - xs.length=lI.length + 1:=by rw [← List.length_drop,hd]; rfl
    rw [if_pos (by omega)]; rfl
 ·rcases he with⟨q,rfl,hq⟩ | ⟨q,rfl,hq⟩
  ·simp only [Sum.elim_inl]
   refine .cond (fun ak=> .ret ?_) fun ak=> .ret ?_
   ·rw [hq,if_pos (by simpa using ak)]
   ·rw [hq,if_neg (by simpa using ak)]
  ·simp only [Sum.elim_inr]
   exact .ret hq
theorem RQ {g:ar→ar→Int} {f:ar→ar→Option Int} (ba:∀ a b,f a b=some (g a b)) {xs ys:List ar} (an:xs.length≤100000) (a5:ys.length≤100000):ze xs ys f=some (lc g xs ys):=by
 refine bt.get ?_
 unfold ze
 refine .bind (P:=fun e=>(∃ q,e= .inl q∧lc g xs ys=if xs.length < ys.length then -1 else 0)∨ ∃ q:Int × Int × Int × Bool × Bool,e= .inr q∧q.1=lc g xs ys)
  (bt.tG xs.length (fun j st=>st=(j:Int)∧j≤ys.length∧lc g xs ys=lc g (xs.drop j) (ys.drop j)) (by omega) ⟨rfl,by omega,rfl⟩ (fun j st aH hs=> ?_) (fun st hs=> ?_)) fun e he=> ?_
 ·obtain⟨rfl,Kj,hs⟩:=hs
  refine .cond (fun _=> .idx rfl aH (.cond (fun ak=> .ret (.inr ⟨_,rfl,?_⟩)) fun ak=> ?_)) fun ak=>by simp at ak; omega
  ·have ak:ys.length≤j:=by simpa using ak
   rw [hs,List.drop_eq_getElem_cons aH,List.drop_eq_nil_of_le ak]; rfl
  ·have b5:j < ys.length:=by simpa using ak
   rw [List.drop_eq_getElem_cons aH,List.drop_eq_getElem_cons b5] at hs
   refine .idx rfl b5 (.eq (ba _ _) ?_)
   rw [ew _ aH,ew _ b5]
   have hs:lc g xs ys=if g xs[j] ys[j]=0 then lc g (xs.drop (j + 1)) (ys.drop (j + 1)) else g xs[j] ys[j]:=hs
   refine .cond (fun ak=> .ret (.inr ⟨_,rfl,?_⟩)) fun ak=> .ret ⟨gb (by omega),b5,?_⟩
   ·have:g xs[j] ys[j]≠0:=by simpa using ak
    rw [hs,if_neg this]
   ·have:g xs[j] ys[j]=0:=by simpa using ak
    rw [hs,if_pos this]
 ·obtain⟨rfl,Kj,hs⟩:=hs
  refine .cond (fun ak=>by simp at ak) fun _=> .ret (.inl ⟨_,rfl,?_⟩)
  rw [hs,List.drop_length]
  cases hd:ys.drop xs.length with
  | nil=>
    have:=List.drop_eq_nil_iff.1 hd
    rw [if_neg (by omega)]; rfl
  | cons z lI=>
    have:ys.length - xs.length=lI.length + 1:=by rw [← List.length_drop,hd]; rfl
    rw [if_pos (by omega)]; rfl
 ·rcases he with⟨q,rfl,hq⟩ | ⟨q,rfl,hq⟩
  ·simp only [Sum.elim_inl]
   refine .cond (fun ak=> .ret ?_) fun ak=> .ret ?_
   ·rw [hq,if_pos (by simpa using ak)]
   ·rw [hq,if_neg (by simpa using ak)]
  ·simp only [Sum.elim_inr]
   exact .ret hq
def yY (m:bV):Int:=if m.fF=true then 1 else 0
theorem WG (m:bV):xv m=some (yY m):=by
 unfold xv yY
 cases m.fF <;> rfl
def rr:bV→bV→Int:=kn (fun x y=>kN (yY x) (yY y)) (kn (fun x y=>kN (jL x.cI) (jL y.cI)) (kn (fun x y=>kN (jL x.fL) (jL y.fL)) (kn (fun x y=>kN x.ez y.ez) (fun x y=>kN (jL x.jP) (jL y.jP)))))
theorem Pm:jK rr:=(r7.on yY).kn ((r7.on fun x:bV=>jL x.cI).kn ((r7.on fun x:bV=>jL x.fL).kn ((r7.on fun x:bV=>x.ez).kn (r7.on fun x:bV=>jL x.jP))))
theorem VS {x y:bV} (h:rr x y=0):x=y:=by
 obtain⟨J,h⟩:=u7 h
 obtain⟨ad,h⟩:=u7 h
 obtain⟨aC,h⟩:=u7 h
 obtain⟨aU,a1⟩:=u7 h
 refine HM ?_ (Eu (tl.1 ad)) (Eu (tl.1 aC)) (tl.1 aU) (Eu (tl.1 a1))
 have:=tl.1 J
 unfold yY at this
 cases an:x.fF <;> cases a5:y.fF <;> simp [an,a5] at this <;> rfl
theorem P0 (a b c d e:Int):sk [a,b,c,d,e]=if a=0 then(if b=0 then(if c=0 then(if d=0 then e else d) else c) else b) else a:=by
 have:(if e=0 then 0 else e)=e:=by split <;> omega
 show(if a=0 then(if b=0 then(if c=0 then(if d=0 then(if e=0 then 0 else e) else d) else c) else b) else a)=_
 rw [this]
theorem Tq (x y:bV):zC x y=some (rr x y):=by
 unfold zC
 by_cases e:x=y
 ·subst e
  simp only [decide_true,cond_true]
  rw [Pm.self]
 ·simp only [e,decide_false,cond_false,WG,vr,Nw,Option.bind_some]
  rw [Mo (by simp),P0]
  rfl
def Ga:bu→bu→Int:=kn (fun x y=>kN x.dW y.dW) (kn (fun x y=>kN y.hI x.hI) (kn (fun x y=>lc rr x.bZ y.bZ) (kn (fun x y=>kN x.kR y.kR) (fun x y=>lc (fun v w=>kN (jL v) (jL w)) x.iw y.iw))))
theorem YM:jK Ga:=(r7.on fun x:bu=>x.dW).kn ((r7.on fun x:bu=>x.hI).rev.kn (((Pl Pm).on fun x:bu=>x.bZ).kn ((r7.on fun x:bu=>x.kR).kn ((Pl (r7.on jL)).on fun x:bu=>x.iw))))
theorem YN {x y:bu} (h:Ga x y=0):iO x y=true:=by
 obtain⟨J,h⟩:=u7 h
 obtain⟨ad,h⟩:=u7 h
 obtain⟨aC,h⟩:=u7 h
 exact vu.2 ⟨tl.1 J,Nv (fun a b=>VS) aC,(tl.1 ad).symm⟩
theorem VT {x y:bu} (J:x.bZ.length≤1000) (ad:y.bZ.length≤1000) (aC:x.iw.length≤1000) (aU:y.iw.length≤1000):zZ x y=some (Ga x y):=by
 unfold zZ
 rw [vr,vr,vr,RP Tq (by omega) (by omega),RQ Nw (by omega) (by omega)]
 simp only [Option.bind_some]
 rw [Mo (by simp),P0]
 rfl
theorem Hq {α:Type} {m:Option (List α)} {P:List α→Prop} {n:Nat} (h:bt m (fun r=>r.length=n∧P r)):bt (q3 n m) P:=by
 obtain⟨r,J,ad,aC⟩:=h
 refine⟨r,?_,aC⟩
 unfold q3; rw [J]; simp [ad]
theorem Mp {α:Type} [Inhabited α] {xs:List α} {k:Nat} {v:α} (ay:k < xs.length) (i:Nat):aE (en xs k v) i=if i=k then v else aE xs i:=by
 unfold aE en
 by_cases e:i=k
 ·subst e; rw [if_pos rfl]; simp [ay]
 ·rw [if_neg e]; simp [List.getElem?_set_ne (Ne.symm e)]
theorem Ek {j:Nat} (J:1≤j) (h:j < 2 ^ 62):bq ((j:Int) - 1)=((j - 1:Nat):Int):=by rw [g9] <;> omega
def py {α:Type} [Inhabited α] (c:α→α→Int) (ys:List α) (n:Nat):Prop:= ∀ p q,p < q→q < n→c (aE ys p) (aE ys q)≤0
def y8 {α:Type} [Inhabited α] (c:α→α→Int) (ys:List α) (b i:Nat):Prop:= ∀ p q,p < q→q≤i→q≠b→c (aE ys p) (aE ys q)≤0
theorem y8.stop {α:Type} [Inhabited α] {c:α→α→Int} (ak:jK c) {ys:List α} {b i:Nat} (h:y8 c ys b i) (hb:b≤i) (hs:b=0∨0≤c (aE ys b) (aE ys (b - 1))):py c ys (i + 1):=fun p q tZ hq=>by
 by_cases e:q=b
 ·subst e
  rcases hs with rfl | hs
  ·omega
  ·have J:c (aE ys (q - 1)) (aE ys q)≤0:=by have:=ak.neg (aE ys q) (aE ys (q - 1)); have:=ak.neg (aE ys (q - 1)) (aE ys q); omega
   by_cases aX:p=q - 1
   ·rw [aX]; exact J
   ·exact ak.qy _ _ _ (h p (q - 1) (by omega) (by omega) (by omega)) J
 ·exact h p q tZ (by omega) e
theorem y8.swap {α:Type} [Inhabited α] {c:α→α→Int} {ys:List α} {b i:Nat} (h:y8 c ys b i) (hb:b≤i) (J:1≤b) (au:i < ys.length) (b5:c (aE ys b) (aE ys (b - 1)) < 0):
 y8 c (en (en ys b (aE ys (b - 1))) (b - 1) (aE ys b)) (b - 1) i:=fun p q tZ hq c6=>by
 have bs:∀ a,aE (en (en ys b (aE ys (b - 1))) (b - 1) (aE ys b)) a=if a=b - 1 then aE ys b else if a=b then aE ys (b - 1) else aE ys a:=fun a=>by
  rw [Mp (by unfold en; rw [List.length_set]; omega),Mp (by omega)]
 rw [bs,bs,if_neg c6]
 by_cases av:q=b
 ·rw [if_pos av]
  by_cases aX:p=b - 1
  ·rw [if_pos aX]; omega
  ·rw [if_neg aX,if_neg (by omega)]
   exact h p (b - 1) (by omega) (by omega) (by omega)
 ·rw [if_neg av]
  by_cases aX:p=b - 1
  ·rw [if_pos aX]
   exact h b q (by omega) hq av
  ·rw [if_neg aX]
   by_cases c4:p=b
   ·rw [if_pos c4]
    exact h (b - 1) q (by omega) hq av
   ·rw [if_neg c4]
    exact h p q tZ hq av
theorem swap_perm {α:Type} [Inhabited α] {ys:List α} {b:Nat} (hb:b < ys.length):(en (en ys b (aE ys (b - 1))) (b - 1) (aE ys b)).Perm ys:=by
 have J:b - 1 < ys.length:=by omega
 unfold en
 rw [ew _ J,ew _ hb]
 exact List.set_set_perm hb J
theorem Uo {f:aA→aA→Option Int} {c:aA→aA→Int} (ak:jK c) {xs:List aA} (hlen:xs.length≤1000) (ba:∀ a∈xs,∀ b∈xs,f a b=some (c a b)):
 bt (y9 xs 0 (xs.length:Int) f) (fun r=>r.Perm xs∧py c r xs.length):=by
 unfold y9
 refine .bind (P:=fun e=>e.2.2.Perm xs∧py c e.2.2 xs.length) (bt.tG (xs.length - 1) (fun j st=> ∃ ys,st=(((j + 1:Nat):Int),ys)∧ys.Perm xs∧py c ys (j + 1)) (by omega) ⟨xs,rfl,.refl _,fun p q J ad=>by omega⟩ (fun j st aH hs=> ?_) (fun st hs=> ?_)) fun e he=> .ret he
 ·obtain⟨ys,rfl,hp,hs⟩:=hs
  refine .cond (fun _=> ?_) fun ak=>by simp at ak; omega
  refine .bind (P:=fun e=>e.2.2.Perm xs∧py c e.2.2 (j + 2)) (bt.tG (j + 1) (fun a st=> ∃ lI,st=(((j + 1 - a:Nat):Int),lI)∧lI.Perm xs∧y8 c lI (j + 1 - a) (j + 1)) (by omega) ⟨ys,rfl,hp,fun p q J ad aC=>hs p q J (by omega)⟩ (fun a st bj hs=> ?_) (fun st hs=> ?_)) fun e he=> .ret ⟨e.2.2,by rw [gb (by omega)],he.1,he.2⟩
  ·obtain⟨lI,rfl,db,hm⟩:=hs
   have Qk:=db.length_eq
   generalize hb:j + 1 - a=b at hm
   have mq:1≤b:=by omega
   have mx:b < lI.length:=by omega
   have Ff:b - 1 < lI.length:=by omega
   have hd:decide ((b:Int) > 0)=true:=by rw [decide_eq_true_eq]; omega
   have eu:∀ i,i < lI.length→aE lI i∈xs:=fun i au=>db.mem_iff.1 (by rw [ew _ au]; exact List.getElem_mem _)
   refine .cy (P:=fun k=>k=b) (fun _=>⟨_,ox mx,rfl⟩) fun a8 av=> .cy (P:=fun k=>k=b - 1) (fun _=>⟨b - 1,by rw [Ek mq (by omega)]; exact ox Ff,rfl⟩) fun bY aX=> ?_
   rw [av hd,aX hd]
   refine .cy (P:=fun y=>y=c (aE lI b) (aE lI (b - 1))) (fun _=>⟨_,ba _ (eu _ mx) _ (eu _ Ff),rfl⟩) fun aG c4=> ?_
   rw [c4 hd]
   refine .cond (fun rk=> ?_) fun rk=> .ret ⟨db,hm.stop ak (by omega) (.inr ?_)⟩
   ·rw [Bool.and_eq_true,decide_eq_true_eq,decide_eq_true_eq] at rk
    refine .eq (a:=b - 1) (by rw [Ek mq (by omega)]; exact ox Ff) (.idx rfl mx (.idx rfl mx (.eq (a:=b - 1) (by rw [Ek mq (by omega)]; exact ox (by unfold en; rw [List.length_set]; exact Ff)) (.ret ⟨_,?_,(swap_perm mx).trans db,?_⟩))))
    ·rw [Ek mq (by omega),show j + 1 - (a + 1)=b - 1 by omega]
    ·rw [show j + 1 - (a + 1)=b - 1 by omega]
     exact hm.swap (by omega) mq (by omega) rk.2
   ·rw [hd,Bool.true_and,decide_eq_false_iff_not] at rk
    omega
  ·obtain⟨lI,rfl,db,hm⟩:=hs
   have hd:decide (((j + 1 - (j + 1):Nat):Int) > 0)=false:=by rw [decide_eq_false_iff_not]; omega
   refine .cy (P:=fun _=>True) (fun h=>by rw [hd] at h; cases h) fun a8 _=> .cy (P:=fun _=>True) (fun h=>by rw [hd] at h; cases h) fun bY _=> .cy (P:=fun _=>True) (fun h=>by rw [hd] at h; cases h) fun aG _=> .cond (fun rk=>by rw [hd] at rk; cases rk) fun rk=> .ret ⟨db,hm.stop ak (by omega) (.inl (by omega))⟩
 ·obtain⟨ys,rfl,hp,hs⟩:=hs
  refine .cond (fun ak=>by simp at ak; omega) fun _=> .ret ⟨hp,fun p q J ad=>hs p q J (by omega)⟩
theorem VU (x:Nat) (an:x < 31):bt (zW (BitVec.ofInt 64 (x:Int))) (fun _=>True):=by
 have:∀ y:Nat,y < 31→ (zW (BitVec.ofInt 64 (y:Int))).isSome=true:=by decide +kernel
 obtain⟨r,aR⟩:=Option.isSome_iff_exists.1 (this x an)
 exact⟨r,aR,trivial⟩
theorem Tr {f:aA→aA→Option Int} {c:aA→aA→Int} (ak:jK c) {xs:List aA} (hlen:xs.length≤12) (ba:∀ a∈xs,∀ b∈xs,f a b=some (c a b)):
 bt (q3 xs.length (zb xs f)) (fun r=>r.Perm xs∧py c r xs.length):=by
 refine Hq ?_
 unfold zb
 refine(VU _ (by omega)).bind fun aG _=> .bind (P:=fun r=>r.length=xs.length∧r.Perm xs∧py c r xs.length) (Hq ?_) fun r aR=> .ret aR
 unfold CY
 have hw:bq ((xs.length:Int) - 0)=(xs.length:Int):=by rw [g9] <;> omega
 refine .bind (P:=fun e=>e.2.2.length=xs.length∧e.2.2.length=xs.length∧e.2.2.Perm xs∧py c e.2.2 xs.length) (bt.tG 0 (fun _ _=>True) (by omega) trivial (fun a st bj hs=>by omega) fun st hs=> ?_) fun e he=> .ret he
 rw [hw]
 refine .cond (fun _=> .bind (P:=fun r=>r.length=xs.length∧r.Perm xs∧py c r xs.length) (Hq ((Uo ak (by omega) ba).mono fun r aR=>⟨aR.1.length_eq,aR.1.length_eq,aR⟩)) fun r aR=> .ret ⟨aR.1,aR⟩) fun rk=>by simp at rk; omega
theorem MT {c:aA→aA→Int} (ak:jK c):∀ {xs ys:List aA},xs.Perm ys→xs.Pairwise (fun a b=>c a b≤0)→ys.Pairwise (fun a b=>c a b≤0)→ (∀ a∈xs,∀ b∈xs,c a b=0→a=b)→xs=ys
 | [],ys,h,_,_,_=>h.nil_eq
 | x :: r,[],h,_,_,_=>by have:=h.length_eq; simp at this
 | x :: r,y :: t,h,J,ad,aC=>by
   obtain⟨c2,dc⟩:=List.pairwise_cons.1 J
   obtain⟨dJ,ev⟩:=List.pairwise_cons.1 ad
   have e:x=y:=by
    have an:x∈y :: t:=h.mem_iff.1 List.mem_cons_self
    have a5:y∈x :: r:=h.mem_iff.2 List.mem_cons_self
    rcases List.mem_cons.1 an with e | an
    ·exact e
    ·rcases List.mem_cons.1 a5 with e | oP
     ·exact e.symm
     ·refine aC x List.mem_cons_self y a5 ?_
      have aq:=c2 y oP
      have bd:=dJ x an
      have:=ak.neg x y
      omega
   subst e
   rw [MT ak (List.perm_cons x |>.1 h) dc ev fun a bj b hb=>aC a (List.mem_cons_of_mem _ bj) b (List.mem_cons_of_mem _ hb)]
theorem py.ace {c:aA→aA→Int} {ys:List aA} (h:py c ys ys.length):ys.Pairwise (fun a b=>c a b≤0):=by
 rw [List.pairwise_iff_getElem]
 intro i j au aH ft
 have:=h i j ft aH
 rw [ew _ au,ew _ aH] at this
 exact this
theorem HP {hp hp':aS Cell} {root:Ref} {ws:List Bool} {b:Bool} {p q:Nat} {c sU:dx} (bL:nT hp root) (hw:cK hp root ws=some p) (ak:cD hp p=some c) (hq:bD c.cU (fh b)=some q) (nx:cD hp q=some sU) (ao:∀ x,bD sU.cU (fh x)=none)
 (cS:cD hp' p=some { c with cU:=fP c.cU (fh b) none }) (gj:∀ x,x≠p→cD hp' x=cD hp x):
 ∀ (aW us:List Bool) (r:Nat),cK hp root us=some r→us≠ws ++ [b]→cK hp' (some r) aW=if us ++ aW=ws ++ [b] then none else cK hp (some r) aW
 | [],us,r,hu,c6=>by
   rw [List.append_nil,if_neg c6]; rfl
 | x :: xs,us,r,hu,c6=>by
   obtain⟨KL,sH⟩:=bL.reads us r hu
   by_cases oM:r=p
   ·subst oM
    have J3:=bL.inj us ws r hu hw
    subst J3
    rw [ak] at sH; cases sH
    rw [hl cS,hl ak]
    simp only
    have b5:fh b < 2:=by cases b <;> decide
    rw [qG _ _ b5]
    by_cases wN:x=b
    ·subst wN
     rw [if_pos rfl,hq,gn]
     by_cases h:xs= []
     ·subst h; rw [if_pos rfl]
     ·have e8: ¬ us ++ x :: xs=us ++ [x]:=fun e=>h (by have:=List.append_cancel_left e; simpa using this)
      rw [if_neg e8]
      cases xs with
      | nil=>exact absurd rfl h
      | cons y ys=>rw [hl nx,ao,gn]
    ·have abD: ¬ fh x=fh b:=fun e=>wN (by cases x <;> cases b <;> first | rfl | cases e)
     have e8:∀ ys,¬ us ++ x :: ys=us ++ [b]:=fun ys e=>wN (by have:=List.append_cancel_left e; simpa using (List.cons.inj this).1)
     rw [if_neg abD,if_neg (e8 xs)]
     cases e:bD c.cU (fh x) with
     | none=>rw [gn,gn]
     | some j1=>
       have mw:cK hp root (us ++ [x])=some j1:=by rw [lM,hu,hl ak,e,ma]
       rw [HP bL hw ak hq nx ao cS gj xs (us ++ [x]) j1 mw (e8 []),List.append_assoc,List.singleton_append,if_neg (e8 xs)]
   ·have J:cD hp' r=some KL:=by rw [gj r oM]; exact sH
    rw [hl J,hl sH]
    have aad:us ++ [x]≠ws ++ [b]:=fun e=>by
     have:=List.append_inj_left' e rfl
     subst this
     rw [hu] at hw; cases hw; exact oM rfl
    cases e:bD KL.cU (fh x) with
    | none=>rw [gn,gn]; split <;> rfl
    | some j1=>
      have mw:cK hp root (us ++ [x])=some j1:=by rw [lM,hu,hl sH,e,ma]
      rw [HP bL hw ak hq nx ao cS gj xs (us ++ [x]) j1 mw aad,List.append_assoc,List.singleton_append]
theorem cut {hp hp':aS Cell} {r:Nat} {ws:List Bool} {b:Bool} {p q:Nat} {c sU:dx} (bL:nT hp (some r)) (hw:cK hp (some r) ws=some p) (ak:cD hp p=some c) (hq:bD c.cU (fh b)=some q) (nx:cD hp q=some sU) (ao:∀ x,bD sU.cU (fh x)=none) (hu:sU.dC=false)
 (cS:cD hp' p=some { c with cU:=fP c.cU (fh b) none }) (gj:∀ x,x≠p→cD hp' x=cD hp x):
 nT hp' (some r)∧ (∀ aW,cK hp' (some r) aW=if aW=ws ++ [b] then none else cK hp (some r) aW)∧ ∀ aW,cont hp' (some r) aW=cont hp (some r) aW:=by
 have ba:∀ aW,cK hp' (some r) aW=if aW=ws ++ [b] then none else cK hp (some r) aW:=fun aW=>HP bL hw ak hq nx ao cS gj aW [] r rfl (by simp)
 have J4:cK hp (some r) (ws ++ [b])=some q:=by rw [lM,hw,hl ak,hq,ma]
 refine⟨⟨fun aW x h=> ?_,fun aW cs x J ad=> ?_,fun aW x h=> ?_⟩,ba,fun aW=> ?_⟩
 ·rw [ba] at h
  split at h
  ·cases h
  ·obtain⟨hj,J⟩:=bL.reads aW x h
   by_cases e:x=p
   ·subst e; exact⟨_,cS⟩
   ·exact⟨hj,by rw [gj x e]; exact J⟩
 ·rw [ba] at J ad
  split at J <;> split at ad
  ·cases J
  ·cases J
  ·cases ad
  ·exact bL.inj aW cs x J ad
 ·rw [ba] at h
  split at h
  ·cases h
  ·exact bL.dep aW x h
 ·by_cases e:aW=ws ++ [b]
  ·subst e
   rw [j4 (by rw [ba,if_pos rfl]),jO J4 nx,hu]; rfl
  ·have wO:cK hp' (some r) aW=cK hp (some r) aW:=by rw [ba,if_neg e]
   cases h:cK hp (some r) aW with
   | none=>rw [j4 h,j4 (wO.trans h)]
   | some x=>
     obtain⟨hj,J⟩:=bL.reads aW x h
     by_cases eq:x=p
     ·subst eq
      rw [ak] at J; cases J
      rw [jO h ak,jO (wO.trans h) cS]
     ·rw [jO h J,jO (wO.trans h) (by rw [gj x eq]; exact J)]
end Go.Proofs.YtmnggbjcnoffeaaGreat
