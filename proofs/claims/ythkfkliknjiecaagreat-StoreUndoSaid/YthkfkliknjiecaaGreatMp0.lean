/-
  What the programs compute, in plain Lean. Conditions: none.
-/
import Derived.Test.YthkfkliknjiecaaGreatMl0
import Derived.Test.YthkfkliknjiecaaGreatMl2
import Derived.Test.YthkfkliknjiecaaGreatMd
set_option linter.unusedVariables false
set_option linter.unusedSimpArgs false
set_option maxRecDepth 100000
namespace Gv
open Go
theorem PQ {σ ε:Type}{body:σ→Option (σ ⊕ ε)}{Q:ε→Prop}{cE:σ}(m:Nat)(gx:Nat→σ→Prop)
 (hm:m<2 ^ 80) (bO:gx 0 cE)
 (hs:∀ k s,k<m→gx k s→ (∃ cr,body s=some (.inl cr)∧gx (k+1) cr)∨ (∃ e,body s=some (.inr e)∧Q e))
 (he:∀ s,gx m s→ ∃ e,body s=some (.inr e)∧Q e):∃ e,et ei body cE=some e∧Q e:=by
 have key:∀ n k s,k≤m→m - k<n→gx k s→ ∃ e,et n body s=some e∧Q e:=by
  intro n;induction n with
  | zero=>intro k s _ h;omega
  | succ n b6=>
    intro k s aw aR au
    by_cases ye:k=m
    ·subst ye
     obtain⟨e,aa,ae⟩:=he s au
     exact⟨e,by simp [et,aa],ae⟩
    rcases hs k s (by omega) au with⟨cr,aa,ae⟩ | ⟨e,aa,ae⟩
    ·obtain⟨e,aG,a0⟩:=b6 (k+1) cr (by omega) (by omega) ae
     exact⟨e,by simp [et,aa,aG],a0⟩
    exact⟨e,by simp [et,aa],ae⟩
 exact key ei 0 cE (by omega) (by unfold ei;omega) bO
def bk {β:Type}(m:Option β)(P:β→Prop):Prop:= ∃ r,m=some r∧P r
theorem bk.ret {β:Type}{P:β→Prop}{r:β}(h:P r):bk (some r) P:=⟨r,rfl,h⟩
theorem bk.bind {α β:Type}{m:Option α}{f:α→Option β}{P:α→Prop}{Q:β→Prop}(h:bk m P)(k:∀ a,P a→bk (f a) Q):bk (m.bind f) Q:=by
 obtain⟨a,aa,ae⟩:=h;rw [aa];exact k a ae
theorem bk.eq {α β:Type}{m:Option α}{a:α}{f:α→Option β}{Q:β→Prop}(h:m=some a)(k:bk (f a) Q):bk (m.bind f) Q:=by
 rw [h];exact k
theorem bk.mono {β:Type}{m:Option β}{P Q:β→Prop}(h:bk m P)(k:∀ a,P a→Q a):bk m Q:=by
 obtain⟨a,aa,ae⟩:=h;exact⟨a,aa,k a ae⟩
theorem bk.cond {β:Type}{b:Bool}{m n:Option β}{P:β→Prop}(aa:b=true→bk m P)(ae:b=false→bk n P):bk (cond b m n) P:=by
 cases b
 ·exact ae rfl
 exact aa rfl
theorem bk.cu {α β:Type}[Inhabited α]{b w:Bool}{m:Option α}{f:α→Option β}{P:α→Prop}{Q:β→Prop}(h:b=w→bk m P)(k:∀ a,(b=w→P a)→bk (f a) Q):bk ((cu b w m).bind f) Q:=by
 unfold Gv.cu;by_cases hb:b=w
 ·rw [if_pos hb];exact(h hb).bind fun a bb=>k a fun _=>bb
 rw [if_neg hb];exact k default fun h=>absurd h hb
theorem bk.loop {σ ε β:Type}{body:σ→Option (σ ⊕ ε)}{f:ε→Option β}{P:β→Prop}{cE:σ}(m:Nat)(gx:Nat→σ→Prop)
 (hm:m<2 ^ 80) (bO:gx 0 cE)
 (hs:∀ k s,k<m→gx k s→bk (body s) (fun x=>match x with | .inl cr=>gx (k+1) cr | .inr e=>bk (f e) P))
 (he:∀ s,gx m s→ ∃ e,body s=some (.inr e)∧bk (f e) P):bk ((et ei body cE).bind f) P:=by
 obtain⟨e,aa,ae⟩:=PQ (Q:=fun e=>bk (f e) P) m gx hm bO (fun k s aw au=>by
  obtain⟨r,aa,ae⟩:=hs k s aw au;cases r with
  | inl cr=>exact .inl ⟨cr,aa,ae⟩
  | inr e=>exact .inr ⟨e,aa,ae⟩) he
 rw [aa];exact ae
theorem bk.pF {σ ε:Type}{body:σ→Option (σ ⊕ ε)}{P:ε→Prop}{cE:σ}(m:Nat)(gx:Nat→σ→Prop)
 (hm:m<2 ^ 80) (bO:gx 0 cE)
 (hs:∀ k s,k<m→gx k s→bk (body s) (fun x=>match x with | .inl cr=>gx (k+1) cr | .inr e=>P e))
 (he:∀ s,gx m s→bk (body s) (fun x=>match x with | .inl _=>False | .inr e=>P e)):bk (et ei body cE) P:=by
 obtain⟨e,aa,ae⟩:=PQ (Q:=P) m gx hm bO (fun k s aw au=>by
  obtain⟨r,aa,ae⟩:=hs k s aw au;cases r with
  | inl cr=>exact .inl ⟨cr,aa,ae⟩
  | inr e=>exact .inr ⟨e,aa,ae⟩) fun s au=>by
  obtain⟨r,aa,ae⟩:=he s au;cases r with
  | inl cr=>exact ae.elim
  | inr e=>exact⟨e,aa,ae⟩
 exact⟨e,aa,ae⟩
theorem bk.idx {β:Type}{n:Nat}{i:Int}{k:Nat}{f:Nat→Option β}{Q:β→Prop}(au:i=k)(aw:k<n)(h:bk (f k) Q):bk ((Gv.idx n i).bind f) Q:=by
 subst au;have:Gv.idx n (k:Int)=some k:=by unfold Gv.idx;rw [if_pos (by omega)];simp
 rw [this];exact h
theorem iW {α:Type}[Inhabited α]{n:Nat}(v:Vector α n){k:Nat}(x:α)(aw:k<n)(j:Nat):bH (dD v k x) j=if j=k then x else bH v j:=by
 unfold bH dD;by_cases h:j=k
 ·subst h;simp [aw]
 rw [if_neg h,Vector.getElem?_setIfInBounds_ne (by omega)]
theorem JT {α:Type}[Inhabited α]{n:Nat}{v w:Vector α n}(h:∀ j,j<n→bH v j=bH w j):v=w:=by
 apply Vector.ext;intro i au;have:=h i au;simpa [bH,au] using this
theorem FV {α:Type}[Inhabited α]{n:Nat}(j:Nat):bH (default:Vector α n) j=default:=by
 show bH (Vector.replicate n default) j=default;unfold bH;by_cases h:j<n <;> simp [h]
theorem mG {n k:Nat}(h:k<n):idx n (k:Int)=some k:=by
 unfold idx;rw [if_pos (by omega)];simp
theorem xa {n:Nat}{i:Int}(h:0≤i)(de:i<n):idx n i=some i.toNat:=by
 unfold idx;rw [if_pos ⟨h,de⟩]
theorem e2 {k:Nat}(h:k<2 ^ 62):bt ((k:Int)+1)=((k+1:Nat):Int):=by
 rw [ho (by omega) (by omega)];simp
theorem qe {k:Nat}(h:k<2 ^ 64):(BitVec.ofInt 64 (k:Int)).toNat=k:=by
 simp;omega
theorem Qx (x:BitVec 64):((x&&&1#64)==1#64)=x.getLsbD 0:=by
 rw [BitVec.and_one_eq_setWidth_ofBool_getLsbD];cases x.getLsbD 0 <;> rfl
theorem Zr (x:BitVec 64)(n:Nat):(((x >>> n)&&&1#64)==1#64)=x.getLsbD n:=by
 rw [Qx];simp
theorem Pp (k j:Nat):((1#64) <<< k).getLsbD j=(decide (j=k)&&decide (j<64)):=by
 rw [BitVec.getLsbD_shiftLeft];by_cases h:j=k
 ·subst h;simp
 have:(1#64).getLsbD (j - k)=decide (j - k=0):=by
  rw [BitVec.getLsbD_one];simp
 rw [this];by_cases ae:j<k
 ·simp [ae,h]
 have: ¬ (j - k=0):=by omega
 simp [h,this]
theorem zv {α β:Type}[Inhabited α][Inhabited β](f:α→β){l:List α}{k:Nat}(aw:k<l.length):aF (l.map f) k=f (aF l k):=by
 rw [eO l aw,eO _ (by simpa using aw),List.getElem_map]
theorem pv {α:Type}[Inhabited α](l:List α){k:Nat}(aw:k<l.length):l.take (k+1)=l.take k++[aF l k]:=by
 rw [List.take_add_one,List.getElem?_eq_getElem aw,eO l aw];rfl
theorem Qy {α:Type}[Inhabited α]{xs:List α}{p:α→Bool}{k:Nat}(aw:k<xs.length)(hp:p (aF xs k)=true)(aH:∀ j,j<k→p (aF xs j)=false):xs.find? p=some (aF xs k):=by
 rw [List.find?_eq_some_iff_getElem];refine⟨hp,k,aw,(eO xs aw).symm,fun j ui=>?_⟩;have:=aH j ui;rw [eO xs (by omega)] at this;simp [this]
theorem Qz {α:Type}{xs:List α}{p:α→Bool}(h:∀ x∈xs,p x=false):xs.find? p=none:=
 List.find?_eq_none.2 fun x ar=>by simp [h x ar]
def dz {α:Type}(m:av α)(P:α→Prop):Prop:= ∀ Q:α→Prop,(∀ r,P r→Q r)→m Q
theorem dz.run {α:Type}{m:av α}{P:α→Prop}(h:dz m P):m P:=h P fun _ h=>h
theorem dz.ret {α:Type}{P:α→Prop}{x:α}(h:P x):dz (av.ret x) P:=fun Q k=>k x h
theorem dz.bind {α β:Type}{m:av α}{f:α→av β}{P:α→Prop}{rR:β→Prop}(h:dz m P)(k:∀ r,P r→dz (f r) rR):dz (av.bind m f) rR:=fun Q hq=>h _ fun r aO=>k r aO Q hq
theorem dz.of {α:Type}{o:Option α}{P:α→Prop}(h:bk o P):dz (av.of o) P:=fun Q hq=>let⟨r,aa,ae⟩:=h; ⟨r,aa,hq r ae⟩
theorem dz.l6 {α β:Type}{o:Option α}{f:α→av β}{P:α→Prop}{rR:β→Prop}(h:bk o P)(k:∀ r,P r→dz (f r) rR):dz (av.bind (av.of o) f) rR:= .bind (.of h) k
theorem dz.eq {α β:Type}{o:Option α}{a:α}{f:α→av β}{rR:β→Prop}(h:o=some a)(k:dz (f a) rR):dz (av.bind (av.of o) f) rR:=fun Q hq=>⟨a,h,k Q hq⟩
theorem dz.mono {α:Type}{m:av α}{P rR:α→Prop}(h:dz m P)(k:∀ r,P r→rR r):dz m rR:=fun Q hq=>h Q fun r aO=>hq r (k r aO)
theorem dz.cond {α:Type}{b:Bool}{m n:av α}{P:α→Prop}(aa:b=true→dz m P)(ae:b=false→dz n P):dz (cond b m n) P:=by
 cases b
 ·exact ae rfl
 exact aa rfl
theorem dz.cu {α β:Type}[Inhabited α]{b w:Bool}{m:Option α}{f:α→av β}{P:α→Prop}{Q:β→Prop}(h:b=w→bk m P)(k:∀ a,(b=w→P a)→dz (f a) Q):dz (av.bind (av.of (cu b w m)) f) Q:=by
 unfold Gv.cu;by_cases hb:b=w
 ·rw [if_pos hb];exact .l6 (h hb) fun a bb=>k a fun _=>bb
 rw [if_neg hb];exact .eq rfl (k default fun h=>absurd h hb)
theorem dz.idx {β:Type}{n:Nat}{i:Int}{k:Nat}{f:Nat→av β}{Q:β→Prop}(au:i=k)(aw:k<n)(h:dz (f k) Q):dz (av.bind (av.of (Gv.idx n i)) f) Q:=by
 subst au;exact .eq (mG aw) h
theorem dz.mk {ca β:Type}{hp:aN ca}{c:ca}{f:Nat×aN ca→av β}{P:β→Prop}(k:∀ p,p ∉ eZ hp→dz (f (p,(p,c)::hp)) P):dz (av.bind (av.mk hp c) f) P:=fun Q hq=>fun a bb=>by
 obtain⟨p,hp'⟩:=a;obtain⟨aa,ae⟩:=bb;simp only at aa ae;subst ae;exact k p aa Q hq
theorem dz.any {α β:Type}{f:α→av β}{P:β→Prop}(k:∀ x,dz (f x) P):dz (av.bind (av.any α) f) P:=fun Q hq x=>k x Q hq
theorem dz.loop {σ ε:Type}{body:σ→av (σ ⊕ ε)}{P:ε→Prop}{cE:σ}(m:Nat)(gx:Nat→σ→Prop)(hm:m<2 ^ 80)(bO:gx 0 cE)
 (hs:∀ k s,k<m→gx k s→dz (body s) (fun x=>match x with | .inl cr=>gx (k+1) cr | .inr e=>P e))
 (he:∀ s,gx m s→dz (body s) (fun x=>match x with | .inl _=>False | .inr e=>P e)):dz (oi ei body cE) P:=by
 have key:∀ n k s,k≤m→m - k<n→gx k s→dz (oi n body s) P:=by
  intro n;induction n with
  | zero=>intro k s _ h;omega
  | succ n b6=>
    intro k s aw aR au Q hq
    by_cases ye:k=m
    ·subst ye
     exact he s au _ fun r aO=>by
      cases r with
      | inl cr=>exact aO.elim
      | inr e=>exact hq e aO
    exact hs k s (by omega) au _ fun r aO=>by
     cases r with
     | inl cr=>exact b6 (k+1) cr (by omega) (by omega) aO Q hq
     | inr e=>exact hq e aO
 exact key ei 0 cE (by omega) (by unfold ei;omega) bO
theorem qU {ca:Type}{hp:aN ca}{p q:Nat}{k:ca} :pat ((p,k)::hp) q=if p=q then some k else pat hp q:=rfl
theorem Zs {ca:Type}{hp:aN ca}{p:Nat}(h:p ∉ eZ hp):pat hp p=none:=by
 cases e:pat hp p with
 | none=>rfl
 | some k=>exact absurd (jF e) h
theorem tq {ca:Type}{hp:aN ca}{p:Nat}{k k':ca}(h:pat hp p=some k'):pat (dr hp p k) p=some k:=by rw [CB,if_pos rfl,h];rfl
theorem m4 {ca:Type}{hp:aN ca}{p q:Nat}{k:ca}(h:p≠q):pat (dr hp p k) q=pat hp q:=by rw [CB,if_neg h]
theorem uU {α β:Type}[DecidableEq α]{l:List (α×β)}{x y:α}{v:β} :dW (gK l x v) y=if y=x then some v else dW l y:=by
 induction l with
 | nil=>
   show(if y=x then some v else dW [] y)=_
   rfl
 | cons a r b6=>
   obtain⟨k,w⟩:=a
   simp only [gK]
   by_cases h:x=k
   ·rw [if_pos h]
    simp only [dW]
    by_cases ae:y=x
    ·simp [ae]
    simp [ae,show ¬ y=k from fun e=>ae (by rw [e,h])]
   rw [if_neg h]
   simp only [dW]
   by_cases ae:y=k
   ·subst ae;simp [show ¬ y=x from fun e=>h e.symm]
   rw [if_neg ae,b6,if_neg ae]
end Gv
namespace Go.Proofs.YthkfkliknjiecaaGreat
open Go Gv
def fO (b:Bool):Nat:=bif b then 1 else 0
def c5 (hp:aN Cell):Ref→List Bool→Ref
 | none,_=>none
 | some p,[]=>some p
 | some p,b::a4=>match cZ hp p with
   | none=>none
   | some c=>c5 hp (bH c.df (fO b)) a4
theorem g7 {hp:aN Cell}{a4:List Bool} :c5 hp none a4=none:=by cases a4 <;> rfl
theorem m9 {hp:aN Cell}{r:Ref} :c5 hp r []=r:=by cases r <;> rfl
theorem h8 {hp:aN Cell}{p:Nat}{c:ec}{b:Bool}{a4:List Bool}(h:cZ hp p=some c):c5 hp (some p) (b::a4)=c5 hp (bH c.df (fO b)) a4:=by
 show(match cZ hp p with | none=>none | some c=>c5 hp (bH c.df (fO b)) a4)=_;rw [h]
theorem mH {hp:aN Cell} :∀ {r:Ref} {a4 cs:List Bool},c5 hp r (a4++cs)=c5 hp (c5 hp r a4) cs
 | none,a4,cs=>by rw [g7,g7,g7]
 | some p,[],cs=>by rw [List.nil_append,m9]
 | some p,b::a4,cs=>by
   cases e:cZ hp p with
   | none=>
     have aa:∀ xs,c5 hp (some p) (b::xs)=none:=fun xs=>by
      show(match cZ hp p with | none=>none | some c=>c5 hp (bH c.df (fO b)) xs)=_;rw [e]
     rw [List.cons_append,aa,aa,g7]
   | some c=>rw [List.cons_append,h8 e,h8 e,mH]
theorem Pq {hp hp':aN Cell} :∀ {r:Ref} {a4:List Bool},(∀ p cs,c5 hp r cs=some p→cZ hp' p=cZ hp p)→c5 hp' r a4=c5 hp r a4
 | none,a4,_=>by rw [g7,g7]
 | some p,[],_=>rfl
 | some p,b::a4,h=>by
   have bO:=h p [] rfl;show(match cZ hp' p with | none=>none | some c=>c5 hp' (bH c.df (fO b)) a4)=(match cZ hp p with | none=>none | some c=>c5 hp (bH c.df (fO b)) a4);rw [bO];cases e:cZ hp p with
   | none=>rfl
   | some c=>
     refine Pq fun q cs hq=>h q (b::cs) ?_
     rw [h8 e];exact hq
structure oW (hp:aN Cell)(root:Ref):Prop where
 reads:∀ a4 p,c5 hp root a4=some p→ ∃ c,cZ hp p=some c
 inj:∀ a4 cs p,c5 hp root a4=some p→c5 hp root cs=some p→a4=cs
 dep:∀ a4 p,c5 hp root a4=some p→a4.length≤32
def cont (hp:aN Cell)(root:Ref)(a4:List Bool):Option Int:=match c5 hp root a4 with
 | none=>none
 | some p=>match cZ hp p with
   | none=>none
   | some c=>bif c.fu then some c.hY else none
theorem kK {hp:aN Cell}{root:Ref}{a4:List Bool}{p:Nat}{c:ec}(h:c5 hp root a4=some p)(aj:cZ hp p=some c):cont hp root a4=bif c.fu then some c.hY else none:=by
 unfold cont;rw [h];simp only [aj]
theorem k7 {hp:aN Cell}{root:Ref}{a4:List Bool}(h:c5 hp root a4=none):cont hp root a4=none:=by
 unfold cont;rw [h]
theorem qb {hp:aN Cell}{p:Nat}{c:ec} :cZ hp p=some c↔pat hp p=some (.gM c):=by
 refine⟨jQ,fun h=>?_⟩;unfold cZ;rw [h]
theorem s6 {hp:aN Cell}{p:Nat}{c:fX} :gr hp p=some c↔pat hp p=some (.ky c):=by
 refine⟨nc,fun h=>?_⟩;unfold gr;rw [h]
theorem wU {hp hp':aN Cell}{p:Nat}(h:pat hp' p=pat hp p):cZ hp' p=cZ hp p:=by unfold cZ;rw [h]
theorem F0 {hp hp':aN Cell}{p:Nat}(h:pat hp' p=pat hp p):gr hp' p=gr hp p:=by unfold gr;rw [h]
structure fp (hp hp':aN Cell)(own:Nat→Prop):Prop where
 keys:∀ q,q∈eZ hp→q∈eZ hp'
 rest:∀ q,q∈eZ hp→ ¬ own q→pat hp' q=pat hp q
theorem fp.refl {hp:aN Cell}{own:Nat→Prop} :fp hp hp own:=⟨fun _ h=>h,fun _ _ _=>rfl⟩
theorem fp.mk' {hp:aN Cell}{own:Nat→Prop}{a:Nat}{k:Cell}(bb:a ∉ eZ hp):fp hp ((a,k)::hp) own:=
 ⟨fun q h=>List.mem_cons_of_mem _ h,fun q h _=>by rw [qU,if_neg (fun e:a=q=>bb (by rw [e];exact h))]⟩
theorem fp.up {hp:aN Cell}{own:Nat→Prop}{p:Nat}{k:Cell}(hp':own p):fp hp (dr hp p k) own:=
 ⟨fun q h=>by rw [sd];exact h,fun q h hq=>m4 (fun e:p=q=>hq (by rw [← e];exact hp'))⟩
theorem fp.trans {aa ae aG:aN Cell}{own own':Nat→Prop}(a:fp aa ae own)(b:fp ae aG own')(bg:∀ q,q∈eZ aa→own' q→own q):fp aa aG own:=
 ⟨fun q h=>b.keys q (a.keys q h),fun q h hq=>by rw [b.rest q (a.keys q h) fun de=>hq (bg q h de),a.rest q h hq]⟩
theorem YA (b:Bool):bH (default:ec).df (fO b)=none:=by cases b <;> rfl
theorem Pr {hp:aN Cell}{a:Nat}(h:cZ hp a=some (default:ec)):∀ a4,c5 hp (some a) a4=if a4= [] then some a else none
 | []=>rfl
 | b::a4=>by rw [h8 h,YA,g7];rfl
theorem JU {hp hp':aN Cell}{root:Ref}{ws:List Bool}{b:Bool}{p a:Nat}{c:ec}(bM:oW hp root)(hw:c5 hp root ws=some p)(aj:cZ hp p=some c)(aR:bH c.df (fO b)=none)(bb:cZ hp a=none)
 (cP:cZ hp' p=some { c with df:=dD c.df (fO b) (some a) }) (di:cZ hp' a=some default) (hR:∀ q,q≠p→q≠a→cZ hp' q=cZ hp q):
 ∀ (a4 us:List Bool) (q:Nat),c5 hp root us=some q→c5 hp' (some q) a4=if us++a4=ws++[b] then some a else c5 hp (some q) a4
 | [],us,q,hu=>by
   have: ¬ us++[]=ws++[b]:=fun e=>by
    rw [List.append_nil] at e;rw [e,mH,hw,h8 aj,aR,g7] at hu;cases hu
   rw [if_neg this];rfl
 | x::xs,us,q,hu=>by
   obtain⟨uD,oD⟩:=bM.reads us q hu;have nA:q≠a:=fun e=>by rw [e,bb] at oD;cases oD
   by_cases EE:q=p
   ·subst EE;have M3:=bM.inj us ws q hu hw;subst M3;rw [aj] at oD;cases oD;rw [h8 cP,h8 aj];simp only;have cf:fO b<2:=by cases b <;> decide
    rw [iW _ _ cf];by_cases yh:x=b
    ·subst yh;rw [if_pos rfl,aR,g7,Pr di];by_cases h:xs= []
     ·subst h;rw [if_pos rfl,if_pos rfl]
     rw [if_neg h,if_neg fun e=>h ?_];have:=List.append_cancel_left e;simpa using this
    have db: ¬ fO x=fO b:=fun e=>yh (by cases x <;> cases b <;> first | rfl | cases e);have gf: ¬ us++x::xs=us++[b]:=fun e=>yh (by have:=List.append_cancel_left e;simpa using (List.cons.inj this).1);rw [if_neg db,if_neg gf];cases e:bH c.df (fO x) with
    | none=>rw [g7,g7]
    | some m0=>
      have ny:c5 hp root (us++[x])=some m0:=by rw [mH,hu,h8 aj,e,m9]
      rw [JU bM hw aj aR bb cP di hR xs (us++[x]) m0 ny,List.append_assoc,List.singleton_append,if_neg gf]
   have aa:cZ hp' q=some uD:=by rw [hR q EE nA];exact oD
   rw [h8 aa,h8 oD];cases e:bH uD.df (fO x) with
   | none=>
     have gf: ¬ us++x::xs=ws++[b]:=fun aX=>by
      have agI:c5 hp root (us++[x])=none:=by rw [mH,hu,h8 oD,e,g7]
      rcases List.eq_nil_or_concat xs with rfl | ⟨ys,y,rfl⟩
      ·have:=(List.append_inj_left' aX rfl);subst this;rw [hu] at hw;cases hw;exact EE rfl
      have aG:us++x::ys=ws:=by
       have:(us++x::ys)++[y]=ws++[b]:=by simpa using aX
       exact List.append_inj_left' this rfl
      rw [← aG,show us++x::ys=(us++[x])++ys by simp,mH,agI,g7] at hw;cases hw
     rw [g7,g7,if_neg gf]
   | some m0=>
     have ny:c5 hp root (us++[x])=some m0:=by rw [mH,hu,h8 oD,e,m9]
     rw [JU bM hw aj aR bb cP di hR xs (us++[x]) m0 ny,List.append_assoc,List.singleton_append]
theorem grow {hp hp':aN Cell}{r:Nat}{ws:List Bool}(hd:ws.length<32){b:Bool}{p a:Nat}{c:ec}(bM:oW hp (some r))(hw:c5 hp (some r) ws=some p)(aj:cZ hp p=some c)(aR:bH c.df (fO b)=none)(bb:cZ hp a=none)
 (cP:cZ hp' p=some { c with df:=dD c.df (fO b) (some a) }) (di:cZ hp' a=some default) (hR:∀ q,q≠p→q≠a→cZ hp' q=cZ hp q):
 oW hp' (some r)∧ (∀ a4,c5 hp' (some r) a4=if a4=ws++[b] then some a else c5 hp (some r) a4)∧ ∀ a4,cont hp' (some r) a4=cont hp (some r) a4:=by
 have a2:∀ a4,c5 hp' (some r) a4=if a4=ws++[b] then some a else c5 hp (some r) a4:=fun a4=>JU bM hw aj aR bb cP di hR a4 [] r rfl
 have Ib:∀ a4,c5 hp (some r) a4≠some a:=fun a4 h=>by
  obtain⟨c,aa⟩:=bM.reads a4 a h;rw [bb] at aa;cases aa
 have M4:c5 hp (some r) (ws++[b])=none:=by rw [mH,hw,h8 aj,aR,g7]
 refine⟨⟨fun a4 q h=>?_,fun a4 cs q aa ae=>?_,fun a4 q h=>?_⟩,a2,fun a4=>?_⟩
 ·rw [a2] at h
  split at h
  ·cases h;exact⟨_,di⟩
  obtain⟨j4,aa⟩:=bM.reads a4 q h
  by_cases e:q=p
  ·subst e;exact⟨_,cP⟩
  exact⟨j4,by rw [hR q e fun aX=>Ib a4 (aX ▸ h)];exact aa⟩
 ·rw [a2] at aa ae
  split at aa <;> split at ae
  ·rename_i aq aX;rw [aq,aX]
  ·cases aa;exact absurd ae (Ib cs)
  ·cases ae;exact absurd aa (Ib a4)
  exact bM.inj a4 cs q aa ae
 ·rw [a2] at h
  split at h
  ·rename_i e;rw [e];simp;omega
  exact bM.dep a4 q h
 by_cases e:a4=ws++[b]
 ·subst e
  rw [k7 M4,kK (by rw [a2,if_pos rfl]) di];rfl
 have yi:c5 hp' (some r) a4=c5 hp (some r) a4:=by rw [a2,if_neg e]
 cases h:c5 hp (some r) a4 with
 | none=>rw [k7 h,k7 (yi.trans h)]
 | some q=>
   obtain⟨j4,aa⟩:=bM.reads a4 q h
   by_cases eq:q=p
   ·subst eq
    rw [aj] at aa;cases aa
    rw [kK h aj,kK (yi.trans h) cP]
   rw [kK h aa,kK (yi.trans h) (by rw [hR q eq fun aX=>Ib a4 (aX ▸ h)];exact aa)]
theorem Cs {hp hp':aN Cell}{p:Nat}{c j4:ec}(aj:cZ hp p=some c)(mW:cZ hp' p=some j4)(he:j4.df=c.df)(h:∀ q,q≠p→cZ hp' q=cZ hp q):∀ (a4:List Bool) (r:Ref),c5 hp' r a4=c5 hp r a4
 | a4,none=>by rw [g7,g7]
 | [],some q=>rfl
 | b::a4,some q=>by
   by_cases e:q=p
   ·subst e;rw [h8 aj,h8 mW,he];exact Cs aj mW he h a4 _
   cases aX:cZ hp q with
   | none=>
     show(match cZ hp' q with | none=>none | some c=>c5 hp' (bH c.df (fO b)) a4)=(match cZ hp q with | none=>none | some c=>c5 hp (bH c.df (fO b)) a4)
     rw [h q e,aX]
   | some d=>rw [h8 aX,h8 (by rw [h q e];exact aX)];exact Cs aj mW he h a4 _
theorem TC {hp hp':aN Cell}{root:Ref}{ws:List Bool}{p:Nat}{c j4:ec}(bM:oW hp root)(hw:c5 hp root ws=some p)(aj:cZ hp p=some c)(mW:cZ hp' p=some j4)(he:j4.df=c.df)(h:∀ q,q≠p→cZ hp' q=cZ hp q):
 oW hp' root∧ ∀ a4,cont hp' root a4=if a4=ws then(bif j4.fu then some j4.hY else none) else cont hp root a4:=by
 have a2:=Cs aj mW he h
 refine⟨⟨fun a4 q hq=>?_,fun a4 cs q aa ae=>bM.inj a4 cs q (by rw [← a2];exact aa) (by rw [← a2];exact ae),fun a4 q hq=>bM.dep a4 q (by rw [← a2];exact hq)⟩,fun a4=>?_⟩
 ·rw [a2] at hq
  obtain⟨d,aa⟩:=bM.reads a4 q hq
  by_cases e:q=p
  ·subst e;exact⟨_,mW⟩
  exact⟨d,by rw [h q e];exact aa⟩
 by_cases e:a4=ws
 ·subst e;rw [if_pos rfl,kK (by rw [a2];exact hw) mW]
 rw [if_neg e]
 cases aa:c5 hp root a4 with
 | none=>rw [k7 aa,k7 (by rw [a2];exact aa)]
 | some q=>
   obtain⟨d,ae⟩:=bM.reads a4 q aa
   have EE:q≠p:=fun aX=>e (bM.inj a4 ws p (aX ▸ aa) hw)
   rw [kK aa ae,kK (by rw [a2];exact aa) (by rw [h q EE];exact ae)]
theorem iJ {α:Type}{b:Nat}(xs ys:List α)(h:xs.length+ys.length≤1000000)(hb:b≤100000):g9 b xs ys=some (xs++ys):=by
 unfold g9;rw [if_pos];unfold maxLen;refine⟨Nat.le_trans (Nat.mul_le_mul h hb) (by omega),by omega⟩
def hD (c:bq):Prop:=0≤c.tI∧c.cg.length≤1000
theorem Ki (l:List (BitVec 8))(n:Int)(bO:0≤n)(aa:n≤1000):bk (wQ l n) hD:=by
 unfold wQ;refine .eq (a:=(l.drop 0).take ((min (l.length:Int) n).toNat - 0)) ?_ (.ret ⟨Int.le_refl 0,?_⟩)
 ·unfold q1;rw [if_pos ⟨by omega,by omega,by omega⟩];rfl
 simp only [List.length_take,List.length_drop];omega
theorem gJ (c:bq)(n:Int)(aj:hD c)(aR:1≤n):bk (gi c n) (fun r=>hD r.2∧0≤r.1∧r.1<n∧r.1<256):=by
 unfold gi FE;obtain⟨l,a⟩:=c;obtain⟨bO,aa⟩:=aj;simp only at bO aa;obtain⟨k,rfl⟩:=Int.eq_ofNat_of_zero_le bO;refine .eq rfl (.cond (fun _=>.ret ⟨⟨bO,aa⟩,by omega,by omega,by omega⟩) fun h=>?_);simp only [Bool.or_eq_false_iff,Bool.not_eq_false',decide_eq_true_eq,decide_eq_false_iff_not] at h;have aq:bt ((k:Int)+1)=((k+1:Nat):Int):=e2 (by omega);simp only [aq];have aX:bt (((k+1:Nat):Int) - 1)=(k:Int):=by rw [ho (by omega) (by omega)];omega
 rw [aX];refine .idx rfl (by omega) (.eq (by unfold vE;rw [if_neg (by omega)]) (.ret ⟨⟨by simp only;omega,aa⟩,?_,?_,?_⟩))
 ·exact Int.tmod_nonneg _ (by omega)
 ·exact Int.tmod_lt_of_pos _ (by omega)
 simp only;have aG:(aF l k).toNat<256:=(aF l k).isLt;obtain⟨m,rfl⟩:=Int.eq_ofNat_of_zero_le (show 0≤n by omega);have a0:(((aF l k).toNat:Int)).tmod m=(((aF l k).toNat % m:Nat):Int):=(Int.ofNat_tmod _ _).symm;have a7:=Nat.mod_le (aF l k).toNat m;omega
theorem oQ (c:bq)(aj:hD c):bk (mE c) (fun r=>hD r.2):=by
 unfold mE;exact .bind (gJ c 2 aj (by omega)) fun y h=>.ret h.1
theorem XQ (c:bq)(aj:hD c):bk (Bj c) (fun r=>hD r.2∧r.1.length=3):=by
 unfold Bj;refine .bind (gJ c 4 aj (by omega)) fun aE aa=>?_;refine .eq (xa aa.2.1 (by simpa using aa.2.2.1)) (.eq rfl (.eq rfl (.bind (oQ _ aa.1) fun aK ae=>?_)));refine .bind (P:=fun m=>hD m.1) (.cond (fun _=>?_) (fun _=>.ret ae)) fun bl cx=>?_
 ·refine .bind (gJ _ 2 ae (by omega)) fun ck bn=>.eq rfl (.bind (gJ _ 4 bn.1 (by omega)) fun cQ dn=>?_);exact .eq (xa dn.2.1 (by simpa using dn.2.2.1)) (.eq rfl (.eq (iJ _ _ (by simp) (by omega)) (.ret dn.1)))
 refine .bind (gJ _ 4 cx (by omega)) fun bs aG=>.eq (xa aG.2.1 (by simpa using aG.2.2.1)) (.eq rfl (.eq rfl ?_));refine .bind (gJ _ 3 aG.1 (by omega)) fun bG a0=>?_;refine .bind (P:=fun m=>hD m.1) (.cond (fun _=>?_) (fun _=>.ret a0.1)) fun cF ef=>.ret ⟨ef,rfl⟩;exact .bind (gJ _ 3 a0.1 (by omega)) fun cz a7=>.eq rfl (.ret a7.1)
def q6 (a:eB):Int×List Int:=(a.bP,a.lq.map (·.fQ))
def Ak:List (Int×List Int):= [(1,[]),(2,[]),(3,[16]),(4,[4]),(5,[4,12]),(6,[])]
theorem Zt {α β:Type}[Inhabited α](f:α→β)(l:List α)(k:Nat)(x:α)(h:f x=f (aF l k)):(eV l k x).map f=l.map f:=by
 unfold eV;apply List.ext_getElem
 ·simp
 intro i aa ae;simp only [List.length_map,List.length_set] at aa;simp only [List.getElem_map,List.getElem_set];split
 ·rename_i e;subst e;rw [h,eO l aa]
 rfl
theorem Ge {α β:Type}[Inhabited α](f:α→β){l:List α}{k:Nat}{x:α}{r:List β}(h:f x=f (aF l k))(an:l.map f=r):(eV l k x).map f=r:=(Zt f l k x h).trans an
theorem Xt (c:bq)(aj:hD c):bk (Bb c) (fun r=>hD r.2∧r.1.map q6=Ak):=by
 unfold Bb;refine .eq rfl (.eq rfl (.eq rfl (.eq rfl (.eq rfl (.eq rfl (.eq rfl (.eq rfl (.eq rfl (.eq rfl (.eq rfl (.eq rfl (.eq rfl ?_))))))))))));refine .bind (gJ _ 2 aj (by omega)) fun aE aa=>.eq rfl (.bind (gJ _ 256 aa.1 (by omega)) fun aK ae=>.eq rfl (.eq rfl (.eq rfl ?_)));refine .bind (oQ _ ae.1) fun bs aG=>?_;refine .bind (P:=fun m=>m.map q6=Ak) (.cond (fun _=>?_) (fun _=>.ret rfl)) fun bl cx=>?_
 ·exact .idx (k:=2) rfl (by simp) (.eq rfl (.ret (Ge q6 rfl rfl)))
 refine .bind (oQ _ aG) fun bG a0=>.bind (P:=fun m=>m.map q6=Ak) (.cond (fun _=>?_) (fun _=>.ret cx)) fun cF ef=>.ret ⟨a0,ef⟩;have an:bl.length=6:=by rw [← List.length_map (f:=q6),cx];rfl
 exact .idx (k:=4) rfl (by omega) (.eq rfl (.ret (Ge q6 rfl cx)))
def p3:c6:= { cH:=ByteArray.mk #[97],hB:=4,dp:=1 }
def yy:c6:= { cH:=ByteArray.mk #[100],hB:=7,dp:=2 }
def Iy:c6:= { cH:=ByteArray.mk #[109],hB:=3,dp:=1 }
def E2:c6:= { cH:=ByteArray.mk #[101],hB:=6,dp:=3 }
def EF:c6:= { cH:=ByteArray.mk #[97],hB:=4,dp:=3 }
def NK:c6:= { cH:=ByteArray.mk #[98],hB:=5,dp:=1 }
def E3:c6:= { cH:=ByteArray.mk #[102],hB:=8,dp:=4 }
def NL:c6:= { cH:=ByteArray.mk #[103],hB:=9,dp:=1 }
def o4 (t:b2):Int×List Int×List c6:=(t.bP,t.dV,t.cn)
def nO (b:Bool):List c6:=if b then [yy,Iy] else [yy]
def xF (b:Bool):List c6:=if b then [E2,EF,NK] else [E2,EF]
def xG (b:Bool):List c6:=if b then [E3,NL,yy] else [E3]
def tN (dT ew iH:Bool):List (Int×List Int×List c6):=
 [(1,[1,2,4],[p3]),(2,[1,2,3,4],nO dT),(3,[1,2,3,5,6],xF ew),(4,[1,3,5],xG iH)]
theorem XR (c:bq)(aj:hD c):bk (Bl c) (fun r=>hD r.2∧ (∀ x∈r.1.map (·.hn),2≤x∧x≤12)∧ ∃ dT ew iH,r.1.map o4=tN dT ew iH):=by
 unfold Bl;refine .eq rfl (.bind (gJ _ 2 aj (by omega)) fun aE aa=>.bind (gJ _ 5 aa.1 (by omega)) fun aK ae=>.eq rfl (.eq rfl ?_));refine .bind (gJ _ 6 ae.1 (by omega)) fun bs aG=>.bind (oQ _ aG.1) fun bG a0=>?_;refine .bind (P:=fun m=>(m.1.bP=2∧m.1.dV= [1,2,3,4]∧m.1.hn=bt (3+bs.1))∧ ∃ b,m.2=nO b) (.cond (fun _=>?_) (fun _=>.ret ⟨⟨rfl,rfl,rfl⟩,false,rfl⟩)) fun bl cx=>?_
 ·exact .eq rfl (.eq (iJ _ _ (by simp) (by omega)) (.ret ⟨⟨rfl,rfl,rfl⟩,true,rfl⟩))
 refine .eq rfl (.eq rfl (.bind (gJ _ 6 a0 (by omega)) fun cz a7=>.bind (oQ _ a7.1) fun ck bn=>?_));refine .bind (P:=fun m=>(m.1.bP=3∧m.1.dV= [1,2,3,5,6]∧m.1.hn=bt (4+cz.1))∧ ∃ b,m.2=xF b) (.cond (fun _=>?_) (fun _=>.ret ⟨⟨rfl,rfl,rfl⟩,false,rfl⟩)) fun cF ef=>?_
 ·exact .eq rfl (.eq (iJ _ _ (by simp) (by omega)) (.ret ⟨⟨rfl,rfl,rfl⟩,true,rfl⟩))
 refine .eq rfl (.bind (gJ _ 5 bn (by omega)) fun cQ dn=>.bind (oQ _ dn.1) fun dO fh=>?_);refine .bind (P:=fun m=>(m.1.bP=4∧m.1.dV= [1,3,5]∧m.1.hn=bt (3+cQ.1))∧ ∃ b,m.2=xG b) (.cond (fun _=>?_) (fun _=>.ret ⟨⟨rfl,rfl,rfl⟩,false,rfl⟩)) fun fg gY=>?_
 ·exact .eq rfl (.eq rfl (.eq (iJ _ _ (by simp) (by omega)) (.ret ⟨⟨rfl,rfl,rfl⟩,true,rfl⟩)))
 refine .eq rfl (.eq rfl (.eq rfl (.eq rfl (.eq rfl ?_))));obtain⟨⟨c8,c2,km⟩,dT,gG⟩:=cx;obtain⟨⟨br,cD,lk⟩,ew,g3⟩:=ef;obtain⟨⟨d1,d2,d4⟩,iH,d3⟩:=gY;refine bk.loop 4 (fun k s=>s.1=(k:Int)∧s.2.1.map o4=tN dT ew iH∧hD s.2.2∧s.2.1.map (·.hn)= [bt (2+aK.1),bt (3+bs.1),bt (4+cz.1),bt (3+cQ.1)]) (by omega) ⟨rfl,?_,fh,?_⟩ (fun k s aw au=>?_) (fun s au=>?_)
 ·simp only [List.map_cons,List.map_nil,o4,c8,c2,gG,br,cD,g3,d1,d2,d3,tN];rfl
 ·simp only [List.map_cons,List.map_nil,km,lk,d4]
 ·obtain⟨i,ig,yz⟩:=s;obtain⟨aq,aX,dd,g2⟩:=au;simp only at aq aX dd g2;subst aq;refine bk.cond (fun _=>?_) (fun h=>by simp at h;omega);have an:ig.length=4:=by rw [← List.length_map (f:=o4),aX];rfl
  refine .idx rfl (by simpa using aw) (.bind (gJ _ 3 dd (by omega)) fun hy gh=>.eq (xa gh.2.1 ?_) (.idx rfl (by simp only;omega) (.eq rfl (.ret ⟨e2 (by omega),?_,gh.1,?_⟩))))
  ·have jM:=gh.2.2.1;have:k=0∨k=1∨k=2∨k=3:=by omega
   rcases this with rfl | rfl | rfl | rfl <;> exact jM
  ·exact Ge o4 rfl aX
  exact Ge b2.hn rfl g2
 obtain⟨i,ig,yz⟩:=s;obtain⟨aq,aX,dd,g2⟩:=au;simp only at aq aX dd g2;subst aq;refine⟨_,rfl,?_⟩;refine .ret ⟨dd,fun x ar=>?_,dT,ew,iH,aX⟩;rw [g2] at ar;have a3:=ae.2;have bx:=aG.2;have hx:=a7.2;have aiL:=dn.2;simp only [List.mem_cons,List.not_mem_nil,or_false] at ar;rcases ar with rfl | rfl | rfl | rfl <;> (rw [ho (by omega) (by omega)];omega)
theorem QA (n:Nat)(h:n≤1000):x2 (α:=Bool) 1 (n:Int)=some (List.replicate n default):=by
 unfold x2;rw [if_pos ⟨by omega,by omega,by omega⟩];simp
theorem YB (c:bq)(ig:List b2)(aj:hD c)(an:ig.length≤1000)(aw:∀ t∈ig,t.cn.length≤1000):bk (By c ig) (fun r=>hD r.2∧r.1.map (·.bP)= [1,2,7]):=by
 unfold By;refine .bind (gJ _ 3 aj (by omega)) fun aE aa=>.bind (gJ _ 6 aa.1 (by omega)) fun aK ae=>.bind (gJ _ 6 ae.1 (by omega)) fun bs aG=>.bind (gJ _ 4 aG.1 (by omega)) fun bG a0=>?_;refine bk.loop ig.length (fun k s=>s.1=(k:Int)∧hD s.2.2.2.1∧s.2.2.1.length≤k∧s.2.2.2.2.2.1.length≤k∧s.2.2.2.2.2.2.2.length≤k∧s.2.1.bP=7∧s.2.2.2.2.1.bP=2∧s.2.2.2.2.2.2.1.bP=1) (by omega) ⟨rfl,a0.1,by simp,by simp,by simp,rfl,rfl,rfl⟩ (fun k s l2 au=>?_) (fun s au=>?_)
 ·obtain⟨i,js,ao,yz,gP,a3,ph,bx⟩:=s;obtain⟨aq,aX,dd,g2,jA,i1,i2,i3⟩:=au;simp only at aq aX dd g2 jA i1 i2 i3;subst aq;refine bk.cond (fun _=>?_) (fun h=>by simp at h;omega);have TD:(aF ig k).cn.length≤1000:=aw _ (by rw [eO ig l2];exact List.getElem_mem l2);refine .idx rfl l2 (.eq (QA _ TD) (.eq (QA _ TD) ?_));refine bk.loop (aF ig k).cn.length (fun j s=>s.1=(j:Int)∧s.2.1.length=(aF ig k).cn.length∧s.2.2.1.length=(aF ig k).cn.length∧hD s.2.2.2) (by omega) ⟨rfl,by simp,by simp,aX⟩ (fun j s aH au=>?_) (fun s au=>?_)
  ·obtain⟨i,dT,ew,agJ⟩:=s;obtain⟨f1,f2,f3,f4⟩:=au;simp only at f1 f2 f3 f4;subst f1;refine bk.cond (fun _=>?_) (fun h=>by simp at h;omega);exact .bind (gJ _ 4 f4 (by omega)) fun cQ dn=>.idx rfl (by simp only;omega) (.idx rfl (by simp only;omega) (.ret ⟨e2 (by omega),by simp [eV,f2],by simp [eV,f3],dn.1⟩))
  obtain⟨i,dT,ew,agJ⟩:=s;obtain⟨f1,f2,f3,f4⟩:=au;simp only at f1 f2 f3 f4;subst f1;refine⟨_,by simp;rfl,?_⟩;refine .eq rfl (.eq (iJ _ _ (by simp;omega) (by omega)) (.bind (gJ _ 4 f4 (by omega)) fun hy gh=>?_));refine .bind (P:=fun m=>hD m.1∧m.2.2.length≤k+1∧m.2.1.bP=2) (.cond (fun _=>?_) (fun _=>.ret ⟨gh.1,by simp only;omega,i2⟩)) fun bl cx=>?_
  ·exact .bind (gJ _ 4 gh.1 (by omega)) fun h1 Ic=>.bind (oQ _ Ic.1) fun jL qG=>.eq rfl (.eq (iJ _ _ (by simp;omega) (by omega)) (.ret ⟨qG,by simp;omega,i2⟩))
  refine .bind (oQ _ cx.1) fun jn jM=>?_;refine .bind (P:=fun m=>hD m.1∧m.2.2.length≤k+1∧m.2.1.bP=7) (.cond (fun _=>?_) (fun _=>.ret ⟨jM,by simp only;omega,i1⟩)) fun cF ef=>?_
  ·exact .bind (oQ _ jM) fun iB qH=>.bind (oQ _ qH) fun gv v3=>.eq rfl (.eq (iJ _ _ (by simp;omega) (by omega)) (.ret ⟨v3,by simp;omega,i1⟩))
  exact .ret ⟨e2 (by omega),ef.1,ef.2.1,cx.2.1,by simp;omega,ef.2.2,cx.2.2,i3⟩
 obtain⟨i,js,ao,yz,gP,a3,ph,bx⟩:=s;obtain⟨aq,aX,dd,g2,jA,i1,i2,i3⟩:=au;simp only at aq aX dd g2 jA i1 i2 i3;subst aq;refine⟨_,by simp;rfl,?_⟩;exact .eq rfl (.eq rfl (.ret ⟨aX,by simp only [List.map_cons,List.map_nil,i1,i2,i3]⟩))
def L1:List (Int×Int):= [(1,16),(2,16),(3,8),(4,4),(5,4),(6,8),(7,32),(8,12),(9,4)]
def Dn (f:gj):Int×Int:=(f.bP,f.fQ)
structure c1 (s:aZ):Prop where
 fields:s.fY.map Dn=L1
 headers:s.m3.length=3
 Rr:s.nG.length=3
 Kj:s.dV.map q6=Ak
 tables:∃ dT ew iH,s.bE.map o4=tN dT ew iH
 SL:s.kJ.map (·.bP)= [1,2,7]
 adg:∀ x∈s.bE.map (·.hn),2≤x∧x≤12
theorem c1.afy {s:aZ}(h:c1 s):s.kJ.length=3:=by rw [← List.length_map (f:=(·.bP)),h.SL];rfl
theorem c1.sy {s:aZ}(h:c1 s):s.fY.length=9:=by rw [← List.length_map (f:=Dn),h.fields];rfl
theorem c1.kS {s:aZ}(h:c1 s):s.bE.length=4:=by obtain⟨dT,ew,iH,aa⟩:=h.tables;rw [← List.length_map (f:=o4),aa];rfl
theorem c1.L3 {s:aZ}(h:c1 s):s.dV.length=6:=by rw [← List.length_map (f:=q6),h.Kj];rfl
theorem O5 (c:bq)(aj:hD c):bk (yI c) (fun r=>c1 r.1∧hD r.2):=by
 unfold yI;refine .bind (gJ _ 8 aj (by omega)) fun aE aa=>.bind (gJ _ 30 aa.1 (by omega)) fun aK ae=>?_;refine .eq rfl (.eq rfl (.eq rfl (.eq rfl (.eq rfl (.eq rfl (.eq rfl (.eq rfl (.eq rfl (.eq rfl (.eq rfl (.eq rfl ?_)))))))))));refine .bind (XQ _ ae.1) fun bs aG=>.bind (Xt _ aG.1) fun bG a0=>.bind (XR _ a0.1) fun cz a7=>.eq rfl (.eq rfl ?_);obtain⟨agK,eL,dT,ew,iH,a7⟩:=a7;have an:cz.1.length=4:=by rw [← List.length_map (f:=o4),a7];rfl
 have adh:∀ t∈cz.1,t.cn.length≤1000:=fun t bM=>by
  have bn:o4 t∈tN dT ew iH:=a7 ▸ List.mem_map_of_mem bM;have dn:∀ p∈tN dT ew iH,p.2.2.length≤1000:=by
   intro p hp;simp only [tN,List.mem_cons,List.not_mem_nil,or_false] at hp;rcases hp with rfl | rfl | rfl | rfl
   ·simp
   ·cases dT <;> simp [nO]
   ·cases ew <;> simp [xF]
   cases iH <;> simp [xG]
  exact dn _ bn
 refine .bind (YB _ _ agK (by simp only;omega) adh) fun ck bn=>.eq rfl (.bind (oQ _ bn.1) fun cQ dn=>?_);let Inv (s:aZ):Prop:=s.fY.map Dn=L1∧s.m3.length=3∧s.nG.length=3∧s.dV.map q6=Ak∧s.bE=cz.1∧s.kJ.map (·.bP)= [1,2,7];have hinv:∀ (st:List gC) (UR:List fK) (s:aZ),Inv s→Inv { s with oN:=st,pB:=UR } :=fun st UR s h=>h;refine .bind (P:=fun _=>True) (.cond (fun _=>.eq (iJ _ _ (by simp) (by omega)) (.ret trivial)) (fun _=>.ret trivial)) fun bl _=>?_;refine .bind (oQ _ dn) fun dO fh=>?_;refine .bind (P:=fun m=>Inv m.1∧m.2.length≤10) (.cond (fun _=>.eq rfl (.eq (iJ _ _ (by simp) (by omega)) (.ret ⟨⟨rfl,rfl,aG.2,a0.2,rfl,bn.2⟩,by simp⟩))) (fun _=>.ret ⟨⟨rfl,rfl,aG.2,a0.2,rfl,bn.2⟩,by simp⟩)) fun cF ef=>?_;refine .bind (oQ _ fh) fun hy gh=>?_;refine .cu (P:=fun _=>True) (fun _=>⟨2,mG (k:=2) (by rw [ef.1.2.2.2.2.1];omega),trivial⟩) fun aW _=>?_;refine .bind (P:=fun m=>Inv m.1∧m.2.length≤11) (.cond (fun _=>.eq rfl (.eq (iJ _ _ (by have:=ef.2;simp;omega) (by omega)) (.ret ⟨ef.1,by have:=ef.2;simp;omega⟩))) (fun _=>.ret ⟨ef.1,by have:=ef.2;simp only;omega⟩)) fun fg gY=>?_;refine .bind (oQ _ gh) fun jn jM=>?_;refine .cu (P:=fun _=>True) (fun _=>⟨3,mG (k:=3) (by rw [gY.1.2.2.2.2.1];omega),trivial⟩) fun bI _=>?_;refine .bind (P:=fun m=>Inv m.1∧m.2.length≤13) (.cond (fun _=>.eq rfl (.eq rfl (.eq (iJ _ _ (by have:=gY.2;simp;omega) (by omega)) (.ret ⟨gY.1,by have:=gY.2;simp;omega⟩)))) (fun _=>.ret ⟨gY.1,by have:=gY.2;simp only;omega⟩)) fun ll x0=>?_;obtain⟨⟨i1,i2,i3,i4,i5,i6⟩,_⟩:=x0;exact .eq rfl (.ret ⟨⟨i1,i2,i3,i4,⟨dT,ew,iH,by simp only [i5];exact a7⟩,i6,by simp only [i5];exact eL⟩,jM⟩)
theorem c1.size {s:aZ}(h:c1 s){k:Nat}(aw:k<4):2≤ (aF s.bE k).hn∧ (aF s.bE k).hn≤12:=by
 have an:=h.kS;exact h.adg _ (List.mem_map.2 ⟨_,by rw [eO _ (by omega)];exact List.getElem_mem _,rfl⟩)
theorem aao (x:Int)(n:Int)(aa:1≤n)(ae:n≤1000000):bk (zp x n) (fun r=>0≤r∧r<n):=by
 unfold zp;refine .cond (fun h=>by simp at h;omega) fun _=>?_;have hm:∀ y:Int,vE y n=some (y.tmod n):=fun y=>by unfold vE;rw [if_neg (by omega)]
 refine .eq (hm _) ?_;have aG:=Int.tmod_lt_of_pos x (show 0<n by omega);have a0: -n<x.tmod n:=by
  have:=Int.tmod_lt_of_pos (-x) (show 0<n by omega);rw [Int.neg_tmod] at this;omega
 rw [ho (by omega) (by omega)];exact .eq (hm _) (.ret ⟨Int.tmod_nonneg _ (by omega),Int.tmod_lt_of_pos _ (by omega)⟩)
def ct (v:az)(i:Nat):Bool:=if i<64 then v.bX.getLsbD i else v.dg.getLsbD (i - 64)
theorem CR {v w:az}(h:∀ j,j<128→ct v j=ct w j):v=w:=by
 cases v with | mk ahA ahB=>cases w with | mk ahC wl=>
 have aa:ahA=ahC:=by
  apply BitVec.eq_of_getLsbD_eq;intro i au;have:=h (i+64) (by omega);simpa [ct,show ¬ (i+64<64) by omega] using this
 have ae:ahB=wl:=by
  apply BitVec.eq_of_getLsbD_eq;intro i au;have:=h i (by omega);simpa [ct,au] using this
 rw [aa,ae]
theorem zD (j:Nat):ct default j=false:=by
 unfold ct;split <;> exact BitVec.getLsbD_zero
def tO (x y:az):az:= { dg:=x.dg&&&y.dg,bX:=x.bX&&&y.bX }
def Uh (x y:az):az:= { dg:=x.dg|||y.dg,bX:=x.bX|||y.bX }
def L4 (x y:az):az:= { dg:=x.dg ^^^ y.dg,bX:=x.bX ^^^ y.bX }
@[simp] theorem zE (x y:az) (j:Nat):ct (tO x y) j=(ct x j&&ct y j):=by unfold ct tO;split <;> simp
@[simp] theorem ahQ (x y:az) (j:Nat):ct (Uh x y) j=(ct x j||ct y j):=by unfold ct Uh;split <;> simp
@[simp] theorem aap (x y:az) (j:Nat):ct (L4 x y) j=(ct x j ^^ ct y j):=by unfold ct L4;split <;> simp
theorem and_eq (x y:az):uQ x y=some (tO x y):=rfl
theorem xor_eq (x y:az):B7 x y=some (L4 x y):=rfl
theorem zF (x:az):bk (r1 x) (fun r=> ∀ j,j<128→bH r j=ct x j):=by
 unfold r1;refine bk.loop 64 (fun k s=>s.1=k∧ ∀ j,j<128→bH s.2 j=(decide (j % 64<k)&&ct x j)) (by omega)
  ⟨rfl,fun j aH=>by simp [FV]⟩ (fun k s aw au=>?_) (fun s au=>?_)
 ·obtain⟨i,v⟩:=s;obtain⟨aa,ae⟩:=au;simp only at aa ae;subst aa;have aq:bt ((k:Int)+64)=((k+64:Nat):Int):=by rw [ho (by omega) (by omega)];simp
  refine bk.cond (fun _=>?_) (fun h=>by simp at h;omega);refine bk.idx rfl (show k<128 by omega) (.eq rfl (.idx aq (show k+64<128 by omega) (.eq rfl (.ret ⟨e2 (by omega),fun j aH=>?_⟩))));simp only [iW _ _ (show k<128 by omega),iW _ _ (show k+64<128 by omega),qe (show k<2 ^ 64 by omega),Zr,ae j aH];by_cases qz:j=k+64
  ·subst qz;have aa:(k+64) % 64<k+1:=by omega
   have ae: ¬ (k+64<64):=by omega
   simp only [ct,aa,ae,if_true,if_false,decide_true,Bool.true_and,Nat.add_sub_cancel]
  by_cases nv:j=k
  ·subst nv;have:j % 64<j+1:=by omega
   simp [ct,this,aw]
  rw [if_neg qz,if_neg nv];congr 1;rw [decide_eq_decide];omega
 obtain⟨i,v⟩:=s;obtain⟨aa,ae⟩:=au;simp only at aa ae;subst aa;refine⟨_,rfl,.ret fun j aH=>?_⟩;have:j % 64<64:=by omega
 simp [ae j aH,this]
theorem aaq (x:Vector Bool 128):bk (B2 x) (fun r=> ∀ j,j<128→ct r j=bH x j):=by
 unfold B2;refine bk.loop 64 (fun k s=>s.1=k∧ ∀ j,j<128→ct s.2 j=(decide (j % 64<k)&&bH x j)) (by omega)
  ⟨rfl,fun j aH=>by simp [zD]⟩ (fun k s aw au=>?_) (fun s au=>?_)
 ·obtain⟨i,v⟩:=s;obtain⟨aa,ae⟩:=au;simp only at aa ae;subst aa;have aq:bt ((k:Int)+64)=((k+64:Nat):Int):=by rw [ho (by omega) (by omega)];simp
  refine bk.cond (fun _=>?_) (fun h=>by simp at h;omega);refine bk.idx rfl (show k<128 by omega) (.bind (P:=fun w=> ∀ j,j<128→ct w j=(ct v j||(bH x k&&decide (j=k)))) (.cond (fun hb=>.ret fun j aH=>?_) (fun hb=>.ret fun j aH=>by simp [hb])) fun w hw=>?_)
  ·simp only [ct,qe (show k<2 ^ 64 by omega),BitVec.getLsbD_or,Pp,hb,Bool.true_and];split
   ·rename_i h;simp [h]
   have:j≠k:=by omega
   simp [this]
  refine .idx aq (show k+64<128 by omega) (.bind (P:=fun u=> ∀ j,j<128→ct u j=(ct w j||(bH x (k+64)&&decide (j=k+64)))) (.cond (fun hb=>.ret fun j aH=>?_) (fun hb=>.ret fun j aH=>by simp [hb])) fun u hu=>.ret ⟨e2 (by omega),fun j aH=>?_⟩)
  ·simp only [ct,qe (show k<2 ^ 64 by omega),BitVec.getLsbD_or,Pp,hb,Bool.true_and];split
   ·have:j≠k+64:=by omega
    simp [this]
   have:(j - 64=k)↔j=k+64:=by omega
   have bn:j - 64<64:=by omega
   simp [this,bn]
  simp only [hu j aH,hw j aH,ae j aH];by_cases qz:j=k+64
  ·subst qz;simp [Nat.mod_eq_of_lt aw]
  by_cases nv:j=k
  ·subst nv;have aa:j % 64<j+1:=by omega
   have ae: ¬ (j % 64<j):=by omega
   simp [aa,ae]
  have aa:(j % 64<k+1)↔j % 64<k:=by omega
  simp [aa,qz,nv]
 obtain⟨i,v⟩:=s;obtain⟨aa,ae⟩:=au;simp only at aa ae;subst aa;refine⟨_,rfl,.ret fun j aH=>?_⟩;have:j % 64<64:=by omega
 simp [ae j aH,this]
theorem YC (x y:az):bk (B9 x y) (fun r=>r=tO x y):=by
 unfold B9;refine(zF x).bind fun a bb=>(zF y).bind fun b hb=>?_;refine bk.loop 128 (fun k s=>s.1=k∧ ∀ j,j<128→bH s.2 j=(ct x j&&(decide (k≤j)||ct y j))) (by omega)
  ⟨rfl,fun j aH=>by simp [bb j aH]⟩ (fun k s aw au=>?_) (fun s au=>?_)
 ·obtain⟨i,v⟩:=s;obtain⟨aa,ae⟩:=au;simp only at aa ae;subst aa;refine bk.cond (fun _=>?_) (fun h=>by simp at h;omega);refine .idx rfl aw (.cu (P:=fun q=>q=k) (fun _=>⟨k,mG aw,rfl⟩) fun q hq=>.idx rfl aw (.ret ⟨e2 (by omega),fun j aH=>?_⟩));simp only [iW _ _ aw];by_cases qz:j=k
  ·subst qz;have aG:=ae j aH;have a0: ¬ (j+1≤j):=by omega
   cases a6:bH v j
   ·simp [a6] at aG;simp [aG,a0]
   simp [a6] at aG;rw [hq a6,hb j aH];simp [aG,a0]
  have a0:(k+1≤j)↔k≤j:=by omega
  simp [qz,ae j aH,a0]
 obtain⟨i,v⟩:=s;obtain⟨aa,ae⟩:=au;simp only at aa ae;subst aa;refine⟨_,rfl,(aaq v).bind fun r aO=>.ret (CR fun j aH=>?_)⟩;have: ¬ (128≤j):=by omega
 simp [aO j aH,ae j aH,this]
theorem PR (v:az)(n:Nat)(aR:n<2 ^ 62):bk (zg v n) (fun r=> ∀ j,j<128→ct r j=ct v (j+n)):=by
 unfold zg;refine .cond (fun h=>.ret fun j aH=>?_) (fun h=>.cond (fun de=>.eq rfl (.ret fun j aH=>?_)) (fun de=>.eq rfl (.eq rfl (.ret fun j aH=>?_))))
 ·have:n=0:=by simp at h;omega
  simp [this]
 ·simp only [decide_eq_true_eq] at de;have aq:bt ((n:Int) - 64)=((n - 64:Nat):Int):=by rw [ho (by omega) (by omega)];omega
  rw [aq,qe (by omega)];unfold ct;by_cases aH:j<64
  ·rw [if_pos aH,if_neg (by omega)];simp only [BitVec.getLsbD_ushiftRight];congr 1;omega
  rw [if_neg aH,if_neg (by omega)];rw [show(default:az).dg=0#64 from rfl,BitVec.getLsbD_zero,BitVec.getLsbD_of_ge _ _ (by omega)]
 simp only [decide_eq_false_iff_not] at h de;have aq:bt (64 - (n:Int))=((64 - n:Nat):Int):=by rw [ho (by omega) (by omega)];omega
 rw [aq,qe (by omega),qe (by omega)];unfold ct;by_cases aH:j<64
 ·rw [if_pos aH];simp only [BitVec.getLsbD_or,BitVec.getLsbD_ushiftRight,BitVec.getLsbD_shiftLeft];by_cases aG:j+n<64
  ·rw [if_pos aG];have:j<64 - n:=by omega
   simp [this,Nat.add_comm]
  rw [if_neg aG,BitVec.getLsbD_of_ge _ (n+j) (by omega)];have: ¬ (j<64 - n):=by omega
  simp only [aH,this,decide_true,decide_false,Bool.true_and,Bool.not_false,Bool.false_or];congr 1;omega
 rw [if_neg aH,if_neg (by omega)];simp only [BitVec.getLsbD_ushiftRight];congr 1;omega
theorem abc (v:az)(i:Int):bk (wS v i) (fun r=>r=(decide (0≤i∧i<128)&&ct v i.toNat)):=by
 unfold wS;refine .cu (P:=fun r=> ∀ j,j<128→ct r j=ct v (j+i.toNat)) (fun h=>?_) fun y a5=>.eq rfl (.ret ?_)
 ·simp at h;obtain⟨n,rfl⟩:=Int.eq_ofNat_of_zero_le h.1;exact PR v n (by omega)
 by_cases h:0≤i∧i<128
 ·have aa:(decide (i≥0)&&decide (i<128))=true:=by simp;omega
  rw [aa,Qx];have:=a5 aa 0 (by omega);rw [show ct y 0=y.bX.getLsbD 0 from rfl,Nat.zero_add] at this;rw [this,decide_eq_true h]
 have aa:(decide (i≥0)&&decide (i<128))=false:=by simp;omega
 simp [aa,h]
theorem aar (x y:az):bk (B7 x y) (fun r=> ∀ j,j<128→ct r j=(ct x j ^^ ct y j)):=⟨_,xor_eq x y,fun j _=>aap x y j⟩
theorem Kk (n:Int):bk (wN n) (fun r=> ∀ j,j<128→ct r j=decide ((j:Int)<n)):=by
 unfold wN zc;refine .eq rfl (.eq rfl ?_);have hm:bt (128 - min (max 0 n) 128)=((128 - min (max 0 n) 128).toNat:Int):=by rw [ho (by omega) (by omega)];omega
 rw [hm];refine(PR _ _ (by omega)).bind fun r aO=>.ret fun j aH=>?_;rw [aO j aH];have kR:∀ i,ct { dg:=18446744073709551615#64,bX:=18446744073709551615#64 } i=decide (i<128):=by
  intro i;have bg:(18446744073709551615#64)=BitVec.allOnes 64:=by rfl
  unfold ct;simp only [bg,BitVec.getLsbD_allOnes];by_cases h:i<64
  ·simp [h];omega
  simp [h];omega
 rw [kR,decide_eq_decide];omega
def sA:List Int:= [16,16,8,4,4,8,32,12,4]
theorem c1.uj {s:aZ}(h:c1 s){k:Nat}(aw:k<9):(aF s.fY k).bP=(k:Int)+1∧ (aF s.fY k).fQ=aF sA k:=by
 have aa:=zv Dn (l:=s.fY) (k:=k) (by rw [h.sy];exact aw);rw [h.fields] at aa;have ae:aF L1 k=((k:Int)+1,aF sA k):=by
  have:k=0∨k=1∨k=2∨k=3∨k=4∨k=5∨k=6∨k=7∨k=8:=by omega
  rcases this with rfl | rfl | rfl | rfl | rfl | rfl | rfl | rfl | rfl <;> rfl
 rw [ae] at aa;simp only [Dn,Prod.mk.injEq] at aa;exact⟨aa.1.symm,aa.2.symm⟩
def vK:List (List Int):= [[],[],[16],[4],[4,12],[]]
theorem c1.act {s:aZ}(h:c1 s){k:Nat}(aw:k<6):(aF s.dV k).bP=(k:Int)+1∧ (aF s.dV k).lq.map (·.fQ)=aF vK k:=by
 have aa:=zv q6 (l:=s.dV) (k:=k) (by rw [h.L3];exact aw);rw [h.Kj] at aa;have ae:aF Ak k=((k:Int)+1,aF vK k):=by
  have:k=0∨k=1∨k=2∨k=3∨k=4∨k=5:=by omega
  rcases this with rfl | rfl | rfl | rfl | rfl | rfl <;> rfl
 rw [ae] at aa;simp only [q6,Prod.mk.injEq] at aa;exact⟨aa.1.symm,aa.2.symm⟩
def lQ (key:c6):Prop:= ∃ j:Nat,j<9∧key.hB=(j:Int)+1∧1≤key.dp∧key.dp≤4∧4≤aF sA j∧aF sA j≤32∧ (key.dp=2→j=6)
def gT (key:c6):Int:=aF sA (key.hB - 1).toNat
theorem c1.gE {s:aZ}(h:c1 s){k:Nat}(aw:k<4):(aF s.bE k).bP=(k:Int)+1∧
 (1≤ (aF s.bE k).cn.length∧ (aF s.bE k).cn.length≤3)∧ (∀ key∈ (aF s.bE k).cn,lQ key)∧
 (1≤ (aF s.bE k).dV.length∧ (aF s.bE k).dV.length≤5)∧ (∀ a∈ (aF s.bE k).dV,1≤a∧a≤6):=by
 obtain⟨dT,ew,iH,bM⟩:=h.tables
 have aa:=zv o4 (l:=s.bE) (k:=k) (by rw [h.kS];exact aw)
 rw [bM] at aa
 have ae:∀ p:Int×List Int×List c6,p=o4 (aF s.bE k)→p.1=(k:Int)+1→ (1≤p.2.2.length∧p.2.2.length≤3)→ (∀ key∈p.2.2,lQ key)→
  (1≤p.2.1.length∧p.2.1.length≤5)→ (∀ a∈p.2.1,1≤a∧a≤6)→ (aF s.bE k).bP=(k:Int)+1∧
  (1≤ (aF s.bE k).cn.length∧ (aF s.bE k).cn.length≤3)∧ (∀ key∈ (aF s.bE k).cn,lQ key)∧
  (1≤ (aF s.bE k).dV.length∧ (aF s.bE k).dV.length≤5)∧ (∀ a∈ (aF s.bE k).dV,1≤a∧a≤6):=by
  rintro p rfl a b c d e
  exact⟨a,b,c,d,e⟩
 have iw:(1≤ ([1,2,4]:List Int).length∧ ([1,2,4]:List Int).length≤5)∧ ∀ a∈ ([1,2,4]:List Int),1≤a∧a≤6:=by decide
 have c8:(1≤ ([1,2,3,4]:List Int).length∧ ([1,2,3,4]:List Int).length≤5)∧ ∀ a∈ ([1,2,3,4]:List Int),1≤a∧a≤6:=by decide
 have c2:(1≤ ([1,2,3,5,6]:List Int).length∧ ([1,2,3,5,6]:List Int).length≤5)∧ ∀ a∈ ([1,2,3,5,6]:List Int),1≤a∧a≤6:=by decide
 have gG:(1≤ ([1,3,5]:List Int).length∧ ([1,3,5]:List Int).length≤5)∧ ∀ a∈ ([1,3,5]:List Int),1≤a∧a≤6:=by decide
 have adi:lQ p3:=⟨3,by decide,rfl,by decide,by decide,by decide,by decide,by decide⟩
 have Rs:lQ EF:=⟨3,by decide,rfl,by decide,by decide,by decide,by decide,by decide⟩
 have adj:lQ NK:=⟨4,by decide,rfl,by decide,by decide,by decide,by decide,by decide⟩
 have Lt:lQ yy:=⟨6,by decide,rfl,by decide,by decide,by decide,by decide,by decide⟩
 have adk:lQ Iy:=⟨2,by decide,rfl,by decide,by decide,by decide,by decide,by decide⟩
 have SM:lQ E2:=⟨5,by decide,rfl,by decide,by decide,by decide,by decide,by decide⟩
 have SN:lQ E3:=⟨7,by decide,rfl,by decide,by decide,by decide,by decide,by decide⟩
 have adl:lQ NL:=⟨8,by decide,rfl,by decide,by decide,by decide,by decide,by decide⟩
 have:k=0∨k=1∨k=2∨k=3:=by omega
 rcases this with rfl | rfl | rfl | rfl
 ·refine ae _ aa rfl (show 1≤ [p3].length∧ [p3].length≤3 by decide) ?_ iw.1 iw.2
  intro key jU
  rcases List.mem_singleton.1 jU with rfl
  exact adi
 ·refine ae _ aa rfl ?_ ?_ c8.1 c8.2
  ·show 1≤ (nO dT).length∧ (nO dT).length≤3
   cases dT <;> decide
  intro key jU
  replace jU:key∈nO dT:=jU
  cases dT <;> simp only [nO,List.mem_cons,List.not_mem_nil,or_false,if_true,if_false,Bool.false_eq_true] at jU
  ·subst jU;exact Lt
  rcases jU with rfl | rfl;exact Lt;exact adk
 ·refine ae _ aa rfl ?_ ?_ c2.1 c2.2
  ·show 1≤ (xF ew).length∧ (xF ew).length≤3
   cases ew <;> decide
  intro key jU
  replace jU:key∈xF ew:=jU
  cases ew <;> simp only [xF,List.mem_cons,List.not_mem_nil,or_false,if_true,if_false,Bool.false_eq_true] at jU
  ·rcases jU with rfl | rfl;exact SM;exact Rs
  rcases jU with rfl | rfl | rfl;exact SM;exact Rs;exact adj
 refine ae _ aa rfl ?_ ?_ gG.1 gG.2
 ·show 1≤ (xG iH).length∧ (xG iH).length≤3
  cases iH <;> decide
 intro key jU
 replace jU:key∈xG iH:=jU
 cases iH <;> simp only [xG,List.mem_cons,List.not_mem_nil,or_false,if_true,if_false,Bool.false_eq_true] at jU
 ·subst jU;exact SN
 rcases jU with rfl | rfl | rfl;exact SN;exact adl;exact Lt
theorem XS {s:aZ}(h:c1 s){j:Nat}(aH:j<9):bk (BW s ((j:Int)+1)) (fun r=>r=aF sA j):=by
 unfold BW;have an:=h.sy;refine bk.loop j (fun k s=>s=(k:Int)) (by omega) rfl (fun k i aw au=>?_) (fun i au=>?_)
 ·subst au;refine bk.cond (fun _=>?_) (fun h=>by simp at h;omega);refine .idx rfl (by omega) (.cond (fun aj=>?_) (fun aj=>.ret (e2 (by omega))));have:=(h.uj (show k<9 by omega)).1;simp only [this,beq_iff_eq] at aj;omega
 subst au;have aa:decide ((j:Int)<(s.fY.length:Int))=true:=by simp;omega
 have ae:((aF s.fY j).bP==(j:Int)+1)=true:=by rw [(h.uj aH).1];simp
 rw [aa];simp only [cond_true];rw [mG (by omega)];simp only [Option.bind_some,ae,cond_true];exact⟨_,rfl,.ret (h.uj aH).2⟩
theorem Xu {s:aZ}(h:c1 s){j:Nat}(aH:j<6):bk (BM s ((j:Int)+1)) (fun r=>r=aF s.dV j):=by
 unfold BM;have an:=h.L3;refine bk.loop j (fun k s=>s=(k:Int)) (by omega) rfl (fun k i aw au=>?_) (fun i au=>?_)
 ·subst au;refine bk.cond (fun _=>?_) (fun h=>by simp at h;omega);refine .idx rfl (by omega) (.cond (fun aj=>?_) (fun aj=>.ret (e2 (by omega))));have:=(h.act (show k<6 by omega)).1;simp only [this,beq_iff_eq] at aj;omega
 subst au;have aa:decide ((j:Int)<(s.dV.length:Int))=true:=by simp;omega
 have ae:((aF s.dV j).bP==(j:Int)+1)=true:=by rw [(h.act aH).1];simp
 rw [aa];simp only [cond_true];rw [mG (by omega)];simp only [Option.bind_some,ae,cond_true];exact⟨_,rfl,.ret rfl⟩
theorem Ct {n:Nat}(aR:n<64)(j:Nat):(((1#64) <<< n) - 1#64).getLsbD j=decide (j<n):=by
 have aa:(((1#64) <<< n) - 1#64).toNat=2 ^ n - 1:=by
  have ae:((1#64) <<< n).toNat=2 ^ n:=by
   rw [BitVec.toNat_shiftLeft,BitVec.toNat_ofNat,Nat.shiftLeft_eq];have:=Nat.pow_lt_pow_right (show 1<2 by omega) aR;rw [show(1 % 2 ^ 64:Nat)=1 from rfl,Nat.one_mul];exact Nat.mod_eq_of_lt this
  have aG:1≤2 ^ n:=Nat.one_le_two_pow;have a0:=Nat.pow_lt_pow_right (show 1<2 by omega) aR;rw [BitVec.toNat_sub,ae];simp only [BitVec.toNat_ofNat];omega
 rw [← BitVec.testBit_toNat,aa,Nat.testBit_two_pow_sub_one]
theorem KO (x:az)(n:Int)(bO:0≤n)(aa:n<1000):bk (wR x n) (fun r=> ∀ j,j<128→ct r j=(ct x j&&decide ((j:Int)<n))):=by
 unfold wR;obtain⟨m,rfl⟩:=Int.eq_ofNat_of_zero_le bO;refine .cond (fun h=>.ret fun j aH=>?_) fun h=>.cond (fun de=>.eq rfl (.ret fun j aH=>?_)) fun de=>.cond (fun M5=>.ret fun j aH=>?_) fun M5=>.eq rfl (.eq rfl (.ret fun j aH=>?_))
 ·simp only [decide_eq_true_eq] at h;have:decide ((j:Int)<(m:Int))=true:=by simp;omega
  rw [this,Bool.and_true]
 ·simp only [decide_eq_true_eq,decide_eq_false_iff_not] at h de;have e:bt ((m:Int) - 64)=((m - 64:Nat):Int):=by rw [ho (by omega) (by omega)];omega
  simp only [ct,e,qe (show m - 64<2 ^ 64 by omega),BitVec.getLsbD_and,Ct (show m - 64<64 by omega)];split
  ·have:decide ((j:Int)<(m:Int))=true:=by simp;omega
   rw [this,Bool.and_true]
  congr 1;rw [decide_eq_decide];omega
 ·simp only [decide_eq_true_eq] at M5;have:decide ((j:Int)<(m:Int))=false:=by simp;omega
  rw [zD,this,Bool.and_false]
 simp only [decide_eq_true_eq,decide_eq_false_iff_not] at h de M5;simp only [ct,qe (show m<2 ^ 64 by omega),BitVec.getLsbD_and,Ct (show m<64 by omega)];split
 ·congr 1;rw [decide_eq_decide];omega
 have:decide ((j:Int)<(m:Int))=false:=by simp;omega
 rw [this,Bool.and_false];exact BitVec.getLsbD_zero
theorem SO (w:BitVec 64)(j:Nat):ct { (default:az) with bX:=w } j=w.getLsbD j:=by
 unfold ct;split
 ·rfl
 rw [BitVec.getLsbD_of_ge w j (by omega)];exact BitVec.getLsbD_zero
structure pG (kind b:Int)(m:bW):Prop where
 off:m.fm=false→m=default
 Ie:kind=1→m.fm=true
 low:kind=1→ ∀ j,j<128→ct m.cU j=true→ (j:Int)<b
 ain:kind=3→ ∀ j,j<128→ct m.gy j=true→ (j:Int)<b
 aio:kind=3→ ∀ j,j<128→ct m.cU j=true→ct m.gy j=true
 pre:0≤m.en∧m.en≤32
 M6:kind=2→m.fm=true→1≤m.en
 Ui:kind≠2→m.en=0
 ib:kind≠3→m.gy=default
 aip:kind=3→m.fm=true→m.gy≠default
 aiq:kind=4→m.fm=true→m.cU.dg=m.jG.dg∧m.cU.bX≤m.jG.bX
 M7:kind=2→ ∀ j,j<128→ct m.cU j=true→32 - m.en≤ (j:Int)∧j<32
 Ig:kind≠4→m.jG=default
theorem DU:(0:Int)≤0∧ (0:Int)≤32:=⟨Int.le_refl 0,by decide⟩
theorem JD {kind b:Int}(h:kind≠1):pG kind b default:=
 ⟨fun _=>rfl,fun k=>absurd k h,fun k=>absurd k h,fun _ j _ a6=>(by rw [show(default:bW).gy=default from rfl,zD] at a6;cases a6),
  fun _ j _ a6=>(by rw [show(default:bW).cU=default from rfl,zD] at a6;cases a6),
  DU,fun _ k=>(by cases k),fun _=>rfl,fun _=>rfl,fun _ k=>(by cases k),fun _ k=>(by cases k),
  fun _ j _ a6=>(by rw [show(default:bW).cU=default from rfl,zD] at a6;cases a6),fun _=>rfl⟩
theorem aas {a x y:BitVec 64}(aa:a≤x)(ae:a≤y):a≤xN x y:=by
 unfold xN;split <;> assumption
theorem aat {v:az}{b c:Int}(hb:0≤b∧b≤32)(aj:0≤c∧c<256)(a6:∀ j,j<128→ct v j=true→ (j:Int)<b):
 v.dg=0#64∧v.bX≤xN (v.bX+BitVec.ofInt 64 c) (((1#64) <<< (BitVec.ofInt 64 b).toNat) - (1#64)):=by
 have eX:v.dg=0#64:=by
  apply BitVec.eq_of_getLsbD_eq;intro i au;have h:=a6 (64+i) (by omega);unfold ct at h;rw [if_neg (by omega),Nat.add_sub_cancel_left] at h;rw [BitVec.getLsbD_zero];cases ar:v.dg.getLsbD i
  ·rfl
  have:=h ar;omega
 obtain⟨n,rfl⟩:=Int.eq_ofNat_of_zero_le hb.1
 have aR:n≤32:=by omega
 have MV:(BitVec.ofInt 64 (n:Int)).toNat=n:=qe (by omega)
 rw [MV]
 have SP:v.bX≤ ((1#64) <<< n) - 1#64:=by
  have hand:v.bX&&&(((1#64) <<< n) - 1#64)=v.bX:=by
   apply BitVec.eq_of_getLsbD_eq;intro i au;rw [BitVec.getLsbD_and,Ct (by omega)];have h:=a6 i (by omega);unfold ct at h;rw [if_pos au] at h;cases ar:v.bX.getLsbD i
   ·rfl
   have:=h ar;simp;omega
  rw [← hand];rw [BitVec.le_def,BitVec.toNat_and];exact Nat.and_le_right
 have wh:(((1#64) <<< n) - 1#64).toNat<2 ^ 33:=by
  have Ih:(((1#64) <<< n) - 1#64)&&&(((1#64) <<< 32) - 1#64)=(((1#64) <<< n) - 1#64):=by
   apply BitVec.eq_of_getLsbD_eq;intro i au;rw [BitVec.getLsbD_and,Ct (by omega),Ct (by omega)];simp;omega
  rw [← Ih,BitVec.toNat_and];exact Nat.lt_of_le_of_lt Nat.and_le_right (by decide)
 refine⟨eX,aas ?_ SP⟩
 rw [BitVec.le_def] at SP ⊢
 obtain⟨m,rfl⟩:=Int.eq_ofNat_of_zero_le aj.1
 rw [BitVec.toNat_add,qe (by omega),Nat.mod_eq_of_lt (by omega)]
 omega
theorem Zu (x:BitVec 64){n:Int}(aa:1≤n)(ae:n≤32){i:Nat}(au:i<128)
 (a6:ct { (default:az) with bX:=x&&&((((1#64) <<< (BitVec.ofInt 64 32).toNat) - (1#64)) - (((1#64) <<< (BitVec.ofInt 64 (bt (32 - n))).toNat) - (1#64))) } i=true):32 - n≤ (i:Int)∧i<32:=by
 rw [SO,BitVec.getLsbD_and,Bool.and_eq_true] at a6
 have aG:=a6.2
 obtain⟨k,aw⟩:=Int.eq_ofNat_of_zero_le (show 0≤32 - n by omega)
 have cV:k<32:=by omega
 have e:bt (32 - n)=(k:Int):=by rw [aw,ho (by omega) (by omega)]
 rw [e,qe (by omega)] at aG
 have M8:i<64:=by
  rcases Nat.lt_or_ge i 64 with h | h
  ·exact h
  rw [BitVec.getLsbD_of_ge _ i h] at aG;cases aG
 have key:∀ (k:Fin 32) (i:Fin 64),((((1#64) <<< (BitVec.ofInt 64 32).toNat) - (1#64)) - (((1#64) <<< k.1) - (1#64))).getLsbD i.1=true→k.1≤i.1∧i.1<32:=by decide +kernel
 have:=key ⟨k,cV⟩ ⟨i,M8⟩ aG
 simp only at this
 omega
theorem YD (c:bq){s:aZ}(key:c6)(aj:hD c)(h:c1 s)(aw:lQ key):
 bk (Bw c s key) (fun r=>hD r.2∧pG key.dp (gT key) r.1):=by
 obtain⟨j,aH,a2,aW,fF,Iz,agL,cV⟩:=aw
 have hb:gT key=aF sA j:=by unfold gT;rw [a2];congr 1;omega
 unfold Bw
 rw [a2]
 refine(XS h aH).bind fun aE aq=>?_
 rw [hb]
 subst aq
 generalize iy:aF sA j=b at *
 refine .bind (gJ _ 256 aj (by omega)) fun aK ae=>.bind (gJ _ 16 ae.1 (by omega)) fun bs aG=>.eq rfl (.bind (gJ _ 16 aG.1 (by omega)) fun bG a0=>.eq rfl ?_)
 refine .bind (KO _ b (by omega) (by omega)) fun cz a7=>?_
 refine .cond (fun q=>?_) fun q=>?_
 ·have q:key.dp=2:=by simpa using q
  refine .bind (gJ _ 5 a0.1 (by omega)) fun ck bn=>.cond (fun _=>?_) fun _=>.ret ⟨bn.1,JD (by omega)⟩
  refine .bind (gJ _ b bn.1 (by omega)) fun cQ dn=>.bind (gJ _ 5 dn.1 (by omega)) fun dO fh=>?_
  refine .eq (xa fh.2.1 (by simpa using fh.2.2.1)) ?_
  have jY:1≤aF [b,8,16,1,bt (1+cQ.1)] dO.1.toNat∧aF [b,8,16,1,bt (1+cQ.1)] dO.1.toNat≤32:=by
   have cf:dO.1.toNat<[b,8,16,1,bt (1+cQ.1)].length:=by have:=fh.2.1;have:=fh.2.2.1;simp;omega
   have hm:=List.getElem_mem cf;rw [← eO _ cf] at hm;have hw:bt (1+cQ.1)=1+cQ.1:=ho (by have:=dn.2.1;omega) (by have:=dn.2.2.1;omega);have:=dn.2.1;have:=dn.2.2.1;simp only [List.mem_cons,List.not_mem_nil,or_false] at hm;rcases hm with hm | hm | hm | hm | hm <;> rw [hm] <;> omega
  unfold FQ
  refine .eq rfl (.eq rfl (.eq rfl (.ret ⟨fh.1,fun h=>(by cases h),fun h=>(by omega),fun h=>by omega,fun h=>(by omega),fun h=>(by omega),⟨by have:=jY.1;show 0≤aF _ _;omega,jY.2⟩,fun _ _=>jY.1,fun h=>absurd q h,fun _=>rfl,fun h=>(by omega),fun h=>(by omega),fun _ i au a6=>?_,fun _=>rfl⟩)))
  have Ih:b=32:=by rw [← iy,cV q];rfl
  rw [Ih] at jY a6
  rw [Ih]
  exact Zu _ jY.1 jY.2 au a6
 refine .cond (fun dA=>?_) fun dA=>?_
 ·have dA:key.dp=3:=by simpa using dA
  refine .bind (gJ _ 256 a0.1 (by omega)) fun jn jM=>.bind (gJ _ 5 jM.1 (by omega)) fun iB qH=>?_
  refine .eq (xa qH.2.1 (by simpa using qH.2.2.1)) (.eq rfl (.bind (KO _ b (by omega) (by omega)) fun gv v3=>?_))
  refine .cond (fun M9=>?_) fun _=>.ret ⟨qH.1,JD (by omega)⟩
  refine .eq rfl (.eq rfl (.ret ⟨qH.1,fun h=>(by cases h),fun h=>(by omega),fun h=>by omega,fun _ i au a6=>?_,fun _ i au a6=>?_,DU,fun h=>(by omega),fun _=>rfl,fun h=>absurd dA h,fun _ _ hd=>?_,fun h=>(by omega),fun h=>(by omega),fun _=>rfl⟩))
  ·have uk:=v3 i au
   simp only at a6
   rw [a6] at uk
   have:=uk.symm
   simp only [Bool.and_eq_true,decide_eq_true_eq] at this
   exact this.2
  ·simp only at a6 ⊢
   rw [SO,BitVec.getLsbD_and,Bool.and_eq_true] at a6
   have M8:i<64:=by
    rcases Nat.lt_or_ge i 64 with h | h
    ·exact h
    rw [BitVec.getLsbD_of_ge _ i h] at a6;cases a6.1
   unfold ct;rw [if_pos M8];exact a6.2
  have hd':gv=default:=hd
  rw [hd'] at M9;simp at M9
  exact M9 rfl
 refine .cond (fun ff=>?_) fun ff=>?_
 ·have ff:key.dp=4:=by simpa using ff
  refine .bind (gJ _ 256 a0.1 (by omega)) fun iC uk=>.eq rfl (.bind (gJ _ 5 uk.1 (by omega)) fun h1 Ic=>.eq rfl (.cond (fun _=>?_) fun _=>.ret ⟨Ic.1,JD (by omega)⟩))
  have yj:=aat (v:=cz) (b:=b) (c:=iC.1) ⟨by omega,agL⟩ ⟨uk.2.1,uk.2.2.1⟩ fun i au a6=>by
   have qG:=a7 i au;rw [a6] at qG;have:=qG.symm;simp only [Bool.and_eq_true,decide_eq_true_eq] at this;exact this.2
  exact .eq rfl (.ret ⟨Ic.1,fun h=>(by cases h),fun h=>(by omega),fun h=>by omega,fun h=>(by omega),fun h=>(by omega),DU,fun h=>(by omega),fun _=>rfl,fun _=>rfl,fun h=>(by omega),fun _ _=>yj,fun h=>(by omega),fun h=>absurd ff h⟩)
 have aB:key.dp=1:=by
  simp only [beq_eq_false_iff_ne] at q dA ff;omega
 refine .eq rfl (.ret ⟨a0.1,fun h=>(by cases h),fun _=>rfl,fun _ i au a6=>?_,fun h=>(by omega),fun h=>(by omega),DU,fun h=>(by omega),fun _=>rfl,fun _=>rfl,fun h=>(by omega),fun h=>(by omega),fun h=>(by omega),fun _=>rfl⟩)
 have uk:=a7 i au
 simp only at a6
 rw [a6] at uk
 have:=uk.symm
 simp only [Bool.and_eq_true,decide_eq_true_eq] at this
 exact this.2
structure hH (s:aZ)(k:Nat)(e:a8):Prop where
 gE:e.cO=(k:Int)+1
 len:e.bU.length=(aF s.bE k).cn.length
 um:∀ i,i<(aF s.bE k).cn.length→pG (aF (aF s.bE k).cn i).dp (gT (aF (aF s.bE k).cn i)) (aF e.bU i)
 args:e.hl.length≤10
 pri:(∀ i,i<(aF s.bE k).cn.length→ (aF (aF s.bE k).cn i).dp≤2)→e.fP=0
theorem JE {α:Type}[Inhabited α](l:List α)(x:α)(i:Nat):aF (l++[x]) i=if i=l.length then x else aF l i:=by
 unfold aF;by_cases h:i=l.length
 ·subst h;simp
 rw [if_neg h];rcases Nat.lt_or_ge i l.length with aa | aa
 ·rw [List.getElem?_append_left aa]
 rw [List.getElem?_eq_none (by simp;omega),List.getElem?_eq_none aa]
theorem Ps (c:bq){s:aZ}(x:Int)(aj:hD c)(h:c1 s):
 bk (yP c s x) (fun r=>hD r.2∧ ∃ k:Nat,k<4∧zp x (s.bE.length:Int)=some (k:Int)∧hH s k r.1):=by
 unfold yP
 obtain⟨aE,aq,bO,aa⟩:=aao x (s.bE.length:Int) (by rw [h.kS];omega) (by rw [h.kS];omega)
 obtain⟨k,rfl⟩:=Int.eq_ofNat_of_zero_le bO
 have aw:k<4:=by have:=h.kS;omega
 obtain⟨t1,⟨t2,t3⟩,t4,⟨t5,t6⟩,t7⟩:=h.gE aw
 refine .eq aq (.idx rfl (by have:=h.kS;omega) ?_)
 refine bk.loop (aF s.bE k).cn.length (fun i st=>st.1=(i:Int)∧st.2.1.cO=(k:Int)+1∧st.2.2.1.length=i∧hD st.2.2.2∧
  (∀ j,j<i→pG (aF (aF s.bE k).cn j).dp (gT (aF (aF s.bE k).cn j)) (aF st.2.2.1 j))∧ ((∀ j,j<i→ (aF (aF s.bE k).cn j).dp≤2)→st.2.1.fP=0)) (by omega) ⟨rfl,t1,rfl,aj,fun j aH=>by omega,fun _=>rfl⟩ (fun i st au hs=>?_) (fun st hs=>?_)
 ·obtain⟨E4,e,ms,yz⟩:=st;obtain⟨aX,dd,g2,jA,l9,E5⟩:=hs
  simp only at aX dd g2 jA l9 E5;subst aX
  refine bk.cond (fun _=>?_) (fun h=>by simp at h;omega)
  refine .idx rfl au (.bind (YD _ _ jA h (t4 _ (by rw [eO _ au];exact List.getElem_mem au))) fun aK ae=>.eq (iJ _ _ (by simp;omega) (by omega)) (.eq rfl ?_))
  refine .bind (P:=fun m=>m.1.cO=(k:Int)+1∧hD m.2∧ ((aF (aF s.bE k).cn i).dp≤2→m.1.fP=e.fP)) (.cond (fun dI=>.bind (gJ _ 5 ae.1 (by omega)) fun bG a0=>.eq rfl (.ret ⟨dd,a0.1,fun h=>by simp at dI;omega⟩)) (fun _=>.ret ⟨dd,ae.1,fun _=>rfl⟩)) fun bl cx=>?_
  refine .ret ⟨e2 (by omega),cx.1,by simp;omega,cx.2.1,fun j aH=>?_,fun h=>?_⟩
  ·simp only [JE]
   by_cases nv:j=ms.length
   ·rw [if_pos nv];rw [nv,g2];exact ae.2
   rw [if_neg nv];exact l9 j (by omega)
  exact(cx.2.2 (h i (by omega))).trans (E5 fun j aH=>h j (by omega))
 obtain⟨E4,e,ms,yz⟩:=st;obtain⟨aX,dd,g2,jA,l9,E5⟩:=hs
 simp only at aX dd g2 jA l9 E5;subst aX
 refine⟨_,by simp;rfl,?_⟩
 refine .bind (gJ _ _ jA (by omega)) fun cz a7=>?_
 refine .eq (xa a7.2.1 a7.2.2.1) (.eq rfl ?_)
 have bb:1≤aF (aF s.bE k).dV cz.1.toNat∧aF (aF s.bE k).dV cz.1.toNat≤6:=t7 _ (by
  have cf:cz.1.toNat<(aF s.bE k).dV.length:=by have:=a7.2.1;have:=a7.2.2.1;omega
  rw [eO _ cf];exact List.getElem_mem cf)
 obtain⟨a,hf⟩:=Int.eq_ofNat_of_zero_le (show 0≤aF (aF s.bE k).dV cz.1.toNat - 1 by omega)
 have agM:aF (aF s.bE k).dV cz.1.toNat=(a:Int)+1:=by omega
 simp only [agM]
 refine .bind (Xu h (show a<6 by omega)) fun ck bn=>?_
 obtain⟨a1,bd⟩:=h.act (show a<6 by omega)
 rw [← bn] at bd
 have hp:ck.lq.length≤10∧ ∀ i,i<ck.lq.length→0≤ (aF ck.lq i).fQ∧ (aF ck.lq i).fQ<1000:=by
  have hq:∀ l∈vK,l.length≤10∧ ∀ b∈l,0≤b∧b<1000:=by decide
  have hm:aF vK a∈vK:=by rw [eO vK (show a<vK.length by simp [vK];omega)];exact List.getElem_mem _
  obtain⟨aB,dt⟩:=hq _ hm;rw [← bd] at aB dt;refine⟨by simpa using aB,fun i au=>dt _ ?_⟩;rw [eO _ au];exact List.mem_map.2 ⟨_,List.getElem_mem au,rfl⟩
 refine bk.loop ck.lq.length (fun i st=>st.1=(i:Int)∧st.2.1.cO=(k:Int)+1∧st.2.2.1.length=i∧hD st.2.2.2∧st.2.1.fP=e.fP) (by omega) ⟨rfl,dd,rfl,a7.1,rfl⟩ (fun i st au hs=>?_) (fun st hs=>?_)
 ·obtain⟨E4,e',vs,agN⟩:=st;obtain⟨f2,f3,f4,f5,f6⟩:=hs
  simp only at f2 f3 f4 f5 f6;subst f2
  refine bk.cond (fun _=>?_) (fun h=>by simp at h;omega)
  refine .idx rfl au (.bind (gJ _ 256 f5 (by omega)) fun cQ dn=>.eq rfl (.bind (KO _ _ (hp.2 i au).1 (hp.2 i au).2) fun dO fh=>.eq (iJ _ _ (by have:=hp.1;simp;omega) (by omega)) (.ret ⟨e2 (by have:=hp.1;omega),f3,by simp;omega,dn.1,f6⟩)))
 obtain⟨E4,e',vs,agN⟩:=st;obtain⟨f2,f3,f4,f5,f6⟩:=hs
 simp only at f2 f3 f4 f5 f6;subst f2
 refine⟨_,by simp;rfl,?_⟩
 exact .eq rfl (.ret ⟨f5,k,aw,aq,f3,g2,l9,by show vs.length≤10;have:=hp.1;omega,fun h=>f6.trans (E5 h)⟩)
structure adm (s:aZ)(r:Vector (List Int) 6):Prop where
 fields:bH r 0=s.fY.map (·.bP)
 headers:bH r 1=s.m3.map (·.bP)
 Rr:bH r 2=s.nG.map (·.bP)
 Kj:bH r 3=s.dV.map (·.bP)
 tables:bH r 4=s.bE.map (·.bP)
 SL:bH r 5=s.kJ.map (·.bP)
theorem Rt {s:aZ}(h:c1 s):bk (zq s) (adm s):=by
 unfold zq;have yw:=h.sy;have NI:=h.headers;have ahD:=h.Rr;have ahE:=h.L3;have aiM:=h.kS;have aiN:=h.afy;refine bk.loop s.fY.length (fun k st=>st.1=(k:Int)∧st.2.1=(s.fY.take k).map (·.bP)) (by omega) ⟨rfl,rfl⟩ (fun k st aw au=>?_) (fun st au=>?_)
 ·obtain⟨i,a,v⟩:=st;obtain⟨aq,aX⟩:=au;simp only at aq aX;subst aq;subst aX;refine bk.cond (fun _=>?_) (fun h=>by simp at h;omega);exact .idx rfl aw (.eq (iJ _ _ (by simp;omega) (by omega)) (.ret ⟨e2 (by omega),by rw [pv _ aw,List.map_append];rfl⟩))
 obtain⟨i,iw,v⟩:=st;obtain⟨aq,aX⟩:=au;simp only at aq aX;subst aq;subst aX;refine⟨_,by simp only [show decide ((s.fY.length:Int)<(s.fY.length:Int))=false by simp,cond_false];rfl,?_⟩;refine bk.loop s.m3.length (fun k st=>st.1=(k:Int)∧st.2.1=(s.m3.take k).map (·.bP)) (by omega) ⟨rfl,rfl⟩ (fun k st aw au=>?_) (fun st au=>?_)
 ·obtain⟨i,a,v⟩:=st;obtain⟨aq,aX⟩:=au;simp only at aq aX;subst aq;subst aX;refine bk.cond (fun _=>?_) (fun h=>by simp at h;omega);exact .idx rfl aw (.eq (iJ _ _ (by simp;omega) (by omega)) (.ret ⟨e2 (by omega),by rw [pv _ aw,List.map_append];rfl⟩))
 obtain⟨i,c8,v⟩:=st;obtain⟨aq,aX⟩:=au;simp only at aq aX;subst aq;subst aX;refine⟨_,by simp only [show decide ((s.m3.length:Int)<(s.m3.length:Int))=false by simp,cond_false];rfl,?_⟩;refine bk.loop s.nG.length (fun k st=>st.1=(k:Int)∧st.2.1=(s.nG.take k).map (·.bP)) (by omega) ⟨rfl,rfl⟩ (fun k st aw au=>?_) (fun st au=>?_)
 ·obtain⟨i,a,v⟩:=st;obtain⟨aq,aX⟩:=au;simp only at aq aX;subst aq;subst aX;refine bk.cond (fun _=>?_) (fun h=>by simp at h;omega);exact .idx rfl aw (.eq (iJ _ _ (by simp;omega) (by omega)) (.ret ⟨e2 (by omega),by rw [pv _ aw,List.map_append];rfl⟩))
 obtain⟨i,c2,v⟩:=st;obtain⟨aq,aX⟩:=au;simp only at aq aX;subst aq;subst aX;refine⟨_,by simp only [show decide ((s.nG.length:Int)<(s.nG.length:Int))=false by simp,cond_false];rfl,?_⟩;refine bk.loop s.dV.length (fun k st=>st.1=(k:Int)∧st.2.1=(s.dV.take k).map (·.bP)) (by omega) ⟨rfl,rfl⟩ (fun k st aw au=>?_) (fun st au=>?_)
 ·obtain⟨i,a,v⟩:=st;obtain⟨aq,aX⟩:=au;simp only at aq aX;subst aq;subst aX;refine bk.cond (fun _=>?_) (fun h=>by simp at h;omega);exact .idx rfl aw (.eq (iJ _ _ (by simp;omega) (by omega)) (.ret ⟨e2 (by omega),by rw [pv _ aw,List.map_append];rfl⟩))
 obtain⟨i,gG,v⟩:=st;obtain⟨aq,aX⟩:=au;simp only at aq aX;subst aq;subst aX;refine⟨_,by simp only [show decide ((s.dV.length:Int)<(s.dV.length:Int))=false by simp,cond_false];rfl,?_⟩;refine bk.loop s.bE.length (fun k st=>st.1=(k:Int)∧st.2.1=(s.bE.take k).map (·.bP)) (by omega) ⟨rfl,rfl⟩ (fun k st aw au=>?_) (fun st au=>?_)
 ·obtain⟨i,a,v⟩:=st;obtain⟨aq,aX⟩:=au;simp only at aq aX;subst aq;subst aX;refine bk.cond (fun _=>?_) (fun h=>by simp at h;omega);exact .idx rfl aw (.eq (iJ _ _ (by simp;omega) (by omega)) (.ret ⟨e2 (by omega),by rw [pv _ aw,List.map_append];rfl⟩))
 obtain⟨i,km,v⟩:=st;obtain⟨aq,aX⟩:=au;simp only at aq aX;subst aq;subst aX;refine⟨_,by simp only [show decide ((s.bE.length:Int)<(s.bE.length:Int))=false by simp,cond_false];rfl,?_⟩;refine bk.loop s.kJ.length (fun k st=>st.1=(k:Int)∧st.2.1=(s.kJ.take k).map (·.bP)) (by omega) ⟨rfl,rfl⟩ (fun k st aw au=>?_) (fun st au=>?_)
 ·obtain⟨i,a,v⟩:=st;obtain⟨aq,aX⟩:=au;simp only at aq aX;subst aq;subst aX;refine bk.cond (fun _=>?_) (fun h=>by simp at h;omega);exact .idx rfl aw (.eq (iJ _ _ (by simp;omega) (by omega)) (.ret ⟨e2 (by omega),by rw [pv _ aw,List.map_append];rfl⟩))
 obtain⟨i,pZ,v⟩:=st;obtain⟨aq,aX⟩:=au;simp only at aq aX;subst aq;subst aX;refine⟨_,by simp only [show decide ((s.kJ.length:Int)<(s.kJ.length:Int))=false by simp,cond_false];rfl,?_⟩;refine .eq rfl (.ret ⟨?_,?_,?_,?_,?_,?_⟩)
 ·simp only [List.take_length];rw [iW _ _ (by omega),if_neg (by omega),iW _ _ (by omega),if_neg (by omega),iW _ _ (by omega),if_neg (by omega),iW _ _ (by omega),if_neg (by omega),iW _ _ (by omega),if_neg (by omega),iW _ _ (by omega),if_pos rfl]
 ·simp only [List.take_length];rw [iW _ _ (by omega),if_neg (by omega),iW _ _ (by omega),if_neg (by omega),iW _ _ (by omega),if_neg (by omega),iW _ _ (by omega),if_neg (by omega),iW _ _ (by omega),if_pos rfl]
 ·simp only [List.take_length];rw [iW _ _ (by omega),if_neg (by omega),iW _ _ (by omega),if_neg (by omega),iW _ _ (by omega),if_neg (by omega),iW _ _ (by omega),if_pos rfl]
 ·simp only [List.take_length];rw [iW _ _ (by omega),if_neg (by omega),iW _ _ (by omega),if_neg (by omega),iW _ _ (by omega),if_pos rfl]
 ·simp only [List.take_length];rw [iW _ _ (by omega),if_neg (by omega),iW _ _ (by omega),if_pos rfl]
 simp only [List.take_length];rw [iW _ _ (by omega),if_pos rfl]
theorem V7 {xs:List b2}{f:b2→Option Bool}{g:b2→Bool}(a2:∀ x∈xs,f x=some (g x))(an:xs.length<2 ^ 62):
 bk (AX xs f) (fun r=>(r= -1∧ ∀ x∈xs,g x=false)∨ ∃ i:Nat,i<xs.length∧r=i∧g (aF xs i)=true∧ ∀ j,j<i→g (aF xs j)=false):=by
 unfold AX
 refine bk.loop xs.length (fun k s=>s=(k:Int)∧ ∀ j,j<k→g (aF xs j)=false) (by omega) ⟨rfl,fun j aH=>by omega⟩ (fun k s aw au=>?_) (fun s au=>?_)
 ·obtain⟨aq,aX⟩:=au;subst aq
  refine bk.cond (fun _=>?_) (fun h=>by simp at h;omega)
  refine .idx rfl aw (.eq (a2 _ (by rw [eO xs aw];exact List.getElem_mem aw)) (.cond (fun h=>.ret ?_) (fun h=>.ret ⟨e2 (by omega),fun j aH=>?_⟩)))
  ·exact .ret (.inr ⟨k,aw,rfl,h,aX⟩)
  by_cases ui:j=k
  ·subst ui;exact h
  exact aX j (by omega)
 obtain⟨aq,aX⟩:=au;subst aq
 refine⟨_,by simp;rfl,?_⟩
 refine .ret (.inl ⟨rfl,fun x ar=>?_⟩)
 obtain⟨j,aH,rfl⟩:=List.mem_iff_getElem.1 ar
 rw [← eO xs aH];exact aX j aH
theorem V8 {xs:List gj}{f:gj→Option Bool}{g:gj→Bool}(a2:∀ x∈xs,f x=some (g x))(an:xs.length<2 ^ 62):
 bk (AY xs f) (fun r=>(r= -1∧ ∀ x∈xs,g x=false)∨ ∃ i:Nat,i<xs.length∧r=i∧g (aF xs i)=true∧ ∀ j,j<i→g (aF xs j)=false):=by
 unfold AY
 refine bk.loop xs.length (fun k s=>s=(k:Int)∧ ∀ j,j<k→g (aF xs j)=false) (by omega) ⟨rfl,fun j aH=>by omega⟩ (fun k s aw au=>?_) (fun s au=>?_)
 ·obtain⟨aq,aX⟩:=au;subst aq
  refine bk.cond (fun _=>?_) (fun h=>by simp at h;omega)
  refine .idx rfl aw (.eq (a2 _ (by rw [eO xs aw];exact List.getElem_mem aw)) (.cond (fun h=>.ret ?_) (fun h=>.ret ⟨e2 (by omega),fun j aH=>?_⟩)))
  ·exact .ret (.inr ⟨k,aw,rfl,h,aX⟩)
  by_cases ui:j=k
  ·subst ui;exact h
  exact aX j (by omega)
 obtain⟨aq,aX⟩:=au;subst aq
 refine⟨_,by simp;rfl,?_⟩
 refine .ret (.inl ⟨rfl,fun x ar=>?_⟩)
 obtain⟨j,aH,rfl⟩:=List.mem_iff_getElem.1 ar
 rw [← eO xs aH];exact aX j aH
theorem Jk {s:aZ}(h:c1 s){k:Nat}(aw:k<4):bk (wG s ((k:Int)+1)) (fun r=>r=(k:Int)):=by
 unfold wG;refine(V7 (g:=fun t=>t.bP==(k:Int)+1) (fun x ar=>rfl) (by rw [h.kS];omega)).bind fun r aO=>.ret ?_;have cV:k<s.bE.length:=by rw [h.kS];exact aw
 rcases aO with⟨_,aO⟩ | ⟨i,aa,ae,aG,a0⟩
 ·have:=aO (aF s.bE k) (by rw [eO _ cV];exact List.getElem_mem cV);simp only [(h.gE aw).1,beq_self_eq_true] at this;cases this
 have a7:=(h.gE (show i<4 by have:=h.kS;omega)).1;simp only [a7,beq_iff_eq] at aG;omega
theorem OO {s:aZ}(h:c1 s){k:Nat}(aw:k<9):bk (y0 s ((k:Int)+1)) (fun r=>r=(k:Int)):=by
 unfold y0;refine(V8 (g:=fun t=>t.bP==(k:Int)+1) (fun x ar=>rfl) (by rw [h.sy];omega)).bind fun r aO=>.ret ?_;have cV:k<s.fY.length:=by rw [h.sy];exact aw
 rcases aO with⟨_,aO⟩ | ⟨i,aa,ae,aG,a0⟩
 ·have:=aO (aF s.fY k) (by rw [eO _ cV];exact List.getElem_mem cV);simp only [(h.uj aw).1,beq_self_eq_true] at this;cases this
 have a7:=(h.uj (show i<9 by have:=h.sy;omega)).1;simp only [a7,beq_iff_eq] at aG;omega
theorem PS (l:List Int){k:Nat}(aw:k<l.length)(an:l.length<2 ^ 30)(h:∀ j,j<l.length→aF l j=(j:Int)+1):bk (zh l ((k:Int)+1)) (fun r=>r=(k:Int)):=by
 unfold zh;refine bk.loop k (fun j s=>s=(j:Int)) (by omega) rfl (fun j i aH au=>?_) (fun i au=>?_)
 ·subst au;refine bk.cond (fun _=>?_) (fun h=>by simp at h;omega);refine .idx rfl (by omega) (.cond (fun aj=>?_) (fun aj=>.ret (e2 (by omega))));rw [h j (by omega),beq_iff_eq] at aj;omega
 subst au;have aa:decide ((k:Int)<(l.length:Int))=true:=by simp;omega
 have ae:(aF l k==(k:Int)+1)=true:=by rw [h k aw];simp
 rw [aa];simp only [cond_true];rw [mG (by omega)];simp only [Option.bind_some,ae,cond_true];exact⟨_,rfl,.ret rfl⟩
theorem Jl {s:aZ}(h:c1 s){k:Nat}(aw:k<4):bk (wH s ((k:Int)+1)) (fun r=>r=(k:Int)):=by
 unfold wH;refine(Rt h).bind fun y a5=>?_;have an:=h.kS;rw [a5.tables];refine(PS _ (by simp;omega) (by simp;omega) fun j aH=>?_).bind fun r aO=>.ret aO;rw [zv _ (by simpa using aH)];exact(h.gE (by simp at aH;omega)).1
theorem Xv {s:aZ}(h:c1 s){k:Nat}(aw:k<9):bk (BP s ((k:Int)+1)) (fun r=>r=(k:Int)):=by
 unfold BP;refine(Rt h).bind fun y a5=>?_;have an:=h.sy;rw [a5.fields];refine(PS _ (by simp;omega) (by simp;omega) fun j aH=>?_).bind fun r aO=>.ret aO;rw [zv _ (by simpa using aH)];exact(h.uj (by simp at aH;omega)).1
theorem Lu {key:c6}{j:Nat}(h:key.hB=(j:Int)+1):gT key=aF sA j:=by unfold gT;rw [h];congr 1;omega
theorem XT {s:aZ}(h:c1 s){t:b2}{i:Nat}(au:i<t.cn.length)(aw:lQ (aF t.cn i)):bk (BT s t (i:Int)) (fun r=>r=gT (aF t.cn i)):=by
 obtain⟨j,aH,a2,_⟩:=aw;unfold BT FR;refine .idx rfl au ?_;rw [Lu a2,a2];refine .bind (P:=fun r=>r=aF sA j) ((Xv h aH).bind fun y a5=>.idx a5 (by rw [h.sy];exact aH) (.ret (h.uj aH).2)) fun y a5=>.ret a5
def lead (n k:Int)(j:Nat):Bool:=decide ((j:Int)<n)&&decide (n - max 0 (min k n)≤ (j:Int))
theorem O6 (n k:Int)(bO:0≤n)(aa:n≤128):bk (y2 n k) (fun r=> ∀ j,j<128→ct r j=lead n k j):=by
 unfold y2 zc;have e:min (max 0 n) 128=n:=by omega
 rw [e];have aX:bt (n - min (max 0 k) n)=n - min (max 0 k) n:=ho (by omega) (by omega);refine .eq rfl ((Kk n).bind fun a bb=>?_);rw [aX];refine(Kk _).bind fun b hb=>(aar a b).bind fun r aO=>.ret fun j aH=>?_;rw [aO j aH,bb j aH,hb j aH];unfold lead;by_cases p:(j:Int)<n
 ·rw [decide_eq_true p];by_cases q:(j:Int)<n - min (max 0 k) n
  ·rw [decide_eq_true q,decide_eq_false (by omega)];rfl
  rw [decide_eq_false q,decide_eq_true (by omega)];rfl
 rw [decide_eq_false p,decide_eq_false (by omega)];rfl
theorem lQ.gT {key:c6}(h:lQ key):4≤Go.Proofs.YthkfkliknjiecaaGreat.gT key∧Go.Proofs.YthkfkliknjiecaaGreat.gT key≤32:=by
 obtain⟨j,aH,a2,_,_,aa,ae,_⟩:=h;rw [Lu a2];exact⟨aa,ae⟩
theorem aau {v w:az} :decide (v=w)=true↔ ∀ j,j<128→ct v j=ct w j:=by
 rw [decide_eq_true_eq];exact⟨fun h j _=>by rw [h],CR⟩
theorem YE (c:bq)(aj:hD c):bk (yO c) (fun r=>hD r.2):=by
 unfold yO;refine bk.loop 4 (fun k st=>st.1=(k:Int)∧hD st.2.2) (by omega) ⟨rfl,aj⟩ (fun k st aw au=>?_) (fun st au=>?_)
 ·obtain⟨i,p,yz⟩:=st;obtain⟨aq,aX⟩:=au;simp only at aq aX;subst aq;refine bk.cond (fun _=>?_) (fun h=>by simp at h;omega);refine .bind (gJ _ 256 aX (by omega)) fun aE aa=>.eq rfl (.idx rfl aw (.bind (gJ _ 4 aa.1 (by omega)) fun aK ae=>?_));refine .bind (P:=fun m=>hD m.1) (.cond (fun _=>?_) fun _=>.ret ae.1) fun bl cx=>.ret ⟨e2 (by omega),cx⟩;exact .idx rfl aw (.bind (gJ _ 256 ae.1 (by omega)) fun bs aG=>.eq rfl (.idx rfl aw (.eq rfl (.ret aG.1))))
 obtain⟨i,p,yz⟩:=st;obtain⟨aq,aX⟩:=au;simp only at aq aX;subst aq;refine⟨_,rfl,?_⟩;exact .ret aX
theorem XU (e:a8)(p:Vector az 4)(an:e.bU.length<2 ^ 30):bk (zb e p) (fun _=>True):=by
 unfold zb;refine bk.loop e.bU.length (fun k st=>st.1=(k:Int)) (by omega) rfl (fun k st aw au=>?_) (fun st au=>?_)
 ·obtain⟨i,p⟩:=st;simp only at au;subst au;refine bk.cond (fun _=>?_) (fun h=>by simp at h;omega);refine .idx rfl aw (.cond (fun _=>.ret (e2 (by omega))) fun dI=>?_);simp only [Bool.or_eq_false_iff,decide_eq_false_iff_not] at dI;have jm:k<4:=by have:=dI.1;omega
  refine .bind (P:=fun _=>True) (.cond (fun _=>.idx rfl jm (.eq rfl (.idx rfl jm (.eq rfl (.idx rfl jm (.idx rfl jm (.eq rfl (.ret trivial)))))))) fun _=>.eq rfl ?_) fun _ _=>.ret (e2 (by omega));exact .bind (P:=fun _=>True) (.cond (fun _=>.idx rfl jm (.eq rfl (.eq rfl (.idx rfl jm (.eq rfl (.ret trivial)))))) fun _=>.idx rfl jm (.ret trivial)) fun _ _=>.ret trivial
 obtain⟨i,p⟩:=st;simp only at au;subst au;refine⟨_,by simp;rfl,?_⟩;exact .ret trivial
def kX (a b:az):Bool:=decide (a.dg<b.dg)||(a.dg==b.dg&&decide (a.bX<b.bX))
theorem CC {a b:az} :kX a b=true↔a.dg<b.dg∨ (a.dg=b.dg∧a.bX<b.bX):=by simp [kX]
theorem wX (a:az):kX a a=false:=by simp [kX]
theorem zu {a b:az}(h:kX a b=true):kX b a=false:=by
 rw [Bool.eq_false_iff];intro ae;rw [CC] at h ae;simp only [BitVec.lt_def,BitVec.toNat_eq] at h ae;omega
theorem XV {x y i:Nat}(aa:x.testBit i=false)(ae:y.testBit i=true)(aG:∀ j,i<j→x.testBit j=y.testBit j):x<y:=by
 have a0:x / 2 ^ (i+1)=y / 2 ^ (i+1):=Nat.eq_of_testBit_eq fun j=>by
  rw [Nat.testBit_div_two_pow,Nat.testBit_div_two_pow];exact aG _ (by omega)
 rw [Nat.testBit_eq_decide_div_mod_eq] at aa ae;simp only [decide_eq_false_iff_not,decide_eq_true_eq] at aa ae;rw [Nat.pow_succ,← Nat.div_div_eq_div_mul,← Nat.div_div_eq_div_mul] at a0;have a7:x / 2 ^ i<y / 2 ^ i:=by omega
 exact Nat.lt_of_div_lt_div a7
theorem QB {x y:BitVec 64}{i:Nat}(aa:x.getLsbD i=false)(ae:y.getLsbD i=true)(aG:∀ j,i<j→j<64→x.getLsbD j=y.getLsbD j):x<y:=by
 rw [BitVec.lt_def];refine XV aa ae fun j aH=>?_;by_cases nv:j<64
 ·exact aG j aH nv
 show x.getLsbD j=y.getLsbD j;rw [BitVec.getLsbD_of_ge _ _ (by omega),BitVec.getLsbD_of_ge _ _ (by omega)]
theorem PT {a b:az}{i:Nat}(au:i<128)(aa:ct a i=false)(ae:ct b i=true)(aG:∀ j,i<j→j<128→ct a j=ct b j):kX a b=true:=by
 rw [CC];by_cases h:i<64
 ·right;unfold ct at aa ae;rw [if_pos h] at aa ae;constructor
  ·apply BitVec.eq_of_getLsbD_eq;intro j aH;have:=aG (j+64) (by omega) (by omega);unfold ct at this;rw [if_neg (by omega),if_neg (by omega)] at this;simpa using this
  refine QB aa ae fun j aH nv=>?_;have:=aG j aH (by omega);unfold ct at this;rwa [if_pos nv,if_pos nv] at this
 left;unfold ct at aa ae;rw [if_neg h] at aa ae;refine QB aa ae fun j aH nv=>?_;have:=aG (j+64) (by omega) (by omega);unfold ct at this;rw [if_neg (by omega),if_neg (by omega)] at this;simpa using this
theorem O7 (a b:az):bk (p8 a b) (fun r=>(r<0↔kX a b=true)∧ (r=0↔a=b)∧ (-1≤r∧r≤1)):=by
 unfold p8;refine .cond (fun h=>.ret ?_) fun h=>.eq rfl (.cond (fun ae=>.ret ?_) fun ae=>.ret ?_)
 ·simp only [decide_eq_true_eq] at h;subst h;simp [wX]
 ·simp only [decide_eq_false_iff_not] at h;exact⟨⟨fun _=>ae,fun _=>by omega⟩,⟨fun aG=>by omega,fun aG=>absurd aG h⟩,by omega,by omega⟩
 simp only [decide_eq_false_iff_not] at h;have l4:kX a b=false:=ae;exact⟨⟨fun aG=>by omega,fun aG=>by rw [l4] at aG;cases aG⟩,⟨fun aG=>by omega,fun aG=>absurd aG h⟩,by omega,by omega⟩
theorem F1 (a b:az):bk (p7 a b) (fun r=>(r>0↔kX b a=true)∧ (r<0↔kX a b=true)):=by
 unfold p7;refine(zF a).bind fun x ar=>(zF b).bind fun y a5=>?_;refine bk.loop 128 (fun k s=>s=127 - (k:Int)∧ ∀ j,128≤j+k→j<128→ct a j=ct b j) (by omega) ⟨rfl,fun j aa ae=>by omega⟩ (fun k s aw au=>?_) (fun s au=>?_)
 ·obtain⟨rfl,aX⟩:=au;refine bk.cond (fun _=>?_) (fun h=>by simp at h;omega);have l2:(127 - (k:Int))=((127 - k:Nat):Int):=by omega
  have vL:127 - k<128:=by omega
  refine .idx l2 vL (.idx l2 vL ?_);rw [ar _ vL,a5 _ vL];refine .cond (fun db=>.idx l2 vL ?_) fun heq=>.ret ⟨?_,fun j aa ae=>?_⟩
  ·have heq:∀ j,127 - k<j→j<128→ct a j=ct b j:=fun j aa ae=>aX j (by omega) ae;rw [a5 _ vL];refine .cond (fun hb=>.ret (.ret ?_)) fun hb=>.ret (.ret ?_)
   ·have bb:ct a (127 - k)=false:=by rw [hb] at db;simpa using db
    have:=PT vL bb hb heq;exact⟨⟨fun h=>by simp at h,fun h=>by rw [zu this] at h;cases h⟩,fun _=>this,fun _=>by simp⟩
   have bb:ct a (127 - k)=true:=by rw [hb] at db;simpa using db
   have:=PT vL hb bb fun j aa ae=>(heq j aa ae).symm;exact⟨⟨fun _=>this,fun _=>by simp⟩,fun h=>by simp at h,fun h=>by rw [zu this] at h;cases h⟩
  ·rw [ho (by omega) (by omega)];omega
  by_cases aH:j=127 - k
  ·subst aH;simpa using heq
  exact aX j (by omega) ae
 obtain⟨rfl,aX⟩:=au;refine⟨_,rfl,?_⟩;have:a=b:=CR fun j aH=>aX j (by omega) aH;subst this;refine .ret ⟨?_,?_⟩ <;> simp [wX]
end Go.Proofs.YthkfkliknjiecaaGreat
namespace Gv
structure rH {α:Type}(b:α→α→Bool):Prop where
 asymm:∀ x y,b x y=true→b y x=false
 trans:∀ x y z,b x y=true→b y z=true→b x z=true
def ins {α:Type}(b:α→α→Bool):List α→α→List α
 | [],x=>[x]
 | a::l,x=>if b a x=true then a::ins b l x else x::a::l
def e1 {α:Type}(b:α→α→Bool)(l:List α):List α:=l.foldl (ins b) []
def kY {α:Type}(b:α→α→Bool):List α→α→Nat
 | [],_=>0
 | a::l,x=>if b a x=true then kY b l x+1 else 0
def sK {α:Type}(b:α→α→Bool)(x y:α):Prop:=b x y=true∨b y x=true
variable {α:Type} {b:α→α→Bool}
theorem PU (a:α)(l:List α)(x:α):ins b (a::l) x=if b a x=true then a::ins b l x else x::a::l:=rfl
theorem KP:∀ {l:List α} {x:α},kY b l x≤l.length
 | [],_=>Nat.le_refl _
 | a::l,x=>by
   have:=KP (l:=l) (x:=x);unfold kY;split <;> simp <;> omega
theorem Ru:∀ (l:List α) (x:α),ins b l x=l.take (kY b l x)++x::l.drop (kY b l x)
 | [],x=>rfl
 | a::l,x=>by
   unfold ins kY;split
   ·rw [Ru l x];rfl
   rfl
theorem JV:∀ (l:List α) (x:α),(ins b l x).Perm (x::l)
 | [],x=>List.Perm.refl _
 | a::l,x=>by
   unfold ins;split
   ·exact((JV l x).cons a).trans (List.Perm.swap x a l)
   exact List.Perm.refl _
theorem aav {l:List α}{x y:α} :y∈ins b l x↔y=x∨y∈l:=by
 rw [(JV l x).mem_iff];simp
theorem CD (l:List α)(x:α):e1 b (l++[x])=ins b (e1 b l) x:=by
 simp [e1,List.foldl_append]
theorem Kl (l:List α):(e1 b l).Perm l:=by
 have key:∀ (l m:List α),(l.foldl (ins b) m).Perm (m++l):=by
  intro l;induction l with
  | nil=>intro m;simp
  | cons a l b6=>
    intro m
    refine(b6 (ins b m a)).trans ?_
    refine((JV m a).append_right l).trans ?_
    exact(List.perm_middle (a:=a) (l₁:=m) (l₂:=l)).symm
 exact key l []
theorem oX {l:List α}{y:α} :y∈e1 b l↔y∈l:=(Kl l).mem_iff
theorem abd {l:List α} :(e1 b l).length=l.length:=(Kl l).length_eq
theorem O8 (hb:rH b):∀ {l:List α} {x:α},l.Pairwise (fun x y=>b x y=true)→ (∀ a∈l,sK b a x)→ (ins b l x).Pairwise (fun x y=>b x y=true)
 | [],x,_,_=>by simp [ins]
 | a::l,x,hs,bM=>by
   obtain⟨aa,ae⟩:=List.pairwise_cons.1 hs;unfold ins;split
   ·rename_i oE;refine List.pairwise_cons.2 ⟨fun c aj=>?_,O8 hb ae fun a bb=>bM a (by simp [bb])⟩;rcases aav.1 aj with rfl | aj
    ·exact oE
    exact aa c aj
   rename_i oE;have v5:b x a=true:=(bM a (by simp)).resolve_left oE;refine List.pairwise_cons.2 ⟨fun c aj=>?_,hs⟩;rcases List.mem_cons.1 aj with rfl | aj
   ·exact v5
   exact hb.trans _ _ _ v5 (aa c aj)
theorem PV (hb:rH b){p:α→Bool} :∀ {l:List α} {x:α},l.Pairwise (fun x y=>b x y=true)→ (∀ a∈l,sK b a x)→
 (ins b l x).find? p=if p x=true then(match l.find? p with | none=>some x | some c=>if b x c=true then some x else some c) else l.find? p
 | [],x,_,_=>by
   unfold ins;by_cases hp:p x=true
   ·simp [hp]
   simp only [Bool.not_eq_true] at hp;simp [hp]
 | a::l,x,hs,bM=>by
   obtain⟨aa,ae⟩:=List.pairwise_cons.1 hs;unfold ins;by_cases oE:b a x=true
   ·rw [if_pos oE];by_cases Ii:p a=true
    ·rw [List.find?_cons_of_pos Ii,List.find?_cons_of_pos Ii];simp [hb.asymm _ _ oE]
    rw [List.find?_cons_of_neg Ii,List.find?_cons_of_neg Ii];exact PV hb ae fun a bb=>bM a (by simp [bb])
   rw [if_neg oE];have v5:b x a=true:=(bM a (by simp)).resolve_left oE;by_cases hp:p x=true
   ·rw [List.find?_cons_of_pos hp,if_pos hp];cases a2:(a::l).find? p with
    | none=>rfl
    | some c=>
      have aj:=List.mem_of_find?_eq_some a2
      have:b x c=true:=by
       rcases List.mem_cons.1 aj with rfl | aj
       ·exact v5
       exact hb.trans _ _ _ v5 (aa c aj)
      simp [this]
   rw [List.find?_cons_of_neg hp,if_neg hp]
theorem YF {l:List α}{x:α}(h:∀ c∈l,b c x=false):ins b l x=x::l:=by
 cases l with
 | nil=>rfl
 | cons a l=>unfold ins;rw [if_neg (by simp [h a (by simp)])]
theorem O9 (hb:rH b){q:α→Bool} :∀ {l:List α} {x:α},l.Pairwise (fun x y=>b x y=true)→ (∀ a∈l,sK b a x)→
 (ins b l x).filter q=if q x=true then ins b (l.filter q) x else l.filter q
 | [],x,_,_=>by
   show [x].filter q=if q x=true then [x] else [];by_cases hp:q x=true
   ·simp [hp]
   simp only [Bool.not_eq_true] at hp;simp [hp]
 | a::l,x,hs,bM=>by
   obtain⟨aa,ae⟩:=List.pairwise_cons.1 hs;have b6:=O9 hb (q:=q) (x:=x) ae fun a bb=>bM a (by simp [bb]);rw [PU];by_cases oE:b a x=true
   ·rw [if_pos oE];by_cases nA:q a=true
    ·rw [List.filter_cons_of_pos nA,List.filter_cons_of_pos nA,b6];by_cases hq:q x=true
     ·rw [if_pos hq,if_pos hq,PU,if_pos oE]
     rw [if_neg hq,if_neg hq]
    rw [List.filter_cons_of_neg nA,List.filter_cons_of_neg nA,b6]
   rw [if_neg oE];have v5:b x a=true:=(bM a (by simp)).resolve_left oE;by_cases hq:q x=true
   ·rw [List.filter_cons_of_pos hq,if_pos hq,YF];intro c aj;have mW:=(List.mem_filter.1 aj).1;refine hb.asymm _ _ ?_;rcases List.mem_cons.1 mW with rfl | mW
    ·exact v5
    exact hb.trans _ _ _ v5 (aa c mW)
   rw [List.filter_cons_of_neg hq,if_neg hq]
def tP (b:α→α→Bool)(l:List α):Prop:=l.Pairwise (sK b)
theorem sK.symm {x y:α}(h:sK b x y):sK b y x:=h.elim .inr .inl
theorem tP.snoc {l:List α}{x:α}(h:tP b (l++[x])):tP b l∧ ∀ a∈l,sK b a x:=by
 unfold tP at *;rw [List.pairwise_append] at h;exact⟨h.1,fun a bb=>h.2.2 a bb x (by simp)⟩
theorem PW {P:List α→Prop}(bO:P [])(aa:∀ l x,P l→P (l++[x]))(l:List α):P l:=by
 have:∀ r:List α,P r.reverse:=by
  intro r;induction r with
  | nil=>exact bO
  | cons a r b6=>rw [List.reverse_cons];exact aa _ _ b6
 have:=this l.reverse;rwa [List.reverse_reverse] at this
theorem Cj (hb:rH b){l:List α}(h:tP b l):(e1 b l).Pairwise (fun x y=>b x y=true):=by
 induction l using PW with
 | bO=>exact List.Pairwise.nil
 | aa l x b6=>
   obtain⟨aa,ae⟩:=h.snoc
   rw [CD]
   exact O8 hb (b6 aa) fun a bb=>ae a (oX.1 bb)
theorem YG (hb:rH b){q:α→Bool}{l:List α}(h:tP b l):(e1 b l).filter q=e1 b (l.filter q):=by
 induction l using PW with
 | bO=>rfl
 | aa l x b6=>
   obtain⟨aa,ae⟩:=h.snoc
   rw [CD,O9 hb (Cj hb aa) fun a bb=>ae a (oX.1 bb),b6 aa,List.filter_append]
   by_cases hq:q x=true
   ·rw [if_pos hq,List.filter_cons_of_pos hq,List.filter_nil,CD]
   rw [if_neg hq,List.filter_cons_of_neg hq,List.filter_nil,List.append_nil]
theorem KQ [Inhabited α](hb:rH b):∀ {l:List α} {x:α} {k:Nat},l.Pairwise (fun x y=>b x y=true)→k<l.length→ (b (aF l k) x=true↔k<kY b l x)
 | [],x,k,_,aw=>by simp at aw
 | a::l,x,k,hs,aw=>by
   obtain⟨aa,ae⟩:=List.pairwise_cons.1 hs;unfold kY;cases k with
   | zero=>
     have:aF (a::l) 0=a:=rfl
     rw [this]
     split <;> simp_all
   | succ k=>
     have iR:k<l.length:=by simpa using aw
     have he:aF (a::l) (k+1)=aF l k:=by rw [eO _ aw,eO _ iR];rfl
     rw [he,KQ hb ae iR]
     split
     ·omega
     rename_i oE
     constructor
     ·intro cf
      have a7:=(KQ hb ae iR).2 cf
      have bn:=aa (aF l k) (by rw [eO _ iR];exact List.getElem_mem _)
      exact absurd (hb.trans _ _ _ bn a7) oE
     intro h;omega
end Gv
namespace Go.Proofs.YthkfkliknjiecaaGreat
open Go Gv
theorem Wn {xs:List c6}{f:c6→Option Bool}{g:c6→Bool}(a2:∀ x∈xs,f x=some (g x))(an:xs.length<2 ^ 62):
 bk (AZ xs f) (fun r=>(r= -1∧ ∀ x∈xs,g x=false)∨ ∃ i:Nat,i<xs.length∧r=i∧g (aF xs i)=true∧ ∀ j,j<i→g (aF xs j)=false):=by
 unfold AZ
 refine bk.loop xs.length (fun k s=>s=(k:Int)∧ ∀ j,j<k→g (aF xs j)=false) (by omega) ⟨rfl,fun j aH=>by omega⟩ (fun k s aw au=>?_) (fun s au=>?_)
 ·obtain⟨aq,aX⟩:=au;subst aq
  refine bk.cond (fun _=>?_) (fun h=>by simp at h;omega)
  refine .idx rfl aw (.eq (a2 _ (by rw [eO xs aw];exact List.getElem_mem aw)) (.cond (fun h=>.ret ?_) (fun h=>.ret ⟨e2 (by omega),fun j aH=>?_⟩)))
  ·exact .ret (.inr ⟨k,aw,rfl,h,aX⟩)
  by_cases ui:j=k
  ·subst ui;exact h
  exact aX j (by omega)
 obtain⟨aq,aX⟩:=au;subst aq
 refine⟨_,by simp;rfl,?_⟩
 refine .ret (.inl ⟨rfl,fun x ar=>?_⟩)
 obtain⟨j,aH,rfl⟩:=List.mem_iff_getElem.1 ar
 rw [← eO xs aH];exact aX j aH
theorem _root_.Gv.bk.get {β:Type}{m:Option β}{v:β}(h:bk m (fun r=>r=v)):m=some v:=by
 obtain⟨r,aa,rfl⟩:=h;exact aa
theorem QC (a b:az):kX a b=true∨a=b∨kX b a=true:=by
 rw [CC,CC];rcases a with⟨aiO,eb⟩;rcases b with⟨aiP,aiQ⟩;simp only [BitVec.lt_def,az.mk.injEq,← BitVec.toNat_inj];omega
def lG (kind b:Int)(m:bW)(x:az):Bool:=
 if m.fm=false then true
 else if kind=1 then decide (x=m.cU)
 else if kind=2 then(List.range 128).all fun j=> !lead b m.en j||(ct x j==ct m.cU j)
 else if kind=3 then decide (tO x m.gy=m.cU)
 else !kX x m.cU&& !kX m.jG x
theorem XW {key:c6}(aw:lQ key)(m:bW)(x:az):BZ m key.dp (gT key) x=some (lG key.dp (gT key) m x):=by
 have hb:=aw.gT;obtain⟨_,_,_,aW,fF,_⟩:=aw;refine bk.get ?_;unfold BZ lG;refine .cond (fun hp=>.ret ?_) fun hp=>?_
 ·simp only [Bool.not_eq_true'] at hp;rw [if_pos hp];simp;omega
 simp only [Bool.not_eq_false'] at hp;rw [if_neg (by simp [hp])];refine .cond (fun aa=>.ret ?_) fun aa=>.cond (fun ae=>?_) fun ae=>.cond (fun aG=>?_) fun aG=>?_
 ·rw [if_pos (by simpa using aa)]
 ·rw [if_neg (by simpa using aa),if_pos (by simpa using ae)];refine(O6 _ _ (by omega) (by omega)).bind fun aE aq=>.eq (and_eq _ _) (.eq (and_eq _ _) (.ret ?_));rw [Bool.eq_iff_iff,aau,List.all_eq_true];constructor
  ·intro h j aH;have rF:=List.mem_range.1 aH;have:=h j rF;rw [zE,zE,aq j rF] at this;cases an:lead (gT key) m.en j
   ·rfl
   rw [an] at this;simpa using this
  intro h j aH;have:=h j (List.mem_range.2 aH);rw [zE,zE,aq j aH];cases an:lead (gT key) m.en j
  ·simp
  rw [an] at this;simpa using this
 ·rw [if_neg (by simpa using aa),if_neg (by simpa using ae),if_pos (by simpa using aG)];exact .eq (and_eq _ _) (.ret rfl)
 have jm:key.dp=4:=by simp only [beq_eq_false_iff_ne] at aa ae aG;omega
 rw [if_neg (by simpa using aa),if_neg (by simpa using ae),if_neg (by simpa using aG)];refine .cond (fun _=>?_) fun h=>by rw [jm] at h;cases h
 refine(O7 _ _).bind fun cz ⟨c8,c2,gG⟩=>.cu (P:=fun r=>(r<0↔kX x m.jG=true)∧ (r=0↔x=m.jG)∧ -1≤r∧r≤1) (fun _=>O7 _ _) fun ck bn=>.ret ?_;have gD:decide (cz≤0)= !kX x m.cU:=by
  rw [Bool.eq_iff_iff,decide_eq_true_eq,Bool.not_eq_true'];rcases QC m.cU x with h | h | h
  ·have:=c8.2 h;rw [zu h];simp;omega
  ·have:=c2.2 h;rw [h,wX];simp;omega
  rw [h];simp;have dn: ¬ cz<0:=fun cA=>by rw [zu h] at c8;simpa using c8.1 cA
  have fh:cz≠0:=fun cA=>by rw [c2.1 cA,wX] at h;cases h
  omega
 rw [gD];cases ar:kX x m.cU
 ·rw [gD,ar] at bn;obtain⟨dT,ew,iH⟩:=bn rfl;simp only [Bool.not_false,Bool.true_and];rw [Bool.eq_iff_iff,decide_eq_true_eq,Bool.not_eq_true'];rcases QC x m.jG with h | h | h
  ·have:=dT.2 h;rw [zu h];simp;omega
  ·have:=ew.2 h;rw [h,wX];simp;omega
  rw [h];simp;have dn: ¬ ck<0:=fun cA=>by rw [zu h] at dT;simpa using dT.1 cA
  have fh:ck≠0:=fun cA=>by rw [ew.1 cA,wX] at h;cases h
  omega
 simp
theorem XX {key:c6}(aw:lQ key){m:bW}(hm:pG key.dp (gT key) m)(x:az):BY m key.dp (gT key) x=some (lG key.dp (gT key) m x):=by
 have hb:=aw.gT;obtain⟨_,_,_,aW,fF,_⟩:=aw;refine bk.get ?_;unfold BY lG;refine .cond (fun hp=>.ret ?_) fun hp=>?_
 ·simp only [Bool.not_eq_true'] at hp;rw [if_pos hp];simp;omega
 simp only [Bool.not_eq_false'] at hp;rw [if_neg (by simp [hp])];refine .cond (fun aa=>.ret ?_) fun aa=>.cond (fun ae=>?_) fun ae=>.cond (fun aG=>?_) fun aG=>?_
 ·rw [if_pos (by simpa using aa)]
 ·rw [if_neg (by simpa using aa),if_pos (by simpa using ae)];have Uj:=hm.M6 (by simpa using ae) hp;have ah0:=hm.pre.2;refine(zF _).bind fun aE aq=>(zF _).bind fun aK aX=>?_;rw [ho (by omega) (by omega)];refine bk.loop m.en.toNat (fun r s=>s=gT key - m.en+(r:Int)∧ ∀ j:Nat,j<128→gT key - m.en≤ (j:Int)→ (j:Int)<gT key - m.en+(r:Int)→ct x j=ct m.cU j) (by omega) ⟨by simp,fun j aH aa ae=>by omega⟩ (fun r s aO hs=>?_) (fun s hs=>?_)
  ·obtain⟨rfl,hs⟩:=hs;refine .cond (fun _=>?_) (fun h=>by simp at h;omega);by_cases bO:0≤gT key - m.en+(r:Int)
   ·obtain⟨j,aH⟩:=Int.eq_ofNat_of_zero_le bO;rw [aH];have Dp:j<128:=by omega
    refine .cu (P:=fun k=>k=j) (fun _=>⟨j,mG Dp,rfl⟩) fun aW cj=>.cu (P:=fun k=>k=j) (fun _=>⟨j,mG Dp,rfl⟩) fun bI cV=>.eq rfl ?_;have yu:(decide ((j:Int)≥0)&&decide ((j:Int)<128))=true:=by simp;omega
    rw [cj yu,cV yu,yu,Bool.true_and,aq j Dp,aX j Dp];refine .cond (fun db=>.ret ?_) fun heq=>.ret ⟨by rw [ho (by omega) (by omega)];omega,fun i au aG a0=>?_⟩
    ·simp only [Sum.elim_inr];refine .ret ?_;refine(Bool.eq_false_iff.2 fun kR=>?_).symm;have:=List.all_eq_true.1 kR j (List.mem_range.2 Dp);have an:lead (gT key) m.en j=true:=by unfold lead;simp;omega
     rw [an] at this;simp at this db;exact db this
    by_cases gd:i=j
    ·subst gd;simpa using heq
    exact hs i au aG (by omega)
   have mC:(decide (gT key - m.en+(r:Int)≥0)&&decide (gT key - m.en+(r:Int)<128))=false:=by simp;omega
   refine .cu (P:=fun _=>True) (fun h=>by rw [mC] at h;cases h) fun aW _=>.cu (P:=fun _=>True) (fun h=>by rw [mC] at h;cases h) fun bI _=>.eq rfl ?_;rw [mC,Bool.false_and];refine .cond (fun h=>by cases h) fun _=>.ret ⟨by rw [ho (by omega) (by omega)];omega,fun i au aG a0=>hs i au aG (by omega)⟩
  obtain⟨rfl,hs⟩:=hs;have nS:decide (gT key - m.en+(m.en.toNat:Int)<gT key)=false:=by simp;omega
  rw [nS];refine⟨_,rfl,?_⟩;simp only [Sum.elim_inl];refine .ret ?_;refine(List.all_eq_true.2 fun j aH=>?_).symm;have rF:=List.mem_range.1 aH;cases an:lead (gT key) m.en j
  ·rfl
  unfold lead at an;simp only [Bool.and_eq_true,decide_eq_true_eq] at an;have:=hs j rF (by omega) (by omega);simp [this]
 ·rw [if_neg (by simpa using aa),if_neg (by simpa using ae),if_pos (by simpa using aG)];refine(YC _ _).bind fun y a5=>.ret ?_;rw [a5]
 have jm:key.dp=4:=by simp only [beq_eq_false_iff_ne] at aa ae aG;omega
 rw [if_neg (by simpa using aa),if_neg (by simpa using ae),if_neg (by simpa using aG)];refine .cond (fun _=>?_) fun h=>by rw [jm] at h;cases h
 refine(F1 _ _).bind fun cz ⟨c8,c2⟩=>.cu (P:=fun r=>(r>0↔kX m.jG x=true)∧ (r<0↔kX x m.jG=true)) (fun _=>F1 _ _) fun ck bn=>.ret ?_;have gD:decide (cz≤0)= !kX x m.cU:=by
  rw [Bool.eq_iff_iff,decide_eq_true_eq,Bool.not_eq_true',← Bool.not_eq_true,← c8];omega
 rw [gD];cases ar:kX x m.cU
 ·rw [gD,ar] at bn;obtain⟨dT,ew⟩:=bn rfl;simp only [Bool.not_false,Bool.true_and];rw [Bool.eq_iff_iff,decide_eq_true_eq,Bool.not_eq_true',← Bool.not_eq_true,← dT];omega
 simp
def mt (s:aZ)(k:Nat)(p:Vector az 4)(e:a8):Bool:=
 (List.range (aF s.bE k).cn.length).all fun i=>lG (aF (aF s.bE k).cn i).dp (gT (aF (aF s.bE k).cn i)) (aF e.bU i) (bH p i)
theorem XY {s:aZ}(h:c1 s){key:c6}(aw:lQ key):BX s key=some (gT key):=by
 obtain⟨j,aH,a2,_⟩:=aw;refine bk.get ?_;unfold BX;rw [a2];refine(OO h aH).bind fun r aO=>?_;subst aO;rw [show decide ((j:Int)<0)=false from decide_eq_false (by omega),cond_false];refine .idx rfl (by have:=h.sy;omega) (.ret ?_);rw [(h.uj aH).2,Lu a2]
theorem Pt {s:aZ}(h:c1 s){k:Nat}(aw:k<4){e:a8}(he:e.cO=(k:Int)+1):zi s e=some (aF s.bE k,true):=by
 refine bk.get ?_;unfold zi;rw [he];refine(Jk h aw).bind fun r aO=>?_;subst aO;rw [show decide ((k:Int)<0)=false from decide_eq_false (by omega),cond_false];exact .idx rfl (by have:=h.kS;omega) (.ret rfl)
theorem Rv {n i:Nat}{f:Nat→Bool}(h:∀ c,c<n→f c=true)(aR:i=n):(List.range i).all f=true:=by
 subst aR;exact List.all_eq_true.2 fun c aj=>h c (List.mem_range.1 aj)
theorem Rw {n i:Nat}{f:Nat→Bool}(au:i<n)(h:f i=false):(List.range n).all f=false:=by
 rw [Bool.eq_false_iff];intro aa;have:=List.all_eq_true.1 aa i (List.mem_range.2 au);rw [h] at this;cases this
theorem Xw {s:aZ}(h:c1 s){k:Nat}(aw:k<4){e:a8}(he:hH s k e)(p:Vector az 4):y7 s e p=some (mt s k p e):=by
 obtain⟨t1,⟨t2,t3⟩,t4,_⟩:=h.gE aw;refine bk.get ?_;unfold y7 mt;refine .eq (Pt h aw he.gE) (.cond (fun h=>by cases h) fun _=>?_);have hm:=he.len;simp only;refine bk.loop (aF s.bE k).cn.length (fun i st=>st=(i:Int)∧ ∀ c,c<i→lG (aF (aF s.bE k).cn c).dp (gT (aF (aF s.bE k).cn c)) (aF e.bU c) (bH p c)=true) (by omega) ⟨rfl,fun c aj=>by omega⟩ (fun i st au hs=>?_) (fun st hs=>?_)
 ·obtain⟨rfl,hs⟩:=hs;have l2:lQ (aF (aF s.bE k).cn i):=t4 _ (by rw [eO _ au];exact List.getElem_mem au);refine .cond (fun _=>?_) (fun h=>by simp at h;omega);refine .idx rfl au ?_;have mC:(decide ((i:Int)≥ (e.bU.length:Int))||decide ((i:Int)≥4))=false:=by simp;omega
  rw [mC];refine .cu (P:=fun c=>c=i) (fun _=>⟨i,mG (by omega),rfl⟩) fun bI aX=>.cu (P:=fun c=>c=gT (aF (aF s.bE k).cn i)) (fun _=>⟨_,XY h l2,rfl⟩) fun aK dd=>.cu (P:=fun c=>c=i) (fun _=>⟨i,mG (by omega),rfl⟩) fun cK g2=>?_;rw [aX rfl,dd rfl,g2 rfl];refine .cu (P:=fun c=>c=lG (aF (aF s.bE k).cn i).dp (gT (aF (aF s.bE k).cn i)) (aF e.bU i) (bH p i)) (fun _=>⟨_,XW l2 _ _,rfl⟩) fun bs jA=>.eq rfl ?_;rw [jA rfl,Bool.false_or];refine .cond (fun aR=>.ret ?_) fun a5=>.ret ⟨e2 (by omega),fun c aj=>?_⟩
  ·simp only [Sum.elim_inr];exact .ret (Rw au (by simpa using aR)).symm
  by_cases Na:c=i
  ·subst Na;simpa using a5
  exact hs c (by omega)
 obtain⟨rfl,hs⟩:=hs;rw [show decide (((aF s.bE k).cn.length:Int)<((aF s.bE k).cn.length:Int))=false by simp];refine⟨_,rfl,?_⟩;simp only [Sum.elim_inl];exact .ret (Rv hs rfl).symm
theorem Xx {s:aZ}(h:c1 s){k:Nat}(aw:k<4){e:a8}(he:hH s k e)(p:Vector az 4):BU s e p=some (mt s k p e):=by
 obtain⟨t1,⟨t2,t3⟩,t4,_⟩:=h.gE aw;refine bk.get ?_;unfold BU mt;rw [he.gE];refine(Jl h aw).bind fun r aO=>?_;subst aO;refine .idx rfl (by have:=h.kS;omega) ?_;have hm:=he.len;refine bk.loop (aF s.bE k).cn.length (fun i st=>st=(i:Int)∧ ∀ c,c<i→lG (aF (aF s.bE k).cn c).dp (gT (aF (aF s.bE k).cn c)) (aF e.bU c) (bH p c)=true) (by omega) ⟨rfl,fun c aj=>by omega⟩ (fun i st au hs=>?_) (fun st hs=>?_)
 ·obtain⟨rfl,hs⟩:=hs;have l2:lQ (aF (aF s.bE k).cn i):=t4 _ (by rw [eO _ au];exact List.getElem_mem au);refine .cond (fun _=>?_) (fun h=>by simp at h;omega);refine .idx rfl au (.idx rfl (by omega) ((XT h au l2).bind fun aK dd=>.idx rfl (by omega) ?_));rw [dd];refine .eq (XX l2 (he.um i au) _) (.cond (fun aR=>.ret ?_) fun a5=>.ret ⟨e2 (by omega),fun c aj=>?_⟩)
  ·simp only [Sum.elim_inr];exact .ret (Rw au (by simpa using aR)).symm
  by_cases Na:c=i
  ·subst Na;simpa using a5
  exact hs c (by omega)
 obtain⟨rfl,hs⟩:=hs;rw [show decide (((aF s.bE k).cn.length:Int)<((aF s.bE k).cn.length:Int))=false by simp];refine⟨_,rfl,?_⟩;simp only [Sum.elim_inl];exact .ret (Rv hs rfl).symm
def uo:List c6→List bW→Int
 | key::aU,m::ms=>if key.dp=2 then m.en else uo aU ms
 | _,_=>0
theorem GW:∀ {aU:List c6} {ms:List bW} {i:Nat},ms.length=aU.length→i<aU.length→ (aF aU i).dp=2→ (∀ j,j<i→ (aF aU j).dp≠2)→uo aU ms=(aF ms i).en
 | [],_,i,_,au,_,_=>by simp at au
 | key::aU,[],i,an,_,_,_=>by simp at an
 | key::aU,m::ms,0,_,_,ae,_=>by
   have:(aF (key::aU) 0)=key:=rfl;rw [this] at ae;unfold uo;rw [if_pos ae];rfl
 | key::aU,m::ms,i+1,an,au,ae,aR=>by
   have bO:=aR 0 (by omega);have:(aF (key::aU) 0)=key:=rfl;rw [this] at bO;unfold uo;rw [if_neg bO];have bD:∀ {β:Type} [Inhabited β] (x:β) (l:List β) (n:Nat),aF (x::l) (n+1)=aF l n:=fun x l n=>by simp [aF]
   rw [bD] at ae ⊢;exact GW (by simpa using an) (by simpa using au) ae fun j aH=>by have:=aR (j+1) (by omega);rwa [bD] at this
theorem KR:∀ {aU:List c6} {ms:List bW},(∀ key∈aU,key.dp≠2)→uo aU ms=0
 | [],_,_=>by unfold uo;rfl
 | key::aU,[],_=>by unfold uo;rfl
 | key::aU,m::ms,aR=>by
   unfold uo;rw [if_neg (aR key (by simp))];exact KR fun k aw=>aR k (by simp [aw])
def sU (s:aZ)(k:Nat)(e:a8):Int:=uo (aF s.bE k).cn e.bU
theorem Pa {s:aZ}(h:c1 s){k:Nat}(aw:k<4){e:a8}(he:hH s k e):ze s e=some (sU s k e):=by
 obtain⟨t1,⟨t2,t3⟩,t4,_⟩:=h.gE aw;have hm:=he.len;refine bk.get ?_;unfold ze sU;refine .eq (Pt h aw he.gE) ?_;simp only;refine(Wn (g:=fun key=>key.dp==2) (fun x ar=>rfl) (by omega)).bind fun r aO=>.eq rfl ?_;rcases aO with⟨rfl,aO⟩ | ⟨i,aa,rfl,aG,a0⟩
 ·refine .cond (fun _=>.ret ?_) (fun h=>by simp at h);rw [KR fun key jU=>by simpa using aO key jU]
 have dI:(!true||decide ((i:Int)<0)||decide ((i:Int)≥ (e.bU.length:Int)))=false:=by simp;omega
 rw [dI,cond_false];refine .idx rfl (by omega) (.ret ?_);rw [GW hm aa (by simpa using aG) fun j aH=>by simpa using a0 j aH]
theorem Pb {s:aZ}(h:c1 s){k:Nat}(aw:k<4){e:a8}(he:hH s k e):zf s e=some (sU s k e):=by
 obtain⟨t1,⟨t2,t3⟩,t4,_⟩:=h.gE aw;have hm:=he.len;refine bk.get ?_;unfold zf sU;rw [he.gE];refine(Jl h aw).bind fun r aO=>?_;subst aO;rw [show decide ((k:Int)<0)=false from decide_eq_false (by omega),cond_false];refine .idx rfl (by have:=h.kS;omega) ?_;refine bk.loop (aF s.bE k).cn.length (fun i st=>st=(i:Int)∧ ∀ j,j<i→ (aF (aF s.bE k).cn j).dp≠2) (by omega) ⟨rfl,fun j aH=>by omega⟩ (fun i st au hs=>?_) (fun st hs=>?_)
 ·obtain⟨rfl,hs⟩:=hs;refine .cond (fun _=>?_) (fun h=>by simp at h;omega);refine .idx rfl au (.eq rfl (.cond (fun aj=>?_) fun aj=>.ret ⟨e2 (by omega),fun j aH=>?_⟩))
  ·simp only [Bool.and_eq_true,beq_iff_eq] at aj;refine .idx rfl (by omega) (.ret ?_);simp only [Sum.elim_inr];exact .ret (GW hm au aj.1 hs).symm
  by_cases ic:j=i
  ·subst ic;have hd:decide ((j:Int)<(e.bU.length:Int))=true:=by simp;omega
   rw [hd,Bool.and_true] at aj;simpa using aj
  exact hs j (by omega)
 obtain⟨rfl,hs⟩:=hs;rw [show decide (((aF s.bE k).cn.length:Int)<((aF s.bE k).cn.length:Int))=false by simp];refine⟨_,rfl,?_⟩;simp only [Sum.elim_inl];refine .ret (KR fun key jU=>?_).symm;obtain⟨j,aH,rfl⟩:=List.mem_iff_getElem.1 jU;rw [← eO _ aH];exact hs j aH
def eT (s:aZ)(k:Nat)(a c:ax):Bool:=
 decide (c.bj.fP<a.bj.fP∨ (a.bj.fP=c.bj.fP∧ (sU s k c.bj<sU s k a.bj∨ (sU s k a.bj=sU s k c.bj∧c.cl<a.cl))))
theorem q3 (s:aZ)(k:Nat):rH (eT s k) where
 asymm x y h:=by
  unfold eT at *;rw [decide_eq_true_eq] at h;rw [decide_eq_false_iff_not];omega
 trans x y z h de:=by
  unfold eT at *;rw [decide_eq_true_eq] at *;omega
theorem abe {s:aZ}{k:Nat}{a c:ax}(h:a.cl≠c.cl):sK (eT s k) a c:=by
 unfold sK eT;rw [decide_eq_true_eq,decide_eq_true_eq];omega
def fr (x y:Int):Int:=if x<y then -1 else if y<x then 1 else 0
theorem xk (x y:Int):p6 x y=some (fr x y):=by
 unfold p6 BN fr;have:∀ z:Int,(z !=z)=false:=fun z=>by simp
 rw [this,this];simp only [Option.bind_some,cond_false];by_cases aa:x<y
 ·simp [aa]
 by_cases ae:y<x
 ·simp [aa,ae]
 simp [aa,ae]
theorem Zv (a c d:Int):s5 [a,c,d]=some (if a≠0 then a else if c≠0 then c else d):=by
 refine bk.get ?_;unfold s5;refine bk.loop 3 (fun i st=>st=(i:Int)∧ ∀ j,j<i→aF [a,c,d] j=0) (by omega) ⟨rfl,fun j aH=>by omega⟩ (fun i st au hs=>?_) (fun st hs=>?_)
 ·obtain⟨rfl,hs⟩:=hs;refine .cond (fun _=>?_) (fun h=>by simp at h;omega);refine .idx rfl (by simpa using au) (.cond (fun aj=>.ret ?_) fun aj=>.ret ⟨e2 (by omega),fun j aH=>?_⟩)
  ·simp only [Sum.elim_inr];refine .ret ?_;have bO:=hs 0;have aa:=hs 1;rcases (show i=0∨i=1∨i=2 by omega) with rfl | rfl | rfl
   ·have:a≠0:=by simpa [aF] using aj
    rw [if_pos this];rfl
   ·have:c≠0:=by simpa [aF] using aj
    have Nb:a=0:=by simpa [aF] using bO (by omega)
    rw [if_neg (by simpa using Nb),if_pos this];rfl
   have Nb:a=0:=by simpa [aF] using bO (by omega)
   have agO:c=0:=by simpa [aF] using aa (by omega)
   rw [if_neg (by simpa using Nb),if_neg (by simpa using agO)];rfl
  by_cases ic:j=i
  ·subst ic;simpa using aj
  exact hs j (by omega)
 obtain⟨rfl,hs⟩:=hs;refine⟨_,rfl,?_⟩;simp only [Sum.elim_inl];refine .ret ?_;have bO:a=0:=by simpa [aF] using hs 0 (by omega)
 have aa:c=0:=by simpa [aF] using hs 1 (by omega)
 have ae:d=0:=by simpa [aF] using hs 2 (by omega)
 simp [bO,aa,ae]
theorem Pu {s:aZ}(h:c1 s){k:Nat}(aw:k<4){a c:ax}(bb:hH s k a.bj)(aj:hH s k c.bj):zj s a c=some (eT s k a c):=by
 unfold zj eT;rw [xk,Option.bind_some,Pa h aw bb,Option.bind_some,Pa h aw aj,Option.bind_some,xk,Option.bind_some,xk,Option.bind_some,Zv,Option.bind_some];congr 1;rw [decide_eq_decide];unfold fr;split <;> split <;> (repeat' split) <;> omega
theorem YH {s:aZ}(h:c1 s){k:Nat}(aw:k<4){a c:ax}(bb:hH s k a.bj)(aj:hH s k c.bj):B1 s a c=some (eT s k a c):=by
 refine bk.get ?_;unfold B1 eT;refine .cond (fun aa=>.ret ?_) fun aa=>.eq (Pb h aw bb) (.eq (Pb h aw aj) (.cond (fun ae=>.ret ?_) fun ae=>.ret ?_))
 ·rw [decide_eq_decide];simp at aa;omega
 ·rw [decide_eq_decide];simp at aa ae;omega
 rw [decide_eq_decide];simp at aa ae;omega
theorem Vn {xs:List ax}{f:ax→Option Bool}{g:ax→Bool}(a2:∀ x∈xs,f x=some (g x))(an:xs.length<2 ^ 62):
 bk (wo xs f) (fun r=>(r= -1∧ ∀ x∈xs,g x=false)∨ ∃ i:Nat,i<xs.length∧r=i∧g (aF xs i)=true∧ ∀ j,j<i→g (aF xs j)=false):=by
 unfold wo
 refine bk.loop xs.length (fun k s=>s=(k:Int)∧ ∀ j,j<k→g (aF xs j)=false) (by omega) ⟨rfl,fun j aH=>by omega⟩ (fun k s aw au=>?_) (fun s au=>?_)
 ·obtain⟨aq,aX⟩:=au;subst aq
  refine bk.cond (fun _=>?_) (fun h=>by simp at h;omega)
  refine .idx rfl aw (.eq (a2 _ (by rw [eO xs aw];exact List.getElem_mem aw)) (.cond (fun h=>.ret ?_) (fun h=>.ret ⟨e2 (by omega),fun j aH=>?_⟩)))
  ·exact .ret (.inr ⟨k,aw,rfl,h,aX⟩)
  by_cases ui:j=k
  ·subst ui;exact h
  exact aX j (by omega)
 obtain⟨aq,aX⟩:=au;subst aq
 refine⟨_,by simp;rfl,?_⟩
 refine .ret (.inl ⟨rfl,fun x ar=>?_⟩)
 obtain⟨j,aH,rfl⟩:=List.mem_iff_getElem.1 ar
 rw [← eO xs aH];exact aX j aH
structure jZ (s:aZ)(k:Nat)(i:ax):Prop where
 dS:hH s k i.bj
theorem aaw {i:ax}(aa:i.bj.bU.length≤1000)(ae:i.bj.hl.length≤1000):oK i=some i:=by
 unfold oK FY Ff Fg;rw [iJ _ _ (by simp;omega) (by omega),iJ _ _ (by simp;omega) (by omega)];rfl
theorem zN {s:aZ}(h:c1 s){k:Nat}(aw:k<4){i:ax}(au:jZ s k i):oK i=some i:=by
 have aa:=au.dS.len;have ae:=au.dS.args;have aG:=(h.gE aw).2.1.2;exact aaw (by omega) (by omega)
def jl (l:List ax)(n:Int):Bool:=l.any fun c=>c.cl==n
theorem SQ (x:cN)(n:Int)(an:x.cg.length≤1000):bk ((wo x.cg (fun iw=>wx iw n)).bind fun aE=>some aE) (fun r=>(r= -1∧jl x.cg n=false)∨ ∃ i:Nat,i<x.cg.length∧r=i∧ (aF x.cg i).cl=n∧jl x.cg n=true∧ ∀ j,j<i→ (aF x.cg j).cl≠n):=by
 refine(Vn (g:=fun c=>c.cl==n) (fun c aj=>rfl) (by omega)).bind fun r aO=>.ret ?_;rcases aO with⟨aa,ae⟩ | ⟨i,aa,ae,aG,a0⟩
 ·exact .inl ⟨aa,by unfold jl;rw [List.any_eq_false];exact fun c aj=>by simp [ae c aj]⟩
 refine .inr ⟨i,aa,ae,by simpa using aG,?_,fun j aH=>by simpa using a0 j aH⟩;unfold jl;rw [List.any_eq_true];exact⟨aF x.cg i,by rw [eO _ aa];exact List.getElem_mem _,aG⟩
theorem Zw {s:aZ}(h:c1 s){k:Nat}(aw:k<4){x:cN}(ar:x.py=s){a c:ax}(bb:jZ s k a)(aj:jZ s k c):
 bk (yE x a c) (fun r=>r<0↔eT s k a c=true):=by
 unfold yE
 rw [ar]
 refine .eq (Pu h aw bb.dS aj.dS) (.cond (fun hb=>.ret ⟨fun _=>hb,fun _=>by omega⟩) fun hb=>.eq (Pu h aw aj.dS bb.dS) (.cond (fun _=>.ret ?_) fun _=>.ret ?_))
 ·rw [hb];simp
 rw [hb];simp
theorem abf {i j:Nat}(h:i+j<2 ^ 62):bt ((BitVec.ofInt 64 (bt ((i:Int)+(j:Int)))) >>> (1#64).toNat).toNat=(((i+j) / 2:Nat):Int):=by
 rw [show(i:Int)+(j:Int)=((i+j:Nat):Int) by omega,ho (x:=((i+j:Nat):Int)) (by omega) (by omega)];have:((BitVec.ofInt 64 ((i+j:Nat):Int)) >>> (1#64).toNat).toNat=(i+j) / 2:=by
  rw [BitVec.toNat_ushiftRight,qe (by omega)];rw [show(1#64).toNat=1 from rfl,Nat.shiftRight_eq_div_pow,Nat.pow_one]
 rw [this,ho (by omega) (by omega)]
theorem YI {l:List ax}{x:ax}{b:ax→ax→Bool}(hb:rH b)(hs:l.Pairwise (fun x y=>b x y=true))(an:l.length≤1000)
 {f:ax→ax→Option Int} (a2:∀ a∈l,bk (f a x) (fun r=>r<0↔b a x=true)):
 bk (AS l x f) (fun r=>r.1=(kY b l x:Int)):=by
 unfold AS
 have hf:=KP (b:=b) (l:=l) (x:=x)
 have vH:∀ h,h<l.length→aF l h∈l:=fun h cA=>by rw [eO _ cA];exact List.getElem_mem _
 have nS:∀ q:Bool,bk ((cu (decide (((kY b l x:Nat):Int)<(l.length:Int))) true (idx l.length ((kY b l x:Nat):Int))).bind fun bI=>
  (cu (decide (((kY b l x:Nat):Int)<(l.length:Int))) true (f (aF l bI) x)).bind fun aK=>some (((kY b l x:Nat):Int),(decide (((kY b l x:Nat):Int)<(l.length:Int)))&&(aK==0))) (fun r=>r.1=(kY b l x:Int)):=fun _=>by
  refine .cu (P:=fun c=>c=kY b l x) (fun h=>⟨_,mG (by simpa using h),rfl⟩) fun bI ae=>.cu (P:=fun _=>True) (fun h=>?_) fun aK _=>.ret rfl
  rw [ae h]
  exact(a2 _ (vH _ (by simpa using h))).mono fun _ _=>trivial
 refine bk.loop l.length (fun r st=> ∃ i j:Nat,st=((i:Int),(j:Int))∧i≤kY b l x∧kY b l x≤j∧j≤l.length∧j - i≤l.length - r) (by omega) ⟨0,l.length,rfl,by omega,by omega,by omega,by omega⟩ (fun r st aO eu=>?_) (fun st eu=>?_)
 ·obtain⟨i,j,rfl,aa,ae,aG,a0⟩:=eu
  refine .cond (fun aj=>?_) fun aj=>.ret ?_
  ·have gd:i<j:=by simpa using aj
   rw [abf (by omega)]
   have hm:(i+j) / 2<l.length:=by omega
   refine .idx rfl hm ((a2 _ (vH _ hm)).bind fun aE bm=>?_)
   have cf:=KQ hb (x:=x) hs hm
   refine .bind (P:=fun m=> ∃ i j:Nat,m=((i:Int),(j:Int))∧i≤kY b l x∧kY b l x≤j∧j≤l.length∧j - i≤l.length - (r+1)) (.cond (fun a5=>.eq rfl (.ret ?_)) fun a5=>.ret ?_) fun m hm=>.ret ?_
   ·have:=cf.1 (bm.1 (by simpa using a5))
    refine⟨(i+j) / 2+1,j,?_,by omega,ae,aG,by omega⟩
    simp only [e2 (show(i+j) / 2<2 ^ 62 by omega)]
   ·have: ¬ (i+j) / 2<kY b l x:=fun cA=>by
     have:=bm.2 (cf.2 cA);simp at a5;omega
    exact⟨i,(i+j) / 2,rfl,aa,by omega,by omega,by omega⟩
   obtain⟨E4,qN,rfl,a7⟩:=hm
   exact⟨E4,qN,rfl,a7⟩
  have gd: ¬ i<j:=by simpa using aj
  have:i=kY b l x:=by omega
  subst this
  exact nS true
 obtain⟨i,j,rfl,aa,ae,aG,a0⟩:=eu
 have gd:i=kY b l x:=by omega
 have aj:decide ((i:Int)<(j:Int))=false:=by simp;omega
 simp only [aj,cond_false]
 refine⟨_,rfl,?_⟩
 subst gd
 exact nS true
structure jo (s:aZ)(k:Nat)(l:List ax):Prop where
 ok:∀ i∈l,jZ s k i
 num:l.Pairwise fun a c=>a.cl≠c.cl
 len:l.length≤900
theorem jo.v7 {s:aZ}{k:Nat}{l:List ax}(h:jo s k l):tP (eT s k) l:=h.num.imp fun cA=>abe cA
theorem jo.e1 {s:aZ}{k:Nat}{l:List ax}(h:jo s k l):(∀ i∈e1 (eT s k) l,jZ s k i)∧ (e1 (eT s k) l).length≤900:=
 ⟨fun i au=>h.ok i (oX.1 au),by rw [abd];exact h.len⟩
theorem GD {s:aZ}{k:Nat}{l:List ax}{n:Int} :jl (e1 (eT s k) l) n=jl l n:=by
 unfold jl;rw [Bool.eq_iff_iff,List.any_eq_true,List.any_eq_true];exact⟨fun⟨c,aa,ae⟩=>⟨c,oX.1 aa,ae⟩,fun⟨c,aa,ae⟩=>⟨c,oX.2 aa,ae⟩⟩
theorem QD {l:List ax}{n:Int}(h:jl l n=false):∀ c∈l,c.cl≠n:=fun c aj=>by
 unfold jl at h;rw [List.any_eq_false] at h;simpa using h c aj
theorem jo.snoc {s:aZ}{k:Nat}{l:List ax}(h:jo s k l){i:ax}(au:jZ s k i)(aR:jl l i.cl=false)(an:l.length<900):jo s k (l++[i]) where
 ok c aj:=by
  rcases List.mem_append.1 aj with aj | aj
  ·exact h.ok c aj
  rw [List.mem_singleton.1 aj];exact au
 num:=by
  rw [List.pairwise_append];exact⟨h.num,by simp,fun a bb c aj=>by rw [List.mem_singleton.1 aj];exact QD aR a bb⟩
 len:=by simp;omega
def o5 (s:aZ)(k:Nat)(l:List ax):cN:= { py:=s,cg:=e1 (eT s k) l }
theorem abg {s:aZ}(h:c1 s){k:Nat}(aw:k<4){l:List ax}(an:jo s k l){i:ax}(au:jZ s k i)(hlen:l.length<900):
 A9 (o5 s k l) i=some (!jl l i.cl,if jl l i.cl=true then o5 s k l else o5 s k (l++[i])):=by
 refine bk.get ?_
 unfold A9
 obtain⟨js,gP⟩:=an.e1
 refine .cu (fun _=>SQ (o5 s k l) _ (by show(e1 _ l).length≤1000;omega)) fun aE aa=>?_
 have aa:=aa rfl
 rw [Bool.false_or]
 rcases aa with⟨rfl,ae⟩ | ⟨j,ae,rfl,aG,a0,a7⟩
 ·have l4:jl l i.cl=false:=by rw [← ae];exact GD.symm
  refine .cond (fun aj=>by simp at aj) fun _=>?_
  refine(YI (b:=eT s k) (q3 s k) (Cj (q3 s k) an.v7) (by omega) fun a bb=>Zw h aw rfl (js a bb) au).bind fun aK b4=>.eq (zN h aw au) ?_
  rw [b4]
  unfold Fb
  have hf:=KP (b:=eT s k) (l:=e1 (eT s k) l) (x:=i)
  refine .eq (a:=e1 (eT s k) (l++[i])) ?_ (.ret ?_)
  ·show DL 88 (e1 (eT s k) l) _ _=_
   unfold DL
   have rp:maxLen=9223372036854775807:=rfl
   rw [if_pos ⟨by omega,by omega,by simp,by simp <;> omega,by simp <;> omega⟩,CD,Ru]
   simp
  rw [l4];rfl
 have v8:jl l i.cl=true:=by rw [← a0];exact GD.symm
 refine .cond (fun _=>.ret ?_) fun aj=>by simp at aj <;> omega
 rw [v8];rfl
theorem YJ {s:aZ}(h:c1 s){k:Nat}(aw:k<4){l:List ax}(an:jo s k l)(p:Vector az 4):
 yA (o5 s k l) p=some (match (e1 (eT s k) l).find? (fun c=>mt s k p c.bj) with | some c=>(c,true) | none=>(default,false)):=by
 refine bk.get ?_
 obtain⟨js,gP⟩:=an.e1
 unfold yA
 refine .eq (a:=p) rfl ?_
 unfold AU
 have ML:∀ i (au:i<(e1 (eT s k) l).length),y7 s (aF (e1 (eT s k) l) i).bj p=some (mt s k p (aF (e1 (eT s k) l) i).bj)∧oK (aF (e1 (eT s k) l) i)=some (aF (e1 (eT s k) l) i):=fun i au=>by
  have hm:=js (aF (e1 (eT s k) l) i) (by rw [eO _ au];exact List.getElem_mem _);exact⟨Xw h aw hm.dS p,zN h aw hm⟩
 show bk ((Option.bind (Option.bind (et ei _ _) _) _)) _
 rw [Option.bind_assoc]
 refine bk.loop (e1 (eT s k) l).length (fun i st=>st=((i:Int),())∧ ∀ j,j<i→mt s k p (aF (e1 (eT s k) l) j).bj=false) (by omega) ⟨rfl,fun j aH=>by omega⟩ (fun i st au hs=>?_) (fun st hs=>?_)
 ·obtain⟨rfl,hs⟩:=hs
  obtain⟨ao,a3⟩:=ML i au
  refine .cond (fun _=>?_) (fun aj=>by simp [o5] at aj;omega)
  refine .idx rfl au (.eq ao (.cond (fun hm=>.eq (a:=(Sum.inr (true,aF (e1 (eT s k) l) i):Unit ⊕ (Bool×ax))) (by show Option.bind (oK (aF (e1 (eT s k) l) i)) _=_;rw [a3];rfl) (.ret ?_)) fun hm=>.ret ⟨?_,fun j aH=>?_⟩))
  ·refine .ret ?_
   rw [Qy (xs:=e1 (eT s k) l) (p:=fun c=>mt s k p c.bj) au hm hs]
  ·rw [e2 (by omega)]
  by_cases ic:j=i
  ·subst ic;exact hm
  exact hs j (by omega)
 obtain⟨rfl,hs⟩:=hs
 have aj:decide (((e1 (eT s k) l).length:Int)<((o5 s k l).cg.length:Int))=false:=by simp [o5]
 simp only [aj,cond_false]
 refine⟨_,rfl,.ret ?_⟩
 rw [Qz fun c aj=>?_]
 obtain⟨j,aH,rfl⟩:=List.mem_iff_getElem.1 aj
 rw [← eO _ aH];exact hs j aH
theorem XZ {s:aZ}(h:c1 s){k:Nat}(aw:k<4){l:List ax}(an:∀ i∈l,jZ s k i)(aR:l.length≤1000):zm l=some l:=by
 refine bk.get ?_;unfold zm;refine bk.loop l.length (fun i st=>st=((i:Int),l.take i)) (by omega) rfl (fun i st au hs=>?_) (fun st hs=>?_)
 ·subst hs;refine .cond (fun _=>?_) (fun aj=>by simp at aj;omega);refine .idx rfl au (.eq (zN h aw (an _ (by rw [eO _ au];exact List.getElem_mem _))) (.eq (iJ _ _ (by simp;omega) (by omega)) (.ret ?_)));rw [e2 (by omega),pv l au]
 subst hs;refine⟨_,by simp;rfl,.ret ?_⟩;simp
theorem abh {s:aZ}(h:c1 s){k:Nat}(aw:k<4){l:List ax}(an:jo s k l):A8 (o5 s k l)=some (e1 (eT s k) l):=by
 unfold A8;obtain⟨js,gP⟩:=an.e1;show Option.bind (zm (e1 (eT s k) l)) _=_;rw [XZ h aw js (by omega)];rfl
theorem Gf (v:az):p7 v v=some 0:=by
 obtain⟨r,aa,ae,aG⟩:=F1 v v;rw [wX] at ae aG;have:r=0:=by
  have c8: ¬ r>0:=fun h=>by simpa using ae.1 h
  have c2: ¬ r<0:=fun h=>by simpa using aG.1 h
  omega
 rw [aa,this]
theorem Xy (m:bW):wM m m=some 0:=by
 unfold wM;rw [Gf,Gf,Gf];simp
theorem Ck (n:Int):pt n n=some 0:=by
 unfold pt;simp
theorem WS (l:List bW)(an:l.length≤1000):uM l l=some 0:=by
 refine bk.get ?_;unfold uM;refine bk.loop l.length (fun i st=>st=(i:Int)) (by omega) rfl (fun i st au hs=>?_) (fun st hs=>?_)
 ·subst hs;refine .cond (fun _=>?_) (fun aj=>by simp at aj;omega);exact .idx rfl au (.idx rfl au (.eq (Xy _) (.cond (fun aj=>by simp at aj) fun _=>.ret (e2 (by omega)))))
 subst hs;refine⟨_,by simp;rfl,?_⟩;simp only [Sum.elim_inl];exact .eq (Ck _) (.ret rfl)
theorem W6 (l:List az)(an:l.length≤1000):wJ l l=some 0:=by
 refine bk.get ?_;unfold wJ;refine bk.loop l.length (fun i st=>st=(i:Int)) (by omega) rfl (fun i st au hs=>?_) (fun st hs=>?_)
 ·subst hs;refine .cond (fun _=>?_) (fun aj=>by simp at aj;omega);exact .idx rfl au (.idx rfl au (.eq (Gf _) (.cond (fun aj=>by simp at aj) fun _=>.ret (e2 (by omega)))))
 subst hs;refine⟨_,by simp;rfl,?_⟩;simp only [Sum.elim_inl];exact .eq (Ck _) (.ret rfl)
theorem YK {e:a8}(aa:e.bU.length≤1000)(ae:e.hl.length≤1000):uN e e=some 0:=by
 unfold uN;rw [Ck,Option.bind_some,Ck,Option.bind_some,WS _ aa,Option.bind_some,Ck,Option.bind_some];refine bk.get ?_;refine bk.loop 4 (fun i st=>st=(i:Int)) (by omega) rfl (fun i st au hs=>?_) (fun st hs=>?_)
 ·subst hs;refine .cond (fun _=>?_) (fun aj=>by simp at aj;omega);have bO:aF [(0:Int),0,0,0] i=0:=by
   rcases (show i=0∨i=1∨i=2∨i=3 by omega) with rfl | rfl | rfl | rfl <;> rfl
  refine .idx rfl (by simpa using au) (.cond (fun aj=>by rw [bO] at aj;simp at aj) fun _=>.ret (e2 (by omega)))
 subst hs;refine⟨_,rfl,?_⟩;simp only [Sum.elim_inl];exact .eq (W6 _ ae) (.ret rfl)
theorem Pv {i:ax}(aa:i.bj.bU.length≤1000)(ae:i.bj.hl.length≤1000):wO i i=some true:=by
 unfold wO FT;rw [YK aa ae];simp
theorem jZ.small {s:aZ}(h:c1 s){k:Nat}(aw:k<4){i:ax}(au:jZ s k i):i.bj.bU.length≤1000∧i.bj.hl.length≤1000:=by
 have aa:=au.dS.len;have ae:=au.dS.args;have aG:=(h.gE aw).2.1.2;exact⟨by omega,by omega⟩
theorem FW {l:List ax}(an:∀ i∈l,i.bj.bU.length≤1000∧i.bj.hl.length≤1000)(aR:l.length≤1000):uO l l=some true:=by
 refine bk.get ?_;unfold uO;refine .cond (fun aj=>by simp at aj) fun _=>?_;refine bk.loop l.length (fun i st=>st=(i:Int)) (by omega) rfl (fun i st au hs=>?_) (fun st hs=>?_)
 ·subst hs;refine .cond (fun _=>?_) (fun aj=>by simp at aj;omega);have:=an (aF l i) (by rw [eO _ au];exact List.getElem_mem _);exact .idx rfl au (.idx rfl au (.eq (Pv this.1 this.2) (.cond (fun aj=>by simp at aj) fun _=>.ret (e2 (by omega)))))
 subst hs;refine⟨_,by simp;rfl,?_⟩;simp only [Sum.elim_inl];exact .ret rfl
def jq (o:Option ax):ax×Bool:=match o with | some c=>(c,true) | none=>(default,false)
theorem aax {s:aZ}(h:c1 s){k:Nat}(aw:k<4){l:List ax}(an:jo s k l)(p:Vector az 4):
 B5 s l p=some (jq ((e1 (eT s k) l).find? (fun c=>mt s k p c.bj))):=by
 refine bk.get ?_
 unfold B5
 have hlen:=an.len
 refine bk.loop l.length (fun i st=>st=((jq ((e1 (eT s k) (l.take i)).find? (fun c=>mt s k p c.bj))).2,(i:Int),(jq ((e1 (eT s k) (l.take i)).find? (fun c=>mt s k p c.bj))).1)) (by omega) rfl (fun i st au hs=>?_) (fun st hs=>?_)
 ·subst hs
  refine .cond (fun _=>?_) (fun aj=>by simp at aj;omega)
  have ar:jZ s k (aF l i):=an.ok _ (by rw [eO _ au];exact List.getElem_mem _)
  refine .idx rfl au (.eq (Xx h aw ar.dS p) ?_)
  have Ay:tP (eT s k) (l.take (i+1)):=an.v7.sublist (List.take_sublist _ _)
  rw [pv l au] at Ay
  obtain⟨dq,e7⟩:=Ay.snoc
  have a2:=PV (q3 s k) (p:=fun c=>mt s k p c.bj) (x:=aF l i) (Cj (q3 s k) dq) fun a bb=>e7 a (oX.1 bb)
  rw [← CD,← pv l au] at a2
  have vH:∀ c,(e1 (eT s k) (l.take i)).find? (fun c=>mt s k p c.bj)=some c→jZ s k c:=fun c aj=>an.ok c (List.mem_of_mem_take (oX.1 (List.mem_of_find?_eq_some aj)))
  rw [a2]
  cases hm:mt s k p (aF l i).bj
  ·refine .cu (P:=fun _=>True) (fun aj=>by simp at aj) fun aK _=>?_
   refine .eq rfl (.ret ?_)
   simp only [e2 (show i<2 ^ 62 by omega)]
   simp
  cases agP:(e1 (eT s k) (l.take i)).find? (fun c=>mt s k p c.bj) with
  | none=>
    refine .cu (P:=fun _=>True) (fun aj=>by simp [jq] at aj) fun aK _=>?_
    refine .eq (a:=(true,aF l i)) (by simp [jq]) (.ret ?_)
    simp only [e2 (show i<2 ^ 62 by omega)]
    simp [jq]
  | some c=>
    refine .cu (P:=fun r=>r=eT s k (aF l i) c) (fun aj=>⟨_,YH h aw ar.dS (vH c agP).dS,rfl⟩) fun aK ae=>?_
    rw [ae (by simp [jq])]
    cases Uk:eT s k (aF l i) c
    ·refine .eq (a:=(true,c)) (by simp [jq]) (.ret ?_)
     simp only [e2 (show i<2 ^ 62 by omega)]
     simp [jq,Uk]
    refine .eq (a:=(true,aF l i)) (by simp [jq]) (.ret ?_)
    simp only [e2 (show i<2 ^ 62 by omega)]
    simp [jq,Uk]
 subst hs
 refine⟨_,by simp;rfl,.ret ?_⟩
 simp
theorem X0 {s:aZ}(h:c1 s){k:Nat}(aw:k<4){l:List ax}(an:jo s k l)(p:Vector az 4):
 yA (o5 s k l) p=some (jq ((e1 (eT s k) l).find? (fun c=>mt s k p c.bj))):=by
 rw [YJ h aw an];unfold jq;cases List.find? (fun c=>mt s k p c.bj) (e1 (eT s k) l) <;> rfl
theorem YL {s:aZ}(h:c1 s){k:Nat}(aw:k<4){l:List ax}(an:∀ i∈l,jZ s k i)(q:ax→Bool):
 (jq (l.find? q)).1.bj.bU.length≤1000∧ (jq (l.find? q)).1.bj.hl.length≤1000:=by
 cases a2:l.find? q with
 | none=>exact⟨Nat.zero_le _,Nat.zero_le _⟩
 | some c=>exact(an c (List.mem_of_find?_eq_some a2)).small h aw
theorem Zx (c:bq):bk (Bi c) (fun _=>True):=by
 unfold Bi;first | exact .ret trivial | exact .eq rfl (.ret trivial)
structure jH (hp:aN Cell)(t:Nat)(g:List Bool→Option Int):Prop where
 ok:∃ c,gr hp t=some c∧c.fZ=32∧oW hp c.ep∧ ∀ a4,cont hp c.ep a4=g a4
def Own (hp:aN Cell)(t q:Nat):Prop:=q=t∨ ∃ c a4,gr hp t=some c∧c5 hp c.ep a4=some q
def dP (v:az)(n:Nat):List Bool:=(List.range n).map fun i=>ct v (31 - i)
theorem Cd (v:az)(n:Nat):dP v (n+1)=dP v n++[ct v (31 - n)]:=by simp [dP,List.range_succ]
theorem Ce (v:az):dP v 0= []:=rfl
theorem Pw {hp:aN Cell}{t:Nat}{c:fX}(aj:gr hp t=some c)(hb:c.fZ=32){n:Nat}(aR:n≤32){v:az}(a6:∀ j,j<128→ct v j=true→lead 32 n j=true):
 yS hp (some t) v n=some true:=by
 refine bk.get ?_
 unfold yS
 have aq:(Option.isSome (some t)&&decide ((n:Int)≥0))=true:=by simp
 have aX:decide ((n:Int)≤c.fZ)=true:=by rw [hb];simp;omega
 refine .cu (P:=fun r=>r=t) (fun _=>⟨t,rfl,rfl⟩) fun b0 aa=>?_
 rw [aa aq]
 refine .cu (P:=fun r=>r=c) (fun _=>⟨c,aj,rfl⟩) fun br ae=>?_
 rw [ae aq]
 rw [aq,aX]
 refine .cu (P:=fun r=>r=t) (fun _=>⟨t,rfl,rfl⟩) fun cR aG=>?_
 rw [aG rfl]
 refine .cu (P:=fun r=>r=c) (fun _=>⟨c,aj,rfl⟩) fun cD a0=>?_
 rw [a0 rfl,hb]
 refine .cu (fun _=>O6 32 n (by decide) (by decide)) fun aE a7=>?_
 refine .cu (P:=fun r=>r=tO v aE) (fun _=>⟨_,and_eq v aE,rfl⟩) fun aK bn=>?_
 refine .eq rfl (.ret ?_)
 have:aK=v:=by
  rw [bn rfl];refine CR fun j aH=>?_;rw [zE,a7 rfl j aH];cases e:ct v j with
  | false=>rfl
  | true=>rw [a6 j aH e];rfl
 rw [this];simp
theorem Rx {v:az}{i:Nat}(au:i<32):bk (wS v (bt ((bt ((32:Int) - 1)) - (i:Int)))) (fun r=>r=ct v (31 - i)):=by
 have e:bt ((bt ((32:Int) - 1)) - (i:Int))=((31 - i:Nat):Int):=by
  rw [show bt ((32:Int) - 1)=31 from by rw [ho (by decide) (by decide)];rfl,ho (by omega) (by omega)];omega
 rw [e];refine(abc v _).mono fun r aO=>?_;rw [aO];have:decide (0≤ ((31 - i:Nat):Int)∧ ((31 - i:Nat):Int)<128)=true:=by rw [decide_eq_true_eq];omega
 rw [this,Bool.true_and];rfl
theorem Ry (b:Bool):(cond b (some (1:Int)) (some 0))=some ((fO b:Nat):Int):=by cases b <;> rfl
theorem Lv {σ ε:Type}{hp:aN Cell}{t:Nat}{c:fX}(aj:gr hp t=some c)(hb:c.fZ=32)(v:az){n:Nat}(aR:n≤32){step:Int→σ→Option (σ ⊕ ε)}{cE:σ}{P:σ ⊕ ε→Prop}(gx:Nat→σ→Prop)(bO:gx 0 cE)
 (hs:∀ i s,i<n→gx i s→bk (step ((fO (ct v (31 - i)):Nat):Int) s) (fun r=>match r with | .inl cr=>gx (i+1) cr | .inr e=>P (.inr e))) (he:∀ s,gx n s→P (.inl s)):bk (qS hp n v (some t) step cE) P:=by
 unfold qS
 refine bk.loop n (fun i s=>s.1=(i:Int)∧gx i s.2) (by omega) ⟨rfl,bO⟩ (fun i s au fI=>?_) (fun s fI=>?_)
 ·obtain⟨j,s⟩:=s;obtain⟨aq,aX⟩:=fI
  simp only at aq aX;subst aq
  refine bk.cond (fun _=>?_) (fun h=>by simp at h;omega)
  refine .eq rfl (.eq aj ?_)
  rw [hb]
  refine(Rx (by omega)).bind fun aE aa=>.eq (Ry aE) ?_
  rw [aa]
  refine(hs i s au aX).bind fun r aO=>?_
  cases r with
  | inl cr=>exact .ret ⟨e2 (by omega),aO⟩
  | inr e=>exact .ret (.ret aO)
 obtain⟨j,s⟩:=s;obtain⟨aq,aX⟩:=fI
 simp only at aq aX;subst aq
 refine⟨_,by simp;rfl,?_⟩
 exact .ret (he s aX)
theorem adn {σ ε:Type}{t:Nat}(v:az){n:Nat}(aR:n≤32){hq:σ→aN Cell}{step:Int→σ→av (σ ⊕ ε)}{cE:σ}{P:σ ⊕ ε→Prop}(gx:Nat→σ→Prop)(bO:gx 0 cE)(lK:∀ i s,gx i s→ ∃ c,gr (hq s) t=some c∧c.fZ=32)
 (hs:∀ i s,i<n→gx i s→dz (step ((fO (ct v (31 - i)):Nat):Int) s) (fun r=>match r with | .inl cr=>gx (i+1) cr | .inr e=>P (.inr e))) (he:∀ s,gx n s→P (.inl s)):dz (wA n v (some t) hq step cE) P:=by
 unfold wA
 refine .bind (P:=fun e=>match e with | .inl e=>P (.inl e.2.2) | .inr e=>P (.inr e.2.2.2.2.2.2)) (dz.loop n (fun i s=>s.1=(i:Int)∧gx i s.2) (by omega) ⟨rfl,bO⟩ (fun i s au fI=>?_) (fun s fI=>?_)) fun e h=>?_
 ·obtain⟨j,s⟩:=s;obtain⟨aq,aX⟩:=fI
  simp only at aq aX;subst aq
  refine dz.cond (fun _=>?_) (fun h=>by simp at h;omega)
  obtain⟨c,aj,hb⟩:=lK i s aX
  refine .eq rfl (.eq aj ?_)
  rw [hb]
  refine .l6 (Rx (by omega)) fun aE aa=>.eq (Ry aE) ?_
  rw [aa]
  refine .bind (hs i s au aX) fun r aO=>?_
  cases r with
  | inl cr=>exact .ret ⟨e2 (by omega),aO⟩
  | inr e=>exact .ret aO
 ·obtain⟨j,s⟩:=s;obtain⟨aq,aX⟩:=fI
  simp only at aq aX;subst aq
  refine dz.cond (fun h=>by simp at h) fun _=>.ret (he s aX)
 cases e with
 | inl e=>exact .ret h
 | inr e=>exact .ret h
theorem PX {hp:aN Cell}{t:Nat}{c:fX}(aj:gr hp t=some c)(hb:c.fZ=32)(bM:oW hp c.ep){n:Nat}(aR:n≤32){v:az}(a6:∀ j,j<128→ct v j=true→lead 32 n j=true):
 yZ hp (some t) v n=some (c5 hp c.ep (dP v n)):=by
 refine bk.get ?_
 unfold yZ
 refine .eq (Pw aj hb aR a6) (.cond (fun h=>by cases h) fun _=>.eq rfl (.eq aj (.eq rfl ?_)))
 show bk (Option.bind (qS hp (n:Int) v (some t) _ _) _) _
 refine bk.bind (P:=fun e:Ref ⊕ (Ref×Ref)=>e.elim (fun s=>s=c5 hp c.ep (dP v n)) (fun q=>q.2=c5 hp c.ep (dP v n))) (Lv aj hb v aR (fun i s=>s=c5 hp c.ep (dP v i)) m9.symm (fun i s au hs=>?_) (fun s hs=>hs)) fun e he=>?_
 ·refine .cond (fun h=>.ret ?_) fun h=>?_
  ·rw [Option.isNone_iff_eq_none] at h
   have aq:dP v n=dP v i++(dP v n).drop i:=by
    have:dP v i=(dP v n).take i:=by unfold dP;rw [← List.map_take,List.take_range];congr 2;omega
    rw [this,List.take_append_drop]
   show(none:Ref)=_
   rw [aq,mH,← hs,h,g7]
  cases s with
  | none=>simp at h
  | some p=>
    obtain⟨br,aa⟩:=bM.reads _ _ hs.symm
    refine .eq rfl (.idx rfl (by cases ct v (31 - i) <;> decide) (.eq aa (.ret ?_)))
    show bH br.df _=_
    rw [Cd,mH,← hs,h8 aa,m9]
 cases e with
 | inl s=>exact .ret he
 | inr q=>exact .ret he
theorem Rz {hp:aN Cell}{t:Nat}{g:List Bool→Option Int}(h:jH hp t g){n:Nat}(aR:n≤32){v:az}(a6:∀ j,j<128→ct v j=true→lead 32 n j=true):
 wI hp (some t) v n=some (match g (dP v n) with | none=>(0,false) | some id=>(id,true)):=by
 obtain⟨c,aj,hb,bM,bD⟩:=h.ok
 refine bk.get ?_
 unfold wI
 refine .eq (PX aj hb bM aR a6) ?_
 rw [← bD]
 cases e:c5 hp c.ep (dP v n) with
 | none=>
   rw [k7 e]
   refine .cu (P:=fun _=>True) (fun h=>by cases h) fun o _=>.cu (P:=fun _=>True) (fun h=>by cases h) fun o _=>.cond (fun _=>.ret rfl) fun h=>by cases h
 | some p=>
   obtain⟨d,hd⟩:=bM.reads _ _ e
   rw [kK e hd]
   refine .cu (P:=fun r=>r=p) (fun _=>⟨p,rfl,rfl⟩) fun o aa=>?_
   rw [aa rfl]
   refine .cu (P:=fun r=>r=d) (fun _=>⟨d,hd,rfl⟩) fun br ae=>?_
   rw [ae rfl]
   refine .cond (fun h=>?_) fun h=>?_
   ·have:d.fu=false:=by simpa using h
    rw [this];exact .ret rfl
   have:d.fu=true:=by simpa using h
   rw [this];exact .eq rfl (.eq hd (.ret rfl))
structure HD (kZ hp:aN Cell)(t:Nat)(g:List Bool→Option Int)(r:Nat):Prop where
 cell:∃ c,gr hp t=some c∧c.fZ=32∧c.ep=some r
 tree:oW hp (some r)
 cont:∀ a4,cont hp (some r) a4=g a4
 keeps:fp kZ hp (Own kZ t)
 own:∀ a4 q,c5 hp (some r) a4=some q→Own kZ t q∨q ∉ eZ kZ
theorem Cl {hp:aN Cell}{a t:Nat}{k:Cell}(bb:a ∉ eZ hp)(h:pat hp t=some k):a≠t:=fun e=>bb (e ▸ jF h)
theorem PY {hp:aN Cell}{a:Nat}{x:ec} :cZ ((a,.gM x)::hp) a=some x:=by rw [qb,qU,if_pos rfl]
theorem X1 {hp:aN Cell}{a:Nat}(bb:a ∉ eZ hp):cZ hp a=none:=by unfold cZ;rw [Zs bb]
theorem zw {hp:aN Cell}{p:Nat}{k:Cell}{x:ec}(h:pat hp p=some k):cZ (dr hp p (.gM x)) p=some x:=by rw [qb,tq h]
theorem uS {hp:aN Cell}{p q:Nat}{k:Cell}(h:p≠q):cZ (dr hp p k) q=cZ hp q:=wU (m4 h)
theorem OP {hp:aN Cell}{a q:Nat}{k:Cell}(h:a≠q):cZ ((a,k)::hp) q=cZ hp q:=wU (by rw [qU,if_neg h])
theorem PZ {hp:aN Cell}{p:Nat}{k:Cell}{x:fX}(h:pat hp p=some k):gr (dr hp p (.ky x)) p=some x:=by rw [s6,tq h]
theorem F2 {hp:aN Cell}{p q:Nat}{k:Cell}(h:p≠q):gr (dr hp p k) q=gr hp q:=F0 (m4 h)
theorem OQ {hp:aN Cell}{a q:Nat}{k:Cell}(h:a≠q):gr ((a,k)::hp) q=gr hp q:=F0 (by rw [qU,if_neg h])
theorem Hh {hp:aN Cell}{p t:Nat}{x:ec}{c:fX}(aa:cZ hp p=some x)(ae:gr hp t=some c):p≠t:=fun e=>by
 subst e;rw [qb] at aa;rw [s6,aa] at ae;cases ae
theorem abi {hp:aN Cell}{t:Nat}{g:List Bool→Option Int}{c:fX}(aj:gr hp t=some c)(hb:c.fZ=32)(bM:oW hp c.ep)(bD:∀ a4,cont hp c.ep a4=g a4):
 dz (cond c.ep.isNone (
     av.bind (av.mk hp (Cell.gM (default:ec))) fun c2=>
     av.bind (av.of (gr c2.2 t)) fun EO=>
     av.bind (av.of (some (dr c2.2 t (Cell.ky ({ EO with ep:=(some c2.1:Ref) } :fX))))) fun vO=>
     av.ret vO) (av.ret hp)) (fun cP=> ∃ r,HD hp cP t g r):=by
 have hF:=s6.1 aj
 refine .cond (fun h=>.mk fun a bb=>?_) fun h=>?_
 ·have aO:c.ep=none:=by rw [Option.isNone_iff_eq_none] at h;exact h
  have Ul:=Cl bb hF
  have HP:gr ((a,Cell.gM default)::hp) t=some c:=by rw [OQ Ul];exact aj
  refine .eq HP (.eq rfl (.ret ⟨a,?_⟩))
  have aR:cZ (dr ((a,Cell.gM default)::hp) t (.ky { c with ep:=some a })) a=some default:=by
   rw [uS Ul.symm,PY]
  have a2:=Pr aR
  refine⟨⟨_,PZ (s6.1 HP),hb,rfl⟩,⟨fun a4 p aa=>?_,fun a4 cs p aa ae=>?_,fun a4 p aa=>?_⟩,fun a4=>?_,?_,fun a4 q aa=>?_⟩
  ·rw [a2] at aa
   split at aa
   ·cases aa;exact⟨_,aR⟩
   cases aa
  ·rw [a2] at aa ae
   split at aa <;> split at ae
   ·rename_i aq aX;rw [aq,aX]
   ·cases ae
   ·cases aa
   cases aa
  ·rw [a2] at aa
   split at aa
   ·rename_i e;rw [e];exact Nat.zero_le _
   cases aa
  ·rw [← bD,aO,k7 g7]
   by_cases e:a4= []
   ·rw [kK (by rw [a2,if_pos e]) aR];rfl
   rw [k7 (by rw [a2,if_neg e])]
  ·exact(fp.mk' bb).trans (own':=fun q=>q=t) (fp.up (own:=fun q=>q=t) rfl) fun q _ aa=>.inl aa
  rw [a2] at aa
  split at aa
  ·cases aa;exact .inr bb
  cases aa
 cases aO:c.ep with
 | none=>rw [aO] at h;cases h
 | some r=>
   rw [aO] at bM bD
   exact .ret ⟨r,⟨c,aj,hb,aO⟩,bM,bD,.refl,fun a4 q aa=>.inl (.inr ⟨c,a4,aj,by rw [aO];exact aa⟩)⟩
theorem ado {hp:aN Cell}{t:Nat}{g:List Bool→Option Int}(h:jH hp t g){n:Nat}(aR:n≤32){v:az}(a6:∀ j,j<128→ct v j=true→lead 32 n j=true)(id:Int)(gf:g (dP v n)=none):
 dz (y8 hp (some t) v n id) (fun r=>r.1=true∧jH r.2 t (fun a4=>if a4=dP v n then some id else g a4)∧fp hp r.2 (Own hp t)∧ ∀ q,Own r.2 t q→Own hp t q∨q ∉ eZ hp):=by
 obtain⟨c,aj,hb,bM,bD⟩:=h.ok
 unfold y8
 refine .eq (Pw aj hb aR a6) (.cond (fun h=>by cases h) fun _=>.eq (PX aj hb bM aR a6) ?_)
 refine .cu (P:=fun o=>c5 hp c.ep (dP v n)=some o) (fun aa=>?_) fun b0 aa=>?_
 ·cases e:c5 hp c.ep (dP v n) with
  | none=>rw [e] at aa;cases aa
  | some p=>exact⟨p,rfl,rfl⟩
 refine .cu (P:=fun d=>cZ hp b0=some d) (fun ae=>?_) fun br ae=>?_
 ·obtain⟨d,hd⟩:=bM.reads _ _ (aa ae)
  exact⟨d,hd,hd⟩
 refine .cond (fun aG=>?_) fun _=>?_
 ·simp only [Bool.and_eq_true] at aG
  rw [← bD,kK (aa aG.1) (ae aG.1),aG.2] at gf
  cases gf
 refine .eq rfl (.eq aj (.bind (abi aj hb bM bD) fun bl cx=>?_))
 obtain⟨r,cx⟩:=cx
 obtain⟨g3,mq,air,M1⟩:=cx.cell
 refine .eq mq (.eq rfl ?_)
 show dz (av.bind (wA (n:Int) v (some t) _ _ _) _) _
 refine .bind (P:=fun e:(Ref×aN Cell) ⊕ Empty=> ∃ p di,e= .inl (some p,di)∧c5 di (some r) (dP v n)=some p∧HD hp di t g r) (adn v aR (fun i s=> ∃ p,s.1=some p∧c5 s.2 (some r) (dP v i)=some p∧HD hp s.2 t g r) ⟨r,M1,m9,cx⟩ (fun i s au=>?_) (fun i s au hs=>?_) (fun s hs=>?_)) fun e he=>?_
 ·obtain⟨p,_,_,hm⟩:=au
  obtain⟨d,a0,a7,_⟩:=hm.cell
  exact⟨d,a0,a7⟩
 ·obtain⟨agQ,di⟩:=s
  obtain⟨p,aq,aX,hm⟩:=hs
  simp only at aq aX hm
  subst aq
  obtain⟨d,hd⟩:=hm.tree.reads _ _ aX
  have cf:fO (ct v (31 - i))<2:=by cases ct v (31 - i) <;> decide
  refine .eq rfl (.idx rfl cf (.eq hd ?_))
  refine .bind (P:=fun hR=> ∃ q NM,cZ hR p=some NM∧bH NM.df (fO (ct v (31 - i)))=some q∧c5 hR (some r) (dP v i)=some p∧HD hp hR t g r) (.cond (fun bn=>.mk fun a bb=>?_) fun bn=>.ret ?_) fun hR dn=>?_
  ·have pX:bH d.df (fO (ct v (31 - i)))=none:=by rw [Option.isNone_iff_eq_none] at bn;exact bn
   have Um:=Cl bb (qb.1 hd)
   have fx:cZ ((a,Cell.gM default)::di) p=some d:=by rw [OP Um];exact hd
   refine .idx rfl cf (.eq fx (.eq rfl (.ret ?_)))
   have hf:cZ (dr ((a,Cell.gM default)::di) p (.gM { d with df:=dD d.df (fO (ct v (31 - i))) (some a) })) a=some default:=by
    rw [uS Um.symm,PY]
   have cY:cZ (dr ((a,Cell.gM default)::di) p (.gM { d with df:=dD d.df (fO (ct v (31 - i))) (some a) })) p=some { d with df:=dD d.df (fO (ct v (31 - i))) (some a) } :=zw (qb.1 fx)
   obtain⟨ao,a3,bx⟩:=grow (by unfold dP;simp;omega) hm.tree aX hd pX (X1 bb) cY hf fun q ki nU=>by rw [uS ki.symm,OP nU.symm]
   have DV:Own hp t p∨p ∉ eZ hp:=hm.own _ _ aX
   refine⟨a,_,cY,by rw [iW _ _ cf,if_pos rfl],by rw [a3,if_neg (fun e=>by have:=congrArg List.length e;simp at this)];exact aX,?_,ao,fun a4=>by rw [bx,hm.cont],?_,fun a4 q hq=>?_⟩
   ·obtain⟨d4,a0,a7,fh⟩:=hm.cell
    have hF:=Hh hd a0
    exact⟨d4,by rw [F2 hF,OQ (Cl bb (s6.1 a0))];exact a0,a7,fh⟩
   ·refine hm.keeps.trans (own':=fun q=>q=p) ((fp.mk' bb).trans (own':=fun q=>q=p) (fp.up (own:=fun q=>q=p) rfl) fun q _ gh=>gh) fun q hq gh=>?_
    subst gh
    exact DV.resolve_right fun jM=>jM hq
   rw [a3] at hq
   split at hq
   ·cases hq;exact .inr fun gh=>bb (hm.keeps.keys _ gh)
   exact hm.own _ _ hq
  ·cases pX:bH d.df (fO (ct v (31 - i))) with
   | none=>rw [pX] at bn;cases bn
   | some q=>exact⟨q,d,hd,pX,aX,hm⟩
  obtain⟨q,NM,fh,gh,jM,qH⟩:=dn
  refine .idx rfl cf (.eq fh (.ret ⟨q,gh,?_,qH⟩))
  show c5 hR (some r) (dP v (i+1))=some q
  rw [Cd,mH,jM,h8 fh,gh,m9]
 ·obtain⟨agQ,di⟩:=s
  obtain⟨p,aq,aX,hm⟩:=hs
  simp only at aq aX hm
  subst aq
  exact⟨p,di,rfl,aX,hm⟩
 obtain⟨p,di,rfl,aX,hm⟩:=he
 obtain⟨d,hd⟩:=hm.tree.reads _ _ aX
 have Nc:=qb.1 hd
 refine .eq rfl (.eq hd (.eq rfl (.eq rfl ?_)))
 have fx:cZ (dr di p (.gM { d with fu:=true })) p=some { d with fu:=true } :=zw Nc
 refine .eq fx (.eq rfl (.ret ?_))
 have pa:cZ (dr (dr di p (.gM { d with fu:=true })) p (.gM { d with fu:=true,hY:=id })) p=some { d with fu:=true,hY:=id } :=zw (qb.1 fx)
 obtain⟨s1,s2⟩:=TC hm.tree aX hd pa rfl fun q hq=>by rw [uS hq.symm,uS hq.symm]
 obtain⟨d4,a0,a7,fh⟩:=hm.cell
 have hF:=Hh hd a0
 have v8:gr (dr (dr di p (.gM { d with fu:=true })) p (.gM { d with fu:=true,hY:=id })) t=some d4:=by rw [F2 hF,F2 hF];exact a0
 have DV:Own hp t p∨p ∉ eZ hp:=hm.own _ _ aX
 refine⟨rfl,⟨d4,v8,a7,by rw [fh];exact s1,fun a4=>?_⟩,?_,fun q hq=>?_⟩
 ·rw [fh,s2,hm.cont];rfl
 ·refine hm.keeps.trans (own':=fun q=>q=p) ((fp.up (own:=fun q=>q=p) rfl).trans (own':=fun q=>q=p) (fp.up (own:=fun q=>q=p) rfl) fun q _ gh=>gh) fun q hq gh=>?_
  subst gh
  exact DV.resolve_right fun jM=>jM hq
 rcases hq with rfl | ⟨j4,a4,aa,ae⟩
 ·exact .inl (.inl rfl)
 rw [v8] at aa;cases aa
 rw [fh,Cs hd pa rfl (fun q hq=>by rw [uS hq.symm,uS hq.symm])] at ae
 exact hm.own _ _ ae
theorem le_toNat {x:BitVec 64}{k:Nat}(aw:k<2 ^ 64):decide (x≥BitVec.ofNat 64 k)=decide (k≤x.toNat):=by
 rw [decide_eq_decide,ge_iff_le,BitVec.le_def,BitVec.toNat_ofNat,Nat.mod_eq_of_lt aw]
theorem YM (x:BitVec 64)(h:x.toNat<2 ^ 32):bk (wC x) (fun r=>r≤32):=by
 unfold wC;refine .bind (P:=fun m=>m=(x,0)) (.cond (fun aj=>?_) fun _=>.ret rfl) fun bl aa=>?_
 ·rw [le_toNat (by decide)] at aj;simp at aj;omega
 subst aa;refine .bind (P:=fun m=>m.1.toNat<65536∧0≤m.2∧m.2≤16) (.cond (fun aj=>.ret ⟨?_,?_⟩) fun aj=>.ret ⟨?_,Int.le_refl 0,by show(0:Int)≤16;decide⟩) fun cF ae=>?_
 ·rw [BitVec.toNat_ushiftRight,show(16#64).toNat=16 from rfl,Nat.shiftRight_eq_div_pow];simp only;omega
 ·rw [show bt ((0:Int)+16)=16 from by rw [ho (by decide) (by decide)];rfl];exact⟨by show(0:Int)≤16;decide,Int.le_refl 16⟩
 ·rw [le_toNat (by decide)] at aj;simp at aj;exact aj
 refine .bind (P:=fun m=>m.1.toNat<256∧0≤m.2∧m.2≤24) (.cond (fun aj=>.ret ⟨?_,?_⟩) fun aj=>.ret ⟨?_,ae.2.1,by have:=ae.2.2;simp only;omega⟩) fun fg aG=>?_
 ·rw [BitVec.toNat_ushiftRight,show(8#64).toNat=8 from rfl,Nat.shiftRight_eq_div_pow];have:=ae.1;omega
 ·have:=ae.2;rw [ho (by omega) (by omega)];constructor <;> omega
 ·rw [le_toNat (by decide)] at aj;simp at aj;exact aj
 obtain⟨aG,a0,a7⟩:=aG;have key:∀ k:Fin 256,∃ y,DN (ByteArray.mk (List.toArray (List.append (List.append [0,1,2,2,3,3,3,3,4,4,4,4,4,4,4,4,5,5,5,5,5,5,5,5,5,5,5,5,5,5,5,5,6,6,6,6,6,6,6,6,6,6,6,6,6,6,6,6,6,6,6,6,6,6,6,6,6,6,6,6,6,6,6,6] [7,7,7,7,7,7,7,7,7,7,7,7,7,7,7,7,7,7,7,7,7,7,7,7,7,7,7,7,7,7,7,7,7,7,7,7,7,7,7,7,7,7,7,7,7,7,7,7,7,7,7,7,7,7,7,7,7,7,7,7,7,7,7,7]) (List.append [8,8,8,8,8,8,8,8,8,8,8,8,8,8,8,8,8,8,8,8,8,8,8,8,8,8,8,8,8,8,8,8,8,8,8,8,8,8,8,8,8,8,8,8,8,8,8,8,8,8,8,8,8,8,8,8,8,8,8,8,8,8,8,8] [8,8,8,8,8,8,8,8,8,8,8,8,8,8,8,8,8,8,8,8,8,8,8,8,8,8,8,8,8,8,8,8,8,8,8,8,8,8,8,8,8,8,8,8,8,8,8,8,8,8,8,8,8,8,8,8,8,8,8,8,8,8,8,8])))) ((k.1:Nat):Int)=some y∧y.toNat≤8:=by
  intro k;have aa:(match DN (ByteArray.mk (List.toArray (List.append (List.append [0,1,2,2,3,3,3,3,4,4,4,4,4,4,4,4,5,5,5,5,5,5,5,5,5,5,5,5,5,5,5,5,6,6,6,6,6,6,6,6,6,6,6,6,6,6,6,6,6,6,6,6,6,6,6,6,6,6,6,6,6,6,6,6] [7,7,7,7,7,7,7,7,7,7,7,7,7,7,7,7,7,7,7,7,7,7,7,7,7,7,7,7,7,7,7,7,7,7,7,7,7,7,7,7,7,7,7,7,7,7,7,7,7,7,7,7,7,7,7,7,7,7,7,7,7,7,7,7]) (List.append [8,8,8,8,8,8,8,8,8,8,8,8,8,8,8,8,8,8,8,8,8,8,8,8,8,8,8,8,8,8,8,8,8,8,8,8,8,8,8,8,8,8,8,8,8,8,8,8,8,8,8,8,8,8,8,8,8,8,8,8,8,8,8,8] [8,8,8,8,8,8,8,8,8,8,8,8,8,8,8,8,8,8,8,8,8,8,8,8,8,8,8,8,8,8,8,8,8,8,8,8,8,8,8,8,8,8,8,8,8,8,8,8,8,8,8,8,8,8,8,8,8,8,8,8,8,8,8,8])))) ((k.1:Nat):Int) with | some y=>decide (y.toNat≤8) | none=>false)=true:=by
   revert k;decide +kernel
  split at aa
  ·rename_i y e;exact⟨y,e,by simpa using aa⟩
  cases aa
 obtain⟨y,aq,aX⟩:=key ⟨(fg.1.setWidth 8).toNat,(fg.1.setWidth 8).isLt⟩;refine .eq aq (.ret ?_);rw [ho (by omega) (by omega)];omega
def Small (v:az):Prop:= ∀ j,j<128→ct v j=true→j<32
theorem aay {v:az}(h:Small v):B3 v 32=some true:=by
 refine bk.get ?_;have eX:v.dg=0#64:=by
  apply BitVec.eq_of_getLsbD_eq;intro i au;have aa:=h (64+i) (by omega);unfold ct at aa;rw [if_neg (by omega),show 64+i - 64=i by omega] at aa;rw [BitVec.getLsbD_zero];cases e:v.dg.getLsbD i with
  | false=>rfl
  | true=>have:=aa e;omega
 have g1:v.bX.toNat<2 ^ 32:=by
  refine Nat.lt_pow_two_of_testBit _ fun i au=>?_;cases e:v.bX.toNat.testBit i with
  | false=>rfl
  | true=>
    have cf:i<64:=by
     rcases Nat.lt_or_ge i 64 with aa | aa
     ·exact aa
     rw [Nat.testBit_lt_two_pow (Nat.lt_of_lt_of_le v.bX.isLt (Nat.pow_le_pow_right (by decide) aa))] at e;cases e
    have:=h i (by omega) (by unfold ct;rw [if_pos cf,BitVec.getLsbD,e])
    omega
 unfold B3 FZ;rw [eX];refine .bind (P:=fun r=>r≤32) (.cond (fun aj=>by simp at aj) fun _=>(YM _ g1).bind fun y a5=>.ret a5) fun y a5=>.ret ?_;rw [decide_eq_true a5]
def kp (g:List Bool→Option Int)(v:az):Nat→Option (Nat×Int)
 | 0=>(g []).map fun id=>(0,id)
 | k+1=>match g (dP v (k+1)) with
   | some id=>some (k+1,id)
   | none=>kp g v k
def enc:Option (Nat×Int)→Int×Int×Bool
 | none=>(0,0,false)
 | some (n,id)=>((n:Int),id,true)
theorem P0 {hp:aN Cell}{root:Ref}(bM:oW hp root)(a4:List Bool)(d:Nat)(o:Option (Nat×Int)):
 wv hp (c5 hp root a4) d (enc o).1 (enc o).2.1 (enc o).2.2=some (enc (match cont hp root a4 with | some id=>some (d,id) | none=>o)):=by
 refine bk.get ?_
 unfold wv
 cases e:c5 hp root a4 with
 | none=>
   rw [k7 e]
   refine .cu (P:=fun _=>True) (fun h=>by cases h) fun o _=>.cu (P:=fun _=>True) (fun h=>by cases h) fun o _=>.eq rfl (.ret rfl)
 | some p=>
   obtain⟨c,aj⟩:=bM.reads _ _ e
   rw [kK e aj]
   refine .cu (P:=fun r=>r=p) (fun _=>⟨p,rfl,rfl⟩) fun b0 aa=>?_
   rw [aa rfl]
   refine .cu (P:=fun r=>r=c) (fun _=>⟨c,aj,rfl⟩) fun br ae=>?_
   rw [ae rfl]
   cases hu:c.fu with
   | true=>exact .eq (a:=((d:Int),c.hY,true)) (by simp [aj]) (.ret rfl)
   | false=>exact .eq rfl (.ret rfl)
theorem X2 {hp:aN Cell}{t:Nat}{g:List Bool→Option Int}(h:jH hp t g){v:az}(a6:Small v):Bz hp (some t) v=some (enc (kp g v 32)):=by
 obtain⟨c,aj,hb,bM,bD⟩:=h.ok;refine bk.get ?_;unfold Bz;refine .cu (P:=fun r=>r=t) (fun _=>⟨t,rfl,rfl⟩) fun b0 aa=>?_;rw [aa rfl];refine .cu (P:=fun r=>r=c) (fun _=>⟨c,aj,rfl⟩) fun br ae=>?_;rw [ae rfl,hb];refine .cu (P:=fun r=>r=true) (fun _=>⟨true,aay a6,rfl⟩) fun aE aG=>?_;rw [aG rfl];refine .cond (fun aj=>by cases aj) fun _=>.eq rfl (.eq aj ?_);have v0:wv hp c.ep 0 0 0 false=some (enc (kp g v 0)):=by
  have:=P0 bM [] 0 none;rw [m9,bD] at this;refine this.trans ?_;unfold kp;cases g [] <;> rfl
 rw [hb];refine .eq v0 (.eq rfl ?_);show bk (Option.bind (qS hp ((32:Nat):Int) v (some t) _ _) _) _;refine bk.bind (P:=fun e:(Ref×Int×Int×Int×Bool) ⊕ (Ref×Int×Int×Int×Bool)=>e.elim (fun s=>s.2.2=enc (kp g v 32)) (fun q=>q.2.2=enc (kp g v 32)))
  (Lv aj hb v (Nat.le_refl 32) (fun i s=>s=(c5 hp c.ep (dP v i),(i:Int),enc (kp g v i))) (by rw [Ce,m9];rfl) (fun i s au hs=>?_) (fun s hs=>by rw [hs];rfl)) fun e he=>?_
 ·subst hs;refine .cond (fun h=>.ret ?_) fun h=>?_
  ·have aR:c5 hp c.ep (dP v i)=none:=by
    simp only [Option.isNone_iff_eq_none] at h;exact h
   have key:∀ k,kp g v (i+k)=kp g v i:=fun k=>by
    induction k with
    | zero=>rfl
    | succ k b6=>
      have aq:dP v (i+k+1)=dP v i++(dP v (i+k+1)).drop i:=by
       have:dP v i=(dP v (i+k+1)).take i:=by unfold dP;rw [← List.map_take,List.take_range];congr 2;omega
       rw [this,List.take_append_drop]
      have:g (dP v (i+k+1))=none:=by
       rw [← bD,k7];rw [aq,mH,aR,g7]
      show(match g (dP v (i+k+1)) with | some id=>some (i+k+1,id) | none=>kp g v (i+k))=_
      rw [this];exact b6
   show enc (kp g v i)=enc (kp g v 32);have:=key (32 - i);rw [show i+(32 - i)=32 by omega] at this;rw [this]
  cases e:c5 hp c.ep (dP v i) with
  | none=>simp [e] at h
  | some p=>
    obtain⟨d,hd⟩:=bM.reads _ _ e
    refine .eq rfl (.idx rfl (by cases ct v (31 - i) <;> decide) (.eq hd ?_))
    have pX:bH d.df (fO (ct v (31 - i)))=c5 hp c.ep (dP v (i+1)):=by rw [Cd,mH,e,h8 hd,m9]
    have hw:bt ((i:Int)+1)=((i+1:Nat):Int):=e2 (by omega)
    simp only [pX,hw]
    refine .eq (P0 bM (dP v (i+1)) (i+1) (kp g v i)) (.ret ?_)
    rw [bD]
    rfl
 cases e with
 | inl s=>exact .ret he
 | inr q=>exact .ret he
theorem c1.Ij {s:aZ}(h:c1 s):∃ dT ew iH,∀ k,k<4→o4 (aF s.bE k)=aF (tN dT ew iH) k:=by
 obtain⟨dT,ew,iH,e⟩:=h.tables;refine⟨dT,ew,iH,fun k aw=>?_⟩;rw [← e,zv o4 (by rw [h.kS];exact aw)]
theorem wZ (t:b2){r:Int×Int}(aU:List c6)(aw:t.cn=aU)(h:za { (default:b2) with cn:=aU } =some r):za t=some r:=by
 subst aw;exact h
def pq (k:Nat):Int:=aF [1,2,3,3] k
theorem YN {s:aZ}(h:c1 s){k:Nat}(aw:k<4):bk (za (aF s.bE k)) (fun r=>r.1=pq k∧ (k=1→r.2=0)):=by
 obtain⟨dT,ew,iH,e⟩:=h.Ij;have e:=e k aw;have h2:(aF s.bE k).cn=(aF (tN dT ew iH) k).2.2:=congrArg (·.2.2) e;have:k=0∨k=1∨k=2∨k=3:=by omega
 rcases this with rfl | rfl | rfl | rfl
 ·exact⟨_,wZ _ [p3] h2 rfl,rfl,fun h=>by simp at h⟩
 ·cases dT
  ·exact⟨_,wZ _ [yy] h2 rfl,rfl,fun _=>rfl⟩
  exact⟨_,wZ _ [yy,Iy] h2 rfl,rfl,fun _=>rfl⟩
 ·cases ew
  ·exact⟨_,wZ _ [E2,EF] h2 rfl,rfl,fun h=>by simp at h⟩
  exact⟨_,wZ _ [E2,EF,NK] h2 rfl,rfl,fun h=>by simp at h⟩
 cases iH
 ·exact⟨_,wZ _ [E3] h2 rfl,rfl,fun h=>by simp at h⟩
 exact⟨_,wZ _ [E3,NL,yy] h2 rfl,rfl,fun h=>by simp at h⟩
structure Al (s:aZ)(k:Nat)(kZ hp:aN Cell)(p:Nat):Prop where
 cell:∃ c m,iq hp p=some c∧c.tl=pq k∧c.qg=((aF s.bE k).cn.length:Int)∧c.kI=⟨some m⟩∧lx hp m=some []∧
  (k=0→ ∃ q cF,c.jt= .nm ⟨some q⟩∧nK hp q=some ⟨⟨some cF⟩⟩∧mM hp cF=some []∧q ∉ eZ kZ∧cF ∉ eZ kZ)∧
  (k=1→ ∃ fg,c.jt= .nn ⟨0,32,⟨some fg⟩⟩∧kt hp fg=some []∧fg ∉ eZ kZ)∧
  (2≤k→ ∃ q key cap,c.jt= .nq ⟨some q⟩∧o3 hp q=some (({ py:=s,cg:= [] } :cN),key,cap)∧q ∉ eZ kZ)∧
  p ∉ eZ kZ∧m ∉ eZ kZ∧ (∀ q,q∈eZ kZ→q∈eZ hp)∧ ∀ q,q∈eZ kZ→pat hp q=pat kZ q
theorem adp {s:aZ}(h:c1 s){k:Nat}(aw:k<4)(hp:aN Cell):dz (zr hp s ((k:Int)+1)) (fun r=> ∃ p,r.1=some p∧Al s k hp r.2 p):=by
 unfold zr;refine .l6 (Jk h aw) fun aE aq=>?_;subst aq;refine .cond (fun aj=>by simp at aj;omega) fun _=>?_;refine .idx rfl (by rw [h.kS];exact aw) (.l6 (YN h aw) fun aK ae=>.mk fun m hm=>.eq rfl (.mk fun p cP=>?_));obtain⟨ahF,key⟩:=aK;obtain⟨ae,aG⟩:=ae;simp only at ae aG cP;subst ae;have lg:p≠m:=fun e=>by subst e;simp [eZ] at cP
 have:k=0∨k=1∨2≤k:=by omega
 rcases this with rfl | rfl | cV
 ·have e:(pq 0==1)=true:=rfl;simp only [e,cond_true];unfold FX;refine .bind (P:=fun di=>Al s 0 hp di p) (.bind (P:=fun r=> ∃ q cF,r=((some q:Ref),(q,Cell.z5 ⟨⟨some cF⟩⟩)::(cF,Cell.o6 [])::(p,_)::(m,Cell.lb [])::hp)∧cF ∉ eZ ((p,_)::(m,Cell.lb [])::hp)∧q ∉ eZ ((cF,Cell.o6 [])::(p,_)::(m,Cell.lb [])::hp)) (.mk fun cF ef=>.mk fun q hq=>.ret ⟨q,cF,rfl,ef,hq⟩) fun bs a0=>?_) fun di a7=>.ret ⟨p,rfl,a7⟩;obtain⟨q,cF,rfl,ef,hq⟩:=a0;simp only [eZ,List.map_cons,List.mem_cons,not_or] at ef hq cP;refine .eq (by simp [iq,pat,hq.1,hq.2,ef.1,hq.2.2.1,Ne.symm];rfl) (.eq rfl (.ret ?_));refine⟨{ tl:=pq 0,qg:=((aF s.bE 0).cn.length:Int),jt:= .nm ⟨some q⟩,kI:=⟨some m⟩ },m,?_,rfl,rfl,rfl,?_,?_,fun aj=>by simp at aj,fun aj=>by simp at aj,cP.2,hm,fun x ar=>by rw [sd];exact List.mem_cons_of_mem _ (List.mem_cons_of_mem _ (List.mem_cons_of_mem _ (List.mem_cons_of_mem _ ar))),fun x ar=>?_⟩
  ·simp [iq,pat,dr,hq.1,hq.2,ef.1,hq.2.2.1]
  ·simp [lx,pat,dr,hq.1,hq.2,ef.1,hq.2.2.1,ef.2.1,cP.1]
  ·intro _;refine⟨q,cF,rfl,?_,?_,hq.2.2.2,ef.2.2⟩
   ·simp [nK,pat,dr,hq.1,hq.2,ef.1,hq.2.2.1,ef.2.1,cP.1]
   simp [mM,pat,dr,hq.1,hq.2,ef.1,hq.2.2.1,ef.2.1,cP.1]
  have pf:q≠x:=fun e=>hq.2.2.2 (by rw [e];exact ar);have NN:cF≠x:=fun e=>ef.2.2 (by rw [e];exact ar);have E6:p≠x:=fun e=>cP.2 (by rw [e];exact ar);have E7:m≠x:=fun e=>hm (by rw [e];exact ar);simp [CB,pat,pf,NN,E6,E7]
 ·have e:(pq 1==1)=false:=rfl;have aX:(pq 1==2)=true:=rfl;simp only [e,aX,cond_true,cond_false];have aG:=aG rfl;subst aG;obtain⟨t1,⟨t2,t3⟩,t4,_⟩:=h.gE aw;have a2:(aF (aF s.bE 1).cn 0).hB=((6:Nat):Int)+1:=by
   obtain⟨dT,ew,iH,e⟩:=h.Ij;have e:=congrArg (·.2.2) (e 1 aw);show(aF (o4 (aF s.bE 1)).2.2 0).hB=_;rw [e];cases dT <;> rfl
  refine .bind (P:=fun di=>Al s 1 hp di p) (.bind (P:=fun di=>Al s 1 hp di p) ?_ fun _ bn=>.ret bn) fun di a7=>.ret ⟨p,rfl,a7⟩;refine .idx (k:=0) rfl (by omega) ?_;simp only [a2];refine .l6 (OO h (show 6<9 by decide)) fun bG g2=>?_;subst g2;refine .l6 (P:=fun r=>r=32) (.cond (fun _=>.idx rfl (by rw [h.sy];decide) (.ret (h.uj (show 6<9 by decide)).2)) (fun aj=>by simp at aj)) fun b hb=>?_;subst hb;refine .mk fun fg gY=>?_;simp only [eZ,List.map_cons,List.mem_cons,not_or] at gY cP;refine .eq rfl (.eq (by simp [iq,pat,gY.1];rfl) (.eq rfl (.ret ?_)));refine⟨{ tl:=pq 1,qg:=((aF s.bE 1).cn.length:Int),jt:= .nn ⟨0,32,⟨some fg⟩⟩,kI:=⟨some m⟩ },m,?_,rfl,rfl,rfl,?_,fun aj=>by simp at aj,?_,fun aj=>by simp at aj,cP.2,hm,fun x ar=>by rw [sd];exact List.mem_cons_of_mem _ (List.mem_cons_of_mem _ (List.mem_cons_of_mem _ ar)),fun x ar=>?_⟩
  ·simp [iq,pat,dr,gY.1]
  ·simp [lx,pat,dr,gY.1,gY.2.1,cP.1]
  ·intro _;refine⟨fg,rfl,?_,gY.2.2⟩;simp [kt,pat,dr,gY.1,gY.2.1,cP.1]
  have pf:fg≠x:=fun e=>gY.2.2 (by rw [e];exact ar);have E6:p≠x:=fun e=>cP.2 (by rw [e];exact ar);have E7:m≠x:=fun e=>hm (by rw [e];exact ar);simp [CB,pat,pf,E6,E7]
 have e:(pq k==1)=false:=by
  have:k=2∨k=3:=by omega
  rcases this with rfl | rfl <;> rfl
 have aX:(pq k==2)=false:=by
  have:k=2∨k=3:=by omega
  rcases this with rfl | rfl <;> rfl
 simp only [e,aX,cond_true,cond_false];refine .bind (P:=fun di=>Al s k hp di p) (.bind (P:=fun di=>Al s k hp di p) ?_ fun _ bn=>.ret bn) fun di a7=>.ret ⟨p,rfl,a7⟩;refine .eq rfl (.any fun dA=>.mk fun q hq=>?_);simp only [eZ,List.map_cons,List.mem_cons,not_or] at hq cP;refine .eq (by simp [iq,pat,hq.1];rfl) (.eq rfl (.ret ?_));refine⟨{ tl:=pq k,qg:=((aF s.bE k).cn.length:Int),jt:= .nq ⟨some q⟩,kI:=⟨some m⟩ },m,?_,rfl,rfl,rfl,?_,fun aj=>by omega,fun aj=>by omega,fun _=>⟨q,dA.1,dA.2,rfl,?_,hq.2.2⟩,cP.2,hm,fun x ar=>by rw [sd];exact List.mem_cons_of_mem _ (List.mem_cons_of_mem _ (List.mem_cons_of_mem _ ar)),fun x ar=>?_⟩
 ·simp [iq,pat,dr,hq.1]
 ·simp [lx,pat,dr,hq.1,hq.2.1,cP.1]
 ·simp [o3,pat,dr,hq.1]
 have pf:q≠x:=fun e=>hq.2.2 (by rw [e];exact ar);have E6:p≠x:=fun e=>cP.2 (by rw [e];exact ar);have E7:m≠x:=fun e=>hm (by rw [e];exact ar);simp [CB,pat,pf,E6,E7]
theorem P1 {α:Type}{b:α→α→Bool}(hb:rH b){q:α→Bool} :∀ {l:List α} {c:α},l.Pairwise (fun x y=>b x y=true)→c∈l→q c=true→ (∀ d∈l,q d=true→d=c∨b c d=true)→l.find? q=some c
 | [],c,_,aj,_,_=>by cases aj
 | a::l,c,hs,aj,hq,hd=>by
   obtain⟨aa,ae⟩:=List.pairwise_cons.1 hs;by_cases nA:q a=true
   ·rw [List.find?_cons_of_pos nA];rcases hd a (by simp) nA with h | h
    ·rw [h]
    rcases List.mem_cons.1 aj with aG | aG
    ·rw [aG]
    have:=hb.asymm _ _ (aa c aG);rw [this] at h;cases h
   rw [List.find?_cons_of_neg nA];rcases List.mem_cons.1 aj with aG | aG
   ·rw [aG] at hq;exact absurd hq nA
   exact P1 hb ae aG hq fun d hd' Nd=>hd d (by simp [hd']) Nd
theorem GF {α:Type}{b:α→α→Bool}(hb:rH b){q:α→Bool}{l:List α}{c:α}(h:tP b l)(aj:c∈l)(hq:q c=true)(hd:∀ d∈l,q d=true→d=c∨b c d=true):(e1 b l).find? q=some c:=
 P1 hb (Cj hb h) (oX.2 aj) hq fun d hd'=>hd d (oX.1 hd')
theorem Km {α:Type}{b:α→α→Bool}{q:α→Bool}{l:List α}(hd:∀ d∈l,q d=false):(e1 b l).find? q=none:=by
 rw [List.find?_eq_none];intro x ar;rw [hd x (oX.1 ar)];simp
theorem jo.uniq {s:aZ}{k:Nat} :∀ {l:List ax},jo s k l→ ∀ {a c:ax},a∈l→c∈l→a.cl=c.cl→a=c:=fun {l} h {a c} bb aj e=>by
 have aR:=h.num;clear h;induction l with
 | nil=>cases bb
 | cons x l b6=>
   obtain⟨aa,ae⟩:=List.pairwise_cons.1 aR
   rcases List.mem_cons.1 bb with ao | ao <;> rcases List.mem_cons.1 aj with a3 | a3
   ·rw [ao,a3]
   ·rw [ao] at e;exact absurd e (aa c a3)
   ·rw [a3] at e;exact absurd e.symm (aa a ao)
   exact b6 ao a3 ae
theorem c1.Hi {s:aZ}(h:c1 s):(aF s.bE 0).cn= [p3]:=by
 obtain⟨dT,ew,iH,e⟩:=h.Ij;exact congrArg (·.2.2) (e 0 (by decide))
theorem c1.Dq {s:aZ}(h:c1 s):∃ b,(aF s.bE 1).cn=nO b:=by
 obtain⟨dT,ew,iH,e⟩:=h.Ij;exact⟨dT,congrArg (·.2.2) (e 1 (by decide))⟩
def ih (s:aZ)(k:Nat):Nat:=(aF s.bE k).cn.length
theorem QE {α:Type}[Inhabited α]{n:Nat}{f:Fin n→α}{j:Nat}(h:j<n):bH (Vector.ofFn f) j=f ⟨j,h⟩:=by unfold bH;simp [h]
def fl (e:a8):Vector az 4:=Vector.ofFn fun i=>if i.1<e.bU.length then(aF e.bU i.1).cU else default
def lM (n:Nat)(p:Vector az 4):Vector az 4:=Vector.ofFn fun i=>if i.1<n then bH p i.1 else default
def gU (p:Vector az 4):Vector az 4:=dD p 0 default
theorem mF {e:a8}{j:Nat}(h:j<4):bH (fl e) j=if j<e.bU.length then(aF e.bU j).cU else default:=QE h
theorem od {n:Nat}{p:Vector az 4}{j:Nat}(h:j<4):bH (lM n p) j=if j<n then bH p j else default:=QE h
theorem GG {p:Vector az 4}{j:Nat} :bH (gU p) j=if j=0 then default else bH p j:=by unfold gU;rw [iW _ _ (by decide)]
theorem DW {v w:Vector az 4} :v=w↔bH v 0=bH w 0∧bH v 1=bH w 1∧bH v 2=bH w 2∧bH v 3=bH w 3:=by
 refine⟨fun h=>by rw [h];exact⟨rfl,rfl,rfl,rfl⟩,fun⟨bO,aa,ae,aG⟩=>JT fun j aH=>?_⟩;rcases (show j=0∨j=1∨j=2∨j=3 by omega) with rfl | rfl | rfl | rfl <;> assumption
theorem Kn {s:aZ}(h:c1 s){e:a8}(he:hH s 0 e)(p:Vector az 4):mt s 0 p e=true↔lM (ih s 0) p=fl e:=by
 have an:=he.len;have hm:=he.um 0;unfold mt ih;rw [h.Hi] at an hm ⊢;have hm:=(hm (by decide)).Ie rfl;have hm:(aF e.bU 0).fm=true:=hm;have aq:e.bU.length=1:=an;have jC:((List.range [p3].length).all fun i=>lG (aF [p3] i).dp (gT (aF [p3] i)) (aF e.bU i) (bH p i))=decide (bH p 0=(aF e.bU 0).cU):=by
  show(lG 1 (gT p3) (aF e.bU 0) (bH p 0)&&true)=_;unfold lG;rw [hm];simp
 rw [jC,decide_eq_true_eq,DW];simp only [od (show 0<4 by decide),od (show 1<4 by decide),od (show 2<4 by decide),od (show 3<4 by decide),mF (show 0<4 by decide),mF (show 1<4 by decide),mF (show 2<4 by decide),mF (show 3<4 by decide),aq];simp
theorem adq {s:aZ}(h:c1 s){l:List ax}(an:jo s 0 l)(p:Vector az 4){o:Option Int}(bg:∀ n,o=some n↔ ∃ i∈l,fl i.bj=lM (ih s 0) p∧i.cl=n):
 (∀ n,o=some n→ ∃ i∈l,i.cl=n∧ (e1 (eT s 0) l).find? (fun c=>mt s 0 p c.bj)=some i)∧ (o=none→ (e1 (eT s 0) l).find? (fun c=>mt s 0 p c.bj)=none):=by
 constructor
 rotate_left
 ·intro aR
  subst aR
  refine Km fun d hd=>?_
  rw [Bool.eq_false_iff]
  intro hm
  have:=(bg d.cl).2 ⟨d,hd,((Kn h (an.ok d hd).dS p).1 hm).symm,rfl⟩
  cases this
 intro n aR
 subst aR
 obtain⟨i,au,aa,ae⟩:=(bg n).1 rfl
 refine⟨i,au,ae,GF (q3 s 0) an.v7 au ((Kn h (an.ok i au).dS p).2 aa.symm) fun d hd hm=>.inl ?_⟩
 have aG:=(bg d.cl).2 ⟨d,hd,((Kn h (an.ok d hd).dS p).1 hm).symm,rfl⟩
 have aG:n=d.cl:=by simpa using aG
 exact an.uniq hd au (by rw [ae,aG])
theorem Zy {v w:az}{n m:Nat} :dP v n=dP w m↔n=m∧ ∀ i,i<n→ct v (31 - i)=ct w (31 - i):=by
 unfold dP;constructor
 ·intro h;have an:=congrArg List.length h;simp only [List.length_map,List.length_range] at an;subst an;refine⟨rfl,fun i au=>?_⟩;have:=congrArg (·[i]?) h;simpa [au] using this
 rintro ⟨rfl,h⟩;exact List.map_congr_left fun i au=>h i (List.mem_range.1 au)
def kj (e:a8):List Bool:=dP (aF e.bU 0).cU (aF e.bU 0).en.toNat
theorem vM {s:aZ}(h:c1 s){e:a8}(he:hH s 1 e):pG 2 32 (aF e.bU 0):=by
 have hm:=he.um 0;obtain⟨b,hb⟩:=h.Dq;rw [hb] at hm;cases b
 ·exact hm (by decide)
 exact hm (by decide)
theorem zO {k:Int}(bO:0≤k)(aa:k≤32){j:Nat} :lead 32 k j=true↔32 - k≤ (j:Int)∧j<32:=by
 unfold lead;rw [Bool.and_eq_true,decide_eq_true_eq,decide_eq_true_eq];omega
theorem Ko {m:bW}(hm:pG 2 32 m){v:az}{n:Nat}(aR:n≤32):dP m.cU m.en.toNat=dP v n↔m.en=n∧ ∀ j,j<128→lead 32 m.en j=true→ct v j=ct m.cU j:=by
 have hp:=hm.pre;rw [Zy];constructor
 ·rintro ⟨aa,ae⟩;refine⟨by omega,fun j aH an=>?_⟩;rw [zO hp.1 hp.2] at an;have:=ae (31 - j) (by omega);rw [show 31 - (31 - j)=j by omega] at this;exact this.symm
 rintro ⟨aa,ae⟩;refine⟨by omega,fun i au=>?_⟩;exact(ae (31 - i) (by omega) ((zO hp.1 hp.2).2 (by omega))).symm
theorem QF {s:aZ}(h:c1 s){e:a8}(he:hH s 1 e)(p:Vector az 4):mt s 1 p e=true↔
 gU (lM (ih s 1) p)=gU (fl e)∧ ∀ j,j<128→lead 32 (aF e.bU 0).en j=true→ct (bH p 0) j=ct (aF e.bU 0).cU j:=by
 have an:=he.len
 have hm:=he.um 1
 have ha:=vM h he
 obtain⟨b,hb⟩:=h.Dq
 unfold mt ih
 rw [hb] at an hm ⊢
 have jC:lG 2 32 (aF e.bU 0) (bH p 0)=true↔ ∀ j,j<128→lead 32 (aF e.bU 0).en j=true→ct (bH p 0) j=ct (aF e.bU 0).cU j:=by
  unfold lG;by_cases hp:(aF e.bU 0).fm=false
  ·rw [if_pos hp,ha.off hp];refine⟨fun _ j aH an=>?_,fun _=>rfl⟩;have:lead 32 (default:bW).en j=true:=an;rw [zO (by decide) (by decide)] at this;have bO:(default:bW).en=0:=rfl;rw [bO] at this;omega
  rw [if_neg hp,if_neg (by decide),if_pos rfl,List.all_eq_true];refine⟨fun aa j aH an=>?_,fun aa j aH=>?_⟩
  ·have:=aa j (List.mem_range.2 aH);rw [an] at this;simpa using this
  cases an:lead 32 (aF e.bU 0).en j
  ·rfl
  simp [aa j (List.mem_range.1 aH) an]
 cases b
 ·have aq:e.bU.length=1:=an
  have aX:((List.range (nO false).length).all fun i=>lG (aF (nO false) i).dp (gT (aF (nO false) i)) (aF e.bU i) (bH p i))=lG 2 32 (aF e.bU 0) (bH p 0):=by
   show(lG 2 32 (aF e.bU 0) (bH p 0)&&true)=_;rw [Bool.and_true]
  rw [aX,jC,DW]
  simp only [GG,od (show 0<4 by decide),od (show 1<4 by decide),od (show 2<4 by decide),od (show 3<4 by decide),mF (show 0<4 by decide),mF (show 1<4 by decide),mF (show 2<4 by decide),mF (show 3<4 by decide),aq]
  simp [nO]
 have aq:e.bU.length=2:=an
 have cx:(aF e.bU 1).fm=true:=(hm (by decide)).Ie rfl
 have aX:((List.range (nO true).length).all fun i=>lG (aF (nO true) i).dp (gT (aF (nO true) i)) (aF e.bU i) (bH p i))=(lG 2 32 (aF e.bU 0) (bH p 0)&&decide (bH p 1=(aF e.bU 1).cU)):=by
  show(lG 2 32 (aF e.bU 0) (bH p 0)&&(lG 1 (gT Iy) (aF e.bU 1) (bH p 1)&&true))=_;rw [Bool.and_true];congr 1;unfold lG;rw [cx];simp
 rw [aX,Bool.and_eq_true,jC,DW,decide_eq_true_eq]
 simp only [GG,od (show 0<4 by decide),od (show 1<4 by decide),od (show 2<4 by decide),od (show 3<4 by decide),mF (show 0<4 by decide),mF (show 1<4 by decide),mF (show 2<4 by decide),mF (show 3<4 by decide),aq]
 simp [nO,And.comm]
theorem QG {g:List Bool→Option Int}{v:az} :∀ {m n:Nat} {id:Int},kp g v m=some (n,id)→n≤m∧g (dP v n)=some id∧ ∀ k,n<k→k≤m→g (dP v k)=none
 | 0,n,id,h=>by
   unfold kp at h;cases bD:g [] with
   | none=>rw [bD] at h;cases h
   | some x=>
     rw [bD] at h;cases h
     exact⟨Nat.le_refl 0,by rw [Ce];exact bD,fun k aa ae=>by omega⟩
 | m+1,n,id,h=>by
   unfold kp at h;cases bD:g (dP v (m+1)) with
   | none=>
     rw [bD] at h
     obtain⟨aa,ae,aG⟩:=QG h
     refine⟨by omega,ae,fun k a0 a7=>?_⟩
     by_cases aw:k=m+1
     ·rw [aw];exact bD
     exact aG k a0 (by omega)
   | some x=>
     rw [bD] at h;cases h
     exact⟨Nat.le_refl _,bD,fun k aa ae=>by omega⟩
theorem QH {g:List Bool→Option Int}{v:az} :∀ {m:Nat},kp g v m=none→ ∀ k,k≤m→g (dP v k)=none
 | 0,h,k,aw=>by
   have:k=0:=by omega
   subst this;unfold kp at h;cases bD:g [] with
   | none=>rw [Ce];exact bD
   | some x=>rw [bD] at h;cases h
 | m+1,h,k,aw=>by
   unfold kp at h;cases bD:g (dP v (m+1)) with
   | none=>
     rw [bD] at h
     by_cases ye:k=m+1
     ·rw [ye];exact bD
     exact QH h k (by omega)
   | some x=>rw [bD] at h;cases h
theorem Un {s:aZ}(h:c1 s){e:a8}(he:hH s 1 e):sU s 1 e=(aF e.bU 0).en:=by
 have an:=he.len;unfold sU;obtain⟨b,hb⟩:=h.Dq;rw [hb] at an ⊢;refine GW (i:=0) an ?_ ?_ fun j aH=>by omega
 ·cases b <;> decide
 cases b <;> rfl
theorem HE {s:aZ}(h:c1 s){e:a8}(he:hH s 1 e):e.fP=0:=by
 refine he.pri fun i au=>?_;obtain⟨b,hb⟩:=h.Dq;rw [hb] at au ⊢;cases b
 ·have:i=0:=by have:i<1:=au;omega
  subst this;decide
 have:i=0∨i=1:=by have:i<2:=au;omega
 rcases this with rfl | rfl <;> decide
theorem SR {s:aZ}(h:c1 s){l:List ax}(an:jo s 1 l)(p:Vector az 4){g:List Bool→Option Int}{v:az}(a6:∀ j,j<128→ct v j=(ct (bH p 0) j&&decide (j<32)))
 (bD:∀ a4 n,g a4=some n↔ ∃ i∈l,gU (fl i.bj)=gU (lM (ih s 1) p)∧kj i.bj=a4∧i.cl=n):
 match kp g v 32 with | some r=> ∃ i∈l,i.cl=r.2∧ (e1 (eT s 1) l).find? (fun c=>mt s 1 p c.bj)=some i | none=>(e1 (eT s 1) l).find? (fun c=>mt s 1 p c.bj)=none:=by
 have rB:∀ k j,j<128→lead 32 k j=true→ct v j=ct (bH p 0) j:=fun k j aH aw=>by
  rw [a6 j aH];unfold lead at aw;rw [Bool.and_eq_true,decide_eq_true_eq] at aw;rw [decide_eq_true (show j<32 by omega),Bool.and_true]
 have AH:∀ d∈l,mt s 1 p d.bj=true→ ∃ n:Nat,n≤32∧ (aF d.bj.bU 0).en=n∧g (dP v n)=some d.cl:=fun d hd hm=>by
  have he:=(an.ok d hd).dS;have ha:=vM h he;have hp:=ha.pre;obtain⟨n,aR⟩:=Int.eq_ofNat_of_zero_le hp.1;obtain⟨aa,ae⟩:=(QF h he p).1 hm;refine⟨n,by omega,aR,(bD _ _).2 ⟨d,hd,aa.symm,?_,rfl⟩⟩;exact(Ko ha (by omega)).2 ⟨aR,fun j aH EG=>by rw [rB _ j aH EG];exact ae j aH EG⟩
 cases e:kp g v 32 with
 | none=>
   refine Km fun d hd=>?_
   rw [Bool.eq_false_iff]
   intro hm
   obtain⟨n,aR,_,ae⟩:=AH d hd hm
   rw [QH e n aR] at ae;cases ae
 | some r=>
   obtain⟨n,id⟩:=r
   obtain⟨aa,ae,aG⟩:=QG e
   obtain⟨i,au,ao,a3,bx⟩:=(bD _ _).1 ae
   have he:=(an.ok i au).dS
   obtain⟨c0,hx⟩:=(Ko (vM h he) aa).1 a3
   have MS:mt s 1 p i.bj=true:=(QF h he p).2 ⟨ao.symm,fun j aH EG=>by rw [← rB _ j aH EG];exact hx j aH EG⟩
   refine⟨i,au,bx,GF (q3 s 1) an.v7 au MS fun d hd hm=>?_⟩
   have Uo:=(an.ok d hd).dS
   obtain⟨m,cx,ef,gY⟩:=AH d hd hm
   have sC:m≤n:=by
    rcases Nat.lt_or_ge n m with cf | rv
    ·rw [aG m cf cx] at gY;cases gY
    exact rv
   by_cases LB:m=n
   ·subst LB
    rw [ae] at gY
    have:id=d.cl:=by simpa using gY
    exact .inl (an.uniq hd au (by rw [bx,this]))
   right
   unfold eT
   rw [decide_eq_true_eq,Un h he,Un h Uo,HE h he,HE h Uo,ef,c0]
   omega
theorem Own.iff {hp hp':aN Cell}{t:Nat}{c:fX}(aj:gr hp t=some c)(h:∀ q,Own hp t q→pat hp' q=pat hp q):gr hp' t=some c∧ (∀ a4,c5 hp' c.ep a4=c5 hp c.ep a4)∧ ∀ q,Own hp' t q↔Own hp t q:=by
 have aa:gr hp' t=some c:=by rw [F0 (h t (.inl rfl))];exact aj
 have ae:∀ a4,c5 hp' c.ep a4=c5 hp c.ep a4:=fun a4=>Pq fun p cs hp=>wU (h p (.inr ⟨c,cs,aj,hp⟩));refine⟨aa,ae,fun q=>⟨fun hq=>?_,fun hq=>?_⟩⟩
 ·rcases hq with rfl | ⟨j4,a4,ao,a3⟩
  ·exact .inl rfl
  rw [aa] at ao;cases ao;rw [ae] at a3;exact .inr ⟨c,a4,aj,a3⟩
 rcases hq with rfl | ⟨j4,a4,ao,a3⟩
 ·exact .inl rfl
 rw [aj] at ao;cases ao;exact .inr ⟨c,a4,aa,by rw [ae];exact a3⟩
theorem jH.congr {hp hp':aN Cell}{t:Nat}{g:List Bool→Option Int}(h:jH hp t g)(bb:∀ q,Own hp t q→pat hp' q=pat hp q):jH hp' t g∧ ∀ q,Own hp' t q↔Own hp t q:=by
 obtain⟨c,aj,hb,bM,bD⟩:=h.ok;obtain⟨aa,ae,aG⟩:=Own.iff aj bb;refine⟨⟨⟨c,aa,hb,⟨fun a4 p hp=>?_,fun a4 cs p ao a3=>?_,fun a4 p ao=>bM.dep a4 p (by rw [← ae];exact ao)⟩,fun a4=>?_⟩⟩,aG⟩
 ·rw [ae] at hp;obtain⟨d,hd⟩:=bM.reads a4 p hp;exact⟨d,by rw [wU (bb p (.inr ⟨c,a4,aj,hp⟩))];exact hd⟩
 ·rw [ae] at ao a3;exact bM.inj a4 cs p ao a3
 rw [← bD];cases e:c5 hp c.ep a4 with
 | none=>rw [k7 e,k7 (by rw [ae];exact e)]
 | some p=>
   obtain⟨d,hd⟩:=bM.reads a4 p e
   rw [kK e hd,kK (by rw [ae];exact e) (by rw [wU (bb p (.inr ⟨c,a4,aj,e⟩))];exact hd)]
theorem jH.xl {hp:aN Cell}{t:Nat}{g:List Bool→Option Int}(h:jH hp t g){q:Nat}(hq:Own hp t q):q∈eZ hp:=by
 obtain⟨c,aj,hb,bM,bD⟩:=h.ok;rcases hq with rfl | ⟨j4,a4,ao,a3⟩
 ·exact jF (s6.1 aj)
 rw [aj] at ao;cases ao;obtain⟨d,hd⟩:=bM.reads a4 q a3;exact jF (qb.1 hd)
theorem jH.GX {hp:aN Cell}{t:Nat}{g:List Bool→Option Int}(h:jH hp t g){q:Nat}(hq:Own hp t q):(∃ c,pat hp q=some (.ky c))∨ ∃ c,pat hp q=some (.gM c):=by
 obtain⟨c,aj,hb,bM,bD⟩:=h.ok;rcases hq with rfl | ⟨j4,a4,ao,a3⟩
 ·exact .inl ⟨c,s6.1 aj⟩
 rw [aj] at ao;cases ao;obtain⟨d,hd⟩:=bM.reads a4 q a3;exact .inr ⟨d,qb.1 hd⟩
def gn (a c:a8):Bool:=decide (a.cO=c.cO∧a.bU=c.bU∧a.fP=c.fP)
theorem si {a c:a8} :gn a c=true↔a.cO=c.cO∧a.bU=c.bU∧a.fP=c.fP:=by unfold gn;rw [decide_eq_true_eq]
theorem u1 (a:a8):gn a a=true:=si.2 ⟨rfl,rfl,rfl⟩
theorem xb (a c:a8):gn a c=gn c a:=by
 rw [Bool.eq_iff_iff,si,si];exact⟨fun⟨x,y,z⟩=>⟨x.symm,y.symm,z.symm⟩,fun⟨x,y,z⟩=>⟨x.symm,y.symm,z.symm⟩⟩
theorem ta {a c d:a8}(aa:gn a c=true)(ae:gn c d=true):gn a d=true:=by
 rw [si] at *;exact⟨aa.1.trans ae.1,aa.2.1.trans ae.2.1,aa.2.2.trans ae.2.2⟩
theorem Kp {a c:bW}(aa:a.fm=c.fm)(ae:a.cU=c.cU)(aG:a.gy=c.gy)(a0:a.en=c.en)(a7:a.jG=c.jG):a=c:=by
 cases a;cases c;simp_all
theorem QI {b:Int}{m p4:bW}(h:pG 1 b m)(de:pG 1 b p4)(e:m.cU=p4.cU):m=p4:=
 Kp (by rw [h.Ie rfl,de.Ie rfl]) e (by rw [h.ib (by decide),de.ib (by decide)]) (by rw [h.Ui (by decide),de.Ui (by decide)]) (by rw [h.Ig (by decide),de.Ig (by decide)])
theorem aaz {m p4:bW}(h:pG 2 32 m)(de:pG 2 32 p4)(e:dP m.cU m.en.toNat=dP p4.cU p4.en.toNat):m=p4:=by
 have hp:=h.pre;have hp':=de.pre;obtain⟨n,aR⟩:=Int.eq_ofNat_of_zero_le hp'.1;rw [aR,Int.toNat_natCast] at e;obtain⟨aq,aX⟩:=(Ko h (by omega)).1 e;have dd:m.en=p4.en:=by omega
 have Uj:m.fm=p4.fm:=by
  cases ao:m.fm <;> cases a3:p4.fm
  ·rfl
  ·have:=de.M6 rfl a3;have:=h.off ao;have bO:(default:bW).en=0:=rfl;rw [this,bO] at dd;omega
  ·have:=h.M6 rfl ao;have:=de.off a3;have bO:(default:bW).en=0:=rfl;rw [this,bO] at dd;omega
  rfl
 refine Kp Uj (CR fun j aH=>?_) (by rw [h.ib (by decide),de.ib (by decide)]) dd (by rw [h.Ig (by decide),de.Ig (by decide)]);cases an:lead 32 m.en j with
 | true=>exact(aX j aH an).symm
 | false=>
   have l5:ct m.cU j=false:=by
    rw [Bool.eq_false_iff];intro a6;have:=h.M7 rfl j aH a6;rw [(zO hp.1 hp.2).2 this] at an;cases an
   have nY:ct p4.cU j=false:=by
    rw [Bool.eq_false_iff];intro a6;have:=de.M7 rfl j aH a6;rw [dd,(zO hp'.1 hp'.2).2 this] at an;cases an
   rw [l5,nY]
theorem HF {α:Type}[Inhabited α]{l:List α}(h:l.length=1):l= [aF l 0]:=by
 match l,h with
 | [x],_=>rfl
theorem TE {α:Type}[Inhabited α]{l:List α}(h:l.length=2):l= [aF l 0,aF l 1]:=by
 match l,h with
 | [x,y],_=>rfl
theorem EH {s:aZ}(h:c1 s){a c:a8}(bb:hH s 0 a)(aj:hH s 0 c):gn a c=true↔fl a=fl c:=by
 rw [si];have rO:=bb.len;have lc:=aj.len;have E8:=bb.um 0;have n7:=aj.um 0;have IA:=bb.pri;have IB:=aj.pri;rw [h.Hi] at rO lc E8 n7 IA IB;have aw:∀ i,i<[p3].length→ (aF [p3] i).dp≤2:=by decide
 refine⟨fun⟨aa,ae,aG⟩=>by unfold fl;rw [ae],fun e=>⟨by rw [bb.gE,aj.gE],?_,by rw [IA aw,IB aw]⟩⟩;have jC:=(DW.1 e).1;rw [mF (by decide),mF (by decide),rO,lc] at jC;have jC:(aF a.bU 0).cU=(aF c.bU 0).cU:=jC;rw [HF (l:=a.bU) rO,HF (l:=c.bU) lc,QI (E8 (by decide)) (n7 (by decide)) jC]
theorem AI {s:aZ}(h:c1 s){a c:a8}(bb:hH s 1 a)(aj:hH s 1 c):gn a c=true↔gU (fl a)=gU (fl c)∧kj a=kj c:=by
 rw [si];have rO:=bb.len;have lc:=aj.len;have E8:=bb.um 1;have n7:=aj.um 1;have IA:=HE h bb;have IB:=HE h aj;have NO:=vM h bb;have agR:=vM h aj;obtain⟨b,hb⟩:=h.Dq;rw [hb] at rO lc E8 n7;refine⟨fun⟨aa,ae,aG⟩=>by unfold fl kj;rw [ae];exact⟨rfl,rfl⟩,fun⟨e,e'⟩=>⟨by rw [bb.gE,aj.gE],?_,by rw [IA,IB]⟩⟩;have bO:=aaz NO agR e';cases b
 ·rw [HF (l:=a.bU) rO,HF (l:=c.bU) lc,bO]
 have aq:=(DW.1 e).2.1;rw [GG,GG,if_neg (by decide),if_neg (by decide),mF (by decide),mF (by decide),rO,lc] at aq;have aq:(aF a.bU 1).cU=(aF c.bU 1).cU:=aq;rw [TE (l:=a.bU) rO,TE (l:=c.bU) lc,bO,QI (E8 (by decide)) (n7 (by decide)) aq]
structure h5 (s:aZ)(k:Nat)(l:List ax):Prop where
 ok:jo s k l
 key:l.Pairwise fun a c=>gn a.bj c.bj=false
theorem h5.uniq {s:aZ}{k:Nat}{l:List ax}(h:h5 s k l){a c:ax}(bb:a∈l)(aj:c∈l)(e:gn a.bj c.bj=true):a=c:=by
 have aR:=h.key;clear h;induction l with
 | nil=>cases bb
 | cons x l b6=>
   obtain⟨aa,ae⟩:=List.pairwise_cons.1 aR
   rcases List.mem_cons.1 bb with ao | ao <;> rcases List.mem_cons.1 aj with a3 | a3
   ·rw [ao,a3]
   ·rw [ao,aa c a3] at e;cases e
   ·rw [a3,xb,aa a ao] at e;cases e
   exact b6 ao a3 ae
def e0 (l:List ax)(e:a8):Option ax:=l.find? fun i=>gn i.bj e
theorem qV {l:List ax}{e:a8}{i:ax}(h:e0 l e=some i):i∈l∧gn i.bj e=true:=by
 unfold e0 at h;have ae:=List.find?_some h;exact⟨List.mem_of_find?_eq_some h,ae⟩
theorem tb {l:List ax}{e:a8}(h:e0 l e=none):∀ i∈l,gn i.bj e=false:=fun i au=>by
 have:=List.find?_eq_none.1 h i au;simpa using this
def oG (o:Option ax):Int×Bool:=match o with | some i=>(i.cl,true) | none=>(0,false)
theorem QJ {i:ax}{n:Int}(h:i.cl=n):oG (some i)=(n,true):=by rw [← h];rfl
def oH {α β:Type}(l:List (α×β)):Prop:=l.Pairwise fun a c=>a.1≠c.1
theorem P2 {α β:Type}[DecidableEq α]:∀ {l:List (α×β)} {x:α} {v:β} {a:α×β},a∈gK l x v→a.1=x∨a∈l
 | [],x,v,a,h=>by
   have:a=(x,v):=by simpa [gK] using h
   rw [this];exact .inl rfl
 | (k,w)::r,x,v,a,h=>by
   unfold gK at h;split at h
   ·rcases List.mem_cons.1 h with h | h
    ·rw [h];exact .inl rfl
    exact .inr (by simp [h])
   rcases List.mem_cons.1 h with h | h
   ·exact .inr (by simp [h])
   exact(P2 h).imp id fun h=>List.mem_cons_of_mem _ h
theorem oH.put {α β:Type}[DecidableEq α]:∀ {l:List (α×β)} {x:α} {v:β},oH l→oH (gK l x v)
 | [],x,v,_=>by unfold gK oH;simp
 | (k,w)::r,x,v,h=>by
   obtain⟨aa,ae⟩:=List.pairwise_cons.1 h;unfold gK;split
   ·rename_i e;refine List.pairwise_cons.2 ⟨fun a bb=>?_,ae⟩;have:=aa a bb;rw [e];exact this
   rename_i e;refine List.pairwise_cons.2 ⟨fun a bb=>?_,oH.put ae⟩;rcases P2 bb with g | g
   ·rw [g];exact fun e'=>e e'.symm
   exact aa a g
theorem P3 {α β:Type}[DecidableEq α]:∀ {l:List (α×β)} {x:α} {a:α×β},a∈iP l x→a∈l
 | [],x,a,h=>by cases h
 | (k,w)::r,x,a,h=>by
   unfold iP at h;split at h
   ·exact List.mem_cons_of_mem _ h
   rcases List.mem_cons.1 h with h | h
   ·simp [h]
   exact List.mem_cons_of_mem _ (P3 h)
theorem oH.del {α β:Type}[DecidableEq α]:∀ {l:List (α×β)} {x:α},oH l→oH (iP l x)
 | [],x,_=>by unfold iP oH;exact .nil
 | (k,w)::r,x,h=>by
   obtain⟨aa,ae⟩:=List.pairwise_cons.1 h;unfold iP;split
   ·exact ae
   exact List.pairwise_cons.2 ⟨fun a bb=>aa a (P3 bb),oH.del ae⟩
theorem QK {α β:Type}[DecidableEq α]:∀ {l:List (α×β)} {x:α},(∀ a∈l,a.1≠x)→dW l x=none
 | [],_,_=>rfl
 | (k,w)::r,x,h=>by
   unfold dW;rw [if_neg fun e=>h (k,w) (by simp) e.symm,QK fun a bb=>h a (by simp [bb])]
theorem Cm {α β:Type}[DecidableEq α]:∀ {l:List (α×β)} {x y:α},oH l→dW (iP l x) y=if y=x then none else dW l y
 | [],x,y,_=>by
   show none=if y=x then none else none;split <;> rfl
 | (k,w)::r,x,y,h=>by
   obtain⟨aa,ae⟩:=List.pairwise_cons.1 h;unfold iP;by_cases e:x=k
   ·rw [if_pos e];by_cases aX:y=x
    ·rw [if_pos aX,aX,e];exact QK fun a bb=>(aa a bb).symm
    rw [if_neg aX];show _=if y=k then _ else _;rw [if_neg (by rw [← e];exact aX)]
   rw [if_neg e];show(if y=k then some w else dW (iP r x) y)=_;by_cases aX:y=k
   ·rw [if_pos aX,if_neg (by rw [aX];exact fun dd=>e dd.symm)];show _=if y=k then _ else _;rw [if_pos aX]
   rw [if_neg aX,Cm ae];show _=if y=x then none else if y=k then _ else _;rw [if_neg aX]
structure xm (s:aZ)(hp:aN Cell)(q:Nat)(l:List ax)(own:Nat→Prop):Prop where
 ok:∃ m em,nK hp q=some ⟨⟨some m⟩⟩∧mM hp m=some em∧own q∧own m∧ (∀ c9 n,dW em c9=some n↔ ∃ i∈l,fl i.bj=c9∧i.cl=n)∧oH em
structure nf (s:aZ)(hp:aN Cell)(m:Nat)(l:List ax)(own:Nat→Prop):Prop where
 ok:∃ em,kt hp m=some em∧own m∧
  (∀ c9 r,dW em c9=some r→ ∃ t g,r=some t∧jH hp t g∧ (∀ q,Own hp t q→own q)∧ ∀ a4 n,g a4=some n↔ ∃ i∈l,gU (fl i.bj)=c9∧kj i.bj=a4∧i.cl=n)∧
  (∀ c9,dW em c9=none→ ∀ i∈l,gU (fl i.bj)≠c9)∧
  (∀ c9 kC t fT,dW em c9=some (some t)→dW em kC=some (some fT)→c9≠kC→ ∀ q,Own hp t q→ ¬ Own hp fT q)∧oH em
structure xn (s:aZ)(k:Nat)(hp:aN Cell)(q:Nat)(l:List ax)(own:Nat→Prop):Prop where
 ok:∃ key cap,o3 hp q=some (o5 s k l,key,cap)∧own q
def qp (s:aZ)(k:Nat)(hp:aN Cell)(f:g6)(l:List ax)(own:Nat→Prop):Prop:=
 (k=0∧ ∃ q,f= .nm ⟨some q⟩∧xm s hp q l own)∨ (k=1∧ ∃ m,f= .nn ⟨0,32,⟨some m⟩⟩∧nf s hp m l own)∨ (2≤k∧ ∃ q,f= .nq ⟨some q⟩∧xn s k hp q l own)
theorem Jm {hp hp':aN Cell}{p:Nat}(h:pat hp' p=pat hp p):nK hp' p=nK hp p:=by unfold nK;rw [h]
theorem Xz {hp hp':aN Cell}{p:Nat}(h:pat hp' p=pat hp p):mM hp' p=mM hp p:=by unfold mM;rw [h]
theorem F3 {hp hp':aN Cell}{p:Nat}(h:pat hp' p=pat hp p):kt hp' p=kt hp p:=by unfold kt;rw [h]
theorem XA {hp hp':aN Cell}{p:Nat}(h:pat hp' p=pat hp p):o3 hp' p=o3 hp p:=by unfold o3;rw [h]
theorem XB {hp hp':aN Cell}{p:Nat}(h:pat hp' p=pat hp p):iq hp' p=iq hp p:=by unfold iq;rw [h]
theorem XC {hp hp':aN Cell}{p:Nat}(h:pat hp' p=pat hp p):lx hp' p=lx hp p:=by unfold lx;rw [h]
theorem qp.congr {s:aZ}{k:Nat}{hp hp':aN Cell}{f:g6}{l:List ax}{own:Nat→Prop}(h:qp s k hp f l own){own':Nat→Prop}(bg:∀ q,q∈eZ hp→own q→own' q)(bb:∀ q,own q→pat hp' q=pat hp q):qp s k hp' f l own':=by
 rcases h with⟨rfl,q,rfl,h⟩ | ⟨rfl,m,rfl,h⟩ | ⟨aw,q,rfl,h⟩
 ·obtain⟨m,em,aa,ae,aG,a0,a7,jX⟩:=h.ok;refine .inl ⟨rfl,q,rfl,⟨m,em,by rw [Jm (bb q aG)];exact aa,by rw [Xz (bb m a0)];exact ae,bg q (jF (u4 aa)) aG,bg m (jF (sg ae)) a0,a7,jX⟩⟩
 ·obtain⟨em,aa,ae,aG,a0,a7,jX⟩:=h.ok;have key:∀ c9 r,dW em c9=some r→ ∃ t g,r=some t∧jH hp t g∧jH hp' t g∧ (∀ q,Own hp t q→own q)∧ (∀ q,Own hp' t q↔Own hp t q)∧ ∀ a4 n,g a4=some n↔ ∃ i∈l,gU (fl i.bj)=c9∧kj i.bj=a4∧i.cl=n:=fun c9 r aO=>by
   obtain⟨t,g,rfl,ao,a3,bx⟩:=aG c9 r aO;obtain⟨c0,hx⟩:=ao.congr fun q hq=>bb q (a3 q hq);exact⟨t,g,rfl,ao,c0,a3,hx,bx⟩
  refine .inr (.inl ⟨rfl,m,rfl,⟨em,by rw [F3 (bb m ae)];exact aa,bg m (jF (nd aa)) ae,fun c9 r aO=>?_,a0,fun c9 kC t fT bM yk db q hq=>?_,jX⟩⟩)
  ·obtain⟨t,g,rfl,g0,ao,a3,bx,c0⟩:=key c9 r aO;exact⟨t,g,rfl,ao,fun q hq=>bg q (g0.xl ((bx q).1 hq)) (a3 q ((bx q).1 hq)),c0⟩
  obtain⟨_,g,e,g0,ao,a3,bx,c0⟩:=key c9 _ bM;obtain⟨_,fa,e',ais,agS,agT,agU,ait⟩:=key kC _ yk;cases e;cases e';rw [agU];exact a7 c9 kC t fT bM yk db q ((bx q).1 hq)
 obtain⟨key,cap,aa,ae⟩:=h.ok;exact .inr (.inr ⟨aw,q,rfl,⟨key,cap,by rw [XA (bb q ae)];exact aa,bg q (jF (va aa)) ae⟩⟩)
theorem GH {e:a8}(an:e.bU.length≤4):uP e=some (fl e):=by
 refine bk.get ?_;unfold uP;refine .eq (a:=e.bU) (by unfold q1;rw [if_pos ⟨by omega,by omega,by omega⟩,Int.toNat_zero,List.drop_zero,Nat.sub_zero,List.take_of_length_le (by omega)]) ?_;refine bk.loop e.bU.length (fun i st=>st.1=(i:Int)∧ ∀ j,j<4→bH st.2 j=if j<i then(aF e.bU j).cU else default) (by omega) ⟨rfl,fun j aH=>by rw [FV];rfl⟩ (fun i st au hs=>?_) (fun st hs=>?_)
 ·obtain⟨j,v⟩:=st;obtain⟨aq,aX⟩:=hs;simp only at aq aX;subst aq;refine .cond (fun _=>?_) (fun aj=>by simp at aj;omega);refine .idx rfl au (.idx rfl (by omega) (.ret ⟨e2 (by omega),fun j aH=>?_⟩));rw [iW _ _ (by omega)];by_cases ic:j=i
  ·rw [if_pos ic,if_pos (by omega),ic]
  rw [if_neg ic,aX j aH];by_cases h:j<i
  ·rw [if_pos h,if_pos (by omega)]
  rw [if_neg h,if_neg (by omega)]
 obtain⟨j,v⟩:=st;obtain⟨aq,aX⟩:=hs;simp only at aq aX;subst aq;refine⟨_,by simp;rfl,.ret ?_⟩;exact JT fun j aH=>by rw [aX j aH,mF aH]
theorem hH.HG {s:aZ}(h:c1 s){k:Nat}(aw:k<4){e:a8}(he:hH s k e):e.bU.length≤4∧1≤e.bU.length:=by
 have:=(h.gE aw).2.1;rw [he.len];omega
theorem Zz {a c:List bW}(an:a.length≤1000):A1 a c=some (decide (a=c)):=by
 refine bk.get ?_;unfold A1;refine .cond (fun h=>.ret ?_) fun h=>?_
 ·have:a≠c:=fun e=>by rw [e] at h;simp at h
  simp [this]
 have H3:c.length=a.length:=by
  have:(a.length:Int)=c.length:=by simpa using h
  omega
 refine bk.loop a.length (fun i st=>st=(i:Int)∧ ∀ j,j<i→aF a j=aF c j) (by omega) ⟨rfl,fun j aH=>by omega⟩ (fun i st au hs=>?_) (fun st hs=>?_)
 ·obtain⟨rfl,hs⟩:=hs;refine .cond (fun _=>?_) (fun aj=>by simp at aj;omega);refine .idx rfl au (.idx rfl (by omega) (.cond (fun db=>.ret ?_) fun he=>.ret ⟨e2 (by omega),fun j aH=>?_⟩))
  ·simp only [Sum.elim_inr];refine .ret ?_;have:a≠c:=fun e=>by rw [e] at db;simp at db
   simp [this]
  by_cases ic:j=i
  ·subst ic;simpa using he
  exact hs j (by omega)
 obtain⟨rfl,hs⟩:=hs;refine⟨_,by simp;rfl,?_⟩;simp only [Sum.elim_inl];refine .ret ?_;have:a=c:=List.ext_getElem H3.symm fun j aa ae=>by
  have:=hs j aa;rwa [eO _ aa,eO _ ae] at this
 simp [this]
theorem X3 {a c:a8}(an:a.bU.length≤1000):BO a c=some (gn a c):=by
 refine bk.get ?_;unfold BO gn;refine .cu (P:=fun r=>r=decide (a.bU=c.bU)) (fun _=>⟨_,Zz an,rfl⟩) fun y a5=>.ret ?_;by_cases h:a.cO=c.cO
 ·rw [a5 (by simpa using h)];rw [Bool.eq_iff_iff];simp [h]
 simp [h]
theorem adr {s:aZ}(h:c1 s){hp:aN Cell}{q:Nat}{l:List ax}{own:Nat→Prop}(hq:xm s hp q l own)(an:h5 s 0 l){e:a8}(he:hH s 0 e):Bt hp ⟨some q⟩ e=some (oG (e0 l e)):=by
 obtain⟨m,em,aa,ae,_,_,a7,_⟩:=hq.ok;refine bk.get ?_;unfold Bt uJ;refine .eq (GH (he.HG h (by decide)).1) ?_;have hm:dW em (fl e)=(e0 l e).map (·.cl):=by
  cases a2:e0 l e with
  | none=>
    cases bD:dW em (fl e) with
    | none=>rfl
    | some n=>
      obtain⟨i,au,bn,_⟩:=(a7 _ _).1 bD
      have:=tb a2 i au
      rw [(EH h (an.ok.ok i au).dS he).2 bn] at this;cases this
  | some i=>
    obtain⟨au,aw⟩:=qV a2
    exact(a7 _ _).2 ⟨i,au,(EH h (an.ok.ok i au).dS he).1 aw,rfl⟩
 refine .eq (a:=oG (e0 l e)) ?_ (.ret rfl);show(nK hp q).bind _=_;rw [aa];show(mM hp m).bind _=_;rw [ae];show some ((dW em (fl e)).getD default,(dW em (fl e)).isSome)=_;rw [hm];cases e0 l e <;> rfl
theorem Kq {s:aZ}(h:c1 s){e:a8}(he:hH s 1 e)(m:fR):wy ⟨0,32,m⟩ e=some (gU (fl e),(aF e.bU 0).cU,(aF e.bU 0).en):=by
 have an:=he.HG h (by decide);refine bk.get ?_;unfold wy yC;refine .eq (GH an.1) (.eq (a:=(gU (fl e),bH (fl e) 0)) rfl (.cond (fun aj=>by have aj:(0:Int)≥ (e.bU.length:Int):=of_decide_eq_true aj;omega) fun _=>.idx (k:=0) rfl (by omega) (.ret ?_)));rw [mF (by decide),if_pos (by omega)]
theorem JW {m:bW}(h:pG 2 32 m):∀ j,j<128→ct m.cU j=true→lead 32 m.en j=true:=fun j aH a6=>
 (zO h.pre.1 h.pre.2).2 (h.M7 rfl j aH a6)
theorem ads {s:aZ}(h:c1 s){hp:aN Cell}{m:Nat}{l:List ax}{own:Nat→Prop}(hq:nf s hp m l own)(an:h5 s 1 l){e:a8}(he:hH s 1 e):Be hp ⟨0,32,⟨some m⟩⟩ e=some (oG (e0 l e)):=by
 obtain⟨em,aa,_,aG,a0,_⟩:=hq.ok;have ha:=vM h he;refine bk.get ?_;unfold Be;refine .eq (Kq h he _) (.eq rfl (.eq aa (.eq rfl ?_)));obtain⟨n,aR⟩:=Int.eq_ofNat_of_zero_le ha.pre.1;have DX:n≤32:=by have:=ha.pre.2;omega
 have vw:=JW ha;refine .eq (a:=oG (e0 l e)) ?_ (.ret rfl);simp only;cases aO:dW em (gU (fl e)) with
 | none=>
   have a2:e0 l e=none:=by
    cases a2:e0 l e with
    | none=>rfl
    | some i=>
      obtain⟨au,aw⟩:=qV a2
      exact absurd ((AI h (an.ok.ok i au).dS he).1 aw).1 (a0 _ aO i au)
   rw [a2];rfl
 | some r=>
   obtain⟨t,g,rfl,ao,_,bx⟩:=aG _ _ aO
   have bD:g (kj e)=(e0 l e).map (·.cl):=by
    cases a2:e0 l e with
    | none=>
      cases Nf:g (kj e) with
      | none=>rfl
      | some n=>
        obtain⟨i,au,bn,dn,_⟩:=(bx _ _).1 Nf
        have:=tb a2 i au
        rw [(AI h (an.ok.ok i au).dS he).2 ⟨bn,dn⟩] at this;cases this
    | some i=>
      obtain⟨au,aw⟩:=qV a2
      obtain⟨bn,dn⟩:=(AI h (an.ok.ok i au).dS he).1 aw
      exact(bx _ _).2 ⟨i,au,bn,dn,rfl⟩
   rw [aR] at vw ⊢
   show wI hp (some t) _ (n:Int)=_
   rw [Rz ao DX vw]
   have hp':dP (aF e.bU 0).cU n=kj e:=by unfold kj;rw [aR];rfl
   rw [hp',bD]
   cases e0 l e <;> rfl
theorem adt {s:aZ}(h:c1 s){k:Nat}(aw:k<4){hp:aN Cell}{q:Nat}{l:List ax}{own:Nat→Prop}(hq:xn s k hp q l own)(an:h5 s k l){e:a8}(he:hH s k e):BA hp ⟨some q⟩ e=some (oG (e0 l e)):=by
 obtain⟨key,cap,aa,_⟩:=hq.ok;refine bk.get ?_;unfold BA;refine .eq rfl (.eq aa (.eq (abh h aw an.ok) ?_));obtain⟨js,gP⟩:=an.ok.e1;have a2:e0 l e=(e1 (eT s k) l).find? fun i=>gn i.bj e:=by
  cases a2:e0 l e with
  | none=>
    symm
    rw [List.find?_eq_none]
    intro x ar
    rw [tb a2 x (oX.1 ar)];simp
  | some i=>
    obtain⟨au,kB⟩:=qV a2
    exact(GF (q3 s k) an.ok.v7 au kB fun d hd agV=>.inl (an.uniq hd au (ta agV (by rw [xb];exact kB)))).symm
 rw [a2];refine bk.loop (e1 (eT s k) l).length (fun i st=>st=(i:Int)∧ ∀ j,j<i→gn (aF (e1 (eT s k) l) j).bj e=false) (by omega) ⟨rfl,fun j aH=>by omega⟩ (fun i st au hs=>?_) (fun st hs=>?_)
 ·obtain⟨rfl,hs⟩:=hs;refine .cond (fun _=>?_) (fun aj=>by simp at aj;omega);have hm:=js (aF (e1 (eT s k) l) i) (by rw [eO _ au];exact List.getElem_mem _);refine .idx rfl au (.eq (X3 (hm.small h aw).1) (.cond (fun aj=>.ret ?_) fun aj=>.ret ⟨e2 (by omega),fun j aH=>?_⟩))
  ·simp only [Sum.elim_inr];refine .ret ?_;rw [Qy (p:=fun i=>gn i.bj e) au aj hs];rfl
  by_cases ic:j=i
  ·subst ic;exact aj
  exact hs j (by omega)
 obtain⟨rfl,hs⟩:=hs;refine⟨_,by simp;rfl,?_⟩;simp only [Sum.elim_inl];refine .ret ?_;rw [Qz fun c aj=>?_]
 ·rfl
 obtain⟨j,aH,rfl⟩:=List.mem_iff_getElem.1 aj;rw [← eO _ aH];exact hs j aH
theorem SS {s:aZ}(h:c1 s){k:Nat}(aw:k<4){hp:aN Cell}{f:g6}{l:List ax}{own:Nat→Prop}(hq:qp s k hp f l own)(an:h5 s k l){e:a8}(he:hH s k e):Fu hp f e=some (oG (e0 l e)):=by
 rcases hq with⟨rfl,q,rfl,hq⟩ | ⟨rfl,m,rfl,hq⟩ | ⟨cV,q,rfl,hq⟩
 ·exact adr h hq an he
 ·exact ads h hq an he
 exact adt h aw hq an he
def jr (s:aZ)(k:Nat)(l:List ax)(p:Vector az 4):Option ax:=(e1 (eT s k) l).find? fun c=>mt s k p c.bj
theorem QL {s:aZ}{k:Nat}{l:List ax}{p:Vector az 4}{i:ax}(h:jr s k l p=some i):i∈l:=by
 unfold jr at h;exact oX.1 (List.mem_of_find?_eq_some h)
theorem adu {s:aZ}(h:c1 s){k:Nat}(aw:k<4)(p:Vector az 4)(e:a8):mt s k (lM (ih s k) p) e=mt s k p e:=by
 unfold mt;rw [Bool.eq_iff_iff,List.all_eq_true,List.all_eq_true];have an:=(h.gE aw).2.1;have key:∀ i∈List.range (aF s.bE k).cn.length,bH (lM (ih s k) p) i=bH p i:=fun i au=>by
  have:=List.mem_range.1 au;rw [od (by omega),if_pos (show i<ih s k from this)]
 exact⟨fun aa i au=>by have:=aa i au;rwa [key i au] at this,fun aa i au=>by rw [key i au];exact aa i au⟩
theorem adv {s:aZ}(h:c1 s){hp:aN Cell}{q:Nat}{l:List ax}{own:Nat→Prop}(hq:xm s hp q l own)(an:h5 s 0 l)(p:Vector az 4):Ba hp ⟨some q⟩ (lM (ih s 0) p)=some (oG (jr s 0 l p)):=by
 obtain⟨m,em,aa,ae,_,_,a7,_⟩:=hq.ok;have hb:=adq h an.ok p (o:=dW em (lM (ih s 0) p)) fun n=>a7 _ n;refine bk.get ?_;unfold Ba uJ;refine .eq (a:=oG (jr s 0 l p)) ?_ (.ret rfl);show(nK hp q).bind _=_;rw [aa];show(mM hp m).bind _=_;rw [ae];show some ((dW em (lM (ih s 0) p)).getD default,(dW em (lM (ih s 0) p)).isSome)=_;cases bD:dW em (lM (ih s 0) p) with
 | none=>
   have hb:jr s 0 l p=none:=hb.2 bD
   rw [hb];rfl
 | some n=>
   obtain⟨i,_,aq,aX⟩:=hb.1 n bD
   have aX:jr s 0 l p=some i:=aX
   rw [aX,QJ aq];rfl
theorem SU {g:List Bool→Option Int}(h:∀ a4,g a4=none)(v:az):∀ m,kp g v m=none
 | 0=>by unfold kp;rw [h];rfl
 | m+1=>by unfold kp;rw [h];exact SU h v m
theorem adw {s:aZ}(h:c1 s){hp:aN Cell}{m:Nat}{l:List ax}{own:Nat→Prop}(hq:nf s hp m l own)(an:h5 s 1 l)(p:Vector az 4):A5 hp ⟨0,32,⟨some m⟩⟩ (lM (ih s 1) p)=some (oG (jr s 1 l p)):=by
 obtain⟨em,aa,_,aG,a0,_⟩:=hq.ok;have aR:1≤ih s 1:=(h.gE (show 1<4 by decide)).2.1.1;refine bk.get ?_;unfold A5 yC;refine .eq (a:=(gU (lM (ih s 1) p),bH p 0)) (by show some (gU (lM (ih s 1) p),bH (lM (ih s 1) p) 0)=_;rw [od (by decide),if_pos (by omega)]) (.eq rfl (.eq aa (.eq rfl ((Kk 32).bind fun aK aX=>.eq (and_eq _ _) ?_))));simp only;have a6:∀ j,j<128→ct (tO (bH p 0) aK) j=(ct (bH p 0) j&&decide (j<32)):=fun j aH=>by
  rw [zE,aX j aH];congr 1;rw [decide_eq_decide];omega
 cases aO:dW em (gU (lM (ih s 1) p)) with
 | none=>
   have hb:=SR h an.ok p a6 (g:=fun _=>none) fun a4 n=>⟨fun h=>(by cases h),fun⟨i,au,bn,_⟩=>absurd bn (a0 _ aO i au)⟩
   rw [SU (fun _=>rfl)] at hb
   have hb:jr s 1 l p=none:=hb
   rw [hb]
   exact .eq rfl (.ret rfl)
 | some r=>
   obtain⟨t,g,rfl,ao,_,bx⟩:=aG _ _ aO
   have hb:=SR h an.ok p a6 bx
   have hs:Small (tO (bH p 0) aK):=fun j aH hb=>by
    rw [a6 j aH,Bool.and_eq_true,decide_eq_true_eq] at hb;exact hb.2
   refine .eq (X2 ao hs) (.ret ?_)
   cases Up:kp g (tO (bH p 0) aK) 32 with
   | none=>
     rw [Up] at hb
     have hb:jr s 1 l p=none:=hb
     rw [hb];rfl
   | some r=>
     rw [Up] at hb
     obtain⟨i,_,aq,dd⟩:=hb
     have dd:jr s 1 l p=some i:=dd
     rw [dd,QJ aq];rfl
theorem adx {s:aZ}(h:c1 s){k:Nat}(aw:k<4){hp:aN Cell}{q:Nat}{l:List ax}{own:Nat→Prop}(hq:xn s k hp q l own)(an:h5 s k l)(p:Vector az 4):Bf hp ⟨some q⟩ (lM (ih s k) p)=some (oG (jr s k l p)):=by
 obtain⟨key,cap,aa,_⟩:=hq.ok;refine bk.get ?_;unfold Bf;refine .eq rfl (.eq aa (.eq (X0 h aw an.ok _) (.ret ?_)));have:((e1 (eT s k) l).find? fun c=>mt s k (lM (ih s k) p) c.bj)=jr s k l p:=by
  unfold jr;congr 1;funext c;exact adu h aw p c.bj
 rw [this];cases jr s k l p <;> rfl
theorem ady {s:aZ}(h:c1 s){k:Nat}(aw:k<4){hp:aN Cell}{f:g6}{l:List ax}{own:Nat→Prop}(hq:qp s k hp f l own)(an:h5 s k l)(p:Vector az 4):IL hp f (lM (ih s k) p)=some (oG (jr s k l p)):=by
 rcases hq with⟨rfl,q,rfl,hq⟩ | ⟨rfl,m,rfl,hq⟩ | ⟨cV,q,rfl,hq⟩
 ·exact adv h hq an p
 ·exact adw h hq an p
 exact adx h aw hq an p
def ml (own:Nat→Prop)(hp hp':aN Cell)(q:Nat):Prop:=own q∨ (q ∉ eZ hp∧q∈eZ hp')
theorem P4 {hp:aN Cell}{p:Nat}{k:Cell}{x:List (Vector az 4×Int)}(h:pat hp p=some k):mM (dr hp p (.o6 x)) p=some x:=by unfold mM;rw [tq h]
theorem P5 {hp:aN Cell}{p:Nat}{k:Cell}{x:List (Vector az 4×Ref)}(h:pat hp p=some k):kt (dr hp p (.mQ x)) p=some x:=by unfold kt;rw [tq h]
theorem afz {s:aZ}(h:c1 s){hp:aN Cell}{q:Nat}{l:List ax}{own:Nat→Prop}(hq:xm s hp q l own)(an:h5 s 0 l){i:ax}(au:jZ s 0 i)(a2:e0 l i.bj=none):
 bk (BB hp ⟨some q⟩ i) (fun hp'=>xm s hp' q (l++[i]) (ml own hp hp')∧fp hp hp' own):=by
 obtain⟨m,em,aa,ae,aG,a0,a7,jX⟩:=hq.ok
 have gf:dW em (fl i.bj)=none:=by
  cases bD:dW em (fl i.bj) with
  | none=>rfl
  | some n=>
    obtain⟨c,aj,bn,_⟩:=(a7 _ _).1 bD
    have:=tb a2 c aj
    rw [(EH h (an.ok.ok c aj).dS au.dS).2 bn] at this;cases this
 unfold BB FK
 refine .eq (GH (au.dS.HG h (by decide)).1) ?_
 refine .eq (a:=(true,dr hp m (Cell.o6 (gK em (fl i.bj) i.cl)))) ?_ (.ret ?_)
 ·show(nK hp q).bind _=_
  rw [aa]
  show(mM hp m).bind _=_
  rw [ae]
  show cond (dW em (fl i.bj)).isSome _ _=_
  rw [gf];rfl
 have EI:q≠m:=fun e=>by
  subst e;have:=u4 aa;rw [sg ae] at this;cases this
 refine⟨⟨m,_,by rw [Jm (m4 EI.symm)];exact aa,P4 (sg ae),.inl aG,.inl a0,fun c9 n=>?_,jX.put⟩,.up a0⟩
 rw [uU]
 by_cases hF:c9=fl i.bj
 ·rw [if_pos hF]
  constructor
  ·intro e
   cases e
   exact⟨i,by simp,hF.symm,rfl⟩
  rintro ⟨c,aj,bn,dn⟩
  rcases List.mem_append.1 aj with aj | aj
  ·have:=(a7 _ _).2 ⟨c,aj,bn,dn⟩
   rw [hF,gf] at this;cases this
  rw [List.mem_singleton.1 aj] at dn;rw [dn]
 rw [if_neg hF,a7]
 constructor
 ·rintro ⟨c,aj,bn⟩;exact⟨c,by simp [aj],bn⟩
 rintro ⟨c,aj,bn,dn⟩
 rcases List.mem_append.1 aj with aj | aj
 ·exact⟨c,aj,bn,dn⟩
 rw [List.mem_singleton.1 aj] at bn;exact absurd bn.symm hF
theorem afA {s:aZ}(h:c1 s){hp:aN Cell}{m:Nat}{l:List ax}{own:Nat→Prop}(hq:nf s hp m l own)(fc:∀ q,own q→q∈eZ hp)(an:h5 s 1 l){i:ax}(au:jZ s 1 i)(a2:e0 l i.bj=none)
 {em:List (Vector az 4×Ref)} (mX:kt hp m=some em) {t:Nat} (bM:dW em (gU (fl i.bj))=some (some t)):
 dz (y8 hp (some t) (aF i.bj.bU 0).cU (aF i.bj.bU 0).en i.cl) (fun r=>nf s r.2 m (l++[i]) (ml own hp r.2)∧fp hp r.2 own):=by
 obtain⟨agW,aa,ae,aG,a0,a7,jX⟩:=hq.ok
 rw [mX] at aa;cases aa
 have ha:=vM h au.dS
 obtain⟨fT,g,e,ao,a3,bx⟩:=aG _ _ bM
 cases e
 obtain⟨n,aR⟩:=Int.eq_ofNat_of_zero_le ha.pre.1
 have DX:n≤32:=by have:=ha.pre.2;omega
 have vw:=JW ha
 have hp':dP (aF i.bj.bU 0).cU n=kj i.bj:=by unfold kj;rw [aR];rfl
 have gf:g (kj i.bj)=none:=by
  cases Nf:g (kj i.bj) with
  | none=>rfl
  | some n=>
    obtain⟨c,aj,bn,dn,_⟩:=(bx _ _).1 Nf
    have:=tb a2 c aj
    rw [(AI h (an.ok.ok c aj).dS au.dS).2 ⟨bn,dn⟩] at this;cases this
 rw [aR] at vw ⊢
 refine(ado ao DX vw i.cl (by rw [hp'];exact gf)).mono fun r aO=>?_
 obtain⟨_,js,gP,ph⟩:=aO
 rw [hp'] at js
 have AH:∀ q,Own hp t q→q≠m:=fun q Ng e=>by
  have:=nd mX;rw [← e] at this;rcases ao.GX Ng with⟨c,aj⟩ | ⟨c,aj⟩ <;> rw [aj] at this <;> cases this
 have lg:pat r.2 m=pat hp m:=gP.rest m (jF (nd mX)) fun hq=>AH m hq rfl
 have sj:∀ c9 fT,c9≠gU (fl i.bj)→dW em c9=some (some fT)→ ∃ fa,jH hp fT fa∧jH r.2 fT fa∧ (∀ q,Own hp fT q→own q)∧ (∀ q,Own r.2 fT q↔Own hp fT q)∧ ∀ a4 n,fa a4=some n↔ ∃ i∈l,gU (fl i.bj)=c9∧kj i.bj=a4∧i.cl=n:=fun c9 fT db aO=>by
  obtain⟨agX,fa,e,c8,c2,gG⟩:=aG c9 _ aO;cases e;obtain⟨dT,ew⟩:=c8.congr (hp':=r.2) fun q hq=>gP.rest q (c8.xl hq) fun kA=>a7 _ _ _ _ bM aO db.symm q kA hq;exact⟨fa,c8,dT,c2,ew,gG⟩
 have DV:∀ q,Own r.2 t q→ml own hp r.2 q:=fun q hq=>by
  rcases ph q hq with bn | bn
  ·exact .inl (a3 q bn)
  exact .inr ⟨bn,js.xl hq⟩
 refine⟨⟨em,by rw [F3 lg];exact mX,.inl ae,fun c9 k5 jN=>?_,fun c9 hF c aj=>?_,fun c9 kC t1 t2 j0 k0 db q ki nU=>?_,jX⟩,⟨gP.keys,fun q hq gf=>gP.rest q hq fun kA=>gf (a3 q kA)⟩⟩
 ·by_cases hF:c9=gU (fl i.bj)
  ·subst hF
   rw [bM] at jN;cases jN
   refine⟨t,_,rfl,js,DV,fun a4 uB=>?_⟩
   by_cases lH:a4=kj i.bj
   ·simp only [if_pos lH]
    constructor
    ·intro e;cases e
     exact⟨i,by simp,rfl,lH.symm,rfl⟩
    rintro ⟨c,aj,bn,dn,fh⟩
    rcases List.mem_append.1 aj with aj | aj
    ·have:=(bx _ _).2 ⟨c,aj,bn,dn,fh⟩
     rw [lH,gf] at this;cases this
    rw [List.mem_singleton.1 aj] at fh;rw [fh]
   simp only [if_neg lH]
   rw [bx]
   constructor
   ·rintro ⟨c,aj,bn⟩;exact⟨c,by simp [aj],bn⟩
   rintro ⟨c,aj,bn,dn,fh⟩
   rcases List.mem_append.1 aj with aj | aj
   ·exact⟨c,aj,bn,dn,fh⟩
   rw [List.mem_singleton.1 aj] at dn;exact absurd dn.symm lH
  obtain⟨fT,fa,e,_⟩:=aG c9 k5 jN
  subst e
  obtain⟨yl,c8,c2,gG,km,pZ⟩:=sj c9 fT hF jN
  refine⟨fT,yl,rfl,c2,fun q hq=>.inl (gG q ((km q).1 hq)),fun a4 uB=>?_⟩
  rw [pZ]
  constructor
  ·rintro ⟨c,aj,bn⟩;exact⟨c,by simp [aj],bn⟩
  rintro ⟨c,aj,bn,dn⟩
  rcases List.mem_append.1 aj with aj | aj
  ·exact⟨c,aj,bn,dn⟩
  rw [List.mem_singleton.1 aj] at bn;exact absurd bn.symm hF
 ·rcases List.mem_append.1 aj with aj | aj
  ·exact a0 c9 hF c aj
  rw [List.mem_singleton.1 aj]
  intro e
  rw [← e,bM] at hF;cases hF
 
 have RA:∀ c9 fT,c9≠gU (fl i.bj)→dW em c9=some (some fT)→ ∀ q,Own r.2 t q→ ¬ Own r.2 fT q:=fun c9 fT db aO q hq kA=>by
  obtain⟨yl,c8,c2,gG,km,pZ⟩:=sj c9 fT db aO;have kA:=(km q).1 kA;rcases ph q hq with bn | bn
  ·exact a7 _ _ _ _ bM aO db.symm q bn kA
  exact bn (c8.xl kA)
 by_cases aq:c9=gU (fl i.bj)
 ·subst aq
  rw [bM] at j0;cases j0
  exact RA kC t2 db.symm k0 q ki nU
 by_cases aX:kC=gU (fl i.bj)
 ·subst aX
  rw [bM] at k0;cases k0
  exact RA c9 t1 aq j0 q nU ki
 obtain⟨_,_,_,_,km,_⟩:=sj c9 t1 aq j0
 obtain⟨_,_,_,_,Iz,_⟩:=sj kC t2 aX k0
 exact a7 _ _ _ _ j0 k0 db q ((km q).1 ki) ((Iz q).1 nU)
theorem WT {own:Nat→Prop}{bO aa ae:aN Cell}{q:Nat}(aw:∀ q,q∈eZ bO→q∈eZ aa)(cV:∀ q,q∈eZ aa→q∈eZ ae)(h:ml (ml own bO aa) aa ae q):ml own bO ae q:=by
 rcases h with(h | ⟨h,de⟩) | ⟨h,de⟩
 ·exact .inl h
 ·exact .inr ⟨h,cV q de⟩
 exact .inr ⟨fun aG=>h (aw q aG),de⟩
theorem nf.mono {s:aZ}{hp:aN Cell}{m:Nat}{l:List ax}{own own':Nat→Prop}(h:nf s hp m l own)(bg:∀ q,own q→own' q):nf s hp m l own':=by
 obtain⟨em,aa,ae,aG,a0,a7,jX⟩:=h.ok;exact⟨em,aa,bg m ae,fun c9 r aO=>by obtain⟨t,g,e,a,b,c⟩:=aG c9 r aO;exact⟨t,g,e,a,fun q hq=>bg q (b q hq),c⟩,a0,a7,jX⟩
theorem fp.grow {bO aa ae:aN Cell}{own:Nat→Prop}(a:fp bO aa own)(b:fp aa ae (ml own bO aa)):fp bO ae own:=
 a.trans b fun q hq h=>h.elim (fun h=>h) fun h=>absurd hq h.1
theorem afB {s:aZ}{hp:aN Cell}{m:Nat}{l:List ax}{own:Nat→Prop}(hq:nf s hp m l own)
 {em:List (Vector az 4×Ref)} (mX:kt hp m=some em) {c9:Vector az 4} (gf:dW em c9=none) {a:Nat} (bb:a ∉ eZ hp) {z:fX} (dI:z.fZ=32) (aO:z.ep=none):
 nf s (dr ((a,Cell.ky z)::hp) m (.mQ (gK em c9 (some a)))) m l (ml own hp (dr ((a,Cell.ky z)::hp) m (.mQ (gK em c9 (some a)))))∧fp hp (dr ((a,Cell.ky z)::hp) m (.mQ (gK em c9 (some a)))) own∧
  kt (dr ((a,Cell.ky z)::hp) m (.mQ (gK em c9 (some a)))) m=some (gK em c9 (some a)):=by
 obtain⟨agW,aa,ae,aG,a0,a7,jX⟩:=hq.ok
 rw [mX] at aa;cases aa
 have lg:=nd mX
 have Uq:=Cl bb lg
 have cx:pat ((a,Cell.ky z)::hp) m=some (.mQ em):=by rw [qU,if_neg Uq];exact lg
 generalize cY:dr ((a,Cell.ky z)::hp) m (.mQ (gK em c9 (some a)))=cP
 have ao:kt cP m=some (gK em c9 (some a)):=by rw [← cY];exact P5 cx
 have a3:pat cP a=some (.ky z):=by rw [← cY,m4 Uq.symm,qU,if_pos rfl]
 have bx:∀ q,q≠m→q≠a→pat cP q=pat hp q:=fun q EI nA=>by rw [← cY,m4 EI.symm,qU,if_neg nA.symm]
 have aw:fp hp cP own:=by
  rw [← cY];exact(fp.mk' (own:=own) bb).trans (fp.up ae) fun q _ h=>h
 have Ur:gr cP a=some z:=s6.2 a3
 have adz:jH cP a (fun _=>none):=⟨z,Ur,dI,by rw [aO];exact⟨fun a4 p h=>(by rw [g7] at h;cases h),fun a4 cs p h _=>(by rw [g7] at h;cases h),fun a4 p h=>(by rw [g7] at h;cases h)⟩,fun a4=>by rw [aO];exact k7 g7⟩
 have Lw:∀ q,Own cP a q→q=a:=fun q qI=>by
  rcases qI with h | ⟨c,a4,bn,dn⟩
  ·exact h
  rw [Ur] at bn;cases bn;rw [aO,g7] at dn;cases dn
 have hold:∀ t g,jH hp t g→jH cP t g∧ ∀ q,Own cP t q↔Own hp t q:=fun t g bM=>bM.congr fun q qI=>by
  refine bx q (fun e=>?_) fun e=>bb (by rw [← e];exact bM.xl qI);rw [← e] at lg;rcases bM.GX qI with⟨c,aj⟩ | ⟨c,aj⟩ <;> rw [aj] at lg <;> cases lg
 refine⟨⟨_,ao,.inl ae,fun kC r jN=>?_,fun kC jN=>?_,fun Nh Ik t1 t2 j0 k0 db q ki nU=>?_,jX.put⟩,aw,ao⟩
 ·rw [uU] at jN
  by_cases e:kC=c9
  ·rw [if_pos e] at jN;cases jN
   exact⟨a,_,rfl,adz,fun q qI=>by rw [Lw q qI];exact .inr ⟨bb,jF a3⟩,fun a4 n=>⟨fun h=>(by cases h),fun⟨i,au,bn,_⟩=>absurd (bn.trans e) (a0 c9 gf i au)⟩⟩
  rw [if_neg e] at jN
  obtain⟨t,g,rfl,c8,c2,gG⟩:=aG kC r jN
  obtain⟨dT,ew⟩:=hold t g c8
  exact⟨t,g,rfl,dT,fun q qI=>.inl (c2 q ((ew q).1 qI)),gG⟩
 ·rw [uU] at jN
  by_cases e:kC=c9
  ·rw [if_pos e] at jN;cases jN
  rw [if_neg e] at jN;exact a0 kC jN
 rw [uU] at j0 k0
 have ar:∀ kC fT,dW em kC=some (some fT)→ ∀ q,q=a→ ¬ Own cP fT q:=fun kC fT yk q e qI=>by
  obtain⟨t,g,e',c8,_⟩:=aG kC _ yk;cases e';have:=(hold fT g c8).2 q |>.1 qI;exact bb (by rw [← e];exact c8.xl this)
 by_cases aq:Nh=c9
 ·rw [if_pos aq] at j0;cases j0
  by_cases aX:Ik=c9
  ·exact db (aq.trans aX.symm)
  rw [if_neg aX] at k0
  exact ar Ik t2 k0 q (Lw q ki) nU
 rw [if_neg aq] at j0
 by_cases aX:Ik=c9
 ·rw [if_pos aX] at k0;cases k0
  exact ar Nh t1 j0 q (Lw q nU) ki
 rw [if_neg aX] at k0
 obtain⟨t,g,e',c8,_⟩:=aG Nh _ j0
 cases e'
 obtain⟨fT,fa,MN,agY,_⟩:=aG Ik _ k0
 cases MN
 exact a7 _ _ _ _ j0 k0 db q (((hold _ _ c8).2 q).1 ki) (((hold _ _ agY).2 q).1 nU)
theorem adA {s:aZ}(h:c1 s){hp:aN Cell}{m:Nat}{l:List ax}{own:Nat→Prop}(hq:nf s hp m l own)(fc:∀ q,own q→q∈eZ hp)(an:h5 s 1 l){i:ax}(au:jZ s 1 i)(a2:e0 l i.bj=none):
 dz (Bp hp ⟨0,32,⟨some m⟩⟩ i) (fun hp'=>nf s hp' m (l++[i]) (ml own hp hp')∧fp hp hp' own):=by
 obtain⟨em,mX,ae,aG,a0,a7,_⟩:=hq.ok
 unfold Bp
 refine .eq (Kq h au.dS _) (.eq rfl (.eq mX (.eq rfl ?_)))
 simp only
 refine .bind (P:=fun bl=>nf s bl m l (ml own hp bl)∧fp hp bl own∧ ∃ Ni t,kt bl m=some Ni∧dW Ni (gU (fl i.bj))=some (some t)) (.cond (fun aj=>?_) fun aj=>.ret ?_) fun bl cx=>?_
 ·have gf:dW em (gU (fl i.bj))=none:=by
   cases bD:dW em (gU (fl i.bj)) with
   | none=>rfl
   | some r=>
     obtain⟨t,_,rfl,_⟩:=aG _ _ bD
     rw [bD] at aj;cases aj
  unfold F4
  refine .bind (P:=fun r=> ∃ a,a ∉ eZ hp∧r=((some a:Ref),(a,Cell.ky ({ (default:fX) with fZ:=32 }))::hp)) (.eq rfl (.mk fun a bb=>.ret ⟨a,bb,rfl⟩)) fun bs bn=>?_
  obtain⟨a,bb,rfl⟩:=bn
  have mq:kt ((a,Cell.ky ({ (default:fX) with fZ:=32 }))::hp) m=some em:=(F3 (hp:=hp) (by rw [qU,if_neg (Cl bb (nd mX))])).trans mX
  obtain⟨ao,a3,bx⟩:=afB hq mX gf bb (z:= { (default:fX) with fZ:=32 }) rfl rfl
  refine .eq mq (.eq rfl (.ret ⟨ao,a3,_,a,bx,by rw [uU,if_pos rfl]⟩))
 ·cases bD:dW em (gU (fl i.bj)) with
  | none=>rw [bD] at aj;cases aj
  | some r=>
    obtain⟨t,_,rfl,_⟩:=aG _ _ bD
    exact⟨hq.mono fun q hq=>.inl hq,.refl,em,t,mX,bD⟩
 obtain⟨ao,a3,Ni,t,bx,c0⟩:=cx
 refine .eq bx (.eq rfl ?_)
 simp only [c0]
 refine .bind (afA h ao (fun q hq=>hq.elim (fun hq=>a3.keys q (fc q hq)) fun hq=>hq.2) an au a2 bx c0) fun r aO=>.ret ?_
 exact⟨aO.1.mono fun q hq=>WT a3.keys aO.2.keys hq,a3.grow aO.2⟩
theorem P6 {hp:aN Cell}{p:Nat}{k:Cell}{x:cN}{y:Option Nat}{n:Nat}(h:pat hp p=some k):o3 (dr hp p (.su x y n)) p=some (x,y,n):=by unfold o3;rw [tq h]
theorem adB {s:aZ}(h:c1 s){k:Nat}(aw:k<4){hp:aN Cell}{q:Nat}{l:List ax}{own:Nat→Prop}(hq:xn s k hp q l own)(an:h5 s k l){i:ax}(au:jZ s k i)(k4:jl l i.cl=false)(hlen:l.length<900):
 dz (BG hp ⟨some q⟩ i) (fun hp'=>xn s k hp' q (l++[i]) (ml own hp hp')∧fp hp hp' own):=by
 obtain⟨key,cap,aa,ae⟩:=hq.ok
 unfold BG
 refine .eq rfl (.eq aa (.eq (abg h aw an.ok au hlen) (.any fun aB=>.eq rfl (.ret ?_))))
 rw [k4]
 exact⟨⟨aB.1,aB.2,P6 (va aa),.inl ae⟩,.up ae⟩
theorem adC {s:aZ}(h:c1 s){k:Nat}(aw:k<4){hp:aN Cell}{f:g6}{l:List ax}{own:Nat→Prop}(hq:qp s k hp f l own)(fc:∀ q,own q→q∈eZ hp)(an:h5 s k l){i:ax}(au:jZ s k i)(a2:e0 l i.bj=none)(k4:jl l i.cl=false)(hlen:l.length<900):
 dz (I0 hp f i) (fun hp'=>qp s k hp' f (l++[i]) (ml own hp hp')∧fp hp hp' own):=by
 rcases hq with⟨rfl,q,rfl,hq⟩ | ⟨rfl,m,rfl,hq⟩ | ⟨cV,q,rfl,hq⟩
 ·exact dz.of ((afz h hq an au a2).mono fun hp' aO=>⟨.inl ⟨rfl,q,rfl,aO.1⟩,aO.2⟩)
 ·exact(adA h hq fc an au a2).mono fun hp' aO=>⟨.inr (.inl ⟨rfl,m,rfl,aO.1⟩),aO.2⟩
 exact(adB h aw hq an au k4 hlen).mono fun hp' aO=>⟨.inr (.inr ⟨cV,q,rfl,aO.1⟩),aO.2⟩
theorem P7 {α β:Type}[DecidableEq α]:∀ {l:List (α×β)} {x:α} {v:β},dW l x=some v→ (x,v)∈l
 | [],_,_,h=>by cases h
 | (k,w)::r,x,v,h=>by
   unfold dW at h;split at h
   ·rename_i e;cases h;rw [e];simp
   exact List.mem_cons_of_mem _ (P7 h)
theorem QM {α β:Type}[DecidableEq α]:∀ {l:List (α×β)} {x:α} {v:β},l.Pairwise (fun a c=>a.1≠c.1)→ (x,v)∈l→dW l x=some v
 | [],_,_,_,h=>by cases h
 | (k,w)::r,x,v,aR,h=>by
   obtain⟨aa,ae⟩:=List.pairwise_cons.1 aR;unfold dW;rcases List.mem_cons.1 h with h | h
   ·cases h;rw [if_pos rfl]
   rw [if_neg (fun e=>aa _ h e.symm),QM ae h]
theorem P8 {α β:Type}[DecidableEq α]:∀ {l:List (α×β)} {x:α} {v:β},dW l x=none→gK l x v=l++[(x,v)]
 | [],_,_,_=>rfl
 | (k,w)::r,x,v,h=>by
   unfold dW at h;split at h
   ·cases h
   rename_i e;show(if x=k then _ else _)=_;rw [if_neg e,P8 h];rfl
def tQ (em:List (Int×ax))(l:List ax):Prop:=em.Perm (l.map fun i=>(i.cl,i))
theorem tQ.get {s:aZ}{k:Nat}{em:List (Int×ax)}{l:List ax}(h:tQ em l)(an:jo s k l)(n:Int)(i:ax):dW em n=some i↔i∈l∧i.cl=n:=by
 have hd:em.Pairwise (fun a c=>a.1≠c.1):=by
  refine(h.pairwise_iff fun cA=>Ne.symm cA).2 ?_;rw [List.pairwise_map];exact an.num.imp fun cA=>cA
 have hm:(n,i)∈em↔i∈l∧i.cl=n:=by
  rw [h.mem_iff,List.mem_map];constructor
  ·rintro ⟨c,aj,e⟩;cases e;exact⟨aj,rfl⟩
  rintro ⟨au,rfl⟩;exact⟨i,au,rfl⟩
 rw [← hm];exact⟨P7,QM hd⟩
theorem tQ.no {s:aZ}{k:Nat}{em:List (Int×ax)}{l:List ax}(h:tQ em l)(an:jo s k l)(n:Int):(dW em n).isSome=jl l n:=by
 rw [Bool.eq_iff_iff,Option.isSome_iff_exists];unfold jl;rw [List.any_eq_true];constructor
 ·rintro ⟨i,au⟩;obtain⟨aa,ae⟩:=(h.get an n i).1 au;exact⟨i,aa,by simpa using ae⟩
 rintro ⟨i,au,ae⟩;exact⟨i,(h.get an n i).2 ⟨au,by simpa using ae⟩⟩
structure kT (s:aZ)(k:Nat)(hp:aN Cell)(p:Nat)(l:List ax)(own:Nat→Prop):Prop where
 iI:h5 s k l
 cell:∃ f m em,iq hp p=some ⟨pq k,(ih s k:Int),f,⟨some m⟩⟩∧lx hp m=some em∧own p∧own m∧tQ em l∧qp s k hp f l (fun q=>own q∧q≠m∧q≠p)
 uq:∀ q,own q→q∈eZ hp
theorem kT.congr {s:aZ}{k:Nat}{hp hp':aN Cell}{p:Nat}{l:List ax}{own:Nat→Prop}(h:kT s k hp p l own)(aw:∀ q,q∈eZ hp→q∈eZ hp')(bb:∀ q,own q→pat hp' q=pat hp q):kT s k hp' p l own:=by
 obtain⟨f,m,em,aa,ae,aG,a0,a7,bn⟩:=h.cell;exact⟨h.iI,⟨f,m,em,by rw [XB (bb p aG)];exact aa,by rw [XC (bb m a0)];exact ae,aG,a0,a7,bn.congr (fun q _ hq=>hq) fun q hq=>bb q hq.1⟩,fun q hq=>aw q (h.uq q hq)⟩
theorem kT.ra {s:aZ}{k:Nat}{hp hp':aN Cell}{p:Nat}{l:List ax}{own own':Nat→Prop}(h:kT s k hp p l own)(aw:fp hp hp' own')(hd:∀ q,own q→ ¬ own' q):kT s k hp' p l own:=
 h.congr aw.keys fun q hq=>aw.rest q (h.uq q hq) (hd q hq)
theorem entry_eq {s:aZ}(h:c1 s){k:Nat}(aw:k<4){hp:aN Cell}{p:Nat}{l:List ax}{own:Nat→Prop}(ar:kT s k hp p l own){o:Option ax}(bg:∀ i,o=some i→i∈l):yR hp (some p) (oG o).1 (oG o).2=some (jq o):=by
 obtain⟨f,m,em,aa,ae,aG,a0,a7,bn⟩:=ar.cell;refine bk.get ?_;unfold yR;cases o with
 | none=>exact .cond (fun _=>.ret rfl) fun aj=>by cases aj
 | some i=>
   have au:=bg i rfl
   refine .cond (fun aj=>by cases aj) fun _=>.eq rfl (.eq aa (.eq rfl (.eq ae (.eq rfl ?_))))
   have bD:dW em i.cl=some i:=(a7.get ar.iI.ok _ _).2 ⟨au,rfl⟩
   show bk (Option.bind (oK ((dW em i.cl).getD default)) _) _
   rw [bD]
   exact .eq (zN h aw (ar.iI.ok.ok i au)) (.ret rfl)
theorem QN {s:aZ}(h:c1 s){k:Nat}(aw:k<4){hp:aN Cell}{p:Nat}{l:List ax}{own:Nat→Prop}(ar:kT s k hp p l own){e:a8}(he:hH s k e):yU hp (some p) e=some (jq (e0 l e)):=by
 obtain⟨f,m,em,aa,ae,aG,a0,a7,bn⟩:=ar.cell;refine bk.get ?_;unfold yU;refine .cond (fun aj=>by cases aj) fun _=>.eq rfl (.eq aa (.eq (SS h aw bn ar.iI he) (.eq (entry_eq h aw ar fun i au=>(qV au).1) (.ret rfl))))
theorem YO {s:aZ}(h:c1 s){k:Nat}(aw:k<4){hp:aN Cell}{p:Nat}{l:List ax}{own:Nat→Prop}(ar:kT s k hp p l own)(c9:Vector az 4):Br hp (some p) c9=some (jq (jr s k l c9)):=by
 obtain⟨f,m,em,aa,ae,aG,a0,a7,bn⟩:=ar.cell;refine bk.get ?_;unfold Br;refine .cond (fun aj=>by cases aj) fun _=>?_;refine bk.loop 4 (fun i st=>st.1=(i:Int)∧ ∀ j,j<4→bH st.2 j=if j<i then(if j<ih s k then bH c9 j else default) else bH c9 j) (by decide) ⟨rfl,fun j aH=>rfl⟩ (fun i st au hs=>?_) (fun st hs=>?_)
 ·obtain⟨j,v⟩:=st;obtain⟨aq,aX⟩:=hs;simp only at aq aX;subst aq;refine .cond (fun _=>.eq rfl (.eq aa ?_)) (fun aj=>by simp at aj;omega);refine .bind (P:=fun wi=> ∀ j,j<4→bH wi j=if j<i+1 then(if j<ih s k then bH c9 j else default) else bH c9 j) (.cond (fun aj=>.idx rfl au (.ret fun j aH=>?_)) fun aj=>.ret fun j aH=>?_) fun wi n1=>.ret ⟨e2 (by omega),n1⟩
  ·have aj:ih s k≤i:=by simp at aj;omega
   rw [iW _ _ au];by_cases ic:j=i
   ·rw [if_pos ic,if_pos (show j<i+1 by omega),if_neg (show ¬ j<ih s k by omega)]
   rw [if_neg ic,aX j aH];by_cases cf:j<i
   ·rw [if_pos cf,if_pos (show j<i+1 by omega)]
   rw [if_neg cf,if_neg (show ¬ j<i+1 by omega)]
  have aj:i<ih s k:=by simp at aj;omega
  rw [aX j aH];by_cases ic:j=i
  ·rw [if_neg (show ¬ j<i by omega),if_pos (show j<i+1 by omega),if_pos (show j<ih s k by omega)]
  by_cases cf:j<i
  ·rw [if_pos cf,if_pos (show j<i+1 by omega)]
  rw [if_neg cf,if_neg (show ¬ j<i+1 by omega)]
 obtain⟨j,v⟩:=st;obtain⟨aq,aX⟩:=hs;simp only at aq aX;subst aq;refine⟨_,by simp;rfl,?_⟩;have a6:v=lM (ih s k) c9:=JT fun j aH=>by rw [aX j aH,if_pos aH,od aH]
 subst a6;exact .eq rfl (.eq aa (.eq (ady h aw bn ar.iI c9) (.eq (entry_eq h aw ar fun i au=>QL au) (.ret rfl))))
theorem RB {s:aZ}{k:Nat}{hp:aN Cell}{p:Nat}{l:List ax}{own:Nat→Prop}(ar:kT s k hp p l own):yV hp (some p)=some (l.length:Int):=by
 obtain⟨f,m,em,aa,ae,aG,a0,a7,bn⟩:=ar.cell;have an:em.length=l.length:=by rw [a7.length_eq,List.length_map]
 refine bk.get ?_;unfold yV;refine .cond (fun aj=>by cases aj) fun _=>.eq rfl (.eq aa (.eq rfl (.eq ae ?_)));rw [an];first | exact .ret rfl | exact .eq rfl (.ret rfl)
theorem kT.mono {s:aZ}{k:Nat}{hp:aN Cell}{p:Nat}{l:List ax}{own own':Nat→Prop}(h:kT s k hp p l own)(bg:∀ q,own q→own' q)(au:∀ q,own' q→q∈eZ hp):kT s k hp p l own':=by
 obtain⟨f,m,em,aa,ae,aG,a0,a7,bn⟩:=h.cell;exact⟨h.iI,⟨f,m,em,aa,ae,bg p aG,bg m a0,a7,bn.congr (fun q _ hq=>⟨bg q hq.1,hq.2⟩) fun q hq=>rfl⟩,au⟩
theorem h5.nil {s:aZ}{k:Nat} :h5 s k []:=⟨⟨fun i au=>by(cases au),.nil,by simp⟩,.nil⟩
def AJ:Nat→Prop:=fun _=>False
theorem abj {s:aZ}(h:c1 s){k:Nat}(aw:k<4)(hp:aN Cell):dz (zr hp s ((k:Int)+1)) (fun r=> ∃ p,r.1=some p∧kT s k r.2 p [] (ml AJ hp r.2)∧fp hp r.2 AJ):=by
 refine(adp h aw hp).mono fun r aO=>?_;obtain⟨p,e,aO⟩:=aO;obtain⟨c,m,aa,ae,aG,a0,a7,bn,dn,fh,gh,jM,qH,v3⟩:=aO.cell;obtain⟨ahF,aU,f,e5⟩:=c;simp only at ae aG a0 bn dn fh;subst ae aG a0;have hm:=qZ a7;have hp':=mJ aa;refine⟨p,e,⟨h5.nil,⟨f,m,[],aa,a7,.inr ⟨gh,jF hp'⟩,.inr ⟨jM,jF hm⟩,List.Perm.refl _,?_⟩,fun q hq=>hq.elim (fun h=>h.elim) fun h=>h.2⟩,⟨qH,fun q hq _=>v3 q hq⟩⟩;have key:∀ q c,pat r.2 q=some c→ (∀ x,c≠ .lb x)→ (∀ x,c≠ .oj x)→q ∉ eZ hp→ml AJ hp r.2 q∧q≠m∧q≠p:=fun q c aj pf NN aR=>
  ⟨.inr ⟨aR,jF aj⟩,fun e=>by rw [e,hm] at aj;cases aj;exact pf _ rfl,fun e=>by rw [e,hp'] at aj;cases aj;exact NN _ rfl⟩
 have:k=0∨k=1∨2≤k:=by omega
 rcases this with rfl | rfl | cV
 ·obtain⟨q,cF,rfl,ao,a3,bx,c0⟩:=bn rfl;exact .inl ⟨rfl,q,rfl,⟨cF,[],ao,a3,key q _ (u4 ao) (fun _ h=>by cases h) (fun _ h=>by cases h) bx,key cF _ (sg a3) (fun _ h=>by cases h) (fun _ h=>by cases h) c0,fun c9 n=>⟨fun h=>(by cases h),fun⟨i,au,_⟩=>(by cases au)⟩,.nil⟩⟩
 ·obtain⟨fg,rfl,ao,a3⟩:=dn rfl;exact .inr (.inl ⟨rfl,fg,rfl,⟨[],ao,key fg _ (nd ao) (fun _ h=>by cases h) (fun _ h=>by cases h) a3,fun c9 r h=>(by cases h),fun c9 _ i au=>(by cases au),fun c9 kC t fT h=>(by cases h),.nil⟩⟩)
 obtain⟨q,ahG,cap,rfl,ao,a3⟩:=fh cV;exact .inr (.inr ⟨cV,q,rfl,⟨ahG,cap,ao,key q _ (va ao) (fun _ h=>by cases h) (fun _ h=>by cases h) a3⟩⟩)
theorem h5.snoc {s:aZ}{k:Nat}{l:List ax}(h:h5 s k l){i:ax}(au:jZ s k i)(a2:e0 l i.bj=none)(aR:jl l i.cl=false)(an:l.length<900):h5 s k (l++[i]) where
 ok:=h.ok.snoc au aR an
 key:=by
  rw [List.pairwise_append];exact⟨h.key,by simp,fun a bb c aj=>by rw [List.mem_singleton.1 aj];exact tb a2 a bb⟩
theorem ZA {hp:aN Cell}{p:Nat}{k:Cell}{x:List (Int×ax)}(h:pat hp p=some k):lx (dr hp p (.lb x)) p=some x:=by unfold lx;rw [tq h]
theorem RC (o:Option ax):(oG o).2=o.isSome:=by cases o <;> rfl
def qJ (l:List ax)(i:ax):Bool:=(e0 l i.bj).isNone&& !jl l i.cl
def added (l:List ax)(i:ax):List ax:=if qJ l i=true then l++[i] else l
theorem KS {s:aZ}(h:c1 s){k:Nat}(aw:k<4){hp:aN Cell}{p:Nat}{l:List ax}{own:Nat→Prop}(ar:kT s k hp p l own){i:ax}(au:jZ s k i)(hlen:l.length<900):
 dz (wF hp (some p) i) (fun r=>r.1=qJ l i∧kT s k r.2 p (added l i) (ml own hp r.2)∧fp hp r.2 own):=by
 obtain⟨f,m,em,aa,ae,aG,a0,a7,bn⟩:=ar.cell
 have hm:=qZ ae
 have hp':=mJ aa
 have lg:p≠m:=fun e=>by rw [e,hm] at hp';cases hp'
 have gf:=a7.no ar.iI.ok i.cl
 unfold wF
 refine .cond (fun aj=>by cases aj) fun _=>.eq rfl (.eq aa (.eq rfl (.eq ae (.eq rfl (.eq rfl (.eq aa (.eq (SS h aw bn ar.iI au.dS) (.cond (fun aj=>.ret ?_) fun aj=>?_))))))))
 ·rw [gf,RC,Bool.or_eq_true] at aj
  have bM:qJ l i=false:=by
   unfold qJ;rcases aj with aj | aj
   ·cases a2:e0 l i.bj with
    | none=>rw [a2] at aj;cases aj
    | some _=>rfl
   rw [aj];simp
  refine⟨bM.symm,?_,.refl⟩
  unfold added
  rw [bM]
  exact ar.mono (fun q hq=>.inl hq) fun q hq=>hq.elim (ar.uq q) fun hq=>absurd hq.2 hq.1
 rw [gf,RC,Bool.or_eq_false_iff] at aj
 obtain⟨br,cD⟩:=aj
 have a2:e0 l i.bj=none:=by
  cases a2:e0 l i.bj with
  | none=>rfl
  | some _=>rw [a2] at br;cases br
 have bM:qJ l i=true:=by unfold qJ;rw [a2,cD];rfl
 have bD:dW em i.cl=none:=by
  cases bD:dW em i.cl with
  | none=>rfl
  | some _=>rw [bD,cD] at gf;cases gf
 have aB:pat (dr hp m (Cell.lb (gK em i.cl i))) p=some (.oj ⟨pq k,(ih s k:Int),f,⟨some m⟩⟩):=by rw [m4 lg.symm];exact hp'
 have f1:qp s k (dr hp m (Cell.lb (gK em i.cl i))) f l (fun q=>own q∧q≠m∧q≠p):=bn.congr (fun q _ hq=>hq) fun q hq=>m4 hq.2.1.symm
 refine .eq rfl (.eq aa (.eq (zN h aw au) (.eq rfl (.eq ae (.eq rfl (.eq (by unfold iq;rw [aB]) (.bind (adC h aw f1 (fun q hq=>by rw [sd];exact ar.uq q hq.1) ar.iI au a2 cD hlen) fun hR aO=>.ret ⟨bM.symm,?_,?_⟩)))))))
 ·obtain⟨js,gP⟩:=aO
  have c8:pat hR p=some (.oj ⟨pq k,(ih s k:Int),f,⟨some m⟩⟩):=by rw [gP.rest p (jF aB) (fun hq=>hq.2.2 rfl)];exact aB
  have c2:pat hR m=some (.lb (gK em i.cl i)):=by
   have:pat (dr hp m (Cell.lb (gK em i.cl i))) m=some (.lb (gK em i.cl i)):=tq hm;rw [gP.rest m (jF this) (fun hq=>hq.2.1 rfl)];exact this
  unfold added
  rw [if_pos bM]
  refine⟨ar.iI.snoc au a2 cD hlen,⟨f,m,_,by unfold iq;rw [c8],by unfold lx;rw [c2],.inl aG,.inl a0,?_,js.congr (fun q _ hq=>?_) fun q _=>rfl⟩,fun q hq=>?_⟩
  ·unfold tQ
   rw [P8 bD,List.map_append]
   exact List.Perm.append_right _ a7
  ·rcases hq with hq | ⟨ao,a3⟩
   ·exact⟨.inl hq.1,hq.2⟩
   rw [sd] at ao
   exact⟨.inr ⟨ao,a3⟩,fun e=>ao (e ▸ jF hm),fun e=>ao (e ▸ jF hp')⟩
  rcases hq with hq | hq
  ·exact gP.keys q (by rw [sd];exact ar.uq q hq)
  exact hq.2
 exact(fp.up (own:=own) a0).trans aO.2 fun q _ hq=>hq.1
theorem Kr {hp hp':aN Cell}{root:Ref}{ws:List Bool}{b:Bool}{p q:Nat}{c uD:ec}(bM:oW hp root)(hw:c5 hp root ws=some p)(aj:cZ hp p=some c)(hq:bH c.df (fO b)=some q)(oD:cZ hp q=some uD)(an:∀ x,bH uD.df (fO x)=none)
 (cP:cZ hp' p=some { c with df:=dD c.df (fO b) none }) (hR:∀ x,x≠p→cZ hp' x=cZ hp x):
 ∀ (a4 us:List Bool) (r:Nat),c5 hp root us=some r→us≠ws++[b]→c5 hp' (some r) a4=if us++a4=ws++[b] then none else c5 hp (some r) a4
 | [],us,r,hu,db=>by
   rw [List.append_nil,if_neg db];rfl
 | x::xs,us,r,hu,db=>by
   obtain⟨NP,ur⟩:=bM.reads us r hu;by_cases pS:r=p
   ·subst pS;have M3:=bM.inj us ws r hu hw;subst M3;rw [aj] at ur;cases ur;rw [h8 cP,h8 aj];simp only;have cf:fO b<2:=by cases b <;> decide
    rw [iW _ _ cf];by_cases yh:x=b
    ·subst yh;rw [if_pos rfl,hq,g7];by_cases h:xs= []
     ·subst h;rw [if_pos rfl]
     have gf: ¬ us++x::xs=us++[x]:=fun e=>h (by have:=List.append_cancel_left e;simpa using this);rw [if_neg gf];cases xs with
     | nil=>exact absurd rfl h
     | cons y ys=>rw [h8 oD,an,g7]
    have agZ: ¬ fO x=fO b:=fun e=>yh (by cases x <;> cases b <;> first | rfl | cases e);have gf:∀ ys,¬ us++x::ys=us++[b]:=fun ys e=>yh (by have:=List.append_cancel_left e;simpa using (List.cons.inj this).1);rw [if_neg agZ,if_neg (gf xs)];cases e:bH c.df (fO x) with
    | none=>rw [g7,g7]
    | some k5=>
      have ny:c5 hp root (us++[x])=some k5:=by rw [mH,hu,h8 aj,e,m9]
      rw [Kr bM hw aj hq oD an cP hR xs (us++[x]) k5 ny (gf []),List.append_assoc,List.singleton_append,if_neg (gf xs)]
   have aa:cZ hp' r=some NP:=by rw [hR r pS];exact ur
   rw [h8 aa,h8 ur];have afC:us++[x]≠ws++[b]:=fun e=>by
    have:=List.append_inj_left' e rfl;subst this;rw [hu] at hw;cases hw;exact pS rfl
   cases e:bH NP.df (fO x) with
   | none=>rw [g7,g7];split <;> rfl
   | some k5=>
     have ny:c5 hp root (us++[x])=some k5:=by rw [mH,hu,h8 ur,e,m9]
     rw [Kr bM hw aj hq oD an cP hR xs (us++[x]) k5 ny afC,List.append_assoc,List.singleton_append]
theorem cut {hp hp':aN Cell}{r:Nat}{ws:List Bool}{b:Bool}{p q:Nat}{c uD:ec}(bM:oW hp (some r))(hw:c5 hp (some r) ws=some p)(aj:cZ hp p=some c)(hq:bH c.df (fO b)=some q)(oD:cZ hp q=some uD)(an:∀ x,bH uD.df (fO x)=none)(hu:uD.fu=false)
 (cP:cZ hp' p=some { c with df:=dD c.df (fO b) none }) (hR:∀ x,x≠p→cZ hp' x=cZ hp x):
 oW hp' (some r)∧ (∀ a4,c5 hp' (some r) a4=if a4=ws++[b] then none else c5 hp (some r) a4)∧ ∀ a4,cont hp' (some r) a4=cont hp (some r) a4:=by
 have a2:∀ a4,c5 hp' (some r) a4=if a4=ws++[b] then none else c5 hp (some r) a4:=fun a4=>Kr bM hw aj hq oD an cP hR a4 [] r rfl (by simp)
 have M4:c5 hp (some r) (ws++[b])=some q:=by rw [mH,hw,h8 aj,hq,m9]
 refine⟨⟨fun a4 x h=>?_,fun a4 cs x aa ae=>?_,fun a4 x h=>?_⟩,a2,fun a4=>?_⟩
 ·rw [a2] at h
  split at h
  ·cases h
  obtain⟨j4,aa⟩:=bM.reads a4 x h
  by_cases e:x=p
  ·subst e;exact⟨_,cP⟩
  exact⟨j4,by rw [hR x e];exact aa⟩
 ·rw [a2] at aa ae
  split at aa <;> split at ae
  ·cases aa
  ·cases aa
  ·cases ae
  exact bM.inj a4 cs x aa ae
 ·rw [a2] at h
  split at h
  ·cases h
  exact bM.dep a4 x h
 by_cases e:a4=ws++[b]
 ·subst e
  rw [k7 (by rw [a2,if_pos rfl]),kK M4 oD,hu];rfl
 have yi:c5 hp' (some r) a4=c5 hp (some r) a4:=by rw [a2,if_neg e]
 cases h:c5 hp (some r) a4 with
 | none=>rw [k7 h,k7 (yi.trans h)]
 | some x=>
   obtain⟨j4,aa⟩:=bM.reads a4 x h
   by_cases eq:x=p
   ·subst eq
    rw [aj] at aa;cases aa
    rw [kK h aj,kK (yi.trans h) cP]
   rw [kK h aa,kK (yi.trans h) (by rw [hR x eq];exact aa)]
end Go.Proofs.YthkfkliknjiecaaGreat
