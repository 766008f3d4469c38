/-
  What the programs compute, in plain Lean. Conditions: none.
-/
import Derived.Test.YtppgfphgdogpeaaGreatMp0
import Derived.Test.YtppgfphgdogpeaaGreatMl2
set_option linter.unusedVariables false
set_option linter.unusedSimpArgs false
set_option maxRecDepth 100000
namespace Go.Proofs.YtppgfphgdogpeaaGreat
open Go Gv
structure l0 {α:Type}(f:α→α→Int):Prop where
 neg:∀ x y,f x y<0↔0<f y x
 nh:∀ x y z,f x y≤0→f y z≤0→f x z≤0
theorem l0.self {α:Type}{f:α→α→Int}(h:l0 f)(x:α):f x x=0:=by have:=h.neg x x;omega
theorem l0.on {α β:Type}{f:β→β→Int}(h:l0 f)(g:α→β):l0 (fun x y=>f (g x) (g y)):=⟨fun x y=>h.neg _ _,fun x y z=>h.nh _ _ _⟩
theorem l0.rev {α:Type}{f:α→α→Int}(h:l0 f):l0 (fun x y=>f y x):=⟨fun x y=>h.neg y x,fun x y z h1 ab=>h.nh z y x ab h1⟩
def jr {α:Type}(f g:α→α→Int)(x y:α):Int:=if f x y=0 then g x y else f x y
theorem uM {α:Type}{f g:α→α→Int}{x y:α}(h:jr f g x y=0):f x y=0∧g x y=0:=by
 unfold jr at h;split at h
 ·rename_i e;exact⟨e,h⟩
 rename_i e;exact absurd h e
theorem l0.jr {α:Type}{f g:α→α→Int}(h:l0 f)(k:l0 g):l0 (Go.Proofs.YtppgfphgdogpeaaGreat.jr f g) where
 neg x y:=by
  unfold Go.Proofs.YtppgfphgdogpeaaGreat.jr;have h1:=h.neg x y;have ab:=h.neg y x;by_cases e:f x y=0
  ·rw [if_pos e,if_pos (by omega)];exact k.neg x y
  rw [if_neg e,if_neg (by omega)];exact h1
 nh x y z:=by
  unfold Go.Proofs.YtppgfphgdogpeaaGreat.jr;intro h1 ab;have bT:f x y≤0:=by by_cases e:f x y=0 <;> simp [e] at h1 <;> omega
  have a2:f y z≤0:=by by_cases e:f y z=0 <;> simp [e] at ab <;> omega
  have a3:=h.nh x y z bT a2;by_cases e:f x z=0
  ·have xN:f z x≤0:=by have:=h.neg x z;have:=h.neg z x;omega
   have dJ:=h.nh z x y xN bT;have ew:=h.nh y z x a2 xN;have c1:f y z=0:=by have:=h.neg y z;omega
   have c2:f x y=0:=by have:=h.neg x y;omega
   rw [if_pos c2] at h1;rw [if_pos c1] at ab;rw [if_pos e];exact k.nh x y z h1 ab
  rw [if_neg e];exact a3
theorem Fh {x y:Int} :ey x y<0↔x<y:=by unfold ey;split <;> (try split) <;> omega
theorem B3 {x y:Int} :0<ey x y↔y<x:=by unfold ey;split <;> (try split) <;> omega
theorem ku {x y:Int} :ey x y=0↔x=y:=by unfold ey;split <;> (try split) <;> omega
theorem rU:l0 ey:=⟨fun x y=>by rw [Fh,B3],fun x y z h1 ab=>by
 have a:= @B3 x y;have b:= @B3 y z;have c:= @B3 x z;omega⟩
def lc {α:Type}(g:α→α→Int):List α→List α→Int
 | [],[]=>0
 | [],_::_=> -1
 | _::_,[]=>1
 | a::r,b::t=>if g a b=0 then lc g r t else g a b
theorem UC {α:Type}{g:α→α→Int}(h:l0 g):∀ (x y:List α),lc g x y<0↔0<lc g y x
 | [],[]=>by simp [lc]
 | [],_::_=>by simp [lc]
 | _::_,[]=>by simp [lc]
 | a::r,b::t=>by
   have h1:=h.neg a b;have ab:=h.neg b a;unfold lc;by_cases e:g a b=0
   ·rw [if_pos e,if_pos (by omega)];exact UC h r t
   rw [if_neg e,if_neg (by omega)];exact h1
theorem Wd {α:Type}{g:α→α→Int}(h:l0 g):∀ (x y z:List α),lc g x y≤0→lc g y z≤0→lc g x z≤0
 | [],_,[],_,_=>by simp [lc]
 | [],_,_::_,_,_=>by simp [lc]
 | _::_,[],_,h1,_=>by simp [lc] at h1
 | _::_,_::_,[],_,ab=>by simp [lc] at ab
 | a::r,b::t,c::u,h1,ab=>by
   unfold lc at h1 ab ⊢;have bT:g a b≤0:=by by_cases e:g a b=0 <;> simp [e] at h1 <;> omega
   have a2:g b c≤0:=by by_cases e:g b c=0 <;> simp [e] at ab <;> omega
   have a3:=h.nh a b c bT a2;by_cases e:g a c=0
   ·have xN:g c a≤0:=by have:=h.neg a c;have:=h.neg c a;omega
    have dJ:=h.nh c a b xN bT;have ew:=h.nh b c a a2 xN;have c1:g b c=0:=by have:=h.neg b c;omega
    have c2:g a b=0:=by have:=h.neg a b;omega
    rw [if_pos c2] at h1;rw [if_pos c1] at ab;rw [if_pos e];exact Wd h r t u h1 ab
   rw [if_neg e];exact a3
theorem N4 {α:Type}{g:α→α→Int}(h:l0 g):l0 (lc g):=⟨UC h,Wd h⟩
theorem Mu {α:Type}{g:α→α→Int}(h:∀ a b,g a b=0→a=b):∀ {x y:List α},lc g x y=0→x=y
 | [],[],_=>rfl
 | [],_::_,e=>by simp [lc] at e
 | _::_,[],e=>by simp [lc] at e
 | a::r,b::t,e=>by
   unfold lc at e;split at e
   ·rename_i ar;rw [h a b ar,Mu h e]
   rename_i ar;exact absurd e ar
def fW (v:aX):Int:=((v.ed.toNat * 18446744073709551616+v.cO.toNat:Nat):Int)
theorem yZ {x y:aX}(h:fW x=fW y):x=y:=by
 obtain⟨a,b⟩:=x;obtain⟨c,d⟩:=y;unfold fW at h;simp only at h;first
 | (have h1:=a.isLt;have ab:=b.isLt;have ax:=c.isLt;have aO:=d.isLt
    have ar:a=c:=BitVec.eq_of_toNat_eq (by omega)
    have aU:b=d:=BitVec.eq_of_toNat_eq (by omega)
    rw [ar,aU])
theorem Mv (x y:aX):tv x y=some (ey (fW x) (fW y)):=by
 unfold tv;by_cases e:x=y
 ·subst e;simp only [decide_true,cond_true];rw [ku.2 rfl]
 simp only [e,decide_false,cond_false,Option.bind_some];have de:fW x≠fW y:=fun h=>e (yZ h);have cj:((decide (x.ed<y.ed))||((x.ed==y.ed)&&(decide (x.cO<y.cO))))=decide (fW x<fW y):=by
  rw [Bool.eq_iff_iff];simp only [Bool.or_eq_true,Bool.and_eq_true,decide_eq_true_eq,beq_iff_eq,BitVec.lt_def];unfold fW;have h1:=x.ed.isLt;have ab:=x.cO.isLt;have ax:=y.ed.isLt;have aO:=y.cO.isLt;constructor
  ·rintro (h | ⟨h,cL⟩)
   ·omega
   rw [h];omega
  intro h;by_cases bQ:x.ed.toNat<y.ed.toNat
  ·exact .inl bQ
  have:x.ed.toNat=y.ed.toNat:=by omega
  exact .inr ⟨BitVec.eq_of_toNat_eq this,by omega⟩
 rw [cj];unfold ey;by_cases bb:fW x<fW y
 ·simp [bb]
 rw [decide_eq_false bb,if_neg bb,if_pos (by omega)];rfl
def kj:List Int→Int
 | []=>0
 | a::r=>if a=0 then kj r else a
theorem Ss {l:List Int}(ak:l.length≤1000):uE l=some (kj l):=by
 refine bd.get ?_;unfold uE;refine .bind (P:=fun e=>(∃ q,e= .inl q∧kj l=0)∨ ∃ q:Int×Int×Int×Bool×Bool,e= .inr q∧q.1=kj l)
  (bd.jl l.length (fun j st=>st=(j:Int)∧kj l=kj (l.drop j)) (by omega) ⟨rfl,rfl⟩ (fun j st aB hs=>?_) (fun st hs=>?_)) fun e he=>?_
 ·obtain⟨rfl,hs⟩:=hs;rw [List.drop_eq_getElem_cons aB] at hs;have hs:kj l=if l[j]=0 then kj (l.drop (j+1)) else l[j]:=hs;refine .cond (fun _=>.idx rfl aB ?_) fun ad=>by simp at ad;omega
  rw [dm _ aB];refine .cond (fun ad=>.ret (.inr ⟨_,rfl,?_⟩)) fun ad=>.ret ⟨dR (by omega),?_⟩
  ·have:l[j]≠0:=by simpa using ad
   rw [hs,if_neg this]
  have:l[j]=0:=by simpa using ad
  rw [hs,if_pos this]
 ·obtain⟨rfl,hs⟩:=hs;refine .cond (fun ad=>by simp at ad) fun _=>.ret (.inl ⟨_,rfl,?_⟩);rw [hs,List.drop_length];rfl
 rcases he with⟨q,rfl,hq⟩ | ⟨q,rfl,hq⟩
 ·simp only [Sum.elim_inl];exact .ret hq.symm
 simp only [Sum.elim_inr];exact .ret hq
theorem ZV {g:cx→cx→Int}{f:cx→cx→Option Int}(aT:∀ a b,f a b=some (g a b)){xs ys:List cx}(al:xs.length≤100000)(aR:ys.length≤100000):CV xs ys f=some (lc g xs ys):=by
 refine bd.get ?_;unfold CV;refine .bind (P:=fun e=>(∃ q,e= .inl q∧lc g xs ys=if xs.length<ys.length then -1 else 0)∨ ∃ q:Int×Int×Int×Bool×Bool,e= .inr q∧q.1=lc g xs ys)
  (bd.jl xs.length (fun j st=>st=(j:Int)∧j≤ys.length∧lc g xs ys=lc g (xs.drop j) (ys.drop j)) (by omega) ⟨rfl,by omega,rfl⟩ (fun j st aB hs=>?_) (fun st hs=>?_)) fun e he=>?_
 ·obtain⟨rfl,zW,hs⟩:=hs;refine .cond (fun _=>.idx rfl aB (.cond (fun ad=>.ret (.inr ⟨_,rfl,?_⟩)) fun ad=>?_)) fun ad=>by simp at ad;omega
  ·have ad:ys.length≤j:=by simpa using ad
   rw [hs,List.drop_eq_getElem_cons aB,List.drop_eq_nil_of_le ad];rfl
  have cj:j<ys.length:=by simpa using ad
  rw [List.drop_eq_getElem_cons aB,List.drop_eq_getElem_cons cj] at hs;refine .idx rfl cj (.eq (aT _ _) ?_);rw [dm _ aB,dm _ cj];have hs:lc g xs ys=if g xs[j] ys[j]=0 then lc g (xs.drop (j+1)) (ys.drop (j+1)) else g xs[j] ys[j]:=hs;refine .cond (fun ad=>.ret (.inr ⟨_,rfl,?_⟩)) fun ad=>.ret ⟨dR (by omega),cj,?_⟩
  ·have:g xs[j] ys[j]≠0:=by simpa using ad
   rw [hs,if_neg this]
  have:g xs[j] ys[j]=0:=by simpa using ad
  rw [hs,if_pos this]
 ·obtain⟨rfl,zW,hs⟩:=hs;refine .cond (fun ad=>by simp at ad) fun _=>.ret (.inl ⟨_,rfl,?_⟩);rw [hs,List.drop_length];cases hd:ys.drop xs.length with
  | nil=>
    have:=List.drop_eq_nil_iff.1 hd
    rw [if_neg (by omega)];rfl
  | cons z o5=>
    have:ys.length - xs.length=o5.length+1:=by rw [← List.length_drop,hd];rfl
    rw [if_pos (by omega)];rfl
 rcases he with⟨q,rfl,hq⟩ | ⟨q,rfl,hq⟩
 ·simp only [Sum.elim_inl];refine .cond (fun ad=>.ret ?_) fun ad=>.ret ?_
  ·rw [hq,if_pos (by simpa using ad)]
  rw [hq,if_neg (by simpa using ad)]
 simp only [Sum.elim_inr];exact .ret hq
theorem ZW {g:aX→aX→Int}{f:aX→aX→Option Int}(aT:∀ a b,f a b=some (g a b)){xs ys:List aX}(al:xs.length≤100000)(aR:ys.length≤100000):CW xs ys f=some (lc g xs ys):=by
 refine bd.get ?_;unfold CW;refine .bind (P:=fun e=>(∃ q,e= .inl q∧lc g xs ys=if xs.length<ys.length then -1 else 0)∨ ∃ q:Int×Int×Int×Bool×Bool,e= .inr q∧q.1=lc g xs ys)
  (bd.jl xs.length (fun j st=>st=(j:Int)∧j≤ys.length∧lc g xs ys=lc g (xs.drop j) (ys.drop j)) (by omega) ⟨rfl,by omega,rfl⟩ (fun j st aB hs=>?_) (fun st hs=>?_)) fun e he=>?_
 ·obtain⟨rfl,zW,hs⟩:=hs;refine .cond (fun _=>.idx rfl aB (.cond (fun ad=>.ret (.inr ⟨_,rfl,?_⟩)) fun ad=>?_)) fun ad=>by simp at ad;omega
  ·have ad:ys.length≤j:=by simpa using ad
   rw [hs,List.drop_eq_getElem_cons aB,List.drop_eq_nil_of_le ad];rfl
  have cj:j<ys.length:=by simpa using ad
  rw [List.drop_eq_getElem_cons aB,List.drop_eq_getElem_cons cj] at hs;refine .idx rfl cj (.eq (aT _ _) ?_);rw [dm _ aB,dm _ cj];have hs:lc g xs ys=if g xs[j] ys[j]=0 then lc g (xs.drop (j+1)) (ys.drop (j+1)) else g xs[j] ys[j]:=hs;refine .cond (fun ad=>.ret (.inr ⟨_,rfl,?_⟩)) fun ad=>.ret ⟨dR (by omega),cj,?_⟩
  ·have:g xs[j] ys[j]≠0:=by simpa using ad
   rw [hs,if_neg this]
  have:g xs[j] ys[j]=0:=by simpa using ad
  rw [hs,if_pos this]
 ·obtain⟨rfl,zW,hs⟩:=hs;refine .cond (fun ad=>by simp at ad) fun _=>.ret (.inl ⟨_,rfl,?_⟩);rw [hs,List.drop_length];cases hd:ys.drop xs.length with
  | nil=>
    have:=List.drop_eq_nil_iff.1 hd
    rw [if_neg (by omega)];rfl
  | cons z o5=>
    have:ys.length - xs.length=o5.length+1:=by rw [← List.length_drop,hd];rfl
    rw [if_pos (by omega)];rfl
 rcases he with⟨q,rfl,hq⟩ | ⟨q,rfl,hq⟩
 ·simp only [Sum.elim_inl];refine .cond (fun ad=>.ret ?_) fun ad=>.ret ?_
  ·rw [hq,if_pos (by simpa using ad)]
  rw [hq,if_neg (by simpa using ad)]
 simp only [Sum.elim_inr];exact .ret hq
def mH (m:cx):Int:=if m.gC=true then 1 else 0
theorem agp (m:cx):AY m=some (mH m):=by
 unfold AY mH;cases m.gC <;> rfl
def o7:cx→cx→Int:=jr (fun x y=>ey (mH x) (mH y)) (jr (fun x y=>ey (fW x.ck) (fW y.ck)) (jr (fun x y=>ey (fW x.hN) (fW y.hN)) (jr (fun x y=>ey x.fZ y.fZ) (fun x y=>ey (fW x.n2) (fW y.n2)))))
theorem N5:l0 o7:=(rU.on mH).jr ((rU.on fun x:cx=>fW x.ck).jr ((rU.on fun x:cx=>fW x.hN).jr ((rU.on fun x:cx=>x.fZ).jr (rU.on fun x:cx=>fW x.n2))))
theorem T2 {x y:cx}(h:o7 x y=0):x=y:=by
 obtain⟨h1,h⟩:=uM h;obtain⟨ab,h⟩:=uM h;obtain⟨ax,h⟩:=uM h;obtain⟨aO,a7⟩:=uM h;refine Mp ?_ (yZ (ku.1 ab)) (yZ (ku.1 ax)) (ku.1 aO) (yZ (ku.1 a7));have:=ku.1 h1;unfold mH at this;cases al:x.gC <;> cases aR:y.gC <;> simp [al,aR] at this <;> rfl
theorem Xu (a b c d e:Int):kj [a,b,c,d,e]=if a=0 then(if b=0 then(if c=0 then(if d=0 then e else d) else c) else b) else a:=by
 have:(if e=0 then 0 else e)=e:=by split <;> omega
 show(if a=0 then(if b=0 then(if c=0 then(if d=0 then(if e=0 then 0 else e) else d) else c) else b) else a)=_;rw [this]
theorem abS (x y:cx):DB x y=some (o7 x y):=by
 unfold DB;by_cases e:x=y
 ·subst e;simp only [decide_true,cond_true];rw [N5.self]
 simp only [e,decide_false,cond_false,agp,u3,Mv,Option.bind_some];rw [Ss (by simp),Xu];rfl
def tr:bh→bh→Int:=jr (fun x y=>ey x.bB y.bB) (jr (fun x y=>ey y.gJ x.gJ) (jr (fun x y=>lc o7 x.cw y.cw) (jr (fun x y=>ey x.en y.en) (fun x y=>lc (fun v w=>ey (fW v) (fW w)) x.fq y.fq))))
theorem aiU:l0 tr:=(rU.on fun x:bh=>x.bB).jr ((rU.on fun x:bh=>x.gJ).rev.jr (((N4 N5).on fun x:bh=>x.cw).jr ((rU.on fun x:bh=>x.en).jr ((N4 (rU.on fW)).on fun x:bh=>x.fq))))
theorem We {x y:bh}(h:tr x y=0):fc x y=true:=by
 obtain⟨h1,h⟩:=uM h;obtain⟨ab,h⟩:=uM h;obtain⟨ax,h⟩:=uM h;exact rJ.2 ⟨ku.1 h1,Mu (fun a b=>T2) ax,(ku.1 ab).symm⟩
theorem afk {x y:bh}(h1:x.cw.length≤1000)(ab:y.cw.length≤1000)(ax:x.fq.length≤1000)(aO:y.fq.length≤1000):Ec x y=some (tr x y):=by
 unfold Ec;rw [u3,u3,u3,ZV abS (by omega) (by omega),ZW Mv (by omega) (by omega)];simp only [Option.bind_some];rw [Ss (by simp),Xu];rfl
theorem ac6 {α:Type}[Inhabited α]{xs:List α}{k:Nat}{v:α}(hk:k<xs.length)(i:Nat):au (hD xs k v) i=if i=k then v else au xs i:=by
 unfold au hD;by_cases e:i=k
 ·subst e;rw [if_pos rfl];simp [hk]
 rw [if_neg e];simp [List.getElem?_set_ne (Ne.symm e)]
theorem LX {c:aC→aC→Int}(ad:l0 c):∀ {xs ys:List aC},xs.Perm ys→xs.Pairwise (fun a b=>c a b≤0)→ys.Pairwise (fun a b=>c a b≤0)→ (∀ a∈xs,∀ b∈xs,c a b=0→a=b)→xs=ys
 | [],ys,h,_,_,_=>h.nil_eq
 | x::r,[],h,_,_,_=>by have:=h.length_eq;simp at this
 | x::r,y::t,h,h1,ab,ax=>by
   obtain⟨bT,a2⟩:=List.pairwise_cons.1 h1;obtain⟨dJ,ew⟩:=List.pairwise_cons.1 ab;have e:x=y:=by
    have al:x∈y::t:=h.mem_iff.1 List.mem_cons_self;have aR:y∈x::r:=h.mem_iff.2 List.mem_cons_self;rcases List.mem_cons.1 al with e | al
    ·exact e
    rcases List.mem_cons.1 aR with e | re
    ·exact e.symm
    refine ax x List.mem_cons_self y aR ?_;have g1:=bT y re;have g2:=dJ x al;have:=ad.neg x y;omega
   subst e;rw [LX ad (List.perm_cons x |>.1 h) a2 ew fun a aW b hb=>ax a (List.mem_cons_of_mem _ aW) b (List.mem_cons_of_mem _ hb)]
theorem _root_.Gv.cy.next {β:Type}{n:Nat}{vis:List Nat}{k:Option Nat→ag β}{P:β→Prop}(h:∀ j,z8 n vis j→cy (k j) P):cy (ag.bind (ag.next n vis) k) P:=fun Q hq j aB=>h j aB Q hq
theorem _root_.Gv.cy.u4 {T:Type}{xs:List T}{F:T→T→Option Int}{c:T→T→Int}(ad:xG c)(ak:xs.length<4611686018427387904)(mm:∀ a∈xs,∀ b∈xs,F a b=some (c a b)):cy (ag.u4 xs F) (fun r=>r.Perm xs∧r.Pairwise (fun a b=>c a b≤0)):=fun Q hq=>⟨c,ad,ak,mm,fun ys h1 ab=>hq ys ⟨h1,ab⟩⟩
structure Met (n:Nat)(vis:List Nat):Prop where
 one:vis.Nodup
 lt:∀ q∈vis,q<n
theorem Met.more {n:Nat}{vis:List Nat}{q:Nat}(h:Met n vis)(hq:q<n∧q ∉ vis):Met n (vis++[q]):=
 ⟨by rw [List.nodup_append];exact⟨h.one,by simp,fun a aW b hb e=>by rw [List.mem_singleton.1 hb] at e;exact hq.2 (e ▸ aW)⟩,fun a aW=>by
  rcases List.mem_append.1 aW with aW | aW
  ·exact h.lt a aW
  rw [List.mem_singleton.1 aW];exact hq.1⟩
theorem Met.perm {n:Nat}{vis:List Nat}(h:Met n vis)(aW:∀ j,j<n→j∈vis):vis.Perm (List.range n):=
 (List.perm_ext_iff_of_nodup h.one List.nodup_range).2 fun a=>⟨fun h1=>List.mem_range.2 (h.lt a h1),fun h1=>aW a (List.mem_range.1 h1)⟩
theorem Met.full {n:Nat}{vis:List Nat}(h:Met n vis)(ak:vis.length=n){q:Nat}(hq:q<n):q∈vis:=by
 false_or_by_contra;rename_i fx;have h1:vis.Perm ((List.range n).filter fun x=>decide (x∈vis)):=(List.perm_ext_iff_of_nodup h.one (List.nodup_range.filter _)).2 fun a=>by
  rw [List.mem_filter,List.mem_range,decide_eq_true_eq];exact⟨fun h1=>⟨h.lt a h1,h1⟩,fun h1=>h1.2⟩
 have ab:=h1.length_eq;have ax:((List.range n).filter fun x=>decide (x∈vis)).length<(List.range n).length:=List.length_filter_lt_length_iff_exists.2 ⟨q,List.mem_range.2 hq,by simpa using fx⟩;rw [List.length_range] at ax;omega
theorem St {α:Type}[Inhabited α](l:List α):(List.range l.length).map (fun q=>au l q)=l:=by
 apply List.ext_getElem
 ·simp
 intro i h1 ab;simp only [List.getElem_map,List.getElem_range];rw [dm _ ab]
def lW (a c:aC):Int:=tr a.aY c.aY
theorem BM:l0 lW:=aiU.on fun i:aC=>i.aY
theorem aiV {s:aZ}(h:cr s){k:Nat}(hk:k<4){hp:aG Cell}{p:Nat}{l:List aC}{own:Nat→Prop}(al:lu s k hp p l own)(hlen:l.length≤900):
 cy (yh hp (some p)) (fun r=>r.2=hp∧r.1.Perm l∧r.1.Pairwise (fun a b=>lW a b≤0)):=by
 obtain⟨f,m,em,h1,ab,ax,aO,a7,bl⟩:=al.cell
 have ak:=al.fY.ok
 have s7:em.length=l.length:=by rw [a7.length_eq,List.length_map]
 have Cg:∀ q,q<em.length→ (au em q).2∈l:=fun q hq=>by
  have hm:au em q∈em:=by rw [dm _ hq];exact List.getElem_mem _
  obtain⟨i,ao,e⟩:=List.mem_map.1 (a7.mem_iff.1 hm);rw [← e];exact ao
 have xe:∀ vis,Met em.length vis→ (∀ j,j<em.length→j∈vis)→ (vis.map fun q=>(au em q).2).Perm l:=fun vis bb aW=>by
  refine((bb.perm aW).map _).trans ?_;have:(List.range em.length).map (fun q=>(au em q).2)=em.map (·.2):=by
   rw [show(List.range em.length).map (fun q=>(au em q).2)=((List.range em.length).map (fun q=>au em q)).map (·.2) by rw [List.map_map];rfl,St]
  rw [this];refine(a7.map (·.2)).trans ?_;rw [List.map_map,show((fun x:Int×aC=>x.2) ∘ fun i:aC=>(i.b0,i))=id from rfl,List.map_id]
 unfold yh
 refine .cond (fun ad=>by cases ad) fun _=>.eq rfl (.eq h1 (.eq rfl (.eq ab ?_)))
 refine .bind (P:=fun e=>e.2.2.Perm l) (cy.loop em.length (fun j st=> ∃ vis,st=(vis,vis.map fun q=>(au em q).2)∧vis.length=j∧Met em.length vis) (by omega) ⟨[],rfl,rfl,.nil,by simp⟩ (fun j st aB hs=>?_) (fun st hs=>?_)) fun e he=>?_
 ·obtain⟨vis,rfl,r7,bb⟩:=hs
  refine .next fun o bg=>?_
  cases o with
  | none=>exact .cond (fun ad=>by cases ad) fun _=>.ret (xe vis bb bg)
  | some q=>
    refine .cond (fun _=>.eq rfl (.eq (E1 h hk (ak.ok _ (Cg q bg.1))) (.eq (fM _ _ (by simp;omega) (by omega)) (.ret ⟨vis++[q],?_,by simp [r7],bb.more bg⟩)))) fun ad=>by cases ad
    rw [List.map_append];rfl
 ·obtain⟨vis,rfl,r7,bb⟩:=hs
  refine .next fun o bg=>?_
  cases o with
  | none=>exact .cond (fun ad=>by cases ad) fun _=>.ret (xe vis bb bg)
  | some q=>exact absurd (bb.full r7 bg.1) bg.2
 have pS:∀ a∈e.2.2,a.aY.cw.length≤1000∧a.aY.fq.length≤1000:=fun a aW=>(ak.ok a (he.mem_iff.1 aW)).small h hk
 have hle:=he.length_eq
 refine .bind (cy.u4 (c:=lW) ⟨BM.neg,BM.nh⟩ (by omega) fun a aW b hb=>?_) fun bf aR=>.ret ⟨rfl,aR.1.trans he,aR.2⟩
 unfold Hu
 rw [afk (pS a aW).1 (pS b hb).1 (pS a aW).2 (pS b hb).2]
 rfl
theorem ad0 {s:aZ}{k:Nat}{l l' r k7:List aC}(ak:h5 s k l)(hp:l.Perm l')(h1:r.Perm l)(ab:k7.Perm l')(s1:r.Pairwise (fun a b=>lW a b≤0))(s2:k7.Pairwise (fun a b=>lW a b≤0)):r=k7:=
 LX BM (h1.trans (hp.trans ab.symm)) s1 s2 fun a aW b hb e=>ak.uniq (h1.mem_iff.1 aW) (h1.mem_iff.1 hb) (We e)
def sO (ls:Nat→List aC)(x:Nat)(r:List aC):Prop:=if x=0 then r= [] else r.Perm (ls (x - 1))∧r.Pairwise (fun a b=>lW a b≤0)
theorem Td {s:aZ}(hs:cr s){hp:aG Cell}{p:Nat}{ls:Nat→List aC}{next:Int}(h:q1 s hp p ls next){x:Nat}(al:x≤4)(ak:∀ k,k<4→ (ls k).length≤12):
 cy (uB hp (some p) (x:Int)) (fun r=>r.2=hp∧sO ls x r.1):=by
 unfold uB
 by_cases e:x=0
 ·subst e
  refine .eq (Im h (by omega)) ?_
  unfold yh
  exact .bind (P:=fun r=>r=([],hp)) (.cond (fun _=>.ret rfl) fun ad=>by cases ad) fun r aA=>.ret (by rw [aA];exact⟨rfl,by unfold sO;rw [if_pos rfl]⟩)
 obtain⟨k,rfl⟩:∃ k,x=k+1:=⟨x - 1,by omega⟩
 obtain⟨q,own,h1,ab⟩:=LW h (show k<4 by omega)
 rw [show((k+1:Nat):Int)=(k:Int)+1 by omega]
 refine .eq h1 (.bind (aiV hs (show k<4 by omega) ab (Nat.le_trans (ak k (by omega)) (by omega))) fun r aA=>.ret ⟨aA.1,?_⟩)
 unfold sO;rw [if_neg e];exact aA.2
theorem q1.fY {s:aZ}{hp:aG Cell}{p:Nat}{ls:Nat→List aC}{next:Int}(h:q1 s hp p ls next){k:Nat}(hk:k<4):h5 s k (ls k):=by
 obtain⟨q,own,_,ab⟩:=LW h hk;exact ab.fY
theorem sO.same {s:aZ}(hs:cr s){hp:aG Cell}{p:Nat}{ls:Nat→List aC}{next:Int}(h:q1 s hp p ls next){x:Nat}(al:x≤4){a c:List aC}(aW:sO ls x a)(ad:sO ls x c):a=c∧yl a a=some true:=by
 unfold sO at aW ad;by_cases e:x=0
 ·rw [if_pos e] at aW ad;rw [aW,ad];exact⟨rfl,HQ (fun i ao=>by cases ao) (by simp)⟩
 rw [if_neg e] at aW ad;have jq:=h.fY (show x - 1<4 by omega);refine⟨ad0 jq (.refl _) aW.1 ad.1 aW.2 ad.2,HQ (fun i ao=>(jq.ok.ok i (aW.1.mem_iff.1 ao)).small hs (by omega)) ?_⟩;have:=aW.1.length_eq;have:=jq.ok.len;omega
theorem LG {ls:Nat→List aC}{k:Nat} :eO ls k (ls k)=ls:=by
 funext j;unfold eO;split
 ·rename_i e;rw [e]
 rfl
def kH (r c:Int):Prop:=(r<0↔c<0)∧ (0<r↔0<c)
theorem kH.zero {r c:Int}(h:kH r c):r=0↔c=0:=by
 obtain⟨h1,ab⟩:=h;constructor
 ·intro e;have a: ¬ c<0:=fun x=>by have:=h1.2 x;omega
  have b: ¬ 0<c:=fun x=>by have:=ab.2 x;omega
  omega
 intro e;have a: ¬ r<0:=fun x=>by have:=h1.1 x;omega
 have b: ¬ 0<r:=fun x=>by have:=ab.1 x;omega
 omega
theorem kH.refl (r:Int):kH r r:=⟨Iff.rfl,Iff.rfl⟩
theorem I1 {α:Type}{f g:α→α→Int}{x y:α}(h:f x y=0):jr f g x y=g x y:=by unfold jr;rw [if_pos h]
theorem I2 {α:Type}{f g:α→α→Int}{x y:α}(h:f x y≠0):jr f g x y=f x y:=by unfold jr;rw [if_neg h]
theorem agq {a b:aX} :sd a b=true↔fW a<fW b:=by
 rw [Mn];simp only [BitVec.lt_def];unfold fW;have h1:=a.ed.isLt;have ab:=a.cO.isLt;have ax:=b.ed.isLt;have aO:=b.cO.isLt;constructor
 ·rintro (h | ⟨h,cL⟩)
  ·omega
  rw [h];omega
 intro h;by_cases bQ:a.ed.toNat<b.ed.toNat
 ·exact .inl bQ
 have:a.ed.toNat=b.ed.toNat:=by omega
 exact .inr ⟨BitVec.eq_of_toNat_eq this,by omega⟩
theorem EP (a b:aX):bd (rv a b) (fun r=>kH r (ey (fW a) (fW b))):=by
 refine(RF a b).mono fun r aA=>?_;obtain⟨h1,ab⟩:=aA;rw [agq] at h1 ab;exact⟨by rw [Fh];exact ab,by rw [B3];exact h1⟩
theorem ER (a b:Int):qK a b=some (ey a b):=by
 unfold qK ey;by_cases h:a<b
 ·simp [h]
 by_cases ab:b<a
 ·simp [h,ab]
 simp [h,ab]
theorem ac7 (x y:cx):bd (yp x y) (fun r=>kH r (o7 x y)):=by
 unfold yp o7;by_cases hK:x.gC=y.gC
 ·have z0:ey (mH x) (mH y)=0:=ku.2 (by unfold mH;rw [hK]);rw [show(x.gC !=y.gC)=false by simp [hK]];refine .cond (fun ad=>by simp at ad) fun _=>.cond (fun ad=>by cases ad) fun _=>?_;rw [I1 (f:=fun x y=>ey (mH x) (mH y)) z0];refine .cond (fun ad=>(EP _ _).bind fun r aA=>.ret ?_) fun ad=>?_
  ·rw [I2]
   ·exact aA
   intro h;have:=yZ (ku.1 h);simp [this] at ad
  have ar:x.ck=y.ck:=by simpa using ad
  rw [I1 (f:=fun x y:cx=>ey (fW x.ck) (fW y.ck)) (show ey (fW x.ck) (fW y.ck)=0 by rw [ar];exact ku.2 rfl)];refine .cond (fun ad=>(EP _ _).bind fun r aA=>.ret ?_) fun ad=>?_
  ·rw [I2]
   ·exact aA
   intro h;have:=yZ (ku.1 h);simp [this] at ad
  have aU:x.hN=y.hN:=by simpa using ad
  rw [I1 (f:=fun x y:cx=>ey (fW x.hN) (fW y.hN)) (show ey (fW x.hN) (fW y.hN)=0 by rw [aU];exact ku.2 rfl)];refine .cond (fun ad=>.eq (ER _ _) (.ret ?_)) fun ad=>?_
  ·rw [I2]
   ·exact kH.refl _
   intro h;have:=ku.1 h;simp [this] at ad
  have cz:x.fZ=y.fZ:=by simpa using ad
  rw [I1 (f:=fun x y:cx=>ey x.fZ y.fZ) (show ey x.fZ y.fZ=0 by rw [cz];exact ku.2 rfl)];exact(EP _ _).bind fun r aA=>.ret aA
 rw [show(x.gC !=y.gC)=true by simp [hK]];have hs:ey (mH x) (mH y)=if y.gC=true then -1 else 1:=by
  unfold mH ey;cases al:x.gC <;> cases aR:y.gC <;> simp_all
 have de:ey (mH x) (mH y)≠0:=by rw [hs];split <;> decide
 rw [I2 (f:=fun x y=>ey (mH x) (mH y)) de];show bd _ (fun r=>kH r (ey (mH x) (mH y)));rw [hs];refine .cond (fun ad=>.ret ?_) fun ad=>.cond (fun _=>.ret ?_) fun ad=>by cases ad
 ·rw [if_pos (by simpa using ad)];exact kH.refl _
 rw [if_neg (by simpa using ad)];exact kH.refl _
theorem T3 {α:Type}[Inhabited α]{g:α→α→Int}{f:α→α→Option Int}(aT:∀ a b,bd (f a b) (fun r=>kH r (g a b))){xs ys:List α}(al:xs.length≤100000)(aR:ys.length≤100000):
 bd ((dx (σ:=Int) (ε:=(Int×Bool) ⊕ (Int×Int×Int×Bool×Bool)) dt (fun s1=>
 cond ((decide (s1<(xs.length:Int)))&&(decide (s1<(ys.length:Int)))) (
  (idx xs.length s1).bind fun aL=>
  (idx ys.length s1).bind fun bz=>
  (f (au xs aL) (au ys bz)).bind fun an=>
  cond (an !=0) (
   some (.inr (Sum.inr (an,s1,an,(decide (s1<(xs.length:Int)))&&(decide (s1<(ys.length:Int))),an !=0)))) (
   some (.inl (bk (s1+1))))) (
  some (.inr (Sum.inl (s1,(decide (s1<(xs.length:Int)))&&(decide (s1<(ys.length:Int)))))))) 0).bind fun ar=>
 Sum.elim (fun ar=>
  (qK (xs.length:Int) (ys.length:Int)).bind fun aD=>
  some aD) (fun ar=>
 some ar.1) ar) (fun r=>kH r (lc g xs ys)):=by
 refine .bind (P:=fun e=>(∃ q,e= .inl q∧lc g xs ys=ey (xs.length:Int) (ys.length:Int))∨ ∃ q:Int×Int×Int×Bool×Bool,e= .inr q∧kH q.1 (lc g xs ys))
  (bd.jl (min xs.length ys.length) (fun j st=>st=(j:Int)∧lc g xs ys=lc g (xs.drop j) (ys.drop j)) (by omega) ⟨rfl,rfl⟩ (fun j st aB hs=>?_) (fun st hs=>?_)) fun e he=>?_
 ·obtain⟨rfl,hs⟩:=hs
  have PR:j<xs.length:=by omega
  have zW:j<ys.length:=by omega
  refine .cond (fun _=>?_) fun ad=>by
   rw [decide_eq_true (show(j:Int)<(xs.length:Int) by omega),decide_eq_true (show(j:Int)<(ys.length:Int) by omega)] at ad;cases ad
  rw [List.drop_eq_getElem_cons PR,List.drop_eq_getElem_cons zW] at hs
  refine .idx rfl PR (.idx rfl zW ((aT _ _).bind fun r aA=>?_))
  rw [dm _ PR,dm _ zW] at aA
  have hs:lc g xs ys=if g xs[j] ys[j]=0 then lc g (xs.drop (j+1)) (ys.drop (j+1)) else g xs[j] ys[j]:=hs
  refine .cond (fun ad=>.ret (.inr ⟨_,rfl,?_⟩)) fun ad=>.ret ⟨dR (by omega),?_⟩
  ·have:r≠0:=by simpa using ad
   rw [hs,if_neg (fun h=>this (aA.zero.2 h))];exact aA
  have:r=0:=by simpa using ad
  rw [hs,if_pos (aA.zero.1 this)]
 ·obtain⟨rfl,hs⟩:=hs
  refine .cond (fun ad=>by
   rw [Bool.and_eq_true,decide_eq_true_eq,decide_eq_true_eq] at ad;omega) fun _=>.ret (.inl ⟨_,rfl,?_⟩)
  rw [hs]
  rcases Nat.lt_trichotomy xs.length ys.length with h | h | h
  ·rw [show min xs.length ys.length=xs.length by omega,List.drop_length]
   cases hd:ys.drop xs.length with
   | nil=>have:=List.drop_eq_nil_iff.1 hd;omega
   | cons z o5=>
     unfold ey
     rw [if_pos (by omega)];rfl
  ·rw [show min xs.length ys.length=xs.length by omega,List.drop_length,h,List.drop_length,ku.2 rfl];rfl
  rw [show min xs.length ys.length=ys.length by omega,List.drop_length]
  cases hd:xs.drop ys.length with
  | nil=>have:=List.drop_eq_nil_iff.1 hd;omega
  | cons z o5=>
    unfold ey
    rw [if_neg (by omega),if_pos (by omega)];rfl
 rcases he with⟨q,rfl,hq⟩ | ⟨q,rfl,hq⟩
 ·simp only [Sum.elim_inl]
  refine .eq (ER _ _) (.ret ?_)
  rw [hq];exact kH.refl _
 simp only [Sum.elim_inr]
 exact .ret hq
theorem RJ {xs ys:List cx}(al:xs.length≤1000)(aR:ys.length≤1000):bd (wB xs ys) (fun r=>kH r (lc o7 xs ys)):=by
 unfold wB;exact T3 ac7 (by omega) (by omega)
theorem ack {xs ys:List aX}(al:xs.length≤1000)(aR:ys.length≤1000):bd (ym xs ys) (fun r=>kH r (lc (fun v w=>ey (fW v) (fW w)) xs ys)):=by
 unfold ym;exact T3 EP (by omega) (by omega)
theorem ac8 {l:List Int}(ak:l.length≤1000):bd (dx (σ:=Int) (ε:=(Int×Bool) ⊕ (Int×Int×Int×Bool×Bool)) dt (fun s1=>
 cond (decide (s1<(l.length:Int))) (
  (idx l.length s1).bind fun aL=>
  cond ((au l aL) !=0) (
   some (.inr (Sum.inr (au l aL,au l aL,s1,decide (s1<(l.length:Int)),(au l aL) !=0)))) (
   some (.inl (bk (s1+1))))) (
  some (.inr (Sum.inl (s1,decide (s1<(l.length:Int))))))) 0) (fun e=>(∃ q,e= .inl q∧kj l=0)∨ ∃ q:Int×Int×Int×Bool×Bool,e= .inr q∧q.1=kj l∧kj l≠0):=by
 refine bd.jl l.length (fun j st=>st=(j:Int)∧kj l=kj (l.drop j)) (by omega) ⟨rfl,rfl⟩ (fun j st aB hs=>?_) (fun st hs=>?_)
 ·obtain⟨rfl,hs⟩:=hs
  rw [List.drop_eq_getElem_cons aB] at hs
  have hs:kj l=if l[j]=0 then kj (l.drop (j+1)) else l[j]:=hs
  refine .cond (fun _=>.idx rfl aB ?_) fun ad=>by simp at ad;omega
  rw [dm _ aB]
  refine .cond (fun ad=>.ret (.inr ⟨_,rfl,?_⟩)) fun ad=>.ret ⟨dR (by omega),?_⟩
  ·have:l[j]≠0:=by simpa using ad
   rw [hs,if_neg this];exact⟨rfl,this⟩
  have:l[j]=0:=by simpa using ad
  rw [hs,if_pos this]
 obtain⟨rfl,hs⟩:=hs
 refine .cond (fun ad=>by simp at ad) fun _=>.ret (.inl ⟨_,rfl,?_⟩)
 rw [hs,List.drop_length];rfl
theorem alI (a b c d:Int):kj [a,b,c,d]=if a=0 then(if b=0 then(if c=0 then d else c) else b) else a:=by
 have hd:kj [d]=d:=by
  show(if d=0 then 0 else d)=d;split
  ·rename_i h;exact h.symm
  rfl
 show(if a=0 then(if b=0 then(if c=0 then kj [d] else c) else b) else a)=_;rw [hd]
theorem aiW {t p m xV a v f:Int}(hm:kH m xV)(aT:f=if t=0 then(if p=0 then(if m=0 then a else m) else p) else t):
 (f≠0→kH f (if t=0 then(if p=0 then(if xV=0 then(if a=0 then v else a) else xV) else p) else t))∧ (f=0→ (if t=0 then(if p=0 then(if xV=0 then(if a=0 then v else a) else xV) else p) else t)=v):=by
 have bF:=hm.zero
 by_cases bw:t=0
 ·rw [if_pos bw] at aT
  by_cases hp:p=0
  ·rw [if_pos hp] at aT
   by_cases bq:m=0
   ·rw [if_pos bq] at aT
    rw [if_pos bw,if_pos hp,if_pos (bF.1 bq)]
    by_cases aW:a=0
    ·rw [if_pos aW];exact⟨fun h=>absurd (aT.trans aW) h,fun _=>rfl⟩
    rw [if_neg aW,aT];exact⟨fun _=>kH.refl _,fun h=>absurd h aW⟩
   rw [if_neg bq] at aT
   rw [if_pos bw,if_pos hp,if_neg (fun h=>bq (bF.2 h)),aT]
   exact⟨fun _=>hm,fun h=>absurd h bq⟩
  rw [if_neg hp] at aT
  rw [if_pos bw,if_neg hp,aT]
  exact⟨fun _=>kH.refl _,fun h=>absurd h hp⟩
 rw [if_neg bw] at aT
 rw [if_neg bw,aT]
 exact⟨fun _=>kH.refl _,fun h=>absurd h bw⟩
theorem afl {x y:bh}(h1:x.cw.length≤1000)(ab:y.cw.length≤1000)(ax:x.fq.length≤1000)(aO:y.fq.length≤1000):bd (uD x y) (fun r=>kH r (tr x y)):=by
 unfold uD;refine .eq (ER _ _) (.eq (ER _ _) ((RJ h1 ab).bind fun bf anh=>.eq (ER _ _) ((ac8 (l:= [ey x.bB y.bB,ey y.gJ x.gJ,bf,ey x.en y.en]) (by simp)).bind fun e he=>?_)));have ani:tr x y=if ey x.bB y.bB=0 then(if ey y.gJ x.gJ=0 then(if lc o7 x.cw y.cw=0 then(if ey x.en y.en=0 then lc (fun v w=>ey (fW v) (fW w)) x.fq y.fq else ey x.en y.en) else lc o7 x.cw y.cw) else ey y.gJ x.gJ) else ey x.bB y.bB:=rfl;obtain⟨aL,bz⟩:=aiW (v:=lc (fun v w=>ey (fW v) (fW w)) x.fq y.fq) anh (alI (ey x.bB y.bB) (ey y.gJ x.gJ) bf (ey x.en y.en));rw [← ani] at aL bz;rcases he with⟨q,rfl,bq⟩ | ⟨q,rfl,hq,bq⟩
 ·simp only [Sum.elim_inl];refine(ack ax aO).bind fun r aA=>.ret ?_;rw [bz bq];exact aA
 simp only [Sum.elim_inr];refine .ret ?_;rw [hq];exact aL bq
theorem Te {x y:bh}(h1:x.cw.length≤1000)(ab:y.cw.length≤1000):A1 x y=some (fc x y):=by
 refine bd.get ?_;unfold A1;refine .cb (P:=fun r=>kH r (lc o7 x.cw y.cw)) (fun _=>RJ h1 ab) fun r aA=>.eq rfl (.ret ?_);rw [Bool.eq_iff_iff,rJ];simp only [Bool.and_eq_true,beq_iff_eq] at aA ⊢;constructor
 ·rintro ⟨⟨ar,aU⟩,cz⟩;exact⟨ar,Mu (fun _ _=>T2) ((aA ⟨ar,aU⟩).zero.1 cz),aU⟩
 rintro ⟨ar,aU,cz⟩;exact⟨⟨ar,cz⟩,(aA ⟨ar,cz⟩).zero.2 (by rw [aU];exact(N4 N5).self _)⟩
def cS (ls:Nat→List aC):List aC:=ls 0++ls 1++ls 2++ls 3
theorem Ip {ls:Nat→List aC}{i:aC} :i∈cS ls↔ ∃ k,k<4∧i∈ls k:=by
 unfold cS;simp only [List.mem_append];constructor
 ·rintro (((h | h) | h) | h)
  ·exact⟨0,by decide,h⟩
  ·exact⟨1,by decide,h⟩
  ·exact⟨2,by decide,h⟩
  exact⟨3,by decide,h⟩
 rintro ⟨k,hk,h⟩;have:k=0∨k=1∨k=2∨k=3:=by omega
 rcases this with rfl | rfl | rfl | rfl
 ·exact .inl (.inl (.inl h))
 ·exact .inl (.inl (.inr h))
 ·exact .inl (.inr h)
 exact .inr h
theorem yC {ls ls':Nat→List aC}(h:∀ k,k<4→ (ls k).Perm (ls' k)):(cS ls).Perm (cS ls'):=
 (((h 0 (by decide)).append (h 1 (by decide))).append (h 2 (by decide))).append (h 3 (by decide))
theorem p4 {ls:Nat→List aC}{k:Nat}(hk:k<4)(i:aC):(cS ls++[i]).Perm (cS (eO ls k (ls k++[i]))):=by
 unfold cS;have c:∀ a b d:List aC,((a++b)++d).Perm (a++d++b):=fun a b d=>by
  rw [List.append_assoc,List.append_assoc];exact List.Perm.append_left _ List.perm_append_comm
 have:k=0∨k=1∨k=2∨k=3:=by omega
 rcases this with rfl | rfl | rfl | rfl
 ·rw [iQ,jN (by decide),jN (by decide),jN (by decide)];exact(c _ _ _).trans (((c _ _ _).trans ((c _ _ _).append_right _)).append_right _)
 ·rw [iQ,jN (by decide),jN (by decide),jN (by decide),← List.append_assoc (ls 0)];exact(c _ _ _).trans ((c _ _ _).append_right _)
 ·rw [iQ,jN (by decide),jN (by decide),jN (by decide),← List.append_assoc (ls 0++ls 1)];exact c _ _ _
 rw [iQ,jN (by decide),jN (by decide),jN (by decide),List.append_assoc (ls 0++ls 1++ls 2)]
structure mV (s:aZ)(ls:Nat→List aC):Prop where
 fY:∀ k,k<4→h5 s k (ls k)
 len:∀ k,k<4→ (ls k).length≤12
structure jQ (s:aZ)(y:bX)(ls:Nat→List aC)(next:Int):Prop where
 ow:y.e0=s
 num:y.fh=next
 uw:y.bK.Pairwise (fun a b=>lW a b≤0)
 o0:y.bK.Perm (cS ls)
theorem jQ.len {s:aZ}{y:bX}{ls:Nat→List aC}{next:Int}(h:jQ s y ls next)(ak:mV s ls):y.bK.length≤48:=by
 rw [h.o0.length_eq];unfold cS;have bq:=ak.len 0 (by decide);have h1:=ak.len 1 (by decide);have ab:=ak.len 2 (by decide);have ax:=ak.len 3 (by decide);simp only [List.length_append];omega
theorem jQ.mem {s:aZ}{y:bX}{ls:Nat→List aC}{next:Int}(h:jQ s y ls next){i:aC} :i∈y.bK↔ ∃ k,k<4∧i∈ls k:=by
 rw [h.o0.mem_iff,Ip]
theorem jQ.dF {s:aZ}{y:bX}{ls:Nat→List aC}{next:Int}(h:jQ s y ls next)(ak:mV s ls){i:aC}(ao:i∈y.bK):∃ k,k<4∧i∈ls k∧kD s k i:=by
 obtain⟨k,hk,ao⟩:=h.mem.1 ao;exact⟨k,hk,ao,(ak.fY k hk).ok.ok i ao⟩
theorem jQ.small {s:aZ}(hs:cr s){y:bX}{ls:Nat→List aC}{next:Int}(h:jQ s y ls next)(ak:mV s ls){i:aC}(ao:i∈y.bK):i.aY.cw.length≤1000∧i.aY.fq.length≤1000:=by
 obtain⟨k,hk,_,ao⟩:=h.dF ak ao;exact ao.small hs hk
theorem jQ.df {s:aZ}(hs:cr s){y:bX}{ls:Nat→List aC}{next:Int}(h:jQ s y ls next)(ak:mV s ls){k:Nat}(hk:k<4){e:bh}(he:gb s k e):(y.bK.any fun i=>fc i.aY e)=(Go.Proofs.YtppgfphgdogpeaaGreat.df (ls k) e).isSome:=by
 rw [Bool.eq_iff_iff,List.any_eq_true];constructor
 ·rintro ⟨i,ao,oX⟩;obtain⟨j,aB,fS,anj⟩:=h.dF ak ao;have bw:=(rJ.1 oX).1;rw [anj.dF.gi,he.gi] at bw;have:j=k:=by omega
  subst this;cases aT:Go.Proofs.YtppgfphgdogpeaaGreat.df (ls j) e with
  | some _=>rfl
  | none=>rw [su aT i fS] at oX;cases oX
 intro aT;obtain⟨i,aT⟩:=Option.isSome_iff_exists.1 aT;obtain⟨ao,oX⟩:=nX aT;exact⟨i,h.mem.2 ⟨k,hk,ao⟩,oX⟩
def xk (y:bX)(x:Int):List aC:=y.bK.filter fun i=>i.aY.bB==x
theorem Su {y:bX}{x:Int}(hlen:y.bK.length≤1000):AG y x=some (xk y x):=by
 refine bd.get ?_;unfold AG;refine .bind (P:=fun e=>e.2.2=xk y x) (bd.jl y.bK.length (fun j st=>st=((j:Int),(y.bK.take j).filter fun i=>i.aY.bB==x)) (by omega) rfl (fun j st aB hs=>?_) (fun st hs=>?_)) fun e he=>.ret he
 ·subst hs;have hle:=List.length_filter_le (fun i:aC=>i.aY.bB==x) (y.bK.take j);rw [List.length_take] at hle;refine .cond (fun _=>.idx rfl aB (.bind (P:=fun m=>m=(y.bK.take (j+1)).filter fun i=>i.aY.bB==x) (.cond (fun ad=>.eq (fM _ _ (by simp only [List.length_cons,List.length_nil];omega) (by omega)) (.ret ?_)) fun ad=>.ret ?_) fun m hm=>.ret ?_)) fun ad=>by simp at ad;omega
  ·rw [mK _ aB,List.filter_append,show [au y.bK j].filter (fun i=>i.aY.bB==x)= [au y.bK j] from by simp only [List.filter_cons,ad,if_true,List.filter_nil]]
  ·rw [mK _ aB,List.filter_append,show [au y.bK j].filter (fun i=>i.aY.bB==x)= [] from by rw [List.filter_cons,ad];rfl,List.append_nil]
  rw [hm,dR (by omega)]
 subst hs;refine .cond (fun ad=>by simp at ad) fun _=>.ret ?_;show List.filter _ (List.take _ _)=_;rw [List.take_length];rfl
theorem Sv {s:aZ}{y:bX}{ls:Nat→List aC}{next:Int}(h:jQ s y ls next)(ak:mV s ls){k:Nat}(hk:k<4):(xk y ((k:Int)+1)).Perm (ls k):=by
 refine(h.o0.filter _).trans ?_;have key:∀ j,j<4→ (ls j).filter (fun i=>i.aY.bB==(k:Int)+1)=if j=k then ls j else []:=fun j aB=>by
  by_cases e:j=k
  ·subst e;rw [if_pos rfl];exact List.filter_eq_self.2 fun c ad=>by rw [((ak.fY j aB).ok.ok c ad).dF.gi];simp
  rw [if_neg e];exact List.filter_eq_nil_iff.2 fun c ad=>by rw [((ak.fY j aB).ok.ok c ad).dF.gi];simp;omega
 unfold cS;rw [List.filter_append,List.filter_append,List.filter_append,key 0 (by decide),key 1 (by decide),key 2 (by decide),key 3 (by decide)];have:k=0∨k=1∨k=2∨k=3:=by omega
 rcases this with rfl | rfl | rfl | rfl <;> simp
theorem afm {s:aZ}{y:bX}{ls:Nat→List aC}{next:Int}(h:jQ s y ls next)(ak:mV s ls){x:Int}(al:x<1∨4<x):xk y x= []:=
 List.filter_eq_nil_iff.2 fun c ad=>by
  obtain⟨k,hk,_,ao⟩:=h.dF ak ad;rw [ao.dF.gi];simp;omega
theorem ad1 {s:aZ}{y:bX}{ls:Nat→List aC}{next:Int}(h:jQ s y ls next)(x:Int):(xk y x).Pairwise (fun a b=>lW a b≤0):=h.uw.sublist List.filter_sublist
theorem UD {a b:bh} :(a.bB<b.bB→tr a b<0)∧ (b.bB<a.bB→0<tr a b):=by
 have h:tr a b=if ey a.bB b.bB=0 then _ else ey a.bB b.bB:=rfl;constructor
 ·intro cj;rw [h,if_neg (fun bF=>by have:=ku.1 bF;omega)];exact Fh.2 cj
 intro cj;rw [h,if_neg (fun bF=>by have:=ku.1 bF;omega)];exact B3.2 cj
theorem EB {s:aZ}(hs:cr s){y:bX}(aR:y.e0=s){k:Nat}(hk:k<4){e:bh}(he:gb s k e):sq y e=some (k:Int):=by
 refine bd.get ?_;unfold sq;rw [aR,he.gi];exact(abM hs hk).bind fun r aA=>.ret aA
theorem T4 {s:aZ}(hs:cr s){y:bX}{ls:Nat→List aC}{next:Int}(h:jQ s y ls next)(ak:mV s ls){k:Nat}(hk:k<4){i:aC}(ao:kD s k i):
 bd (AT y i) (fun r=>r.e0=y.e0∧r.fh=y.fh∧r.bK.Pairwise (fun a b=>lW a b≤0)∧r.bK.Perm (y.bK++[i])):=by
 have hlen:=h.len ak
 unfold AT
 refine .bind (P:=fun e=> ∃ n:Nat,n≤y.bK.length∧e.1=(n:Int)∧ (∀ a∈y.bK.take n,lW a i≤0)∧ (∀ aH:n<y.bK.length,0<lW (y.bK[n]) i))
  (bd.jl y.bK.length (fun j st=>st=(j:Int)∧ ∀ a∈y.bK.take j,lW a i≤0) (by omega) ⟨rfl,fun a aW=>by simp at aW⟩ (fun j st aB hs=>?_) (fun st hs=>?_)) fun e he=>?_
 ·obtain⟨rfl,bW⟩:=hs
  have hm:au y.bK j∈y.bK:=by rw [dm _ aB];exact List.getElem_mem _
  obtain⟨k',j9,_,bg⟩:=h.dF ak hm
  have th:kH 1 1:=kH.refl 1
  refine .cond (fun _=>?_) fun ad=>by simp at ad;omega
  refine .idx rfl aB (.eq (EB hs h.ow j9 bg.dF) (.eq (EB hs h.ow hk ao.dF) ?_))
  refine .cb (P:=fun c=>c=j) (fun _=>⟨j,kY aB,rfl⟩) fun bz ab=>?_
  refine .cb (P:=fun r=>kH r (lW (au y.bK j) i)) (fun ad=>by
   rw [ab ad];exact afl (bg.small hs j9).1 (ao.small hs hk).1 (bg.small hs j9).2 (ao.small hs hk).2) fun bf ax=>?_
  have y8:((decide ((k':Int)>(k:Int)))||(((k':Int)==(k:Int))&&(decide (bf>0))))=decide (0<lW (au y.bK j) i):=by
   obtain⟨t1,t2⟩:=UD (a:=(au y.bK j).aY) (b:=i.aY);rw [bg.dF.gi,ao.dF.gi] at t1 t2;have nf:lW (au y.bK j) i=tr (au y.bK j).aY i.aY:=rfl;rcases Nat.lt_trichotomy k' k with cj | heq | ank
   ·have:=t1 (by omega);rw [decide_eq_false (show ¬ (k':Int)>(k:Int) by omega),show((k':Int)==(k:Int))=false by simp;omega,decide_eq_false (show ¬ 0<lW (au y.bK j) i by rw [nf];omega)];rfl
   ·subst heq;have ax:=ax (by simp);rw [decide_eq_false (show ¬ (k':Int)>(k':Int) by omega),show((k':Int)==(k':Int))=true by simp,Bool.false_or,Bool.true_and];exact decide_eq_decide.2 ax.2
   have:=t2 (by omega);rw [decide_eq_true (show(k':Int)>(k:Int) by omega),decide_eq_true (show 0<lW (au y.bK j) i by rw [nf];exact this)];rfl
  rw [y8]
  refine .cond (fun ad=>.ret ⟨j,by omega,rfl,bW,fun aH=>?_⟩) fun ad=>.ret ⟨dR (by omega),fun a aW=>?_⟩
  ·rw [← dm _ aH];exact of_decide_eq_true ad
  rw [mK _ aB] at aW
  rcases List.mem_append.1 aW with aW | aW
  ·exact bW a aW
  rw [List.mem_singleton.1 aW]
  have:=of_decide_eq_false ad
  omega
 ·obtain⟨rfl,bW⟩:=hs
  exact .cond (fun ad=>by simp at ad) fun _=>.ret ⟨y.bK.length,Nat.le_refl _,rfl,bW,fun aH=>absurd aH (Nat.lt_irrefl _)⟩
 obtain⟨ar,aU⟩:=e
 obtain⟨n,aH,rfl,hg,gr⟩:=he
 have jq:i=i:=rfl
 refine .eq (a:=y.bK.take n) (by unfold l3;rw [if_pos ⟨by omega,by omega,by omega⟩];simp) ?_
 refine .eq (fM _ _ (by simp;omega) (by omega)) (.eq (fM _ _ (by simp;omega) (by omega)) (.eq (a:=y.bK.drop n) (by unfold l3;rw [if_pos ⟨by omega,by omega,by omega⟩,List.take_of_length_le (by simp)];rfl) (.eq (fM _ _ (by simp;omega) (by omega)) (.ret ?_))))
 simp only [List.nil_append]
 have vT:y.bK.Pairwise (fun a b=>lW a b≤0):=h.uw
 refine⟨trivial,trivial,?_,?_⟩
 ·have pB:∀ b∈y.bK.drop n,lW i b≤0:=fun b hb=>by
   have oW:n<y.bK.length:=by
    rcases Nat.lt_or_ge n y.bK.length with cL | cL
    ·exact cL
    rw [List.drop_eq_nil_of_le cL] at hb;cases hb
   have bq:=gr oW;have h1:lW i y.bK[n]≤0:=by have:=(BM.neg i y.bK[n]).2 bq;omega
   have hd:y.bK.drop n=y.bK[n]::y.bK.drop (n+1):=List.drop_eq_getElem_cons oW;rw [hd] at hb;rcases List.mem_cons.1 hb with e | hb
   ·rw [e];exact h1
   have YB:=vT.sublist (List.drop_sublist n _);rw [hd] at YB;exact BM.nh _ _ _ h1 ((List.pairwise_cons.1 YB).1 b hb)
  have yX:=vT
  rw [← List.take_append_drop n y.bK,List.pairwise_append] at yX
  rw [List.append_assoc,List.pairwise_append]
  refine⟨yX.1,?_,fun a aW b hb=>?_⟩
  ·rw [List.singleton_append,List.pairwise_cons]
   exact⟨pB,yX.2.1⟩
  rw [List.singleton_append] at hb
  rcases List.mem_cons.1 hb with e | hb
  ·rw [e];exact hg a aW
  exact yX.2.2 a aW b hb
 rw [List.append_assoc]
 have ab:(y.bK.take n++(y.bK.drop n++[i]))=y.bK++[i]:=by rw [← List.append_assoc,List.take_append_drop]
 rw [← ab]
 exact List.Perm.append_left _ List.perm_append_comm
theorem ad2 {s:aZ}{hp:aG Cell}{p:Nat}{ls:Nat→List aC}{next:Int}(h:q1 s hp p ls next){x:Int}(al:x<1∨4<x):cy (uB hp (some p) x) (fun r=>r=([],hp)):=by
 unfold uB;refine .eq (Im h al) ?_;unfold yh;exact .bind (P:=fun r=>r=([],hp)) (.cond (fun _=>.ret rfl) fun ad=>by cases ad) fun r aA=>.ret (by rw [aA])
def FM (ls:Nat→List aC):Nat→List aC
 | 0=>[]
 | k+1=>FM ls k++ls k
theorem Tf {ls:Nat→List aC}{i:aC} :∀ {n},i∈FM ls n→ ∃ k,k<n∧i∈ls k
 | 0,h=>by cases h
 | n+1,h=>by
   rcases List.mem_append.1 h with h | h
   ·obtain⟨k,hk,ao⟩:=Tf h;exact⟨k,by omega,ao⟩
   exact⟨n,by omega,h⟩
theorem Tg {ls:Nat→List aC}(ak:∀ k,k<4→ (ls k).length≤12):∀ n,n≤4→ (FM ls n).length≤12 * n
 | 0,_=>Nat.le_refl 0
 | n+1,h=>by
   have:=Tg ak n (by omega);have:=ak n (by omega);unfold FM;rw [List.length_append];omega
theorem agr {s:aZ}(hs:cr s){hp:aG Cell}{p:Nat}{ls:Nat→List aC}{next:Int}{y:bX}(h:q1 s hp p ls next)(aA:jQ s y ls next)(ak:mV s ls):cy (D1 hp (some p)) (fun r=>r=(y.bK,hp)):=by
 obtain⟨m,eV,own,h1,ab,ax⟩:=h.cell;unfold D1;refine .cond (fun ad=>by cases ad) fun _=>.eq rfl (.eq h1 ?_);refine .bind (P:=fun e=>e.2.2=(y.bK,hp)) (cy.loop 4 (fun k st=> ∃ out,st=((k:Int),out,hp)∧out.Perm (FM ls k)∧out.Pairwise (fun a b=>lW a b≤0)) (by decide) ⟨[],rfl,.refl _,.nil⟩ (fun k st hk bW=>?_) (fun st bW=>?_)) fun e he=>.ret (by rw [he])
 ·obtain⟨out,rfl,bH,PS⟩:=bW;have PT:=(hs.gi hk).1;have Ka:=hs.lR;refine .cond (fun _=>?_) fun ad=>by simp only [decide_eq_false_iff_not] at ad;omega
  refine .idx (k:=k) rfl (by show k<s.bS.length;omega) ?_;show cy (ag.bind (uB hp (some p) (au s.bS k).bU) fun an=>_) _;rw [PT,show(k:Int)+1=((k+1:Nat):Int) by omega];refine .bind (Td hs h (x:=k+1) (by omega) ak.len) fun an g=>?_;obtain⟨T,hp'⟩:=an;obtain⟨ge,gt⟩:=g;simp only at ge gt;subst ge;unfold sO at gt;rw [if_neg (by omega)] at gt;have gt:T.Perm (ls k)∧T.Pairwise (fun a b=>lW a b≤0):=gt;have z7:=bH.length_eq;have Qc:=Tg ak.len k (by omega);have Y2:=gt.1.length_eq;have Qq:=ak.len k hk;refine .eq (fM _ _ (by simp only;omega) (by omega)) (.ret ⟨out++T,by rw [gA (by omega) (by omega)],bH.append gt.1,?_⟩);rw [List.pairwise_append];refine⟨PS,gt.2,fun a aW b hb=>?_⟩;obtain⟨j,aB,aW⟩:=Tf (bH.mem_iff.1 aW);have aoa:=((ak.fY j (by omega)).ok.ok a aW).dF.gi;have aob:=((ak.fY k hk).ok.ok b (gt.1.mem_iff.1 hb)).dF.gi;have:=(UD (a:=a.aY) (b:=b.aY)).1 (by rw [aoa,aob];omega);show tr a.aY b.aY≤0;omega
 obtain⟨out,rfl,bH,PS⟩:=bW;have Ka:=hs.lR;refine .cond (fun ad=>by simp only [decide_eq_true_eq] at ad;omega) fun _=>.ret ?_;have OI:out.Perm y.bK:=bH.trans aA.o0.symm;have:out=y.bK:=LX BM OI PS aA.uw fun a aW b hb bF=>by
  obtain⟨j,aB,anl,anm⟩:=aA.dF ak (OI.mem_iff.1 aW);obtain⟨oz,r9,ann,ano⟩:=aA.dF ak (OI.mem_iff.1 hb);have sf:=We (x:=a.aY) (y:=b.aY) bF;have bw:=(rJ.1 sf).1;rw [anm.dF.gi,ano.dF.gi] at bw;have:j=oz:=by omega
  subst this;exact(ak.fY j aB).uniq anl ann sf
 rw [this]
theorem ad3 {s:aZ}{k:Nat}{l l':List aC}(h:mf s k l)(p:l'.Perm l):mf s k l':=
 ⟨fun i ao=>h.ok i (p.mem_iff.1 ao),(p.pairwise_iff fun bQ=>Ne.symm bQ).2 h.num,by rw [p.length_eq];exact h.len⟩
theorem uJ {ls:Nat→List aC}{k:Nat}{a b:List aC} :eO (eO ls k a) k b=eO ls k b:=by
 funext j;unfold eO;split <;> rfl
theorem ID {l:List aC}{e:bh}(h:df l e=none):cU l e=l:=by
 unfold cU;exact List.filter_eq_self.2 fun c ad=>by rw [su h c ad];rfl
theorem LH {l:List aC}{e:bh}{i:aC}(ao:fc i.aY e=true):cU (l++[i]) e=cU l e:=by
 unfold cU;rw [List.filter_append];simp [ao]
theorem wK {s:aZ}{k:Nat}{l:List aC}(ak:h5 s k l){e:bh}{i:aC}(ao:i∈l)(hk:fc i.aY e=true):(cU l e++[i]).Perm l:=by
 obtain⟨a,b,rfl⟩:=List.append_of_mem ao;have k2:=ak.key;rw [List.pairwise_append] at k2;obtain⟨_,ab,ax⟩:=k2;have aW:cU a e=a:=List.filter_eq_self.2 fun c ad=>by
  have aO:=ax c ad i List.mem_cons_self;have:fc c.aY e=false:=by
   rw [Bool.eq_false_iff];intro a7;rw [rD a7 (by rw [rF];exact hk)] at aO;cases aO
  rw [this];rfl
 have hb:cU b e=b:=List.filter_eq_self.2 fun c ad=>by
  have aO:=(List.pairwise_cons.1 ab).1 c ad;have:fc c.aY e=false:=by
   rw [Bool.eq_false_iff];intro a7;rw [rD hk (by rw [rF];exact a7)] at aO;cases aO
  rw [this];rfl
 have he:cU (a++i::b) e=a++b:=by
  unfold cU at aW hb ⊢;rw [List.filter_append,aW,List.filter_cons_of_neg (by rw [hk];simp),hb]
 rw [he,List.append_assoc];exact List.Perm.append_left _ List.perm_append_comm
theorem Th {s:aZ}{k:Nat}{l:List aC}(ak:h5 s k l){e:bh}{a i:aC}(aW:a∈l)(hk:fc a.aY e=true)(ao:fc i.aY e=true)(aH:i.b0=a.b0):pR (cU l e) i=true:=by
 have h1:df (cU l e) i.aY=none:=by
  cases aT:df (cU l e) i.aY with
  | none=>rfl
  | some c=>
    obtain⟨ad,Gr⟩:=nX aT
    have:=(mM.1 ad).2
    rw [rD Gr ao] at this;cases this
 have ab:jE (cU l e) i.b0=false:=by
  rw [Bool.eq_false_iff];intro bQ;unfold jE at bQ;rw [List.any_eq_true] at bQ;obtain⟨c,ad,aU⟩:=bQ;obtain⟨g1,g2⟩:=mM.1 ad;have:c=a:=ak.ok.uniq g1 aW (by rw [← aH];simpa using aU);rw [this,hk] at g2;cases g2
 unfold pR;rw [h1,ab];rfl
theorem Ti {l:List aC}{e:bh}{i:aC}(ao:fc i.aY e=true){d:bh}(hd:fc d e=true):df (cU l e++[i]) d=some i:=by
 unfold df;rw [List.find?_append];have h1:(cU l e).find? (fun c=>fc c.aY d)=none:=by
  rw [List.find?_eq_none];intro c ad;have:=(mM.1 ad).2;intro ab;rw [rD ab hd] at this;cases this
 have ab:fc i.aY d=true:=rD ao (by rw [rF];exact hd);rw [h1];simp [ab]
theorem ac9 {l:List aC}{e:bh}{i:aC}(ao:fc i.aY e=true){d:bh}(hd:fc d e=true):cU (cU l e++[i]) d=cU l e:=by
 rw [LH (rD ao (by rw [rF];exact hd))];exact List.filter_eq_self.2 fun c ad=>by
  have:=(mM.1 ad).2;have ax:fc c.aY d=false:=by
   rw [Bool.eq_false_iff];intro ab;rw [rD ab hd] at this;cases this
  rw [ax];rfl
structure qH (X:Nat→Prop)(hp hp':aG Cell):Prop where
 at_:∀ q,X q→pat hp' q=pat hp q
 keys:∀ q,q∈dI hp→q∈dI hp'
theorem qH.trans {X:Nat→Prop}{a b c:aG Cell}(h:qH X a b)(k:qH X b c):qH X a c:=⟨fun q hq=>(k.at_ q hq).trans (h.at_ q hq),fun q hq=>k.keys q (h.keys q hq)⟩
structure jW (X:Nat→Prop)(s:aZ)(hp:aG Cell)(p:Nat)(ls:Nat→List aC)(next:Int):Prop where
 cell:∃ m eV own,jk hp p=some ⟨s,⟨some m⟩,next⟩∧l4 hp m=some eV∧rK s hp p m eV 4 ls own∧ (¬ X p∧ ¬ X m)∧ ∀ k,k<4→ ∀ q,own k q→ ¬ X q
 ov:∀ q,X q→q∈dI hp
theorem jW.ok {X:Nat→Prop}{s:aZ}{hp:aG Cell}{p:Nat}{ls:Nat→List aC}{next:Int}(h:jW X s hp p ls next):q1 s hp p ls next:=by
 obtain⟨m,eV,own,h1,ab,ax,_⟩:=h.cell;exact⟨m,eV,own,h1,ab,ax⟩
theorem jW.off {X:Nat→Prop}{s:aZ}{hp hp':aG Cell}{p:Nat}{ls:Nat→List aC}{next:Int}(h:jW X s hp p ls next)(ne:∀ q,¬ X q→pat hp' q=pat hp q)(hk:∀ q,q∈dI hp→q∈dI hp'):jW X s hp' p ls next:=by
 obtain⟨m,eV,own,h1,ab,ax,⟨aO,a7⟩,bl⟩:=h.cell;exact⟨⟨m,eV,own,by rw [Es (ne p aO)];exact h1,by rw [Et (ne m a7)];exact ab,ax.congr hk fun k hk x al=>ne x (bl k hk x al),⟨aO,a7⟩,bl⟩,
  fun x al=>hk x (h.ov x al)⟩
theorem jW.change {X:Nat→Prop}{s:aZ}{hp hp':aG Cell}{p:Nat}{ls:Nat→List aC}{next:Int}{m:Nat}{eV:List (Int×Ref)}{own:Nat→Nat→Prop}(ao:∀ q,X q→q∈dI hp)(h1:jk hp p=some ⟨s,⟨some m⟩,next⟩)(ab:l4 hp m=some eV)(ax:rK s hp p m eV 4 ls own)
 (aO: ¬ X p∧ ¬ X m) (a7:∀ k,k<4→ ∀ q,own k q→ ¬ X q) {k:Nat} (hk:k<4) {q:Nat} (hq:dD eV ((k:Int)+1)=some (some q)) {l:List aC} {own':Nat→Prop}
 (al:lu s k hp' q l own') (bg:∀ x,own' x→own k x∨x ∉ dI hp) (qs:eT hp hp' (own k)):jW X s hp' p (eO ls k l) next∧qH X hp hp':=by
 obtain⟨g1,g2,g3⟩:=rK.change h1 ab ax hk hq al bg qs
 refine⟨⟨⟨m,eV,_,g1,g2,g3,aO,fun j aB x ij ng=>?_⟩,fun x ij=>qs.keys x (ao x ij)⟩,⟨fun x ij=>qs.rest x (ao x ij) fun h=>a7 k hk x h ij,qs.keys⟩⟩
 by_cases e:j=k
 ·rw [if_pos e] at ij
  rcases bg x ij with h | h
  ·exact a7 k hk x h ng
  exact h (ao x ng)
 rw [if_neg e] at ij;exact a7 j aB x ij ng
theorem jW.next' {X:Nat→Prop}{s:aZ}{hp:aG Cell}{p:Nat}{ls:Nat→List aC}{next:Int}(h:jW X s hp p ls next)(n:Int){c:kr}(ad:jk hp p=some c):jW X s (ct hp p (Cell.qh { c with nt:=n })) p ls n∧qH X hp (ct hp p (Cell.qh { c with nt:=n })):=by
 obtain⟨m,eV,own,h1,ab,ax,aO,a7⟩:=h.cell;rw [h1] at ad;cases ad;have xC:=sy h1;have mF:p≠m:=fun e=>by rw [e,wO ab] at xC;cases xC
 exact⟨⟨⟨m,eV,own,adX xC,by rw [Et (mq mF)];exact ab,ax.congr (fun q hq=>by rw [qQ];exact hq) fun k hk q hq=>mq fun e=>(ax.out k hk).1 (e ▸ hq),aO,a7⟩,fun x al=>by rw [qQ];exact h.ov x al⟩,
  ⟨fun x al=>mq fun e=>aO.1 (e ▸ al),fun x al=>by rw [qQ];exact al⟩⟩
theorem LY {s:aZ}{hp:aG Cell}{p m:Nat}{eV:List (Int×Ref)}{next:Int}(h1:jk hp p=some ⟨s,⟨some m⟩,next⟩)(ab:l4 hp m=some eV){x:Int}{q:Nat}(aO:dD eV x=some (some q)):qI hp (some p) x=some (some q):=by
 refine bd.get ?_;unfold qI;refine .cond (fun ad=>by cases ad) fun _=>.eq rfl (.eq h1 (.eq rfl (.eq ab (.eq rfl (.ret ?_)))));rw [aO];rfl
theorem ad4 {X:Nat→Prop}{s:aZ}(hs:cr s){hp:aG Cell}{p:Nat}{ls:Nat→List aC}{next:Int}(h:jW X s hp p ls next){k:Nat}(hk:k<4){e:bh}(he:gb s k e)(fJ:Int)(OJ:∀ i∈ls k,i.b0<next)(hlen:(ls k).length<900)(aH:0≤next∧next<1000000):
 cy (AD hp (some p) e fJ) (fun r=>
  if (df (ls k) e).isSome=true then r=(0,17,hp) else if (au s.bS k).hv≤ ((ls k).length:Int) then r=(0,18,hp)
  else r.1=next∧r.2.1=0∧jW X s r.2.2 p (eO ls k (ls k++[{ aY:=e,b0:=next,dr:=fJ }])) (next+1)∧qH X hp r.2.2):=by
 obtain⟨m,eV,own,h1,ab,ax,ng,qw⟩:=h.cell
 obtain⟨q,aO,a7⟩:=ax.has k hk
 unfold AD
 rw [he.gi]
 refine .eq (LY h1 ab aO) (.cond (fun ad=>by cases ad) fun _=>.eq (Mr hs hk a7 he) ?_)
 rw [T1]
 refine .cond (fun ad=>.ret (by rw [if_pos ad])) fun ad=>.eq (agl a7) (.eq (afi hs h.ok hk) (.cond (fun dK=>.ret ?_) fun dK=>?_))
 ·rw [if_neg (by rw [ad];simp),if_pos (by simpa using dK)]
 have dK: ¬ (au s.bS k).hv≤ ((ls k).length:Int):=by simpa using dK
 have aT:df (ls k) e=none:=by
  cases aT:df (ls k) e with
  | none=>rfl
  | some _=>rw [aT] at ad;cases ad
 have ao:kD s k ({ aY:=e,b0:=next,dr:=fJ } :aC):=⟨he⟩
 have hL:jE (ls k) next=false:=by
  unfold jE;rw [List.any_eq_false];intro c mc;have:=OJ c mc;simp;omega
 have bw:pR (ls k) ({ aY:=e,b0:=next,dr:=fJ } :aC)=true:=by
  unfold pR;simp only [aT,hL];rfl
 refine .eq rfl (.eq h1 (.eq rfl (.bind (Nf hs hk a7 ao hlen) fun cd bl=>?_)))
 obtain⟨_,g2,g3⟩:=bl
 obtain⟨bW,pS⟩:=jW.change h.ov h1 ab ax ng qw hk aO g2 (fun x al=>al.imp id fun h=>h.1) g3
 unfold added at bW
 rw [if_pos bw] at bW
 obtain⟨rq,asr,own',bT,_⟩:=bW.cell
 refine .eq bT (.eq rfl (.ret ?_))
 rw [if_neg (by rw [ad];simp),if_neg dK]
 have hw:bk (next+1)=next+1:=gA (by omega) (by omega)
 have:=bW.next' (next+1) bT
 simp only [hw]
 exact⟨trivial,trivial,this.1,pS.trans this.2⟩
theorem Iq {X:Nat→Prop}{s:aZ}(hs:cr s){hp:aG Cell}{p:Nat}{ls:Nat→List aC}{next:Int}(h:jW X s hp p ls next){k:Nat}(hk:k<4){e:bh}(he:gb s k e):
 cy (ts hp (some p) e) (fun r=>(match df (ls k) e with | some i=>(r.1,r.2.1)=(i,0) | none=>(r.1,r.2.1)=(default,16))∧jW X s r.2.2 p (eO ls k (cU (ls k) e)) next∧qH X hp r.2.2):=by
 obtain⟨m,eV,own,h1,ab,ax,ng,qw⟩:=h.cell
 obtain⟨q,aO,a7⟩:=ax.has k hk
 unfold ts
 rw [he.gi]
 refine .eq (LY h1 ab aO) (.cond (fun ad=>by cases ad) fun _=>.bind (ac5 hs hk a7 he) fun aD bl=>?_)
 obtain⟨g1,g2,g3⟩:=bl
 have bW:=jW.change h.ov h1 ab ax ng qw hk aO g2 (fun x al=>.inl al) g3
 have ar:aD.1=(vW (df (ls k) e)).1:=congrArg Prod.fst g1
 have aU:aD.2.1=(vW (df (ls k) e)).2:=congrArg Prod.snd g1
 cases aT:df (ls k) e with
 | none=>
   rw [aT] at ar aU
   refine .cond (fun _=>.ret ⟨rfl,bW⟩) fun ad=>by rw [aU] at ad;cases ad
 | some i=>
   rw [aT] at ar aU
   refine .cond (fun ad=>by rw [aU] at ad;cases ad) fun _=>.ret ⟨?_,bW⟩
   rw [ar];rfl
theorem ad5 {X:Nat→Prop}{s:aZ}(hs:cr s){hp:aG Cell}{p:Nat}{ls:Nat→List aC}{next:Int}(h:jW X s hp p ls next){k:Nat}(hk:k<4){e:bh}(he:gb s k e)(hlen:(ls k).length<900):
 cy (AE hp (some p) e) (fun r=>match df (ls k) e with
  | some i=>r.1=i∧r.2.1=0∧jW X s r.2.2 p (eO ls k (cU (ls k) e++[{ aY:=e,b0:=i.b0,dr:=i.dr }])) next∧qH X hp r.2.2
  | none=>r.2.1=16∧jW X s r.2.2 p (eO ls k (cU (ls k) e)) next∧qH X hp r.2.2):=by
 have jq:=h.ok.fY hk
 unfold AE
 refine .bind (Iq hs h hk he) fun an h1=>?_
 obtain⟨a,err,bH⟩:=an
 obtain⟨g1,g2,gs⟩:=h1
 simp only at g1 g2 gs ⊢
 cases aT:df (ls k) e with
 | none=>
   rw [aT] at g1
   have aU:err=16:=congrArg Prod.snd g1
   subst aU
   exact .cond (fun _=>.ret ⟨rfl,g2,gs⟩) fun ad=>by simp at ad
 | some i=>
   rw [aT] at g1
   have ar:a=i:=congrArg Prod.fst g1
   have aU:err=0:=congrArg Prod.snd g1
   subst ar aU
   refine .cond (fun ad=>by simp at ad) fun _=>?_
   obtain⟨aW,anp⟩:=nX aT
   obtain⟨m,eV,own,h1,ab,ax,ng,qw⟩:=g2.cell
   obtain⟨q,aO,a7⟩:=ax.has k hk
   rw [iQ] at a7
   have ao:kD s k ({ aY:=e,b0:=a.b0,dr:=a.dr } :aC):=⟨he⟩
   have bw:pR (cU (ls k) e) ({ aY:=e,b0:=a.b0,dr:=a.dr } :aC)=true:=Th jq aW anp (nY _) rfl
   refine .eq rfl (.eq h1 (.eq rfl (.eq ab (.eq (a:=some q) (by rw [he.gi,aO];rfl) (.eq rfl (.bind (Nf hs hk a7 ao (by have:=Io (ls k) e;omega)) fun aD bl=>.ret ?_))))))
   obtain⟨_,bz,cR⟩:=bl
   obtain⟨bW,pS⟩:=jW.change g2.ov h1 ab ax ng qw hk aO bz (fun x al=>al.imp id fun h=>h.1) cR
   unfold added at bW
   rw [if_pos bw,uJ] at bW
   exact⟨rfl,rfl,bW,gs.trans pS⟩
theorem ada {X:Nat→Prop}{s:aZ}(hs:cr s){hp:aG Cell}{p:Nat}{ls:Nat→List aC}{next:Int}(h:jW X s hp p ls next){k:Nat}(hk:k<4){i:aC}(ao:kD s k i)(hlen:(ls k).length<900):
 cy (Du hp (some p) i) (fun r=>r.1=pR (ls k) i∧jW X s r.2 p (eO ls k (added (ls k) i)) next∧qH X hp r.2):=by
 obtain⟨m,eV,own,h1,ab,ax,ng,qw⟩:=h.cell
 obtain⟨q,aO,a7⟩:=ax.has k hk
 unfold Du
 rw [ao.dF.gi]
 refine .eq (LY h1 ab aO) (.bind (Nf hs hk a7 ao hlen) fun bf bl=>.ret ⟨bl.1,?_⟩)
 exact jW.change h.ov h1 ab ax ng qw hk aO bl.2.1 (fun x al=>al.imp id fun h=>h.1) bl.2.2
theorem R1 {X:Nat→Prop}{s:aZ}{hp:aG Cell}{p:Nat}{ls:Nat→List aC}{next:Int}(h:jW X s hp p ls next)(n:Int):bd (Aq hp (some p) n) (fun r=>jW X s r p ls (max 1 n)∧qH X hp r):=by
 obtain⟨m,eV,own,h1,_⟩:=h.cell;unfold Aq;exact .bind (P:=fun m=>jW X s m p ls (max 1 n)∧qH X hp m) (.cond (fun _=>.eq rfl (.eq h1 (.eq rfl (.ret (h.next' _ h1))))) fun ad=>by cases ad) fun m hm=>.ret hm
def jt {α:Type}(m:Option α)(P:α→Prop):Prop:= ∀ r,m=some r→P r
theorem jt.bind {α β:Type}{m:Option α}{f:α→Option β}{P:α→Prop}{Q:β→Prop}(h:jt m P)(k:∀ r,P r→jt (f r) Q):jt (m.bind f) Q:=fun r e=>by
 cases hm:m with
 | none=>rw [hm] at e;cases e
 | some a=>rw [hm] at e;exact k a (h a hm) r e
theorem jt.skip {α β:Type}{m:Option α}{f:α→Option β}{Q:β→Prop}(k:∀ r,jt (f r) Q):jt (m.bind f) Q:= .bind (P:=fun _=>True) (fun _ _=>trivial) fun r _=>k r
theorem jt.ret {α:Type}{a:α}{P:α→Prop}(h:P a):jt (some a) P:=fun r e=>by cases e;exact h
theorem jt.eq {α β:Type}{a:α}{f:α→Option β}{Q:β→Prop}(k:jt (f a) Q):jt ((some a).bind f) Q:=k
theorem jt.cond {α:Type}{b:Bool}{m n:Option α}{P:α→Prop}(h1:b=true→jt m P)(ab:b=false→jt n P):jt (cond b m n) P:=by
 cases b
 ·exact ab rfl
 exact h1 rfl
theorem jt.cb {α:Type}[Inhabited α]{b w:Bool}{m:Option α}{P:α→Prop}(h:jt m P):jt (cb b w m) (fun r=>b=w→P r):=fun r e hb=>by
 unfold Gv.cb at e;rw [if_pos hb] at e;exact h r e
theorem jt.idx {n:Nat}{i:Int} :jt (idx n i) (fun k=>(k:Int)=i∧k<n):=fun k e=>by
 obtain⟨h1,ab⟩:=dq e;exact⟨by omega,h1⟩
theorem jt.loop {σ ε:Type}{body:σ→Option (σ ⊕ ε)}{P:ε→Prop}{n:Nat}{cg:σ}(fI:σ→Prop)(bq:fI cg)(hb:∀ s,fI s→jt (body s) (fun x=>match x with | .inl cf=>fI cf | .inr e=>P e)):jt (dx n body cg) P:=by
 induction n generalizing cg with
 | zero=>intro r e;cases e
 | succ n b2=>
   intro r e
   simp only [dx] at e
   cases hm:body cg with
   | none=>rw [hm] at e;cases e
   | some x=>
     rw [hm] at e
     have:=hb cg bq x hm
     cases x with
     | inl cf=>exact b2 this r e
     | inr y=>cases e;exact this
theorem bd.par {α:Type}{m:Option α}{P Q:α→Prop}(h:bd m P)(k:jt m Q):bd m (fun r=>P r∧Q r):=by
 obtain⟨r,h1,ab⟩:=h;exact⟨r,h1,ab,k r h1⟩
theorem IE {α:Type}{b:Nat}{xs ys:List α} :jt (eA b xs ys) (fun r=>r=xs++ys):=fun r e=>by
 unfold eA at e;split at e
 ·cases e;rfl
 cases e
theorem Tj (c:eg)(n:Int)(aH:0<n):jt (fz c n) (fun r=>0≤r.1∧r.1<n):=by
 unfold fz;refine .skip fun _=>.cond (fun _=>.ret ⟨Int.le_refl 0,aH⟩) fun _=>.bind .idx fun k _=>.bind (P:=fun y=>0≤y∧y<n) (fun y e=>?_) fun y aR=>.ret aR;unfold tY at e;split at e
 ·cases e
 cases e;exact⟨Int.tmod_nonneg _ (by omega),Int.tmod_lt_of_pos _ aH⟩
def FN (s:aZ)(r:e3):Prop:=
 r.mo=1∧r.p5=0∧ ((r.bB=2∧r.en=4∧r.uR=0)∨ (r.bB=3∧r.en=0∧r.eY=2∧ (au s.bS 2).c4.length=3)∨
   (r.bB=4∧r.en=0∧r.eY=1∧ (au s.bS 3).c4.length=3)∨ (r.bB=4∧r.en=5∧r.uR=0))
structure jm (s:aZ):Prop where
 refs:∀ r∈s.c3,FN s r
 og:s.c3.length≤4
 quo:∀ x∈s.eo,0≤x.jK
 all:(au s.eo 0).jK=40
theorem adb (c:eg)(dk:List ca):jt (yb c dk) (fun r=>(∀ x∈r.1,0≤x.jK)∧ (au r.1 0).jK=40):=by
 unfold yb;refine .skip fun _=>.bind (Tj _ _ (by omega)) fun aD ab=>.skip fun bf=>.bind (Tj _ _ (by omega)) fun bu aO=>?_;refine .bind (P:=fun e=>0≤e.2.2.1.jK∧0≤e.2.2.2.2.2.1.jK∧e.2.2.2.2.2.2.2.1.jK=40) (.loop (fun st=>0≤st.2.1.jK∧0≤st.2.2.2.2.1.jK∧st.2.2.2.2.2.2.1.jK=40) ⟨aO.1,?_,rfl⟩ fun st bW=>?_) fun e he=>.eq (.eq (.ret ⟨fun x al=>?_,he.2.2⟩))
 ·simp only;rw [gA (by omega) (by omega)];omega
 ·refine .cond (fun _=>.skip fun aL=>.skip fun cd=>.skip fun b9=>.skip fun aU=>.eq (.skip fun b1=>.skip fun cT=>?_)) fun _=>.ret bW;refine .bind (P:=fun m=>0≤m.2.1.jK) (.cond (fun _=>.skip fun _=>.skip fun _=>.eq (.skip fun _=>.ret bW.2.1)) fun _=>.ret bW.2.1) fun m1 h1=>.skip fun fR=>?_;exact .bind (P:=fun m=>0≤m.2.1.jK) (.cond (fun _=>.skip fun _=>.skip fun _=>.eq (.skip fun _=>.ret bW.1)) fun _=>.ret bW.1) fun m2 ab=>.ret ⟨ab,h1,bW.2.2⟩
 simp only [List.mem_cons,List.not_mem_nil,or_false] at al;rcases al with rfl | rfl | rfl
 ·show 0≤e.2.2.2.2.2.2.2.1.jK;rw [he.2.2];decide
 ·exact he.2.1
 exact he.1
theorem R2 (c:eg):jt (wx c) (fun r=>jm r.1):=by
 unfold wx;refine .skip fun an=>.skip fun aD=>.eq (.eq (.eq (.eq (.eq (.eq (.eq (.eq (.eq (.eq (.eq (.eq (.skip fun bf=>.skip fun bu=>.skip fun cd=>.eq (.eq (.bind (adb _ _) fun b9 bl=>.eq (.skip fun cC=>.skip fun m1=>.skip fun b1=>?_)))))))))))))));refine .bind (P:=fun m2=>m2.1.bS=cd.1∧m2.1.eo=b9.1∧ (m2.2= []∨m2.2= [({ (default:e3) with bB:=2,en:=4,mo:=1 } :e3)])) (.cond (fun _=>.eq (.bind IE fun y aR=>.ret ⟨rfl,rfl,.inr aR⟩)) fun _=>.ret ⟨rfl,rfl,.inl rfl⟩) fun m2 ab=>?_;obtain⟨ar,aU,ab⟩:=ab;refine .skip fun cT=>.bind (.cb .idx) fun aL dg=>?_;refine .bind (P:=fun m3=>m3.1.bS=cd.1∧m3.1.eo=b9.1∧m3.2.length≤2∧ ∀ s:aZ,s.bS=cd.1→ ∀ r∈m3.2,FN s r) (.cond (fun ad=>.eq (.bind IE fun y aR=>.ret ⟨ar,aU,?_,?_⟩)) fun _=>.ret ⟨ar,aU,?_,?_⟩) fun m3 ax=>?_
 ·subst aR;rcases ab with h | h <;> simp [h]
 ·subst aR;intro s hs r aA;simp only [Bool.and_eq_true,beq_iff_eq] at ad;have hk:=dg ad.1;have hk:aL=2:=by omega
  subst hk;rw [ar,← hs] at ad;simp only [List.mem_append,List.mem_singleton] at aA;rcases aA with aA | rfl
  ·rcases ab with h | h
   ·rw [h] at aA;cases aA
   rw [h,List.mem_singleton] at aA;subst aA;exact⟨rfl,rfl,.inl ⟨rfl,rfl,rfl⟩⟩
  exact⟨rfl,rfl,.inr (.inl ⟨rfl,rfl,rfl,by omega⟩)⟩
 ·rcases ab with h | h <;> simp [h]
 ·intro s hs r aA;rcases ab with h | h
  ·rw [h] at aA;cases aA
  rw [h,List.mem_singleton] at aA;subst aA;exact⟨rfl,rfl,.inl ⟨rfl,rfl,rfl⟩⟩
 obtain⟨cz,eL,Y2,ax⟩:=ax;refine .skip fun fR=>.bind (.cb .idx) fun bz dh=>?_;refine .bind (P:=fun m4=>m4.1.bS=cd.1∧m4.1.eo=b9.1∧m4.2.length≤4∧ ∀ s:aZ,s.bS=cd.1→ ∀ r∈m4.2,FN s r) (.cond (fun ad=>.eq (.eq (.bind IE fun y aR=>.ret ⟨cz,eL,?_,?_⟩))) fun _=>.ret ⟨cz,eL,by simp only;omega,ax⟩) fun m4 aO=>?_
 ·subst aR;simp only [List.length_append,List.length_cons,List.length_nil];omega
 ·subst aR;intro s hs r aA;simp only [Bool.and_eq_true,beq_iff_eq] at ad;have hk:=dh ad.1;have hk:bz=3:=by omega
  subst hk;rw [cz,← hs] at ad;simp only [List.mem_append,List.mem_cons,List.mem_singleton,List.not_mem_nil,or_false] at aA;rcases aA with aA | rfl | rfl
  ·exact ax s hs r aA
  ·exact⟨rfl,rfl,.inr (.inr (.inl ⟨rfl,rfl,rfl,by omega⟩))⟩
  exact⟨rfl,rfl,.inr (.inr (.inr ⟨rfl,rfl,rfl⟩))⟩
 obtain⟨jX,lG,Qq,aO⟩:=aO;exact .eq (.ret ⟨fun r aA=>aO _ jX r aA,Qq,fun x al=>by simp only [lG] at al;exact bl.1 x al,by simp only [lG];exact bl.2⟩)
def mS (e:bh):Prop:=e.en=4∨e.en=5→1≤e.fq.length
theorem aby {s:aZ}(h:cr s){x:Int} :jt (AU s x) (fun a=>x=4∨x=5→1≤a.l2.length):=fun r e al=>by
 have key:∀ j:Nat,j<6→x=(j:Int)+1→r.l2.map (·.jD)=au vu j:=fun j aB aU=>by
  subst aU;obtain⟨k7,h1,ab⟩:=RE h aB;rw [e] at h1;cases h1;rw [ab];exact(h.act aB).2
 rcases al with al | al
 ·have:=congrArg List.length (key 3 (by omega) (by omega));rw [List.length_map] at this;rw [this];decide
 have:=congrArg List.length (key 4 (by omega) (by omega));rw [List.length_map] at this;rw [this];decide
theorem ade (c:eg){s:aZ}(h:cr s)(x:Int):jt (yd c s x) (fun r=>mS r.1):=by
 unfold yd;refine .skip fun an=>.skip fun aL=>.skip fun ar=>.skip fun cd=>.skip fun cR=>.eq (.bind (aby h) fun b9 bl=>?_);refine .bind (P:=fun e=>e.2.2.1.en=au (au s.bS aL).dC cR∧ (1≤b9.l2.length→1≤e.2.2.2.1.length)) (.loop (fun st=>st.2.1.en=au (au s.bS aL).dC cR∧ (st.1=0∨1≤st.2.2.1.length)) ⟨rfl,.inl rfl⟩ fun st bW=>?_) fun e he=>.eq (.ret fun aW=>?_)
 ·refine .cond (fun _=>.skip fun hh=>.skip fun cC=>.eq (.skip fun b1=>.bind IE fun cT c0=>.ret ⟨bW.1,.inr ?_⟩)) fun ad=>.ret ⟨bW.1,fun ak=>?_⟩
  ·subst c0;simp
  rcases bW.2 with bq | bq
  ·have:=of_decide_eq_false ad;rw [bq] at this;omega
  exact bq
 simp only [he.1] at aW;exact he.2 (bl aW)
def rx (x:Int):Option Nat:=if x=1 then some 0 else if x=2 then some 1 else if x=7 then some 2 else none
theorem cr.ka {s:aZ}(h:cr s){j:Nat}(aB:j<3):(au s.eo j).bU=au [1,2,7] j:=by
 have ak:=h.og;have:=h.B2;have e:(s.eo.map (·.bU))[j]? =([1,2,7]:List Int)[j]? :=by rw [this]
 rw [List.getElem?_map,List.getElem?_eq_getElem (show j<s.eo.length by omega),List.getElem?_eq_getElem (show j<([1,2,7]:List Int).length from aB)] at e;rw [dm _ (show j<s.eo.length by omega),dm _ (show j<([1,2,7]:List Int).length from aB)];exact Option.some.inj e
theorem y0 {x:Int}{j:Nat}(aB:j<3):au [(1:Int),2,7] j=x↔rx x=some j:=by
 have h:j=0∨j=1∨j=2:=by omega
 unfold rx;rcases h with rfl | rfl | rfl
 ·show(1:Int)=x↔_;by_cases h1:x=1
  ·simp [h1]
  rw [if_neg h1];simp only [show ¬ (1:Int)=x from fun e=>h1 e.symm,false_iff];split
  ·simp
  split <;> simp
 ·show(2:Int)=x↔_;by_cases h1:x=2
  ·simp [h1]
  simp only [show ¬ (2:Int)=x from fun e=>h1 e.symm,false_iff,if_neg h1];split
  ·simp
  split <;> simp
 show(7:Int)=x↔_;by_cases h1:x=7
 ·simp [h1]
 simp only [show ¬ (7:Int)=x from fun e=>h1 e.symm,false_iff,if_neg h1];split
 ·simp
 split <;> simp
theorem zb {x:Int}{j:Nat}(h:rx x=some j):j<3:=by
 unfold rx at h;split at h
 ·cases h;omega
 split at h
 ·cases h;omega
 split at h <;> cases h;omega
structure pT (s:aZ)(hp:aG Cell)(p:Nat)(N:Int→Int):Prop where
 cell:∃ h2,nz hp p=some ⟨s.eo,h2⟩∧ ∀ j,j<3→b5 h2 j=N (au [1,2,7] j)
theorem abT {hp hp':aG Cell}{p:Nat}(h:pat hp' p=pat hp p):nz hp' p=nz hp p:=by unfold nz;rw [h]
theorem ad6 {hp:aG Cell}{p:Nat}{k:Cell}{x:jf}(h:pat hp p=some k):nz (ct hp p (.rW x)) p=some x:=by unfold nz;rw [rI h]
theorem pT.congr {s:aZ}{hp hp':aG Cell}{p:Nat}{N:Int→Int}(h:pT s hp p N)(e:pat hp' p=pat hp p):pT s hp' p N:=by
 obtain⟨h2,h1,ab⟩:=h.cell;exact⟨h2,by rw [abT e];exact h1,ab⟩
def nS (x:Int):Int:=match rx x with | some j=>(j:Int) | none=> -1
theorem UE {s:aZ}(hs:cr s){hp:aG Cell}{p:Nat}{N:Int→Int}(h:pT s hp p N)(x:Int):Av hp (some p) x=some (nS x):=by
 obtain⟨h2,h1,ab⟩:=h.cell;have ak:=hs.og;refine bd.get ?_;unfold Av;refine .cond (fun ad=>by cases ad) fun _=>.eq rfl (.eq h1 (.bind (P:=fun e=>e.1=nS x) (bd.jl 3 (fun i st=>st=(i:Int)∧ ∀ j,j<i→rx x≠some j) (by omega) ⟨rfl,fun j aB=>by omega⟩ (fun i st ao bW=>?_) (fun st bW=>?_)) fun e he=>.ret he))
 ·obtain⟨rfl,aH⟩:=bW;refine bd.cond (fun _=>.idx rfl (by simp only;omega) (.cond (fun ad=>?_) fun ad=>?_)) fun ad=>by simp only [ak] at ad;simp at ad;omega
  ·simp only [beq_iff_eq,hs.ka ao] at ad;have:=(y0 ao).1 ad;exact .ret (by unfold nS;rw [this])
  refine .ret ⟨dR (by omega),fun j aB e=>?_⟩;by_cases kc:j=i
  ·subst kc;rw [← y0 ao,← hs.ka ao] at e;rw [e] at ad;simp at ad
  exact aH j (by omega) e
 obtain⟨rfl,aH⟩:=bW;refine bd.cond (fun ad=>by simp only [ak] at ad;simp at ad) fun _=>.ret ?_;show(-1:Int)=nS x;unfold nS;cases e:rx x with
 | none=>rfl
 | some j=>exact absurd e (aH j (zb e))
def bump (N:Int→Int)(x:Int)(d:Int):Int→Int:=fun y=>if y=x then N x+d else N y
theorem pT.bump {s:aZ}{hp:aG Cell}{p:Nat}{N:Int→Int}{h2:Vector Int 6}(h1:nz hp p=some ⟨s.eo,h2⟩)(ab:∀ j,j<3→b5 h2 j=N (au [1,2,7] j)){x:Int}{j:Nat}(aB:rx x=some j)(d:Int):
 pT s (ct hp p (Cell.rW ⟨s.eo,eb h2 j (N x+d)⟩)) p (Go.Proofs.YtppgfphgdogpeaaGreat.bump N x d):=by
 refine⟨_,ad6 (tD h1),fun i ao=>?_⟩
 have ass:=zb aB
 unfold Go.Proofs.YtppgfphgdogpeaaGreat.bump
 by_cases e:i=j
 ·subst e
  rw [jA _ _ (by omega),if_pos rfl,if_pos ((y0 ao).2 aB)]
 rw [jA _ _ (by omega),if_neg e,if_neg (fun aU=>e (by have:=(y0 ao).1 aU;rw [aB] at this;cases this;rfl)),ab i ao]
def room (s:aZ)(N:Int→Int)(x:Int):Bool:=match rx x with | some j=>decide (N x<(au s.eo j).jK) | none=>false
theorem Wf {s:aZ}(hs:cr s){hp:aG Cell}{p:Nat}{N:Int→Int}(h:pT s hp p N)(hL:∀ x,0≤N x∧N x<100000)(x:Int):
 bd (AI hp (some p) x) (fun r=>if room s N x=true then r.1=true∧ (∃ c,r.2=ct hp p c)∧pT s r.2 p (bump N x 1) else r=(false,hp)):=by
 obtain⟨h2,h1,ab⟩:=h.cell
 have ak:=hs.og
 unfold AI
 refine .eq (UE hs h x) ?_
 cases aA:rx x with
 | none=>
   have e:nS x= -1:=by unfold nS;rw [aA]
   have aU:room s N x=false:=by unfold room;rw [aA]
   rw [e,aU]
   exact .ret rfl
 | some j=>
   have aB:=zb aA
   have e:nS x=(j:Int):=by unfold nS;rw [aA]
   have hK:b5 h2 j=N x:=by rw [ab j aB,(y0 aB).2 aA]
   rw [e]
   have hd:decide ((j:Int)<0)=false:=by simp
   simp only [hd]
   refine .eq (a:=p) rfl (.eq (a:=j) (by unfold cb;rw [if_pos rfl];exact kY (by omega)) (.eq (a:=⟨s.eo,h2⟩) (by unfold cb;rw [if_pos rfl];exact h1) (.eq (a:=p) rfl (.eq (a:=⟨s.eo,h2⟩) (by unfold cb;rw [if_pos rfl];exact h1)
    (.eq (a:=j) (by unfold cb;rw [if_pos rfl];exact kY (by simp only;omega)) (.eq rfl (.cond (fun ad=>?_) fun ad=>?_)))))))
   ·have aU:room s N x=false:=by unfold room;rw [aA];simp only [Bool.false_or,decide_eq_true_eq,hK] at ad;simp;omega
    rw [aU];exact .ret rfl
   have aU:room s N x=true:=by unfold room;rw [aA];simp only [Bool.false_or,decide_eq_false_iff_not,hK] at ad;simp;omega
   rw [aU]
   refine .eq (a:=p) rfl (.idx rfl (by omega) (.eq h1 (.idx rfl (by omega) (.eq rfl (.ret ⟨rfl,⟨_,rfl⟩,?_⟩)))))
   have hw:bk (b5 h2 j+1)=N x+1:=by rw [hK];have:=hL x;exact gA (by omega) (by omega)
   simp only [hw]
   exact pT.bump h1 ab aA 1
theorem UF {s:aZ}(hs:cr s){hp:aG Cell}{p:Nat}{N:Int→Int}(h:pT s hp p N){x:Int}{j:Nat}(aA:rx x=some j)(hL:0<N x∧N x<100000):
 bd (Aw hp (some p) x) (fun r=>(∃ c,r.2=ct hp p c)∧pT s r.2 p (bump N x (-1))):=by
 obtain⟨h2,h1,ab⟩:=h.cell
 have aB:=zb aA
 have e:nS x=(j:Int):=by unfold nS;rw [aA]
 have hK:b5 h2 j=N x:=by rw [ab j aB,(y0 aB).2 aA]
 unfold Aw
 refine .eq (UE hs h x) ?_
 rw [e]
 have hd:decide ((j:Int)<0)=false:=by simp
 simp only [hd]
 refine .eq (a:=p) rfl (.eq (a:=j) (by unfold cb;rw [if_pos rfl];exact kY (by omega)) (.eq (a:=⟨s.eo,h2⟩) (by unfold cb;rw [if_pos rfl];exact h1) (.cond (fun ad=>?_) fun ad=>?_)))
 ·simp only [Bool.false_or,beq_iff_eq,hK] at ad;omega
 refine .eq (a:=p) rfl (.idx rfl (by omega) (.eq h1 (.idx rfl (by omega) (.eq rfl (.ret ⟨⟨_,rfl⟩,?_⟩)))))
 have hw:bk (b5 h2 j - 1)=N x+ -1:=by rw [hK];exact gA (by omega) (by omega)
 simp only [hw]
 exact pT.bump h1 ab aA (-1)
theorem aiX {s:aZ}(hs:cr s){hp:aG Cell}{p:Nat}{N:Int→Int}(h:pT s hp p N):bd (DN hp (some p)) (fun r=>r= [⟨1,N 1⟩,⟨2,N 2⟩,⟨7,N 7⟩]):=by
 obtain⟨h2,h1,ab⟩:=h.cell;have ak:=hs.og;unfold DN;refine .cond (fun ad=>by cases ad) fun _=>.eq rfl (.eq h1 (.bind (P:=fun e=>e.2.2=(List.range 3).map fun j=>(⟨au [1,2,7] j,N (au [1,2,7] j)⟩:iN)) (bd.jl 3 (fun i st=>st=((i:Int),(List.range i).map fun j=>(⟨au [1,2,7] j,N (au [1,2,7] j)⟩:iN))) (by omega) rfl (fun i st ao bW=>?_) (fun st bW=>?_)) fun e he=>.ret (by rw [he];rfl)))
 ·subst bW;refine bd.cond (fun _=>.idx rfl (by simp only;omega) (.idx rfl (by omega) (.eq rfl (.eq (fM _ _ (by simp;omega) (by omega)) (.ret ?_))))) fun ad=>by simp only [ak] at ad;simp at ad;omega
  simp only;rw [dR (by omega),hs.ka ao,ab i ao,List.range_succ,List.map_append];rfl
 subst bW;exact bd.cond (fun ad=>by simp only [ak] at ad;simp at ad) fun _=>.ret rfl
def kS (e:bh)(r:e3):List b8:=
 if r.bB=e.bB then(if r.en=0 then [⟨r.mo,r.p5,(au e.cw r.eY.toNat).ck⟩] else if r.en=e.en then [⟨r.mo,r.p5,au e.fq r.uR.toNat⟩] else []) else []
def fU (s:aZ)(e:bh):List b8:=s.c3.flatMap (kS e)
def sg (e:bh):b8:=⟨1,0,(au e.cw 0).ck⟩
def fO (s:aZ)(e:bh):List b8:=if e.bB=1∧s.c3≠ [] then [sg e] else []
def tc (s:aZ)(e:bh):Prop:=(∃ k,k<4∧gb s k e)∧mS e
theorem Mw (e:bh)(r:e3):(kS e r).length≤1:=by
 unfold kS;split
 ·split
  ·simp
  split <;> simp
 simp
theorem Ir {α β:Type}{f:α→List β}(aT:∀ x,(f x).length≤1):∀ l:List α,(l.flatMap f).length≤l.length
 | []=>by simp
 | x::l=>by
   have:=Ir aT l;have:=aT x;rw [List.flatMap_cons,List.length_append,List.length_cons];omega
theorem By {s:aZ}(aA:jm s)(e:bh):(fU s e).length≤4:=Nat.le_trans (Ir (Mw e) _) aA.og
theorem tc.Xv {s:aZ}(hs:cr s){e:bh}(h:tc s e):1≤e.cw.length∧e.cw.length≤1000:=by
 obtain⟨⟨k,hk,he⟩,_⟩:=h;have h1:=he.len;have ab:=(hs.gi hk).2.1;omega
theorem UG {s:aZ}{e:bh}(h:tc s e){r:e3}(aA:FN s r)(bw:r.bB=e.bB)(aW:r.en=0):r.eY=(r.eY.toNat:Int)∧r.eY.toNat<e.cw.length:=by
 obtain⟨⟨k,hk,he⟩,_⟩:=h;have h1:=he.len;have ab:=he.gi;rcases aA.2.2 with⟨_,g,_⟩ | ⟨g1,_,g2,g3⟩ | ⟨g1,_,g2,g3⟩ | ⟨_,g,_⟩
 ·omega
 ·have:k=2:=by omega
  subst this;rw [g2];exact⟨rfl,by rw [h1,g3];decide⟩
 ·have:k=3:=by omega
  subst this;rw [g2];exact⟨rfl,by rw [h1,g3];decide⟩
 omega
theorem UH {s:aZ}{e:bh}(h:tc s e){r:e3}(aA:FN s r)(aW:r.en≠0)(hb:r.en=e.en):r.uR=0∧0<e.fq.length:=by
 rcases aA.2.2 with⟨_,g,g2⟩ | ⟨_,g,_⟩ | ⟨_,g,_⟩ | ⟨_,g,g2⟩
 ·exact⟨g2,h.2 (.inl (by omega))⟩
 ·exact absurd g aW
 ·exact absurd g aW
 exact⟨g2,h.2 (.inr (by omega))⟩
theorem Sw {α β:Type}[Inhabited α](f:α→List β){l:List α}{i:Nat}(ao:i<l.length):(l.take (i+1)).flatMap f=(l.take i).flatMap f++f (au l i):=by
 rw [List.take_add_one,List.getElem?_eq_getElem ao,dm _ ao,List.flatMap_append];simp
theorem qN {α:Type}[Inhabited α]{l:List α}{i:Nat}(ao:i<l.length):au l i∈l:=by rw [dm _ ao];exact List.getElem_mem ao
theorem R3 {e:bh}{k:Nat}(hk:k<e.cw.length):A6 e (k:Int)=some (au e.cw k).ck:=by
 refine bd.get ?_;unfold A6;refine .cond (fun ad=>?_) fun _=>.idx rfl hk (.ret rfl);simp only [Bool.or_eq_true,decide_eq_true_eq] at ad;omega
theorem abU {e:bh}(hk:0<e.fq.length):Ea e 0=some (au e.fq 0):=by
 refine bd.get ?_;unfold Ea;refine .cond (fun ad=>?_) fun _=>.idx (k:=0) rfl hk (.ret rfl);simp only [Bool.or_eq_true,decide_eq_true_eq] at ad;omega
theorem ad7 {s:aZ}(aA:jm s){e:bh}(he:tc s e):Em s e=some (fU s e):=by
 refine bd.get ?_;unfold Em;have ak:=aA.og;refine .bind (P:=fun x=>x.2.2=fU s e) (bd.jl s.c3.length (fun i st=>st=((i:Int),(s.c3.take i).flatMap (kS e))) (by omega) rfl (fun i st ao bW=>?_) fun st bW=>?_) fun x al=>.ret al
 ·subst bW;refine .cond (fun _=>.idx rfl ao ?_) fun ad=>by simp at ad;omega
  have td:=aA.refs _ (qN ao);have PU:((s.c3.take i).flatMap (kS e)).length≤4:=Nat.le_trans (Ir (Mw e) _) (by rw [List.length_take];omega);refine .bind (P:=fun m=>m=(s.c3.take (i+1)).flatMap (kS e)) ?_ fun m hm=>.ret (by rw [hm,dR (by omega)]);rw [Sw _ ao];refine .cond (fun ad=>.ret ?_) fun ad=>.bind (P:=fun m=>m=(s.c3.take i).flatMap (kS e)++kS e (au s.c3 i)) (.cond (fun aW=>?_) fun aW=>.bind (P:=fun m=>m=(s.c3.take i).flatMap (kS e)++kS e (au s.c3 i)) (.cond (fun hb=>?_) fun hb=>.ret ?_) fun m hm=>.ret hm) fun m hm=>.ret hm
  ·unfold kS;rw [if_neg (by simpa using ad)];simp
  ·have bw:(au s.c3 i).bB=e.bB:=by simpa using ad
   have aW:(au s.c3 i).en=0:=by simpa using aW
   obtain⟨g1,g2⟩:=UG he td bw aW;rw [g1];refine .eq (R3 g2) (.eq rfl (.eq (fM _ _ (by simp only [List.length_cons,List.length_nil];omega) (by omega)) (.ret ?_)));unfold kS;rw [if_pos bw,if_pos aW]
  ·have bw:(au s.c3 i).bB=e.bB:=by simpa using ad
   have aW: ¬ (au s.c3 i).en=0:=by simpa using aW
   have hb:(au s.c3 i).en=e.en:=by simpa using hb
   obtain⟨g1,g2⟩:=UH he td aW hb;rw [g1];refine .eq (abU g2) (.eq rfl (.eq (fM _ _ (by simp only [List.length_cons,List.length_nil];omega) (by omega)) (.ret ?_)));unfold kS;rw [if_pos bw,if_neg aW,if_pos hb,g1];rfl
  have bw:(au s.c3 i).bB=e.bB:=by simpa using ad
  have aW: ¬ (au s.c3 i).en=0:=by simpa using aW
  have hb: ¬ (au s.c3 i).en=e.en:=by simpa using hb
  unfold kS;rw [if_pos bw,if_neg aW,if_neg hb];simp
 subst bW;exact .cond (fun ad=>by simp at ad) fun _=>.ret (by show _=fU s e;simp [fU])
theorem afn {l:List b8}(ak:l.length≤1000)(x:b8):bd (CX l x) (fun r=>r=decide (x∈l)):=by
 unfold CX Hb;refine .bind (P:=fun y=>(0≤y)↔x∈l) ?_ fun y aR=>.ret (by simp only [ge_iff_le,aR]);refine bd.loop l.length (fun i st=>st=(i:Int)∧ ∀ j,j<i→x≠au l j) (by omega) ⟨rfl,fun j aB=>by omega⟩ (fun i st ao bW=>?_) fun st bW=>?_
 ·obtain⟨rfl,aH⟩:=bW;refine .cond (fun _=>.idx rfl ao (.cond (fun ad=>.ret (.ret ?_)) fun ad=>.ret ⟨dR (by omega),fun j aB=>?_⟩)) fun ad=>by simp at ad;omega
  ·exact⟨fun _=>by rw [of_decide_eq_true ad];exact qN ao,fun _=>by simp only;omega⟩
  by_cases e:j=i
  ·subst e;exact of_decide_eq_false ad
  exact aH j (by omega)
 obtain⟨rfl,aH⟩:=bW;have ad:decide ((l.length:Int)<(l.length:Int))=false:=by simp
 refine⟨.inl ((l.length:Int),false),by rw [ad];rfl,.ret ⟨fun h=>by omega,fun h=>?_⟩⟩;obtain⟨j,aB,e⟩:=List.getElem_of_mem h;exact absurd (by rw [dm _ aB,e]) (aH j aB)
theorem abV {s:aZ}(hs:cr s)(aA:jm s){e:bh}(he:tc s e):Eb s e=some (fO s e):=by
 refine bd.get ?_;unfold Eb;have ak:=aA.og;have hm:=he.Xv hs;refine .bind (P:=fun x=>x.2.2=fO s e) (bd.jl s.c3.length (fun i st=>st=((i:Int),if e.bB=1∧i≠0 then [sg e] else [])) (by omega) (by simp) (fun i st ao bW=>?_) fun st bW=>?_) fun x al=>.ret al
 ·subst bW;have td:=aA.refs _ (qN ao);have PU:(if e.bB=1∧i≠0 then [sg e] else []).length≤1:=by split <;> simp
  refine .cond (fun _=>.idx rfl ao ?_) fun ad=>by simp at ad;omega
  rw [td.1,td.2.1];refine .eq (R3 (k:=0) (by omega)) (.eq rfl (.cb (fun _=>afn (by simp only;omega) _) fun y aR=>?_));refine .bind (P:=fun m=>m=if e.bB=1∧i+1≠0 then [sg e] else []) (.cond (fun ad=>?_) fun ad=>.ret ?_) fun m hm=>.ret (by rw [hm,dR (by omega)])
  ·simp only [Bool.and_eq_true,beq_iff_eq,Bool.not_eq_true'] at ad;have aR:=aR (by simp [ad.1]);rw [ad.2] at aR;have:i=0:=by
    refine Classical.byContradiction fun h=>?_;rw [if_pos ⟨ad.1.symm,h⟩] at aR;simp [sg] at aR
   subst this;refine .eq (fM _ _ (by simp) (by omega)) (.ret ?_);rw [if_neg (by simp),if_pos ⟨ad.1.symm,by omega⟩];rfl
  by_cases h1:e.bB=1
  ·have aR:=aR (by simp [h1]);simp only [h1,beq_self_eq_true,Bool.true_and,Bool.not_eq_false'] at ad;rw [ad] at aR;have xE:i≠0:=fun h=>by rw [if_neg (by simp [h])] at aR;simp at aR
   rw [if_pos ⟨h1,xE⟩,if_pos ⟨h1,by omega⟩]
  rw [if_neg fun h=>h1 h.1,if_neg fun h=>h1 h.1]
 subst bW;refine .cond (fun ad=>by simp at ad) fun _=>.ret ?_;show _=fO s e;unfold fO;simp [List.length_eq_zero_iff]
structure k3 (m:Nat)(hp hp':aG Cell):Prop where
 at_:∀ q,q≠m→pat hp' q=pat hp q
 keys:∀ q,q∈dI hp→q∈dI hp'
theorem k3.refl {m:Nat}{hp:aG Cell} :k3 m hp hp:=⟨fun _ _=>rfl,fun _ h=>h⟩
theorem k3.trans {m:Nat}{a b c:aG Cell}(h:k3 m a b)(k:k3 m b c):k3 m a c:=⟨fun q hq=>(k.at_ q hq).trans (h.at_ q hq),fun q hq=>k.keys q (h.keys q hq)⟩
theorem k3.up {m:Nat}{hp:aG Cell}{c:Cell} :k3 m hp (ct hp m c):=⟨fun q hq=>mq fun e=>hq e.symm,fun q hq=>by rw [qQ];exact hq⟩
theorem abW {hp hp':aG Cell}{p:Nat}(h:pat hp' p=pat hp p):pr hp' p=pr hp p:=by unfold pr;rw [h]
theorem RK {hp hp':aG Cell}{p:Nat}(h:pat hp' p=pat hp p):pq hp' p=pq hp p:=by unfold pq;rw [h]
theorem Tk {hp:aG Cell}{p:Nat}{k:Cell}{x:List (b8×ks)}(h:pat hp p=some k):pr (ct hp p (.rV x)) p=some x:=by unfold pr;rw [rI h]
structure lX (s:aZ)(hp:aG Cell)(p m:Nat)(A B:b8→Int):Prop where
 cell:pq hp p=some ⟨s,⟨some m⟩⟩
 map:∃ kv,pr hp m=some kv∧oA kv∧ ∀ t,dD kv t=if A t=0∧B t=0 then none else some ⟨A t,B t⟩
theorem lX.ne {s:aZ}{hp:aG Cell}{p m:Nat}{A B:b8→Int}(h:lX s hp p m A B):p≠m:=fun e=>by
 obtain⟨kv,h1,_⟩:=h.map;have ab:=Nh h.cell;rw [e,tG h1] at ab;cases ab
theorem lX.congr {s:aZ}{hp hp':aG Cell}{p m:Nat}{A B:b8→Int}(h:lX s hp p m A B)(h1:pat hp' p=pat hp p)(ab:pat hp' m=pat hp m):lX s hp' p m A B:=
 ⟨by rw [RK h1];exact h.cell,by obtain⟨kv,g1,g2⟩:=h.map;exact⟨kv,by rw [abW ab];exact g1,g2⟩⟩
def mh (A:b8→Int)(t:b8)(n:Int):b8→Int:=fun x=>if x=t then A x+n else A x
def rh (A:b8→Int)(k:Int):Prop:= ∀ t, -k≤A t∧A t≤k
theorem T5 {s:aZ}{hp:aG Cell}{p m:Nat}{A B:b8→Int}(h:lX s hp p m A B)(eM:rh A 200000)(fo:rh B 200000)(t:b8){n k:Int}(aH: -1≤n∧n≤1)(hk: -1≤k∧k≤1):
 bd (AJ hp (some p) t n k) (fun r=>k3 m hp r∧lX s r p m (mh A t n) (mh B t k)):=by
 obtain⟨kv,h1,ab,ax⟩:=h.map
 unfold AJ
 refine .eq (a:=p) rfl (.eq h.cell (.eq (a:=m) rfl (.eq h1 (.eq rfl (.eq rfl ?_)))))
 have hK:(dD kv t).getD default=(⟨A t,B t⟩:ks):=by
  rw [ax];split
  ·rename_i bF;rw [bF.1,bF.2];rfl
  rfl
 rw [hK]
 have bT:=eM t
 have dJ:=fo t
 have tl:bk (A t+n)=A t+n:=gA (by omega) (by omega)
 have Ae:bk (B t+k)=B t+k:=gA (by omega) (by omega)
 simp only [tl,Ae]
 have ad:∀ c,pq (ct hp m c) p=some ⟨s,⟨some m⟩⟩:=fun c=>by rw [RK (mq h.ne.symm)];exact h.cell
 refine .cond (fun bF=>?_) fun bF=>?_
 ·have bF:=of_decide_eq_true bF
  have bn:A t+n=0:=congrArg ks.p3 bF
  have z2:B t+k=0:=congrArg ks.p1 bF
  refine .eq (a:=p) rfl (.eq h.cell (.eq (a:=m) rfl (.eq h1 (.eq rfl (.ret ⟨.up,ad _,_,Tk (tG h1),ab.del,fun x=>?_⟩)))))
  rw [Bn ab,ax]
  unfold mh
  by_cases e:x=t
  ·subst e;rw [if_pos rfl,if_pos rfl,if_pos rfl,if_pos ⟨bn,z2⟩]
  rw [if_neg e,if_neg e,if_neg e]
 have bF:=of_decide_eq_false bF
 refine .eq (a:=p) rfl (.eq h.cell (.eq (a:=m) rfl (.eq h1 (.eq rfl (.ret ⟨.up,ad _,_,Tk (tG h1),ab.put,fun x=>?_⟩)))))
 rw [uG,ax]
 unfold mh
 by_cases e:x=t
 ·subst e;rw [if_pos rfl,if_pos rfl,if_pos rfl,if_neg fun bQ=>bF (by rw [bQ.1,bQ.2];rfl)]
 rw [if_neg e,if_neg e,if_neg e]
def eu (A:b8→Int)(l:List b8)(n:Int):b8→Int:=fun t=>A t+n * (l.count t:Int)
theorem Is {A:b8→Int}{n:Int} :eu A [] n=A:=by funext t;simp [eu]
theorem Ic {A:b8→Int}{l:List b8}{x:b8}{n:Int} :mh (eu A l n) x n=eu A (l++[x]) n:=by
 funext t;unfold mh eu;rw [List.count_append,List.count_singleton];by_cases e:t=x
 ·subst e;rw [if_pos rfl];simp only [beq_self_eq_true,if_true];rw [Int.natCast_add,Int.mul_add];omega
 rw [if_neg e,if_neg (by simpa using fun h=>e h.symm)];simp
theorem It {A:b8→Int}{x:b8} :mh A x 0=A:=by funext t;unfold mh;split <;> simp
theorem rh.mono {A:b8→Int}{k k':Int}(h:rh A k)(hk:k≤k'):rh A k':=fun t=>by have:=h t;omega
theorem Sx {A:b8→Int}{l:List b8}{n k:Int}(h:rh A k)(ak:l.length≤10)(aH:n=1∨n= -1):rh (eu A l n) (k+10):=fun t=>by
 have h1:=h t;have ab:l.count t≤l.length:=List.count_le_length;unfold eu;rcases aH with rfl | rfl <;> omega
theorem LZ {A:b8→Int}{l:List b8}{n:Int}(h:rh A 100000)(ak:l.length≤10)(aH:n=1∨n= -1):rh (eu A l n) 200000:=fun t=>by
 have h1:=h t;have ab:l.count t≤l.length:=List.count_le_length;unfold eu;rcases aH with rfl | rfl <;> omega
theorem LI {α:Type}[Inhabited α]{l:List α}{i:Nat}(ao:i<l.length):l.take (i+1)=l.take i++[au l i]:=by
 rw [List.take_add_one,List.getElem?_eq_getElem ao,dm _ ao];rfl
theorem Bz {s:aZ}(hs:cr s)(aA:jm s){hp:aG Cell}{p m:Nat}{A B:b8→Int}(h:lX s hp p m A B)(eM:rh A 100000)(fo:rh B 100000){e:bh}(he:tc s e){n:Int}(aH:n=1∨n= -1):
 bd (AK hp (some p) e n) (fun r=>k3 m hp r∧lX s r p m (eu A (fU s e) n) (eu B (fO s e) n)):=by
 have ak:=By aA e
 have mD:(fO s e).length≤1:=by unfold fO;split <;> simp
 have pM: -1≤n∧n≤1:=by omega
 unfold AK
 refine .cond (fun ad=>by cases ad) fun _=>.eq (a:=p) rfl (.eq h.cell (.eq (ad7 aA he) ?_))
 refine .bind (P:=fun x=>k3 m hp x.2.2∧lX s x.2.2 p m (eu A (fU s e) n) B) (bd.jl (fU s e).length (fun i st=>st.1=(i:Int)∧k3 m hp st.2∧lX s st.2 p m (eu A ((fU s e).take i) n) B) (by omega) ⟨rfl,.refl,by rw [List.take_zero,Is];exact h⟩ (fun i st ao bW=>?_) fun st bW=>?_) fun x al=>?_
 ·obtain⟨rp,bH⟩:=st;obtain⟨ar,bt,c1⟩:=bW
  simp only at ar bt c1;subst ar
  refine .cond (fun _=>.idx rfl ao (.bind (T5 c1 (LZ eM (by rw [List.length_take];omega) aH) (fun t=>by have:=fo t;omega) _ pM (by omega)) fun y aR=>.ret ⟨dR (by omega),bt.trans aR.1,?_⟩)) fun ad=>by simp at ad;omega
  have:=aR.2
  rw [Ic,It,← LI ao] at this
  exact this
 ·obtain⟨rp,bH⟩:=st;obtain⟨ar,bt,c1⟩:=bW
  simp only at ar bt c1;subst ar
  rw [List.take_length] at c1
  exact .cond (fun ad=>by simp at ad) fun _=>.ret ⟨bt,c1⟩
 obtain⟨bt,c1⟩:=al
 refine .eq c1.cell (.eq (abV hs aA he) ?_)
 refine .bind (P:=fun z=>k3 m hp z.2.2∧lX s z.2.2 p m (eu A (fU s e) n) (eu B (fO s e) n)) (bd.jl (fO s e).length (fun i st=>st.1=(i:Int)∧k3 m hp st.2∧lX s st.2 p m (eu A (fU s e) n) (eu B ((fO s e).take i) n)) (by omega) ⟨rfl,bt,by rw [List.take_zero,Is];exact c1⟩ (fun i st ao bW=>?_) fun st bW=>?_) fun z bF=>.ret bF
 ·obtain⟨rp,bH⟩:=st;obtain⟨ar,cu,c2⟩:=bW
  simp only at ar cu c2;subst ar
  refine .cond (fun _=>.idx rfl ao (.bind (T5 c2 (LZ eM (by omega) aH) (LZ fo (by rw [List.length_take];omega) aH) _ (by omega) pM) fun y aR=>.ret ⟨dR (by omega),cu.trans aR.1,?_⟩)) fun ad=>by simp at ad;omega
  have:=aR.2
  rw [Ic,It,← LI ao] at this
  exact this
 obtain⟨rp,bH⟩:=st;obtain⟨ar,cu,c2⟩:=bW
 simp only at ar cu c2;subst ar
 rw [List.take_length] at c2
 exact .cond (fun ad=>by simp at ad) fun _=>.ret ⟨cu,c2⟩
theorem Lt {hp hp':aG Cell}{p:Nat}(h:pat hp' p=pat hp p):gd hp' p=gd hp p:=by unfold gd;rw [h]
theorem afo {hp:aG Cell}{p:Nat}{k:Cell}{x:dV}{a:Option Nat}{c:Nat}(h:pat hp p=some k):gd (ct hp p (.mA x a c)) p=some (x,a,c):=by unfold gd;rw [rI h]
structure pY where
 x:Nat
 t:Nat
 r:Nat
 m:Nat
 q:Nat
def CS (P:pY)(q:Nat):Prop:=q=P.x∨q=P.r∨q=P.m∨q=P.q
structure hj (s:aZ)(hp:aG Cell)(P:pY)(ls:Nat→List aC)(next:Int)(js:List fe)(A B:b8→Int)(N:Int→Int):Prop where
 st:∃ k c,gd hp P.x=some (⟨some P.t,some P.r,some P.q,js⟩,k,c)
 kQ:jW (CS P) s hp P.t ls next
 h2:lX s hp P.r P.m A B
 quo:pT s hp P.q N
section
variable {s:aZ} {hp hp':aG Cell} {P:pY} {ls ls':Nat→List aC} {next next':Int} {js js':List fe} {A B cM xW:b8→Int} {N xX:Int→Int}
theorem hj.ne (h:hj s hp P ls next js A B N):(P.x≠P.r∧P.x≠P.m∧P.x≠P.q)∧P.r≠P.m∧P.r≠P.q∧P.m≠P.q:=by
 obtain⟨k,c,h1⟩:=h.st;obtain⟨kv,ab,_⟩:=h.h2.map;obtain⟨GX,ax,_⟩:=h.quo.cell;have ar:=iI h1;have aU:=tG ab;have cz:=Nh h.h2.cell;have eL:=tD ax;refine⟨⟨fun e=>?_,fun e=>?_,fun e=>?_⟩,fun e=>?_,fun e=>?_,fun e=>?_⟩
 ·rw [e,cz] at ar;cases ar
 ·rw [e,aU] at ar;cases ar
 ·rw [e,eL] at ar;cases ar
 ·rw [e,aU] at cz;cases cz
 ·rw [e,eL] at cz;cases cz
 rw [e,eL] at aU;cases aU
theorem hj.vw (h:hj s hp P ls next js A B N)(k:jW (CS P) s hp' P.t ls' next'∧qH (CS P) hp hp'):hj s hp' P ls' next' js A B N where
 st:=by obtain⟨a,c,h1⟩:=h.st;exact⟨a,c,by rw [Lt (k.2.at_ _ (.inl rfl))];exact h1⟩
 kQ:=k.1
 h2:=h.h2.congr (k.2.at_ _ (.inr (.inl rfl))) (k.2.at_ _ (.inr (.inr (.inl rfl))))
 quo:=h.quo.congr (k.2.at_ _ (.inr (.inr (.inr rfl))))
theorem hj.only (h:hj s hp P ls next js A B N){q:Nat}(hq:CS P q)(o:k3 q hp hp'):jW (CS P) s hp' P.t ls next:=h.kQ.off (fun x al=>o.at_ x fun e=>al (e ▸ hq)) o.keys
theorem hj.ref (h:hj s hp P ls next js A B N)(k:k3 P.m hp hp'∧lX s hp' P.r P.m cM xW):hj s hp' P ls next js cM xW N where
 st:=by obtain⟨a,c,h1⟩:=h.st;exact⟨a,c,by rw [Lt (k.1.at_ _ h.ne.1.2.1)];exact h1⟩
 kQ:=h.only (.inr (.inr (.inl rfl))) k.1
 h2:=k.2
 quo:=h.quo.congr (k.1.at_ _ fun e=>h.ne.2.2.2 e.symm)
theorem hj.KE (h:hj s hp P ls next js A B N)(k:∃ c,hp'=ct hp P.q c)(bz:pT s hp' P.q xX):hj s hp' P ls next js A B xX:=by
 obtain⟨c,rfl⟩:=k;have o:k3 P.q hp (ct hp P.q c):= .up;exact⟨by obtain⟨a,c,h1⟩:=h.st;exact⟨a,c,by rw [Lt (o.at_ _ h.ne.1.2.2)];exact h1⟩,h.only (.inr (.inr (.inr rfl))) o,
  h.h2.congr (o.at_ _ h.ne.2.2.1) (o.at_ _ h.ne.2.2.2),bz⟩
theorem hj.GD (h:hj s hp P ls next js A B N)(a:Option Nat)(c:Nat):hj s (ct hp P.x (.mA ⟨some P.t,some P.r,some P.q,js'⟩ a c)) P ls next js' A B N:=by
 have o:k3 P.x hp (ct hp P.x (.mA ⟨some P.t,some P.r,some P.q,js'⟩ a c)):= .up;obtain⟨gv,fP,h1⟩:=h.st;exact⟨⟨a,c,afo (iI h1)⟩,h.only (.inl rfl) o,h.h2.congr (o.at_ _ h.ne.1.1.symm) (o.at_ _ h.ne.1.2.1.symm),h.quo.congr (o.at_ _ h.ne.1.2.2.symm)⟩
theorem Mx (h:js.length≤1000)(k:my)(a b c:Ref):x1 ⟨a,b,c,js⟩ k=some ⟨a,b,c,js++[⟨k⟩]⟩:=by
 unfold x1;rw [fM _ _ (by simp;omega) (by omega)];rfl
structure Ai (A B:b8→Int)(N:Int→Int)(js:List fe):Prop where
 a:rh A 1000
 b:rh B 1000
 n:∀ x,0≤N x∧N x<1000
 j:js.length≤1000
theorem Tl (hs:cr s)(aA:jm s)(h:hj s hp P ls next js A B N)(hb:Ai A B N js){k:Nat}(hk:k<4){e:bh}(he:gb s k e)(aW:mS e)(fJ:Int)(OJ:∀ i∈ls k,i.b0<next)(hlen:(ls k).length<900)(aH:1≤next∧next<1000000):
 cy (so hp (some P.x) e fJ) (fun r=>
  if (df (ls k) e).isSome=true then r=(17,hp) else if (au s.bS k).hv≤ ((ls k).length:Int) then r=(18,hp)
  else if room s N fJ=true then r.1=0∧hj s r.2 P (eO ls k (ls k++[{ aY:=e,b0:=next,dr:=fJ }])) (next+1) (js++[⟨.xr (some P.x) { aY:=e,b0:=next,dr:=fJ } next fJ⟩]) (eu A (fU s e) 1) (eu B (fO s e) 1) (bump N fJ 1)
  else r.1=19∧hj s r.2 P (eO ls k (ls k)) next js A B N):=by
 obtain⟨a0,nR,bq⟩:=h.st
 unfold so
 refine .cond (fun ad=>by cases ad) fun _=>.eq (a:=P.x) rfl (.eq bq (.bind (ad4 hs h.kQ hk he fJ OJ hlen ⟨by omega,aH.2⟩) fun an h1=>?_))
 by_cases aT:(df (ls k) e).isSome=true
 ·rw [if_pos aT] at h1
  subst h1
  exact .cond (fun _=>.ret (by rw [if_pos aT])) fun ad=>by simp at ad
 rw [if_neg aT] at h1
 by_cases bF:(au s.bS k).hv≤ ((ls k).length:Int)
 ·rw [if_pos bF] at h1
  subst h1
  exact .cond (fun _=>.ret (by rw [if_neg aT,if_pos bF])) fun ad=>by simp at ad
 rw [if_neg bF] at h1
 obtain⟨lY,err,bH⟩:=an
 obtain⟨ar,aU,bW,pS⟩:=h1
 simp only at ar aU bW pS
 subst aU
 have ar:=ar.symm
 subst ar
 have g1:=h.vw ⟨bW,pS⟩
 refine .cond (fun ad=>by simp at ad) fun _=>?_
 have vP:df (ls k) e=none:=by
  cases hq:df (ls k) e with
  | none=>rfl
  | some _=>rw [hq] at aT;exact absurd rfl aT
 obtain⟨bT,c1,h1⟩:=g1.st
 have zX:=T0 hs g1.kQ.ok hk he
 rw [iQ,adZ vP (nY e)] at zX
 replace zX:yf bH (some P.t) e=some (({ aY:=e,b0:=next,dr:=fJ } :aC),true):=zX
 refine .eq (a:=P.x) rfl (.eq h1 (.eq zX (.eq (a:=P.x) rfl (.eq h1 (.gh (Wf hs g1.quo (fun x=>by have:=hb.n x;omega) fJ) fun bf ax=>?_)))))
 by_cases kB:room s N fJ=true
 ·rw [if_pos kB] at ax
  obtain⟨ok,cE⟩:=bf
  obtain⟨cz,cR,ev⟩:=ax
  simp only at cz cR ev
  subst cz
  have g2:=g1.KE cR ev
  obtain⟨a2,c2,ab⟩:=g2.st
  refine .cond (fun ad=>by cases ad) fun _=>.eq ab (.gh (P:=fun b9=>k3 P.m cE b9∧lX s b9 P.r P.m (eu A (fU s e) 1) (eu B (fO s e) 1)) ?_ fun b9 bl=>?_)
  ·exact .bind (Bz hs aA g2.h2 (hb.a.mono (by omega)) (hb.b.mono (by omega)) ⟨⟨k,hk,he⟩,aW⟩ (.inl rfl)) fun y aR=>.ret aR
  have g3:=g2.ref bl
  obtain⟨a3,cY,ax⟩:=g3.st
  refine .eq ax (.eq (Mx hb.j _ _ _ _) (.any fun ec=>.eq rfl (.ret ?_)))
  rw [if_neg aT,if_neg bF,if_pos kB]
  exact⟨rfl,g3.GD ec.1 ec.2⟩
 rw [if_neg kB] at ax
 subst ax
 refine .cond (fun _=>?_) fun ad=>by cases ad
 refine .eq h1 (.bind (Iq hs g1.kQ hk he) fun bu aO=>?_)
 obtain⟨i4,asU,uh⟩:=bu
 have g2:=g1.vw aO.2
 simp only at g2
 obtain⟨a2,c2,ab⟩:=g2.st
 refine .eq ab (.gh (R1 g2.kQ next) fun cd a7=>.ret ?_)
 have g3:=g2.vw a7
 rw [if_neg aT,if_neg bF,if_neg kB]
 refine⟨rfl,?_⟩
 rw [uJ,iQ,LH (nY e),ID vP,show max 1 next=next by omega] at g3
 exact g3
theorem Sy (hs:cr s)(aA:jm s)(h:hj s hp P ls next js A B N)(hb:Ai A B N js){k:Nat}(hk:k<4){e:bh}(he:gb s k e)(aW:mS e)(GF:∀ i∈ls k,mS i.aY)(hlen:(ls k).length<900):
 cy (x6 hp (some P.x) e) (fun r=>match df (ls k) e with
  | some i=>r.1=i.aY∧r.2.2.1=0∧hj s r.2.2.2 P (eO ls k (cU (ls k) e++[{ aY:=e,b0:=i.b0,dr:=i.dr }])) next js (eu (eu A (fU s i.aY) (-1)) (fU s e) 1) (eu (eu B (fO s i.aY) (-1)) (fO s e) 1) N
  | none=>r.2.2.1=16∧hj s r.2.2.2 P (eO ls k (cU (ls k) e)) next js A B N):=by
 obtain⟨a0,nR,bq⟩:=h.st
 have jq:=h.kQ.ok.fY hk
 unfold x6
 refine .eq (a:=P.x) rfl (.eq bq (.bind (ad5 hs h.kQ hk he hlen) fun an h1=>?_))
 obtain⟨i1,err,bH⟩:=an
 cases aT:df (ls k) e with
 | none=>
   rw [aT] at h1
   obtain⟨ar,h1⟩:=h1
   simp only at ar h1;subst ar
   exact .cond (fun _=>.ret ⟨rfl,h.vw h1⟩) fun ad=>by simp at ad
 | some i=>
   rw [aT] at h1
   obtain⟨ar,aU,h1⟩:=h1
   simp only at ar aU h1;subst aU
   have ar:=ar.symm
   subst ar
   have g1:=h.vw h1
   obtain⟨bT,c1,aL⟩:=g1.st
   obtain⟨hm,xF⟩:=nX aT
   have zX:=T0 hs g1.kQ.ok hk he
   rw [iQ,Ti (nY e) (nY e)] at zX
   refine .cond (fun ad=>by simp at ad) fun _=>.eq (a:=P.x) rfl (.eq aL (.eq zX (.eq (a:=P.x) rfl (.eq aL (.gh (P:=fun y=>k3 P.m bH y∧lX s y P.r P.m (eu A (fU s i.aY) (-1)) (eu B (fO s i.aY) (-1))) ?_ fun bf ax=>?_)))))
   ·exact .bind (Bz hs aA g1.h2 (hb.a.mono (by omega)) (hb.b.mono (by omega)) ⟨⟨k,hk,(jq.ok.ok i hm).dF⟩,GF i hm⟩ (.inr rfl)) fun y aR=>.ret aR
   have g2:=g1.ref ax
   obtain⟨a2,c2,bz⟩:=g2.st
   have ast:=By aA i.aY
   have mD:(fO s i.aY).length≤1:=by unfold fO;split <;> simp
   refine .eq bz (.gh (P:=fun y=>k3 P.m bf y∧lX s y P.r P.m (eu (eu A (fU s i.aY) (-1)) (fU s e) 1) (eu (eu B (fO s i.aY) (-1)) (fO s e) 1)) ?_ fun bu aO=>.ret ⟨rfl,rfl,g2.ref aO⟩)
   exact .bind (Bz hs aA g2.h2 ((Sx hb.a (by omega) (.inr rfl)).mono (by omega)) ((Sx hb.b (by omega) (.inr rfl)).mono (by omega)) ⟨⟨k,hk,he⟩,aW⟩ (.inl rfl)) fun y aR=>.ret aR
theorem ad8 (hs:cr s)(aA:jm s)(h:hj s hp P ls next js A B N)(hb:Ai A B N js){k:Nat}(hk:k<4){e:bh}(he:gb s k e)(aW:mS e)(GF:∀ i∈ls k,mS i.aY)(hlen:(ls k).length<900):
 cy (wv hp (some P.x) e) (fun r=>match df (ls k) e with
  | some i=>r.1=0∧hj s r.2 P (eO ls k (cU (ls k) e++[{ aY:=e,b0:=i.b0,dr:=i.dr }])) next (js++[⟨.vG (some P.x) i.aY⟩]) (eu (eu A (fU s i.aY) (-1)) (fU s e) 1) (eu (eu B (fO s i.aY) (-1)) (fO s e) 1) N
  | none=>r.1=16∧hj s r.2 P (eO ls k (cU (ls k) e)) next js A B N):=by
 unfold wv
 refine .cond (fun ad=>by cases ad) fun _=>.bind (Sy hs aA h hb hk he aW GF hlen) fun an h1=>?_
 obtain⟨bt,lY,err,bH⟩:=an
 cases aT:df (ls k) e with
 | none=>
   rw [aT] at h1
   obtain⟨ar,h1⟩:=h1
   simp only at ar h1;subst ar
   exact .cond (fun _=>.ret ⟨rfl,h1⟩) fun ad=>by simp at ad
 | some i=>
   rw [aT] at h1
   obtain⟨ar,aU,h1⟩:=h1
   simp only at ar aU h1;subst aU ar
   obtain⟨bT,c1,aL⟩:=h1.st
   exact .cond (fun ad=>by simp at ad) fun _=>.eq (a:=P.x) rfl (.eq aL (.eq (Mx hb.j _ _ _ _) (.any fun q=>.eq rfl (.ret ⟨rfl,h1.GD q.1 q.2⟩))))
theorem ad9 (hs:cr s)(aA:jm s)(h:hj s hp P ls next js A B N)(hb:Ai A B N js){k:Nat}(hk:k<4){e:bh}(he:gb s k e)(GF:∀ i∈ls k,mS i.aY∧ (rx i.dr).isSome=true∧0<N i.dr):
 cy (wu hp (some P.x) e) (fun r=>match df (ls k) e with
  | some i=>r.1=0∧hj s r.2 P (eO ls k (cU (ls k) e)) next (js++[⟨.xt (some P.x) i⟩]) (eu A (fU s i.aY) (-1)) (eu B (fO s i.aY) (-1)) (bump N i.dr (-1))
  | none=>r.1=16∧hj s r.2 P (eO ls k (cU (ls k) e)) next js A B N):=by
 obtain⟨a0,nR,bq⟩:=h.st
 have jq:=h.kQ.ok.fY hk
 unfold wu
 refine .cond (fun ad=>by cases ad) fun _=>.eq (a:=P.x) rfl (.eq bq (.bind (Iq hs h.kQ hk he) fun an h1=>?_))
 obtain⟨i1,err,bH⟩:=an
 obtain⟨h1,ab⟩:=h1
 have g1:=h.vw ab
 simp only at h1 g1
 cases aT:df (ls k) e with
 | none=>
   rw [aT] at h1
   have aU:err=16:=congrArg Prod.snd h1
   subst aU
   exact .cond (fun _=>.ret ⟨rfl,g1⟩) fun ad=>by simp at ad
 | some i=>
   rw [aT] at h1
   have ar:i1=i:=congrArg Prod.fst h1
   have aU:err=0:=congrArg Prod.snd h1
   subst aU
   have ar:=ar.symm
   subst ar
   obtain⟨hm,_⟩:=nX aT
   obtain⟨aW,bg,hL⟩:=GF i hm
   obtain⟨j,aB⟩:=Option.isSome_iff_exists.1 bg
   obtain⟨bT,c1,aL⟩:=g1.st
   refine .cond (fun ad=>by simp at ad) fun _=>.eq (a:=P.x) rfl (.eq aL (.gh (P:=fun y=>k3 P.m bH y∧lX s y P.r P.m (eu A (fU s i.aY) (-1)) (eu B (fO s i.aY) (-1))) ?_ fun aD ab=>?_))
   ·exact .bind (Bz hs aA g1.h2 (hb.a.mono (by omega)) (hb.b.mono (by omega)) ⟨⟨k,hk,(jq.ok.ok i hm).dF⟩,aW⟩ (.inr rfl)) fun y aR=>.ret aR
   have g2:=g1.ref ab
   obtain⟨a2,c2,bz⟩:=g2.st
   have hq:N i.dr<100000:=by have:=hb.n i.dr;omega
   refine .eq bz (.gh (UF hs g2.quo aB ⟨hL,hq⟩) fun bf ax=>?_)
   have g3:=g2.KE ax.1 ax.2
   obtain⟨a3,cY,cR⟩:=g3.st
   exact .eq cR (.eq (Mx hb.j _ _ _ _) (.any fun q=>.eq rfl (.ret ⟨rfl,g3.GD q.1 q.2⟩)))
theorem aea (hs:cr s)(aA:jm s)(h:hj s hp P ls next js A B N)(hb:Ai A B N js){k:Nat}(hk:k<4){i:aC}(ao:kD s k i)(aW:mS i.aY){j:Nat}(aB:rx i.dr=some j)(hL:0<N i.dr)(n:Int):
 cy (C3 hp (some P.x) i n i.dr) (fun r=>hj s r P (eO ls k (cU (ls k) i.aY)) (max 1 n) js (eu A (fU s i.aY) (-1)) (eu B (fO s i.aY) (-1)) (bump N i.dr (-1))):=by
 obtain⟨a0,nR,bq⟩:=h.st
 unfold C3
 refine .eq (a:=P.x) rfl (.eq bq (.bind (Iq hs h.kQ hk ao.dF) fun an h1=>?_))
 have g1:=h.vw h1.2
 obtain⟨bT,c1,aL⟩:=g1.st
 refine .eq aL (.gh (R1 g1.kQ n) fun aD ab=>?_)
 have g2:=g1.vw ab
 obtain⟨a2,c2,bz⟩:=g2.st
 refine .eq bz (.gh (P:=fun y=>k3 P.m aD y∧lX s y P.r P.m (eu A (fU s i.aY) (-1)) (eu B (fO s i.aY) (-1))) ?_ fun bf ax=>?_)
 ·exact .bind (Bz hs aA g2.h2 (hb.a.mono (by omega)) (hb.b.mono (by omega)) ⟨⟨k,hk,ao.dF⟩,aW⟩ (.inr rfl)) fun y aR=>.ret aR
 have g3:=g2.ref ax
 obtain⟨a3,cY,cR⟩:=g3.st
 have hq:N i.dr<100000:=by have:=hb.n i.dr;omega
 exact .eq cR (.gh (UF hs g3.quo aB ⟨hL,hq⟩) fun bu aO=>.ret (g3.KE aO.1 aO.2))
theorem aeb (hs:cr s)(aA:jm s)(h:hj s hp P ls next js A B N)(hb:Ai A B N js){k:Nat}(hk:k<4){i:aC}(ao:kD s k i)(aW:mS i.aY)(kB:room s N i.dr=true)(bw:pR (ls k) i=true)(hlen:(ls k).length<900):
 cy (Al hp (some P.x) i) (fun r=>hj s r P (eO ls k (ls k++[i])) next js (eu A (fU s i.aY) 1) (eu B (fO s i.aY) 1) (bump N i.dr 1)):=by
 obtain⟨a0,nR,bq⟩:=h.st
 unfold Al
 refine .eq (a:=P.x) rfl (.eq bq (.bind (ada hs h.kQ hk ao hlen) fun an h1=>?_))
 have g1:=h.vw h1.2
 unfold added at g1
 rw [if_pos bw] at g1
 obtain⟨bT,c1,aL⟩:=g1.st
 refine .eq aL (.gh (P:=fun y=>k3 P.m an.2 y∧lX s y P.r P.m (eu A (fU s i.aY) 1) (eu B (fO s i.aY) 1)) ?_ fun aD ab=>?_)
 ·exact .bind (Bz hs aA g1.h2 (hb.a.mono (by omega)) (hb.b.mono (by omega)) ⟨⟨k,hk,ao.dF⟩,aW⟩ (.inl rfl)) fun y aR=>.ret aR
 have g2:=g1.ref ab
 obtain⟨a2,c2,bz⟩:=g2.st
 refine .eq bz (.gh (Wf hs g2.quo (fun x=>by have:=hb.n x;omega) i.dr) fun bf ax=>.ret ?_)
 rw [if_pos kB] at ax
 exact g2.KE ax.2.1 ax.2.2
end
section
variable {s:aZ} {y:bX} {ls:Nat→List aC} {next:Int}
theorem afp {e:bh}(hlen:y.bK.length≤1000)(pS:∀ i∈y.bK,i.aY.cw.length≤1000)(he:e.cw.length≤1000):bd (wA y e) (fun r=>r=vW (y.bK.find? fun i=>fc i.aY e)):=by
 unfold wA;refine bd.loop y.bK.length (fun j st=>st=(j:Int)∧ ((y.bK.take j).find? fun i=>fc i.aY e)=none) (by omega) ⟨rfl,rfl⟩ (fun j st aB hs=>?_) (fun st hs=>?_)
 ·obtain⟨rfl,hs⟩:=hs;have hm:au y.bK j∈y.bK:=by rw [dm _ aB];exact List.getElem_mem _
  have vT:y.bK=(y.bK.take j++[au y.bK j])++y.bK.drop (j+1):=by rw [← mK _ aB,List.take_append_drop]
  refine .cond (fun _=>.idx rfl aB (.eq (Te (pS _ hm) he) (.cond (fun ad=>.ret (.ret ?_)) fun ad=>.ret ⟨dR (by omega),?_⟩))) fun ad=>by simp at ad;omega
  ·have vR:y.bK.find? (fun i=>fc i.aY e)=some (au y.bK j):=by
    conv=>lhs;rw [vT]
    rw [List.find?_append,List.find?_append,hs];simp only [List.find?_cons,List.find?_nil,ad,Option.none_or,Option.some_or]
   rw [vR];rfl
  rw [mK _ aB,List.find?_append,hs,List.find?_cons_of_neg (by rw [ad];simp)];rfl
 obtain⟨rfl,hs⟩:=hs;have ad:decide ((y.bK.length:Int)<(y.bK.length:Int))=false:=by simp
 rw [List.take_length] at hs;exact⟨.inl (_,_),by rw [ad];rfl,.ret (by rw [hs];rfl)⟩
theorem Ni (hs:cr s)(h:jQ s y ls next)(ak:mV s ls){k:Nat}(hk:k<4){e:bh}(he:gb s k e):wA y e=some (vW (df (ls k) e)):=by
 refine bd.get ((afp (by have:=h.len ak;omega) (fun i ao=>(h.small hs ak ao).1) (by have:=he.len;have:=(hs.gi hk).2.1;omega)).mono fun r aA=>?_);rw [aA];congr 1;have aW:=h.df hs ak hk he;cases aT:y.bK.find? fun i=>fc i.aY e with
 | none=>
   have:(y.bK.any fun i=>fc i.aY e)=false:=by rw [List.any_eq_false];exact List.find?_eq_none.1 aT
   rw [this] at aW
   cases bA:df (ls k) e with
   | none=>rfl
   | some _=>rw [bA] at aW;cases aW
 | some i=>
   have h1:=List.find?_some aT
   obtain⟨j,aB,ao,jo⟩:=h.dF ak (List.mem_of_find?_eq_some aT)
   have ar:=(rJ.1 h1).1
   rw [jo.dF.gi,he.gi] at ar
   have:j=k:=by omega
   subst this
   exact((ak.fY j aB).Uz ao h1).symm
theorem UI {e:bh}(hlen:y.bK.length≤1000)(pS:∀ i∈y.bK,i.aY.cw.length≤1000)(he:e.cw.length≤1000):AO y e=some { y with bK:=cU y.bK e } :=by
 refine bd.get ?_;unfold AO;refine .bind (P:=fun x=>x.2.2=cU y.bK e) (bd.jl y.bK.length (fun j st=>st=((j:Int),cU (y.bK.take j) e)) (by omega) rfl (fun j st aB hs=>?_) (fun st hs=>?_)) fun x al=>.ret (by rw [al])
 ·subst hs;have hm:au y.bK j∈y.bK:=by rw [dm _ aB];exact List.getElem_mem _
  have hle:=Io (y.bK.take j) e;rw [List.length_take] at hle;refine .cond (fun _=>.idx rfl aB (.eq (Te (pS _ hm) he) (.bind (P:=fun m=>m=cU (y.bK.take (j+1)) e) (.cond (fun ad=>.eq (fM _ _ (by simp only [List.length_cons,List.length_nil];omega) (by omega)) (.ret ?_)) fun ad=>.ret ?_) fun m hm=>.ret (by rw [hm,dR (by omega)])))) fun ad=>by simp at ad;omega
  ·rw [mK _ aB];unfold cU;rw [List.filter_append,List.filter_cons_of_pos (by simpa using ad),List.filter_nil]
  rw [mK _ aB];unfold cU;rw [List.filter_append,List.filter_cons_of_neg (by simpa using ad),List.filter_nil,List.append_nil]
 subst hs;refine .cond (fun ad=>by simp at ad) fun _=>.ret ?_;show cU (List.take _ _) _=_;rw [List.take_length]
theorem adf {s:aZ}{ls:Nat→List aC}(ak:mV s ls){k:Nat}(hk:k<4){e:bh}(he:gb s k e):cU (cS ls) e=cS (eO ls k (cU (ls k) e)):=by
 have key:∀ j,j<4→cU (ls j) e=eO ls k (cU (ls k) e) j:=fun j aB=>by
  by_cases ar:j=k
  ·subst ar;rw [iQ]
  rw [jN ar];refine List.filter_eq_self.2 fun c ad=>?_;have h1:=((ak.fY j aB).ok.ok c ad).dF.gi;have:fc c.aY e=false:=by
   rw [Bool.eq_false_iff];intro ab;have:=(rJ.1 ab).1;rw [h1,he.gi] at this;omega
  rw [this];rfl
 unfold cS;rw [← key 0 (by decide),← key 1 (by decide),← key 2 (by decide),← key 3 (by decide)];unfold cU;rw [List.filter_append,List.filter_append,List.filter_append]
theorem jQ.cU (h:jQ s y ls next)(ak:mV s ls){k:Nat}(hk:k<4){e:bh}(he:gb s k e):jQ s { y with bK:=Go.Proofs.YtppgfphgdogpeaaGreat.cU y.bK e } (eO ls k (Go.Proofs.YtppgfphgdogpeaaGreat.cU (ls k) e)) next:=
 ⟨h.ow,h.num,h.uw.sublist List.filter_sublist,by rw [← adf ak hk he];exact h.o0.filter _⟩
theorem mV.cU (ak:mV s ls){k:Nat}(e:bh):mV s (eO ls k (Go.Proofs.YtppgfphgdogpeaaGreat.cU (ls k) e)):=by
 refine⟨fun j aB=>?_,fun j aB=>?_⟩
 ·by_cases ar:j=k
  ·subst ar;rw [iQ];exact(ak.fY j aB).cU e
  rw [jN ar];exact ak.fY j aB
 by_cases ar:j=k
 ·subst ar;rw [iQ];exact Nat.le_trans (Io _ _) (ak.len j aB)
 rw [jN ar];exact ak.len j aB
theorem aec (hs:cr s)(h:jQ s y ls next)(ak:mV s ls){k:Nat}(hk:k<4){e:bh}(he:gb s k e):
 bd (wz y e) (fun r=>match df (ls k) e with | some i=>r.2.1=0∧jQ s r.2.2 (eO ls k (cU (ls k) e)) next | none=>r.2.1=16∧r.2.2=y):=by
 unfold wz
 refine .eq (EB hs h.ow hk he) (.cond (fun ad=>by simp at ad;omega) fun _=>.eq (Ni hs h ak hk he) ?_)
 cases aT:df (ls k) e with
 | none=>exact .cond (fun _=>.ret ⟨rfl,rfl⟩) fun ad=>by cases ad
 | some i=>
   refine .cond (fun ad=>by cases ad) fun _=>.eq (UI (by have:=h.len ak;omega) (fun i ao=>(h.small hs ak ao).1) (by have:=he.len;have:=(hs.gi hk).2.1;omega)) (.ret ⟨rfl,h.cU ak hk he⟩)
theorem aed (hs:cr s)(h:jQ s y ls next)(ak:mV s ls){k:Nat}(hk:k<4){e:bh}(he:gb s k e):
 bd (wy y e) (fun r=>match df (ls k) e with | some i=>r.2.1=0∧jQ s r.2.2 (eO ls k (cU (ls k) e++[{ aY:=e,b0:=i.b0,dr:=i.dr }])) next | none=>r.2.1=16∧r.2.2=y):=by
 unfold wy
 refine .eq (EB hs h.ow hk he) (.cond (fun ad=>by simp at ad;omega) fun _=>.eq (Ni hs h ak hk he) ?_)
 cases aT:df (ls k) e with
 | none=>exact .cond (fun _=>.ret ⟨rfl,rfl⟩) fun ad=>by cases ad
 | some i=>
   refine .cond (fun ad=>by cases ad) fun _=>.eq (UI (by have:=h.len ak;omega) (fun i ao=>(h.small hs ak ao).1) (by have:=he.len;have:=(hs.gi hk).2.1;omega)) (.eq rfl ?_)
   have ab:=h.cU ak hk he
   refine .bind (T4 hs ab (ak.cU e) hk (i:=⟨e,i.b0,i.dr⟩) ⟨he⟩) fun bu aO=>.ret ⟨rfl,aO.1.trans h.ow,aO.2.1.trans h.num,aO.2.2.1,?_⟩
   have hp:=p4 (ls:=eO ls k (cU (ls k) e)) hk ({ aY:=e,b0:=i.b0,dr:=i.dr } :aC)
   rw [iQ,uJ] at hp
   exact(aO.2.2.2.trans (ab.o0.append_right _)).trans hp
theorem aee (hs:cr s)(h:jQ s y ls next)(ak:mV s ls){k:Nat}(hk:k<4){e:bh}(he:gb s k e)(fJ:Int)(aH:0≤next∧next<1000000):
 bd (AA y e fJ) (fun r=>if (df (ls k) e).isSome=true then r.2.1=17 else if (au s.bS k).hv≤ ((ls k).length:Int) then r.2.1=18
  else r.2.1=0∧jQ s r.2.2 (eO ls k (ls k++[{ aY:=e,b0:=next,dr:=fJ }])) (next+1)):=by
 have hlen:=h.len ak
 have ao:kD s k { aY:=e,b0:=next,dr:=fJ } :=⟨he⟩
 unfold AA
 refine .eq (EB hs h.ow hk he) (.cond (fun ad=>by simp at ad;omega) fun _=>.eq (Ni hs h ak hk he) ?_)
 rw [T1]
 refine .cond (fun ad=>.ret (by rw [if_pos ad])) fun ad=>?_
 rw [ad,he.gi,h.ow]
 refine .eq (Su (by omega)) (.idx rfl (by rw [hs.lR];exact hk) ?_)
 have anq:=(Sv h ak hk).length_eq
 rw [anq]
 refine .cond (fun ad=>.ret ?_) fun ad=>?_
 ·rw [if_neg (by simp),if_pos (by simpa using ad)]
 have ad: ¬ (au s.bS k).hv≤ ((ls k).length:Int):=by simpa using ad
 rw [h.num]
 refine(T4 hs h ak hk ao).bind fun bu aO=>.ret ?_
 rw [if_neg (by simp),if_neg ad]
 obtain⟨g1,g2,g3,g4⟩:=aO
 refine⟨rfl,g1.trans h.ow,?_,g3,(g4.trans (h.o0.append_right _)).trans (p4 hk _)⟩
 show bk (bu.fh+1)=next+1
 rw [g2,h.num,gA] <;> omega
def gq (L:List aC)(x:Int):Int:=((L.countP fun i=>i.dr==x:Nat):Int)
theorem T6 (x:Int)(ak:y.bK.length≤1000):AX y x=some (gq y.bK x):=by
 refine bd.get ?_;unfold AX;refine .bind (P:=fun e=>e.1=gq y.bK x) (bd.jl y.bK.length (fun j st=>st=(gq (y.bK.take j) x,(j:Int))) (by omega) rfl (fun j st aB hs=>?_) (fun st hs=>?_)) fun e he=>.ret he
 ·subst hs;have hle:(y.bK.take j).countP (fun i=>i.dr==x)≤1000:=Nat.le_trans List.countP_le_length (by rw [List.length_take];omega);refine .cond (fun _=>.idx rfl aB (.bind (P:=fun m=>m=gq (y.bK.take (j+1)) x) (.cond (fun ad=>.ret ?_) fun ad=>.ret ?_) fun m hm=>.ret (by rw [hm,dR (by omega)]))) fun ad=>by simp at ad;omega
  ·rw [mK _ aB];unfold gq;rw [List.countP_append,List.countP_singleton,ad];exact dR (by omega)
  rw [mK _ aB];unfold gq;rw [List.countP_append,List.countP_singleton,ad];rfl
 subst hs;refine .cond (fun ad=>by simp at ad) fun _=>.ret ?_;show gq (List.take _ _) _=_;rw [List.take_length]
theorem ags (hs:cr s)(x:Int):Ee s x=some (nS x):=by
 refine bd.get ?_;unfold Ee;refine(Nb hs).bind fun an h1=>?_;rw [h1.B2,hs.B2];refine(Us [1,2,7] x (by simp)).bind fun r h=>.ret ?_;rcases h with⟨rfl,aH⟩ | ⟨k,hk,rfl,he⟩
 ·unfold nS rx;simp only [List.mem_cons,List.not_mem_nil,or_false,not_or] at aH;rw [if_neg aH.1,if_neg aH.2.1,if_neg aH.2.2]
 unfold nS;rw [(y0 hk).1 he]
theorem Nj (ak:y.bK.length≤1000):tt y=some y:=by
 unfold tt;rw [fM _ _ (by simp;omega) (by omega)];rfl
theorem R4 (hs:cr s)(h:jQ s y ls next)(ak:mV s ls){k:Nat}(hk:k<4){e:bh}(he:gb s k e)(fJ:Int)(aH:0≤next∧next<1000000):
 bd (wC y e fJ) (fun r=>if (df (ls k) e).isSome=true then r=(17,y) else if (au s.bS k).hv≤ ((ls k).length:Int) then r=(18,y)
  else if room s (gq (cS ls)) fJ=true then r.1=0∧jQ s r.2 (eO ls k (ls k++[{ aY:=e,b0:=next,dr:=fJ }])) (next+1) else r=(19,y)):=by
 have hlen:=h.len ak
 unfold wC
 refine .eq (Nj (by omega)) (.bind (aee hs h ak hk he fJ aH) fun aD ab=>?_)
 obtain⟨n,err,mI⟩:=aD
 by_cases aT:(df (ls k) e).isSome=true
 ·rw [if_pos aT] at ab
  simp only at ab;subst ab
  exact .cond (fun _=>.ret (by rw [if_pos aT])) fun ad=>by simp at ad
 rw [if_neg aT] at ab
 by_cases bF:(au s.bS k).hv≤ ((ls k).length:Int)
 ·rw [if_pos bF] at ab
  simp only at ab;subst ab
  exact .cond (fun _=>.ret (by rw [if_neg aT,if_pos bF])) fun ad=>by simp at ad
 rw [if_neg bF] at ab
 obtain⟨aU,ab⟩:=ab
 simp only at aU ab;subst aU
 refine .cond (fun ad=>by simp at ad) fun _=>?_
 rw [h.ow]
 have Po:gq y.bK=gq (cS ls):=by funext x;unfold gq;rw [h.o0.countP_eq]
 refine .eq (ags hs fJ) ?_
 rw [T6 fJ (by omega),Po]
 cases aA:rx fJ with
 | none=>
   have hK:nS fJ= -1:=by unfold nS;rw [aA]
   have ar:room s (gq (cS ls)) fJ=false:=by unfold room;rw [aA]
   rw [hK]
   exact .ret (by rw [if_neg aT,if_neg bF,ar,if_neg (by simp)])
 | some j=>
   have aB:=zb aA
   have hK:nS fJ=(j:Int):=by unfold nS;rw [aA]
   have hd:decide ((j:Int)<0)=false:=by simp
   rw [hK]
   simp only [hd]
   refine .eq (a:=gq (cS ls) fJ) rfl (.eq (a:=j) (by unfold cb;rw [if_pos rfl];exact kY (by rw [hs.og];exact aB)) (.eq rfl (.cond (fun ad=>.ret ?_) fun ad=>.ret ?_)))
   ·rw [if_neg aT,if_neg bF,if_neg (by unfold room;rw [aA];simp only [Bool.false_or,decide_eq_true_eq] at ad;simp;omega)]
   rw [if_neg aT,if_neg bF,if_pos (by unfold room;rw [aA];simp only [Bool.false_or,decide_eq_false_iff_not] at ad;simp;omega)]
   exact⟨rfl,ab⟩
end
def iW (s:aZ)(L:List aC)(t:b8):Int:=(((L.flatMap fun i=>fU s i.aY).count t:Nat):Int)
def ft (s:aZ)(L:List aC)(t:b8):Int:=(((L.flatMap fun i=>fO s i.aY).count t:Nat):Int)
section
variable {s:aZ} {L L':List aC}
theorem wI (h:L.Perm L'):iW s L=iW s L':=by funext t;unfold iW;rw [(h.flatMap_right _).count_eq]
theorem wJ (h:L.Perm L'):ft s L=ft s L':=by funext t;unfold ft;rw [(h.flatMap_right _).count_eq]
theorem p2 (h:L.Perm L'):gq L=gq L':=by funext x;unfold gq;rw [h.countP_eq]
theorem yz {i:aC} :eu (iW s L) (fU s i.aY) 1=iW s (L++[i]):=by
 funext t;unfold iW eu;rw [List.flatMap_append,List.count_append];simp
theorem yA {i:aC} :eu (ft s L) (fO s i.aY) 1=ft s (L++[i]):=by
 funext t;unfold ft eu;rw [List.flatMap_append,List.count_append];simp
theorem rB {i:aC} :bump (gq L) i.dr 1=gq (L++[i]):=by
 funext x;unfold gq bump;rw [List.countP_append,List.countP_singleton];by_cases e:x=i.dr
 ·subst e;rw [if_pos rfl];simp
 rw [if_neg e,if_neg (by simpa using fun h=>e h.symm)];simp
theorem Sz {A:b8→Int}{l:List b8} :eu (eu A l 1) l (-1)=A:=by funext t;unfold eu;omega
theorem adg {N:Int→Int}{x:Int} :bump (bump N x 1) x (-1)=N:=by
 funext y;unfold bump;by_cases e:y=x
 ·subst e;rw [if_pos rfl,if_pos rfl];omega
 rw [if_neg e,if_neg e]
theorem H5 {i:aC}(h:(L'++[i]).Perm L):eu (iW s L) (fU s i.aY) (-1)=iW s L':=by rw [← wI h,← yz,Sz]
theorem H6 {i:aC}(h:(L'++[i]).Perm L):eu (ft s L) (fO s i.aY) (-1)=ft s L':=by rw [← wJ h,← yA,Sz]
theorem SA {i:aC}(h:(L'++[i]).Perm L):bump (gq L) i.dr (-1)=gq L':=by rw [← p2 h,← rB,adg]
theorem Tm {i:aC}(h:i∈L):0<gq L i.dr:=by
 unfold gq;have:0<L.countP fun j=>j.dr==i.dr:=List.countP_pos_iff.2 ⟨i,h,by simp⟩;omega
end
def lS (a b:Nat→List aC):Prop:= ∀ k,k<4→ (a k).Perm (b k)
theorem lS.refl {a:Nat→List aC} :lS a a:=fun _ _=>.refl _
theorem lS.symm {a b:Nat→List aC}(h:lS a b):lS b a:=fun k hk=>(h k hk).symm
theorem lS.trans {a b c:Nat→List aC}(h:lS a b)(k:lS b c):lS a c:=fun j aB=>(h j aB).trans (k j aB)
structure hT (s:aZ)(ls:Nat→List aC)(next:Int)(y:bX):Prop where
 r:jQ s y ls next
 ok:mV s ls
 arg:∀ k,k<4→ ∀ i∈ls k,mS i.aY∧ (rx i.dr).isSome=true∧i.b0<next
 quo:∀ x j,rx x=some j→gq (cS ls) x≤ (au s.eo j).jK
 G8:1≤next
theorem afq {s:aZ}{k:Nat}{l l':List aC}(h:h5 s k l)(p:l'.Perm l):h5 s k l':=
 ⟨ad3 h.ok p,h.key.perm p.symm fun {a b} PV=>by rw [rF];exact PV⟩
theorem hT.perm {s:aZ}{ls ls':Nat→List aC}{next:Int}{y:bX}(h:hT s ls next y)(p:lS ls' ls):hT s ls' next y where
 r:=⟨h.r.ow,h.r.num,h.r.uw,h.r.o0.trans (yC p.symm)⟩
 ok:=⟨fun k hk=>afq (h.ok.fY k hk) (p k hk),fun k hk=>by rw [(p k hk).length_eq];exact h.ok.len k hk⟩
 arg k hk i ao:=h.arg k hk i ((p k hk).mem_iff.1 ao)
 quo x j aB:=by rw [p2 (yC p)];exact h.quo x j aB
 G8:=h.G8
theorem hT.JP {s:aZ}{ls:Nat→List aC}{next:Int}{y:bX}(h:hT s ls next y):(cS ls).length≤48:=by rw [← h.r.o0.length_eq];exact h.r.len h.ok
theorem yD {α β:Type}{f:α→List β}{n:Nat}(aT:∀ x,(f x).length≤n):∀ l:List α,(l.flatMap f).length≤n * l.length
 | []=>by simp
 | x::l=>by
   have:=yD aT l;have:=aT x;rw [List.flatMap_cons,List.length_append,List.length_cons,Nat.mul_add];omega
theorem hT.G9 {s:aZ}(aA:jm s){ls:Nat→List aC}{next:Int}{y:bX}(h:hT s ls next y){js:List fe}(aB:js.length≤1000):Ai (iW s (cS ls)) (ft s (cS ls)) (gq (cS ls)) js where
 a t:=by
   have h1:=yD (f:=fun i:aC=>fU s i.aY) (n:=4) (fun i=>By aA _) (cS ls);have ab:=h.JP;have ax:(List.flatMap (fun i:aC=>fU s i.aY) (cS ls)).count t≤_:=List.count_le_length;unfold iW;omega
 b t:=by
   have h1:=yD (f:=fun i:aC=>fO s i.aY) (n:=1) (fun i=>by unfold fO;split <;> simp) (cS ls);have ab:=h.JP;have ax:(List.flatMap (fun i:aC=>fO s i.aY) (cS ls)).count t≤_:=List.count_le_length;unfold ft;omega
 n x:=by
   have ab:=h.JP;have ax:(cS ls).countP (fun i=>i.dr==x)≤_:=List.countP_le_length;unfold gq;omega
 j:=aB
abbrev j0 (s:aZ)(hp:aG Cell)(P:pY)(ls:Nat→List aC)(next:Int)(js:List fe):Prop:=hj s hp P ls next js (iW s (cS ls)) (ft s (cS ls)) (gq (cS ls))
inductive xH (s:aZ)(jI:Nat)(ls:Nat→List aC)(next:Int):fe→ (Nat→List aC)→Int→Prop
 | ins {k:Nat} {i:aC} (hk:k<4) (ao:kD s k i) (aW:mS i.aY) (aT:df (ls k) i.aY=none):xH s jI ls next ⟨.xr (some jI) i next i.dr⟩ (eO ls k (ls k++[i])) (next+1)
 | mod {k:Nat} {i:aC} {e:bh} (hk:k<4) (ao:i∈ls k) (he:gb s k e) (aW:mS e) (hs:fc i.aY e=true):xH s jI ls next ⟨.vG (some jI) i.aY⟩ (eO ls k (cU (ls k) e++[{ aY:=e,b0:=i.b0,dr:=i.dr }])) next
 | del {k:Nat} {i:aC} (hk:k<4) (ao:i∈ls k):xH s jI ls next ⟨.xt (some jI) i⟩ (eO ls k (cU (ls k) i.aY)) next
theorem T7 {l:List aC}{e d:bh}(h:fc e d=true):cU l e=cU l d:=List.filter_congr fun c _=>by
 congr 1;rw [Bool.eq_iff_iff];exact⟨fun g=>rD g h,fun g=>rD g (by rw [rF];exact h)⟩
theorem R5 {l l':List aC}{e:bh}(p:l.Perm l'):(cU l e).Perm (cU l' e):=p.filter _
theorem Tn {s:aZ}{k:Nat}{l l':List aC}(h:h5 s k l')(p:l.Perm l')(e:bh):df l e=df l' e:=by
 cases aT:df l e with
 | some i=>
   obtain⟨h1,ab⟩:=nX aT
   exact(h.Uz (p.mem_iff.1 h1) ab).symm
 | none=>
   cases bA:df l' e with
   | none=>rfl
   | some i=>
     obtain⟨h1,ab⟩:=nX bA
     rw [su aT i (p.mem_iff.2 h1)] at ab;cases ab
section
variable {s:aZ} {hp:aG Cell} {P:pY} {ls ls' bD:Nat→List aC} {next next':Int} {js:List fe} {y mI:bX} {lI:fe}
theorem hj.to {A B cM xW:b8→Int}{N xX:Int→Int}(h:hj s hp P ls next js A B N)(aW:A=cM)(hb:B=xW)(aH:N=xX):hj s hp P ls next js cM xW xX:=by subst aW hb aH;exact h
theorem agt (hs:cr s)(aA:jm s)(h:j0 s hp P bD next' js)(aB:js.length≤1000)(hu:xH s P.x ls next lI ls' next')(h1:hT s ls next y)(ab:hT s ls' next' mI)(p:lS bD ls'):
 cy (Le hp lI.yT) (fun r=> ∃ fi,j0 s r P fi next js∧lS fi ls):=by
 have ax:=ab.perm p
 have hb:=ax.G9 aA aB
 cases hu with
 | @ins k i hk ao aW aT=>
   have ri:=p k hk
   rw [iQ] at ri
   have vM:i∈bD k:=ri.mem_iff.2 (by simp)
   have anr:i∈cS bD:=Ip.2 ⟨k,hk,vM⟩
   obtain⟨j,Kn⟩:=Option.isSome_iff_exists.1 (ax.arg k hk i vM).2.1
   refine(aea hs aA h hb hk ao aW Kn (Tm anr) next).mono fun r uo=>⟨eO bD k (cU (bD k) i.aY),?_,?_⟩
   ·have vY:(cS (eO bD k (cU (bD k) i.aY))++[i]).Perm (cS bD):=by
     have a7:=p4 (ls:=eO bD k (cU (bD k) i.aY)) hk i;rw [iQ,uJ] at a7;refine a7.trans (yC fun j aB=>?_);by_cases e:j=k
     ·subst e;rw [iQ];exact wK (ax.ok.fY j hk) vM (nY _)
     rw [jN e]
    have al:max 1 next=next:=by have:=h1.G8;omega
    rw [al] at uo
    exact uo.to (H5 vY) (H6 vY) (SA vY)
   intro j aB
   by_cases e:j=k
   ·subst e
    rw [iQ]
    have a7:=R5 (e:=i.aY) ri
    rw [LH (nY _),ID aT] at a7
    exact a7
   rw [jN e]
   have a7:=p j aB
   rw [jN e] at a7;exact a7
 | @mod k i e hk ao he aW sf=>
   have ri:=p k hk
   rw [iQ] at ri
   have ej:=(h1.ok.fY k hk).ok.ok i ao
   have JQ:fc e i.aY=true:=by rw [rF];exact sf
   have vP:df (bD k) i.aY=some { aY:=e,b0:=i.b0,dr:=i.dr } :=by
    rw [Tn (by have:=ab.ok.fY k hk;rw [iQ] at this;exact this) ri];exact Ti (nY e) sf
   obtain⟨hm,_⟩:=nX vP
   show cy (C2 hp (some P.x) i.aY) _
   unfold C2
   refine .bind (Sy hs aA h hb hk ej.dF (h1.arg k hk i ao).1 (fun c ad=>(ax.arg k hk c ad).1) (by have:=ax.ok.len k hk;omega)) fun an aR=>.ret ?_
   rw [vP] at aR
   obtain⟨_,_,bA⟩:=aR
   simp only at bA
   have vY:(cS (eO bD k (cU (bD k) i.aY))++[({ aY:=e,b0:=i.b0,dr:=i.dr } :aC)]).Perm (cS bD):=by
    have a7:=p4 (ls:=eO bD k (cU (bD k) i.aY)) hk ({ aY:=e,b0:=i.b0,dr:=i.dr } :aC);rw [iQ,uJ] at a7;refine a7.trans (yC fun j aB=>?_);by_cases e:j=k
    ·subst e;rw [iQ];exact wK (ax.ok.fY j hk) hm JQ
    rw [jN e]
   have Ko:=p4 (ls:=eO bD k (cU (bD k) i.aY)) hk i
   rw [iQ,uJ] at Ko
   refine⟨_,bA.to ?_ ?_ ?_,?_⟩
   ·have:=H5 (s:=s) vY
    rw [this,yz (i:=i)];exact wI Ko
   ·have:=H6 (s:=s) vY
    rw [this,yA (i:=i)];exact wJ Ko
   ·rw [← p2 vY,← p2 Ko,← rB,← rB]
   intro j aB
   by_cases ar:j=k
   ·subst ar
    rw [iQ]
    have a7:=R5 (e:=i.aY) ri
    rw [ac9 (nY e) sf,T7 JQ] at a7
    exact(a7.append_right _).trans (wK (h1.ok.fY j hk) ao (nY _))
   rw [jN ar]
   have a7:=p j aB
   rw [jN ar] at a7;exact a7
 | @del k i hk ao=>
   have ri:=p k hk
   rw [iQ] at ri
   have ej:=(h1.ok.fY k hk).ok.ok i ao
   have vY:(cS bD++[i]).Perm (cS ls):=by
    refine(p4 hk i).trans (yC fun j aB=>?_);by_cases e:j=k
    ·subst e;rw [iQ];exact(ri.append_right _).trans (wK (h1.ok.fY j hk) ao (nY _))
    rw [jN e];have a7:=p j aB;rw [jN e] at a7;exact a7
   have bw:pR (bD k) i=true:=by
    have a7:=Th (h1.ok.fY k hk) ao (nY i.aY) (nY i.aY) rfl;unfold pR jE at a7 ⊢;rw [Tn ((h1.ok.fY k hk).cU i.aY) ri,ri.any_eq];exact a7
   have kB:room s (gq (cS bD)) i.dr=true:=by
    obtain⟨j,Kn⟩:=Option.isSome_iff_exists.1 (h1.arg k hk i ao).2.1;have a7:=h1.quo _ j Kn;rw [← p2 vY,← rB] at a7;unfold bump at a7;rw [if_pos rfl] at a7;unfold room;rw [Kn];simp;omega
   show cy (Al hp (some P.x) i) _
   refine(aeb hs aA h hb hk ej (h1.arg k hk i ao).1 kB bw (by have:=ax.ok.len k hk;omega)).mono fun r bA=>⟨eO bD k (bD k++[i]),bA.to ?_ ?_ ?_,?_⟩
   ·rw [yz];exact wI (p4 hk i)
   ·rw [yA];exact wJ (p4 hk i)
   ·rw [rB];exact p2 (p4 hk i)
   intro j aB
   by_cases e:j=k
   ·subst e
    rw [iQ]
    exact(ri.append_right _).trans (wK (h1.ok.fY j hk) ao (nY _))
   rw [jN e]
   have a7:=p j aB
   rw [jN e] at a7;exact a7
end
theorem Wg {s:aZ}(hs:cr s)(aA:jm s)(hp:aG Cell):cy (A9 hp s) (fun r=> ∃ P:pY,r.1=some P.x∧j0 s r.2 P (fun _=>[]) 1 []):=by
 have Kp:=hs.og;unfold A9;refine .bind (ago hs hp) fun an h1=>?_;obtain⟨t,ar,h1⟩:=h1;obtain⟨ang,bH⟩:=an;simp only at ar h1;subst ar;unfold HZ HS;refine .bind (P:=fun aD=> ∃ m r,r≠m∧m ∉ dI bH∧r ∉ dI bH∧aD=(some r,(r,Cell.zc ⟨s,⟨some m⟩⟩)::(m,Cell.rV [])::bH)) (.mk fun m hm=>.mk fun r aA=>.ret ⟨m,r,?_,hm,?_,rfl⟩) fun aD ab=>?_
 ·exact fun e=>aA (by rw [e];exact List.mem_cons_self)
 ·exact fun h=>aA (List.mem_cons_of_mem _ h)
 obtain⟨m,r,Gb,hm,CB,rfl⟩:=ab;refine .bind (P:=fun bf=> ∃ q,q≠r∧q≠m∧q ∉ dI bH∧bf=(some q,(q,Cell.rW { (default:jf) with mN:=s.eo })::(r,Cell.zc ⟨s,⟨some m⟩⟩)::(m,Cell.rV [])::bH)) (.eq (a:=s.eo) ?_ (.mk fun q hq=>.ret ⟨q,?_,?_,?_,rfl⟩)) fun bf ax=>?_
 ·unfold l3;rw [if_pos ⟨by omega,by rw [Kp];decide,by rw [Kp];decide⟩,Kp];show some (List.take 3 s.eo)=_;rw [← Kp,List.take_length]
 ·exact fun e=>hq (by rw [e];exact List.mem_cons_self)
 ·exact fun e=>hq (by rw [e];exact List.mem_cons_of_mem _ List.mem_cons_self)
 ·exact fun h=>hq (List.mem_cons_of_mem _ (List.mem_cons_of_mem _ h))
 obtain⟨q,ans,zU,iZ,rfl⟩:=ax;refine .any fun cQ=>.mk fun x al=>.ret ⟨⟨x,t,r,m,q⟩,rfl,?_⟩;simp only at al ⊢;have ant:x≠q:=fun e=>al (by rw [e];exact List.mem_cons_self);have O1:x≠r:=fun e=>al (by rw [e];exact List.mem_cons_of_mem _ List.mem_cons_self);have anu:x≠m:=fun e=>al (by rw [e];exact List.mem_cons_of_mem _ (List.mem_cons_of_mem _ List.mem_cons_self));have ij:x ∉ dI bH:=fun h=>al (List.mem_cons_of_mem _ (List.mem_cons_of_mem _ (List.mem_cons_of_mem _ h)));have ng:∀ z,CS ⟨x,t,r,m,q⟩ z→z ∉ dI bH:=fun z bF=>by
  rcases bF with rfl | rfl | rfl | rfl
  ·exact ij
  ·exact CB
  ·exact hm
  exact iZ
 have hold:∀ z hh cR bz aL,z∈dI bH→pat ((x,hh)::(q,cR)::(r,bz)::(m,aL)::bH) z=pat bH z:=fun z hh cR bz aL bF=>by
  rw [kJ,if_neg (fun e:x=z=>ij (by rw [e];exact bF)),kJ,if_neg (fun e:q=z=>iZ (by rw [e];exact bF)),kJ,if_neg (fun e:r=z=>CB (by rw [e];exact bF)),kJ,if_neg (fun e:m=z=>hm (by rw [e];exact bF))]
 obtain⟨xV,eV,own,g1,g2,g3⟩:=h1.cell;have i1:=jM (sy g1);have i2:=jM (wO g2);have ii:∀ k,k<4→ ∀ z,own k z→z∈dI bH:=fun k hk z bF=>by obtain⟨_,_,bQ⟩:=g3.has k hk;exact bQ.ov z bF
 refine⟨⟨cQ.1,cQ.2,?_⟩,⟨⟨xV,eV,own,?_,?_,g3.congr (fun z bF=>?_) fun k hk z bF=>hold z _ _ _ _ (ii k hk z bF),⟨fun h=>ng _ h i1,fun h=>ng _ h i2⟩,fun k hk z bF h=>ng z h (ii k hk z bF)⟩,fun z bF=>?_⟩,⟨?_,[],?_,.nil,fun t=>?_⟩,⟨(default:jf).hW,?_,fun j aB=>?_⟩⟩
 ·unfold gd;rw [kJ,if_pos rfl]
 ·rw [Es (hold t _ _ _ _ i1)];exact g1
 ·rw [Et (hold xV _ _ _ _ i2)];exact g2
 ·exact List.mem_cons_of_mem _ (List.mem_cons_of_mem _ (List.mem_cons_of_mem _ (List.mem_cons_of_mem _ bF)))
 ·rcases bF with rfl | rfl | rfl | rfl
  ·exact List.mem_cons_self
  ·exact List.mem_cons_of_mem _ (List.mem_cons_of_mem _ List.mem_cons_self)
  ·exact List.mem_cons_of_mem _ (List.mem_cons_of_mem _ (List.mem_cons_of_mem _ List.mem_cons_self))
  exact List.mem_cons_of_mem _ List.mem_cons_self
 ·unfold pq;rw [kJ,if_neg O1,kJ,if_neg ans,kJ,if_pos rfl]
 ·unfold pr;rw [kJ,if_neg anu,kJ,if_neg zU,kJ,if_neg Gb,kJ,if_pos rfl]
 ·rw [if_pos ⟨rfl,rfl⟩];rfl
 ·unfold nz;rw [kJ,if_neg ant,kJ,if_pos rfl]
 show b5 (default:Vector Int 6) j=0;have:j=0∨j=1∨j=2:=by omega
 rcases this with rfl | rfl | rfl <;> rfl
inductive nT (s:aZ)(jI:Nat):List fe→List bX→ (Nat→List aC)→Int→Prop
 | nil {ls:Nat→List aC} {next:Int} {y:bX} (h:hT s ls next y):nT s jI [] [y] ls next
 | snoc {js:List fe} {ys:List bX} {ls CK ls':Nat→List aC} {next next':Int} {lI:fe} {mI:bX} (h:nT s jI js ys ls next) (p:lS CK ls) (u:xH s jI CK next lI ls' next') (cL:hT s ls' next' mI):
  nT s jI (js++[lI]) (ys++[mI]) ls' next'
section
variable {s:aZ} {hp:aG Cell} {P:pY} {ls bD:Nat→List aC} {next:Int} {js:List fe} {ys:List bX} {y:bX} {jI:Nat}
theorem nT.len (h:nT s jI js ys ls next):ys.length=js.length+1:=by
 induction h with
 | nil _=>rfl
 | snoc _ _ _ _ b2=>rw [List.length_append,List.length_append,b2];rfl
theorem nT.last (h:nT s jI js ys ls next):hT s ls next (au ys js.length):=by
 cases h with
 | nil h=>exact h
 | snoc h p u cL=>
   rw [Ia,if_pos (by rw [List.length_append,h.len];rfl)]
   exact cL
theorem nT.back {lI:fe}(h:nT s jI (js++[lI]) ys ls next):∃ Kq CK KF,nT s jI js (ys.take (js.length+1)) Kq KF∧lS CK Kq∧xH s jI CK KF lI ls next:=by
 generalize aB:js++[lI]=GZ at h;cases h with
 | nil _=>exact absurd aB (by simp)
 | snoc h p u cL=>
   obtain⟨rfl,e⟩:=List.append_inj' aB rfl
   cases e
   refine⟨_,_,_,?_,p,u⟩
   rw [← h.len,List.take_left];exact h
theorem UJ (hs:cr s)(aA:jm s)(h:j0 s hp P bD next js)(aB:js.length≤1000)(c:nT s P.x js ys ls next)(p:lS bD ls)(mark:Int):
 cy (An hp (some P.x) mark) (fun r=> ∃ ju ls' next',j0 s r P ju next' (js.take (max 0 mark).toNat)∧nT s P.x (js.take (max 0 mark).toNat) (ys.take ((max 0 mark).toNat+1)) ls' next'∧lS ju ls'):=by
 generalize aH:(max 0 mark).toNat=n
 have J9:max 0 mark=(n:Int):=by omega
 have hlen:=c.len
 unfold An
 refine .bind (P:=fun e=> ∃ ju ls' next',j0 s e.2 P ju next' (js.take n)∧nT s P.x (js.take n) (ys.take (n+1)) ls' next'∧lS ju ls') (cy.loop (js.length - n) (fun i st=> ∃ ju ls' next',j0 s st P ju next' (js.take (js.length - i))∧nT s P.x (js.take (js.length - i)) (ys.take (js.length - i+1)) ls' next'∧lS ju ls') (by omega) ⟨bD,ls,next,by rw [Nat.sub_zero,List.take_length];exact h,by rw [Nat.sub_zero,← hlen,List.take_length,List.take_length];exact c,p⟩ (fun i st ao bW=>?_) fun st bW=>?_) fun e he=>.ret he
 ·obtain⟨ju,ls',next',g,fP,uz⟩:=bW
  obtain⟨a,b,bW⟩:=g.st
  have ak:(js.take (js.length - i)).length=js.length - i:=by rw [List.length_take];omega
  obtain⟨d,hd⟩:∃ d,js.length - i=d+1:=⟨js.length - i - 1,by omega⟩
  rw [hd] at g fP bW ak
  have hw:bk (((js.take (d+1)).length:Int) - 1)=(d:Int):=by rw [ak,gA (by omega) (by omega)];omega
  refine .eq (a:=P.x) rfl (.eq bW (.eq rfl (.cond (fun _=>?_) fun ad=>?_)))
  ·refine .idx (k:=d) hw (by rw [ak];omega) (.idx (k:=d) hw (by rw [ak];omega) (.eq rfl (.eq rfl ?_)))
   have YC:d<js.length:=by omega
   have anv:js.take (d+1)=js.take d++[au js d]:=LI YC
   have PW:(js.take (d+1)).take d=js.take d:=by rw [List.take_take,Nat.min_eq_left (by omega)]
   have anw:au (js.take (d+1)) d=au js d:=by rw [dm _ (by rw [ak];omega),dm _ YC,List.getElem_take]
   simp only [PW,anw]
   rw [anv] at fP
   obtain⟨Kq,CK,KF,nR,Y4,aoc⟩:=fP.back
   have anx:(js.take d).length=d:=by rw [List.length_take];omega
   rw [anx,List.take_take,Nat.min_eq_left (by omega)] at nR
   have cg:=nR.last.perm Y4
   refine .bind (agt hs aA (g.GD (js':=js.take d) a b) (by omega) aoc cg fP.last uz) fun aD ab=>.ret ?_
   obtain⟨fi,g2,bN⟩:=ab
   rw [show js.length - (i+1)=d by omega]
   exact⟨fi,Kq,KF,g2,nR,bN.trans Y4⟩
  simp only [decide_eq_false_iff_not,ak,J9] at ad
  omega
 obtain⟨ju,ls',next',g,fP,uz⟩:=bW
 obtain⟨a,b,bW⟩:=g.st
 refine .eq (a:=P.x) rfl (.eq bW (.eq rfl (.cond (fun ad=>?_) fun _=>.ret ?_)))
 ·simp only [decide_eq_true_eq,List.length_take,J9] at ad
  omega
 by_cases oW:n≤js.length
 ·rw [show js.length - (js.length - n)=n by omega] at g fP
  exact⟨ju,ls',next',g,fP,uz⟩
 rw [show js.length - (js.length - n)=js.length by omega,List.take_length] at g fP
 have ar:js.take n=js:=List.take_of_length_le (by omega)
 have aU:ys.take (n+1)=ys:=List.take_of_length_le (by omega)
 have cz:ys.take (js.length+1)=ys:=List.take_of_length_le (by omega)
 rw [cz] at fP
 rw [ar,aU]
 exact⟨ju,ls',next',g,fP,uz⟩
end
section
variable {s:aZ} {hp:aG Cell} {P:pY} {ls bD:Nat→List aC} {next:Int} {js:List fe} {ys:List bX} {y:bX} {jI:Nat}
variable {A B:b8→Int} {N:Int→Int}
theorem L0 (hs:cr s)(aR:y.e0=s){e:bh}(he:e.bB=9):sq y e=some (-1):=by
 refine bd.get ?_;unfold sq AZ;rw [aR,he];have ak:=hs.lR;refine .bind (P:=fun r=>r= -1) ((Nb hs).bind fun r aA=>?_) fun r aA=>.ret aA;rw [aA.tables];refine(Us _ 9 (by rw [List.length_map];omega)).bind fun r aA=>.ret ?_;rcases aA with⟨rfl,_⟩ | ⟨k,hk,rfl,he⟩
 ·rfl
 rw [List.length_map,ak] at hk;rw [Bq _ (by omega),(hs.gi hk).1] at he;omega
theorem adh (h:hj s hp P bD next js A B N){e:bh}(he:e.bB=9)(fJ:Int):cy (so hp (some P.x) e fJ) (fun r=>r=(6,hp)):=by
 obtain⟨a0,nR,bq⟩:=h.st;unfold so;refine .cond (fun ad=>by cases ad) fun _=>.eq (a:=P.x) rfl (.eq bq (.bind (P:=fun r=>r=(0,6,hp)) ?_ fun an h1=>?_))
 ·unfold AD;rw [he];exact .eq (Im h.kQ.ok (.inr (by omega))) (.cond (fun _=>.ret rfl) fun ad=>by cases ad)
 subst h1;exact .cond (fun _=>.ret rfl) fun ad=>by simp at ad
theorem T8 (h:hj s hp P bD next js A B N){e:bh}(he:e.bB=9):cy (ts hp (some P.t) e) (fun r=>r=(default,6,hp)):=by
 unfold ts;rw [he];exact .eq (Im h.kQ.ok (.inr (by omega))) (.cond (fun _=>.ret rfl) fun ad=>by cases ad)
theorem adi (h:hj s hp P bD next js A B N){e:bh}(he:e.bB=9):cy (wu hp (some P.x) e) (fun r=>r=(6,hp)):=by
 obtain⟨a0,nR,bq⟩:=h.st;unfold wu;refine .cond (fun ad=>by cases ad) fun _=>.eq (a:=P.x) rfl (.eq bq (.bind (T8 h he) fun an h1=>?_));subst h1;exact .cond (fun _=>.ret rfl) fun ad=>by simp at ad
theorem adj (h:hj s hp P bD next js A B N){e:bh}(he:e.bB=9):cy (wv hp (some P.x) e) (fun r=>r=(6,hp)):=by
 obtain⟨a0,nR,bq⟩:=h.st;unfold wv x6;refine .cond (fun ad=>by cases ad) fun _=>.bind (P:=fun r=>r.2.2=(6,hp)) (.eq (a:=P.x) rfl (.eq bq (.bind (P:=fun r=>r.2=(6,hp)) ?_ fun an h1=>?_))) fun an h1=>?_
 ·unfold AE;refine .bind (T8 h he) fun an h1=>?_;subst h1;exact .cond (fun _=>.ret rfl) fun ad=>by simp at ad
 ·obtain⟨i,r⟩:=an;simp only at h1;subst h1;exact .cond (fun _=>.ret rfl) fun ad=>by simp at ad
 obtain⟨i,k,r⟩:=an;simp only at h1;subst h1;exact .cond (fun _=>.ret rfl) fun ad=>by simp at ad
theorem abX (hs:cr s)(aR:y.e0=s)(ak:y.bK.length≤1000){e:bh}(he:e.bB=9)(fJ:Int):bd (wC y e fJ) (fun r=>r=(6,y)):=by
 unfold wC;refine .eq (Nj ak) (.bind (P:=fun r=>r.2.1=6) ?_ fun aD ab=>?_)
 ·unfold AA;exact .eq (L0 hs aR he) (.cond (fun _=>.ret rfl) fun ad=>by cases ad)
 obtain⟨n,k,r⟩:=aD;simp only at ab;subst ab;exact .cond (fun _=>.ret rfl) fun ad=>by simp at ad
theorem abY (hs:cr s)(aR:y.e0=s){e:bh}(he:e.bB=9):bd (wy y e) (fun r=>r.2=(6,y)):=by
 unfold wy;exact .eq (L0 hs aR he) (.cond (fun _=>.ret rfl) fun ad=>by cases ad)
theorem abZ (hs:cr s)(aR:y.e0=s){e:bh}(he:e.bB=9):bd (wz y e) (fun r=>r.2=(6,y)):=by
 unfold wz;exact .eq (L0 hs aR he) (.cond (fun _=>.ret rfl) fun ad=>by cases ad)
def xl (s:aZ)(P:pY)(bD:Nat→List aC)(next:Int)(js:List fe)(y:bX)(a b:Int)(mI:bX)(hp':aG Cell):Prop:=
 a=b∧ ((b=0∧ ∃ lI ju next',j0 s hp' P ju next' (js++[lI])∧xH s P.x bD next lI ju next'∧hT s ju next' mI∧next'≤next+1)∨ (b≠0∧j0 s hp' P bD next js∧mI=y))
theorem hT.Kr (h:hT s bD next y){next':Int}(aH:next≤next'){mI:bX}{k:Nat}(hk:k<4){l:List aC}(g:j0 s hp P (eO bD k l) next' js)(aA:jQ s mI (eO bD k l) next')(ak:l.length≤12)
 (aW:∀ i∈l,mS i.aY∧ (rx i.dr).isSome=true∧i.b0<next') (hq:∀ x j,rx x=some j→gq (cS (eO bD k l)) x≤ (au s.eo j).jK):hT s (eO bD k l) next' mI:=by
 refine⟨aA,⟨fun j aB=>g.kQ.ok.fY aB,fun j aB=>?_⟩,fun j aB=>?_,hq,by have:=h.G8;omega⟩
 ·by_cases e:j=k
  ·subst e;rw [iQ];exact ak
  rw [jN e];exact h.ok.len j aB
 by_cases e:j=k
 ·subst e;rw [iQ];exact aW
 rw [jN e];exact fun i ao=>⟨(h.arg j aB i ao).1,(h.arg j aB i ao).2.1,by have:=(h.arg j aB i ao).2.2;omega⟩
theorem aiY (hs:cr s)(aA:jm s)(h:j0 s hp P bD next js)(cA:hT s bD next y)(aB:js.length≤1000)(aH:next<100000){k:Nat}(hk:k<4){e:bh}(he:gb s k e)(aW:mS e)(fJ:Int):
 cy (ag.bind (so hp (some P.x) e fJ) fun b1=>ag.bind (ag.of (wC y e fJ)) fun cT=>ag.ret (b1,cT)) (fun r=>xl s P bD next js y r.1.1 r.2.1 r.2.2 r.1.2):=by
 have lA:=cA.G8
 have e1:=cA.ok.len k hk
 refine .bind (Tl hs aA h (cA.G9 aA aB) hk he aW fJ (fun i ao=>(cA.arg k hk i ao).2.2) (by omega) ⟨lA,by omega⟩) fun b1 cW=>.gh (R4 hs cA.r cA.ok hk he fJ ⟨by omega,by omega⟩) fun cT c0=>.ret ?_
 by_cases aT:(df (bD k) e).isSome=true
 ·rw [if_pos aT] at cW c0
  subst cW c0
  exact⟨rfl,.inr ⟨by simp,h,rfl⟩⟩
 rw [if_neg aT] at cW c0
 by_cases bF:(au s.bS k).hv≤ ((bD k).length:Int)
 ·rw [if_pos bF] at cW c0
  subst cW c0
  exact⟨rfl,.inr ⟨by simp,h,rfl⟩⟩
 rw [if_neg bF] at cW c0
 have dK:=(hs.size hk).2
 by_cases kB:room s (gq (cS bD)) fJ=true
 ·rw [if_pos kB] at cW c0
  obtain⟨sn,g8⟩:=cW
  obtain⟨o4,Aj⟩:=c0
  have hp:=p4 (ls:=bD) hk ({ aY:=e,b0:=next,dr:=fJ } :aC)
  have g:=g8.to (yz.trans (wI hp)) (yA.trans (wJ hp)) (rB.trans (p2 hp))
  have vP:df (bD k) e=none:=by
   cases hq:df (bD k) e with
   | none=>rfl
   | some _=>rw [hq] at aT;exact absurd rfl aT
  have Cw:∃ j,rx fJ=some j∧gq (cS bD) fJ<(au s.eo j).jK:=by
   unfold room at kB;split at kB
   ·rename_i j aB;exact⟨j,aB,of_decide_eq_true kB⟩
   cases kB
  obtain⟨j,aB,hq⟩:=Cw
  refine⟨sn.trans o4.symm,.inl ⟨o4,_,_,_,g,.ins (i:=⟨e,next,fJ⟩) hk ⟨he⟩ aW vP,cA.Kr (by omega) hk g Aj (by rw [List.length_append];simp only [List.length_cons,List.length_nil];omega) (fun i ao=>?_) (fun x oz r9=>?_),Int.le_refl _⟩⟩
  ·rcases List.mem_append.1 ao with ao | ao
   ·have:=cA.arg k hk i ao
    exact⟨this.1,this.2.1,by omega⟩
   rw [List.mem_singleton] at ao
   subst ao
   exact⟨aW,by rw [aB];rfl,by simp only;omega⟩
  rw [← p2 hp,← rB]
  unfold bump
  by_cases ar:x=fJ
  ·subst ar
   rw [if_pos rfl]
   rw [aB] at r9;cases r9
   simp only;omega
  rw [if_neg ar];exact cA.quo x oz r9
 rw [if_neg kB] at cW c0
 obtain⟨sn,g8⟩:=cW
 subst c0
 rw [LG] at g8
 exact⟨sn,.inr ⟨by simp,g8,rfl⟩⟩
theorem aiZ (hs:cr s)(aA:jm s)(h:j0 s hp P bD next js)(cA:hT s bD next y)(aB:js.length≤1000){k:Nat}(hk:k<4){e:bh}(he:gb s k e)(aW:mS e):
 cy (ag.bind (wv hp (some P.x) e) fun b1=>ag.bind (ag.of (wy y e)) fun cT=>ag.ret (b1,cT)) (fun r=>xl s P bD next js y r.1.1 r.2.2.1 r.2.2.2 r.1.2):=by
 have e1:=cA.ok.len k hk
 refine .bind (ad8 hs aA h (cA.G9 aA aB) hk he aW (fun i ao=>(cA.arg k hk i ao).1) (by omega)) fun b1 cW=>.gh (aed hs cA.r cA.ok hk he) fun cT c0=>.ret ?_
 cases aT:df (bD k) e with
 | none=>
   rw [aT] at cW c0
   rw [ID aT,LG] at cW
   exact⟨cW.1.trans c0.1.symm,.inr ⟨by rw [c0.1];simp,cW.2,c0.2⟩⟩
 | some i=>
   rw [aT] at cW c0
   obtain⟨sn,g8⟩:=cW
   obtain⟨o4,Aj⟩:=c0
   obtain⟨hm,sf⟩:=nX aT
   have jq:=cA.ok.fY k hk
   have bH:(cS (eO bD k (cU (bD k) e))++[i]).Perm (cS bD):=by
    have a7:=p4 (ls:=eO bD k (cU (bD k) e)) hk i;rw [iQ,uJ] at a7;refine a7.trans (yC fun j aB=>?_);by_cases ar:j=k
    ·subst ar;rw [iQ];exact wK jq hm sf
    rw [jN ar]
   have cE:=p4 (ls:=eO bD k (cU (bD k) e)) hk ({ aY:=e,b0:=i.b0,dr:=i.dr } :aC)
   rw [iQ,uJ] at cE
   have hL:gq (cS bD)=gq (cS (eO bD k (cU (bD k) e++[({ aY:=e,b0:=i.b0,dr:=i.dr } :aC)]))):=by
    rw [← p2 bH,← p2 cE,← rB,← rB]
   have g:j0 s b1.2 P (eO bD k (cU (bD k) e++[{ aY:=e,b0:=i.b0,dr:=i.dr }])) next (js++[⟨.vG (some P.x) i.aY⟩]):=g8.to (by rw [H5 bH];exact yz.trans (wI cE)) (by rw [H6 bH];exact yA.trans (wJ cE)) hL
   have anz:=cA.arg k hk i hm
   refine⟨sn.trans o4.symm,.inl ⟨o4,_,_,_,g,.mod hk hm he aW sf,cA.Kr (Int.le_refl _) hk g Aj ?_ (fun c ad=>?_) (fun x j aB=>by rw [← hL];exact cA.quo x j aB),by omega⟩⟩
   ·have:=(wK jq hm sf).length_eq
    rw [List.length_append] at this ⊢
    simp only [List.length_cons,List.length_nil] at this ⊢
    omega
   rcases List.mem_append.1 ad with ad | ad
   ·exact cA.arg k hk c (mM.1 ad).1
   rw [List.mem_singleton] at ad
   subst ad
   exact⟨aW,anz.2⟩
theorem ai0 (hs:cr s)(aA:jm s)(h:j0 s hp P bD next js)(cA:hT s bD next y)(aB:js.length≤1000){k:Nat}(hk:k<4){e:bh}(he:gb s k e):
 cy (ag.bind (wu hp (some P.x) e) fun b1=>ag.bind (ag.of (wz y e)) fun cT=>ag.ret (b1,cT)) (fun r=>xl s P bD next js y r.1.1 r.2.2.1 r.2.2.2 r.1.2):=by
 have e1:=cA.ok.len k hk
 refine .bind (ad9 hs aA h (cA.G9 aA aB) hk he fun i ao=>⟨(cA.arg k hk i ao).1,(cA.arg k hk i ao).2.1,Tm (Ip.2 ⟨k,hk,ao⟩)⟩) fun b1 cW=>.gh (aec hs cA.r cA.ok hk he) fun cT c0=>.ret ?_
 cases aT:df (bD k) e with
 | none=>
   rw [aT] at cW c0
   rw [ID aT,LG] at cW
   exact⟨cW.1.trans c0.1.symm,.inr ⟨by rw [c0.1];simp,cW.2,c0.2⟩⟩
 | some i=>
   rw [aT] at cW c0
   obtain⟨sn,g8⟩:=cW
   obtain⟨o4,Aj⟩:=c0
   obtain⟨hm,sf⟩:=nX aT
   have jq:=cA.ok.fY k hk
   have JQ:fc e i.aY=true:=by rw [rF];exact sf
   rw [T7 JQ] at g8 Aj
   have bH:(cS (eO bD k (cU (bD k) i.aY))++[i]).Perm (cS bD):=by
    have a7:=p4 (ls:=eO bD k (cU (bD k) i.aY)) hk i;rw [iQ,uJ] at a7;refine a7.trans (yC fun j aB=>?_);by_cases ar:j=k
    ·subst ar;rw [iQ];exact wK jq hm (nY _)
    rw [jN ar]
   have g:=g8.to (H5 bH) (H6 bH) (SA bH)
   refine⟨sn.trans o4.symm,.inl ⟨o4,_,_,_,g,.del hk hm,cA.Kr (Int.le_refl _) hk g Aj (Nat.le_trans (Io _ _) e1) (fun c ad=>cA.arg k hk c (mM.1 ad).1) (fun x j aB=>?_),by omega⟩⟩
   have:=cA.quo x j aB
   rw [← p2 bH,← rB] at this
   unfold bump at this
   by_cases ar:x=i.dr
   ·rw [if_pos ar,← ar] at this;omega
   rw [if_neg ar] at this;exact this
theorem agu (hs:cr s)(aA:jm s)(h:j0 s hp P bD next js)(cA:hT s bD next y)(aB:js.length≤1000)(aH:next<100000)(c:eg)(ad:hR c):
 cy (En hp (some P.x) y c) (fun r=>r.1=true∧hR r.2.2.2.1∧xl s P bD next js y (if r.2.1=true then 0 else 1) (if r.2.1=true then 0 else 1) r.2.2.1 r.2.2.2.2):=by
 unfold En
 have anA:=cA.r.len cA.ok
 refine .gh (gy c 4 ad (by omega)) fun an h1=>?_
 rw [cA.r.ow]
 refine .gh (bd.par (acS an.2 an.1 h1.1 hs) (ade an.2 hs an.1)) fun aD ab=>?_
 obtain⟨⟨c2,bz,dh,_,oZ⟩,oh⟩:=ab
 refine .bind (P:=fun bf=>hR bf.2∧ (bf.1=true→0<y.bK.length)) (.cond (fun ak=>?_) fun _=>.ret ⟨c2,fun bQ=>by cases bQ⟩) fun bf ax=>?_
 ·exact .of ((pd _ c2).mono fun r aA=>⟨aA,fun _=>by simp at ak;exact ak⟩)
 refine .gh (P:=fun m=>hR m.1∧ ∃ k,k<4∧gb s k m.2∧mS m.2) (.cond (fun hb=>?_) fun _=>.ret ⟨ax.1,bz,dh,oZ,oh⟩) fun m1 b4=>?_
 ·simp only [Bool.and_eq_true] at hb
  have asu:=ax.2 hb.2
  refine .bind (gy _ _ ax.1 (by omega)) fun jn ur=>.eq (uT ur.2.1 ur.2.2.1) ?_
  have Ph:jn.1.toNat<y.bK.length:=by have:=ur.2.1;have:=ur.2.2.1;omega
  obtain⟨Qs,PX,anB,GG⟩:=cA.r.dF cA.ok (qN Ph)
  have anC:=(cA.arg Qs PX _ anB).1
  refine .bind (P:=fun m=> ∃ k,k<4∧gb s k m∧mS m) (.cond (fun _=>.eq rfl (.ret ⟨Qs,PX,?_,oh⟩)) fun _=>.ret ⟨Qs,PX,GG.dF,anC⟩) fun m hm=>.ret ⟨ur.1,hm⟩
  exact⟨GG.dF.gi,GG.dF.len,GG.dF.CE,oZ.args,GG.dF.pri⟩
 obtain⟨anD,k,hk,he,aW⟩:=b4
 refine .gh (gy _ 12 anD (by omega)) fun cd a7=>.gh (P:=fun m=>m.bB=9∨ (gb s k m∧mS m)) (.cond (fun _=>.ret (.inl rfl)) fun _=>.ret (.inr ⟨he,aW⟩)) fun m2 dj=>?_
 refine .gh (gy _ 5 a7.1 (by omega)) fun b9 bl=>.gh (P:=fun _=>True) (.cond (fun _=>.ret trivial) fun _=>.bind (P:=fun _=>True) (.cond (fun _=>.ret trivial) fun _=>.ret trivial) fun _ _=>.ret trivial) fun m3 _=>?_
 have fin:∀ (a b:Int) (mI:bX) (hp':aG Cell) (fP:eg),hR fP→xl s P bD next js y a b mI hp'→ (a==b)=true∧hR fP∧xl s P bD next js y (if (b==0)=true then 0 else 1) (if (b==0)=true then 0 else 1) mI hp':=fun a b mI hp' fP ot hd=>by
  refine⟨by simp [hd.1],ot,rfl,?_⟩;by_cases e:b=0
  ·rw [if_pos (by simp [e])];rcases hd.2 with h1 | h1
   ·exact .inl ⟨rfl,h1.2⟩
   exact absurd e h1.1
  rw [if_neg (by simp [e])];rcases hd.2 with h1 | h1
  ·exact absurd h1.1 e
  exact .inr ⟨by simp,h1.2⟩
 refine .bind (P:=fun m4=>hR m4.2.2.1∧xl s P bD next js y m4.1 m4.2.1 m4.2.2.2.1 m4.2.2.2.2) (.cond (fun _=>?_) fun _=>.bind (P:=fun m5=>xl s P bD next js y m5.1 m5.2.1 m5.2.2.1 m5.2.2.2) (.cond (fun _=>?_) fun _=>?_) fun m5 a7=>.ret ⟨bl.1,a7⟩) fun m4 aO=>.ret (fin _ _ _ _ _ aO.1 aO.2)
 ·refine .gh (gy _ 5 bl.1 (by omega)) fun cC cN=>.eq (uT cN.2.1 (by simpa using cN.2.2.1)) ?_
  rcases dj with dj | ⟨dj,oh⟩
  ·refine .bind (adh h dj _) fun b1 cW=>.gh (abX hs cA.r.ow (by omega) dj _) fun cT c0=>.ret ?_
   subst cW c0
   exact⟨cN.1,rfl,.inr ⟨by simp,h,rfl⟩⟩
  have hd:=aiY hs aA h cA aB aH hk dj oh (au ([1,1,2,7,5]:List Int) cC.1.toNat)
  exact fun Q wo=>hd (fun r=>Q (r.1.1,r.2.1,cC.2,r.2.2,r.1.2)) fun r aA=>wo _ ⟨cN.1,aA⟩
 ·rcases dj with dj | ⟨dj,oh⟩
  ·refine .bind (adj h dj) fun b1 cW=>.gh (abY hs cA.r.ow dj) fun cT c0=>.ret ?_
   obtain⟨z,cT⟩:=cT
   simp only at c0;subst cW c0
   exact⟨rfl,.inr ⟨by simp,h,rfl⟩⟩
  have hd:=aiZ hs aA h cA aB hk dj oh
  exact fun Q wo=>hd (fun r=>Q (r.1.1,r.2.2.1,r.2.2.2,r.1.2)) fun r aA=>wo _ aA
 rcases dj with dj | ⟨dj,oh⟩
 ·refine .bind (adi h dj) fun b1 cW=>.gh (abZ hs cA.r.ow dj) fun cT c0=>.ret ?_
  obtain⟨z,cT⟩:=cT
  simp only at c0;subst cW c0
  exact⟨rfl,.inr ⟨by simp,h,rfl⟩⟩
 have hd:=ai0 hs aA h cA aB hk dj
 exact fun Q wo=>hd (fun r=>Q (r.1.1,r.2.2.1,r.2.2.2,r.1.2)) fun r aA=>wo _ aA
end
section
variable {s:aZ} {hp:aG Cell} {P:pY} {ls bD:Nat→List aC} {next:Int} {js:List fe} {ys:List bX} {y:bX} {jI:Nat}
theorem LJ (h:j0 s hp P bD next js):x3 hp (some P.x)=some (some P.t):=by
 obtain⟨a,b,h1⟩:=h.st;refine bd.get ?_;unfold x3;exact .cond (fun ad=>by cases ad) fun _=>.eq rfl (.eq h1 (.ret rfl))
theorem UK (h:j0 s hp P bD next js):Ay hp (some P.x)=some next:=by
 refine bd.get ?_;unfold Ay;exact .eq (LJ h) (.eq (afj h.kQ.ok) (.ret rfl))
theorem ai1 (hs:cr s)(h:j0 s hp P bD next js)(cA:hT s bD next y):cy (DS hp (some P.x)) (fun r=>r=(y.bK,hp)):=by
 unfold DS;refine .eq (LJ h) (.bind (agr hs h.kQ.ok cA.r cA.ok) fun r aA=>.ret ?_);subst aA;rfl
theorem agv (hs:cr s)(h:j0 s hp P bD next js):DA hp (some P.x)=some [⟨1,gq (cS bD) 1⟩,⟨2,gq (cS bD) 2⟩,⟨7,gq (cS bD) 7⟩]:=by
 obtain⟨a,b,h1⟩:=h.st;refine bd.get ?_;unfold DA;exact .cond (fun ad=>by cases ad) fun _=>.eq rfl (.eq h1 ((aiX hs h.quo).bind fun r aA=>.ret aA))
theorem Wh (hs:cr s)(aA:jm s):hT s (fun _=>[]) 1 ⟨s,[],1⟩:=by
 refine⟨⟨rfl,rfl,.nil,.refl _⟩,⟨fun k hk=>⟨⟨fun i ao=>by simp at ao,.nil,by simp⟩,.nil⟩,fun k hk=>by simp⟩,fun k hk i ao=>by simp at ao,fun x j aB=>?_,by simp⟩;have:=aA.quo _ (qN (show j<s.eo.length by rw [hs.og];exact zb aB));exact this
theorem UL (hs:cr s)(aA:jm s)(h:j0 s hp P bD 1 [])(cA:hT s bD 1 y)(he:lS bD fun _=>[]):
 cy (so hp (some P.x) CJ 1) (fun r=>r.1=0∧ ∃ lI ju mI,j0 s r.2 P ju 2 [lI]∧xH s P.x bD 1 lI ju 2∧hT s ju 2 mI):=by
 have oS:∀ k,k<4→bD k= []:=fun k hk=>(he k hk).eq_nil
 have vo:cS bD= []:=by unfold cS;rw [oS 0 (by decide),oS 1 (by decide),oS 2 (by decide),oS 3 (by decide)];rfl
 have aT:df (bD 0) CJ=none:=by rw [oS 0 (by decide)];rfl
 have dK: ¬ (au s.bS 0).hv≤ ((bD 0).length:Int):=by
  have:=(hs.size (k:=0) (by decide)).1;rw [oS 0 (by decide)];simp;omega
 have kB:room s (gq (cS bD)) 1=true:=by
  rw [vo];show decide ((0:Int)<(au s.eo 0).jK)=true;rw [aA.all];decide
 have aH:(df (bD 0) CJ).isSome=false:=by rw [aT];rfl
 refine(Tl hs aA h (cA.G9 aA (by simp)) (k:=0) (by decide) (Ng hs) (fun bQ=>by rcases bQ with bQ | bQ <;> cases bQ) 1 (fun i ao=>by rw [oS 0 (by decide)] at ao;cases ao) (by rw [oS 0 (by decide)];decide) ⟨by omega,by omega⟩).mono fun r cW=>?_
 obtain⟨Aj,o4,c0⟩:=R4 hs cA.r cA.ok (k:=0) (by decide) (Ng hs) 1 ⟨by omega,by omega⟩
 rw [if_neg (by rw [aH];simp),if_neg dK,if_pos kB] at cW c0
 obtain⟨sn,g8⟩:=cW
 have hp:=p4 (ls:=bD) (k:=0) (by decide) ({ aY:=CJ,b0:=1,dr:=1 } :aC)
 have g:=g8.to (yz.trans (wI hp)) (yA.trans (wJ hp)) (rB.trans (p2 hp))
 refine⟨sn,_,_,_,g,.ins (k:=0) (i:=⟨CJ,1,1⟩) (by decide) ⟨Ng hs⟩ (fun bQ=>by rcases bQ with bQ | bQ <;> cases bQ) aT,cA.Kr (by omega) (by decide) g c0.2 (by rw [oS 0 (by decide)];simp) (fun i ao=>?_) fun x j aB=>?_⟩
 ·rw [oS 0 (by decide),List.nil_append,List.mem_singleton] at ao
  subst ao
  exact⟨fun bQ=>(by rcases bQ with bQ | bQ <;> cases bQ),rfl,by simp only;omega⟩
 rw [← p2 hp,← rB,vo]
 unfold bump
 by_cases ar:x=1
 ·subst ar
  cases aB
  rw [if_pos rfl,aA.all];decide
 rw [if_neg ar]
 have:=aA.quo _ (qN (show j<s.eo.length by rw [hs.og];exact zb aB))
 exact this
theorem adk (hp:aG Cell):cy (Ej hp) (fun r=>r.1=true):=by
 unfold Ej;refine .gh (Ml [] 0 (by omega) (by omega)) fun an h1=>.gh (bd.par (RV an h1) (R2 an)) fun aD ab=>?_;obtain⟨⟨hs,_⟩,aA⟩:=ab;refine .bind (Wg hs aA hp) fun bf ax=>?_;obtain⟨P,cz,g0⟩:=ax;obtain⟨asv,hZ⟩:=bf;simp only at cz g0;subst cz;refine .eq rfl ?_;have cg:=Wh hs aA;refine .bind (UL hs aA g0 cg .refl) fun bu aO=>?_;obtain⟨eL,lI,bD,mI,g1,KG,s1⟩:=aO;have c1:nT aD.1 P.x [lI] [⟨aD.1,[],1⟩,mI] bD 2:= .snoc (js:= []) (ys:= [⟨aD.1,[],1⟩]) (.nil cg) .refl KG s1;refine .bind (UJ hs aA g1 (by simp) c1 .refl 0) fun cd a7=>?_;obtain⟨fi,ls',qE,g2,c2,bN⟩:=a7;have g2:j0 aD.1 cd P fi qE []:=g2;have c2:nT aD.1 P.x [] [⟨aD.1,[],1⟩] ls' qE:=c2;have cA:hT aD.1 ls' qE ⟨aD.1,[],1⟩:=c2.last;have hK:qE=1:=cA.r.num.symm;subst hK;have F8:lS ls' fun _=>[]:=by
  have h:=cA.r.o0;intro k hk;have oS:cS ls'= []:=h.symm.eq_nil;have:ls' k= []:=by
   cases ak:ls' k with
   | nil=>rfl
   | cons i r=>
     have:i∈cS ls':=Ip.2 ⟨k,hk,by rw [ak];exact List.mem_cons_self⟩
     rw [oS] at this;cases this
  rw [this]
 refine .bind (UL hs aA g2 (cA.perm bN) (bN.trans F8)) fun b9 bl=>?_;obtain⟨lG,anE,asw,asx,g6,_,_⟩:=bl;obtain⟨aod,aoe,anF⟩:=g6.st;rw [eL,lG];refine .eq (a:=P.x) rfl (.eq (a:=(⟨some P.t,some P.r,some P.q,[anE]⟩,aod,aoe)) (by unfold cb;exact(if_pos (by rfl)).trans anF) (.eq (a:=(1:Int)) rfl (.eq (a:=(2:Int)) ?_ (.ret rfl))));unfold cb;exact(if_pos (by rfl)).trans (UK g6)
end
def je:b8→b8→Int:=jr (fun x y=>ey x.bB y.bB) (jr (fun x y=>ey x.eY y.eY) (fun x y=>ey (fW x.ck) (fW y.ck)))
theorem tT:l0 je:=(rU.on fun x:b8=>x.bB).jr ((rU.on fun x:b8=>x.eY).jr (rU.on fun x:b8=>fW x.ck))
theorem My {x y:b8}(h:je x y=0):x=y:=by
 obtain⟨h1,ab⟩:=uM h;obtain⟨ab,ax⟩:=uM ab;have ar:=ku.1 h1;have aU:=ku.1 ab;have cz:=yZ (ku.1 ax);obtain⟨a,b,c⟩:=x;obtain⟨gv,b',fP⟩:=y;simp only at ar aU cz;subst ar aU cz;rfl
theorem ai2 {x y z:b8}(h1:je x y<0)(ab:je y z<0):je x z<0:=by
 have ax:=tT.nh x y z (by omega) (by omega);by_cases e:je x z=0
 ·have:=My e;subst this;have:=tT.neg x y;omega
 omega
theorem T9:∀ {xs ys:List b8},xs.Pairwise (fun a b=>je a b<0)→ys.Pairwise (fun a b=>je a b<0)→ (∀ x,x∈xs↔x∈ys)→xs=ys
 | [],[],_,_,_=>rfl
 | [],y::t,_,_,h=>by have:=(h y).2 List.mem_cons_self;cases this
 | x::r,[],_,_,h=>by have:=(h x).1 List.mem_cons_self;cases this
 | x::r,y::t,h1,ab,h=>by
   obtain⟨bT,a2⟩:=List.pairwise_cons.1 h1;obtain⟨dJ,ew⟩:=List.pairwise_cons.1 ab;have e:x=y:=by
    rcases List.mem_cons.1 ((h x).1 List.mem_cons_self) with e | al
    ·exact e
    rcases List.mem_cons.1 ((h y).2 List.mem_cons_self) with e | aR
    ·exact e.symm
    have g1:=bT y aR;have g2:=dJ x al;have:=tT.neg x y;omega
   subst e;have hs:∀ z,je z z=0:=tT.self;rw [T9 a2 ew fun z=>⟨fun bF=>?_,fun bF=>?_⟩]
   ·rcases List.mem_cons.1 ((h z).1 (List.mem_cons_of_mem _ bF)) with e | ax
    ·subst e;have:=bT z bF;rw [hs] at this;omega
    exact ax
   rcases List.mem_cons.1 ((h z).2 (List.mem_cons_of_mem _ bF)) with e | ax
   ·subst e;have:=dJ z bF;rw [hs] at this;omega
   exact ax
theorem ai3 {l:List Int}(ak:l.length≤1000):El l=some (kj l):=by
 refine bd.get ?_;unfold El;refine .bind (P:=fun e=>(∃ q,e= .inl q∧kj l=0)∨ ∃ q:Int×Int×Int×Bool×Bool,e= .inr q∧q.1=kj l)
  (bd.jl l.length (fun j st=>st=(j:Int)∧kj l=kj (l.drop j)) (by omega) ⟨rfl,rfl⟩ (fun j st aB hs=>?_) (fun st hs=>?_)) fun e he=>?_
 ·obtain⟨rfl,hs⟩:=hs;rw [List.drop_eq_getElem_cons aB] at hs;have hs:kj l=if l[j]=0 then kj (l.drop (j+1)) else l[j]:=hs;refine .cond (fun _=>.idx rfl aB ?_) fun ad=>by simp at ad;omega
  rw [dm _ aB];refine .cond (fun ad=>.ret (.inr ⟨_,rfl,?_⟩)) fun ad=>.ret ⟨dR (by omega),?_⟩
  ·have:l[j]≠0:=by simpa using ad
   rw [hs,if_neg this]
  have:l[j]=0:=by simpa using ad
  rw [hs,if_pos this]
 ·obtain⟨rfl,hs⟩:=hs;refine .cond (fun ad=>by simp at ad) fun _=>.ret (.inl ⟨_,rfl,?_⟩);rw [hs,List.drop_length];rfl
 rcases he with⟨q,rfl,hq⟩ | ⟨q,rfl,hq⟩
 ·simp only [Sum.elim_inl];exact .ret hq.symm
 simp only [Sum.elim_inr];exact .ret hq
theorem agw (a b:gV):Dq a b=some (je a.cI b.cI):=by
 unfold Dq;rw [u3,u3,Mv];simp only [Option.bind_some];rw [ai3 (by simp)];simp only [Option.bind_some,kj,je,jr];congr 1;split
 ·split
  ·split
   ·rename_i h;exact h.symm
   rfl
  rfl
 rfl
structure wq (T:List b8)(N M:List Int)(A B:b8→Int):Prop where
 uw:T.Pairwise (fun a b=>je a b<0)
 mem:∀ x,x∈T↔ ¬ (A x=0∧B x=0)
 n:N=T.map A
 m:M=T.map B
theorem wq.uniq {T Qt:List b8}{N M xX Y5:List Int}{A B:b8→Int}(h:wq T N M A B)(k:wq Qt xX Y5 A B):T=Qt∧N=xX∧M=Y5:=by
 have e:T=Qt:=T9 h.uw k.uw fun x=>by rw [h.mem,k.mem]
 subst e;exact⟨rfl,h.n.trans k.n.symm,h.m.trans k.m.symm⟩
theorem Mz {α β:Type}[DecidableEq α]:∀ {l:List (α×β)} {x:α} {v:β},oA l→ (x,v)∈l→dD l x=some v
 | (k,w)::r,x,v,hk,h=>by
   obtain⟨h1,ab⟩:=List.pairwise_cons.1 hk;show(if x=k then some w else dD r x)=some v;rcases List.mem_cons.1 h with e | h
   ·cases e;exact if_pos rfl
   have:k≠x:=h1 (x,v) h;rw [if_neg (Ne.symm this)];exact Mz ab h
theorem UM {s:aZ}{hp:aG Cell}{p m:Nat}{A B:b8→Int}(h:lX s hp p m A B)(hlen:∀ kv,pr hp m=some kv→kv.length≤1000):
 cy (AS hp (some p)) (fun r=>r.2=hp∧r.1.length≤1000∧wq (r.1.map (·.cI)) (r.1.map (·.hM)) (r.1.map (·.hC)) A B):=by
 obtain⟨em,ab,jT,bA⟩:=h.map
 have s7:=hlen em ab
 let F:Nat→gV:=fun q=>⟨(au em q).1,(au em q).2.p3,(au em q).2.p1⟩
 have xe:∀ vis,Met em.length vis→ (∀ j,j<em.length→j∈vis)→ (vis.map F).Perm (em.map fun x=>(⟨x.1,x.2.p3,x.2.p1⟩:gV)):=fun vis bb aW=>by
  refine((bb.perm aW).map _).trans ?_;rw [show(List.range em.length).map F=((List.range em.length).map (fun q=>au em q)).map (fun x=>(⟨x.1,x.2.p3,x.2.p1⟩:gV)) by rw [List.map_map];rfl,St]
 unfold AS
 refine .cond (fun ad=>by cases ad) fun _=>.eq rfl (.eq h.cell (.eq (a:=m) rfl (.eq ab ?_)))
 refine .bind (P:=fun e=>e.2.2.Perm (em.map fun x=>(⟨x.1,x.2.p3,x.2.p1⟩:gV))) (cy.loop em.length (fun j st=> ∃ vis,st=(vis,vis.map F)∧vis.length=j∧Met em.length vis) (by omega) ⟨[],rfl,rfl,.nil,by simp⟩ (fun j st aB hs=>?_) (fun st hs=>?_)) fun e he=>?_
 ·obtain⟨vis,rfl,r7,bb⟩:=hs
  refine .next fun o bg=>?_
  cases o with
  | none=>exact .cond (fun ad=>by cases ad) fun _=>.ret (xe vis bb bg)
  | some q=>
    refine .cond (fun _=>.eq rfl (.eq rfl (.eq (fM _ _ (by simp;omega) (by omega)) (.ret ⟨vis++[q],?_,by simp [r7],bb.more bg⟩)))) fun ad=>by cases ad
    rw [List.map_append];rfl
 ·obtain⟨vis,rfl,r7,bb⟩:=hs
  refine .next fun o bg=>?_
  cases o with
  | none=>exact .cond (fun ad=>by cases ad) fun _=>.ret (xe vis bb bg)
  | some q=>exact absurd (bb.full r7 bg.1) bg.2
 have hle:=he.length_eq
 rw [List.length_map] at hle
 refine .bind (cy.u4 (c:=fun a b=>je a.cI b.cI) ⟨fun x y=>tT.neg _ _,fun x y z=>tT.nh _ _ _⟩ (by omega) fun a _ b _=>agw a b) fun y aR=>.ret ?_
 have b3:y.Perm (em.map fun x=>(⟨x.1,x.2.p3,x.2.p1⟩:gV)):=aR.1.trans he
 have th:(y.map (·.cI)).Perm (em.map (·.1)):=by
  have:=b3.map (·.cI);rwa [List.map_map] at this
 have hm:∀ c∈y,∃ x∈em,c=⟨x.1,x.2.p3,x.2.p1⟩:=fun c ad=>by
  obtain⟨x,al,e⟩:=List.mem_map.1 (b3.mem_iff.1 ad);exact⟨x,al,e.symm⟩
 have bb:∀ x∈em,¬ (A x.1=0∧B x.1=0)∧x.2=⟨A x.1,B x.1⟩:=fun x al=>by
  have c0:=bA x.1;rw [Mz jT al] at c0;split at c0
  ·cases c0
  rename_i bF;exact⟨bF,Option.some.inj c0⟩
 have kk:(y.map (·.cI)).Nodup:=th.nodup_iff.2 (List.pairwise_map.2 jT)
 refine⟨rfl,(by have:=b3.length_eq;rw [List.length_map] at this;show y.length≤1000;omega),⟨?_,fun x=>?_,?_,?_⟩⟩
 ·have cW:(y.map (·.cI)).Pairwise (fun a b=>je a b≤0):=List.pairwise_map.2 aR.2
  refine(cW.and kk).imp fun {a b} PV=>?_
  have:je a b≠0:=fun e=>PV.2 (My e)
  omega
 ·rw [th.mem_iff,List.mem_map]
  constructor
  ·rintro ⟨z,bF,rfl⟩;exact(bb z bF).1
  intro al
  have c0:=bA x
  rw [if_neg al] at c0
  exact⟨_,LV c0,rfl⟩
 ·rw [List.map_map]
  refine List.map_congr_left fun c ad=>?_
  obtain⟨x,al,rfl⟩:=hm c ad
  exact congrArg ks.p3 (bb x al).2
 rw [List.map_map]
 refine List.map_congr_left fun c ad=>?_
 obtain⟨x,al,rfl⟩:=hm c ad
 exact congrArg ks.p1 (bb x al).2
def ut (t:eI):b8:=⟨t.bB,t.eY,t.ck⟩
theorem Nk {a b:eI}(h:ut a=ut b):a=b:=by
 obtain⟨x,y,z⟩:=a;obtain⟨GY,mI,asV⟩:=b;cases h;rfl
theorem adl (a b:eI):Ef a b=some (decide (je (ut a) (ut b)<0)):=by
 refine bd.get ?_;unfold Ef;have e:je (ut a) (ut b)=if ey a.bB b.bB=0 then(if ey a.eY b.eY=0 then ey (fW a.ck) (fW b.ck) else ey a.eY b.eY) else ey a.bB b.bB:=rfl;rw [e];refine .cond (fun ad=>.ret ?_) fun ad=>.cond (fun hd=>.ret ?_) fun hd=>(EP _ _).bind fun r aA=>.ret ?_
 ·have ad:a.bB≠b.bB:=by simpa using ad
  rw [if_neg fun h=>ad (ku.1 h),decide_eq_decide,Fh]
 ·have ad:a.bB=b.bB:=by simpa using ad
  have hd:a.eY≠b.eY:=by simpa using hd
  rw [if_pos (ku.2 ad),if_neg fun h=>hd (ku.1 h),decide_eq_decide,Fh]
 have ad:a.bB=b.bB:=by simpa using ad
 have hd:a.eY=b.eY:=by simpa using hd
 rw [if_pos (ku.2 ad),if_pos (ku.2 hd),decide_eq_decide];exact aA.1
def rr (R:List eF):List b8:=R.map fun c=>ut c.cI
def nk (R:List eF)(A B:b8→Int):Prop:=wq (rr R) (R.map (·.hM)) (R.map (·.hC)) A B
theorem aef {α:Type}{r:α→α→Prop}{a b:List α}{x:α}(h:(a++b).Pairwise r)(h1:∀ c∈a,r c x)(ab:∀ c∈b,r x c):(a++x::b).Pairwise r:=by
 rw [List.pairwise_append] at h ⊢;refine⟨h.1,List.pairwise_cons.2 ⟨ab,h.2.1⟩,fun c ad d hd=>?_⟩;rcases List.mem_cons.1 hd with rfl | hd
 ·exact h1 c ad
 exact h.2.2 c ad d hd
theorem adm {α:Type}[Inhabited α]{l:List α}{i:Nat}(ao:i<l.length)(v:α):hD l i v=l.take i++v::l.drop (i+1):=by unfold hD;exact List.set_eq_take_append_cons_drop .. |>.trans (if_pos ao)
theorem acm {α:Type}[Inhabited α]{l:List α}{i:Nat}(ao:i<l.length):l=l.take i++au l i::l.drop (i+1):=by
 conv=>lhs;rw [← List.take_append_drop i l]
 rw [List.drop_eq_getElem_cons ao,dm _ ao]
theorem nk.el {R:List eF}{A B:b8→Int}(h:nk R A B){c:eF}(ad:c∈R):c.hM=A (ut c.cI)∧c.hC=B (ut c.cI):=by
 have h1:=h.n;have ab:=h.m;unfold rr at h1 ab;rw [List.map_map] at h1 ab;exact⟨List.map_inj_left.1 h1 _ ad,List.map_inj_left.1 ab _ ad⟩
theorem nk.ins {a m b:List eF}{A B:b8→Int}(h:nk (a++m++b) A B){t:eI}{n p:Int}(PY:n=1∧p=0∨n=0∧p=1)(eM:∀ x,0≤A x∧A x≤100000)(fo:∀ x,0≤B x∧B x≤100000)
 (hm:∀ c∈m,c.cI=t) (h1:∀ c∈a,je (ut c.cI) (ut t)<0) (ab:∀ c∈b,je (ut t) (ut c.cI)<0):nk (a++⟨t,A (ut t)+n,B (ut t)+p⟩::b) (mh A (ut t) n) (mh B (ut t) p):=by
 have hs:∀ z,je z z=0:=tT.self
 have lY:∀ c∈a,ut c.cI≠ut t:=fun c ad e=>by have:=h1 c ad;rw [e,hs] at this;omega
 have CR:∀ c∈b,ut c.cI≠ut t:=fun c ad e=>by have:=ab c ad;rw [e,hs] at this;omega
 have s7:∀ c∈a++⟨t,A (ut t)+n,B (ut t)+p⟩::b,c.hM=mh A (ut t) n (ut c.cI)∧c.hC=mh B (ut t) p (ut c.cI):=fun c ad=>by
  unfold mh;rcases List.mem_append.1 ad with ad | ad
  ·rw [if_neg (lY c ad),if_neg (lY c ad)];exact h.el (List.mem_append_left _ (List.mem_append_left _ ad))
  rcases List.mem_cons.1 ad with rfl | ad
  ·rw [if_pos rfl,if_pos rfl];exact⟨rfl,rfl⟩
  rw [if_neg (CR c ad),if_neg (CR c ad)];exact h.el (List.mem_append_right _ ad)
 refine⟨?_,fun x=>?_,?_,?_⟩
 ·unfold rr
  rw [List.map_append,List.map_cons]
  refine aef ?_ (fun c ad=>?_) fun c ad=>?_
  ·have ax:=h.uw
   unfold rr at ax
   rw [List.map_append,List.map_append] at ax
   exact ax.sublist ((List.sublist_append_left _ _).append (.refl _))
  ·obtain⟨d,hd,rfl⟩:=List.mem_map.1 ad;exact h1 d hd
  obtain⟨d,hd,rfl⟩:=List.mem_map.1 ad;exact ab d hd
 ·have hb:=eM x
  have mB:=fo x
  have al:=h.mem x
  unfold rr at al ⊢
  simp only [List.map_append,List.map_cons,List.mem_append,List.mem_cons] at al ⊢
  by_cases e:x=ut t
  ·have ar:mh A (ut t) n x=A x+n:=if_pos e
   have aU:mh B (ut t) p x=B x+p:=if_pos e
   rw [ar,aU]
   exact⟨fun _=>by omega,fun _=>.inr (.inl e)⟩
  have ar:mh A (ut t) n x=A x:=if_neg e
  have aU:mh B (ut t) p x=B x:=if_neg e
  rw [ar,aU,← al]
  constructor
  ·rintro (ax | ax | ax)
   ·exact .inl (.inl ax)
   ·exact absurd ax e
   exact .inr ax
  rintro ((ax | ax) | ax)
  ·exact .inl ax
  ·obtain⟨d,hd,eL⟩:=List.mem_map.1 ax
   rw [hm d hd] at eL;exact absurd eL.symm e
  exact .inr (.inr ax)
 ·unfold rr;rw [List.map_map];exact List.map_congr_left fun c ad=>(s7 c ad).1
 unfold rr;rw [List.map_map];exact List.map_congr_left fun c ad=>(s7 c ad).2
theorem aeg {α:Type}(l:List α){k:Nat}(hk:k≤l.length):l3 l 0 (k:Int)=some (l.take k):=by
 unfold l3;rw [if_pos ⟨by omega,by omega,by omega⟩];simp
theorem aeh {α:Type}(l:List α){k:Nat}(hk:k≤l.length):l3 l (k:Int) (l.length:Int)=some (l.drop k):=by
 unfold l3;rw [if_pos ⟨by omega,by omega,by omega⟩];simp only [Int.toNat_natCast,Option.some.injEq];rw [List.take_of_length_le (by rw [List.length_drop];omega)]
theorem put_eq {R:List eF}{A B:b8→Int}(h:nk R A B)(t:eI){n p:Int}(PY:n=1∧p=0∨n=0∧p=1)(hlen:R.length≤1000)(eM:∀ x,0≤A x∧A x≤100000)(fo:∀ x,0≤B x∧B x≤100000):
 bd (Ba R t n p) (fun uy=>uy.length≤R.length+1∧nk uy (mh A (ut t) n) (mh B (ut t) p)):=by
 have YD:∀ i j,i<j→j<R.length→je (ut (au R i).cI) (ut (au R j).cI)<0:=fun i j fS aB=>by
  have:=List.pairwise_iff_getElem.1 (List.pairwise_map.1 h.uw) i j (by omega) aB fS;rw [dm _ aB,dm _ (by omega:i<R.length)];exact this
 have N6:∀ i,i≤R.length→ (∀ q,q<i→je (ut (au R q).cI) (ut t)<0)→ ∀ c∈R.take i,je (ut c.cI) (ut t)<0:=fun i ao hq c ad=>by
  obtain⟨q,iZ,e⟩:=List.getElem_of_mem ad;rw [List.length_take] at iZ;rw [List.getElem_take] at e;have:=hq q (by omega);rw [dm _ (by omega:q<R.length),e] at this;exact this
 have Wi:∀ i k,i<R.length→k≤R.length→ (∀ q,k≤q→q<R.length→je (ut t) (ut (au R q).cI)<0)→ ∀ c∈R.drop k,je (ut t) (ut c.cI)<0:=fun i k _ hk hq c ad=>by
  obtain⟨q,iZ,e⟩:=List.getElem_of_mem ad;rw [List.length_drop] at iZ;rw [List.getElem_drop] at e;have:=hq (k+q) (by omega) (by omega);rw [dm _ (by omega:k+q<R.length),e] at this;exact this
 unfold Ba
 refine .bind (P:=fun e=> ∃ i:Nat,e.1=(i:Int)∧i≤R.length∧ (∀ q,q<i→je (ut (au R q).cI) (ut t)<0)∧ (i<R.length→ ¬ je (ut (au R i).cI) (ut t)<0))
  (bd.jl R.length (fun j st=>st=(j:Int)∧ ∀ q,q<j→je (ut (au R q).cI) (ut t)<0) (by omega) ⟨rfl,fun q hq=>by omega⟩ (fun j st aB hs=>?_) (fun st hs=>?_)) fun e he=>?_
 ·obtain⟨rfl,hs⟩:=hs
  have ad:decide ((j:Int)<(R.length:Int))=true:=by simpa using aB
  rw [ad]
  refine .eq (a:=j) (by unfold cb;rw [if_pos rfl];exact kY aB) (.eq (a:=decide (je (ut (au R j).cI) (ut t)<0)) (by unfold cb;rw [if_pos rfl];exact adl _ _) ?_)
  refine .cond (fun hb=>.ret ⟨dR (by omega),fun q hq=>?_⟩) fun hb=>.ret ⟨j,rfl,by omega,hs,fun _=>by simpa using hb⟩
  rcases Nat.lt_succ_iff_lt_or_eq.1 hq with h1 | h1
  ·exact hs q h1
  subst h1;simpa using hb
 ·obtain⟨rfl,hs⟩:=hs
  have ad:decide ((R.length:Int)<(R.length:Int))=false:=by simp
  rw [ad]
  refine .eq (a:=default) (by unfold cb;rfl) (.eq (a:=default) (by unfold cb;rfl) (.cond (fun hb=>by simp at hb) fun _=>.ret ⟨R.length,rfl,Nat.le_refl _,hs,fun bQ=>by omega⟩))
 obtain⟨i,Ak,ao,hg,gr⟩:=he
 rw [Ak]
 have new:(∀ c∈R.drop i,je (ut t) (ut c.cI)<0)→bd ((l3 R 0 (i:Int)).bind fun aD=>(eA 48 ([]:List eF) aD).bind fun bf=>(eA 48 bf [{ cI:=t,hM:=n,hC:=p:eF }]).bind fun bu=>(l3 R (i:Int) R.length).bind fun cd=>(eA 48 bu cd).bind fun b9=>some b9) (fun uy=>uy.length≤R.length+1∧nk uy (mh A (ut t) n) (mh B (ut t) p)):=fun hd=>by
  have fx: ¬ ut t∈rr R:=fun fT=>by
   obtain⟨c,ad,e⟩:=List.mem_map.1 fT;rw [← List.take_append_drop i R] at ad;rcases List.mem_append.1 ad with ad | ad
   ·have:=N6 i ao hg c ad;rw [e,tT.self] at this;omega
   have:=hd c ad;rw [e,tT.self] at this;omega
  have bq:A (ut t)=0∧B (ut t)=0:=Decidable.not_not.1 fun bQ=>fx ((h.mem _).2 bQ);have gQ:nk (R.take i++[]++R.drop i) A B:=by rw [List.append_nil,List.take_append_drop];exact h
  have:=gQ.ins PY eM fo (fun c ad=>by cases ad) (N6 i ao hg) hd;rw [bq.1,bq.2,Int.zero_add,Int.zero_add] at this;refine .eq (aeg R ao) (.eq (fM _ _ (by simp;omega) (by omega)) (.eq (fM _ _ (by simp;omega) (by omega)) (.eq (aeh R ao) (.eq (fM _ _ (by simp;omega) (by omega)) (.ret ⟨?_,?_⟩)))))
  ·simp;omega
  rw [List.nil_append,List.append_assoc];exact this
 by_cases jq:i<R.length
 ·have ad:decide ((i:Int)<(R.length:Int))=true:=by simpa using jq
  rw [ad]
  refine .eq (a:=i) (by unfold cb;rw [if_pos rfl];exact kY jq) (.eq rfl ?_)
  simp only [Bool.true_and]
  have ank:=gr jq
  refine .cond (fun bF=>?_) fun bF=>?_
  ·have bF:(au R i).cI=t:=by simpa using bF
   have q7:=eM (ut t)
   have mB:=fo (ut t)
   have aH:=h.el (qN jq)
   rw [bF] at aH
   have tl:bk ((au R i).hM+n)=A (ut t)+n:=by rw [aH.1];exact gA (by omega) (by omega)
   have Ae:bk ((au R i).hC+p)=B (ut t)+p:=by rw [aH.2];exact gA (by omega) (by omega)
   refine .idx rfl jq (.idx rfl jq (.idx rfl jq (.eq rfl (.idx rfl (by unfold hD;simpa using jq) (.eq rfl (.ret ?_))))))
   have aU:hD (hD R i { au R i with hM:=bk ((au R i).hM+n) }) i { au (hD R i { au R i with hM:=bk ((au R i).hM+n) }) i with hC:=bk ((au R i).hC+p) } =R.take i++⟨t,A (ut t)+n,B (ut t)+p⟩::R.drop (i+1):=by
    rw [ac6 jq,if_pos rfl,tl,Ae];have:hD (hD R i { au R i with hM:=A (ut t)+n }) i { { au R i with hM:=A (ut t)+n } with hC:=B (ut t)+p } =hD R i ⟨(au R i).cI,A (ut t)+n,B (ut t)+p⟩:=by unfold hD;rw [List.set_set]
    rw [this,bF,adm jq]
   rw [aU]
   have gQ:nk (R.take i++[au R i]++R.drop (i+1)) A B:=by rw [List.append_assoc,List.singleton_append,← acm jq];exact h
   refine⟨by rw [List.length_append,List.length_take,List.length_cons,List.length_drop];omega,gQ.ins PY eM fo (fun c ad=>by rw [List.mem_singleton.1 ad];exact bF) (N6 i ao hg) (Wi i (i+1) jq (by omega) fun q ax aO=>?_)⟩
   have:=YD i q (by omega) aO
   rw [bF] at this;exact this
  have bF:(au R i).cI≠t:=by simpa using bF
  have Xw:je (ut t) (ut (au R i).cI)<0:=by
   have ax:=tT.neg (ut t) (ut (au R i).cI);have aO:je (ut (au R i).cI) (ut t)≠0:=fun e=>bF (Nk (My e));omega
  refine new (Wi i i jq (by omega) fun q ax aO=>?_)
  rcases Nat.lt_or_eq_of_le ax with a7 | a7
  ·exact ai2 Xw (YD i q a7 aO)
  subst a7;exact Xw
 have ad:decide ((i:Int)<(R.length:Int))=false:=by simp;omega
 rw [ad]
 refine .eq (a:=default) (by unfold cb;rfl) (.eq rfl (.cond (fun hb=>by simp at hb) fun _=>new ?_))
 rw [List.drop_of_length_le (by omega)];simp
def rt (t:b8):eI:=⟨t.bB,t.eY,t.ck⟩
theorem Jq (t:b8):ut (rt t)=t:=rfl
theorem acn {s:aZ}(aA:jm s){e:bh}(he:tc s e):Eh s e=some ((fU s e).map rt):=by
 refine bd.get ?_;unfold Eh;have ak:=aA.og;refine .bind (P:=fun x=>x.2.2=(fU s e).map rt) (bd.jl s.c3.length (fun i st=>st=((i:Int),((s.c3.take i).flatMap (kS e)).map rt)) (by omega) rfl (fun i st ao bW=>?_) fun st bW=>?_) fun x al=>.ret al
 ·subst bW;refine .cond (fun _=>.idx rfl ao ?_) fun ad=>by simp at ad;omega
  have td:=aA.refs _ (qN ao);have PU:(((s.c3.take i).flatMap (kS e)).map rt).length≤4:=by rw [List.length_map];exact Nat.le_trans (Ir (Mw e) _) (by rw [List.length_take];omega)
  refine .bind (P:=fun m=>m=((s.c3.take (i+1)).flatMap (kS e)).map rt) ?_ fun m hm=>.ret (by rw [hm,dR (by omega)]);rw [Sw _ ao,List.map_append];refine .cond (fun ad=>.ret ?_) fun ad=>.bind (P:=fun m=>m=((s.c3.take i).flatMap (kS e)).map rt++(kS e (au s.c3 i)).map rt) (.cond (fun aW=>?_) fun aW=>.bind (P:=fun m=>m=((s.c3.take i).flatMap (kS e)).map rt++(kS e (au s.c3 i)).map rt) (.cond (fun hb=>?_) fun hb=>.ret ?_) fun m hm=>.ret hm) fun m hm=>.ret hm
  ·unfold kS;rw [if_neg (by simpa using ad)];simp
  ·have bw:(au s.c3 i).bB=e.bB:=by simpa using ad
   have aW:(au s.c3 i).en=0:=by simpa using aW
   obtain⟨g1,g2⟩:=UG he td bw aW;rw [g1];refine .eq (a:=(au s.c3 i).eY.toNat) (kY g2) (.eq rfl (.eq (fM _ _ (by simp only [List.length_cons,List.length_nil];omega) (by omega)) (.ret ?_)));unfold kS;rw [if_pos bw,if_pos aW];rfl
  ·have bw:(au s.c3 i).bB=e.bB:=by simpa using ad
   have aW: ¬ (au s.c3 i).en=0:=by simpa using aW
   have hb:(au s.c3 i).en=e.en:=by simpa using hb
   obtain⟨g1,g2⟩:=UH he td aW hb;rw [g1];refine .eq (a:=0) (kY (k:=0) g2) (.eq rfl (.eq (fM _ _ (by simp only [List.length_cons,List.length_nil];omega) (by omega)) (.ret ?_)));unfold kS;rw [if_pos bw,if_neg aW,if_pos hb,g1];rfl
  have bw:(au s.c3 i).bB=e.bB:=by simpa using ad
  have aW: ¬ (au s.c3 i).en=0:=by simpa using aW
  have hb: ¬ (au s.c3 i).en=e.en:=by simpa using hb
  unfold kS;rw [if_pos bw,if_neg aW,if_neg hb];simp
 subst bW;exact .cond (fun ad=>by simp at ad) fun _=>.ret (by show _=(fU s e).map rt;simp [fU])
theorem abp {s:aZ}(hs:cr s)(aA:jm s){e:bh}(he:tc s e):D2 s e=some ((fO s e).map rt):=by
 refine bd.get ?_;unfold D2;have ak:=aA.og;have hm:=he.Xv hs;refine .bind (P:=fun x=>x.2.2=(fO s e).map rt) (bd.jl s.c3.length (fun i st=>st=((i:Int),if e.bB=1∧i≠0 then [rt (sg e)] else [])) (by omega) (by simp) (fun i st ao bW=>?_) fun st bW=>?_) fun x al=>.ret al
 ·subst bW;have td:=aA.refs _ (qN ao);have PU:(if e.bB=1∧i≠0 then [rt (sg e)] else []).length≤1:=by split <;> simp
  refine .cond (fun _=>.idx rfl ao ?_) fun ad=>by simp at ad;omega
  rw [td.1,td.2.1];refine .cond (fun ad=>.ret ?_) fun ad=>.eq (a:=0) (kY (k:=0) (by omega)) (.eq rfl ?_)
  ·have ad:e.bB≠1:=by
    intro h;rw [h] at ad;simp at ad
   rw [dR (by omega),if_neg (fun h=>ad h.1),if_neg (fun h=>ad h.1)]
  have ad:e.bB=1:=by
   have:(1:Int)=e.bB:=by simpa using ad
   omega
  by_cases xE:i=0
  ·subst xE;rw [if_neg (by simp)];refine .bind (P:=fun x=>x.1=false) (bd.jl 0 (fun j st=>st=(false,(j:Int))) (by omega) rfl (fun j st aB _=>by omega) fun st bW=>?_) fun x al=>?_
   ·subst bW;exact .cond (fun bQ=>by simp at bQ) fun _=>.ret rfl
   rw [al];refine .bind (P:=fun m=>m= [rt (sg e)]) (.cond (fun _=>.eq (fM _ _ (by simp) (by omega)) (.ret rfl)) fun bQ=>by simp at bQ) fun m hm=>.ret ?_;rw [hm,if_pos ⟨ad,by omega⟩];rfl
  rw [if_pos ⟨ad,xE⟩];refine .bind (P:=fun x=>x.1=true) (bd.jl 1 (fun j st=>st=(decide (j≠0),(j:Int))) (by omega) rfl (fun j st aB bW=>?_) fun st bW=>?_) fun x al=>?_
  ·subst bW;have:j=0:=by omega
   subst this;refine .cond (fun _=>.idx (k:=0) rfl (by simp) (.ret ?_)) fun bQ=>by simp at bQ
   have cz:au [rt (sg e)] 0=rt (sg e):=rfl;rw [cz];have eL:rt (sg e)=⟨1,0,(au e.cw 0).ck⟩:=rfl;rw [eL];simp [dR];exact dR (k:=0) (by omega)
  ·subst bW;exact .cond (fun bQ=>by simp at bQ) fun _=>.ret rfl
  rw [al];refine .bind (P:=fun m=>m= [rt (sg e)]) (.cond (fun bQ=>by simp at bQ) fun _=>.ret rfl) fun m hm=>.ret ?_;rw [hm,dR (by omega),if_pos ⟨ad,by omega⟩]
 subst bW;refine .cond (fun ad=>by simp at ad) fun _=>.ret ?_;show _=(fO s e).map rt;unfold fO;by_cases h:e.bB=1∧s.c3≠ []
 ·rw [if_pos h,if_pos ⟨h.1,by intro bq;exact h.2 (List.length_eq_zero_iff.1 bq)⟩];rfl
 rw [if_neg h,if_neg (fun bQ=>h ⟨bQ.1,fun bq=>bQ.2 (by rw [bq];rfl)⟩)];rfl
theorem MA (s:aZ)(e:bh):(fO s e).length≤1:=by unfold fO;split <;> simp
theorem To {s:aZ}(aA:jm s)(L:List aC)(t:b8):0≤iW s L t∧iW s L t≤4 * L.length:=by
 have h1:=yD (f:=fun i:aC=>fU s i.aY) (n:=4) (fun i=>By aA _) L;have ab:=List.count_le_length (a:=t) (l:=L.flatMap fun i=>fU s i.aY);unfold iW;omega
theorem aei {s:aZ}(L:List aC)(t:b8):0≤ft s L t∧ft s L t≤L.length:=by
 have h1:=yD (f:=fun i:aC=>fO s i.aY) (n:=1) (fun i=>MA s _) L;have ab:=List.count_le_length (a:=t) (l:=L.flatMap fun i=>fO s i.aY);unfold ft;omega
theorem MB {A:b8→Int}{l:List b8}{m:Int}{n:Nat}(eM:∀ t,0≤A t∧A t≤m)(ak:l.length≤n)(t:b8):0≤eu A l 1 t∧eu A l 1 t≤m+n:=by
 have h1:=eM t;have ab:=List.count_le_length (a:=t) (l:=l);unfold eu;omega
theorem Tp {s:aZ}(hs:cr s)(aA:jm s){L:List aC}(aq:∀ i∈L,tc s i.aY)(hlen:L.length≤100):
 bd (Bj s (L.map (·.aY))) (fun R=>R.length≤1000∧nk R (iW s L) (ft s L)):=by
 unfold Bj
 have oS:nk [] (iW s []) (ft s []):=⟨.nil,fun x=>by simp [rr,iW,ft],rfl,rfl⟩
 have Xx:(L.map (·.aY)).length=L.length:=List.length_map ..
 rw [Xx]
 refine .bind (P:=fun e=>e.2.2.length≤1000∧nk e.2.2 (iW s L) (ft s L)) (bd.jl L.length (fun i st=>st.1=(i:Int)∧st.2.length≤5 * i∧nk st.2 (iW s (L.take i)) (ft s (L.take i))) (by omega) ⟨rfl,by simp,by simpa using oS⟩ (fun i st ao bW=>?_) fun st bW=>?_) fun e he=>.ret he
 ·obtain⟨rp,R⟩:=st
  obtain⟨rfl,Ks,gQ⟩:=bW
  have aE:au (L.map (·.aY)) i=(au L i).aY:=by rw [dm _ (by rw [Xx];exact ao),dm _ ao,List.getElem_map]
  have YE:=aq _ (qN ao)
  have PW:L.take (i+1)=L.take i++[au L i]:=by rw [List.take_add_one,List.getElem?_eq_getElem ao,dm _ ao];rfl
  have eM:∀ t,0≤iW s (L.take i) t∧iW s (L.take i) t≤400:=fun t=>by have:=To aA (L.take i) t;rw [List.length_take] at this;omega
  have fo:∀ t,0≤ft s (L.take i) t∧ft s (L.take i) t≤100:=fun t=>by have:=aei (s:=s) (L.take i) t;rw [List.length_take] at this;omega
  have oW:=By aA (au L i).aY
  have asy:=MA s (au L i).aY
  refine .cond (fun _=>.idx rfl ao ?_) fun ad=>by simp at ad;omega
  rw [aE]
  refine .eq (acn aA YE) ?_
  refine .bind (P:=fun e=>e.2.2.length≤5 * i+4∧nk e.2.2 (eu (iW s (L.take i)) (fU s (au L i).aY) 1) (ft s (L.take i))) (bd.jl (fU s (au L i).aY).length (fun j st=>st.1=(j:Int)∧st.2.length≤5 * i+j∧nk st.2 (eu (iW s (L.take i)) ((fU s (au L i).aY).take j) 1) (ft s (L.take i))) (by omega) ⟨rfl,by simpa using Ks,by simpa [Is] using gQ⟩ (fun j st aB bW=>?_) fun st bW=>?_) fun aU oZ=>?_
  ·obtain⟨oz,xL⟩:=st
   obtain⟨rfl,mD,r6⟩:=bW
   have mD:xL.length≤_:=mD
   refine .cond (fun _=>.idx (k:=j) rfl (by simpa using aB) ?_) fun ad=>by simp at ad;omega
   have jX:au ((fU s (au L i).aY).map rt) j=rt (au (fU s (au L i).aY) j):=by rw [dm _ (by simpa using aB),dm _ aB,List.getElem_map]
   rw [jX]
   refine(put_eq r6 _ (.inl ⟨rfl,rfl⟩) (by simp only;omega) (fun x=>?_) (fun x=>?_)).bind fun YL zz=>.ret ⟨dR (by omega),by have:=zz.1;simp only at this ⊢;omega,?_⟩
   ·have:=MB (l:=(fU s (au L i).aY).take j) (n:=4) eM (by rw [List.length_take];omega) x;omega
   ·have:=fo x;omega
   have:=zz.2
   rw [Jq,Ic,It] at this
   rw [List.take_add_one,List.getElem?_eq_getElem aB]
   rw [dm _ aB] at this
   exact this
  ·obtain⟨oz,xL⟩:=st
   obtain⟨rfl,mD,r6⟩:=bW
   have mD:xL.length≤_:=mD
   refine .cond (fun ad=>by simp at ad) fun _=>.ret ⟨by simp only at mD ⊢;omega,?_⟩
   rwa [List.take_length] at r6
  refine .eq (abp hs aA YE) ?_
  refine .bind (P:=fun e=>e.2.2.length≤5 * i+5∧nk e.2.2 (eu (iW s (L.take i)) (fU s (au L i).aY) 1) (eu (ft s (L.take i)) (fO s (au L i).aY) 1)) (bd.jl (fO s (au L i).aY).length (fun j st=>st.1=(j:Int)∧st.2.length≤5 * i+4+j∧nk st.2 (eu (iW s (L.take i)) (fU s (au L i).aY) 1) (eu (ft s (L.take i)) ((fO s (au L i).aY).take j) 1)) (by omega) ⟨rfl,by simpa using oZ.1,by simpa [Is] using oZ.2⟩ (fun j st aB bW=>?_) fun st bW=>?_) fun cz Kt=>.ret ⟨dR (by omega),by have:=Kt.1;simp only;omega,?_⟩
  ·obtain⟨oz,xL⟩:=st
   obtain⟨rfl,mD,r6⟩:=bW
   have mD:xL.length≤_:=mD
   refine .cond (fun _=>.idx (k:=j) rfl (by simpa using aB) ?_) fun ad=>by simp at ad;omega
   have jX:au ((fO s (au L i).aY).map rt) j=rt (au (fO s (au L i).aY) j):=by rw [dm _ (by simpa using aB),dm _ aB,List.getElem_map]
   rw [jX]
   refine(put_eq r6 _ (.inr ⟨rfl,rfl⟩) (by simp only;omega) (fun x=>?_) (fun x=>?_)).bind fun YL zz=>.ret ⟨dR (by omega),by have:=zz.1;simp only at this ⊢;omega,?_⟩
   ·have:=MB (l:=fU s (au L i).aY) (n:=4) eM oW x;omega
   ·have:=MB (l:=(fO s (au L i).aY).take j) (n:=1) fo (by rw [List.length_take];omega) x;omega
   have:=zz.2
   rw [Jq,Ic,It] at this
   rw [List.take_add_one,List.getElem?_eq_getElem aB]
   rw [dm _ aB] at this
   exact this
  ·obtain⟨oz,xL⟩:=st
   obtain⟨rfl,mD,r6⟩:=bW
   have mD:xL.length≤_:=mD
   refine .cond (fun ad=>by simp at ad) fun _=>.ret ⟨by simp only at mD ⊢;omega,?_⟩
   rwa [List.take_length] at r6
  have:=Kt.2
  rw [yz,yA,← PW] at this
  exact this
 obtain⟨rp,R⟩:=st
 obtain⟨rfl,Ks,gQ⟩:=bW
 refine .cond (fun ad=>by simp at ad) fun _=>.ret ⟨by simp only at Ks ⊢;omega,?_⟩
 rwa [List.take_length] at gQ
theorem UN {α:Type}[DecidableEq α]:∀ {l l':List α},l.Nodup→ (∀ x∈l,x∈l')→l.length≤l'.length
 | [],_,_,_=>by simp
 | x::r,l',aH,hs=>by
   obtain⟨h1,ab⟩:=List.nodup_cons.1 aH;have al:=hs x List.mem_cons_self;have ax:=UN ab (l':=l'.erase x) fun y aR=>(List.mem_erase_of_ne (fun e=>h1 (by rw [← e];exact aR))).2 (hs y (List.mem_cons_of_mem _ aR));have aO:=List.length_erase_of_mem al;have a7:=List.length_pos_of_mem al;rw [List.length_cons];omega
section
variable {s:aZ} {hp:aG Cell} {P:pY} {bD:Nat→List aC} {next:Int} {js:List fe} {y:bX}
theorem hT.YF (h:hT s bD next y){i:aC}(ao:i∈y.bK):tc s i.aY:=by
 obtain⟨k,hk,s4,bg⟩:=h.r.dF h.ok ao;exact⟨⟨k,hk,bg.dF⟩,(h.arg k hk i s4).1⟩
theorem UO (aA:jm s)(h:j0 s hp P bD next js)(cA:hT s bD next y):∀ kv,pr hp P.m=some kv→kv.length≤1000:=fun kv um=>by
 obtain⟨sb,h1,ab,ax⟩:=h.h2.map;rw [h1] at um;cases um;have aO:=UN (l:=kv.map (·.1)) (l':=((cS bD).flatMap fun i=>fU s i.aY)++((cS bD).flatMap fun i=>fO s i.aY)) (List.pairwise_map.2 ab) fun t bw=>by
  obtain⟨x,al,rfl⟩:=List.mem_map.1 bw;have a7:=ax x.1;rw [Mz ab al] at a7;split at a7
  ·cases a7
  rename_i bF;refine List.mem_append.2 (Classical.byContradiction fun fx=>bF ?_);simp only [not_or] at fx;unfold iW ft;rw [List.count_eq_zero.2 fx.1,List.count_eq_zero.2 fx.2];exact⟨rfl,rfl⟩
 have a7:=yD (f:=fun i:aC=>fU s i.aY) (n:=4) (fun i=>By aA _) (cS bD);have bl:=yD (f:=fun i:aC=>fO s i.aY) (n:=1) (fun i=>MA s _) (cS bD);have cN:=cA.JP;rw [List.length_map,List.length_append] at aO;omega
theorem aej (aA:jm s)(h:j0 s hp P bD next js)(cA:hT s bD next y):
 cy (Dj hp (some P.x)) (fun r=>r.2=hp∧r.1.length≤1000∧wq (r.1.map (·.cI)) (r.1.map (·.hM)) (r.1.map (·.hC)) (iW s (cS bD)) (ft s (cS bD))):=by
 obtain⟨a,b,h1⟩:=h.st
 unfold Dj
 exact .cond (fun ad=>by cases ad) fun _=>.eq rfl (.eq h1 (.bind (UM h.h2 (UO aA h cA)) fun r aA=>.ret aA))
theorem agx (aA:jm s)(h:j0 s hp P bD next js)(cA:hT s bD next y):
 cy (C9 hp (some P.x)) (fun r=>r.2=hp∧r.1.length≤1000∧ ∃ T N M,wq T N M (iW s (cS bD)) (ft s (cS bD))∧r.1=T.filter fun x=>decide (ft s (cS bD) x=0)):=by
 obtain⟨a,b,h1⟩:=h.st
 unfold C9 Hp
 refine .cond (fun ad=>by cases ad) fun _=>.eq rfl (.eq h1 (.bind (P:=fun r=>r.2=hp∧r.1.length≤1000∧ ∃ T N M,wq T N M (iW s (cS bD)) (ft s (cS bD))∧r.1=T.filter fun x=>decide (ft s (cS bD) x=0)) (.bind (UM h.h2 (UO aA h cA)) fun z bF=>?_) fun r aA=>.ret aA))
 obtain⟨z,hp'⟩:=z
 obtain⟨rfl,xA,bF⟩:=bF
 simp only at bF xA
 have s7:∀ c∈z,c.hM=iW s (cS bD) c.cI∧c.hC=ft s (cS bD) c.cI:=fun c ad=>by
  have g1:=bF.n;have g2:=bF.m;rw [List.map_map] at g1 g2;exact⟨List.map_inj_left.1 g1 _ ad,List.map_inj_left.1 g2 _ ad⟩
 have OK:∀ c∈z,((decide (c.hM>0))&&(c.hC==0))=decide (ft s (cS bD) c.cI=0):=fun c ad=>by
  obtain⟨g1,g2⟩:=s7 c ad;have g3:=(bF.mem c.cI).1 (List.mem_map.2 ⟨c,ad,rfl⟩);have g4:=To aA (cS bD) c.cI;rw [g1,g2,Bool.eq_iff_iff];simp only [Bool.and_eq_true,decide_eq_true_eq,beq_iff_eq];omega
 have ko:((z.map (·.cI)).filter fun x=>decide (ft s (cS bD) x=0))=(z.filter fun c=>decide (ft s (cS bD) c.cI=0)).map (·.cI):=by rw [List.filter_map];rfl
 refine .gh (P:=fun e=>e.2.2=(z.filter fun c=>decide (ft s (cS bD) c.cI=0)).map (·.cI)) (bd.jl z.length (fun i st=>st=((i:Int),((z.take i).filter fun c=>decide (ft s (cS bD) c.cI=0)).map (·.cI))) (by omega) rfl (fun i st ao bW=>?_) fun st bW=>?_) fun e he=>.ret ⟨rfl,?_,_,_,_,bF,he.trans ko.symm⟩
 ·subst bW
  have hle:(((z.take i).filter fun c=>decide (ft s (cS bD) c.cI=0)).map (·.cI)).length≤1000:=by
   rw [List.length_map];exact Nat.le_trans (List.length_filter_le _ _) (by rw [List.length_take];omega)
  refine .cond (fun _=>.idx rfl ao (.eq rfl ?_)) fun ad=>by simp at ad;omega
  rw [OK _ (qN ao),mK _ ao,List.filter_append,List.map_append]
  refine .bind (P:=fun m=>m=((z.take i).filter fun c=>decide (ft s (cS bD) c.cI=0)).map (·.cI)++([au z i].filter fun c=>decide (ft s (cS bD) c.cI=0)).map (·.cI)) (.cond (fun ad=>.eq (fM _ _ (by simp only [List.length_cons,List.length_nil];omega) (by omega)) (.ret ?_)) fun ad=>.ret ?_) fun m hm=>.ret (by rw [hm,dR (by omega)])
  ·rw [List.filter_cons_of_pos (by simpa using ad)];rfl
  rw [List.filter_cons_of_neg (by simpa using ad)];simp
 ·subst bW
  refine .cond (fun ad=>by simp at ad) fun _=>.ret ?_
  show((z.take z.length).filter _).map _=_
  rw [List.take_length]
 show e.2.2.length≤1000
 rw [he,List.length_map];exact Nat.le_trans (List.length_filter_le _ _) xA
theorem Rz (ak:y.bK.length≤1000):AW y=some (y.bK.map (·.aY)):=by
 refine bd.get ?_;unfold AW;refine .bind (P:=fun e=>e.2.2=y.bK.map (·.aY)) (bd.jl y.bK.length (fun i st=>st=((i:Int),(y.bK.take i).map (·.aY))) (by omega) rfl (fun i st ao bW=>?_) fun st bW=>?_) fun e he=>.ret he
 ·subst bW;refine .cond (fun _=>.idx rfl ao (.eq (fM _ _ (by simp;omega) (by omega)) (.ret ?_))) fun ad=>by simp at ad;omega
  rw [dR (by omega),mK _ ao,List.map_append];rfl
 subst bW;exact .cond (fun ad=>by simp at ad) fun _=>.ret (by show(y.bK.take _).map _=_;rw [List.take_length])
theorem ab0 (hs:cr s)(aA:jm s)(cA:hT s bD next y):bd (Eg y) (fun R=>R.length≤1000∧nk R (iW s (cS bD)) (ft s (cS bD))):=by
 have ak:=cA.r.len cA.ok;unfold Eg;rw [cA.r.ow];refine .eq (Rz (by omega)) ((Tp hs aA (fun i ao=>cA.YF ao) (by omega)).bind fun R gQ=>.ret ?_);rw [wI cA.r.o0,wJ cA.r.o0] at gQ;exact gQ
theorem adn (hs:cr s)(aA:jm s)(cA:hT s bD next y):bd (D5 s (y.bK.map (·.aY))) (fun D=>D.length≤1000∧ ∃ T N M,wq T N M (iW s (cS bD)) (ft s (cS bD))∧D.map ut=T.filter fun x=>decide (ft s (cS bD) x=0)):=by
 have ak:=cA.r.len cA.ok;unfold D5;refine(Tp hs aA (fun i ao=>cA.YF ao) (by omega)).bind fun z bF=>?_;rw [wI cA.r.o0,wJ cA.r.o0] at bF;obtain⟨xA,bF⟩:=bF;have OK:∀ c∈z,(c.hC==0)=decide (ft s (cS bD) (ut c.cI)=0):=fun c ad=>by
  rw [(bF.el ad).2];rfl
 have ko:((rr z).filter fun x=>decide (ft s (cS bD) x=0))=(z.filter fun c=>decide (ft s (cS bD) (ut c.cI)=0)).map fun c=>ut c.cI:=by unfold rr;rw [List.filter_map];rfl
 refine .bind (P:=fun e=>e.2.2=(z.filter fun c=>decide (ft s (cS bD) (ut c.cI)=0)).map (·.cI)) (bd.jl z.length (fun i st=>st=((i:Int),((z.take i).filter fun c=>decide (ft s (cS bD) (ut c.cI)=0)).map (·.cI))) (by omega) rfl (fun i st ao bW=>?_) fun st bW=>?_) fun e he=>.ret ⟨?_,_,_,_,bF,?_⟩
 ·subst bW;have hle:(((z.take i).filter fun c=>decide (ft s (cS bD) (ut c.cI)=0)).map (·.cI)).length≤1000:=by
   rw [List.length_map];exact Nat.le_trans (List.length_filter_le _ _) (by rw [List.length_take];omega)
  refine .cond (fun _=>.idx rfl ao ?_) fun ad=>by simp at ad;omega
  rw [OK _ (qN ao),mK _ ao,List.filter_append,List.map_append];refine .bind (P:=fun m=>m=((z.take i).filter fun c=>decide (ft s (cS bD) (ut c.cI)=0)).map (·.cI)++([au z i].filter fun c=>decide (ft s (cS bD) (ut c.cI)=0)).map (·.cI)) (.cond (fun ad=>.eq (fM _ _ (by simp only [List.length_cons,List.length_nil];omega) (by omega)) (.ret ?_)) fun ad=>.ret ?_) fun m hm=>.ret (by rw [hm,dR (by omega)])
  ·rw [List.filter_cons_of_pos (by simpa using ad)];rfl
  rw [List.filter_cons_of_neg (by simpa using ad)];simp
 ·subst bW;refine .cond (fun ad=>by simp at ad) fun _=>.ret ?_;show((z.take z.length).filter _).map _=_;rw [List.take_length]
 ·rw [he,List.length_map];exact Nat.le_trans (List.length_filter_le _ _) xA
 rw [ko,he,List.map_map];rfl
end
section
variable {s:aZ} {hp:aG Cell} {P:pY} {bD:Nat→List aC} {next:Int} {js:List fe} {y:bX}
theorem afr (hs:cr s)(h:j0 s hp P bD next js)(cA:hT s bD next y){x:Nat}(al:x≤5):cy (Ds hp (some P.x) (x:Int)) (fun r=>r=(xk y (x:Int),hp)):=by
 have bW:=h.kQ.ok;unfold Ds;refine .eq (LJ h) (.bind (P:=fun r=>r=(xk y (x:Int),hp)) ?_ fun r aA=>.ret (by subst aA;rfl));by_cases me:1≤x∧x≤4
 ·obtain⟨k,rfl⟩:∃ k,x=k+1:=⟨x - 1,by omega⟩;have hk:k<4:=by omega
  intro Q wo;refine(Td hs bW (x:=k+1) (by omega) cA.ok.len) Q fun an h1=>?_;obtain⟨a,hp'⟩:=an;obtain⟨ar,h1⟩:=h1;simp only at ar h1;subst ar;have ij:((k+1:Nat):Int)=(k:Int)+1:=by omega
  have th:sO bD (k+1) (xk y ((k+1:Nat):Int)):=by
   unfold sO;rw [if_neg (by omega),ij];exact⟨Sv cA.r cA.ok hk,ad1 cA.r _⟩
  obtain⟨g1,_⟩:=sO.same hs bW (by omega) h1 th;exact wo _ (by rw [g1])
 have zE:(x:Int)<1∨4<(x:Int):=by omega
 intro Q wo;refine(ad2 bW zE) Q fun an h1=>?_;subst h1;exact wo _ (by rw [afm cA.r cA.ok zE])
theorem L1 (hs:cr s)(aA:jm s)(h:j0 s hp P bD next js)(cA:hT s bD next y):cy (yq hp (some P.x) y) (fun r=>r=(true,hp)):=by
 have hlen:=cA.r.len cA.ok;unfold yq;refine .bind (ai1 hs h cA) fun an h1=>?_;subst h1;refine .eq (HQ (fun i ao=>cA.r.small hs cA.ok ao) (show y.bK.length≤1000 by omega)) (.eq (a:=next) (by unfold cb;rw [if_pos (show(!true)=false from rfl)];exact UK h) ?_);refine .cond (fun ad=>by rw [cA.r.num] at ad;simp at ad) fun _=>?_;refine .bind (P:=fun e=> ∃ q:Int×Bool×aG Cell,e= .inl q∧q.2.2=hp) (cy.loop 6 (fun x st=>st=((x:Int),hp)) (by omega) rfl (fun x st al iM=>?_) (fun st iM=>?_)) fun ar anG=>?_
 ·subst iM;refine .cond (fun _=>.bind (afr hs h cA (by omega)) fun bu aO=>?_) fun ad=>by simp at ad;omega
  subst aO;refine .eq (Su (by omega)) (.eq (HQ (fun i ao=>cA.r.small hs cA.ok (List.mem_filter.1 ao).1) (Nat.le_trans (List.length_filter_le _ _) (by omega))) (.cond (fun ad=>by cases ad) fun _=>.ret (by rw [dR (by omega)])))
 ·subst iM;exact .cond (fun ad=>by simp at ad) fun _=>.ret ⟨_,rfl,rfl⟩
 obtain⟨q,rfl,hq⟩:=anG;simp only [Sum.elim_inl];rw [hq];refine .bind (aej aA h cA) fun cC cN=>?_;obtain⟨z,asz⟩:=cC;obtain⟨xT,xA,bF⟩:=cN;simp only at xT xA bF;subst xT;refine .bind (agx aA h cA) fun b1 cW=>?_;obtain⟨D,asA⟩:=b1;obtain⟨sn,X4,T,N,M,th,ko⟩:=cW;simp only at sn X4 ko;subst sn;refine .eq (agv hs h) (.gh (ab0 hs aA cA) fun R gQ=>.eq (Rz (by omega)) ?_);rw [cA.r.ow];refine .gh (adn hs aA cA) fun CT PZ=>?_;obtain⟨Ks,gQ⟩:=gQ;obtain⟨arj,asW,asX,asY,anH,PZ⟩:=PZ;obtain⟨KG,aof,YM⟩:=bF.uniq gQ;obtain⟨v1,_,_⟩:=th.uniq anH;have YG:D=CT.map ut:=by rw [ko,PZ,v1]
 have anI:z.length=R.length:=by have:=congrArg List.length KG;unfold rr at this;simpa using this
 have alJ:D.length=CT.length:=by rw [YG,List.length_map]
 have anJ:∀ i,i<z.length→ (au R i).cI=rt (au z i).cI∧ (au z i).hM=(au R i).hM∧ (au z i).hC=(au R i).hC:=fun i ao=>by
  have pL:i<R.length:=by omega
  rw [dm _ ao,dm _ pL];refine⟨Nk ?_,?_,?_⟩
  ·have:=List.getElem_of_eq KG (by simpa using ao:i<(z.map (·.cI)).length);unfold rr at this;rw [List.getElem_map,List.getElem_map] at this;rw [Jq];exact this.symm
  ·have:=List.getElem_of_eq aof (by simpa using ao:i<(z.map (·.hM)).length);rwa [List.getElem_map,List.getElem_map] at this
  have:=List.getElem_of_eq YM (by simpa using ao:i<(z.map (·.hC)).length);rwa [List.getElem_map,List.getElem_map] at this
 have anK:∀ i,i<D.length→au CT i=rt (au D i):=fun i ao=>by
  have pL:i<CT.length:=by omega
  rw [dm _ ao,dm _ pL];refine Nk ?_;have:=List.getElem_of_eq YG ao;rw [List.getElem_map] at this;rw [Jq];exact this.symm
 refine .eq rfl (.cond (fun ad=>?_) fun _=>?_)
 ·exfalso;rw [anI,alJ,hs.og] at ad;simp at ad
 refine .gh (P:=fun e=> ∃ q,e= .inl q) (bd.jl z.length (fun i st=>st=(i:Int)) (by omega) rfl (fun i st ao bW=>?_) fun st bW=>?_) fun aU oZ=>?_
 ·subst bW;obtain⟨t1,t2,t3⟩:=anJ i ao;have pL:i<R.length:=by omega
  refine .cond (fun _=>.idx rfl ao (.eq rfl (.idx rfl pL ?_))) fun ad=>by simp at ad;omega
  have o4:(⟨(au z i).cI.bB,(au z i).cI.eY,(au z i).cI.ck⟩:eI)=(au R i).cI:=by rw [t1];rfl
  simp only [o4,decide_true,Bool.not_true];refine .eq (a:=i) (by unfold cb;rw [if_pos rfl];exact kY pL) (.eq (a:=false) (by rw [t2];simp) (.eq (a:=i) (by unfold cb;rw [if_pos rfl];exact kY pL) (.cond (fun ad=>?_) fun _=>.ret (dR (by omega)))));rw [t3] at ad;simp at ad
 ·subst bW;exact .cond (fun ad=>by simp at ad) fun _=>.ret ⟨_,rfl⟩
 obtain⟨cQ,rfl⟩:=oZ;simp only [Sum.elim_inl];refine .gh (P:=fun e=> ∃ q,e= .inl q) (bd.jl D.length (fun i st=>st=(i:Int)) (by omega) rfl (fun i st ao bW=>?_) fun st bW=>?_) fun cz Kt=>?_
 ·subst bW;have pL:i<CT.length:=by omega
  refine .cond (fun _=>.idx rfl ao (.eq rfl (.idx rfl pL ?_))) fun ad=>by simp at ad;omega
  have o4:(⟨(au D i).bB,(au D i).eY,(au D i).ck⟩:eI)=au CT i:=by rw [anK i ao];rfl
  exact .cond (fun ad=>by rw [o4] at ad;simp at ad) fun _=>.ret (dR (by omega))
 ·subst bW;exact .cond (fun ad=>by simp at ad) fun _=>.ret ⟨_,rfl⟩
 obtain⟨ev,rfl⟩:=Kt;simp only [Sum.elim_inl];refine .gh (P:=fun e=> ∃ q,e= .inl q) (bd.jl 3 (fun i st=>st=(i:Int)) (by omega) rfl (fun i st ao bW=>?_) fun st bW=>?_) fun eL anL=>?_
 ·subst bW;have pL:i<s.eo.length:=by rw [hs.og];exact ao
  have PT:(au s.eo i).bU=au [1,2,7] i:=by
   have:=List.getElem_of_eq hs.B2 (by simpa using pL:i<(s.eo.map (·.bU)).length);rw [List.getElem_map] at this;rw [dm _ pL,this,dm _ (by simpa using ao)]
  have hu:(au [(⟨1,gq (cS bD) 1⟩:iN),⟨2,gq (cS bD) 2⟩,⟨7,gq (cS bD) 7⟩] i).n0=au [1,2,7] i∧ (au [(⟨1,gq (cS bD) 1⟩:iN),⟨2,gq (cS bD) 2⟩,⟨7,gq (cS bD) 7⟩] i).uQ=gq (cS bD) (au [1,2,7] i):=by
   have:i=0∨i=1∨i=2:=by omega
   rcases this with rfl | rfl | rfl <;> exact⟨rfl,rfl⟩
  refine .cond (fun _=>.idx rfl (by simpa using ao) (.idx rfl pL ?_)) fun ad=>by simp at ad;omega
  rw [hu.1,hu.2,PT];refine .eq (a:=gq y.bK (au [1,2,7] i)) (by unfold cb;rw [if_pos (by simp)];exact T6 _ (by omega)) (.eq rfl (.cond (fun ad=>?_) fun _=>.ret (dR (by omega))));rw [p2 cA.r.o0] at ad;simp at ad
 ·subst bW;exact .cond (fun ad=>by simp at ad) fun _=>.ret ⟨_,rfl⟩
 obtain⟨hJ,rfl⟩:=anL;simp only [Sum.elim_inl];exact .ret rfl
end
section
variable {s:aZ} {hp:aG Cell} {P:pY} {bD:Nat→List aC} {next:Int} {js:List fe} {y:bX}
end
def nK (ys:List bX):List (jw bX):=ys.map fun y=>⟨some y⟩
theorem afs {ys:List bX}{i:Nat}(ao:i<ys.length):(au (nK ys) i).p=some (au ys i):=by
 unfold nK;rw [dm _ (by simpa using ao),dm _ ao,List.getElem_map]
theorem aek {ys:List bX}{y:bX} :nK ys++[⟨some y⟩]=nK (ys++[y]):=by unfold nK;rw [List.map_append];rfl
theorem yL {ys:List bX} :(nK ys).length=ys.length:=List.length_map ..
theorem I3 {s:aZ}{bD:Nat→List aC}{next:Int}{y:bX}(h:hT s bD next y):tt y=some y:=Nj (by have:=h.r.len h.ok;omega)
theorem ael {ys:List bX}{n:Nat} :(nK ys).take n=nK (ys.take n):=by unfold nK;rw [List.map_take]
theorem aft (y:bX):Hv y=tt y:=rfl
def GH (s:aZ)(P:pY)(B:Nat)(o5:List (jw bX))(y:bX)(hp:aG Cell):Prop:=
 ∃ bD ls next js ys,j0 s hp P bD next js∧nT s P.x js ys ls next∧lS bD ls∧o5=nK ys∧hT s bD next y∧js.length≤B∧ ∀ z∈ys,z.fh≤ (B:Int)+1
theorem GH.mono {s:aZ}{P:pY}{B xW:Nat}{o5:List (jw bX)}{y:bX}{hp:aG Cell}(h:GH s P B o5 y hp)(hb:B≤xW):GH s P xW o5 y hp:=by
 obtain⟨bD,ls,next,js,ys,h1,ab,ax,aO,a7,bl,cN⟩:=h;exact⟨bD,ls,next,js,ys,h1,ab,ax,aO,a7,by omega,fun z bF=>by have:=cN z bF;omega⟩
theorem afu (hp:aG Cell)(aa ai:List (BitVec 8)):cy (DG hp aa ai) (fun r=>r.1=true):=by
 unfold DG;refine .gh (Ml aa 120 (by omega) (by omega)) fun an h1=>.gh (bd.par (RV an h1) (R2 an)) fun aD ab=>.gh (Ml ai 220 (by omega) (by omega)) fun bf ax=>?_;obtain⟨⟨hs,_⟩,aA⟩:=ab;refine .bind (Wg hs aA hp) fun bu aO=>?_;obtain⟨P,eL,g0⟩:=aO;obtain⟨asB,uh⟩:=bu;simp only at eL g0;subst eL;have cg:=Wh hs aA;refine .eq (a:=⟨aD.1,[],1⟩) rfl (.eq (I3 cg) ?_);refine .bind (P:=fun ar=> ∃ q,ar= .inl q) (cy.loop 24 (fun i st=>st.1=(i:Int)∧hR st.2.2.2.1∧GH aD.1 P i st.2.1 st.2.2.1 st.2.2.2.2) (by omega) ⟨rfl,ax,_,_,_,_,_,g0,.nil cg,.refl,rfl,cg,by simp,fun z bF=>by rw [List.mem_singleton.1 bF];simp⟩ (fun i st ao bW=>?_) (fun st bW=>?_)) fun ar he=>?_
 ·obtain⟨rp,o5,y,c,bH⟩:=st;obtain⟨Ak,ad,bD,ls,next,js,ys,g,ou,hle,Y6,cA,aB,hL⟩:=bW;simp only at Ak ad g Y6 cA;subst Ak Y6;have anA:=ou.len;have lA:next≤ (i:Int)+1:=by
   have c0:=ou.last;have:=hL _ (qN (show js.length<ys.length by omega));rw [c0.r.num] at this;exact this
  refine .cb (P:=fun _=>True) (fun _=>S0 _) fun cC _=>?_;refine .cond (fun _=>?_) fun _=>.ret ⟨_,rfl⟩;refine .gh (gy c 6 ad (by omega)) fun b1 cW=>?_;refine .cond (fun _=>?_) fun _=>.cond (fun _=>?_) fun _=>?_
  ·have hw:bk (((nK ys).length:Int)+2)=(ys.length:Int)+2:=by rw [yL];exact gA (by omega) (by omega)
   rw [hw];refine .gh (gy b1.2 _ cW.1 (by omega)) fun cT c0=>?_;have hm:bk (cT.1 - 1)=cT.1 - 1:=by have:=c0.2.1;have:=c0.2.2.1;exact gA (by omega) (by omega)
   rw [hm];refine .bind (UJ hs aA g (by omega) ou hle _) fun fR lU=>?_;generalize aH:(max 0 (cT.1 - 1)).toNat=n at lU;obtain⟨ju,ls',next',dT,fP,uz⟩:=lU;have q7:=c0.2.1;have mB:=c0.2.2.1;have ug:bk (cT.1 - 1+1)=cT.1:=by rw [gA (by omega) (by omega)];omega
   obtain⟨kG,hk,dg,dh⟩:∃ kG:Nat,max 1 (min cT.1 ((nK ys).length:Int))=(kG:Int)∧kG≤ys.length∧ys.take kG=ys.take (n+1):=by
    rw [yL];refine⟨(max 1 (min cT.1 (ys.length:Int))).toNat,by omega,by omega,?_⟩;by_cases bQ:cT.1≤ (ys.length:Int)
    ·congr 1;omega
    rw [List.take_of_length_le (by omega),List.take_of_length_le (by omega)]
   rw [ug,hk];refine .eq (a:=kG) (kY (by rw [yL];omega)) (.eq rfl ?_);simp only [ael,dh];have mc:=fP.len;have ai4:=fP.last;have cf:=ai4.perm uz;have P0:bk (((nK (ys.take (n+1))).length:Int) - 1)=((js.take n).length:Int):=by rw [yL,mc];rw [gA] <;> (have:=List.length_take_le n js;omega)
   rw [P0];refine .eq (a:=(js.take n).length) (kY (by rw [yL];omega)) (.eq (afs (by omega)) ?_);refine .eq (by rw [aft];exact I3 cf) ?_;refine .bind (L1 hs aA dT cf) fun gG zS=>?_;subst zS;obtain⟨a,b,bW⟩:=dT.st;refine .eq (a:=P.x) rfl (.eq (a:=_) (show cb false false (gd fR P.x)=some _ from bW) (.eq (a:=((js.take n).length:Int)) rfl (.cond (fun bQ=>by simp at bQ) fun _=>.ret ⟨dR (by omega),c0.1,GH.mono (B:=i) ⟨ju,ls',next',js.take n,ys.take (n+1),dT,fP,uz,rfl,cf,?_,fun z bF=>?_⟩ (by omega)⟩)))
   ·rw [List.length_take];omega
   exact hL z (List.mem_of_mem_take bF)
  ·obtain⟨a,b,bW⟩:=g.st;refine .eq (a:=P.x) rfl (.eq bW (.eq rfl (.any fun vz=>.eq rfl (.eq (I3 cA) ?_))));have g1:=g.GD (js':= []) vz.1 vz.2;refine .bind (L1 hs aA g1 cA) fun nG anM=>?_;subst anM;obtain⟨gv,b',alK⟩:=g1.st;refine .eq (a:=P.x) rfl (.eq (a:=_) (show cb false false (gd _ P.x)=some _ from alK) (.eq (a:=0) rfl (.eq rfl (.cond (fun bQ=>?_) fun _=>.ret ⟨dR (by omega),cW.1,bD,bD,next,[],[y],g1,.nil cA,.refl,rfl,cA,by simp,fun z bF=>?_⟩))))
   ·have bq:bk ((([(⟨some y⟩:jw bX)]:List (jw bX)).length:Int) - 1)=0:=by rw [gA] <;> simp
    simp only [bq] at bQ;simp at bQ
   rw [List.mem_singleton.1 bF,cA.r.num];omega
  refine .bind (agu hs aA g cA (by omega) (by omega) b1.2 cW.1) fun ly P1=>?_;obtain⟨anN,anO,_,P1⟩:=P1;rw [anN];refine .cond (fun bQ=>by cases bQ) fun _=>?_;have key:∃ ju ls' next' js' zY,j0 aD.1 ly.2.2.2.2 P ju next' js'∧nT aD.1 P.x js' zY ls' next'∧lS ju ls'∧hT aD.1 ju next' ly.2.2.1∧js'.length≤i+1∧ (∀ z∈zY,z.fh≤ (i:Int)+1+1)∧ (if ly.2.1=true then nK (ys++[ly.2.2.1]) else nK ys)=nK zY:=by
   rcases P1 with⟨bF,lI,ju,next',dT,CO,cf,pM⟩ | ⟨bF,dT,e'⟩
   ·have hb:ly.2.1=true:=by
     cases hb:ly.2.1 with
     | true=>rfl
     | false=>rw [hb] at bF;simp at bF
    refine⟨ju,ju,next',_,_,dT,ou.snoc hle CO cf,.refl,cf,by rw [List.length_append];simp;omega,fun z bF=>?_,by rw [if_pos hb]⟩;rcases List.mem_append.1 bF with bF | bF
    ·have:=hL z bF;omega
    rw [List.mem_singleton.1 bF,cf.r.num];omega
   have hb: ¬ ly.2.1=true:=fun hb=>by rw [if_pos hb] at bF;exact bF rfl
   exact⟨bD,ls,next,js,ys,dT,ou,hle,by rw [e'];exact cA,by omega,fun z bF=>by have:=hL z bF;omega,by rw [if_neg hb]⟩
  obtain⟨ju,ls',next',js',zY,dT,Xy,zl,cf,r9,anP,em⟩:=key;refine .gh (P:=fun m=>m=nK zY) (.cond (fun hb=>.eq (I3 cf) (.eq (fM _ _ (by rw [yL];simp;omega) (by omega)) (.ret ?_))) fun hb=>.ret ?_) fun m1 b4=>?_
  ·rw [if_pos hb] at em;rw [aek];exact em
  ·rw [if_neg (by rw [hb];simp)] at em;exact em
  subst b4;refine .bind (L1 hs aA dT cf) fun vH anQ=>?_;subst anQ;obtain⟨a,b,bW⟩:=dT.st;have alL:=Xy.len;have P0:bk (((nK zY).length:Int) - 1)=(js'.length:Int):=by rw [yL,alL];rw [gA] <;> omega
  rw [P0];refine .eq (a:=P.x) rfl (.eq (a:=_) (show cb false false (gd ly.2.2.2.2 P.x)=some _ from bW) (.eq (a:=(js'.length:Int)) rfl (.cond (fun bQ=>by simp at bQ) fun _=>.ret ⟨dR (by omega),anO,ju,ls',next',js',zY,dT,Xy,zl,rfl,cf,r9,fun z bF=>by have:=anP z bF;omega⟩)))
 ·obtain⟨rp,o5,y,c,bH⟩:=st;obtain⟨Ak,ad,_⟩:=bW;simp only at Ak;subst Ak;refine .cb (P:=fun _=>True) (fun _=>S0 _) fun cC _=>.cond (fun ad=>by simp at ad) fun _=>.ret ⟨_,rfl⟩
 obtain⟨q,rfl⟩:=he;simp only [Sum.elim_inl];exact .bind (adk _) fun r aA=>.ret aA
theorem aem (aa ai:List (BitVec 8)):DG [] aa ai (fun r=>r.1=true):=(afu [] aa ai).run
end Go.Proofs.YtppgfphgdogpeaaGreat
