/-
  What the programs compute, in plain Lean. Conditions: none.
-/
import Derived.Test.YtppgfphgdogpeaaGreatMp0
import Derived.Test.YtppgfphgdogpeaaGreatMl2
set_option linter.unusedVariables false
set_option linter.unusedSimpArgs false
set_option maxRecDepth 100000
namespace Go.Proofs.YtppgfphgdogpeaaGreat
open Go Gv
structure mH {α:Type}(f:α→α→Int):Prop where
 neg:∀ x y,f x y<0↔0<f y x
 oP:∀ x y z,f x y≤0→f y z≤0→f x z≤0
theorem mH.self {α:Type}{f:α→α→Int}(h:mH f)(x:α):f x x=0:=by have:=h.neg x x;omega
theorem mH.on {α β:Type}{f:β→β→Int}(h:mH f)(g:α→β):mH (fun x y=>f (g x) (g y)):=⟨fun x y=>h.neg _ _,fun x y z=>h.oP _ _ _⟩
theorem mH.rev {α:Type}{f:α→α→Int}(h:mH f):mH (fun x y=>f y x):=⟨fun x y=>h.neg y x,fun x y z h1 ae=>h.oP z y x ae h1⟩
def kK {α:Type}(f g:α→α→Int)(x y:α):Int:=if f x y=0 then g x y else f x y
theorem yN {α:Type}{f g:α→α→Int}{x y:α}(h:kK f g x y=0):f x y=0∧g x y=0:=by
 unfold kK at h;split at h
 ·rename_i e;exact⟨e,h⟩
 rename_i e;exact absurd h e
theorem mH.kK {α:Type}{f g:α→α→Int}(h:mH f)(k:mH g):mH (Go.Proofs.YtppgfphgdogpeaaGreat.kK f g) where
 neg x y:=by
  unfold Go.Proofs.YtppgfphgdogpeaaGreat.kK;have h1:=h.neg x y;have ae:=h.neg y x;by_cases e:f x y=0
  ·rw [if_pos e,if_pos (by omega)];exact k.neg x y
  rw [if_neg e,if_neg (by omega)];exact h1
 oP x y z:=by
  unfold Go.Proofs.YtppgfphgdogpeaaGreat.kK;intro h1 ae;have b4:f x y≤0:=by by_cases e:f x y=0 <;> simp [e] at h1 <;> omega
  have a2:f y z≤0:=by by_cases e:f y z=0 <;> simp [e] at ae <;> omega
  have a3:=h.oP x y z b4 a2;by_cases e:f x z=0
  ·have x8:f z x≤0:=by have:=h.neg x z;have:=h.neg z x;omega
   have ew:=h.oP z x y x8 b4;have eZ:=h.oP y z x a2 x8;have c1:f y z=0:=by have:=h.neg y z;omega
   have c2:f x y=0:=by have:=h.neg x y;omega
   rw [if_pos c2] at h1;rw [if_pos c1] at ae;rw [if_pos e];exact k.oP x y z h1 ae
  rw [if_neg e];exact a3
theorem NS {x y:Int} :fu x y<0↔x<y:=by unfold fu;split <;> (try split) <;> omega
theorem Ce {x y:Int} :0<fu x y↔y<x:=by unfold fu;split <;> (try split) <;> omega
theorem nN {x y:Int} :fu x y=0↔x=y:=by unfold fu;split <;> (try split) <;> omega
theorem vr:mH fu:=⟨fun x y=>by rw [NS,Ce],fun x y z h1 ae=>by
 have a:= @Ce x y;have b:= @Ce y z;have c:= @Ce x z;omega⟩
def lc {α:Type}(g:α→α→Int):List α→List α→Int
 | [],[]=>0
 | [],_::_=> -1
 | _::_,[]=>1
 | a::r,b::t=>if g a b=0 then lc g r t else g a b
theorem TY {α:Type}{g:α→α→Int}(h:mH g):∀ (x y:List α),lc g x y<0↔0<lc g y x
 | [],[]=>by simp [lc]
 | [],_::_=>by simp [lc]
 | _::_,[]=>by simp [lc]
 | a::r,b::t=>by
   have h1:=h.neg a b;have ae:=h.neg b a;unfold lc;by_cases e:g a b=0
   ·rw [if_pos e,if_pos (by omega)];exact TY h r t
   rw [if_neg e,if_neg (by omega)];exact h1
theorem Vj {α:Type}{g:α→α→Int}(h:mH g):∀ (x y z:List α),lc g x y≤0→lc g y z≤0→lc g x z≤0
 | [],_,[],_,_=>by simp [lc]
 | [],_,_::_,_,_=>by simp [lc]
 | _::_,[],_,h1,_=>by simp [lc] at h1
 | _::_,_::_,[],_,ae=>by simp [lc] at ae
 | a::r,b::t,c::u,h1,ae=>by
   unfold lc at h1 ae ⊢;have b4:g a b≤0:=by by_cases e:g a b=0 <;> simp [e] at h1 <;> omega
   have a2:g b c≤0:=by by_cases e:g b c=0 <;> simp [e] at ae <;> omega
   have a3:=h.oP a b c b4 a2;by_cases e:g a c=0
   ·have x8:g c a≤0:=by have:=h.neg a c;have:=h.neg c a;omega
    have ew:=h.oP c a b x8 b4;have eZ:=h.oP b c a a2 x8;have c1:g b c=0:=by have:=h.neg b c;omega
    have c2:g a b=0:=by have:=h.neg a b;omega
    rw [if_pos c2] at h1;rw [if_pos c1] at ae;rw [if_pos e];exact Vj h r t u h1 ae
   rw [if_neg e];exact a3
theorem NT {α:Type}{g:α→α→Int}(h:mH g):mH (lc g):=⟨TY h,Vj h⟩
theorem MD {α:Type}{g:α→α→Int}(h:∀ a b,g a b=0→a=b):∀ {x y:List α},lc g x y=0→x=y
 | [],[],_=>rfl
 | [],_::_,e=>by simp [lc] at e
 | _::_,[],e=>by simp [lc] at e
 | a::r,b::t,e=>by
   unfold lc at e;split at e
   ·rename_i av;rw [h a b av,MD h e]
   rename_i av;exact absurd e av
def gX (v:aO):Int:=((v.dG.toNat * 18446744073709551616+v.ch.toNat:Nat):Int)
theorem BY {x y:aO}(h:gX x=gX y):x=y:=by
 obtain⟨a,b⟩:=x;obtain⟨c,d⟩:=y;unfold gX at h;simp only at h;first
 | (have h1:=a.isLt;have ae:=b.isLt;have aA:=c.isLt;have aV:=d.isLt
    have av:a=c:=BitVec.eq_of_toNat_eq (by omega)
    have aX:b=d:=BitVec.eq_of_toNat_eq (by omega)
    rw [av,aX])
theorem Tk (x y:aO):wO x y=some (fu (gX x) (gX y)):=by
 unfold wO;by_cases e:x=y
 ·subst e;simp only [decide_true,cond_true];rw [nN.2 rfl]
 simp only [e,decide_false,cond_false,Option.bind_some];have dC:gX x≠gX y:=fun h=>e (BY h);have cH:((decide (x.dG<y.dG))||((x.dG==y.dG)&&(decide (x.ch<y.ch))))=decide (gX x<gX y):=by
  rw [Bool.eq_iff_iff];simp only [Bool.or_eq_true,Bool.and_eq_true,decide_eq_true_eq,beq_iff_eq,BitVec.lt_def];unfold gX;have h1:=x.dG.isLt;have ae:=x.ch.isLt;have aA:=y.dG.isLt;have aV:=y.ch.isLt;constructor
  ·rintro (h | ⟨h,dc⟩)
   ·omega
   rw [h];omega
  intro h;by_cases cB:x.dG.toNat<y.dG.toNat
  ·exact .inl cB
  have:x.dG.toNat=y.dG.toNat:=by omega
  exact .inr ⟨BitVec.eq_of_toNat_eq this,by omega⟩
 rw [cH];unfold fu;by_cases bm:gX x<gX y
 ·simp [bm]
 rw [decide_eq_false bm,if_neg bm,if_pos (by omega)];rfl
def ns:List Int→Int
 | []=>0
 | a::r=>if a=0 then ns r else a
theorem RM {l:List Int}(ao:l.length≤1000):uK l=some (ns l):=by
 refine br.get ?_;unfold uK;refine .bind (P:=fun e=>(∃ q,e= .inl q∧ns l=0)∨ ∃ q:Int×Int×Int×Bool×Bool,e= .inr q∧q.1=ns l)
  (br.nT l.length (fun j st=>st=(j:Int)∧ns l=ns (l.drop j)) (by omega) ⟨rfl,rfl⟩ (fun j st aF hs=>?_) (fun st hs=>?_)) fun e he=>?_
 ·obtain⟨rfl,hs⟩:=hs;rw [List.drop_eq_getElem_cons aF] at hs;have hs:ns l=if l[j]=0 then ns (l.drop (j+1)) else l[j]:=hs;refine .cond (fun _=>.idx rfl aF ?_) fun ai=>by simp at ai;omega
  rw [e7 _ aF];refine .cond (fun ai=>.ret (.inr ⟨_,rfl,?_⟩)) fun ai=>.ret ⟨fH (by omega),?_⟩
  ·have:l[j]≠0:=by simpa using ai
   rw [hs,if_neg this]
  have:l[j]=0:=by simpa using ai
  rw [hs,if_pos this]
 ·obtain⟨rfl,hs⟩:=hs;refine .cond (fun ai=>by simp at ai) fun _=>.ret (.inl ⟨_,rfl,?_⟩);rw [hs,List.drop_length];rfl
 rcases he with⟨q,rfl,hq⟩ | ⟨q,rfl,hq⟩
 ·simp only [Sum.elim_inl];exact .ret hq.symm
 simp only [Sum.elim_inr];exact .ret hq
theorem X1 {g:cg→cg→Int}{f:cg→cg→Option Int}(aY:∀ a b,f a b=some (g a b)){xs ys:List cg}(ar:xs.length≤100000)(a1:ys.length≤100000):CZ xs ys f=some (lc g xs ys):=by
 refine br.get ?_;unfold CZ;refine .bind (P:=fun e=>(∃ q,e= .inl q∧lc g xs ys=if xs.length<ys.length then -1 else 0)∨ ∃ q:Int×Int×Int×Bool×Bool,e= .inr q∧q.1=lc g xs ys)
  (br.nT xs.length (fun j st=>st=(j:Int)∧j≤ys.length∧lc g xs ys=lc g (xs.drop j) (ys.drop j)) (by omega) ⟨rfl,by omega,rfl⟩ (fun j st aF hs=>?_) (fun st hs=>?_)) fun e he=>?_
 ·obtain⟨rfl,zZ,hs⟩:=hs;refine .cond (fun _=>.idx rfl aF (.cond (fun ai=>.ret (.inr ⟨_,rfl,?_⟩)) fun ai=>?_)) fun ai=>by simp at ai;omega
  ·have ai:ys.length≤j:=by simpa using ai
   rw [hs,List.drop_eq_getElem_cons aF,List.drop_eq_nil_of_le ai];rfl
  have cH:j<ys.length:=by simpa using ai
  rw [List.drop_eq_getElem_cons aF,List.drop_eq_getElem_cons cH] at hs;refine .idx rfl cH (.eq (aY _ _) ?_);rw [e7 _ aF,e7 _ cH];have hs:lc g xs ys=if g xs[j] ys[j]=0 then lc g (xs.drop (j+1)) (ys.drop (j+1)) else g xs[j] ys[j]:=hs;refine .cond (fun ai=>.ret (.inr ⟨_,rfl,?_⟩)) fun ai=>.ret ⟨fH (by omega),cH,?_⟩
  ·have:g xs[j] ys[j]≠0:=by simpa using ai
   rw [hs,if_neg this]
  have:g xs[j] ys[j]=0:=by simpa using ai
  rw [hs,if_pos this]
 ·obtain⟨rfl,zZ,hs⟩:=hs;refine .cond (fun ai=>by simp at ai) fun _=>.ret (.inl ⟨_,rfl,?_⟩);rw [hs,List.drop_length];cases hd:ys.drop xs.length with
  | nil=>
    have:=List.drop_eq_nil_iff.1 hd
    rw [if_neg (by omega)];rfl
  | cons z wo=>
    have:ys.length - xs.length=wo.length+1:=by rw [← List.length_drop,hd];rfl
    rw [if_pos (by omega)];rfl
 rcases he with⟨q,rfl,hq⟩ | ⟨q,rfl,hq⟩
 ·simp only [Sum.elim_inl];refine .cond (fun ai=>.ret ?_) fun ai=>.ret ?_
  ·rw [hq,if_pos (by simpa using ai)]
  rw [hq,if_neg (by simpa using ai)]
 simp only [Sum.elim_inr];exact .ret hq
theorem X2 {g:aO→aO→Int}{f:aO→aO→Option Int}(aY:∀ a b,f a b=some (g a b)){xs ys:List aO}(ar:xs.length≤100000)(a1:ys.length≤100000):C0 xs ys f=some (lc g xs ys):=by
 refine br.get ?_;unfold C0;refine .bind (P:=fun e=>(∃ q,e= .inl q∧lc g xs ys=if xs.length<ys.length then -1 else 0)∨ ∃ q:Int×Int×Int×Bool×Bool,e= .inr q∧q.1=lc g xs ys)
  (br.nT xs.length (fun j st=>st=(j:Int)∧j≤ys.length∧lc g xs ys=lc g (xs.drop j) (ys.drop j)) (by omega) ⟨rfl,by omega,rfl⟩ (fun j st aF hs=>?_) (fun st hs=>?_)) fun e he=>?_
 ·obtain⟨rfl,zZ,hs⟩:=hs;refine .cond (fun _=>.idx rfl aF (.cond (fun ai=>.ret (.inr ⟨_,rfl,?_⟩)) fun ai=>?_)) fun ai=>by simp at ai;omega
  ·have ai:ys.length≤j:=by simpa using ai
   rw [hs,List.drop_eq_getElem_cons aF,List.drop_eq_nil_of_le ai];rfl
  have cH:j<ys.length:=by simpa using ai
  rw [List.drop_eq_getElem_cons aF,List.drop_eq_getElem_cons cH] at hs;refine .idx rfl cH (.eq (aY _ _) ?_);rw [e7 _ aF,e7 _ cH];have hs:lc g xs ys=if g xs[j] ys[j]=0 then lc g (xs.drop (j+1)) (ys.drop (j+1)) else g xs[j] ys[j]:=hs;refine .cond (fun ai=>.ret (.inr ⟨_,rfl,?_⟩)) fun ai=>.ret ⟨fH (by omega),cH,?_⟩
  ·have:g xs[j] ys[j]≠0:=by simpa using ai
   rw [hs,if_neg this]
  have:g xs[j] ys[j]=0:=by simpa using ai
  rw [hs,if_pos this]
 ·obtain⟨rfl,zZ,hs⟩:=hs;refine .cond (fun ai=>by simp at ai) fun _=>.ret (.inl ⟨_,rfl,?_⟩);rw [hs,List.drop_length];cases hd:ys.drop xs.length with
  | nil=>
    have:=List.drop_eq_nil_iff.1 hd
    rw [if_neg (by omega)];rfl
  | cons z wo=>
    have:ys.length - xs.length=wo.length+1:=by rw [← List.length_drop,hd];rfl
    rw [if_pos (by omega)];rfl
 rcases he with⟨q,rfl,hq⟩ | ⟨q,rfl,hq⟩
 ·simp only [Sum.elim_inl];refine .cond (fun ai=>.ret ?_) fun ai=>.ret ?_
  ·rw [hq,if_pos (by simpa using ai)]
  rw [hq,if_neg (by simpa using ai)]
 simp only [Sum.elim_inr];exact .ret hq
def mY (m:cg):Int:=if m.fO=true then 1 else 0
theorem adT (m:cg):AZ m=some (mY m):=by
 unfold AZ mY;cases m.fO <;> rfl
def o9:cg→cg→Int:=kK (fun x y=>fu (mY x) (mY y)) (kK (fun x y=>fu (gX x.da) (gX y.da)) (kK (fun x y=>fu (gX x.ho) (gX y.ho)) (kK (fun x y=>fu x.gm y.gm) (fun x y=>fu (gX x.nQ) (gX y.nQ)))))
theorem NU:mH o9:=(vr.on mY).kK ((vr.on fun x:cg=>gX x.da).kK ((vr.on fun x:cg=>gX x.ho).kK ((vr.on fun x:cg=>x.gm).kK (vr.on fun x:cg=>gX x.nQ))))
theorem Tl {x y:cg}(h:o9 x y=0):x=y:=by
 obtain⟨h1,h⟩:=yN h;obtain⟨ae,h⟩:=yN h;obtain⟨aA,h⟩:=yN h;obtain⟨aV,bc⟩:=yN h;refine My ?_ (BY (nN.1 ae)) (BY (nN.1 aA)) (nN.1 aV) (BY (nN.1 bc));have:=nN.1 h1;unfold mY at this;cases ar:x.fO <;> cases a1:y.fO <;> simp [ar,a1] at this <;> rfl
theorem V4 (a b c d e:Int):ns [a,b,c,d,e]=if a=0 then(if b=0 then(if c=0 then(if d=0 then e else d) else c) else b) else a:=by
 have:(if e=0 then 0 else e)=e:=by split <;> omega
 show(if a=0 then(if b=0 then(if c=0 then(if d=0 then(if e=0 then 0 else e) else d) else c) else b) else a)=_;rw [this]
theorem ZR (x y:cg):Dw x y=some (o9 x y):=by
 unfold Dw;by_cases e:x=y
 ·subst e;simp only [decide_true,cond_true];rw [NU.self]
 simp only [e,decide_false,cond_false,adT,y7,Tk,Option.bind_some];rw [RM (by simp),V4];rfl
def tC:a8→a8→Int:=kK (fun x y=>fu x.b3 y.b3) (kK (fun x y=>fu y.gl x.gl) (kK (fun x y=>lc o9 x.cU y.cU) (kK (fun x y=>fu x.fc y.fc) (fun x y=>lc (fun v w=>fu (gX v) (gX w)) x.fP y.fP))))
theorem agl:mH tC:=(vr.on fun x:a8=>x.b3).kK ((vr.on fun x:a8=>x.gl).rev.kK (((NT NU).on fun x:a8=>x.cU).kK ((vr.on fun x:a8=>x.fc).kK ((NT (vr.on gX)).on fun x:a8=>x.fP))))
theorem agm {x y:a8}(h:tC x y=0):fE x y=true:=by
 obtain⟨h1,h⟩:=yN h;obtain⟨ae,h⟩:=yN h;obtain⟨aA,h⟩:=yN h;exact rS.2 ⟨nN.1 h1,MD (fun a b=>Tl) aA,(nN.1 ae).symm⟩
theorem acS {x y:a8}(h1:x.cU.length≤1000)(ae:y.cU.length≤1000)(aA:x.fP.length≤1000)(aV:y.fP.length≤1000):D4 x y=some (tC x y):=by
 unfold D4;rw [y7,y7,y7,X1 ZR (by omega) (by omega),X2 Tk (by omega) (by omega)];simp only [Option.bind_some];rw [RM (by simp),V4];rfl
theorem Ss {c:az→az→Int}(ai:mH c):∀ {xs ys:List az},xs.Perm ys→xs.Pairwise (fun a b=>c a b≤0)→ys.Pairwise (fun a b=>c a b≤0)→ (∀ a∈xs,∀ b∈xs,c a b=0→a=b)→xs=ys
 | [],ys,h,_,_,_=>h.nil_eq
 | x::r,[],h,_,_,_=>by have:=h.length_eq;simp at this
 | x::r,y::t,h,h1,ae,aA=>by
   obtain⟨b4,a2⟩:=List.pairwise_cons.1 h1;obtain⟨ew,eZ⟩:=List.pairwise_cons.1 ae;have e:x=y:=by
    have ar:x∈y::t:=h.mem_iff.1 List.mem_cons_self;have a1:y∈x::r:=h.mem_iff.2 List.mem_cons_self;rcases List.mem_cons.1 ar with e | ar
    ·exact e
    rcases List.mem_cons.1 a1 with e | rh
    ·exact e.symm
    refine aA x List.mem_cons_self y a1 ?_;have g1:=b4 y rh;have g2:=ew x ar;have:=ai.neg x y;omega
   subst e;rw [Ss ai (List.perm_cons x |>.1 h) a2 eZ fun a a7 b hb=>aA a (List.mem_cons_of_mem _ a7) b (List.mem_cons_of_mem _ hb)]
theorem _root_.Gv.c9.next {β:Type}{n:Nat}{vis:List Nat}{k:Option Nat→ak β}{P:β→Prop}(h:∀ j,Ag n vis j→c9 (k j) P):c9 (ak.bind (ak.next n vis) k) P:=fun Q hq j aF=>h j aF Q hq
theorem _root_.Gv.c9.B1 {T:Type}{xs:List T}{F:T→T→Option Int}{c:T→T→Int}(ai:x1 c)(ao:xs.length<4611686018427387904)(mG:∀ a∈xs,∀ b∈xs,F a b=some (c a b)):c9 (ak.B1 xs F) (fun r=>r.Perm xs∧r.Pairwise (fun a b=>c a b≤0)):=fun Q hq=>⟨c,ai,ao,mG,fun ys h1 ae=>hq ys ⟨h1,ae⟩⟩
structure Met (n:Nat)(vis:List Nat):Prop where
 one:vis.Nodup
 lt:∀ q∈vis,q<n
theorem Met.more {n:Nat}{vis:List Nat}{q:Nat}(h:Met n vis)(hq:q<n∧q ∉ vis):Met n (vis++[q]):=
 ⟨by rw [List.nodup_append];exact⟨h.one,by simp,fun a a7 b hb e=>by rw [List.mem_singleton.1 hb] at e;exact hq.2 (e ▸ a7)⟩,fun a a7=>by
  rcases List.mem_append.1 a7 with a7 | a7
  ·exact h.lt a a7
  rw [List.mem_singleton.1 a7];exact hq.1⟩
theorem Met.perm {n:Nat}{vis:List Nat}(h:Met n vis)(a7:∀ j,j<n→j∈vis):vis.Perm (List.range n):=
 (List.perm_ext_iff_of_nodup h.one List.nodup_range).2 fun a=>⟨fun h1=>List.mem_range.2 (h.lt a h1),fun h1=>a7 a (List.mem_range.1 h1)⟩
theorem Met.full {n:Nat}{vis:List Nat}(h:Met n vis)(ao:vis.length=n){q:Nat}(hq:q<n):q∈vis:=by
 false_or_by_contra;rename_i gF;have h1:vis.Perm ((List.range n).filter fun x=>decide (x∈vis)):=(List.perm_ext_iff_of_nodup h.one (List.nodup_range.filter _)).2 fun a=>by
  rw [List.mem_filter,List.mem_range,decide_eq_true_eq];exact⟨fun h1=>⟨h.lt a h1,h1⟩,fun h1=>h1.2⟩
 have ae:=h1.length_eq;have aA:((List.range n).filter fun x=>decide (x∈vis)).length<(List.range n).length:=List.length_filter_lt_length_iff_exists.2 ⟨q,List.mem_range.2 hq,by simpa using gF⟩;rw [List.length_range] at aA;omega
theorem aaY {α:Type}[Inhabited α](l:List α):(List.range l.length).map (fun q=>aE l q)=l:=by
 apply List.ext_getElem
 ·simp
 intro i h1 ae;simp only [List.getElem_map,List.getElem_range];rw [e7 _ ae]
def nB (a c:az):Int:=tC a.bd c.bd
theorem EX:mH nB:=agl.on fun i:az=>i.bd
theorem agn {s:aZ}(h:cR s){k:Nat}(hk:k<4){hp:aC Cell}{p:Nat}{l:List az}{own:Nat→Prop}(ar:lU s k hp p l own)(hlen:l.length≤900):
 c9 (AU hp (some p)) (fun r=>r.2=hp∧r.1.Perm l∧r.1.Pairwise (fun a b=>nB a b≤0)):=by
 obtain⟨f,m,em,h1,ae,aA,aV,bc,bs⟩:=ar.cell
 have ao:=ar.gx.ok
 have Gb:em.length=l.length:=by rw [bc.length_eq,List.length_map]
 have Co:∀ q,q<em.length→ (aE em q).2∈l:=fun q hq=>by
  have hm:aE em q∈em:=by rw [e7 _ hq];exact List.getElem_mem _
  obtain⟨i,au,e⟩:=List.mem_map.1 (bc.mem_iff.1 hm);rw [← e];exact au
 have FF:∀ vis,Met em.length vis→ (∀ j,j<em.length→j∈vis)→ (vis.map fun q=>(aE em q).2).Perm l:=fun vis bm a7=>by
  refine((bm.perm a7).map _).trans ?_;have:(List.range em.length).map (fun q=>(aE em q).2)=em.map (·.2):=by
   rw [show(List.range em.length).map (fun q=>(aE em q).2)=((List.range em.length).map (fun q=>aE em q)).map (·.2) by rw [List.map_map];rfl,aaY]
  rw [this];refine(bc.map (·.2)).trans ?_;rw [List.map_map,show((fun x:Int×az=>x.2) ∘ fun i:az=>(i.b8,i))=id from rfl,List.map_id]
 unfold AU
 refine .cond (fun ai=>by cases ai) fun _=>.eq rfl (.eq h1 (.eq rfl (.eq ae ?_)))
 refine .bind (P:=fun e=>e.2.2.Perm l) (c9.loop em.length (fun j st=> ∃ vis,st=(vis,vis.map fun q=>(aE em q).2)∧vis.length=j∧Met em.length vis) (by omega) ⟨[],rfl,rfl,.nil,by simp⟩ (fun j st aF hs=>?_) (fun st hs=>?_)) fun e he=>?_
 ·obtain⟨vis,rfl,xW,bm⟩:=hs
  refine .next fun o bp=>?_
  cases o with
  | none=>exact .cond (fun ai=>by cases ai) fun _=>.ret (FF vis bm bp)
  | some q=>
    refine .cond (fun _=>.eq rfl (.eq (EV h hk (ao.ok _ (Co q bp.1))) (.eq (hT _ _ (by simp;omega) (by omega)) (.ret ⟨vis++[q],?_,by simp [xW],bm.more bp⟩)))) fun ai=>by cases ai
    rw [List.map_append];rfl
 ·obtain⟨vis,rfl,xW,bm⟩:=hs
  refine .next fun o bp=>?_
  cases o with
  | none=>exact .cond (fun ai=>by cases ai) fun _=>.ret (FF vis bm bp)
  | some q=>exact absurd (bm.full xW bp.1) bp.2
 have pM:∀ a∈e.2.2,a.bd.cU.length≤1000∧a.bd.fP.length≤1000:=fun a a7=>(ao.ok a (he.mem_iff.1 a7)).small h hk
 have hle:=he.length_eq
 refine .bind (c9.B1 (c:=nB) ⟨EX.neg,EX.oP⟩ (by omega) fun a a7 b hb=>?_) fun bh a1=>.ret ⟨rfl,a1.1.trans he,a1.2⟩
 unfold Hs
 rw [acS (pM a a7).1 (pM b hb).1 (pM a a7).2 (pM b hb).2]
 rfl
def Jy (ls:Nat→List az)(x:Nat)(r:List az):Prop:=if x=0 then r= [] else r.Perm (ls (x - 1))∧r.Pairwise (fun a b=>nB a b≤0)
theorem abT {s:aZ}(hs:cR s){hp:aC Cell}{p:Nat}{ls:Nat→List az}{next:Int}(h:tb s hp p ls next){x:Nat}(ar:x≤4)(ao:∀ k,k<4→ (ls k).length≤12):
 c9 (AN hp (some p) (x:Int)) (fun r=>r.2=hp∧Jy ls x r.1):=by
 unfold AN
 by_cases e:x=0
 ·subst e
  refine .eq (L9 h (by omega)) ?_
  unfold AU
  exact .bind (P:=fun r=>r=([],hp)) (.cond (fun _=>.ret rfl) fun ai=>by cases ai) fun r aI=>.ret (by rw [aI];exact⟨rfl,by unfold Jy;rw [if_pos rfl]⟩)
 obtain⟨k,rfl⟩:∃ k,x=k+1:=⟨x - 1,by omega⟩
 obtain⟨q,own,h1,ae⟩:=L8 h (show k<4 by omega)
 rw [show((k+1:Nat):Int)=(k:Int)+1 by omega]
 refine .eq h1 (.bind (agn hs (show k<4 by omega) ae (Nat.le_trans (ao k (by omega)) (by omega))) fun r aI=>.ret ⟨aI.1,?_⟩)
 unfold Jy;rw [if_neg e];exact aI.2
theorem tb.gx {s:aZ}{hp:aC Cell}{p:Nat}{ls:Nat→List az}{next:Int}(h:tb s hp p ls next){k:Nat}(hk:k<4):iH s k (ls k):=by
 obtain⟨q,own,_,ae⟩:=L8 h hk;exact ae.gx
theorem LS {ls:Nat→List az}{k:Nat} :fg ls k (ls k)=ls:=by
 funext j;unfold fg;split
 ·rename_i e;rw [e]
 rfl
def kO (r c:Int):Prop:=(r<0↔c<0)∧ (0<r↔0<c)
theorem kO.zero {r c:Int}(h:kO r c):r=0↔c=0:=by
 obtain⟨h1,ae⟩:=h;constructor
 ·intro e;have a: ¬ c<0:=fun x=>by have:=h1.2 x;omega
  have b: ¬ 0<c:=fun x=>by have:=ae.2 x;omega
  omega
 intro e;have a: ¬ r<0:=fun x=>by have:=h1.1 x;omega
 have b: ¬ 0<r:=fun x=>by have:=ae.1 x;omega
 omega
theorem kO.refl (r:Int):kO r r:=⟨Iff.rfl,Iff.rfl⟩
theorem I6 {α:Type}{f g:α→α→Int}{x y:α}(h:f x y=0):kK f g x y=g x y:=by unfold kK;rw [if_pos h]
theorem I7 {α:Type}{f g:α→α→Int}{x y:α}(h:f x y≠0):kK f g x y=f x y:=by unfold kK;rw [if_neg h]
theorem adU {a b:aO} :sq a b=true↔gX a<gX b:=by
 rw [Mw];simp only [BitVec.lt_def];unfold gX;have h1:=a.dG.isLt;have ae:=a.ch.isLt;have aA:=b.dG.isLt;have aV:=b.ch.isLt;constructor
 ·rintro (h | ⟨h,dc⟩)
  ·omega
  rw [h];omega
 intro h;by_cases cB:a.dG.toNat<b.dG.toNat
 ·exact .inl cB
 have:a.dG.toNat=b.dG.toNat:=by omega
 exact .inr ⟨BitVec.eq_of_toNat_eq this,by omega⟩
theorem IK (a b:aO):br (uJ a b) (fun r=>kO r (fu (gX a) (gX b))):=by
 refine(ZM a b).mono fun r aI=>?_;obtain⟨h1,ae⟩:=aI;rw [adU] at h1 ae;exact⟨by rw [NS];exact ae,by rw [Ce];exact h1⟩
theorem EH (a b:Int):sI a b=some (fu a b):=by
 unfold sI fu;by_cases h:a<b
 ·simp [h]
 by_cases ae:b<a
 ·simp [h,ae]
 simp [h,ae]
theorem aaZ (x y:cg):br (Ea x y) (fun r=>kO r (o9 x y)):=by
 unfold Ea o9;by_cases h3:x.fO=y.fO
 ·have z0:fu (mY x) (mY y)=0:=nN.2 (by unfold mY;rw [h3]);rw [show(x.fO !=y.fO)=false by simp [h3]];refine .cond (fun ai=>by simp at ai) fun _=>.cond (fun ai=>by cases ai) fun _=>?_;rw [I6 (f:=fun x y=>fu (mY x) (mY y)) z0];refine .cond (fun ai=>(IK _ _).bind fun r aI=>.ret ?_) fun ai=>?_
  ·rw [I7]
   ·exact aI
   intro h;have:=BY (nN.1 h);simp [this] at ai
  have av:x.da=y.da:=by simpa using ai
  rw [I6 (f:=fun x y:cg=>fu (gX x.da) (gX y.da)) (show fu (gX x.da) (gX y.da)=0 by rw [av];exact nN.2 rfl)];refine .cond (fun ai=>(IK _ _).bind fun r aI=>.ret ?_) fun ai=>?_
  ·rw [I7]
   ·exact aI
   intro h;have:=BY (nN.1 h);simp [this] at ai
  have aX:x.ho=y.ho:=by simpa using ai
  rw [I6 (f:=fun x y:cg=>fu (gX x.ho) (gX y.ho)) (show fu (gX x.ho) (gX y.ho)=0 by rw [aX];exact nN.2 rfl)];refine .cond (fun ai=>.eq (EH _ _) (.ret ?_)) fun ai=>?_
  ·rw [I7]
   ·exact kO.refl _
   intro h;have:=nN.1 h;simp [this] at ai
  have c0:x.gm=y.gm:=by simpa using ai
  rw [I6 (f:=fun x y:cg=>fu x.gm y.gm) (show fu x.gm y.gm=0 by rw [c0];exact nN.2 rfl)];exact(IK _ _).bind fun r aI=>.ret aI
 rw [show(x.fO !=y.fO)=true by simp [h3]];have hs:fu (mY x) (mY y)=if y.fO=true then -1 else 1:=by
  unfold mY fu;cases ar:x.fO <;> cases a1:y.fO <;> simp_all
 have dC:fu (mY x) (mY y)≠0:=by rw [hs];split <;> decide
 rw [I7 (f:=fun x y=>fu (mY x) (mY y)) dC];show br _ (fun r=>kO r (fu (mY x) (mY y)));rw [hs];refine .cond (fun ai=>.ret ?_) fun ai=>.cond (fun _=>.ret ?_) fun ai=>by cases ai
 ·rw [if_pos (by simpa using ai)];exact kO.refl _
 rw [if_neg (by simpa using ai)];exact kO.refl _
theorem Tm {α:Type}[Inhabited α]{g:α→α→Int}{f:α→α→Option Int}(aY:∀ a b,br (f a b) (fun r=>kO r (g a b))){xs ys:List α}(ar:xs.length≤100000)(a1:ys.length≤100000):
 br ((eI (σ:=Int) (ε:=(Int×Bool) ⊕ (Int×Int×Int×Bool×Bool)) eD (fun s1=>
 cond ((decide (s1<(xs.length:Int)))&&(decide (s1<(ys.length:Int)))) (
  (idx xs.length s1).bind fun aU=>
  (idx ys.length s1).bind fun bK=>
  (f (aE xs aU) (aE ys bK)).bind fun aq=>
  cond (aq !=0) (
   some (.inr (Sum.inr (aq,s1,aq,(decide (s1<(xs.length:Int)))&&(decide (s1<(ys.length:Int))),aq !=0)))) (
   some (.inl (bC (s1+1))))) (
  some (.inr (Sum.inl (s1,(decide (s1<(xs.length:Int)))&&(decide (s1<(ys.length:Int)))))))) 0).bind fun av=>
 Sum.elim (fun av=>
  (sI (xs.length:Int) (ys.length:Int)).bind fun aD=>
  some aD) (fun av=>
 some av.1) av) (fun r=>kO r (lc g xs ys)):=by
 refine .bind (P:=fun e=>(∃ q,e= .inl q∧lc g xs ys=fu (xs.length:Int) (ys.length:Int))∨ ∃ q:Int×Int×Int×Bool×Bool,e= .inr q∧kO q.1 (lc g xs ys))
  (br.nT (min xs.length ys.length) (fun j st=>st=(j:Int)∧lc g xs ys=lc g (xs.drop j) (ys.drop j)) (by omega) ⟨rfl,rfl⟩ (fun j st aF hs=>?_) (fun st hs=>?_)) fun e he=>?_
 ·obtain⟨rfl,hs⟩:=hs
  have Pz:j<xs.length:=by omega
  have zZ:j<ys.length:=by omega
  refine .cond (fun _=>?_) fun ai=>by
   rw [decide_eq_true (show(j:Int)<(xs.length:Int) by omega),decide_eq_true (show(j:Int)<(ys.length:Int) by omega)] at ai;cases ai
  rw [List.drop_eq_getElem_cons Pz,List.drop_eq_getElem_cons zZ] at hs
  refine .idx rfl Pz (.idx rfl zZ ((aY _ _).bind fun r aI=>?_))
  rw [e7 _ Pz,e7 _ zZ] at aI
  have hs:lc g xs ys=if g xs[j] ys[j]=0 then lc g (xs.drop (j+1)) (ys.drop (j+1)) else g xs[j] ys[j]:=hs
  refine .cond (fun ai=>.ret (.inr ⟨_,rfl,?_⟩)) fun ai=>.ret ⟨fH (by omega),?_⟩
  ·have:r≠0:=by simpa using ai
   rw [hs,if_neg (fun h=>this (aI.zero.2 h))];exact aI
  have:r=0:=by simpa using ai
  rw [hs,if_pos (aI.zero.1 this)]
 ·obtain⟨rfl,hs⟩:=hs
  refine .cond (fun ai=>by
   rw [Bool.and_eq_true,decide_eq_true_eq,decide_eq_true_eq] at ai;omega) fun _=>.ret (.inl ⟨_,rfl,?_⟩)
  rw [hs]
  rcases Nat.lt_trichotomy xs.length ys.length with h | h | h
  ·rw [show min xs.length ys.length=xs.length by omega,List.drop_length]
   cases hd:ys.drop xs.length with
   | nil=>have:=List.drop_eq_nil_iff.1 hd;omega
   | cons z wo=>
     unfold fu
     rw [if_pos (by omega)];rfl
  ·rw [show min xs.length ys.length=xs.length by omega,List.drop_length,h,List.drop_length,nN.2 rfl];rfl
  rw [show min xs.length ys.length=ys.length by omega,List.drop_length]
  cases hd:xs.drop ys.length with
  | nil=>have:=List.drop_eq_nil_iff.1 hd;omega
  | cons z wo=>
    unfold fu
    rw [if_neg (by omega),if_pos (by omega)];rfl
 rcases he with⟨q,rfl,hq⟩ | ⟨q,rfl,hq⟩
 ·simp only [Sum.elim_inl]
  refine .eq (EH _ _) (.ret ?_)
  rw [hq];exact kO.refl _
 simp only [Sum.elim_inr]
 exact .ret hq
theorem Q5 {xs ys:List cg}(ar:xs.length≤1000)(a1:ys.length≤1000):br (A1 xs ys) (fun r=>kO r (lc o9 xs ys)):=by
 unfold A1;exact Tm aaZ (by omega) (by omega)
theorem aak {xs ys:List aO}(ar:xs.length≤1000)(a1:ys.length≤1000):br (D8 xs ys) (fun r=>kO r (lc (fun v w=>fu (gX v) (gX w)) xs ys)):=by
 unfold D8;exact Tm IK (by omega) (by omega)
theorem aa0 {l:List Int}(ao:l.length≤1000):br (eI (σ:=Int) (ε:=(Int×Bool) ⊕ (Int×Int×Int×Bool×Bool)) eD (fun s1=>
 cond (decide (s1<(l.length:Int))) (
  (idx l.length s1).bind fun aU=>
  cond ((aE l aU) !=0) (
   some (.inr (Sum.inr (aE l aU,aE l aU,s1,decide (s1<(l.length:Int)),(aE l aU) !=0)))) (
   some (.inl (bC (s1+1))))) (
  some (.inr (Sum.inl (s1,decide (s1<(l.length:Int))))))) 0) (fun e=>(∃ q,e= .inl q∧ns l=0)∨ ∃ q:Int×Int×Int×Bool×Bool,e= .inr q∧q.1=ns l∧ns l≠0):=by
 refine br.nT l.length (fun j st=>st=(j:Int)∧ns l=ns (l.drop j)) (by omega) ⟨rfl,rfl⟩ (fun j st aF hs=>?_) (fun st hs=>?_)
 ·obtain⟨rfl,hs⟩:=hs
  rw [List.drop_eq_getElem_cons aF] at hs
  have hs:ns l=if l[j]=0 then ns (l.drop (j+1)) else l[j]:=hs
  refine .cond (fun _=>.idx rfl aF ?_) fun ai=>by simp at ai;omega
  rw [e7 _ aF]
  refine .cond (fun ai=>.ret (.inr ⟨_,rfl,?_⟩)) fun ai=>.ret ⟨fH (by omega),?_⟩
  ·have:l[j]≠0:=by simpa using ai
   rw [hs,if_neg this];exact⟨rfl,this⟩
  have:l[j]=0:=by simpa using ai
  rw [hs,if_pos this]
 obtain⟨rfl,hs⟩:=hs
 refine .cond (fun ai=>by simp at ai) fun _=>.ret (.inl ⟨_,rfl,?_⟩)
 rw [hs,List.drop_length];rfl
theorem aid (a b c d:Int):ns [a,b,c,d]=if a=0 then(if b=0 then(if c=0 then d else c) else b) else a:=by
 have hd:ns [d]=d:=by
  show(if d=0 then 0 else d)=d;split
  ·rename_i h;exact h.symm
  rfl
 show(if a=0 then(if b=0 then(if c=0 then ns [d] else c) else b) else a)=_;rw [hd]
theorem ago {t p m yb a v f:Int}(hm:kO m yb)(aY:f=if t=0 then(if p=0 then(if m=0 then a else m) else p) else t):
 (f≠0→kO f (if t=0 then(if p=0 then(if yb=0 then(if a=0 then v else a) else yb) else p) else t))∧ (f=0→ (if t=0 then(if p=0 then(if yb=0 then(if a=0 then v else a) else yb) else p) else t)=v):=by
 have cJ:=hm.zero
 by_cases bP:t=0
 ·rw [if_pos bP] at aY
  by_cases hp:p=0
  ·rw [if_pos hp] at aY
   by_cases bH:m=0
   ·rw [if_pos bH] at aY
    rw [if_pos bP,if_pos hp,if_pos (cJ.1 bH)]
    by_cases a7:a=0
    ·rw [if_pos a7];exact⟨fun h=>absurd (aY.trans a7) h,fun _=>rfl⟩
    rw [if_neg a7,aY];exact⟨fun _=>kO.refl _,fun h=>absurd h a7⟩
   rw [if_neg bH] at aY
   rw [if_pos bP,if_pos hp,if_neg (fun h=>bH (cJ.2 h)),aY]
   exact⟨fun _=>hm,fun h=>absurd h bH⟩
  rw [if_neg hp] at aY
  rw [if_pos bP,if_neg hp,aY]
  exact⟨fun _=>kO.refl _,fun h=>absurd h hp⟩
 rw [if_neg bP] at aY
 rw [if_neg bP,aY]
 exact⟨fun _=>kO.refl _,fun h=>absurd h bP⟩
theorem acT {x y:a8}(h1:x.cU.length≤1000)(ae:y.cU.length≤1000)(aA:x.fP.length≤1000)(aV:y.fP.length≤1000):br (D5 x y) (fun r=>kO r (tC x y)):=by
 unfold D5;refine .eq (EH _ _) (.eq (EH _ _) ((Q5 h1 ae).bind fun bh ajE=>.eq (EH _ _) ((aa0 (l:= [fu x.b3 y.b3,fu y.gl x.gl,bh,fu x.fc y.fc]) (by simp)).bind fun e he=>?_)));have ajF:tC x y=if fu x.b3 y.b3=0 then(if fu y.gl x.gl=0 then(if lc o9 x.cU y.cU=0 then(if fu x.fc y.fc=0 then lc (fun v w=>fu (gX v) (gX w)) x.fP y.fP else fu x.fc y.fc) else lc o9 x.cU y.cU) else fu y.gl x.gl) else fu x.b3 y.b3:=rfl;obtain⟨aU,bK⟩:=ago (v:=lc (fun v w=>fu (gX v) (gX w)) x.fP y.fP) ajE (aid (fu x.b3 y.b3) (fu y.gl x.gl) bh (fu x.fc y.fc));rw [← ajF] at aU bK;rcases he with⟨q,rfl,bH⟩ | ⟨q,rfl,hq,bH⟩
 ·simp only [Sum.elim_inl];refine(aak aA aV).bind fun r aI=>.ret ?_;rw [bK bH];exact aI
 simp only [Sum.elim_inr];refine .ret ?_;rw [hq];exact aU bH
theorem St {x y:a8}(h1:x.cU.length≤1000)(ae:y.cU.length≤1000):A4 x y=some (fE x y):=by
 refine br.get ?_;unfold A4;refine .cX (P:=fun r=>kO r (lc o9 x.cU y.cU)) (fun _=>Q5 h1 ae) fun r aI=>.eq rfl (.ret ?_);rw [Bool.eq_iff_iff,rS];simp only [Bool.and_eq_true,beq_iff_eq] at aI ⊢;constructor
 ·rintro ⟨⟨av,aX⟩,c0⟩;exact⟨av,MD (fun _ _=>Tl) ((aI ⟨av,aX⟩).zero.1 c0),aX⟩
 rintro ⟨av,aX,c0⟩;exact⟨⟨av,c0⟩,(aI ⟨av,c0⟩).zero.2 (by rw [aX];exact(NT NU).self _)⟩
def eJ (ls:Nat→List az):List az:=ls 0++ls 1++ls 2++ls 3
theorem It {ls:Nat→List az}{i:az} :i∈eJ ls↔ ∃ k,k<4∧i∈ls k:=by
 unfold eJ;simp only [List.mem_append];constructor
 ·rintro (((h | h) | h) | h)
  ·exact⟨0,by decide,h⟩
  ·exact⟨1,by decide,h⟩
  ·exact⟨2,by decide,h⟩
  exact⟨3,by decide,h⟩
 rintro ⟨k,hk,h⟩;have:k=0∨k=1∨k=2∨k=3:=by omega
 rcases this with rfl | rfl | rfl | rfl
 ·exact .inl (.inl (.inl h))
 ·exact .inl (.inl (.inr h))
 ·exact .inl (.inr h)
 exact .inr h
theorem yJ {ls ls':Nat→List az}(h:∀ k,k<4→ (ls k).Perm (ls' k)):(eJ ls).Perm (eJ ls'):=
 (((h 0 (by decide)).append (h 1 (by decide))).append (h 2 (by decide))).append (h 3 (by decide))
theorem pY {ls:Nat→List az}{k:Nat}(hk:k<4)(i:az):(eJ ls++[i]).Perm (eJ (fg ls k (ls k++[i]))):=by
 unfold eJ;have c:∀ a b d:List az,((a++b)++d).Perm (a++d++b):=fun a b d=>by
  rw [List.append_assoc,List.append_assoc];exact List.Perm.append_left _ List.perm_append_comm
 have:k=0∨k=1∨k=2∨k=3:=by omega
 rcases this with rfl | rfl | rfl | rfl
 ·rw [jm,jW (by decide),jW (by decide),jW (by decide)];exact(c _ _ _).trans (((c _ _ _).trans ((c _ _ _).append_right _)).append_right _)
 ·rw [jm,jW (by decide),jW (by decide),jW (by decide),← List.append_assoc (ls 0)];exact(c _ _ _).trans ((c _ _ _).append_right _)
 ·rw [jm,jW (by decide),jW (by decide),jW (by decide),← List.append_assoc (ls 0++ls 1)];exact c _ _ _
 rw [jm,jW (by decide),jW (by decide),jW (by decide),List.append_assoc (ls 0++ls 1++ls 2)]
structure n1 (s:aZ)(ls:Nat→List az):Prop where
 gx:∀ k,k<4→iH s k (ls k)
 len:∀ k,k<4→ (ls k).length≤12
structure kq (s:aZ)(y:cW)(ls:Nat→List az)(next:Int):Prop where
 pN:y.hU=s
 num:y.iO=next
 Kr:y.bW.Pairwise (fun a b=>nB a b≤0)
 rn:y.bW.Perm (eJ ls)
theorem kq.len {s:aZ}{y:cW}{ls:Nat→List az}{next:Int}(h:kq s y ls next)(ao:n1 s ls):y.bW.length≤48:=by
 rw [h.rn.length_eq];unfold eJ;have bH:=ao.len 0 (by decide);have h1:=ao.len 1 (by decide);have ae:=ao.len 2 (by decide);have aA:=ao.len 3 (by decide);simp only [List.length_append];omega
theorem kq.mem {s:aZ}{y:cW}{ls:Nat→List az}{next:Int}(h:kq s y ls next){i:az} :i∈y.bW↔ ∃ k,k<4∧i∈ls k:=by
 rw [h.rn.mem_iff,It]
theorem kq.ej {s:aZ}{y:cW}{ls:Nat→List az}{next:Int}(h:kq s y ls next)(ao:n1 s ls){i:az}(au:i∈y.bW):∃ k,k<4∧i∈ls k∧kI s k i:=by
 obtain⟨k,hk,au⟩:=h.mem.1 au;exact⟨k,hk,au,(ao.gx k hk).ok.ok i au⟩
theorem kq.small {s:aZ}(hs:cR s){y:cW}{ls:Nat→List az}{next:Int}(h:kq s y ls next)(ao:n1 s ls){i:az}(au:i∈y.bW):i.bd.cU.length≤1000∧i.bd.fP.length≤1000:=by
 obtain⟨k,hk,_,au⟩:=h.ej ao au;exact au.small hs hk
theorem kq.dE {s:aZ}(hs:cR s){y:cW}{ls:Nat→List az}{next:Int}(h:kq s y ls next)(ao:n1 s ls){k:Nat}(hk:k<4){e:a8}(he:gp s k e):(y.bW.any fun i=>fE i.bd e)=(Go.Proofs.YtppgfphgdogpeaaGreat.dE (ls k) e).isSome:=by
 rw [Bool.eq_iff_iff,List.any_eq_true];constructor
 ·rintro ⟨i,au,o6⟩;obtain⟨j,aF,gr,ajG⟩:=h.ej ao au;have bP:=(rS.1 o6).1;rw [ajG.ej.gG,he.gG] at bP;have:j=k:=by omega
  subst this;cases aY:Go.Proofs.YtppgfphgdogpeaaGreat.dE (ls j) e with
  | some _=>rfl
  | none=>rw [sL aY i gr] at o6;cases o6
 intro aY;obtain⟨i,aY⟩:=Option.isSome_iff_exists.1 aY;obtain⟨au,o6⟩:=oi aY;exact⟨i,h.mem.2 ⟨k,hk,au⟩,o6⟩
def Ow (y:cW)(x:Int):List az:=y.bW.filter fun i=>i.bd.b3==x
theorem aa1 {y:cW}{x:Int}(hlen:y.bW.length≤1000):DC y x=some (Ow y x):=by
 refine br.get ?_;unfold DC;refine .bind (P:=fun e=>e.2.2=Ow y x) (br.nT y.bW.length (fun j st=>st=((j:Int),(y.bW.take j).filter fun i=>i.bd.b3==x)) (by omega) rfl (fun j st aF hs=>?_) (fun st hs=>?_)) fun e he=>.ret he
 ·subst hs;have hle:=List.length_filter_le (fun i:az=>i.bd.b3==x) (y.bW.take j);rw [List.length_take] at hle;refine .cond (fun _=>.idx rfl aF (.bind (P:=fun m=>m=(y.bW.take (j+1)).filter fun i=>i.bd.b3==x) (.cond (fun ai=>.eq (hT _ _ (by simp only [List.length_cons,List.length_nil];omega) (by omega)) (.ret ?_)) fun ai=>.ret ?_) fun m hm=>.ret ?_)) fun ai=>by simp at ai;omega
  ·rw [nI _ aF,List.filter_append,show [aE y.bW j].filter (fun i=>i.bd.b3==x)= [aE y.bW j] from by simp only [List.filter_cons,ai,if_true,List.filter_nil]]
  ·rw [nI _ aF,List.filter_append,show [aE y.bW j].filter (fun i=>i.bd.b3==x)= [] from by rw [List.filter_cons,ai];rfl,List.append_nil]
  rw [hm,fH (by omega)]
 subst hs;refine .cond (fun ai=>by simp at ai) fun _=>.ret ?_;show List.filter _ (List.take _ _)=_;rw [List.take_length];rfl
theorem aa2 {s:aZ}{y:cW}{ls:Nat→List az}{next:Int}(h:kq s y ls next)(ao:n1 s ls){k:Nat}(hk:k<4):(Ow y ((k:Int)+1)).Perm (ls k):=by
 refine(h.rn.filter _).trans ?_;have key:∀ j,j<4→ (ls j).filter (fun i=>i.bd.b3==(k:Int)+1)=if j=k then ls j else []:=fun j aF=>by
  by_cases e:j=k
  ·subst e;rw [if_pos rfl];exact List.filter_eq_self.2 fun c ai=>by rw [((ao.gx j aF).ok.ok c ai).ej.gG];simp
  rw [if_neg e];exact List.filter_eq_nil_iff.2 fun c ai=>by rw [((ao.gx j aF).ok.ok c ai).ej.gG];simp;omega
 unfold eJ;rw [List.filter_append,List.filter_append,List.filter_append,key 0 (by decide),key 1 (by decide),key 2 (by decide),key 3 (by decide)];have:k=0∨k=1∨k=2∨k=3:=by omega
 rcases this with rfl | rfl | rfl | rfl <;> simp
theorem TZ {a b:a8} :(a.b3<b.b3→tC a b<0)∧ (b.b3<a.b3→0<tC a b):=by
 have h:tC a b=if fu a.b3 b.b3=0 then _ else fu a.b3 b.b3:=rfl;constructor
 ·intro cH;rw [h,if_neg (fun cJ=>by have:=nN.1 cJ;omega)];exact NS.2 cH
 intro cH;rw [h,if_neg (fun cJ=>by have:=nN.1 cJ;omega)];exact Ce.2 cH
theorem Ep {s:aZ}(hs:cR s){y:cW}(a1:y.hU=s){k:Nat}(hk:k<4){e:a8}(he:gp s k e):sF y e=some (k:Int):=by
 refine br.get ?_;unfold sF;rw [a1,he.gG];exact(ZL hs hk).bind fun r aI=>.ret aI
theorem Tn {s:aZ}(hs:cR s){y:cW}{ls:Nat→List az}{next:Int}(h:kq s y ls next)(ao:n1 s ls){k:Nat}(hk:k<4){i:az}(au:kI s k i):
 br (AV y i) (fun r=>r.hU=y.hU∧r.iO=y.iO∧r.bW.Pairwise (fun a b=>nB a b≤0)∧r.bW.Perm (y.bW++[i])):=by
 have hlen:=h.len ao
 unfold AV
 refine .bind (P:=fun e=> ∃ n:Nat,n≤y.bW.length∧e.1=(n:Int)∧ (∀ a∈y.bW.take n,nB a i≤0)∧ (∀ aQ:n<y.bW.length,0<nB (y.bW[n]) i))
  (br.nT y.bW.length (fun j st=>st=(j:Int)∧ ∀ a∈y.bW.take j,nB a i≤0) (by omega) ⟨rfl,fun a a7=>by simp at a7⟩ (fun j st aF hs=>?_) (fun st hs=>?_)) fun e he=>?_
 ·obtain⟨rfl,dk⟩:=hs
  have hm:aE y.bW j∈y.bW:=by rw [e7 _ aF];exact List.getElem_mem _
  obtain⟨k',ke,_,bp⟩:=h.ej ao hm
  have akc:kO 1 1:=kO.refl 1
  refine .cond (fun _=>?_) fun ai=>by simp at ai;omega
  refine .idx rfl aF (.eq (Ep hs h.pN ke bp.ej) (.eq (Ep hs h.pN hk au.ej) ?_))
  refine .cX (P:=fun c=>c=j) (fun _=>⟨j,oV aF,rfl⟩) fun bK ae=>?_
  refine .cX (P:=fun r=>kO r (nB (aE y.bW j) i)) (fun ai=>by
   rw [ae ai];exact acT (bp.small hs ke).1 (au.small hs hk).1 (bp.small hs ke).2 (au.small hs hk).2) fun bh aA=>?_
  have zj:((decide ((k':Int)>(k:Int)))||(((k':Int)==(k:Int))&&(decide (bh>0))))=decide (0<nB (aE y.bW j) i):=by
   obtain⟨t1,t2⟩:=TZ (a:=(aE y.bW j).bd) (b:=i.bd);rw [bp.ej.gG,au.ej.gG] at t1 t2;have nC:nB (aE y.bW j) i=tC (aE y.bW j).bd i.bd:=rfl;rcases Nat.lt_trichotomy k' k with cH | heq | ald
   ·have:=t1 (by omega);rw [decide_eq_false (show ¬ (k':Int)>(k:Int) by omega),show((k':Int)==(k:Int))=false by simp;omega,decide_eq_false (show ¬ 0<nB (aE y.bW j) i by rw [nC];omega)];rfl
   ·subst heq;have aA:=aA (by simp);rw [decide_eq_false (show ¬ (k':Int)>(k':Int) by omega),show((k':Int)==(k':Int))=true by simp,Bool.false_or,Bool.true_and];exact decide_eq_decide.2 aA.2
   have:=t2 (by omega);rw [decide_eq_true (show(k':Int)>(k:Int) by omega),decide_eq_true (show 0<nB (aE y.bW j) i by rw [nC];exact this)];rfl
  rw [zj]
  refine .cond (fun ai=>.ret ⟨j,by omega,rfl,dk,fun aQ=>?_⟩) fun ai=>.ret ⟨fH (by omega),fun a a7=>?_⟩
  ·rw [← e7 _ aQ];exact of_decide_eq_true ai
  rw [nI _ aF] at a7
  rcases List.mem_append.1 a7 with a7 | a7
  ·exact dk a a7
  rw [List.mem_singleton.1 a7]
  have:=of_decide_eq_false ai
  omega
 ·obtain⟨rfl,dk⟩:=hs
  exact .cond (fun ai=>by simp at ai) fun _=>.ret ⟨y.bW.length,Nat.le_refl _,rfl,dk,fun aQ=>absurd aQ (Nat.lt_irrefl _)⟩
 obtain⟨av,aX⟩:=e
 obtain⟨n,aQ,rfl,ij,gW⟩:=he
 have ri:i=i:=rfl
 refine .eq (a:=y.bW.take n) (by unfold qW;rw [if_pos ⟨by omega,by omega,by omega⟩];simp) ?_
 refine .eq (hT _ _ (by simp;omega) (by omega)) (.eq (hT _ _ (by simp;omega) (by omega)) (.eq (a:=y.bW.drop n) (by unfold qW;rw [if_pos ⟨by omega,by omega,by omega⟩,List.take_of_length_le (by simp)];rfl) (.eq (hT _ _ (by simp;omega) (by omega)) (.ret ?_))))
 simp only [List.nil_append]
 have wa:y.bW.Pairwise (fun a b=>nB a b≤0):=h.Kr
 refine⟨trivial,trivial,?_,?_⟩
 ·have pA:∀ b∈y.bW.drop n,nB i b≤0:=fun b hb=>by
   have qq:n<y.bW.length:=by
    rcases Nat.lt_or_ge n y.bW.length with dc | dc
    ·exact dc
    rw [List.drop_eq_nil_of_le dc] at hb;cases hb
   have bH:=gW qq;have h1:nB i y.bW[n]≤0:=by have:=(EX.neg i y.bW[n]).2 bH;omega
   have hd:y.bW.drop n=y.bW[n]::y.bW.drop (n+1):=List.drop_eq_getElem_cons qq;rw [hd] at hb;rcases List.mem_cons.1 hb with e | hb
   ·rw [e];exact h1
   have WT:=wa.sublist (List.drop_sublist n _);rw [hd] at WT;exact EX.oP _ _ _ h1 ((List.pairwise_cons.1 WT).1 b hb)
  have y6:=wa
  rw [← List.take_append_drop n y.bW,List.pairwise_append] at y6
  rw [List.append_assoc,List.pairwise_append]
  refine⟨y6.1,?_,fun a a7 b hb=>?_⟩
  ·rw [List.singleton_append,List.pairwise_cons]
   exact⟨pA,y6.2.1⟩
  rw [List.singleton_append] at hb
  rcases List.mem_cons.1 hb with e | hb
  ·rw [e];exact ij a a7
  exact y6.2.2 a a7 b hb
 rw [List.append_assoc]
 have ae:(y.bW.take n++(y.bW.drop n++[i]))=y.bW++[i]:=by rw [← List.append_assoc,List.take_append_drop]
 rw [← ae]
 exact List.Perm.append_left _ List.perm_append_comm
def FR (ls:Nat→List az):Nat→List az
 | 0=>[]
 | k+1=>FR ls k++ls k
theorem Su {ls:Nat→List az}{i:az} :∀ {n},i∈FR ls n→ ∃ k,k<n∧i∈ls k
 | 0,h=>by cases h
 | n+1,h=>by
   rcases List.mem_append.1 h with h | h
   ·obtain⟨k,hk,au⟩:=Su h;exact⟨k,by omega,au⟩
   exact⟨n,by omega,h⟩
theorem Sv {ls:Nat→List az}(ao:∀ k,k<4→ (ls k).length≤12):∀ n,n≤4→ (FR ls n).length≤12 * n
 | 0,_=>Nat.le_refl 0
 | n+1,h=>by
   have:=Sv ao n (by omega);have:=ao n (by omega);unfold FR;rw [List.length_append];omega
theorem adV {s:aZ}(hs:cR s){hp:aC Cell}{p:Nat}{ls:Nat→List az}{next:Int}{y:cW}(h:tb s hp p ls next)(aI:kq s y ls next)(ao:n1 s ls):c9 (DU hp (some p)) (fun r=>r=(y.bW,hp)):=by
 obtain⟨m,fq,own,h1,ae,aA⟩:=h.cell;unfold DU;refine .cond (fun ai=>by cases ai) fun _=>.eq rfl (.eq h1 ?_);refine .bind (P:=fun e=>e.2.2=(y.bW,hp)) (c9.loop 4 (fun k st=> ∃ out,st=((k:Int),out,hp)∧out.Perm (FR ls k)∧out.Pairwise (fun a b=>nB a b≤0)) (by decide) ⟨[],rfl,.refl _,.nil⟩ (fun k st hk dk=>?_) (fun st dk=>?_)) fun e he=>.ret (by rw [he])
 ·obtain⟨out,rfl,bR,PA⟩:=dk;have ajH:=(hs.gG hk).1;have Ke:=hs.mg;refine .cond (fun _=>?_) fun ai=>by simp only [decide_eq_false_iff_not] at ai;omega
  refine .idx (k:=k) rfl (by show k<s.bQ.length;omega) ?_;show c9 (ak.bind (AN hp (some p) (aE s.bQ k).bM) fun aq=>_) _;rw [ajH,show(k:Int)+1=((k+1:Nat):Int) by omega];refine .bind (abT hs h (x:=k+1) (by omega) ao.len) fun aq g=>?_;obtain⟨T,hp'⟩:=aq;obtain⟨ge,gt⟩:=g;simp only at ge gt;subst ge;unfold Jy at gt;rw [if_neg (by omega)] at gt;have gt:T.Perm (ls k)∧T.Pairwise (fun a b=>nB a b≤0):=gt;have Ae:=bR.length_eq;have PR:=Sv ao.len k (by omega);have Xa:=gt.1.length_eq;have P0:=ao.len k hk;refine .eq (hT _ _ (by simp only;omega) (by omega)) (.ret ⟨out++T,by rw [ib (by omega) (by omega)],bR.append gt.1,?_⟩);rw [List.pairwise_append];refine⟨PA,gt.2,fun a a7 b hb=>?_⟩;obtain⟨j,aF,a7⟩:=Su (bR.mem_iff.1 a7);have akq:=((ao.gx j (by omega)).ok.ok a a7).ej.gG;have akr:=((ao.gx k hk).ok.ok b (gt.1.mem_iff.1 hb)).ej.gG;have:=(TZ (a:=a.bd) (b:=b.bd)).1 (by rw [akq,akr];omega);show tC a.bd b.bd≤0;omega
 obtain⟨out,rfl,bR,PA⟩:=dk;have Ke:=hs.mg;refine .cond (fun ai=>by simp only [decide_eq_true_eq] at ai;omega) fun _=>.ret ?_;have Ox:out.Perm y.bW:=bR.trans aI.rn.symm;have:out=y.bW:=Ss EX Ox PA aI.Kr fun a a7 b hb cJ=>by
  obtain⟨j,aF,ajI,ajJ⟩:=aI.ej ao (Ox.mem_iff.1 a7);obtain⟨rz,sm,ajK,ajL⟩:=aI.ej ao (Ox.mem_iff.1 hb);have ss:=agm (x:=a.bd) (y:=b.bd) cJ;have bP:=(rS.1 ss).1;rw [ajJ.ej.gG,ajL.ej.gG] at bP;have:j=rz:=by omega
  subst this;exact(ao.gx j aF).uniq ajI ajK ss
 rw [this]
theorem abU {s:aZ}{k:Nat}{l rB:List az}(h:mB s k l)(p:rB.Perm l):mB s k rB:=
 ⟨fun i au=>h.ok i (p.mem_iff.1 au),(p.pairwise_iff fun cB=>Ne.symm cB).2 h.num,by rw [p.length_eq];exact h.len⟩
theorem uP {ls:Nat→List az}{k:Nat}{a b:List az} :fg (fg ls k a) k b=fg ls k b:=by
 funext j;unfold fg;split <;> rfl
theorem IL {l:List az}{e:a8}(h:dE l e=none):dm l e=l:=by
 unfold dm;exact List.filter_eq_self.2 fun c ai=>by rw [sL h c ai];rfl
theorem LU {l:List az}{e:a8}{i:az}(au:fE i.bd e=true):dm (l++[i]) e=dm l e:=by
 unfold dm;rw [List.filter_append];simp [au]
theorem wV {s:aZ}{k:Nat}{l:List az}(ao:iH s k l){e:a8}{i:az}(au:i∈l)(hk:fE i.bd e=true):(dm l e++[i]).Perm l:=by
 obtain⟨a,b,rfl⟩:=List.append_of_mem au;have lq:=ao.key;rw [List.pairwise_append] at lq;obtain⟨_,ae,aA⟩:=lq;have a7:dm a e=a:=List.filter_eq_self.2 fun c ai=>by
  have aV:=aA c ai i List.mem_cons_self;have:fE c.bd e=false:=by
   rw [Bool.eq_false_iff];intro bc;rw [rJ bc (by rw [rM];exact hk)] at aV;cases aV
  rw [this];rfl
 have hb:dm b e=b:=List.filter_eq_self.2 fun c ai=>by
  have aV:=(List.pairwise_cons.1 ae).1 c ai;have:fE c.bd e=false:=by
   rw [Bool.eq_false_iff];intro bc;rw [rJ hk (by rw [rM];exact bc)] at aV;cases aV
  rw [this];rfl
 have he:dm (a++i::b) e=a++b:=by
  unfold dm at a7 hb ⊢;rw [List.filter_append,a7,List.filter_cons_of_neg (by rw [hk];simp),hb]
 rw [he,List.append_assoc];exact List.Perm.append_left _ List.perm_append_comm
theorem Sw {s:aZ}{k:Nat}{l:List az}(ao:iH s k l){e:a8}{a i:az}(a7:a∈l)(hk:fE a.bd e=true)(au:fE i.bd e=true)(aQ:i.b8=a.b8):pL (dm l e) i=true:=by
 have h1:dE (dm l e) i.bd=none:=by
  cases aY:dE (dm l e) i.bd with
  | none=>rfl
  | some c=>
    obtain⟨ai,Gy⟩:=oi aY
    have:=(ng.1 ai).2
    rw [rJ Gy au] at this;cases this
 have ae:jO (dm l e) i.b8=false:=by
  rw [Bool.eq_false_iff];intro cB;unfold jO at cB;rw [List.any_eq_true] at cB;obtain⟨c,ai,aX⟩:=cB;obtain⟨g1,g2⟩:=ng.1 ai;have:c=a:=ao.ok.uniq g1 a7 (by rw [← aQ];simpa using aX);rw [this,hk] at g2;cases g2
 unfold pL;rw [h1,ae];rfl
theorem Sx {l:List az}{e:a8}{i:az}(au:fE i.bd e=true){d:a8}(hd:fE d e=true):dE (dm l e++[i]) d=some i:=by
 unfold dE;rw [List.find?_append];have h1:(dm l e).find? (fun c=>fE c.bd d)=none:=by
  rw [List.find?_eq_none];intro c ai;have:=(ng.1 ai).2;intro ae;rw [rJ ae hd] at this;cases this
 have ae:fE i.bd d=true:=rJ au (by rw [rM];exact hd);rw [h1];simp [ae]
theorem aa3 {l:List az}{e:a8}{i:az}(au:fE i.bd e=true){d:a8}(hd:fE d e=true):dm (dm l e++[i]) d=dm l e:=by
 rw [LU (rJ au (by rw [rM];exact hd))];exact List.filter_eq_self.2 fun c ai=>by
  have:=(ng.1 ai).2;have aA:fE c.bd d=false:=by
   rw [Bool.eq_false_iff];intro ae;rw [rJ ae hd] at this;cases this
  rw [aA];rfl
structure qL (X:Nat→Prop)(hp hp':aC Cell):Prop where
 at_:∀ q,X q→pat hp' q=pat hp q
 keys:∀ q,q∈dZ hp→q∈dZ hp'
theorem qL.trans {X:Nat→Prop}{a b c:aC Cell}(h:qL X a b)(k:qL X b c):qL X a c:=⟨fun q hq=>(k.at_ q hq).trans (h.at_ q hq),fun q hq=>k.keys q (h.keys q hq)⟩
structure j4 (X:Nat→Prop)(s:aZ)(hp:aC Cell)(p:Nat)(ls:Nat→List az)(next:Int):Prop where
 cell:∃ m fq own,jM hp p=some ⟨s,⟨some m⟩,next⟩∧mr hp m=some fq∧rT s hp p m fq 4 ls own∧ (¬ X p∧ ¬ X m)∧ ∀ k,k<4→ ∀ q,own k q→ ¬ X q
 oL:∀ q,X q→q∈dZ hp
theorem j4.ok {X:Nat→Prop}{s:aZ}{hp:aC Cell}{p:Nat}{ls:Nat→List az}{next:Int}(h:j4 X s hp p ls next):tb s hp p ls next:=by
 obtain⟨m,fq,own,h1,ae,aA,_⟩:=h.cell;exact⟨m,fq,own,h1,ae,aA⟩
theorem j4.off {X:Nat→Prop}{s:aZ}{hp hp':aC Cell}{p:Nat}{ls:Nat→List az}{next:Int}(h:j4 X s hp p ls next)(ne:∀ q,¬ X q→pat hp' q=pat hp q)(hk:∀ q,q∈dZ hp→q∈dZ hp'):j4 X s hp' p ls next:=by
 obtain⟨m,fq,own,h1,ae,aA,⟨aV,bc⟩,bs⟩:=h.cell;exact⟨⟨m,fq,own,by rw [Ei (ne p aV)];exact h1,by rw [Ej (ne m bc)];exact ae,aA.congr hk fun k hk x ar=>ne x (bs k hk x ar),⟨aV,bc⟩,bs⟩,
  fun x ar=>hk x (h.oL x ar)⟩
theorem j4.change {X:Nat→Prop}{s:aZ}{hp hp':aC Cell}{p:Nat}{ls:Nat→List az}{next:Int}{m:Nat}{fq:List (Int×Ref)}{own:Nat→Nat→Prop}(au:∀ q,X q→q∈dZ hp)(h1:jM hp p=some ⟨s,⟨some m⟩,next⟩)(ae:mr hp m=some fq)(aA:rT s hp p m fq 4 ls own)
 (aV: ¬ X p∧ ¬ X m) (bc:∀ k,k<4→ ∀ q,own k q→ ¬ X q) {k:Nat} (hk:k<4) {q:Nat} (hq:ec fq ((k:Int)+1)=some (some q)) {l:List az} {own':Nat→Prop}
 (ar:lU s k hp' q l own') (bp:∀ x,own' x→own k x∨x ∉ dZ hp) (qu:fo hp hp' (own k)):j4 X s hp' p (fg ls k l) next∧qL X hp hp':=by
 obtain⟨g1,g2,g3⟩:=rT.change h1 ae aA hk hq ar bp qu
 refine⟨⟨⟨m,fq,_,g1,g2,g3,aV,fun j aF x jh nD=>?_⟩,fun x jh=>qu.keys x (au x jh)⟩,⟨fun x jh=>qu.rest x (au x jh) fun h=>bc k hk x h jh,qu.keys⟩⟩
 by_cases e:j=k
 ·rw [if_pos e] at jh
  rcases bp x jh with h | h
  ·exact bc k hk x h nD
  exact h (au x nD)
 rw [if_neg e] at jh;exact bc j aF x jh nD
theorem j4.next' {X:Nat→Prop}{s:aZ}{hp:aC Cell}{p:Nat}{ls:Nat→List az}{next:Int}(h:j4 X s hp p ls next)(n:Int){c:iW}(ai:jM hp p=some c):j4 X s (cQ hp p (Cell.qd { c with l6:=n })) p ls n∧qL X hp (cQ hp p (Cell.qd { c with l6:=n })):=by
 obtain⟨m,fq,own,h1,ae,aA,aV,bc⟩:=h.cell;rw [h1] at ai;cases ai;have xY:=nO h1;have mX:p≠m:=fun e=>by rw [e,w8 ae] at xY;cases xY
 exact⟨⟨⟨m,fq,own,abQ xY,by rw [Ej (mI mX)];exact ae,aA.congr (fun q hq=>by rw [qR];exact hq) fun k hk q hq=>mI fun e=>(aA.out k hk).1 (e ▸ hq),aV,bc⟩,fun x ar=>by rw [qR];exact h.oL x ar⟩,
  ⟨fun x ar=>mI fun e=>aV.1 (e ▸ ar),fun x ar=>by rw [qR];exact ar⟩⟩
theorem Ma {s:aZ}{hp:aC Cell}{p m:Nat}{fq:List (Int×Ref)}{next:Int}(h1:jM hp p=some ⟨s,⟨some m⟩,next⟩)(ae:mr hp m=some fq){x:Int}{q:Nat}(aV:ec fq x=some (some q)):qN hp (some p) x=some (some q):=by
 refine br.get ?_;unfold qN;refine .cond (fun ai=>by cases ai) fun _=>.eq rfl (.eq h1 (.eq rfl (.eq ae (.eq rfl (.ret ?_)))));rw [aV];rfl
theorem abV {X:Nat→Prop}{s:aZ}(hs:cR s){hp:aC Cell}{p:Nat}{ls:Nat→List az}{next:Int}(h:j4 X s hp p ls next){k:Nat}(hk:k<4){e:a8}(he:gp s k e)(fU:Int)(Oy:∀ i∈ls k,i.b8<next)(hlen:(ls k).length<900)(aQ:0≤next∧next<1000000):
 c9 (AE hp (some p) e fU) (fun r=>
  if (dE (ls k) e).isSome=true then r=(0,17,hp) else if (aE s.bQ k).hG≤ ((ls k).length:Int) then r=(0,18,hp)
  else r.1=next∧r.2.1=0∧j4 X s r.2.2 p (fg ls k (ls k++[{ bd:=e,b8:=next,dA:=fU }])) (next+1)∧qL X hp r.2.2):=by
 obtain⟨m,fq,own,h1,ae,aA,nD,qy⟩:=h.cell
 obtain⟨q,aV,bc⟩:=aA.has k hk
 unfold AE
 rw [he.gG]
 refine .eq (Ma h1 ae aV) (.cond (fun ai=>by cases ai) fun _=>.eq (MA hs hk bc he) ?_)
 rw [Tj]
 refine .cond (fun ai=>.ret (by rw [if_pos ai])) fun ai=>.eq (adP bc) (.eq (acQ hs h.ok hk) (.cond (fun ed=>.ret ?_) fun ed=>?_))
 ·rw [if_neg (by rw [ai];simp),if_pos (by simpa using ed)]
 have ed: ¬ (aE s.bQ k).hG≤ ((ls k).length:Int):=by simpa using ed
 have aY:dE (ls k) e=none:=by
  cases aY:dE (ls k) e with
  | none=>rfl
  | some _=>rw [aY] at ai;cases ai
 have au:kI s k ({ bd:=e,b8:=next,dA:=fU } :az):=⟨he⟩
 have iT:jO (ls k) next=false:=by
  unfold jO;rw [List.any_eq_false];intro c ny;have:=Oy c ny;simp;omega
 have bP:pL (ls k) ({ bd:=e,b8:=next,dA:=fU } :az)=true:=by
  unfold pL;simp only [aY,iT];rfl
 refine .eq rfl (.eq h1 (.eq rfl (.bind (M8 hs hk bc au hlen) fun cy bs=>?_)))
 obtain⟨_,g2,g3⟩:=bs
 obtain⟨dk,pM⟩:=j4.change h.oL h1 ae aA nD qy hk aV g2 (fun x ar=>ar.imp id fun h=>h.1) g3
 unfold added at dk
 rw [if_pos bP] at dk
 obtain⟨rA,ale,own',b4,_⟩:=dk.cell
 refine .eq b4 (.eq rfl (.ret ?_))
 rw [if_neg (by rw [ai];simp),if_neg ed]
 have hw:bC (next+1)=next+1:=ib (by omega) (by omega)
 have:=dk.next' (next+1) b4
 simp only [hw]
 exact⟨trivial,trivial,this.1,pM.trans this.2⟩
theorem Iu {X:Nat→Prop}{s:aZ}(hs:cR s){hp:aC Cell}{p:Nat}{ls:Nat→List az}{next:Int}(h:j4 X s hp p ls next){k:Nat}(hk:k<4){e:a8}(he:gp s k e):
 c9 (tF hp (some p) e) (fun r=>(match dE (ls k) e with | some i=>(r.1,r.2.1)=(i,0) | none=>(r.1,r.2.1)=(default,16))∧j4 X s r.2.2 p (fg ls k (dm (ls k) e)) next∧qL X hp r.2.2):=by
 obtain⟨m,fq,own,h1,ae,aA,nD,qy⟩:=h.cell
 obtain⟨q,aV,bc⟩:=aA.has k hk
 unfold tF
 rw [he.gG]
 refine .eq (Ma h1 ae aV) (.cond (fun ai=>by cases ai) fun _=>.bind (aaX hs hk bc he) fun aD bs=>?_)
 obtain⟨g1,g2,g3⟩:=bs
 have dk:=j4.change h.oL h1 ae aA nD qy hk aV g2 (fun x ar=>.inl ar) g3
 have av:aD.1=(we (dE (ls k) e)).1:=congrArg Prod.fst g1
 have aX:aD.2.1=(we (dE (ls k) e)).2:=congrArg Prod.snd g1
 cases aY:dE (ls k) e with
 | none=>
   rw [aY] at av aX
   refine .cond (fun _=>.ret ⟨rfl,dk⟩) fun ai=>by rw [aX] at ai;cases ai
 | some i=>
   rw [aY] at av aX
   refine .cond (fun ai=>by rw [aX] at ai;cases ai) fun _=>.ret ⟨?_,dk⟩
   rw [av];rfl
theorem abW {X:Nat→Prop}{s:aZ}(hs:cR s){hp:aC Cell}{p:Nat}{ls:Nat→List az}{next:Int}(h:j4 X s hp p ls next){k:Nat}(hk:k<4){e:a8}(he:gp s k e)(hlen:(ls k).length<900):
 c9 (AF hp (some p) e) (fun r=>match dE (ls k) e with
  | some i=>r.1=i∧r.2.1=0∧j4 X s r.2.2 p (fg ls k (dm (ls k) e++[{ bd:=e,b8:=i.b8,dA:=i.dA }])) next∧qL X hp r.2.2
  | none=>r.2.1=16∧j4 X s r.2.2 p (fg ls k (dm (ls k) e)) next∧qL X hp r.2.2):=by
 have ri:=h.ok.gx hk
 unfold AF
 refine .bind (Iu hs h hk he) fun aq h1=>?_
 obtain⟨a,err,bR⟩:=aq
 obtain⟨g1,g2,gs⟩:=h1
 simp only at g1 g2 gs ⊢
 cases aY:dE (ls k) e with
 | none=>
   rw [aY] at g1
   have aX:err=16:=congrArg Prod.snd g1
   subst aX
   exact .cond (fun _=>.ret ⟨rfl,g2,gs⟩) fun ai=>by simp at ai
 | some i=>
   rw [aY] at g1
   have av:a=i:=congrArg Prod.fst g1
   have aX:err=0:=congrArg Prod.snd g1
   subst av aX
   refine .cond (fun ai=>by simp at ai) fun _=>?_
   obtain⟨a7,ajM⟩:=oi aY
   obtain⟨m,fq,own,h1,ae,aA,nD,qy⟩:=g2.cell
   obtain⟨q,aV,bc⟩:=aA.has k hk
   rw [jm] at bc
   have au:kI s k ({ bd:=e,b8:=a.b8,dA:=a.dA } :az):=⟨he⟩
   have bP:pL (dm (ls k) e) ({ bd:=e,b8:=a.b8,dA:=a.dA } :az)=true:=Sw ri a7 ajM (om _) rfl
   refine .eq rfl (.eq h1 (.eq rfl (.eq ae (.eq (a:=some q) (by rw [he.gG,aV];rfl) (.eq rfl (.bind (M8 hs hk bc au (by have:=Is (ls k) e;omega)) fun aD bs=>.ret ?_))))))
   obtain⟨_,bK,dI⟩:=bs
   obtain⟨dk,pM⟩:=j4.change g2.oL h1 ae aA nD qy hk aV bK (fun x ar=>ar.imp id fun h=>h.1) dI
   unfold added at dk
   rw [if_pos bP,uP] at dk
   exact⟨rfl,rfl,dk,gs.trans pM⟩
theorem aa4 {X:Nat→Prop}{s:aZ}(hs:cR s){hp:aC Cell}{p:Nat}{ls:Nat→List az}{next:Int}(h:j4 X s hp p ls next){k:Nat}(hk:k<4){i:az}(au:kI s k i)(hlen:(ls k).length<900):
 c9 (Dl hp (some p) i) (fun r=>r.1=pL (ls k) i∧j4 X s r.2 p (fg ls k (added (ls k) i)) next∧qL X hp r.2):=by
 obtain⟨m,fq,own,h1,ae,aA,nD,qy⟩:=h.cell
 obtain⟨q,aV,bc⟩:=aA.has k hk
 unfold Dl
 rw [au.ej.gG]
 refine .eq (Ma h1 ae aV) (.bind (M8 hs hk bc au hlen) fun bh bs=>.ret ⟨bs.1,?_⟩)
 exact j4.change h.oL h1 ae aA nD qy hk aV bs.2.1 (fun x ar=>ar.imp id fun h=>h.1) bs.2.2
theorem Ro {X:Nat→Prop}{s:aZ}{hp:aC Cell}{p:Nat}{ls:Nat→List az}{next:Int}(h:j4 X s hp p ls next)(n:Int):br (Aq hp (some p) n) (fun r=>j4 X s r p ls (max 1 n)∧qL X hp r):=by
 obtain⟨m,fq,own,h1,_⟩:=h.cell;unfold Aq;exact .bind (P:=fun m=>j4 X s m p ls (max 1 n)∧qL X hp m) (.cond (fun _=>.eq rfl (.eq h1 (.eq rfl (.ret (h.next' _ h1))))) fun ai=>by cases ai) fun m hm=>.ret hm
def jB {α:Type}(m:Option α)(P:α→Prop):Prop:= ∀ r,m=some r→P r
theorem jB.bind {α β:Type}{m:Option α}{f:α→Option β}{P:α→Prop}{Q:β→Prop}(h:jB m P)(k:∀ r,P r→jB (f r) Q):jB (m.bind f) Q:=fun r e=>by
 cases hm:m with
 | none=>rw [hm] at e;cases e
 | some a=>rw [hm] at e;exact k a (h a hm) r e
theorem jB.skip {α β:Type}{m:Option α}{f:α→Option β}{Q:β→Prop}(k:∀ r,jB (f r) Q):jB (m.bind f) Q:= .bind (P:=fun _=>True) (fun _ _=>trivial) fun r _=>k r
theorem jB.ret {α:Type}{a:α}{P:α→Prop}(h:P a):jB (some a) P:=fun r e=>by cases e;exact h
theorem jB.eq {α β:Type}{a:α}{f:α→Option β}{Q:β→Prop}(k:jB (f a) Q):jB ((some a).bind f) Q:=k
theorem jB.cond {α:Type}{b:Bool}{m n:Option α}{P:α→Prop}(h1:b=true→jB m P)(ae:b=false→jB n P):jB (cond b m n) P:=by
 cases b
 ·exact ae rfl
 exact h1 rfl
theorem jB.cX {α:Type}[Inhabited α]{b w:Bool}{m:Option α}{P:α→Prop}(h:jB m P):jB (cX b w m) (fun r=>b=w→P r):=fun r e hb=>by
 unfold Gv.cX at e;rw [if_pos hb] at e;exact h r e
theorem jB.idx {n:Nat}{i:Int} :jB (idx n i) (fun k=>(k:Int)=i∧k<n):=fun k e=>by
 obtain⟨h1,ae⟩:=dF e;exact⟨by omega,h1⟩
theorem jB.loop {σ ε:Type}{body:σ→Option (σ ⊕ ε)}{P:ε→Prop}{n:Nat}{cT:σ}(fS:σ→Prop)(bH:fS cT)(hb:∀ s,fS s→jB (body s) (fun x=>match x with | .inl cD=>fS cD | .inr e=>P e)):jB (eI n body cT) P:=by
 induction n generalizing cT with
 | zero=>intro r e;cases e
 | succ n cA=>
   intro r e
   simp only [eI] at e
   cases hm:body cT with
   | none=>rw [hm] at e;cases e
   | some x=>
     rw [hm] at e
     have:=hb cT bH x hm
     cases x with
     | inl cD=>exact cA this r e
     | inr y=>cases e;exact this
theorem br.par {α:Type}{m:Option α}{P Q:α→Prop}(h:br m P)(k:jB m Q):br m (fun r=>P r∧Q r):=by
 obtain⟨r,h1,ae⟩:=h;exact⟨r,h1,ae,k r h1⟩
theorem IM {α:Type}{b:Nat}{xs ys:List α} :jB (fY b xs ys) (fun r=>r=xs++ys):=fun r e=>by
 unfold fY at e;split at e
 ·cases e;rfl
 cases e
theorem Sy (c:du)(n:Int)(aQ:0<n):jB (fZ c n) (fun r=>0≤r.1∧r.1<n):=by
 unfold fZ;refine .skip fun _=>.cond (fun _=>.ret ⟨Int.le_refl 0,aQ⟩) fun _=>.bind .idx fun k _=>.bind (P:=fun y=>0≤y∧y<n) (fun y e=>?_) fun y a1=>.ret a1;unfold vB at e;split at e
 ·cases e
 cases e;exact⟨Int.tmod_nonneg _ (by omega),Int.tmod_lt_of_pos _ aQ⟩
def FT (s:aZ)(r:e6):Prop:=
 r.lF=1∧r.qQ=0∧ ((r.b3=2∧r.fc=4∧r.w4=0)∨ (r.b3=3∧r.fc=0∧r.lk=2∧ (aE s.bQ 2).dr.length=3)∨
   (r.b3=4∧r.fc=0∧r.lk=1∧ (aE s.bQ 3).dr.length=3)∨ (r.b3=4∧r.fc=5∧r.w4=0))
structure my (s:aZ):Prop where
 refs:∀ r∈s.e9,FT s r
 pD:s.e9.length≤4
 quo:∀ x∈s.eR,0≤x.iK
 all:(aE s.eR 0).iK=40
theorem aa5 (c:du)(eF:List cn):jB (yo c eF) (fun r=>(∀ x∈r.1,0≤x.iK)∧ (aE r.1 0).iK=40):=by
 unfold yo;refine .skip fun _=>.bind (Sy _ _ (by omega)) fun aD ae=>.skip fun bh=>.bind (Sy _ _ (by omega)) fun bL aV=>?_;refine .bind (P:=fun e=>0≤e.2.2.1.iK∧0≤e.2.2.2.2.2.1.iK∧e.2.2.2.2.2.2.2.1.iK=40) (.loop (fun st=>0≤st.2.1.iK∧0≤st.2.2.2.2.1.iK∧st.2.2.2.2.2.2.1.iK=40) ⟨aV.1,?_,rfl⟩ fun st dk=>?_) fun e he=>.eq (.eq (.ret ⟨fun x ar=>?_,he.2.2⟩))
 ·simp only;rw [ib (by omega) (by omega)];omega
 ·refine .cond (fun _=>.skip fun aU=>.skip fun cy=>.skip fun cr=>.skip fun aX=>.eq (.skip fun cL=>.skip fun dR=>?_)) fun _=>.ret dk;refine .bind (P:=fun m=>0≤m.2.1.iK) (.cond (fun _=>.skip fun _=>.skip fun _=>.eq (.skip fun _=>.ret dk.2.1)) fun _=>.ret dk.2.1) fun m1 h1=>.skip fun hW=>?_;exact .bind (P:=fun m=>0≤m.2.1.iK) (.cond (fun _=>.skip fun _=>.skip fun _=>.eq (.skip fun _=>.ret dk.1)) fun _=>.ret dk.1) fun m2 ae=>.ret ⟨ae,h1,dk.2.2⟩
 simp only [List.mem_cons,List.not_mem_nil,or_false] at ar;rcases ar with rfl | rfl | rfl
 ·show 0≤e.2.2.2.2.2.2.2.1.iK;rw [he.2.2];decide
 ·exact he.2.1
 exact he.1
theorem Rp (c:du):jB (wF c) (fun r=>my r.1):=by
 unfold wF;refine .skip fun aq=>.skip fun aD=>.eq (.eq (.eq (.eq (.eq (.eq (.eq (.eq (.eq (.eq (.eq (.eq (.skip fun bh=>.skip fun bL=>.skip fun cy=>.eq (.eq (.bind (aa5 _ _) fun cr bs=>.eq (.skip fun cC=>.skip fun m1=>.skip fun cL=>?_)))))))))))))));refine .bind (P:=fun m2=>m2.1.bQ=cy.1∧m2.1.eR=cr.1∧ (m2.2= []∨m2.2= [({ (default:e6) with b3:=2,fc:=4,lF:=1 } :e6)])) (.cond (fun _=>.eq (.bind IM fun y a1=>.ret ⟨rfl,rfl,.inr a1⟩)) fun _=>.ret ⟨rfl,rfl,.inl rfl⟩) fun m2 ae=>?_;obtain⟨av,aX,ae⟩:=ae;refine .skip fun dR=>.bind (.cX .idx) fun aU cv=>?_;refine .bind (P:=fun m3=>m3.1.bQ=cy.1∧m3.1.eR=cr.1∧m3.2.length≤2∧ ∀ s:aZ,s.bQ=cy.1→ ∀ r∈m3.2,FT s r) (.cond (fun ai=>.eq (.bind IM fun y a1=>.ret ⟨av,aX,?_,?_⟩)) fun _=>.ret ⟨av,aX,?_,?_⟩) fun m3 aA=>?_
 ·subst a1;rcases ae with h | h <;> simp [h]
 ·subst a1;intro s hs r aI;simp only [Bool.and_eq_true,beq_iff_eq] at ai;have hk:=cv ai.1;have hk:aU=2:=by omega
  subst hk;rw [av,← hs] at ai;simp only [List.mem_append,List.mem_singleton] at aI;rcases aI with aI | rfl
  ·rcases ae with h | h
   ·rw [h] at aI;cases aI
   rw [h,List.mem_singleton] at aI;subst aI;exact⟨rfl,rfl,.inl ⟨rfl,rfl,rfl⟩⟩
  exact⟨rfl,rfl,.inr (.inl ⟨rfl,rfl,rfl,by omega⟩)⟩
 ·rcases ae with h | h <;> simp [h]
 ·intro s hs r aI;rcases ae with h | h
  ·rw [h] at aI;cases aI
  rw [h,List.mem_singleton] at aI;subst aI;exact⟨rfl,rfl,.inl ⟨rfl,rfl,rfl⟩⟩
 obtain⟨c0,gb,Xa,aA⟩:=aA;refine .skip fun hW=>.bind (.cX .idx) fun bK de=>?_;refine .bind (P:=fun m4=>m4.1.bQ=cy.1∧m4.1.eR=cr.1∧m4.2.length≤4∧ ∀ s:aZ,s.bQ=cy.1→ ∀ r∈m4.2,FT s r) (.cond (fun ai=>.eq (.eq (.bind IM fun y a1=>.ret ⟨c0,gb,?_,?_⟩))) fun _=>.ret ⟨c0,gb,by simp only;omega,aA⟩) fun m4 aV=>?_
 ·subst a1;simp only [List.length_append,List.length_cons,List.length_nil];omega
 ·subst a1;intro s hs r aI;simp only [Bool.and_eq_true,beq_iff_eq] at ai;have hk:=de ai.1;have hk:bK=3:=by omega
  subst hk;rw [c0,← hs] at ai;simp only [List.mem_append,List.mem_cons,List.mem_singleton,List.not_mem_nil,or_false] at aI;rcases aI with aI | rfl | rfl
  ·exact aA s hs r aI
  ·exact⟨rfl,rfl,.inr (.inr (.inl ⟨rfl,rfl,rfl,by omega⟩))⟩
  exact⟨rfl,rfl,.inr (.inr (.inr ⟨rfl,rfl,rfl⟩))⟩
 obtain⟨kL,la,P0,aV⟩:=aV;exact .eq (.ret ⟨fun r aI=>aV _ kL r aI,P0,fun x ar=>by simp only [la] at ar;exact bs.1 x ar,by simp only [la];exact bs.2⟩)
def nq (e:a8):Prop:=e.fc=4∨e.fc=5→1≤e.fP.length
theorem Zt {s:aZ}(h:cR s){x:Int} :jB (AX s x) (fun a=>x=4∨x=5→1≤a.lf.length):=fun r e ar=>by
 have key:∀ j:Nat,j<6→x=(j:Int)+1→r.lf.map (·.fX)=aE vG j:=fun j aF aX=>by
  subst aX;obtain⟨nc,h1,ae⟩:=Q1 h aF;rw [e] at h1;cases h1;rw [ae];exact(h.act aF).2
 rcases ar with ar | ar
 ·have:=congrArg List.length (key 3 (by omega) (by omega));rw [List.length_map] at this;rw [this];decide
 have:=congrArg List.length (key 4 (by omega) (by omega));rw [List.length_map] at this;rw [this];decide
theorem aa6 (c:du){s:aZ}(h:cR s)(x:Int):jB (yq c s x) (fun r=>nq r.1):=by
 unfold yq;refine .skip fun aq=>.skip fun aU=>.skip fun av=>.skip fun cy=>.skip fun dI=>.eq (.bind (Zt h) fun cr bs=>?_);refine .bind (P:=fun e=>e.2.2.1.fc=aE (aE s.bQ aU).dV dI∧ (1≤cr.lf.length→1≤e.2.2.2.1.length)) (.loop (fun st=>st.2.1.fc=aE (aE s.bQ aU).dV dI∧ (st.1=0∨1≤st.2.2.1.length)) ⟨rfl,.inl rfl⟩ fun st dk=>?_) fun e he=>.eq (.ret fun a7=>?_)
 ·refine .cond (fun _=>.skip fun jQ=>.skip fun cC=>.eq (.skip fun cL=>.bind IM fun dR ea=>.ret ⟨dk.1,.inr ?_⟩)) fun ai=>.ret ⟨dk.1,fun ao=>?_⟩
  ·subst ea;simp
  rcases dk.2 with bH | bH
  ·have:=of_decide_eq_false ai;rw [bH] at this;omega
  exact bH
 simp only [he.1] at a7;exact he.2 (bs a7)
def rx (x:Int):Option Nat:=if x=1 then some 0 else if x=2 then some 1 else if x=7 then some 2 else none
theorem cR.oH {s:aZ}(h:cR s){j:Nat}(aF:j<3):(aE s.eR j).bM=aE [1,2,7] j:=by
 have ao:=h.pD;have:=h.Fh;have e:(s.eR.map (·.bM))[j]? =([1,2,7]:List Int)[j]? :=by rw [this]
 rw [List.getElem?_map,List.getElem?_eq_getElem (show j<s.eR.length by omega),List.getElem?_eq_getElem (show j<([1,2,7]:List Int).length from aF)] at e;rw [e7 _ (show j<s.eR.length by omega),e7 _ (show j<([1,2,7]:List Int).length from aF)];exact Option.some.inj e
theorem xi {x:Int}{j:Nat}(aF:j<3):aE [(1:Int),2,7] j=x↔rx x=some j:=by
 have h:j=0∨j=1∨j=2:=by omega
 unfold rx;rcases h with rfl | rfl | rfl
 ·show(1:Int)=x↔_;by_cases h1:x=1
  ·simp [h1]
  rw [if_neg h1];simp only [show ¬ (1:Int)=x from fun e=>h1 e.symm,false_iff];split
  ·simp
  split <;> simp
 ·show(2:Int)=x↔_;by_cases h1:x=2
  ·simp [h1]
  simp only [show ¬ (2:Int)=x from fun e=>h1 e.symm,false_iff,if_neg h1];split
  ·simp
  split <;> simp
 show(7:Int)=x↔_;by_cases h1:x=7
 ·simp [h1]
 simp only [show ¬ (7:Int)=x from fun e=>h1 e.symm,false_iff,if_neg h1];split
 ·simp
 split <;> simp
theorem zm {x:Int}{j:Nat}(h:rx x=some j):j<3:=by
 unfold rx at h;split at h
 ·cases h;omega
 split at h
 ·cases h;omega
 split at h <;> cases h;omega
structure pO (s:aZ)(hp:aC Cell)(p:Nat)(N:Int→Int):Prop where
 cell:∃ ji,ow hp p=some ⟨s.eR,ji⟩∧ ∀ j,j<3→cd ji j=N (aE [1,2,7] j)
theorem ZS {hp hp':aC Cell}{p:Nat}(h:pat hp' p=pat hp p):ow hp' p=ow hp p:=by unfold ow;rw [h]
theorem abX {hp:aC Cell}{p:Nat}{k:Cell}{x:iV}(h:pat hp p=some k):ow (cQ hp p (.r8 x)) p=some x:=by unfold ow;rw [rR h]
theorem pO.congr {s:aZ}{hp hp':aC Cell}{p:Nat}{N:Int→Int}(h:pO s hp p N)(e:pat hp' p=pat hp p):pO s hp' p N:=by
 obtain⟨ji,h1,ae⟩:=h.cell;exact⟨ji,by rw [ZS e];exact h1,ae⟩
def od (x:Int):Int:=match rx x with | some j=>(j:Int) | none=> -1
theorem T0 {s:aZ}(hs:cR s){hp:aC Cell}{p:Nat}{N:Int→Int}(h:pO s hp p N)(x:Int):Aw hp (some p) x=some (od x):=by
 obtain⟨ji,h1,ae⟩:=h.cell;have ao:=hs.pD;refine br.get ?_;unfold Aw;refine .cond (fun ai=>by cases ai) fun _=>.eq rfl (.eq h1 (.bind (P:=fun e=>e.1=od x) (br.nT 3 (fun i st=>st=(i:Int)∧ ∀ j,j<i→rx x≠some j) (by omega) ⟨rfl,fun j aF=>by omega⟩ (fun i st au dk=>?_) (fun st dk=>?_)) fun e he=>.ret he))
 ·obtain⟨rfl,aQ⟩:=dk;refine br.cond (fun _=>.idx rfl (by simp only;omega) (.cond (fun ai=>?_) fun ai=>?_)) fun ai=>by simp only [ao] at ai;simp at ai;omega
  ·simp only [beq_iff_eq,hs.oH au] at ai;have:=(xi au).1 ai;exact .ret (by unfold od;rw [this])
  refine .ret ⟨fH (by omega),fun j aF e=>?_⟩;by_cases kf:j=i
  ·subst kf;rw [← xi au,← hs.oH au] at e;rw [e] at ai;simp at ai
  exact aQ j (by omega) e
 obtain⟨rfl,aQ⟩:=dk;refine br.cond (fun ai=>by simp only [ao] at ai;simp at ai) fun _=>.ret ?_;show(-1:Int)=od x;unfold od;cases e:rx x with
 | none=>rfl
 | some j=>exact absurd e (aQ j (zm e))
def bump (N:Int→Int)(x:Int)(d:Int):Int→Int:=fun y=>if y=x then N x+d else N y
theorem pO.bump {s:aZ}{hp:aC Cell}{p:Nat}{N:Int→Int}{ji:Vector Int 6}(h1:ow hp p=some ⟨s.eR,ji⟩)(ae:∀ j,j<3→cd ji j=N (aE [1,2,7] j)){x:Int}{j:Nat}(aF:rx x=some j)(d:Int):
 pO s (cQ hp p (Cell.r8 ⟨s.eR,dX ji j (N x+d)⟩)) p (Go.Proofs.YtppgfphgdogpeaaGreat.bump N x d):=by
 refine⟨_,abX (rN h1),fun i au=>?_⟩
 have alf:=zm aF
 unfold Go.Proofs.YtppgfphgdogpeaaGreat.bump
 by_cases e:i=j
 ·subst e
  rw [jI _ _ (by omega),if_pos rfl,if_pos ((xi au).2 aF)]
 rw [jI _ _ (by omega),if_neg e,if_neg (fun aX=>e (by have:=(xi au).1 aX;rw [aF] at this;cases this;rfl)),ae i au]
def room (s:aZ)(N:Int→Int)(x:Int):Bool:=match rx x with | some j=>decide (N x<(aE s.eR j).iK) | none=>false
theorem Vk {s:aZ}(hs:cR s){hp:aC Cell}{p:Nat}{N:Int→Int}(h:pO s hp p N)(iT:∀ x,0≤N x∧N x<100000)(x:Int):
 br (AK hp (some p) x) (fun r=>if room s N x=true then r.1=true∧ (∃ c,r.2=cQ hp p c)∧pO s r.2 p (bump N x 1) else r=(false,hp)):=by
 obtain⟨ji,h1,ae⟩:=h.cell
 have ao:=hs.pD
 unfold AK
 refine .eq (T0 hs h x) ?_
 cases aI:rx x with
 | none=>
   have e:od x= -1:=by unfold od;rw [aI]
   have aX:room s N x=false:=by unfold room;rw [aI]
   rw [e,aX]
   exact .ret rfl
 | some j=>
   have aF:=zm aI
   have e:od x=(j:Int):=by unfold od;rw [aI]
   have h3:cd ji j=N x:=by rw [ae j aF,(xi aF).2 aI]
   rw [e]
   have hd:decide ((j:Int)<0)=false:=by simp
   simp only [hd]
   refine .eq (a:=p) rfl (.eq (a:=j) (by unfold cX;rw [if_pos rfl];exact oV (by omega)) (.eq (a:=⟨s.eR,ji⟩) (by unfold cX;rw [if_pos rfl];exact h1) (.eq (a:=p) rfl (.eq (a:=⟨s.eR,ji⟩) (by unfold cX;rw [if_pos rfl];exact h1)
    (.eq (a:=j) (by unfold cX;rw [if_pos rfl];exact oV (by simp only;omega)) (.eq rfl (.cond (fun ai=>?_) fun ai=>?_)))))))
   ·have aX:room s N x=false:=by unfold room;rw [aI];simp only [Bool.false_or,decide_eq_true_eq,h3] at ai;simp;omega
    rw [aX];exact .ret rfl
   have aX:room s N x=true:=by unfold room;rw [aI];simp only [Bool.false_or,decide_eq_false_iff_not,h3] at ai;simp;omega
   rw [aX]
   refine .eq (a:=p) rfl (.idx rfl (by omega) (.eq h1 (.idx rfl (by omega) (.eq rfl (.ret ⟨rfl,⟨_,rfl⟩,?_⟩)))))
   have hw:bC (cd ji j+1)=N x+1:=by rw [h3];have:=iT x;exact ib (by omega) (by omega)
   simp only [hw]
   exact pO.bump h1 ae aI 1
theorem T1 {s:aZ}(hs:cR s){hp:aC Cell}{p:Nat}{N:Int→Int}(h:pO s hp p N){x:Int}{j:Nat}(aI:rx x=some j)(iT:0<N x∧N x<100000):
 br (Ax hp (some p) x) (fun r=>(∃ c,r.2=cQ hp p c)∧pO s r.2 p (bump N x (-1))):=by
 obtain⟨ji,h1,ae⟩:=h.cell
 have aF:=zm aI
 have e:od x=(j:Int):=by unfold od;rw [aI]
 have h3:cd ji j=N x:=by rw [ae j aF,(xi aF).2 aI]
 unfold Ax
 refine .eq (T0 hs h x) ?_
 rw [e]
 have hd:decide ((j:Int)<0)=false:=by simp
 simp only [hd]
 refine .eq (a:=p) rfl (.eq (a:=j) (by unfold cX;rw [if_pos rfl];exact oV (by omega)) (.eq (a:=⟨s.eR,ji⟩) (by unfold cX;rw [if_pos rfl];exact h1) (.cond (fun ai=>?_) fun ai=>?_)))
 ·simp only [Bool.false_or,beq_iff_eq,h3] at ai;omega
 refine .eq (a:=p) rfl (.idx rfl (by omega) (.eq h1 (.idx rfl (by omega) (.eq rfl (.ret ⟨⟨_,rfl⟩,?_⟩)))))
 have hw:bC (cd ji j - 1)=N x+ -1:=by rw [h3];exact ib (by omega) (by omega)
 simp only [hw]
 exact pO.bump h1 ae aI (-1)
theorem agp {s:aZ}(hs:cR s){hp:aC Cell}{p:Nat}{N:Int→Int}(h:pO s hp p N):br (DD hp (some p)) (fun r=>r= [⟨1,N 1⟩,⟨2,N 2⟩,⟨7,N 7⟩]):=by
 obtain⟨ji,h1,ae⟩:=h.cell;have ao:=hs.pD;unfold DD;refine .cond (fun ai=>by cases ai) fun _=>.eq rfl (.eq h1 (.bind (P:=fun e=>e.2.2=(List.range 3).map fun j=>(⟨aE [1,2,7] j,N (aE [1,2,7] j)⟩:hR)) (br.nT 3 (fun i st=>st=((i:Int),(List.range i).map fun j=>(⟨aE [1,2,7] j,N (aE [1,2,7] j)⟩:hR))) (by omega) rfl (fun i st au dk=>?_) (fun st dk=>?_)) fun e he=>.ret (by rw [he];rfl)))
 ·subst dk;refine br.cond (fun _=>.idx rfl (by simp only;omega) (.idx rfl (by omega) (.eq rfl (.eq (hT _ _ (by simp;omega) (by omega)) (.ret ?_))))) fun ai=>by simp only [ao] at ai;simp at ai;omega
  simp only;rw [fH (by omega),hs.oH au,ae i au,List.range_succ,List.map_append];rfl
 subst dk;exact br.cond (fun ai=>by simp only [ao] at ai;simp at ai) fun _=>.ret rfl
def qx (e:a8)(r:e6):List dq:=
 if r.b3=e.b3 then(if r.fc=0 then [⟨r.lF,r.qQ,(aE e.cU r.lk.toNat).da⟩] else if r.fc=e.fc then [⟨r.lF,r.qQ,aE e.fP r.w4.toNat⟩] else []) else []
def jC (s:aZ)(e:a8):List dq:=s.e9.flatMap (qx e)
def GI (e:a8):dq:=⟨1,0,(aE e.cU 0).da⟩
def jj (s:aZ)(e:a8):List dq:=if e.b3=1∧s.e9≠ [] then [GI e] else []
def z1 (s:aZ)(e:a8):Prop:=(∃ k,k<4∧gp s k e)∧nq e
theorem To (e:a8)(r:e6):(qx e r).length≤1:=by
 unfold qx;split
 ·split
  ·simp
  split <;> simp
 simp
theorem Mb {α β:Type}{f:α→List β}(aY:∀ x,(f x).length≤1):∀ l:List α,(l.flatMap f).length≤l.length
 | []=>by simp
 | x::l=>by
   have:=Mb aY l;have:=aY x;rw [List.flatMap_cons,List.length_append,List.length_cons];omega
theorem ME {s:aZ}(aI:my s)(e:a8):(jC s e).length≤4:=Nat.le_trans (Mb (To e) _) aI.pD
theorem z1.aie {s:aZ}(hs:cR s){e:a8}(h:z1 s e):1≤e.cU.length∧e.cU.length≤1000:=by
 obtain⟨⟨k,hk,he⟩,_⟩:=h;have h1:=he.len;have ae:=(hs.gG hk).2.1;omega
theorem adW {s:aZ}{e:a8}(h:z1 s e){r:e6}(aI:FT s r)(bP:r.b3=e.b3)(a7:r.fc=0):r.lk=(r.lk.toNat:Int)∧r.lk.toNat<e.cU.length:=by
 obtain⟨⟨k,hk,he⟩,_⟩:=h;have h1:=he.len;have ae:=he.gG;rcases aI.2.2 with⟨_,g,_⟩ | ⟨g1,_,g2,g3⟩ | ⟨g1,_,g2,g3⟩ | ⟨_,g,_⟩
 ·omega
 ·have:k=2:=by omega
  subst this;rw [g2];exact⟨rfl,by rw [h1,g3];decide⟩
 ·have:k=3:=by omega
  subst this;rw [g2];exact⟨rfl,by rw [h1,g3];decide⟩
 omega
theorem adX {s:aZ}{e:a8}(h:z1 s e){r:e6}(aI:FT s r)(a7:r.fc≠0)(hb:r.fc=e.fc):r.w4=0∧0<e.fP.length:=by
 rcases aI.2.2 with⟨_,g,g2⟩ | ⟨_,g,_⟩ | ⟨_,g,_⟩ | ⟨_,g,g2⟩
 ·exact⟨g2,h.2 (.inl (by omega))⟩
 ·exact absurd g a7
 ·exact absurd g a7
 exact⟨g2,h.2 (.inr (by omega))⟩
theorem aa7 {α β:Type}[Inhabited α](f:α→List β){l:List α}{i:Nat}(au:i<l.length):(l.take (i+1)).flatMap f=(l.take i).flatMap f++f (aE l i):=by
 rw [List.take_add_one,List.getElem?_eq_getElem au,e7 _ au,List.flatMap_append];simp
theorem Bx {α:Type}[Inhabited α]{l:List α}{i:Nat}(au:i<l.length):aE l i∈l:=by rw [e7 _ au];exact List.getElem_mem au
theorem Rq {e:a8}{k:Nat}(hk:k<e.cU.length):A9 e (k:Int)=some (aE e.cU k).da:=by
 refine br.get ?_;unfold A9;refine .cond (fun ai=>?_) fun _=>.idx rfl hk (.ret rfl);simp only [Bool.or_eq_true,decide_eq_true_eq] at ai;omega
theorem ZT {e:a8}(hk:0<e.fP.length):D2 e 0=some (aE e.fP 0):=by
 refine br.get ?_;unfold D2;refine .cond (fun ai=>?_) fun _=>.idx (k:=0) rfl hk (.ret rfl);simp only [Bool.or_eq_true,decide_eq_true_eq] at ai;omega
theorem abY {s:aZ}(aI:my s){e:a8}(he:z1 s e):Ed s e=some (jC s e):=by
 refine br.get ?_;unfold Ed;have ao:=aI.pD;refine .bind (P:=fun x=>x.2.2=jC s e) (br.nT s.e9.length (fun i st=>st=((i:Int),(s.e9.take i).flatMap (qx e))) (by omega) rfl (fun i st au dk=>?_) fun st dk=>?_) fun x ar=>.ret ar
 ·subst dk;refine .cond (fun _=>.idx rfl au ?_) fun ai=>by simp at ai;omega
  have GJ:=aI.refs _ (Bx au);have ajN:((s.e9.take i).flatMap (qx e)).length≤4:=Nat.le_trans (Mb (To e) _) (by rw [List.length_take];omega);refine .bind (P:=fun m=>m=(s.e9.take (i+1)).flatMap (qx e)) ?_ fun m hm=>.ret (by rw [hm,fH (by omega)]);rw [aa7 _ au];refine .cond (fun ai=>.ret ?_) fun ai=>.bind (P:=fun m=>m=(s.e9.take i).flatMap (qx e)++qx e (aE s.e9 i)) (.cond (fun a7=>?_) fun a7=>.bind (P:=fun m=>m=(s.e9.take i).flatMap (qx e)++qx e (aE s.e9 i)) (.cond (fun hb=>?_) fun hb=>.ret ?_) fun m hm=>.ret hm) fun m hm=>.ret hm
  ·unfold qx;rw [if_neg (by simpa using ai)];simp
  ·have bP:(aE s.e9 i).b3=e.b3:=by simpa using ai
   have a7:(aE s.e9 i).fc=0:=by simpa using a7
   obtain⟨g1,g2⟩:=adW he GJ bP a7;rw [g1];refine .eq (Rq g2) (.eq rfl (.eq (hT _ _ (by simp only [List.length_cons,List.length_nil];omega) (by omega)) (.ret ?_)));unfold qx;rw [if_pos bP,if_pos a7]
  ·have bP:(aE s.e9 i).b3=e.b3:=by simpa using ai
   have a7: ¬ (aE s.e9 i).fc=0:=by simpa using a7
   have hb:(aE s.e9 i).fc=e.fc:=by simpa using hb
   obtain⟨g1,g2⟩:=adX he GJ a7 hb;rw [g1];refine .eq (ZT g2) (.eq rfl (.eq (hT _ _ (by simp only [List.length_cons,List.length_nil];omega) (by omega)) (.ret ?_)));unfold qx;rw [if_pos bP,if_neg a7,if_pos hb,g1];rfl
  have bP:(aE s.e9 i).b3=e.b3:=by simpa using ai
  have a7: ¬ (aE s.e9 i).fc=0:=by simpa using a7
  have hb: ¬ (aE s.e9 i).fc=e.fc:=by simpa using hb
  unfold qx;rw [if_pos bP,if_neg a7,if_neg hb];simp
 subst dk;exact .cond (fun ai=>by simp at ai) fun _=>.ret (by show _=jC s e;simp [jC])
theorem acU {l:List dq}(ao:l.length≤1000)(x:dq):br (C1 l x) (fun r=>r=decide (x∈l)):=by
 unfold C1 He;refine .bind (P:=fun y=>(0≤y)↔x∈l) ?_ fun y a1=>.ret (by simp only [ge_iff_le,a1]);refine br.loop l.length (fun i st=>st=(i:Int)∧ ∀ j,j<i→x≠aE l j) (by omega) ⟨rfl,fun j aF=>by omega⟩ (fun i st au dk=>?_) fun st dk=>?_
 ·obtain⟨rfl,aQ⟩:=dk;refine .cond (fun _=>.idx rfl au (.cond (fun ai=>.ret (.ret ?_)) fun ai=>.ret ⟨fH (by omega),fun j aF=>?_⟩)) fun ai=>by simp at ai;omega
  ·exact⟨fun _=>by rw [of_decide_eq_true ai];exact Bx au,fun _=>by simp only;omega⟩
  by_cases e:j=i
  ·subst e;exact of_decide_eq_false ai
  exact aQ j (by omega)
 obtain⟨rfl,aQ⟩:=dk;have ai:decide ((l.length:Int)<(l.length:Int))=false:=by simp
 refine⟨.inl ((l.length:Int),false),by rw [ai];rfl,.ret ⟨fun h=>by omega,fun h=>?_⟩⟩;obtain⟨j,aF,e⟩:=List.getElem_of_mem h;exact absurd (by rw [e7 _ aF,e]) (aQ j aF)
theorem ZU {s:aZ}(hs:cR s)(aI:my s){e:a8}(he:z1 s e):D3 s e=some (jj s e):=by
 refine br.get ?_;unfold D3;have ao:=aI.pD;have hm:=he.aie hs;refine .bind (P:=fun x=>x.2.2=jj s e) (br.nT s.e9.length (fun i st=>st=((i:Int),if e.b3=1∧i≠0 then [GI e] else [])) (by omega) (by simp) (fun i st au dk=>?_) fun st dk=>?_) fun x ar=>.ret ar
 ·subst dk;have GJ:=aI.refs _ (Bx au);have ajN:(if e.b3=1∧i≠0 then [GI e] else []).length≤1:=by split <;> simp
  refine .cond (fun _=>.idx rfl au ?_) fun ai=>by simp at ai;omega
  rw [GJ.1,GJ.2.1];refine .eq (Rq (k:=0) (by omega)) (.eq rfl (.cX (fun _=>acU (by simp only;omega) _) fun y a1=>?_));refine .bind (P:=fun m=>m=if e.b3=1∧i+1≠0 then [GI e] else []) (.cond (fun ai=>?_) fun ai=>.ret ?_) fun m hm=>.ret (by rw [hm,fH (by omega)])
  ·simp only [Bool.and_eq_true,beq_iff_eq,Bool.not_eq_true'] at ai;have a1:=a1 (by simp [ai.1]);rw [ai.2] at a1;have:i=0:=by
    refine Classical.byContradiction fun h=>?_;rw [if_pos ⟨ai.1.symm,h⟩] at a1;simp [GI] at a1
   subst this;refine .eq (hT _ _ (by simp) (by omega)) (.ret ?_);rw [if_neg (by simp),if_pos ⟨ai.1.symm,by omega⟩];rfl
  by_cases h1:e.b3=1
  ·have a1:=a1 (by simp [h1]);simp only [h1,beq_self_eq_true,Bool.true_and,Bool.not_eq_false'] at ai;rw [ai] at a1;have Gw:i≠0:=fun h=>by rw [if_neg (by simp [h])] at a1;simp at a1
   rw [if_pos ⟨h1,Gw⟩,if_pos ⟨h1,by omega⟩]
  rw [if_neg fun h=>h1 h.1,if_neg fun h=>h1 h.1]
 subst dk;refine .cond (fun ai=>by simp at ai) fun _=>.ret ?_;show _=jj s e;unfold jj;simp [List.length_eq_zero_iff]
structure lr (m:Nat)(hp hp':aC Cell):Prop where
 at_:∀ q,q≠m→pat hp' q=pat hp q
 keys:∀ q,q∈dZ hp→q∈dZ hp'
theorem lr.refl {m:Nat}{hp:aC Cell} :lr m hp hp:=⟨fun _ _=>rfl,fun _ h=>h⟩
theorem lr.trans {m:Nat}{a b c:aC Cell}(h:lr m a b)(k:lr m b c):lr m a c:=⟨fun q hq=>(k.at_ q hq).trans (h.at_ q hq),fun q hq=>k.keys q (h.keys q hq)⟩
theorem lr.up {m:Nat}{hp:aC Cell}{c:Cell} :lr m hp (cQ hp m c):=⟨fun q hq=>mI fun e=>hq e.symm,fun q hq=>by rw [qR];exact hq⟩
theorem ZV {hp hp':aC Cell}{p:Nat}(h:pat hp' p=pat hp p):r2 hp' p=r2 hp p:=by unfold r2;rw [h]
theorem Q6 {hp hp':aC Cell}{p:Nat}(h:pat hp' p=pat hp p):q1 hp' p=q1 hp p:=by unfold q1;rw [h]
theorem Sz {hp:aC Cell}{p:Nat}{k:Cell}{x:List (dq×kR)}(h:pat hp p=some k):r2 (cQ hp p (.r6 x)) p=some x:=by unfold r2;rw [rR h]
structure mD (s:aZ)(hp:aC Cell)(p m:Nat)(A B:dq→Int):Prop where
 cell:q1 hp p=some ⟨s,⟨some m⟩⟩
 map:∃ kv,r2 hp m=some kv∧pa kv∧ ∀ t,ec kv t=if A t=0∧B t=0 then none else some ⟨A t,B t⟩
theorem mD.ne {s:aZ}{hp:aC Cell}{p m:Nat}{A B:dq→Int}(h:mD s hp p m A B):p≠m:=fun e=>by
 obtain⟨kv,h1,_⟩:=h.map;have ae:=yX h.cell;rw [e,yY h1] at ae;cases ae
theorem mD.congr {s:aZ}{hp hp':aC Cell}{p m:Nat}{A B:dq→Int}(h:mD s hp p m A B)(h1:pat hp' p=pat hp p)(ae:pat hp' m=pat hp m):mD s hp' p m A B:=
 ⟨by rw [Q6 h1];exact h.cell,by obtain⟨kv,g1,g2⟩:=h.map;exact⟨kv,by rw [ZV ae];exact g1,g2⟩⟩
def x2 (A:dq→Int)(t:dq)(n:Int):dq→Int:=fun x=>if x=t then A x+n else A x
def rp (A:dq→Int)(k:Int):Prop:= ∀ t, -k≤A t∧A t≤k
theorem Tp {s:aZ}{hp:aC Cell}{p m:Nat}{A B:dq→Int}(h:mD s hp p m A B)(fT:rp A 200000)(jF:rp B 200000)(t:dq){n k:Int}(aQ: -1≤n∧n≤1)(hk: -1≤k∧k≤1):
 br (AL hp (some p) t n k) (fun r=>lr m hp r∧mD s r p m (x2 A t n) (x2 B t k)):=by
 obtain⟨kv,h1,ae,aA⟩:=h.map
 unfold AL
 refine .eq (a:=p) rfl (.eq h.cell (.eq (a:=m) rfl (.eq h1 (.eq rfl (.eq rfl ?_)))))
 have h3:(ec kv t).getD default=(⟨A t,B t⟩:kR):=by
  rw [aA];split
  ·rename_i cJ;rw [cJ.1,cJ.2];rfl
  rfl
 rw [h3]
 have b4:=fT t
 have ew:=jF t
 have KG:bC (A t+n)=A t+n:=ib (by omega) (by omega)
 have aks:bC (B t+k)=B t+k:=ib (by omega) (by omega)
 simp only [KG,aks]
 have ai:∀ c,q1 (cQ hp m c) p=some ⟨s,⟨some m⟩⟩:=fun c=>by rw [Q6 (mI h.ne.symm)];exact h.cell
 refine .cond (fun cJ=>?_) fun cJ=>?_
 ·have cJ:=of_decide_eq_true cJ
  have bw:A t+n=0:=congrArg kR.Bt cJ
  have z2:B t+k=0:=congrArg kR.Bm cJ
  refine .eq (a:=p) rfl (.eq h.cell (.eq (a:=m) rfl (.eq h1 (.eq rfl (.ret ⟨.up,ai _,_,Sz (yY h1),ae.del,fun x=>?_⟩)))))
  rw [Bs ae,aA]
  unfold x2
  by_cases e:x=t
  ·subst e;rw [if_pos rfl,if_pos rfl,if_pos rfl,if_pos ⟨bw,z2⟩]
  rw [if_neg e,if_neg e,if_neg e]
 have cJ:=of_decide_eq_false cJ
 refine .eq (a:=p) rfl (.eq h.cell (.eq (a:=m) rfl (.eq h1 (.eq rfl (.ret ⟨.up,ai _,_,Sz (yY h1),ae.put,fun x=>?_⟩)))))
 rw [uM,aA]
 unfold x2
 by_cases e:x=t
 ·subst e;rw [if_pos rfl,if_pos rfl,if_pos rfl,if_neg fun cB=>cJ (by rw [cB.1,cB.2];rfl)]
 rw [if_neg e,if_neg e,if_neg e]
def fv (A:dq→Int)(l:List dq)(n:Int):dq→Int:=fun t=>A t+n * (l.count t:Int)
theorem SA {A:dq→Int}{n:Int} :fv A [] n=A:=by funext t;simp [fv]
theorem RN {A:dq→Int}{l:List dq}{x:dq}{n:Int} :x2 (fv A l n) x n=fv A (l++[x]) n:=by
 funext t;unfold x2 fv;rw [List.count_append,List.count_singleton];by_cases e:t=x
 ·subst e;rw [if_pos rfl];simp only [beq_self_eq_true,if_true];rw [Int.natCast_add,Int.mul_add];omega
 rw [if_neg e,if_neg (by simpa using fun h=>e h.symm)];simp
theorem SB {A:dq→Int}{x:dq} :x2 A x 0=A:=by funext t;unfold x2;split <;> simp
theorem rp.mono {A:dq→Int}{k k':Int}(h:rp A k)(hk:k≤k'):rp A k':=fun t=>by have:=h t;omega
theorem RO {A:dq→Int}{l:List dq}{n k:Int}(h:rp A k)(ao:l.length≤10)(aQ:n=1∨n= -1):rp (fv A l n) (k+10):=fun t=>by
 have h1:=h t;have ae:l.count t≤l.length:=List.count_le_length;unfold fv;rcases aQ with rfl | rfl <;> omega
theorem Mc {A:dq→Int}{l:List dq}{n:Int}(h:rp A 100000)(ao:l.length≤10)(aQ:n=1∨n= -1):rp (fv A l n) 200000:=fun t=>by
 have h1:=h t;have ae:l.count t≤l.length:=List.count_le_length;unfold fv;rcases aQ with rfl | rfl <;> omega
theorem LV {α:Type}[Inhabited α]{l:List α}{i:Nat}(au:i<l.length):l.take (i+1)=l.take i++[aE l i]:=by
 rw [List.take_add_one,List.getElem?_eq_getElem au,e7 _ au];rfl
theorem BF {s:aZ}(hs:cR s)(aI:my s){hp:aC Cell}{p m:Nat}{A B:dq→Int}(h:mD s hp p m A B)(fT:rp A 100000)(jF:rp B 100000){e:a8}(he:z1 s e){n:Int}(aQ:n=1∨n= -1):
 br (AM hp (some p) e n) (fun r=>lr m hp r∧mD s r p m (fv A (jC s e) n) (fv B (jj s e) n)):=by
 have ao:=ME aI e
 have CI:(jj s e).length≤1:=by unfold jj;split <;> simp
 have pH: -1≤n∧n≤1:=by omega
 unfold AM
 refine .cond (fun ai=>by cases ai) fun _=>.eq (a:=p) rfl (.eq h.cell (.eq (abY aI he) ?_))
 refine .bind (P:=fun x=>lr m hp x.2.2∧mD s x.2.2 p m (fv A (jC s e) n) B) (br.nT (jC s e).length (fun i st=>st.1=(i:Int)∧lr m hp st.2∧mD s st.2 p m (fv A ((jC s e).take i) n) B) (by omega) ⟨rfl,.refl,by rw [List.take_zero,SA];exact h⟩ (fun i st au dk=>?_) fun st dk=>?_) fun x ar=>?_
 ·obtain⟨tB,bR⟩:=st;obtain⟨av,bJ,c1⟩:=dk
  simp only at av bJ c1;subst av
  refine .cond (fun _=>.idx rfl au (.bind (Tp c1 (Mc fT (by rw [List.length_take];omega) aQ) (fun t=>by have:=jF t;omega) _ pH (by omega)) fun y a1=>.ret ⟨fH (by omega),bJ.trans a1.1,?_⟩)) fun ai=>by simp at ai;omega
  have:=a1.2
  rw [RN,SB,← LV au] at this
  exact this
 ·obtain⟨tB,bR⟩:=st;obtain⟨av,bJ,c1⟩:=dk
  simp only at av bJ c1;subst av
  rw [List.take_length] at c1
  exact .cond (fun ai=>by simp at ai) fun _=>.ret ⟨bJ,c1⟩
 obtain⟨bJ,c1⟩:=ar
 refine .eq c1.cell (.eq (ZU hs aI he) ?_)
 refine .bind (P:=fun z=>lr m hp z.2.2∧mD s z.2.2 p m (fv A (jC s e) n) (fv B (jj s e) n)) (br.nT (jj s e).length (fun i st=>st.1=(i:Int)∧lr m hp st.2∧mD s st.2 p m (fv A (jC s e) n) (fv B ((jj s e).take i) n)) (by omega) ⟨rfl,bJ,by rw [List.take_zero,SA];exact c1⟩ (fun i st au dk=>?_) fun st dk=>?_) fun z cJ=>.ret cJ
 ·obtain⟨tB,bR⟩:=st;obtain⟨av,cY,c2⟩:=dk
  simp only at av cY c2;subst av
  refine .cond (fun _=>.idx rfl au (.bind (Tp c2 (Mc fT (by omega) aQ) (Mc jF (by rw [List.length_take];omega) aQ) _ (by omega) pH) fun y a1=>.ret ⟨fH (by omega),cY.trans a1.1,?_⟩)) fun ai=>by simp at ai;omega
  have:=a1.2
  rw [RN,SB,← LV au] at this
  exact this
 obtain⟨tB,bR⟩:=st;obtain⟨av,cY,c2⟩:=dk
 simp only at av cY c2;subst av
 rw [List.take_length] at c2
 exact .cond (fun ai=>by simp at ai) fun _=>.ret ⟨cY,c2⟩
theorem LH {hp hp':aC Cell}{p:Nat}(h:pat hp' p=pat hp p):ic hp' p=ic hp p:=by unfold ic;rw [h]
theorem acV {hp:aC Cell}{p:Nat}{k:Cell}{x:dO}{a:Option Nat}{c:Nat}(h:pat hp p=some k):ic (cQ hp p (.n3 x a c)) p=some (x,a,c):=by unfold ic;rw [rR h]
structure uA where
 x:Nat
 t:Nat
 r:Nat
 m:Nat
 q:Nat
def CX (P:uA)(q:Nat):Prop:=q=P.x∨q=P.r∨q=P.m∨q=P.q
structure hA (s:aZ)(hp:aC Cell)(P:uA)(ls:Nat→List az)(next:Int)(js:List gf)(A B:dq→Int)(N:Int→Int):Prop where
 st:∃ k c,ic hp P.x=some (⟨some P.t,some P.r,some P.q,js⟩,k,c)
 lv:j4 (CX P) s hp P.t ls next
 ji:mD s hp P.r P.m A B
 quo:pO s hp P.q N
section
variable {s:aZ} {hp hp':aC Cell} {P:uA} {ls ls':Nat→List az} {next next':Int} {js js':List gf} {A B dd G6:dq→Int} {N G7:Int→Int}
theorem hA.ne (h:hA s hp P ls next js A B N):(P.x≠P.r∧P.x≠P.m∧P.x≠P.q)∧P.r≠P.m∧P.r≠P.q∧P.m≠P.q:=by
 obtain⟨k,c,h1⟩:=h.st;obtain⟨kv,ae,_⟩:=h.ji.map;obtain⟨GY,aA,_⟩:=h.quo.cell;have av:=gh h1;have aX:=yY ae;have c0:=yX h.ji.cell;have gb:=rN aA;refine⟨⟨fun e=>?_,fun e=>?_,fun e=>?_⟩,fun e=>?_,fun e=>?_,fun e=>?_⟩
 ·rw [e,c0] at av;cases av
 ·rw [e,aX] at av;cases av
 ·rw [e,gb] at av;cases av
 ·rw [e,aX] at c0;cases c0
 ·rw [e,gb] at c0;cases c0
 rw [e,gb] at aX;cases aX
theorem hA.vI (h:hA s hp P ls next js A B N)(k:j4 (CX P) s hp' P.t ls' next'∧qL (CX P) hp hp'):hA s hp' P ls' next' js A B N where
 st:=by obtain⟨a,c,h1⟩:=h.st;exact⟨a,c,by rw [LH (k.2.at_ _ (.inl rfl))];exact h1⟩
 lv:=k.1
 ji:=h.ji.congr (k.2.at_ _ (.inr (.inl rfl))) (k.2.at_ _ (.inr (.inr (.inl rfl))))
 quo:=h.quo.congr (k.2.at_ _ (.inr (.inr (.inr rfl))))
theorem hA.only (h:hA s hp P ls next js A B N){q:Nat}(hq:CX P q)(o:lr q hp hp'):j4 (CX P) s hp' P.t ls next:=h.lv.off (fun x ar=>o.at_ x fun e=>ar (e ▸ hq)) o.keys
theorem hA.ref (h:hA s hp P ls next js A B N)(k:lr P.m hp hp'∧mD s hp' P.r P.m dd G6):hA s hp' P ls next js dd G6 N where
 st:=by obtain⟨a,c,h1⟩:=h.st;exact⟨a,c,by rw [LH (k.1.at_ _ h.ne.1.2.1)];exact h1⟩
 lv:=h.only (.inr (.inr (.inl rfl))) k.1
 ji:=k.2
 quo:=h.quo.congr (k.1.at_ _ fun e=>h.ne.2.2.2 e.symm)
theorem hA.KL (h:hA s hp P ls next js A B N)(k:∃ c,hp'=cQ hp P.q c)(bK:pO s hp' P.q G7):hA s hp' P ls next js A B G7:=by
 obtain⟨c,rfl⟩:=k;have o:lr P.q hp (cQ hp P.q c):= .up;exact⟨by obtain⟨a,c,h1⟩:=h.st;exact⟨a,c,by rw [LH (o.at_ _ h.ne.1.2.2)];exact h1⟩,h.only (.inr (.inr (.inr rfl))) o,
  h.ji.congr (o.at_ _ h.ne.2.2.1) (o.at_ _ h.ne.2.2.2),bK⟩
theorem hA.Ks (h:hA s hp P ls next js A B N)(a:Option Nat)(c:Nat):hA s (cQ hp P.x (.n3 ⟨some P.t,some P.r,some P.q,js'⟩ a c)) P ls next js' A B N:=by
 have o:lr P.x hp (cQ hp P.x (.n3 ⟨some P.t,some P.r,some P.q,js'⟩ a c)):= .up;obtain⟨hx,hz,h1⟩:=h.st;exact⟨⟨a,c,acV (gh h1)⟩,h.only (.inl rfl) o,h.ji.congr (o.at_ _ h.ne.1.1.symm) (o.at_ _ h.ne.1.2.1.symm),h.quo.congr (o.at_ _ h.ne.1.2.2.symm)⟩
theorem MF (h:js.length≤1000)(k:me)(a b c:Ref):yg ⟨a,b,c,js⟩ k=some ⟨a,b,c,js++[⟨k⟩]⟩:=by
 unfold yg;rw [hT _ _ (by simp;omega) (by omega)];rfl
structure Ak (A B:dq→Int)(N:Int→Int)(js:List gf):Prop where
 a:rp A 1000
 b:rp B 1000
 n:∀ x,0≤N x∧N x<1000
 j:js.length≤1000
theorem SC (hs:cR s)(aI:my s)(h:hA s hp P ls next js A B N)(hb:Ak A B N js){k:Nat}(hk:k<4){e:a8}(he:gp s k e)(a7:nq e)(fU:Int)(Oy:∀ i∈ls k,i.b8<next)(hlen:(ls k).length<900)(aQ:1≤next∧next<1000000):
 c9 (sC hp (some P.x) e fU) (fun r=>
  if (dE (ls k) e).isSome=true then r=(17,hp) else if (aE s.bQ k).hG≤ ((ls k).length:Int) then r=(18,hp)
  else if room s N fU=true then r.1=0∧hA s r.2 P (fg ls k (ls k++[{ bd:=e,b8:=next,dA:=fU }])) (next+1) (js++[⟨.xO (some P.x) { bd:=e,b8:=next,dA:=fU } next fU⟩]) (fv A (jC s e) 1) (fv B (jj s e) 1) (bump N fU 1)
  else r.1=19∧hA s r.2 P (fg ls k (ls k)) next js A B N):=by
 obtain⟨a0,oc,bH⟩:=h.st
 unfold sC
 refine .cond (fun ai=>by cases ai) fun _=>.eq (a:=P.x) rfl (.eq bH (.bind (abV hs h.lv hk he fU Oy hlen ⟨by omega,aQ.2⟩) fun aq h1=>?_))
 by_cases aY:(dE (ls k) e).isSome=true
 ·rw [if_pos aY] at h1
  subst h1
  exact .cond (fun _=>.ret (by rw [if_pos aY])) fun ai=>by simp at ai
 rw [if_neg aY] at h1
 by_cases cJ:(aE s.bQ k).hG≤ ((ls k).length:Int)
 ·rw [if_pos cJ] at h1
  subst h1
  exact .cond (fun _=>.ret (by rw [if_neg aY,if_pos cJ])) fun ai=>by simp at ai
 rw [if_neg cJ] at h1
 obtain⟨qA,err,bR⟩:=aq
 obtain⟨av,aX,dk,pM⟩:=h1
 simp only at av aX dk pM
 subst aX
 have av:=av.symm
 subst av
 have g1:=h.vI ⟨dk,pM⟩
 refine .cond (fun ai=>by simp at ai) fun _=>?_
 have vY:dE (ls k) e=none:=by
  cases hq:dE (ls k) e with
  | none=>rfl
  | some _=>rw [hq] at aY;exact absurd rfl aY
 obtain⟨b4,c1,h1⟩:=g1.st
 have z6:=Ti hs g1.lv.ok hk he
 rw [jm,abS vY (om e)] at z6
 replace z6:yu bR (some P.t) e=some (({ bd:=e,b8:=next,dA:=fU } :az),true):=z6
 refine .eq (a:=P.x) rfl (.eq h1 (.eq z6 (.eq (a:=P.x) rfl (.eq h1 (.hZ (Vk hs g1.quo (fun x=>by have:=hb.n x;omega) fU) fun bh aA=>?_)))))
 by_cases kG:room s N fU=true
 ·rw [if_pos kG] at aA
  obtain⟨ok,c6⟩:=bh
  obtain⟨c0,dI,ev⟩:=aA
  simp only at c0 dI ev
  subst c0
  have g2:=g1.KL dI ev
  obtain⟨a2,c2,ae⟩:=g2.st
  refine .cond (fun ai=>by cases ai) fun _=>.eq ae (.hZ (P:=fun cr=>lr P.m c6 cr∧mD s cr P.r P.m (fv A (jC s e) 1) (fv B (jj s e) 1)) ?_ fun cr bs=>?_)
  ·exact .bind (BF hs aI g2.ji (hb.a.mono (by omega)) (hb.b.mono (by omega)) ⟨⟨k,hk,he⟩,a7⟩ (.inl rfl)) fun y a1=>.ret a1
  have g3:=g2.ref bs
  obtain⟨a3,dh,aA⟩:=g3.st
  refine .eq aA (.eq (MF hb.j _ _ _ _) (.any fun ez=>.eq rfl (.ret ?_)))
  rw [if_neg aY,if_neg cJ,if_pos kG]
  exact⟨rfl,g3.Ks ez.1 ez.2⟩
 rw [if_neg kG] at aA
 subst aA
 refine .cond (fun _=>?_) fun ai=>by cases ai
 refine .eq h1 (.bind (Iu hs g1.lv hk he) fun bL aV=>?_)
 obtain⟨i4,alD,uo⟩:=bL
 have g2:=g1.vI aV.2
 simp only at g2
 obtain⟨a2,c2,ae⟩:=g2.st
 refine .eq ae (.hZ (Ro g2.lv next) fun cy bc=>.ret ?_)
 have g3:=g2.vI bc
 rw [if_neg aY,if_neg cJ,if_neg kG]
 refine⟨rfl,?_⟩
 rw [uP,jm,LU (om e),IL vY,show max 1 next=next by omega] at g3
 exact g3
theorem RP (hs:cR s)(aI:my s)(h:hA s hp P ls next js A B N)(hb:Ak A B N js){k:Nat}(hk:k<4){e:a8}(he:gp s k e)(a7:nq e)(GK:∀ i∈ls k,nq i.bd)(hlen:(ls k).length<900):
 c9 (yl hp (some P.x) e) (fun r=>match dE (ls k) e with
  | some i=>r.1=i.bd∧r.2.2.1=0∧hA s r.2.2.2 P (fg ls k (dm (ls k) e++[{ bd:=e,b8:=i.b8,dA:=i.dA }])) next js (fv (fv A (jC s i.bd) (-1)) (jC s e) 1) (fv (fv B (jj s i.bd) (-1)) (jj s e) 1) N
  | none=>r.2.2.1=16∧hA s r.2.2.2 P (fg ls k (dm (ls k) e)) next js A B N):=by
 obtain⟨a0,oc,bH⟩:=h.st
 have ri:=h.lv.ok.gx hk
 unfold yl
 refine .eq (a:=P.x) rfl (.eq bH (.bind (abW hs h.lv hk he hlen) fun aq h1=>?_))
 obtain⟨i1,err,bR⟩:=aq
 cases aY:dE (ls k) e with
 | none=>
   rw [aY] at h1
   obtain⟨av,h1⟩:=h1
   simp only at av h1;subst av
   exact .cond (fun _=>.ret ⟨rfl,h.vI h1⟩) fun ai=>by simp at ai
 | some i=>
   rw [aY] at h1
   obtain⟨av,aX,h1⟩:=h1
   simp only at av aX h1;subst aX
   have av:=av.symm
   subst av
   have g1:=h.vI h1
   obtain⟨b4,c1,aU⟩:=g1.st
   obtain⟨hm,x0⟩:=oi aY
   have z6:=Ti hs g1.lv.ok hk he
   rw [jm,Sx (om e) (om e)] at z6
   refine .cond (fun ai=>by simp at ai) fun _=>.eq (a:=P.x) rfl (.eq aU (.eq z6 (.eq (a:=P.x) rfl (.eq aU (.hZ (P:=fun y=>lr P.m bR y∧mD s y P.r P.m (fv A (jC s i.bd) (-1)) (fv B (jj s i.bd) (-1))) ?_ fun bh aA=>?_)))))
   ·exact .bind (BF hs aI g1.ji (hb.a.mono (by omega)) (hb.b.mono (by omega)) ⟨⟨k,hk,(ri.ok.ok i hm).ej⟩,GK i hm⟩ (.inr rfl)) fun y a1=>.ret a1
   have g2:=g1.ref aA
   obtain⟨a2,c2,bK⟩:=g2.st
   have alg:=ME aI i.bd
   have CI:(jj s i.bd).length≤1:=by unfold jj;split <;> simp
   refine .eq bK (.hZ (P:=fun y=>lr P.m bh y∧mD s y P.r P.m (fv (fv A (jC s i.bd) (-1)) (jC s e) 1) (fv (fv B (jj s i.bd) (-1)) (jj s e) 1)) ?_ fun bL aV=>.ret ⟨rfl,rfl,g2.ref aV⟩)
   exact .bind (BF hs aI g2.ji ((RO hb.a (by omega) (.inr rfl)).mono (by omega)) ((RO hb.b (by omega) (.inr rfl)).mono (by omega)) ⟨⟨k,hk,he⟩,a7⟩ (.inl rfl)) fun y a1=>.ret a1
theorem abZ (hs:cR s)(aI:my s)(h:hA s hp P ls next js A B N)(hb:Ak A B N js){k:Nat}(hk:k<4){e:a8}(he:gp s k e)(a7:nq e)(GK:∀ i∈ls k,nq i.bd)(hlen:(ls k).length<900):
 c9 (wE hp (some P.x) e) (fun r=>match dE (ls k) e with
  | some i=>r.1=0∧hA s r.2 P (fg ls k (dm (ls k) e++[{ bd:=e,b8:=i.b8,dA:=i.dA }])) next (js++[⟨.vP (some P.x) i.bd⟩]) (fv (fv A (jC s i.bd) (-1)) (jC s e) 1) (fv (fv B (jj s i.bd) (-1)) (jj s e) 1) N
  | none=>r.1=16∧hA s r.2 P (fg ls k (dm (ls k) e)) next js A B N):=by
 unfold wE
 refine .cond (fun ai=>by cases ai) fun _=>.bind (RP hs aI h hb hk he a7 GK hlen) fun aq h1=>?_
 obtain⟨bJ,qA,err,bR⟩:=aq
 cases aY:dE (ls k) e with
 | none=>
   rw [aY] at h1
   obtain⟨av,h1⟩:=h1
   simp only at av h1;subst av
   exact .cond (fun _=>.ret ⟨rfl,h1⟩) fun ai=>by simp at ai
 | some i=>
   rw [aY] at h1
   obtain⟨av,aX,h1⟩:=h1
   simp only at av aX h1;subst aX av
   obtain⟨b4,c1,aU⟩:=h1.st
   exact .cond (fun ai=>by simp at ai) fun _=>.eq (a:=P.x) rfl (.eq aU (.eq (MF hb.j _ _ _ _) (.any fun q=>.eq rfl (.ret ⟨rfl,h1.Ks q.1 q.2⟩))))
theorem ab0 (hs:cR s)(aI:my s)(h:hA s hp P ls next js A B N)(hb:Ak A B N js){k:Nat}(hk:k<4){e:a8}(he:gp s k e)(GK:∀ i∈ls k,nq i.bd∧ (rx i.dA).isSome=true∧0<N i.dA):
 c9 (wD hp (some P.x) e) (fun r=>match dE (ls k) e with
  | some i=>r.1=0∧hA s r.2 P (fg ls k (dm (ls k) e)) next (js++[⟨.xP (some P.x) i⟩]) (fv A (jC s i.bd) (-1)) (fv B (jj s i.bd) (-1)) (bump N i.dA (-1))
  | none=>r.1=16∧hA s r.2 P (fg ls k (dm (ls k) e)) next js A B N):=by
 obtain⟨a0,oc,bH⟩:=h.st
 have ri:=h.lv.ok.gx hk
 unfold wD
 refine .cond (fun ai=>by cases ai) fun _=>.eq (a:=P.x) rfl (.eq bH (.bind (Iu hs h.lv hk he) fun aq h1=>?_))
 obtain⟨i1,err,bR⟩:=aq
 obtain⟨h1,ae⟩:=h1
 have g1:=h.vI ae
 simp only at h1 g1
 cases aY:dE (ls k) e with
 | none=>
   rw [aY] at h1
   have aX:err=16:=congrArg Prod.snd h1
   subst aX
   exact .cond (fun _=>.ret ⟨rfl,g1⟩) fun ai=>by simp at ai
 | some i=>
   rw [aY] at h1
   have av:i1=i:=congrArg Prod.fst h1
   have aX:err=0:=congrArg Prod.snd h1
   subst aX
   have av:=av.symm
   subst av
   obtain⟨hm,_⟩:=oi aY
   obtain⟨a7,bp,iT⟩:=GK i hm
   obtain⟨j,aF⟩:=Option.isSome_iff_exists.1 bp
   obtain⟨b4,c1,aU⟩:=g1.st
   refine .cond (fun ai=>by simp at ai) fun _=>.eq (a:=P.x) rfl (.eq aU (.hZ (P:=fun y=>lr P.m bR y∧mD s y P.r P.m (fv A (jC s i.bd) (-1)) (fv B (jj s i.bd) (-1))) ?_ fun aD ae=>?_))
   ·exact .bind (BF hs aI g1.ji (hb.a.mono (by omega)) (hb.b.mono (by omega)) ⟨⟨k,hk,(ri.ok.ok i hm).ej⟩,a7⟩ (.inr rfl)) fun y a1=>.ret a1
   have g2:=g1.ref ae
   obtain⟨a2,c2,bK⟩:=g2.st
   have hq:N i.dA<100000:=by have:=hb.n i.dA;omega
   refine .eq bK (.hZ (T1 hs g2.quo aF ⟨iT,hq⟩) fun bh aA=>?_)
   have g3:=g2.KL aA.1 aA.2
   obtain⟨a3,dh,dI⟩:=g3.st
   exact .eq dI (.eq (MF hb.j _ _ _ _) (.any fun q=>.eq rfl (.ret ⟨rfl,g3.Ks q.1 q.2⟩)))
theorem ab1 (hs:cR s)(aI:my s)(h:hA s hp P ls next js A B N)(hb:Ak A B N js){k:Nat}(hk:k<4){i:az}(au:kI s k i)(a7:nq i.bd){j:Nat}(aF:rx i.dA=some j)(iT:0<N i.dA)(n:Int):
 c9 (C6 hp (some P.x) i n i.dA) (fun r=>hA s r P (fg ls k (dm (ls k) i.bd)) (max 1 n) js (fv A (jC s i.bd) (-1)) (fv B (jj s i.bd) (-1)) (bump N i.dA (-1))):=by
 obtain⟨a0,oc,bH⟩:=h.st
 unfold C6
 refine .eq (a:=P.x) rfl (.eq bH (.bind (Iu hs h.lv hk au.ej) fun aq h1=>?_))
 have g1:=h.vI h1.2
 obtain⟨b4,c1,aU⟩:=g1.st
 refine .eq aU (.hZ (Ro g1.lv n) fun aD ae=>?_)
 have g2:=g1.vI ae
 obtain⟨a2,c2,bK⟩:=g2.st
 refine .eq bK (.hZ (P:=fun y=>lr P.m aD y∧mD s y P.r P.m (fv A (jC s i.bd) (-1)) (fv B (jj s i.bd) (-1))) ?_ fun bh aA=>?_)
 ·exact .bind (BF hs aI g2.ji (hb.a.mono (by omega)) (hb.b.mono (by omega)) ⟨⟨k,hk,au.ej⟩,a7⟩ (.inr rfl)) fun y a1=>.ret a1
 have g3:=g2.ref aA
 obtain⟨a3,dh,dI⟩:=g3.st
 have hq:N i.dA<100000:=by have:=hb.n i.dA;omega
 exact .eq dI (.hZ (T1 hs g3.quo aF ⟨iT,hq⟩) fun bL aV=>.ret (g3.KL aV.1 aV.2))
theorem ab2 (hs:cR s)(aI:my s)(h:hA s hp P ls next js A B N)(hb:Ak A B N js){k:Nat}(hk:k<4){i:az}(au:kI s k i)(a7:nq i.bd)(kG:room s N i.dA=true)(bP:pL (ls k) i=true)(hlen:(ls k).length<900):
 c9 (Am hp (some P.x) i) (fun r=>hA s r P (fg ls k (ls k++[i])) next js (fv A (jC s i.bd) 1) (fv B (jj s i.bd) 1) (bump N i.dA 1)):=by
 obtain⟨a0,oc,bH⟩:=h.st
 unfold Am
 refine .eq (a:=P.x) rfl (.eq bH (.bind (aa4 hs h.lv hk au hlen) fun aq h1=>?_))
 have g1:=h.vI h1.2
 unfold added at g1
 rw [if_pos bP] at g1
 obtain⟨b4,c1,aU⟩:=g1.st
 refine .eq aU (.hZ (P:=fun y=>lr P.m aq.2 y∧mD s y P.r P.m (fv A (jC s i.bd) 1) (fv B (jj s i.bd) 1)) ?_ fun aD ae=>?_)
 ·exact .bind (BF hs aI g1.ji (hb.a.mono (by omega)) (hb.b.mono (by omega)) ⟨⟨k,hk,au.ej⟩,a7⟩ (.inl rfl)) fun y a1=>.ret a1
 have g2:=g1.ref ae
 obtain⟨a2,c2,bK⟩:=g2.st
 refine .eq bK (.hZ (Vk hs g2.quo (fun x=>by have:=hb.n x;omega) i.dA) fun bh aA=>.ret ?_)
 rw [if_pos kG] at aA
 exact g2.KL aA.2.1 aA.2.2
end
section
variable {s:aZ} {y:cW} {ls:Nat→List az} {next:Int}
theorem acW {e:a8}(hlen:y.bW.length≤1000)(pM:∀ i∈y.bW,i.bd.cU.length≤1000)(he:e.cU.length≤1000):br (wM y e) (fun r=>r=we (y.bW.find? fun i=>fE i.bd e)):=by
 unfold wM;refine br.loop y.bW.length (fun j st=>st=(j:Int)∧ ((y.bW.take j).find? fun i=>fE i.bd e)=none) (by omega) ⟨rfl,rfl⟩ (fun j st aF hs=>?_) (fun st hs=>?_)
 ·obtain⟨rfl,hs⟩:=hs;have hm:aE y.bW j∈y.bW:=by rw [e7 _ aF];exact List.getElem_mem _
  have wa:y.bW=(y.bW.take j++[aE y.bW j])++y.bW.drop (j+1):=by rw [← nI _ aF,List.take_append_drop]
  refine .cond (fun _=>.idx rfl aF (.eq (St (pM _ hm) he) (.cond (fun ai=>.ret (.ret ?_)) fun ai=>.ret ⟨fH (by omega),?_⟩))) fun ai=>by simp at ai;omega
  ·have v7:y.bW.find? (fun i=>fE i.bd e)=some (aE y.bW j):=by
    conv=>lhs;rw [wa]
    rw [List.find?_append,List.find?_append,hs];simp only [List.find?_cons,List.find?_nil,ai,Option.none_or,Option.some_or]
   rw [v7];rfl
  rw [nI _ aF,List.find?_append,hs,List.find?_cons_of_neg (by rw [ai];simp)];rfl
 obtain⟨rfl,hs⟩:=hs;have ai:decide ((y.bW.length:Int)<(y.bW.length:Int))=false:=by simp
 rw [List.take_length] at hs;exact⟨.inl (_,_),by rw [ai];rfl,.ret (by rw [hs];rfl)⟩
theorem Na (hs:cR s)(h:kq s y ls next)(ao:n1 s ls){k:Nat}(hk:k<4){e:a8}(he:gp s k e):wM y e=some (we (dE (ls k) e)):=by
 refine br.get ((acW (by have:=h.len ao;omega) (fun i au=>(h.small hs ao au).1) (by have:=he.len;have:=(hs.gG hk).2.1;omega)).mono fun r aI=>?_);rw [aI];congr 1;have a7:=h.dE hs ao hk he;cases aY:y.bW.find? fun i=>fE i.bd e with
 | none=>
   have:(y.bW.any fun i=>fE i.bd e)=false:=by rw [List.any_eq_false];exact List.find?_eq_none.1 aY
   rw [this] at a7
   cases bO:dE (ls k) e with
   | none=>rfl
   | some _=>rw [bO] at a7;cases a7
 | some i=>
   have h1:=List.find?_some aY
   obtain⟨j,aF,au,jA⟩:=h.ej ao (List.mem_of_find?_eq_some aY)
   have av:=(rS.1 h1).1
   rw [jA.ej.gG,he.gG] at av
   have:j=k:=by omega
   subst this
   exact((ao.gx j aF).TV au h1).symm
theorem T2 {e:a8}(hlen:y.bW.length≤1000)(pM:∀ i∈y.bW,i.bd.cU.length≤1000)(he:e.cU.length≤1000):AP y e=some { y with bW:=dm y.bW e } :=by
 refine br.get ?_;unfold AP;refine .bind (P:=fun x=>x.2.2=dm y.bW e) (br.nT y.bW.length (fun j st=>st=((j:Int),dm (y.bW.take j) e)) (by omega) rfl (fun j st aF hs=>?_) (fun st hs=>?_)) fun x ar=>.ret (by rw [ar])
 ·subst hs;have hm:aE y.bW j∈y.bW:=by rw [e7 _ aF];exact List.getElem_mem _
  have hle:=Is (y.bW.take j) e;rw [List.length_take] at hle;refine .cond (fun _=>.idx rfl aF (.eq (St (pM _ hm) he) (.bind (P:=fun m=>m=dm (y.bW.take (j+1)) e) (.cond (fun ai=>.eq (hT _ _ (by simp only [List.length_cons,List.length_nil];omega) (by omega)) (.ret ?_)) fun ai=>.ret ?_) fun m hm=>.ret (by rw [hm,fH (by omega)])))) fun ai=>by simp at ai;omega
  ·rw [nI _ aF];unfold dm;rw [List.filter_append,List.filter_cons_of_pos (by simpa using ai),List.filter_nil]
  rw [nI _ aF];unfold dm;rw [List.filter_append,List.filter_cons_of_neg (by simpa using ai),List.filter_nil,List.append_nil]
 subst hs;refine .cond (fun ai=>by simp at ai) fun _=>.ret ?_;show dm (List.take _ _) _=_;rw [List.take_length]
theorem aa8 {s:aZ}{ls:Nat→List az}(ao:n1 s ls){k:Nat}(hk:k<4){e:a8}(he:gp s k e):dm (eJ ls) e=eJ (fg ls k (dm (ls k) e)):=by
 have key:∀ j,j<4→dm (ls j) e=fg ls k (dm (ls k) e) j:=fun j aF=>by
  by_cases av:j=k
  ·subst av;rw [jm]
  rw [jW av];refine List.filter_eq_self.2 fun c ai=>?_;have h1:=((ao.gx j aF).ok.ok c ai).ej.gG;have:fE c.bd e=false:=by
   rw [Bool.eq_false_iff];intro ae;have:=(rS.1 ae).1;rw [h1,he.gG] at this;omega
  rw [this];rfl
 unfold eJ;rw [← key 0 (by decide),← key 1 (by decide),← key 2 (by decide),← key 3 (by decide)];unfold dm;rw [List.filter_append,List.filter_append,List.filter_append]
theorem kq.dm (h:kq s y ls next)(ao:n1 s ls){k:Nat}(hk:k<4){e:a8}(he:gp s k e):kq s { y with bW:=Go.Proofs.YtppgfphgdogpeaaGreat.dm y.bW e } (fg ls k (Go.Proofs.YtppgfphgdogpeaaGreat.dm (ls k) e)) next:=
 ⟨h.pN,h.num,h.Kr.sublist List.filter_sublist,by rw [← aa8 ao hk he];exact h.rn.filter _⟩
theorem n1.dm (ao:n1 s ls){k:Nat}(e:a8):n1 s (fg ls k (Go.Proofs.YtppgfphgdogpeaaGreat.dm (ls k) e)):=by
 refine⟨fun j aF=>?_,fun j aF=>?_⟩
 ·by_cases av:j=k
  ·subst av;rw [jm];exact(ao.gx j aF).dm e
  rw [jW av];exact ao.gx j aF
 by_cases av:j=k
 ·subst av;rw [jm];exact Nat.le_trans (Is _ _) (ao.len j aF)
 rw [jW av];exact ao.len j aF
theorem ab3 (hs:cR s)(h:kq s y ls next)(ao:n1 s ls){k:Nat}(hk:k<4){e:a8}(he:gp s k e):
 br (wI y e) (fun r=>match dE (ls k) e with | some i=>r.2.1=0∧kq s r.2.2 (fg ls k (dm (ls k) e)) next | none=>r.2.1=16∧r.2.2=y):=by
 unfold wI
 refine .eq (Ep hs h.pN hk he) (.cond (fun ai=>by simp at ai;omega) fun _=>.eq (Na hs h ao hk he) ?_)
 cases aY:dE (ls k) e with
 | none=>exact .cond (fun _=>.ret ⟨rfl,rfl⟩) fun ai=>by cases ai
 | some i=>
   refine .cond (fun ai=>by cases ai) fun _=>.eq (T2 (by have:=h.len ao;omega) (fun i au=>(h.small hs ao au).1) (by have:=he.len;have:=(hs.gG hk).2.1;omega)) (.ret ⟨rfl,h.dm ao hk he⟩)
theorem ab4 (hs:cR s)(h:kq s y ls next)(ao:n1 s ls){k:Nat}(hk:k<4){e:a8}(he:gp s k e):
 br (wH y e) (fun r=>match dE (ls k) e with | some i=>r.2.1=0∧kq s r.2.2 (fg ls k (dm (ls k) e++[{ bd:=e,b8:=i.b8,dA:=i.dA }])) next | none=>r.2.1=16∧r.2.2=y):=by
 unfold wH
 refine .eq (Ep hs h.pN hk he) (.cond (fun ai=>by simp at ai;omega) fun _=>.eq (Na hs h ao hk he) ?_)
 cases aY:dE (ls k) e with
 | none=>exact .cond (fun _=>.ret ⟨rfl,rfl⟩) fun ai=>by cases ai
 | some i=>
   refine .cond (fun ai=>by cases ai) fun _=>.eq (T2 (by have:=h.len ao;omega) (fun i au=>(h.small hs ao au).1) (by have:=he.len;have:=(hs.gG hk).2.1;omega)) (.eq rfl ?_)
   have ae:=h.dm ao hk he
   refine .bind (Tn hs ae (ao.dm e) hk (i:=⟨e,i.b8,i.dA⟩) ⟨he⟩) fun bL aV=>.ret ⟨rfl,aV.1.trans h.pN,aV.2.1.trans h.num,aV.2.2.1,?_⟩
   have hp:=pY (ls:=fg ls k (dm (ls k) e)) hk ({ bd:=e,b8:=i.b8,dA:=i.dA } :az)
   rw [jm,uP] at hp
   exact(aV.2.2.2.trans (ae.rn.append_right _)).trans hp
theorem ab5 (hs:cR s)(h:kq s y ls next)(ao:n1 s ls){k:Nat}(hk:k<4){e:a8}(he:gp s k e)(fU:Int)(aQ:0≤next∧next<1000000):
 br (AD y e fU) (fun r=>if (dE (ls k) e).isSome=true then r.2.1=17 else if (aE s.bQ k).hG≤ ((ls k).length:Int) then r.2.1=18
  else r.2.1=0∧kq s r.2.2 (fg ls k (ls k++[{ bd:=e,b8:=next,dA:=fU }])) (next+1)):=by
 have hlen:=h.len ao
 have au:kI s k { bd:=e,b8:=next,dA:=fU } :=⟨he⟩
 unfold AD
 refine .eq (Ep hs h.pN hk he) (.cond (fun ai=>by simp at ai;omega) fun _=>.eq (Na hs h ao hk he) ?_)
 rw [Tj]
 refine .cond (fun ai=>.ret (by rw [if_pos ai])) fun ai=>?_
 rw [ai,he.gG,h.pN]
 refine .eq (aa1 (by omega)) (.idx rfl (by rw [hs.mg];exact hk) ?_)
 have ajO:=(aa2 h ao hk).length_eq
 rw [ajO]
 refine .cond (fun ai=>.ret ?_) fun ai=>?_
 ·rw [if_neg (by simp),if_pos (by simpa using ai)]
 have ai: ¬ (aE s.bQ k).hG≤ ((ls k).length:Int):=by simpa using ai
 rw [h.num]
 refine(Tn hs h ao hk au).bind fun bL aV=>.ret ?_
 rw [if_neg (by simp),if_neg ai]
 obtain⟨g1,g2,g3,g4⟩:=aV
 refine⟨rfl,g1.trans h.pN,?_,g3,(g4.trans (h.rn.append_right _)).trans (pY hk _)⟩
 show bC (bL.iO+1)=next+1
 rw [g2,h.num,ib] <;> omega
def fw (L:List az)(x:Int):Int:=((L.countP fun i=>i.dA==x:Nat):Int)
theorem acX (x:Int)(ao:y.bW.length≤1000):DW y x=some (fw y.bW x):=by
 refine br.get ?_;unfold DW;refine .bind (P:=fun e=>e.1=fw y.bW x) (br.nT y.bW.length (fun j st=>st=(fw (y.bW.take j) x,(j:Int))) (by omega) rfl (fun j st aF hs=>?_) (fun st hs=>?_)) fun e he=>.ret he
 ·subst hs;have hle:(y.bW.take j).countP (fun i=>i.dA==x)≤1000:=Nat.le_trans List.countP_le_length (by rw [List.length_take];omega);refine .cond (fun _=>.idx rfl aF (.bind (P:=fun m=>m=fw (y.bW.take (j+1)) x) (.cond (fun ai=>.ret ?_) fun ai=>.ret ?_) fun m hm=>.ret (by rw [hm,fH (by omega)]))) fun ai=>by simp at ai;omega
  ·rw [nI _ aF];unfold fw;rw [List.countP_append,List.countP_singleton,ai];exact fH (by omega)
  rw [nI _ aF];unfold fw;rw [List.countP_append,List.countP_singleton,ai];rfl
 subst hs;refine .cond (fun ai=>by simp at ai) fun _=>.ret ?_;show fw (List.take _ _) _=_;rw [List.take_length]
theorem adY (hs:cR s)(x:Int):D7 s x=some (od x):=by
 refine br.get ?_;unfold D7;refine(M5 hs).bind fun aq h1=>?_;rw [h1.Fh,hs.Fh];refine(TO [1,2,7] x (by simp)).bind fun r h=>.ret ?_;rcases h with⟨rfl,aQ⟩ | ⟨k,hk,rfl,he⟩
 ·unfold od rx;simp only [List.mem_cons,List.not_mem_nil,or_false,not_or] at aQ;rw [if_neg aQ.1,if_neg aQ.2.1,if_neg aQ.2.2]
 unfold od;rw [(xi hk).1 he]
theorem T3 (ao:y.bW.length≤1000):DR y=some y:=by
 unfold DR;rw [hT _ _ (by simp;omega) (by omega)];rfl
theorem Rr (hs:cR s)(h:kq s y ls next)(ao:n1 s ls){k:Nat}(hk:k<4){e:a8}(he:gp s k e)(fU:Int)(aQ:0≤next∧next<1000000):
 br (wP y e fU) (fun r=>if (dE (ls k) e).isSome=true then r=(17,y) else if (aE s.bQ k).hG≤ ((ls k).length:Int) then r=(18,y)
  else if room s (fw (eJ ls)) fU=true then r.1=0∧kq s r.2 (fg ls k (ls k++[{ bd:=e,b8:=next,dA:=fU }])) (next+1) else r=(19,y)):=by
 have hlen:=h.len ao
 unfold wP
 refine .eq (T3 (by omega)) (.bind (ab5 hs h ao hk he fU aQ) fun aD ae=>?_)
 obtain⟨n,err,nF⟩:=aD
 by_cases aY:(dE (ls k) e).isSome=true
 ·rw [if_pos aY] at ae
  simp only at ae;subst ae
  exact .cond (fun _=>.ret (by rw [if_pos aY])) fun ai=>by simp at ai
 rw [if_neg aY] at ae
 by_cases cJ:(aE s.bQ k).hG≤ ((ls k).length:Int)
 ·rw [if_pos cJ] at ae
  simp only at ae;subst ae
  exact .cond (fun _=>.ret (by rw [if_neg aY,if_pos cJ])) fun ai=>by simp at ai
 rw [if_neg cJ] at ae
 obtain⟨aX,ae⟩:=ae
 simp only at aX ae;subst aX
 refine .cond (fun ai=>by simp at ai) fun _=>?_
 rw [h.pN]
 have O7:fw y.bW=fw (eJ ls):=by funext x;unfold fw;rw [h.rn.countP_eq]
 refine .eq (adY hs fU) ?_
 rw [acX fU (by omega),O7]
 cases aI:rx fU with
 | none=>
   have h3:od fU= -1:=by unfold od;rw [aI]
   have av:room s (fw (eJ ls)) fU=false:=by unfold room;rw [aI]
   rw [h3]
   exact .ret (by rw [if_neg aY,if_neg cJ,av,if_neg (by simp)])
 | some j=>
   have aF:=zm aI
   have h3:od fU=(j:Int):=by unfold od;rw [aI]
   have hd:decide ((j:Int)<0)=false:=by simp
   rw [h3]
   simp only [hd]
   refine .eq (a:=fw (eJ ls) fU) rfl (.eq (a:=j) (by unfold cX;rw [if_pos rfl];exact oV (by rw [hs.pD];exact aF)) (.eq rfl (.cond (fun ai=>.ret ?_) fun ai=>.ret ?_)))
   ·rw [if_neg aY,if_neg cJ,if_neg (by unfold room;rw [aI];simp only [Bool.false_or,decide_eq_true_eq] at ai;simp;omega)]
   rw [if_neg aY,if_neg cJ,if_pos (by unfold room;rw [aI];simp only [Bool.false_or,decide_eq_false_iff_not] at ai;simp;omega)]
   exact⟨rfl,ae⟩
end
def s4 (s:aZ)(L:List az)(t:dq):Int:=(((L.flatMap fun i=>jC s i.bd).count t:Nat):Int)
def s5 (s:aZ)(L:List az)(t:dq):Int:=(((L.flatMap fun i=>jj s i.bd).count t:Nat):Int)
section
variable {s:aZ} {L L':List az}
theorem Bn (h:L.Perm L'):s4 s L=s4 s L':=by funext t;unfold s4;rw [(h.flatMap_right _).count_eq]
theorem Bo (h:L.Perm L'):s5 s L=s5 s L':=by funext t;unfold s5;rw [(h.flatMap_right _).count_eq]
theorem pf (h:L.Perm L'):fw L=fw L':=by funext x;unfold fw;rw [h.countP_eq]
theorem Bp {i:az} :fv (s4 s L) (jC s i.bd) 1=s4 s (L++[i]):=by
 funext t;unfold s4 fv;rw [List.flatMap_append,List.count_append];simp
theorem Bq {i:az} :fv (s5 s L) (jj s i.bd) 1=s5 s (L++[i]):=by
 funext t;unfold s5 fv;rw [List.flatMap_append,List.count_append];simp
theorem rH {i:az} :bump (fw L) i.dA 1=fw (L++[i]):=by
 funext x;unfold fw bump;rw [List.countP_append,List.countP_singleton];by_cases e:x=i.dA
 ·subst e;rw [if_pos rfl];simp
 rw [if_neg e,if_neg (by simpa using fun h=>e h.symm)];simp
theorem RQ {A:dq→Int}{l:List dq} :fv (fv A l 1) l (-1)=A:=by funext t;unfold fv;omega
theorem aa9 {N:Int→Int}{x:Int} :bump (bump N x 1) x (-1)=N:=by
 funext y;unfold bump;by_cases e:y=x
 ·subst e;rw [if_pos rfl,if_pos rfl];omega
 rw [if_neg e,if_neg e]
theorem Ib {i:az}(h:(L'++[i]).Perm L):fv (s4 s L) (jC s i.bd) (-1)=s4 s L':=by rw [← Bn h,← Bp,RQ]
theorem Ic {i:az}(h:(L'++[i]).Perm L):fv (s5 s L) (jj s i.bd) (-1)=s5 s L':=by rw [← Bo h,← Bq,RQ]
theorem RR {i:az}(h:(L'++[i]).Perm L):bump (fw L) i.dA (-1)=fw L':=by rw [← pf h,← rH,aa9]
theorem SD {i:az}(h:i∈L):0<fw L i.dA:=by
 unfold fw;have:0<L.countP fun j=>j.dA==i.dA:=List.countP_pos_iff.2 ⟨i,h,by simp⟩;omega
end
def mS (a b:Nat→List az):Prop:= ∀ k,k<4→ (a k).Perm (b k)
theorem mS.refl {a:Nat→List az} :mS a a:=fun _ _=>.refl _
theorem mS.symm {a b:Nat→List az}(h:mS a b):mS b a:=fun k hk=>(h k hk).symm
theorem mS.trans {a b c:Nat→List az}(h:mS a b)(k:mS b c):mS a c:=fun j aF=>(h j aF).trans (k j aF)
structure ku (s:aZ)(ls:Nat→List az)(next:Int)(y:cW):Prop where
 r:kq s y ls next
 ok:n1 s ls
 arg:∀ k,k<4→ ∀ i∈ls k,nq i.bd∧ (rx i.dA).isSome=true∧i.b8<next
 quo:∀ x j,rx x=some j→fw (eJ ls) x≤ (aE s.eR j).iK
 G8:1≤next
theorem acY {s:aZ}{k:Nat}{l rB:List az}(h:iH s k l)(p:rB.Perm l):iH s k rB:=
 ⟨abU h.ok p,h.key.perm p.symm fun {a b} ajP=>by rw [rM];exact ajP⟩
theorem ku.perm {s:aZ}{ls ls':Nat→List az}{next:Int}{y:cW}(h:ku s ls next y)(p:mS ls' ls):ku s ls' next y where
 r:=⟨h.r.pN,h.r.num,h.r.Kr,h.r.rn.trans (yJ p.symm)⟩
 ok:=⟨fun k hk=>acY (h.ok.gx k hk) (p k hk),fun k hk=>by rw [(p k hk).length_eq];exact h.ok.len k hk⟩
 arg k hk i au:=h.arg k hk i ((p k hk).mem_iff.1 au)
 quo x j aF:=by rw [pf (yJ p)];exact h.quo x j aF
 G8:=h.G8
theorem ku.JW {s:aZ}{ls:Nat→List az}{next:Int}{y:cW}(h:ku s ls next y):(eJ ls).length≤48:=by rw [← h.r.rn.length_eq];exact h.r.len h.ok
theorem LW {α β:Type}{f:α→List β}{n:Nat}(aY:∀ x,(f x).length≤n):∀ l:List α,(l.flatMap f).length≤n * l.length
 | []=>by simp
 | x::l=>by
   have:=LW aY l;have:=aY x;rw [List.flatMap_cons,List.length_append,List.length_cons,Nat.mul_add];omega
theorem ku.G9 {s:aZ}(aI:my s){ls:Nat→List az}{next:Int}{y:cW}(h:ku s ls next y){js:List gf}(aF:js.length≤1000):Ak (s4 s (eJ ls)) (s5 s (eJ ls)) (fw (eJ ls)) js where
 a t:=by
   have h1:=LW (f:=fun i:az=>jC s i.bd) (n:=4) (fun i=>ME aI _) (eJ ls);have ae:=h.JW;have aA:(List.flatMap (fun i:az=>jC s i.bd) (eJ ls)).count t≤_:=List.count_le_length;unfold s4;omega
 b t:=by
   have h1:=LW (f:=fun i:az=>jj s i.bd) (n:=1) (fun i=>by unfold jj;split <;> simp) (eJ ls);have ae:=h.JW;have aA:(List.flatMap (fun i:az=>jj s i.bd) (eJ ls)).count t≤_:=List.count_le_length;unfold s5;omega
 n x:=by
   have ae:=h.JW;have aA:(eJ ls).countP (fun i=>i.dA==x)≤_:=List.countP_le_length;unfold fw;omega
 j:=aF
abbrev lC (s:aZ)(hp:aC Cell)(P:uA)(ls:Nat→List az)(next:Int)(js:List gf):Prop:=hA s hp P ls next js (s4 s (eJ ls)) (s5 s (eJ ls)) (fw (eJ ls))
inductive x3 (s:aZ)(kN:Nat)(ls:Nat→List az)(next:Int):gf→ (Nat→List az)→Int→Prop
 | ins {k:Nat} {i:az} (hk:k<4) (au:kI s k i) (a7:nq i.bd) (aY:dE (ls k) i.bd=none):x3 s kN ls next ⟨.xO (some kN) i next i.dA⟩ (fg ls k (ls k++[i])) (next+1)
 | mod {k:Nat} {i:az} {e:a8} (hk:k<4) (au:i∈ls k) (he:gp s k e) (a7:nq e) (hs:fE i.bd e=true):x3 s kN ls next ⟨.vP (some kN) i.bd⟩ (fg ls k (dm (ls k) e++[{ bd:=e,b8:=i.b8,dA:=i.dA }])) next
 | del {k:Nat} {i:az} (hk:k<4) (au:i∈ls k):x3 s kN ls next ⟨.xP (some kN) i⟩ (fg ls k (dm (ls k) i.bd)) next
theorem Tq {l:List az}{e d:a8}(h:fE e d=true):dm l e=dm l d:=List.filter_congr fun c _=>by
 congr 1;rw [Bool.eq_iff_iff];exact⟨fun g=>rJ g h,fun g=>rJ g (by rw [rM];exact h)⟩
theorem Rs {l rB:List az}{e:a8}(p:l.Perm rB):(dm l e).Perm (dm rB e):=p.filter _
theorem SE {s:aZ}{k:Nat}{l rB:List az}(h:iH s k rB)(p:l.Perm rB)(e:a8):dE l e=dE rB e:=by
 cases aY:dE l e with
 | some i=>
   obtain⟨h1,ae⟩:=oi aY
   exact(h.TV (p.mem_iff.1 h1) ae).symm
 | none=>
   cases bO:dE rB e with
   | none=>rfl
   | some i=>
     obtain⟨h1,ae⟩:=oi bO
     rw [sL aY i (p.mem_iff.2 h1)] at ae;cases ae
section
variable {s:aZ} {hp:aC Cell} {P:uA} {ls ls' cN:Nat→List az} {next next':Int} {js:List gf} {y nF:cW} {l3:gf}
theorem hA.to {A B dd G6:dq→Int}{N G7:Int→Int}(h:hA s hp P ls next js A B N)(a7:A=dd)(hb:B=G6)(aQ:N=G7):hA s hp P ls next js dd G6 G7:=by subst a7 hb aQ;exact h
theorem adZ (hs:cR s)(aI:my s)(h:lC s hp P cN next' js)(aF:js.length≤1000)(hu:x3 s P.x ls next l3 ls' next')(h1:ku s ls next y)(ae:ku s ls' next' nF)(p:mS cN ls'):
 c9 (Lt hp l3.u5) (fun r=> ∃ fI,lC s r P fI next js∧mS fI ls):=by
 have aA:=ae.perm p
 have hb:=aA.G9 aI aF
 cases hu with
 | @ins k i hk au a7 aY=>
   have rq:=p k hk
   rw [jm] at rq
   have vV:i∈cN k:=rq.mem_iff.2 (by simp)
   have ajQ:i∈eJ cN:=It.2 ⟨k,hk,vV⟩
   obtain⟨j,Kt⟩:=Option.isSome_iff_exists.1 (aA.arg k hk i vV).2.1
   refine(ab1 hs aI h hb hk au a7 Kt (SD ajQ) next).mono fun r uv=>⟨fg cN k (dm (cN k) i.bd),?_,?_⟩
   ·have wh:(eJ (fg cN k (dm (cN k) i.bd))++[i]).Perm (eJ cN):=by
     have bc:=pY (ls:=fg cN k (dm (cN k) i.bd)) hk i;rw [jm,uP] at bc;refine bc.trans (yJ fun j aF=>?_);by_cases e:j=k
     ·subst e;rw [jm];exact wV (aA.ok.gx j hk) vV (om _)
     rw [jW e]
    have ar:max 1 next=next:=by have:=h1.G8;omega
    rw [ar] at uv
    exact uv.to (Ib wh) (Ic wh) (RR wh)
   intro j aF
   by_cases e:j=k
   ·subst e
    rw [jm]
    have bc:=Rs (e:=i.bd) rq
    rw [LU (om _),IL aY] at bc
    exact bc
   rw [jW e]
   have bc:=p j aF
   rw [jW e] at bc;exact bc
 | @mod k i e hk au he a7 ss=>
   have rq:=p k hk
   rw [jm] at rq
   have eL:=(h1.ok.gx k hk).ok.ok i au
   have JX:fE e i.bd=true:=by rw [rM];exact ss
   have vY:dE (cN k) i.bd=some { bd:=e,b8:=i.b8,dA:=i.dA } :=by
    rw [SE (by have:=ae.ok.gx k hk;rw [jm] at this;exact this) rq];exact Sx (om e) ss
   obtain⟨hm,_⟩:=oi vY
   show c9 (C5 hp (some P.x) i.bd) _
   unfold C5
   refine .bind (RP hs aI h hb hk eL.ej (h1.arg k hk i au).1 (fun c ai=>(aA.arg k hk c ai).1) (by have:=aA.ok.len k hk;omega)) fun aq a1=>.ret ?_
   rw [vY] at a1
   obtain⟨_,_,bO⟩:=a1
   simp only at bO
   have wh:(eJ (fg cN k (dm (cN k) i.bd))++[({ bd:=e,b8:=i.b8,dA:=i.dA } :az)]).Perm (eJ cN):=by
    have bc:=pY (ls:=fg cN k (dm (cN k) i.bd)) hk ({ bd:=e,b8:=i.b8,dA:=i.dA } :az);rw [jm,uP] at bc;refine bc.trans (yJ fun j aF=>?_);by_cases e:j=k
    ·subst e;rw [jm];exact wV (aA.ok.gx j hk) hm JX
    rw [jW e]
   have Ku:=pY (ls:=fg cN k (dm (cN k) i.bd)) hk i
   rw [jm,uP] at Ku
   refine⟨_,bO.to ?_ ?_ ?_,?_⟩
   ·have:=Ib (s:=s) wh
    rw [this,Bp (i:=i)];exact Bn Ku
   ·have:=Ic (s:=s) wh
    rw [this,Bq (i:=i)];exact Bo Ku
   ·rw [← pf wh,← pf Ku,← rH,← rH]
   intro j aF
   by_cases av:j=k
   ·subst av
    rw [jm]
    have bc:=Rs (e:=i.bd) rq
    rw [aa3 (om e) ss,Tq JX] at bc
    exact(bc.append_right _).trans (wV (h1.ok.gx j hk) au (om _))
   rw [jW av]
   have bc:=p j aF
   rw [jW av] at bc;exact bc
 | @del k i hk au=>
   have rq:=p k hk
   rw [jm] at rq
   have eL:=(h1.ok.gx k hk).ok.ok i au
   have wh:(eJ cN++[i]).Perm (eJ ls):=by
    refine(pY hk i).trans (yJ fun j aF=>?_);by_cases e:j=k
    ·subst e;rw [jm];exact(rq.append_right _).trans (wV (h1.ok.gx j hk) au (om _))
    rw [jW e];have bc:=p j aF;rw [jW e] at bc;exact bc
   have bP:pL (cN k) i=true:=by
    have bc:=Sw (h1.ok.gx k hk) au (om i.bd) (om i.bd) rfl;unfold pL jO at bc ⊢;rw [SE ((h1.ok.gx k hk).dm i.bd) rq,rq.any_eq];exact bc
   have kG:room s (fw (eJ cN)) i.dA=true:=by
    obtain⟨j,Kt⟩:=Option.isSome_iff_exists.1 (h1.arg k hk i au).2.1;have bc:=h1.quo _ j Kt;rw [← pf wh,← rH] at bc;unfold bump at bc;rw [if_pos rfl] at bc;unfold room;rw [Kt];simp;omega
   show c9 (Am hp (some P.x) i) _
   refine(ab2 hs aI h hb hk eL (h1.arg k hk i au).1 kG bP (by have:=aA.ok.len k hk;omega)).mono fun r bO=>⟨fg cN k (cN k++[i]),bO.to ?_ ?_ ?_,?_⟩
   ·rw [Bp];exact Bn (pY hk i)
   ·rw [Bq];exact Bo (pY hk i)
   ·rw [rH];exact pf (pY hk i)
   intro j aF
   by_cases e:j=k
   ·subst e
    rw [jm]
    exact(rq.append_right _).trans (wV (h1.ok.gx j hk) au (om _))
   rw [jW e]
   have bc:=p j aF
   rw [jW e] at bc;exact bc
end
theorem Vl {s:aZ}(hs:cR s)(aI:my s)(hp:aC Cell):c9 (Bc hp s) (fun r=> ∃ P:uA,r.1=some P.x∧lC s r.2 P (fun _=>[]) 1 []):=by
 have Kv:=hs.pD;unfold Bc;refine .bind (adS hs hp) fun aq h1=>?_;obtain⟨t,av,h1⟩:=h1;obtain⟨ajD,bR⟩:=aq;simp only at av h1;subst av;unfold H5 HX;refine .bind (P:=fun aD=> ∃ m r,r≠m∧m ∉ dZ bR∧r ∉ dZ bR∧aD=(some r,(r,Cell.zn ⟨s,⟨some m⟩⟩)::(m,Cell.r6 [])::bR)) (.mk fun m hm=>.mk fun r aI=>.ret ⟨m,r,?_,hm,?_,rfl⟩) fun aD ae=>?_
 ·exact fun e=>aI (by rw [e];exact List.mem_cons_self)
 ·exact fun h=>aI (List.mem_cons_of_mem _ h)
 obtain⟨m,r,Gg,hm,CJ,rfl⟩:=ae;refine .bind (P:=fun bh=> ∃ q,q≠r∧q≠m∧q ∉ dZ bR∧bh=(some q,(q,Cell.r8 { (default:iV) with jJ:=s.eR })::(r,Cell.zn ⟨s,⟨some m⟩⟩)::(m,Cell.r6 [])::bR)) (.eq (a:=s.eR) ?_ (.mk fun q hq=>.ret ⟨q,?_,?_,?_,rfl⟩)) fun bh aA=>?_
 ·unfold qW;rw [if_pos ⟨by omega,by rw [Kv];decide,by rw [Kv];decide⟩,Kv];show some (List.take 3 s.eR)=_;rw [← Kv,List.take_length]
 ·exact fun e=>hq (by rw [e];exact List.mem_cons_self)
 ·exact fun e=>hq (by rw [e];exact List.mem_cons_of_mem _ List.mem_cons_self)
 ·exact fun h=>hq (List.mem_cons_of_mem _ (List.mem_cons_of_mem _ h))
 obtain⟨q,ajR,zX,kg,rfl⟩:=aA;refine .any fun ef=>.mk fun x ar=>.ret ⟨⟨x,t,r,m,q⟩,rfl,?_⟩;simp only at ar ⊢;have ajS:x≠q:=fun e=>ar (by rw [e];exact List.mem_cons_self);have OK:x≠r:=fun e=>ar (by rw [e];exact List.mem_cons_of_mem _ List.mem_cons_self);have ajT:x≠m:=fun e=>ar (by rw [e];exact List.mem_cons_of_mem _ (List.mem_cons_of_mem _ List.mem_cons_self));have jh:x ∉ dZ bR:=fun h=>ar (List.mem_cons_of_mem _ (List.mem_cons_of_mem _ (List.mem_cons_of_mem _ h)));have nD:∀ z,CX ⟨x,t,r,m,q⟩ z→z ∉ dZ bR:=fun z cJ=>by
  rcases cJ with rfl | rfl | rfl | rfl
  ·exact jh
  ·exact CJ
  ·exact hm
  exact kg
 have hold:∀ z jQ dI bK aU,z∈dZ bR→pat ((x,jQ)::(q,dI)::(r,bK)::(m,aU)::bR) z=pat bR z:=fun z jQ dI bK aU cJ=>by
  rw [kV,if_neg (fun e:x=z=>jh (by rw [e];exact cJ)),kV,if_neg (fun e:q=z=>kg (by rw [e];exact cJ)),kV,if_neg (fun e:r=z=>CJ (by rw [e];exact cJ)),kV,if_neg (fun e:m=z=>hm (by rw [e];exact cJ))]
 obtain⟨yb,fq,own,g1,g2,g3⟩:=h1.cell;have i1:=jV (nO g1);have i2:=jV (w8 g2);have ii:∀ k,k<4→ ∀ z,own k z→z∈dZ bR:=fun k hk z cJ=>by obtain⟨_,_,cB⟩:=g3.has k hk;exact cB.oL z cJ
 refine⟨⟨ef.1,ef.2,?_⟩,⟨⟨yb,fq,own,?_,?_,g3.congr (fun z cJ=>?_) fun k hk z cJ=>hold z _ _ _ _ (ii k hk z cJ),⟨fun h=>nD _ h i1,fun h=>nD _ h i2⟩,fun k hk z cJ h=>nD z h (ii k hk z cJ)⟩,fun z cJ=>?_⟩,⟨?_,[],?_,.nil,fun t=>?_⟩,⟨(default:iV).hi,?_,fun j aF=>?_⟩⟩
 ·unfold ic;rw [kV,if_pos rfl]
 ·rw [Ei (hold t _ _ _ _ i1)];exact g1
 ·rw [Ej (hold yb _ _ _ _ i2)];exact g2
 ·exact List.mem_cons_of_mem _ (List.mem_cons_of_mem _ (List.mem_cons_of_mem _ (List.mem_cons_of_mem _ cJ)))
 ·rcases cJ with rfl | rfl | rfl | rfl
  ·exact List.mem_cons_self
  ·exact List.mem_cons_of_mem _ (List.mem_cons_of_mem _ List.mem_cons_self)
  ·exact List.mem_cons_of_mem _ (List.mem_cons_of_mem _ (List.mem_cons_of_mem _ List.mem_cons_self))
  exact List.mem_cons_of_mem _ List.mem_cons_self
 ·unfold q1;rw [kV,if_neg OK,kV,if_neg ajR,kV,if_pos rfl]
 ·unfold r2;rw [kV,if_neg ajT,kV,if_neg zX,kV,if_neg Gg,kV,if_pos rfl]
 ·rw [if_pos ⟨rfl,rfl⟩];rfl
 ·unfold ow;rw [kV,if_neg ajS,kV,if_pos rfl]
 show cd (default:Vector Int 6) j=0;have:j=0∨j=1∨j=2:=by omega
 rcases this with rfl | rfl | rfl <;> rfl
inductive pb (s:aZ)(kN:Nat):List gf→List cW→ (Nat→List az)→Int→Prop
 | nil {ls:Nat→List az} {next:Int} {y:cW} (h:ku s ls next y):pb s kN [] [y] ls next
 | snoc {js:List gf} {ys:List cW} {ls CR ls':Nat→List az} {next next':Int} {l3:gf} {nF:cW} (h:pb s kN js ys ls next) (p:mS CR ls) (u:x3 s kN CR next l3 ls' next') (dc:ku s ls' next' nF):
  pb s kN (js++[l3]) (ys++[nF]) ls' next'
section
variable {s:aZ} {hp:aC Cell} {P:uA} {ls cN:Nat→List az} {next:Int} {js:List gf} {ys:List cW} {y:cW} {kN:Nat}
theorem pb.len (h:pb s kN js ys ls next):ys.length=js.length+1:=by
 induction h with
 | nil _=>rfl
 | snoc _ _ _ _ cA=>rw [List.length_append,List.length_append,cA];rfl
theorem pb.last (h:pb s kN js ys ls next):ku s ls next (aE ys js.length):=by
 cases h with
 | nil h=>exact h
 | snoc h p u dc=>
   rw [Ij,if_pos (by rw [List.length_append,h.len];rfl)]
   exact dc
theorem pb.back {l3:gf}(h:pb s kN (js++[l3]) ys ls next):∃ Kw CR KM,pb s kN js (ys.take (js.length+1)) Kw KM∧mS CR Kw∧x3 s kN CR KM l3 ls next:=by
 generalize aF:js++[l3]=GZ at h;cases h with
 | nil _=>exact absurd aF (by simp)
 | snoc h p u dc=>
   obtain⟨rfl,e⟩:=List.append_inj' aF rfl
   cases e
   refine⟨_,_,_,?_,p,u⟩
   rw [← h.len,List.take_left];exact h
theorem ad0 (hs:cR s)(aI:my s)(h:lC s hp P cN next js)(aF:js.length≤1000)(c:pb s P.x js ys ls next)(p:mS cN ls)(mark:Int):
 c9 (C9 hp (some P.x) mark) (fun r=> ∃ hQ ls' next',lC s r P hQ next' (js.take (max 0 mark).toNat)∧pb s P.x (js.take (max 0 mark).toNat) (ys.take ((max 0 mark).toNat+1)) ls' next'∧mS hQ ls'):=by
 generalize aQ:(max 0 mark).toNat=n
 have Kc:max 0 mark=(n:Int):=by omega
 have hlen:=c.len
 unfold C9
 refine .bind (P:=fun e=> ∃ hQ ls' next',lC s e.2 P hQ next' (js.take n)∧pb s P.x (js.take n) (ys.take (n+1)) ls' next'∧mS hQ ls') (c9.loop (js.length - n) (fun i st=> ∃ hQ ls' next',lC s st P hQ next' (js.take (js.length - i))∧pb s P.x (js.take (js.length - i)) (ys.take (js.length - i+1)) ls' next'∧mS hQ ls') (by omega) ⟨cN,ls,next,by rw [Nat.sub_zero,List.take_length];exact h,by rw [Nat.sub_zero,← hlen,List.take_length,List.take_length];exact c,p⟩ (fun i st au dk=>?_) fun st dk=>?_) fun e he=>.ret he
 ·obtain⟨hQ,ls',next',g,hz,Af⟩:=dk
  obtain⟨a,b,dk⟩:=g.st
  have ao:(js.take (js.length - i)).length=js.length - i:=by rw [List.length_take];omega
  obtain⟨d,hd⟩:∃ d,js.length - i=d+1:=⟨js.length - i - 1,by omega⟩
  rw [hd] at g hz dk ao
  have hw:bC (((js.take (d+1)).length:Int) - 1)=(d:Int):=by rw [ao,ib (by omega) (by omega)];omega
  refine .eq (a:=P.x) rfl (.eq dk (.eq rfl (.cond (fun _=>?_) fun ai=>?_)))
  ·refine .idx (k:=d) hw (by rw [ao];omega) (.idx (k:=d) hw (by rw [ao];omega) (.eq rfl (.eq rfl ?_)))
   have WU:d<js.length:=by omega
   have ajU:js.take (d+1)=js.take d++[aE js d]:=LV WU
   have ajV:(js.take (d+1)).take d=js.take d:=by rw [List.take_take,Nat.min_eq_left (by omega)]
   have ajW:aE (js.take (d+1)) d=aE js d:=by rw [e7 _ (by rw [ao];omega),e7 _ WU,List.getElem_take]
   simp only [ajV,ajW]
   rw [ajU] at hz
   obtain⟨Kw,CR,KM,oc,Xc,akt⟩:=hz.back
   have ajX:(js.take d).length=d:=by rw [List.length_take];omega
   rw [ajX,List.take_take,Nat.min_eq_left (by omega)] at oc
   have cT:=oc.last.perm Xc
   refine .bind (adZ hs aI (g.Ks (js':=js.take d) a b) (by omega) akt cT hz.last Af) fun aD ae=>.ret ?_
   obtain⟨fI,g2,bB⟩:=ae
   rw [show js.length - (i+1)=d by omega]
   exact⟨fI,Kw,KM,g2,oc,bB.trans Xc⟩
  simp only [decide_eq_false_iff_not,ao,Kc] at ai
  omega
 obtain⟨hQ,ls',next',g,hz,Af⟩:=dk
 obtain⟨a,b,dk⟩:=g.st
 refine .eq (a:=P.x) rfl (.eq dk (.eq rfl (.cond (fun ai=>?_) fun _=>.ret ?_)))
 ·simp only [decide_eq_true_eq,List.length_take,Kc] at ai
  omega
 by_cases qq:n≤js.length
 ·rw [show js.length - (js.length - n)=n by omega] at g hz
  exact⟨hQ,ls',next',g,hz,Af⟩
 rw [show js.length - (js.length - n)=js.length by omega,List.take_length] at g hz
 have av:js.take n=js:=List.take_of_length_le (by omega)
 have aX:ys.take (n+1)=ys:=List.take_of_length_le (by omega)
 have c0:ys.take (js.length+1)=ys:=List.take_of_length_le (by omega)
 rw [c0] at hz
 rw [av,aX]
 exact⟨hQ,ls',next',g,hz,Af⟩
end
section
variable {s:aZ} {hp:aC Cell} {P:uA} {ls cN:Nat→List az} {next:Int} {js:List gf} {ys:List cW} {y:cW} {kN:Nat}
variable {A B:dq→Int} {N:Int→Int}
theorem Md (hs:cR s)(a1:y.hU=s){e:a8}(he:e.b3=9):sF y e=some (-1):=by
 refine br.get ?_;unfold sF A0;rw [a1,he];have ao:=hs.mg;refine .bind (P:=fun r=>r= -1) ((M5 hs).bind fun r aI=>?_) fun r aI=>.ret aI;rw [aI.tables];refine(TO _ 9 (by rw [List.length_map];omega)).bind fun r aI=>.ret ?_;rcases aI with⟨rfl,_⟩ | ⟨k,hk,rfl,he⟩
 ·rfl
 rw [List.length_map,ao] at hk;rw [Bu _ (by omega),(hs.gG hk).1] at he;omega
theorem aba (h:hA s hp P cN next js A B N){e:a8}(he:e.b3=9)(fU:Int):c9 (sC hp (some P.x) e fU) (fun r=>r=(6,hp)):=by
 obtain⟨a0,oc,bH⟩:=h.st;unfold sC;refine .cond (fun ai=>by cases ai) fun _=>.eq (a:=P.x) rfl (.eq bH (.bind (P:=fun r=>r=(0,6,hp)) ?_ fun aq h1=>?_))
 ·unfold AE;rw [he];exact .eq (L9 h.lv.ok (.inr (by omega))) (.cond (fun _=>.ret rfl) fun ai=>by cases ai)
 subst h1;exact .cond (fun _=>.ret rfl) fun ai=>by simp at ai
theorem Tr (h:hA s hp P cN next js A B N){e:a8}(he:e.b3=9):c9 (tF hp (some P.t) e) (fun r=>r=(default,6,hp)):=by
 unfold tF;rw [he];exact .eq (L9 h.lv.ok (.inr (by omega))) (.cond (fun _=>.ret rfl) fun ai=>by cases ai)
theorem abb (h:hA s hp P cN next js A B N){e:a8}(he:e.b3=9):c9 (wD hp (some P.x) e) (fun r=>r=(6,hp)):=by
 obtain⟨a0,oc,bH⟩:=h.st;unfold wD;refine .cond (fun ai=>by cases ai) fun _=>.eq (a:=P.x) rfl (.eq bH (.bind (Tr h he) fun aq h1=>?_));subst h1;exact .cond (fun _=>.ret rfl) fun ai=>by simp at ai
theorem abc (h:hA s hp P cN next js A B N){e:a8}(he:e.b3=9):c9 (wE hp (some P.x) e) (fun r=>r=(6,hp)):=by
 obtain⟨a0,oc,bH⟩:=h.st;unfold wE yl;refine .cond (fun ai=>by cases ai) fun _=>.bind (P:=fun r=>r.2.2=(6,hp)) (.eq (a:=P.x) rfl (.eq bH (.bind (P:=fun r=>r.2=(6,hp)) ?_ fun aq h1=>?_))) fun aq h1=>?_
 ·unfold AF;refine .bind (Tr h he) fun aq h1=>?_;subst h1;exact .cond (fun _=>.ret rfl) fun ai=>by simp at ai
 ·obtain⟨i,r⟩:=aq;simp only at h1;subst h1;exact .cond (fun _=>.ret rfl) fun ai=>by simp at ai
 obtain⟨i,k,r⟩:=aq;simp only at h1;subst h1;exact .cond (fun _=>.ret rfl) fun ai=>by simp at ai
theorem ZW (hs:cR s)(a1:y.hU=s)(ao:y.bW.length≤1000){e:a8}(he:e.b3=9)(fU:Int):br (wP y e fU) (fun r=>r=(6,y)):=by
 unfold wP;refine .eq (T3 ao) (.bind (P:=fun r=>r.2.1=6) ?_ fun aD ae=>?_)
 ·unfold AD;exact .eq (Md hs a1 he) (.cond (fun _=>.ret rfl) fun ai=>by cases ai)
 obtain⟨n,k,r⟩:=aD;simp only at ae;subst ae;exact .cond (fun _=>.ret rfl) fun ai=>by simp at ai
theorem ZX (hs:cR s)(a1:y.hU=s){e:a8}(he:e.b3=9):br (wH y e) (fun r=>r.2=(6,y)):=by
 unfold wH;exact .eq (Md hs a1 he) (.cond (fun _=>.ret rfl) fun ai=>by cases ai)
theorem ZY (hs:cR s)(a1:y.hU=s){e:a8}(he:e.b3=9):br (wI y e) (fun r=>r.2=(6,y)):=by
 unfold wI;exact .eq (Md hs a1 he) (.cond (fun _=>.ret rfl) fun ai=>by cases ai)
def xI (s:aZ)(P:uA)(cN:Nat→List az)(next:Int)(js:List gf)(y:cW)(a b:Int)(nF:cW)(hp':aC Cell):Prop:=
 a=b∧ ((b=0∧ ∃ l3 hQ next',lC s hp' P hQ next' (js++[l3])∧x3 s P.x cN next l3 hQ next'∧ku s hQ next' nF∧next'≤next+1)∨ (b≠0∧lC s hp' P cN next js∧nF=y))
theorem ku.Kx (h:ku s cN next y){next':Int}(aQ:next≤next'){nF:cW}{k:Nat}(hk:k<4){l:List az}(g:lC s hp P (fg cN k l) next' js)(aI:kq s nF (fg cN k l) next')(ao:l.length≤12)
 (a7:∀ i∈l,nq i.bd∧ (rx i.dA).isSome=true∧i.b8<next') (hq:∀ x j,rx x=some j→fw (eJ (fg cN k l)) x≤ (aE s.eR j).iK):ku s (fg cN k l) next' nF:=by
 refine⟨aI,⟨fun j aF=>g.lv.ok.gx aF,fun j aF=>?_⟩,fun j aF=>?_,hq,by have:=h.G8;omega⟩
 ·by_cases e:j=k
  ·subst e;rw [jm];exact ao
  rw [jW e];exact h.ok.len j aF
 by_cases e:j=k
 ·subst e;rw [jm];exact a7
 rw [jW e];exact fun i au=>⟨(h.arg j aF i au).1,(h.arg j aF i au).2.1,by have:=(h.arg j aF i au).2.2;omega⟩
theorem agq (hs:cR s)(aI:my s)(h:lC s hp P cN next js)(eH:ku s cN next y)(aF:js.length≤1000)(aQ:next<100000){k:Nat}(hk:k<4){e:a8}(he:gp s k e)(a7:nq e)(fU:Int):
 c9 (ak.bind (sC hp (some P.x) e fU) fun cL=>ak.bind (ak.of (wP y e fU)) fun dR=>ak.ret (cL,dR)) (fun r=>xI s P cN next js y r.1.1 r.2.1 r.2.2 r.1.2):=by
 have mh:=eH.G8
 have ft:=eH.ok.len k hk
 refine .bind (SC hs aI h (eH.G9 aI aF) hk he a7 fU (fun i au=>(eH.arg k hk i au).2.2) (by omega) ⟨mh,by omega⟩) fun cL dz=>.hZ (Rr hs eH.r eH.ok hk he fU ⟨by omega,by omega⟩) fun dR ea=>.ret ?_
 by_cases aY:(dE (cN k) e).isSome=true
 ·rw [if_pos aY] at dz ea
  subst dz ea
  exact⟨rfl,.inr ⟨by simp,h,rfl⟩⟩
 rw [if_neg aY] at dz ea
 by_cases cJ:(aE s.bQ k).hG≤ ((cN k).length:Int)
 ·rw [if_pos cJ] at dz ea
  subst dz ea
  exact⟨rfl,.inr ⟨by simp,h,rfl⟩⟩
 rw [if_neg cJ] at dz ea
 have ed:=(hs.size hk).2
 by_cases kG:room s (fw (eJ cN)) fU=true
 ·rw [if_pos kG] at dz ea
  obtain⟨wC,g8⟩:=dz
  obtain⟨sw,Al⟩:=ea
  have hp:=pY (ls:=cN) hk ({ bd:=e,b8:=next,dA:=fU } :az)
  have g:=g8.to (Bp.trans (Bn hp)) (Bq.trans (Bo hp)) (rH.trans (pf hp))
  have vY:dE (cN k) e=none:=by
   cases hq:dE (cN k) e with
   | none=>rfl
   | some _=>rw [hq] at aY;exact absurd rfl aY
  have CB:∃ j,rx fU=some j∧fw (eJ cN) fU<(aE s.eR j).iK:=by
   unfold room at kG;split at kG
   ·rename_i j aF;exact⟨j,aF,of_decide_eq_true kG⟩
   cases kG
  obtain⟨j,aF,hq⟩:=CB
  refine⟨wC.trans sw.symm,.inl ⟨sw,_,_,_,g,.ins (i:=⟨e,next,fU⟩) hk ⟨he⟩ a7 vY,eH.Kx (by omega) hk g Al (by rw [List.length_append];simp only [List.length_cons,List.length_nil];omega) (fun i au=>?_) (fun x rz sm=>?_),Int.le_refl _⟩⟩
  ·rcases List.mem_append.1 au with au | au
   ·have:=eH.arg k hk i au
    exact⟨this.1,this.2.1,by omega⟩
   rw [List.mem_singleton] at au
   subst au
   exact⟨a7,by rw [aF];rfl,by simp only;omega⟩
  rw [← pf hp,← rH]
  unfold bump
  by_cases av:x=fU
  ·subst av
   rw [if_pos rfl]
   rw [aF] at sm;cases sm
   simp only;omega
  rw [if_neg av];exact eH.quo x rz sm
 rw [if_neg kG] at dz ea
 obtain⟨wC,g8⟩:=dz
 subst ea
 rw [LS] at g8
 exact⟨wC,.inr ⟨by simp,g8,rfl⟩⟩
theorem agr (hs:cR s)(aI:my s)(h:lC s hp P cN next js)(eH:ku s cN next y)(aF:js.length≤1000){k:Nat}(hk:k<4){e:a8}(he:gp s k e)(a7:nq e):
 c9 (ak.bind (wE hp (some P.x) e) fun cL=>ak.bind (ak.of (wH y e)) fun dR=>ak.ret (cL,dR)) (fun r=>xI s P cN next js y r.1.1 r.2.2.1 r.2.2.2 r.1.2):=by
 have ft:=eH.ok.len k hk
 refine .bind (abZ hs aI h (eH.G9 aI aF) hk he a7 (fun i au=>(eH.arg k hk i au).1) (by omega)) fun cL dz=>.hZ (ab4 hs eH.r eH.ok hk he) fun dR ea=>.ret ?_
 cases aY:dE (cN k) e with
 | none=>
   rw [aY] at dz ea
   rw [IL aY,LS] at dz
   exact⟨dz.1.trans ea.1.symm,.inr ⟨by rw [ea.1];simp,dz.2,ea.2⟩⟩
 | some i=>
   rw [aY] at dz ea
   obtain⟨wC,g8⟩:=dz
   obtain⟨sw,Al⟩:=ea
   obtain⟨hm,ss⟩:=oi aY
   have ri:=eH.ok.gx k hk
   have bR:(eJ (fg cN k (dm (cN k) e))++[i]).Perm (eJ cN):=by
    have bc:=pY (ls:=fg cN k (dm (cN k) e)) hk i;rw [jm,uP] at bc;refine bc.trans (yJ fun j aF=>?_);by_cases av:j=k
    ·subst av;rw [jm];exact wV ri hm ss
    rw [jW av]
   have c6:=pY (ls:=fg cN k (dm (cN k) e)) hk ({ bd:=e,b8:=i.b8,dA:=i.dA } :az)
   rw [jm,uP] at c6
   have iT:fw (eJ cN)=fw (eJ (fg cN k (dm (cN k) e++[({ bd:=e,b8:=i.b8,dA:=i.dA } :az)]))):=by
    rw [← pf bR,← pf c6,← rH,← rH]
   have g:lC s cL.2 P (fg cN k (dm (cN k) e++[{ bd:=e,b8:=i.b8,dA:=i.dA }])) next (js++[⟨.vP (some P.x) i.bd⟩]):=g8.to (by rw [Ib bR];exact Bp.trans (Bn c6)) (by rw [Ic bR];exact Bq.trans (Bo c6)) iT
   have ajY:=eH.arg k hk i hm
   refine⟨wC.trans sw.symm,.inl ⟨sw,_,_,_,g,.mod hk hm he a7 ss,eH.Kx (Int.le_refl _) hk g Al ?_ (fun c ai=>?_) (fun x j aF=>by rw [← iT];exact eH.quo x j aF),by omega⟩⟩
   ·have:=(wV ri hm ss).length_eq
    rw [List.length_append] at this ⊢
    simp only [List.length_cons,List.length_nil] at this ⊢
    omega
   rcases List.mem_append.1 ai with ai | ai
   ·exact eH.arg k hk c (ng.1 ai).1
   rw [List.mem_singleton] at ai
   subst ai
   exact⟨a7,ajY.2⟩
theorem ags (hs:cR s)(aI:my s)(h:lC s hp P cN next js)(eH:ku s cN next y)(aF:js.length≤1000){k:Nat}(hk:k<4){e:a8}(he:gp s k e):
 c9 (ak.bind (wD hp (some P.x) e) fun cL=>ak.bind (ak.of (wI y e)) fun dR=>ak.ret (cL,dR)) (fun r=>xI s P cN next js y r.1.1 r.2.2.1 r.2.2.2 r.1.2):=by
 have ft:=eH.ok.len k hk
 refine .bind (ab0 hs aI h (eH.G9 aI aF) hk he fun i au=>⟨(eH.arg k hk i au).1,(eH.arg k hk i au).2.1,SD (It.2 ⟨k,hk,au⟩)⟩) fun cL dz=>.hZ (ab3 hs eH.r eH.ok hk he) fun dR ea=>.ret ?_
 cases aY:dE (cN k) e with
 | none=>
   rw [aY] at dz ea
   rw [IL aY,LS] at dz
   exact⟨dz.1.trans ea.1.symm,.inr ⟨by rw [ea.1];simp,dz.2,ea.2⟩⟩
 | some i=>
   rw [aY] at dz ea
   obtain⟨wC,g8⟩:=dz
   obtain⟨sw,Al⟩:=ea
   obtain⟨hm,ss⟩:=oi aY
   have ri:=eH.ok.gx k hk
   have JX:fE e i.bd=true:=by rw [rM];exact ss
   rw [Tq JX] at g8 Al
   have bR:(eJ (fg cN k (dm (cN k) i.bd))++[i]).Perm (eJ cN):=by
    have bc:=pY (ls:=fg cN k (dm (cN k) i.bd)) hk i;rw [jm,uP] at bc;refine bc.trans (yJ fun j aF=>?_);by_cases av:j=k
    ·subst av;rw [jm];exact wV ri hm (om _)
    rw [jW av]
   have g:=g8.to (Ib bR) (Ic bR) (RR bR)
   refine⟨wC.trans sw.symm,.inl ⟨sw,_,_,_,g,.del hk hm,eH.Kx (Int.le_refl _) hk g Al (Nat.le_trans (Is _ _) ft) (fun c ai=>eH.arg k hk c (ng.1 ai).1) (fun x j aF=>?_),by omega⟩⟩
   have:=eH.quo x j aF
   rw [← pf bR,← rH] at this
   unfold bump at this
   by_cases av:x=i.dA
   ·rw [if_pos av,← av] at this;omega
   rw [if_neg av] at this;exact this
theorem ad1 (hs:cR s)(aI:my s)(h:lC s hp P cN next js)(eH:ku s cN next y)(aF:js.length≤1000)(aQ:next<100000)(c:du)(ai:h7 c):
 c9 (Ee hp (some P.x) y c) (fun r=>r.1=true∧h7 r.2.2.2.1∧xI s P cN next js y (if r.2.1=true then 0 else 1) (if r.2.1=true then 0 else 1) r.2.2.1 r.2.2.2.2):=by
 unfold Ee
 have ajZ:=eH.r.len eH.ok
 refine .hZ (gZ c 4 ai (by omega)) fun aq h1=>?_
 rw [eH.r.pN]
 refine .hZ (br.par (aaM aq.2 aq.1 h1.1 hs) (aa6 aq.2 hs aq.1)) fun aD ae=>?_
 obtain⟨⟨c2,bK,de,_,rm⟩,oz⟩:=ae
 refine .bind (P:=fun bh=>h7 bh.2∧ (bh.1=true→0<y.bW.length)) (.cond (fun ao=>?_) fun _=>.ret ⟨c2,fun cB=>by cases cB⟩) fun bh aA=>?_
 ·exact .of ((pg _ c2).mono fun r aI=>⟨aI,fun _=>by simp at ao;exact ao⟩)
 refine .hZ (P:=fun m=>h7 m.1∧ ∃ k,k<4∧gp s k m.2∧nq m.2) (.cond (fun hb=>?_) fun _=>.ret ⟨aA.1,bK,de,rm,oz⟩) fun m1 cP=>?_
 ·simp only [Bool.and_eq_true] at hb
  have alh:=aA.2 hb.2
  refine .bind (gZ _ _ aA.1 (by omega)) fun j1 ux=>.eq (uZ ux.2.1 ux.2.2.1) ?_
  have O1:j1.1.toNat<y.bW.length:=by have:=ux.2.1;have:=ux.2.2.1;omega
  obtain⟨P3,PB,aj0,GL⟩:=eH.r.ej eH.ok (Bx O1)
  have aj1:=(eH.arg P3 PB _ aj0).1
  refine .bind (P:=fun m=> ∃ k,k<4∧gp s k m∧nq m) (.cond (fun _=>.eq rfl (.ret ⟨P3,PB,?_,oz⟩)) fun _=>.ret ⟨P3,PB,GL.ej,aj1⟩) fun m hm=>.ret ⟨ux.1,hm⟩
  exact⟨GL.ej.gG,GL.ej.len,GL.ej.CL,rm.args,GL.ej.pri⟩
 obtain⟨aj2,k,hk,he,a7⟩:=cP
 refine .hZ (gZ _ 12 aj2 (by omega)) fun cy bc=>.hZ (P:=fun m=>m.b3=9∨ (gp s k m∧nq m)) (.cond (fun _=>.ret (.inl rfl)) fun _=>.ret (.inr ⟨he,a7⟩)) fun m2 dT=>?_
 refine .hZ (gZ _ 5 bc.1 (by omega)) fun cr bs=>.hZ (P:=fun _=>True) (.cond (fun _=>.ret trivial) fun _=>.bind (P:=fun _=>True) (.cond (fun _=>.ret trivial) fun _=>.ret trivial) fun _ _=>.ret trivial) fun m3 _=>?_
 have fin:∀ (a b:Int) (nF:cW) (hp':aC Cell) (hz:du),h7 hz→xI s P cN next js y a b nF hp'→ (a==b)=true∧h7 hz∧xI s P cN next js y (if (b==0)=true then 0 else 1) (if (b==0)=true then 0 else 1) nF hp':=fun a b nF hp' hz oK hd=>by
  refine⟨by simp [hd.1],oK,rfl,?_⟩;by_cases e:b=0
  ·rw [if_pos (by simp [e])];rcases hd.2 with h1 | h1
   ·exact .inl ⟨rfl,h1.2⟩
   exact absurd e h1.1
  rw [if_neg (by simp [e])];rcases hd.2 with h1 | h1
  ·exact absurd h1.1 e
  exact .inr ⟨by simp,h1.2⟩
 refine .bind (P:=fun m4=>h7 m4.2.2.1∧xI s P cN next js y m4.1 m4.2.1 m4.2.2.2.1 m4.2.2.2.2) (.cond (fun _=>?_) fun _=>.bind (P:=fun m5=>xI s P cN next js y m5.1 m5.2.1 m5.2.2.1 m5.2.2.2) (.cond (fun _=>?_) fun _=>?_) fun m5 bc=>.ret ⟨bs.1,bc⟩) fun m4 aV=>.ret (fin _ _ _ _ _ aV.1 aV.2)
 ·refine .hZ (gZ _ 5 bs.1 (by omega)) fun cC df=>.eq (uZ df.2.1 (by simpa using df.2.2.1)) ?_
  rcases dT with dT | ⟨dT,oz⟩
  ·refine .bind (aba h dT _) fun cL dz=>.hZ (ZW hs eH.r.pN (by omega) dT _) fun dR ea=>.ret ?_
   subst dz ea
   exact⟨df.1,rfl,.inr ⟨by simp,h,rfl⟩⟩
  have hd:=agq hs aI h eH aF aQ hk dT oz (aE ([1,1,2,7,5]:List Int) cC.1.toNat)
  exact fun Q Ha=>hd (fun r=>Q (r.1.1,r.2.1,cC.2,r.2.2,r.1.2)) fun r aI=>Ha _ ⟨df.1,aI⟩
 ·rcases dT with dT | ⟨dT,oz⟩
  ·refine .bind (abc h dT) fun cL dz=>.hZ (ZX hs eH.r.pN dT) fun dR ea=>.ret ?_
   obtain⟨z,dR⟩:=dR
   simp only at ea;subst dz ea
   exact⟨rfl,.inr ⟨by simp,h,rfl⟩⟩
  have hd:=agr hs aI h eH aF hk dT oz
  exact fun Q Ha=>hd (fun r=>Q (r.1.1,r.2.2.1,r.2.2.2,r.1.2)) fun r aI=>Ha _ aI
 rcases dT with dT | ⟨dT,oz⟩
 ·refine .bind (abb h dT) fun cL dz=>.hZ (ZY hs eH.r.pN dT) fun dR ea=>.ret ?_
  obtain⟨z,dR⟩:=dR
  simp only at ea;subst dz ea
  exact⟨rfl,.inr ⟨by simp,h,rfl⟩⟩
 have hd:=ags hs aI h eH aF hk dT
 exact fun Q Ha=>hd (fun r=>Q (r.1.1,r.2.2.1,r.2.2.2,r.1.2)) fun r aI=>Ha _ aI
end
section
variable {s:aZ} {hp:aC Cell} {P:uA} {ls cN:Nat→List az} {next:Int} {js:List gf} {ys:List cW} {y:cW} {kN:Nat}
theorem RS (h:lC s hp P cN next js):Ao hp (some P.x)=some (some P.t):=by
 obtain⟨a,b,h1⟩:=h.st;refine br.get ?_;unfold Ao;exact .cond (fun ai=>by cases ai) fun _=>.eq rfl (.eq h1 (.ret rfl))
theorem ad2 (h:lC s hp P cN next js):Dr hp (some P.x)=some next:=by
 refine br.get ?_;unfold Dr;exact .eq (RS h) (.eq (acR h.lv.ok) (.ret rfl))
theorem agt (hs:cR s)(h:lC s hp P cN next js)(eH:ku s cN next y):c9 (DK hp (some P.x)) (fun r=>r=(y.bW,hp)):=by
 unfold DK;refine .eq (RS h) (.bind (adV hs h.lv.ok eH.r eH.ok) fun r aI=>.ret ?_);subst aI;rfl
theorem ad3 (hs:cR s)(h:lC s hp P cN next js):Dq hp (some P.x)=some [⟨1,fw (eJ cN) 1⟩,⟨2,fw (eJ cN) 2⟩,⟨7,fw (eJ cN) 7⟩]:=by
 obtain⟨a,b,h1⟩:=h.st;refine br.get ?_;unfold Dq;exact .cond (fun ai=>by cases ai) fun _=>.eq rfl (.eq h1 ((agp hs h.quo).bind fun r aI=>.ret aI))
theorem Vm (hs:cR s)(aI:my s):ku s (fun _=>[]) 1 ⟨s,[],1⟩:=by
 refine⟨⟨rfl,rfl,.nil,.refl _⟩,⟨fun k hk=>⟨⟨fun i au=>by simp at au,.nil,by simp⟩,.nil⟩,fun k hk=>by simp⟩,fun k hk i au=>by simp at au,fun x j aF=>?_,by simp⟩;have:=aI.quo _ (Bx (show j<s.eR.length by rw [hs.pD];exact zm aF));exact this
theorem T4 (hs:cR s)(aI:my s)(h:lC s hp P cN 1 [])(eH:ku s cN 1 y)(he:mS cN fun _=>[]):
 c9 (sC hp (some P.x) CQ 1) (fun r=>r.1=0∧ ∃ l3 hQ nF,lC s r.2 P hQ 2 [l3]∧x3 s P.x cN 1 l3 hQ 2∧ku s hQ 2 nF):=by
 have qi:∀ k,k<4→cN k= []:=fun k hk=>(he k hk).eq_nil
 have vC:eJ cN= []:=by unfold eJ;rw [qi 0 (by decide),qi 1 (by decide),qi 2 (by decide),qi 3 (by decide)];rfl
 have aY:dE (cN 0) CQ=none:=by rw [qi 0 (by decide)];rfl
 have ed: ¬ (aE s.bQ 0).hG≤ ((cN 0).length:Int):=by
  have:=(hs.size (k:=0) (by decide)).1;rw [qi 0 (by decide)];simp;omega
 have kG:room s (fw (eJ cN)) 1=true:=by
  rw [vC];show decide ((0:Int)<(aE s.eR 0).iK)=true;rw [aI.all];decide
 have aQ:(dE (cN 0) CQ).isSome=false:=by rw [aY];rfl
 refine(SC hs aI h (eH.G9 aI (by simp)) (k:=0) (by decide) (M9 hs) (fun cB=>by rcases cB with cB | cB <;> cases cB) 1 (fun i au=>by rw [qi 0 (by decide)] at au;cases au) (by rw [qi 0 (by decide)];decide) ⟨by omega,by omega⟩).mono fun r dz=>?_
 obtain⟨Al,sw,ea⟩:=Rr hs eH.r eH.ok (k:=0) (by decide) (M9 hs) 1 ⟨by omega,by omega⟩
 rw [if_neg (by rw [aQ];simp),if_neg ed,if_pos kG] at dz ea
 obtain⟨wC,g8⟩:=dz
 have hp:=pY (ls:=cN) (k:=0) (by decide) ({ bd:=CQ,b8:=1,dA:=1 } :az)
 have g:=g8.to (Bp.trans (Bn hp)) (Bq.trans (Bo hp)) (rH.trans (pf hp))
 refine⟨wC,_,_,_,g,.ins (k:=0) (i:=⟨CQ,1,1⟩) (by decide) ⟨M9 hs⟩ (fun cB=>by rcases cB with cB | cB <;> cases cB) aY,eH.Kx (by omega) (by decide) g ea.2 (by rw [qi 0 (by decide)];simp) (fun i au=>?_) fun x j aF=>?_⟩
 ·rw [qi 0 (by decide),List.nil_append,List.mem_singleton] at au
  subst au
  exact⟨fun cB=>(by rcases cB with cB | cB <;> cases cB),rfl,by simp only;omega⟩
 rw [← pf hp,← rH,vC]
 unfold bump
 by_cases av:x=1
 ·subst av
  cases aF
  rw [if_pos rfl,aI.all];decide
 rw [if_neg av]
 have:=aI.quo _ (Bx (show j<s.eR.length by rw [hs.pD];exact zm aF))
 exact this
theorem abd (hp:aC Cell):c9 (Eb hp) (fun r=>r.1=true):=by
 unfold Eb;refine .hZ (Mu [] 0 (by omega) (by omega)) fun aq h1=>.hZ (br.par (Rj aq h1) (Rp aq)) fun aD ae=>?_;obtain⟨⟨hs,_⟩,aI⟩:=ae;refine .bind (Vl hs aI hp) fun bh aA=>?_;obtain⟨P,c0,g0⟩:=aA;obtain⟨ali,ig⟩:=bh;simp only at c0 g0;subst c0;refine .eq rfl ?_;have cT:=Vm hs aI;refine .bind (T4 hs aI g0 cT .refl) fun bL aV=>?_;obtain⟨gb,l3,cN,nF,g1,aku,s1⟩:=aV;have c1:pb aD.1 P.x [l3] [⟨aD.1,[],1⟩,nF] cN 2:= .snoc (js:= []) (ys:= [⟨aD.1,[],1⟩]) (.nil cT) .refl aku s1;refine .bind (ad0 hs aI g1 (by simp) c1 .refl 0) fun cy bc=>?_;obtain⟨fI,ls',qI,g2,c2,bB⟩:=bc;have g2:lC aD.1 cy P fI qI []:=g2;have c2:pb aD.1 P.x [] [⟨aD.1,[],1⟩] ls' qI:=c2;have eH:ku aD.1 ls' qI ⟨aD.1,[],1⟩:=c2.last;have h3:qI=1:=eH.r.num.symm;subst h3;have Gd:mS ls' fun _=>[]:=by
  have h:=eH.r.rn;intro k hk;have qi:eJ ls'= []:=h.symm.eq_nil;have:ls' k= []:=by
   cases ao:ls' k with
   | nil=>rfl
   | cons i r=>
     have:i∈eJ ls':=It.2 ⟨k,hk,by rw [ao];exact List.mem_cons_self⟩
     rw [qi] at this;cases this
  rw [this]
 refine .bind (T4 hs aI g2 (eH.perm bB) (bB.trans Gd)) fun cr bs=>?_;obtain⟨la,aj3,alj,alk,g6,_,_⟩:=bs;obtain⟨akv,akw,aj4⟩:=g6.st;rw [gb,la];refine .eq (a:=P.x) rfl (.eq (a:=(⟨some P.t,some P.r,some P.q,[aj3]⟩,akv,akw)) (by unfold cX;exact(if_pos (by rfl)).trans aj4) (.eq (a:=(1:Int)) rfl (.eq (a:=(2:Int)) ?_ (.ret rfl))));unfold cX;exact(if_pos (by rfl)).trans (ad2 g6)
theorem Vn {a b c:hR}{j:Nat}(aF:j<3):aE [a,b,c] j=if j=0 then a else if j=1 then b else c:=by
 have:j=0∨j=1∨j=2:=by omega
 rcases this with rfl | rfl | rfl <;> rfl
theorem ab6 (hp:aC Cell)(J ah:List (BitVec 8)):c9 (Dm hp J ah) (fun r=>r.1=true):=by
 unfold Dm;refine .hZ (Mu J 120 (by omega) (by omega)) fun aq h1=>.hZ (br.par (Rj aq h1) (Rp aq)) fun aD ae=>.hZ (Mu ah 220 (by omega) (by omega)) fun bh aA=>?_;obtain⟨⟨hs,_⟩,aI⟩:=ae;refine .bind (Vl hs aI hp) fun bL aV=>?_;obtain⟨P,gb,g0⟩:=aV;obtain⟨alm,uo⟩:=bL;simp only at gb g0;subst gb;refine .eq (a:=⟨aD.1,[],1⟩) rfl ?_;have cT:=Vm hs aI;refine .bind (P:=fun av=> ∃ q,av= .inl q) (c9.loop 20 (fun i st=>st.1=(i:Int)∧h7 st.2.2.1∧ ∃ cN next js,lC aD.1 st.2.2.2 P cN next js∧ku aD.1 cN next st.2.1∧js.length≤i∧next≤ (i:Int)+1) (by omega) ⟨rfl,aA,_,_,_,g0,cT,by simp,by omega⟩ (fun i st au dk=>?_) (fun st dk=>?_)) fun av he=>?_
 ·obtain⟨tB,y,c,bR⟩:=st;obtain⟨Hb,ai,cN,next,js,g,eH,aF,aQ⟩:=dk;simp only at Hb ai g eH;subst Hb;refine .cX (P:=fun _=>True) (fun _=>Sd _) fun cr _=>.cond (fun _=>?_) fun _=>.ret ⟨_,rfl⟩;refine .bind (ad1 hs aI g eH (by omega) (by omega) c ai) fun cC df=>?_;obtain⟨Aj,sv,_,df⟩:=df;rw [Aj];refine .cond (fun cB=>by cases cB) fun _=>?_;have key:∃ hQ next' js',lC aD.1 cC.2.2.2.2 P hQ next' js'∧ku aD.1 hQ next' cC.2.2.1∧js'.length≤i+1∧next'≤ (i:Int)+1+1:=by
   rcases df with⟨_,l3,hQ,next',eG,_,cD,pH⟩ | ⟨_,eG,e'⟩
   ·exact⟨hQ,next',_,eG,cD,by rw [List.length_append];simp;omega,by omega⟩
   exact⟨cN,next,js,eG,by rw [e'];exact eH,by omega,by omega⟩
  obtain⟨hQ,next',js',eG,cD,sm,pH⟩:=key;refine .bind (agt hs eG cD) fun cL dz=>?_;subst dz;refine .eq (ad3 hs eG) ?_;have ajZ:=cD.r.len cD.ok;have iT:∀ x,0≤fw (eJ hQ) x∧fw (eJ hQ) x≤48:=fun x=>by
   have ae:=cD.JW;have aA:(eJ hQ).countP (fun i=>i.dA==x)≤_:=List.countP_le_length;unfold fw;omega
  refine .hZ (P:=fun aX=> ∃ q,aX= .inl q) (br.nT 3 (fun j st=>st=(j:Int)) (by omega) rfl (fun j st aF st2=>?_) (fun st st2=>?_)) fun aX rm=>?_
  ·subst st2;refine .cond (fun _=>.idx rfl (by simpa using aF) ?_) fun cB=>by simp at cB;omega
   refine .bind (P:=fun c0=>c0.1=fw cC.2.2.1.bW (aE [(1:Int),2,7] j)) (br.nT cC.2.2.1.bW.length (fun z st=>st=(fw (cC.2.2.1.bW.take z) (aE [(1:Int),2,7] j),(z:Int))) (by omega) rfl (fun z st cJ st2=>?_) (fun st st2=>?_)) fun c0 WV=>?_
   ·subst st2;have hle:(cC.2.2.1.bW.take z).countP (fun i=>i.dA==aE [(1:Int),2,7] j)≤1000:=Nat.le_trans List.countP_le_length (by rw [List.length_take];omega);have agu:(aE [(⟨1,fw (eJ hQ) 1⟩:hR),⟨2,fw (eJ hQ) 2⟩,⟨7,fw (eJ hQ) 7⟩] j).w7=aE [(1:Int),2,7] j:=by
     rw [Vn aF];have:j=0∨j=1∨j=2:=by omega
     rcases this with rfl | rfl | rfl <;> rfl
    rw [agu];refine .cond (fun _=>.idx rfl cJ (.bind (P:=fun m=>m=fw (cC.2.2.1.bW.take (z+1)) (aE [(1:Int),2,7] j)) (.cond (fun ai=>.ret ?_) fun ai=>.ret ?_) fun m hm=>.ret (by rw [hm,fH (by omega)]))) fun ai=>by simp at ai;omega
    ·rw [nI _ cJ];unfold fw;rw [List.countP_append,List.countP_singleton,ai];exact fH (by omega)
    rw [nI _ cJ];unfold fw;rw [List.countP_append,List.countP_singleton,ai];rfl
   ·subst st2;refine .cond (fun ai=>by simp at ai) fun _=>.ret ?_;show fw (List.take _ _) _=_;rw [List.take_length]
   have ad4:(aE [(⟨1,fw (eJ hQ) 1⟩:hR),⟨2,fw (eJ hQ) 2⟩,⟨7,fw (eJ hQ) 7⟩] j).wY=c0.1:=by
    rw [WV,pf cD.r.rn,Vn aF];have:j=0∨j=1∨j=2:=by omega
    rcases this with rfl | rfl | rfl <;> rfl
   have cJ:((aE [(⟨1,fw (eJ hQ) 1⟩:hR),⟨2,fw (eJ hQ) 2⟩,⟨7,fw (eJ hQ) 7⟩] j).wY !=c0.1||decide ((j:Int)≥ (aD.1.eR.length:Int)))=false:=by
    rw [ad4,hs.pD];simp;omega
   rw [cJ];refine .eq rfl (.eq (a:=j) (by unfold cX;rw [if_pos rfl];exact oV (by rw [hs.pD];exact aF)) (.cond (fun ai=>?_) fun _=>.ret (fH (by omega))));have hq:=cD.quo (aE [(1:Int),2,7] j) j ((xi aF).1 rfl);rw [WV,pf cD.r.rn] at ai;simp only [Bool.false_or,decide_eq_true_eq] at ai;omega
  ·subst st2;exact .cond (fun ai=>by simp at ai) fun _=>.ret ⟨_,rfl⟩
  obtain⟨q,rfl⟩:=rm;exact .ret ⟨fH (by omega),sv,hQ,next',js',eG,cD,sm,pH⟩
 ·obtain⟨tB,y,c,bR⟩:=st;obtain⟨Hb,ai,cN,next,js,g,eH,aF,aQ⟩:=dk;simp only at Hb ai g eH;subst Hb;refine .cX (P:=fun _=>True) (fun _=>Sd _) fun cr _=>.cond (fun ai=>by simp at ai) fun _=>.ret ⟨_,rfl⟩
 obtain⟨q,rfl⟩:=he;simp only [Sum.elim_inl];exact .bind (abd _) fun r aI=>.ret aI
theorem abe (J ah:List (BitVec 8)):Dm [] J ah (fun r=>r.1=true):=(ab6 [] J ah).run
end
end Go.Proofs.YtppgfphgdogpeaaGreat
