/-
  What the programs compute, in plain Lean. Conditions: none.
-/
import Derived.Test.YtelbhaohleeijaaGreatMp0
import Derived.Test.YtelbhaohleeijaaGreatMl2
set_option linter.unusedVariables false
set_option linter.unusedSimpArgs false
set_option maxRecDepth 100000
namespace Go.Proofs.YtelbhaohleeijaaGreat
open Go Gv
structure k9 {α:Type}(f:α→α→Int):Prop where
 neg:∀ x y,f x y<0↔0<f y x
 nb:∀ x y z,f x y≤0→f y z≤0→f x z≤0
theorem k9.self {α:Type}{f:α→α→Int}(h:k9 f)(x:α):f x x=0:=by have:=h.neg x x;omega
theorem k9.on {α β:Type}{f:β→β→Int}(h:k9 f)(g:α→β):k9 (fun x y=>f (g x) (g y)):=⟨fun x y=>h.neg _ _,fun x y z=>h.nb _ _ _⟩
theorem k9.rev {α:Type}{f:α→α→Int}(h:k9 f):k9 (fun x y=>f y x):=⟨fun x y=>h.neg y x,fun x y z h1 ad=>h.nb z y x ad h1⟩
def jF {α:Type}(f g:α→α→Int)(x y:α):Int:=if f x y=0 then g x y else f x y
theorem wq {α:Type}{f g:α→α→Int}{x y:α}(h:jF f g x y=0):f x y=0∧g x y=0:=by
 unfold jF at h;split at h
 ·rename_i e;exact⟨e,h⟩
 rename_i e;exact absurd h e
theorem k9.jF {α:Type}{f g:α→α→Int}(h:k9 f)(k:k9 g):k9 (Go.Proofs.YtelbhaohleeijaaGreat.jF f g) where
 neg x y:=by
  unfold Go.Proofs.YtelbhaohleeijaaGreat.jF;have h1:=h.neg x y;have ad:=h.neg y x;by_cases e:f x y=0
  ·rw [if_pos e,if_pos (by omega)];exact k.neg x y
  rw [if_neg e,if_neg (by omega)];exact h1
 nb x y z:=by
  unfold Go.Proofs.YtelbhaohleeijaaGreat.jF;intro h1 ad;have dn:f x y≤0:=by by_cases e:f x y=0 <;> simp [e] at h1 <;> omega
  have a2:f y z≤0:=by by_cases e:f y z=0 <;> simp [e] at ad <;> omega
  have a3:=h.nb x y z dn a2;by_cases e:f x z=0
  ·have vF:f z x≤0:=by have:=h.neg x z;have:=h.neg z x;omega
   have dM:=h.nb z x y vF dn;have eC:=h.nb y z x a2 vF;have c1:f y z=0:=by have:=h.neg y z;omega
   have c2:f x y=0:=by have:=h.neg x y;omega
   rw [if_pos c2] at h1;rw [if_pos c1] at ad;rw [if_pos e];exact k.nb x y z h1 ad
  rw [if_neg e];exact a3
theorem SX {x y:Int} :fm x y<0↔x<y:=by unfold fm;split <;> (try split) <;> omega
theorem C8 {x y:Int} :0<fm x y↔y<x:=by unfold fm;split <;> (try split) <;> omega
theorem nf {x y:Int} :fm x y=0↔x=y:=by unfold fm;split <;> (try split) <;> omega
theorem sZ:k9 fm:=⟨fun x y=>by rw [SX,C8],fun x y z h1 ad=>by
 have a:= @C8 x y;have b:= @C8 y z;have c:= @C8 x z;omega⟩
def lc {α:Type}(g:α→α→Int):List α→List α→Int
 | [],[]=>0
 | [],_::_=> -1
 | _::_,[]=>1
 | a::r,b::t=>if g a b=0 then lc g r t else g a b
theorem Ri {α:Type}{g:α→α→Int}(h:k9 g):∀ (x y:List α),lc g x y<0↔0<lc g y x
 | [],[]=>by simp [lc]
 | [],_::_=>by simp [lc]
 | _::_,[]=>by simp [lc]
 | a::r,b::t=>by
   have h1:=h.neg a b;have ad:=h.neg b a;unfold lc;by_cases e:g a b=0
   ·rw [if_pos e,if_pos (by omega)];exact Ri h r t
   rw [if_neg e,if_neg (by omega)];exact h1
theorem SY {α:Type}{g:α→α→Int}(h:k9 g):∀ (x y z:List α),lc g x y≤0→lc g y z≤0→lc g x z≤0
 | [],_,[],_,_=>by simp [lc]
 | [],_,_::_,_,_=>by simp [lc]
 | _::_,[],_,h1,_=>by simp [lc] at h1
 | _::_,_::_,[],_,ad=>by simp [lc] at ad
 | a::r,b::t,c::u,h1,ad=>by
   unfold lc at h1 ad ⊢;have dn:g a b≤0:=by by_cases e:g a b=0 <;> simp [e] at h1 <;> omega
   have a2:g b c≤0:=by by_cases e:g b c=0 <;> simp [e] at ad <;> omega
   have a3:=h.nb a b c dn a2;by_cases e:g a c=0
   ·have vF:g c a≤0:=by have:=h.neg a c;have:=h.neg c a;omega
    have dM:=h.nb c a b vF dn;have eC:=h.nb b c a a2 vF;have c1:g b c=0:=by have:=h.neg b c;omega
    have c2:g a b=0:=by have:=h.neg a b;omega
    rw [if_pos c2] at h1;rw [if_pos c1] at ad;rw [if_pos e];exact SY h r t u h1 ad
   rw [if_neg e];exact a3
theorem KO {α:Type}{g:α→α→Int}(h:k9 g):k9 (lc g):=⟨Ri h,SY h⟩
theorem JK {α:Type}{g:α→α→Int}(h:∀ a b,g a b=0→a=b):∀ {x y:List α},lc g x y=0→x=y
 | [],[],_=>rfl
 | [],_::_,e=>by simp [lc] at e
 | _::_,[],e=>by simp [lc] at e
 | a::r,b::t,e=>by
   unfold lc at e;split at e
   ·rename_i aw;rw [h a b aw,JK h e]
   rename_i aw;exact absurd e aw
def gB (v:au):Int:=((v.cZ.toNat * 18446744073709551616+v.bS.toNat:Nat):Int)
theorem zd {x y:au}(h:gB x=gB y):x=y:=by
 obtain⟨a,b⟩:=x;obtain⟨c,d⟩:=y;unfold gB at h;simp only at h;first
 | (have h1:=a.isLt;have ad:=b.isLt;have aD:=c.isLt;have aZ:=d.isLt
    have aw:a=c:=BitVec.eq_of_toNat_eq (by omega)
    have aX:b=d:=BitVec.eq_of_toNat_eq (by omega)
    rw [aw,aX])
theorem Qb (x y:au):pL x y=some (fm (gB x) (gB y)):=by
 unfold pL;by_cases e:x=y
 ·subst e;simp only [decide_true,cond_true];rw [nf.2 rfl]
 simp only [e,decide_false,cond_false,Option.bind_some];have da:gB x≠gB y:=fun h=>e (zd h);have ct:((decide (x.cZ<y.cZ))||((x.cZ==y.cZ)&&(decide (x.bS<y.bS))))=decide (gB x<gB y):=by
  rw [Bool.eq_iff_iff];simp only [Bool.or_eq_true,Bool.and_eq_true,decide_eq_true_eq,beq_iff_eq,BitVec.lt_def];unfold gB;have h1:=x.cZ.isLt;have ad:=x.bS.isLt;have aD:=y.cZ.isLt;have aZ:=y.bS.isLt;constructor
  ·rintro (h | ⟨h,df⟩)
   ·omega
   rw [h];omega
  intro h;by_cases cu:x.cZ.toNat<y.cZ.toNat
  ·exact .inl cu
  have:x.cZ.toNat=y.cZ.toNat:=by omega
  exact .inr ⟨BitVec.eq_of_toNat_eq this,by omega⟩
 rw [ct];unfold fm;by_cases a6:gB x<gB y
 ·simp [a6]
 rw [decide_eq_false a6,if_neg a6,if_pos (by omega)];rfl
def lR:List Int→Int
 | []=>0
 | a::r=>if a=0 then lR r else a
theorem OS {l:List Int}(al:l.length≤1000):sr l=some (lR l):=by
 refine bs.get ?_;unfold sr;refine .bind (P:=fun e=>(∃ q,e= .inl q∧lR l=0)∨ ∃ q:Int×Int×Int×Bool×Bool,e= .inr q∧q.1=lR l)
  (bs.sY l.length (fun j st=>st=(j:Int)∧lR l=lR (l.drop j)) (by omega) ⟨rfl,rfl⟩ (fun j st aF hs=>?_) (fun st hs=>?_)) fun e he=>?_
 ·obtain⟨rfl,hs⟩:=hs;rw [List.drop_eq_getElem_cons aF] at hs;have hs:lR l=if l[j]=0 then lR (l.drop (j+1)) else l[j]:=hs;refine .cond (fun _=>.idx rfl aF ?_) fun aj=>by simp at aj;omega
  rw [eU _ aF];refine .cond (fun aj=>.ret (.inr ⟨_,rfl,?_⟩)) fun aj=>.ret ⟨e0 (by omega),?_⟩
  ·have:l[j]≠0:=by simpa using aj
   rw [hs,if_neg this]
  have:l[j]=0:=by simpa using aj
  rw [hs,if_pos this]
 ·obtain⟨rfl,hs⟩:=hs;refine .cond (fun aj=>by simp at aj) fun _=>.ret (.inl ⟨_,rfl,?_⟩);rw [hs,List.drop_length];rfl
 rcases he with⟨q,rfl,hq⟩ | ⟨q,rfl,hq⟩
 ·simp only [Sum.elim_inl];exact .ret hq.symm
 simp only [Sum.elim_inr];exact .ret hq
theorem Vv {g:b5→b5→Int}{f:b5→b5→Option Int}(bb:∀ a b,f a b=some (g a b)){xs ys:List b5}(ao:xs.length≤100000)(a7:ys.length≤100000):Ap xs ys f=some (lc g xs ys):=by
 refine bs.get ?_;unfold Ap;refine .bind (P:=fun e=>(∃ q,e= .inl q∧lc g xs ys=if xs.length<ys.length then -1 else 0)∨ ∃ q:Int×Int×Int×Bool×Bool,e= .inr q∧q.1=lc g xs ys)
  (bs.sY xs.length (fun j st=>st=(j:Int)∧j≤ys.length∧lc g xs ys=lc g (xs.drop j) (ys.drop j)) (by omega) ⟨rfl,by omega,rfl⟩ (fun j st aF hs=>?_) (fun st hs=>?_)) fun e he=>?_
 ·obtain⟨rfl,xP,hs⟩:=hs;refine .cond (fun _=>.idx rfl aF (.cond (fun aj=>.ret (.inr ⟨_,rfl,?_⟩)) fun aj=>?_)) fun aj=>by simp at aj;omega
  ·have aj:ys.length≤j:=by simpa using aj
   rw [hs,List.drop_eq_getElem_cons aF,List.drop_eq_nil_of_le aj];rfl
  have ct:j<ys.length:=by simpa using aj
  rw [List.drop_eq_getElem_cons aF,List.drop_eq_getElem_cons ct] at hs;refine .idx rfl ct (.eq (bb _ _) ?_);rw [eU _ aF,eU _ ct];have hs:lc g xs ys=if g xs[j] ys[j]=0 then lc g (xs.drop (j+1)) (ys.drop (j+1)) else g xs[j] ys[j]:=hs;refine .cond (fun aj=>.ret (.inr ⟨_,rfl,?_⟩)) fun aj=>.ret ⟨e0 (by omega),ct,?_⟩
  ·have:g xs[j] ys[j]≠0:=by simpa using aj
   rw [hs,if_neg this]
  have:g xs[j] ys[j]=0:=by simpa using aj
  rw [hs,if_pos this]
 ·obtain⟨rfl,xP,hs⟩:=hs;refine .cond (fun aj=>by simp at aj) fun _=>.ret (.inl ⟨_,rfl,?_⟩);rw [hs,List.drop_length];cases hd:ys.drop xs.length with
  | nil=>
    have:=List.drop_eq_nil_iff.1 hd
    rw [if_neg (by omega)];rfl
  | cons z tJ=>
    have:ys.length - xs.length=tJ.length+1:=by rw [← List.length_drop,hd];rfl
    rw [if_pos (by omega)];rfl
 rcases he with⟨q,rfl,hq⟩ | ⟨q,rfl,hq⟩
 ·simp only [Sum.elim_inl];refine .cond (fun aj=>.ret ?_) fun aj=>.ret ?_
  ·rw [hq,if_pos (by simpa using aj)]
  rw [hq,if_neg (by simpa using aj)]
 simp only [Sum.elim_inr];exact .ret hq
theorem Vw {g:au→au→Int}{f:au→au→Option Int}(bb:∀ a b,f a b=some (g a b)){xs ys:List au}(ao:xs.length≤100000)(a7:ys.length≤100000):Aq xs ys f=some (lc g xs ys):=by
 refine bs.get ?_;unfold Aq;refine .bind (P:=fun e=>(∃ q,e= .inl q∧lc g xs ys=if xs.length<ys.length then -1 else 0)∨ ∃ q:Int×Int×Int×Bool×Bool,e= .inr q∧q.1=lc g xs ys)
  (bs.sY xs.length (fun j st=>st=(j:Int)∧j≤ys.length∧lc g xs ys=lc g (xs.drop j) (ys.drop j)) (by omega) ⟨rfl,by omega,rfl⟩ (fun j st aF hs=>?_) (fun st hs=>?_)) fun e he=>?_
 ·obtain⟨rfl,xP,hs⟩:=hs;refine .cond (fun _=>.idx rfl aF (.cond (fun aj=>.ret (.inr ⟨_,rfl,?_⟩)) fun aj=>?_)) fun aj=>by simp at aj;omega
  ·have aj:ys.length≤j:=by simpa using aj
   rw [hs,List.drop_eq_getElem_cons aF,List.drop_eq_nil_of_le aj];rfl
  have ct:j<ys.length:=by simpa using aj
  rw [List.drop_eq_getElem_cons aF,List.drop_eq_getElem_cons ct] at hs;refine .idx rfl ct (.eq (bb _ _) ?_);rw [eU _ aF,eU _ ct];have hs:lc g xs ys=if g xs[j] ys[j]=0 then lc g (xs.drop (j+1)) (ys.drop (j+1)) else g xs[j] ys[j]:=hs;refine .cond (fun aj=>.ret (.inr ⟨_,rfl,?_⟩)) fun aj=>.ret ⟨e0 (by omega),ct,?_⟩
  ·have:g xs[j] ys[j]≠0:=by simpa using aj
   rw [hs,if_neg this]
  have:g xs[j] ys[j]=0:=by simpa using aj
  rw [hs,if_pos this]
 ·obtain⟨rfl,xP,hs⟩:=hs;refine .cond (fun aj=>by simp at aj) fun _=>.ret (.inl ⟨_,rfl,?_⟩);rw [hs,List.drop_length];cases hd:ys.drop xs.length with
  | nil=>
    have:=List.drop_eq_nil_iff.1 hd
    rw [if_neg (by omega)];rfl
  | cons z tJ=>
    have:ys.length - xs.length=tJ.length+1:=by rw [← List.length_drop,hd];rfl
    rw [if_pos (by omega)];rfl
 rcases he with⟨q,rfl,hq⟩ | ⟨q,rfl,hq⟩
 ·simp only [Sum.elim_inl];refine .cond (fun aj=>.ret ?_) fun aj=>.ret ?_
  ·rw [hq,if_pos (by simpa using aj)]
  rw [hq,if_neg (by simpa using aj)]
 simp only [Sum.elim_inr];exact .ret hq
def lB (m:b5):Int:=if m.ff=true then 1 else 0
theorem aaW (m:b5):yn m=some (lB m):=by
 unfold yn lB;cases m.ff <;> rfl
def nG:b5→b5→Int:=jF (fun x y=>fm (lB x) (lB y)) (jF (fun x y=>fm (gB x.cM) (gB y.cM)) (jF (fun x y=>fm (gB x.fE) (gB y.fE)) (jF (fun x y=>fm x.dK y.dK) (fun x y=>fm (gB x.jr) (gB y.jr)))))
theorem KP:k9 nG:=(sZ.on lB).jF ((sZ.on fun x:b5=>gB x.cM).jF ((sZ.on fun x:b5=>gB x.fE).jF ((sZ.on fun x:b5=>x.dK).jF (sZ.on fun x:b5=>gB x.jr))))
theorem Qc {x y:b5}(h:nG x y=0):x=y:=by
 obtain⟨h1,h⟩:=wq h;obtain⟨ad,h⟩:=wq h;obtain⟨aD,h⟩:=wq h;obtain⟨aZ,bc⟩:=wq h;refine JH ?_ (zd (nf.1 ad)) (zd (nf.1 aD)) (nf.1 aZ) (zd (nf.1 bc));have:=nf.1 h1;unfold lB at this;cases ao:x.ff <;> cases a7:y.ff <;> simp [ao,a7] at this <;> rfl
theorem TB (a b c d e:Int):lR [a,b,c,d,e]=if a=0 then(if b=0 then(if c=0 then(if d=0 then e else d) else c) else b) else a:=by
 have:(if e=0 then 0 else e)=e:=by split <;> omega
 show(if a=0 then(if b=0 then(if c=0 then(if d=0 then(if e=0 then 0 else e) else d) else c) else b) else a)=_;rw [this]
theorem Xk (x y:b5):AP x y=some (nG x y):=by
 unfold AP;by_cases e:x=y
 ·subst e;simp only [decide_true,cond_true];rw [KP.self]
 simp only [e,decide_false,cond_false,aaW,wL,Qb,Option.bind_some];rw [OS (by simp),TB];rfl
def Am:bd→bd→Int:=jF (fun x y=>fm x.dB y.dB) (jF (fun x y=>fm y.fG x.fG) (jF (fun x y=>lc nG x.bY y.bY) (jF (fun x y=>fm x.jd y.jd) (fun x y=>lc (fun v w=>fm (gB v) (gB w)) x.hX y.hX))))
theorem adm:k9 Am:=(sZ.on fun x:bd=>x.dB).jF ((sZ.on fun x:bd=>x.fG).rev.jF (((KO KP).on fun x:bd=>x.bY).jF ((sZ.on fun x:bd=>x.jd).jF ((KO (sZ.on gB)).on fun x:bd=>x.hX))))
theorem adn {x y:bd}(h:Am x y=0):hn x y=true:=by
 obtain⟨h1,h⟩:=wq h;obtain⟨ad,h⟩:=wq h;obtain⟨aD,h⟩:=wq h;exact uF.2 ⟨nf.1 h1,JK (fun a b=>Qc) aD,(nf.1 ad).symm⟩
theorem Z6 {x y:bd}(h1:x.bY.length≤1000)(ad:y.bY.length≤1000)(aD:x.hX.length≤1000)(aZ:y.hX.length≤1000):Bl x y=some (Am x y):=by
 unfold Bl;rw [wL,wL,wL,Vv Xk (by omega) (by omega),Vw Qb (by omega) (by omega)];simp only [Option.bind_some];rw [OS (by simp),TB];rfl
theorem Pt {c:ax→ax→Int}(aj:k9 c):∀ {xs ys:List ax},xs.Perm ys→xs.Pairwise (fun a b=>c a b≤0)→ys.Pairwise (fun a b=>c a b≤0)→ (∀ a∈xs,∀ b∈xs,c a b=0→a=b)→xs=ys
 | [],ys,h,_,_,_=>h.nil_eq
 | x::r,[],h,_,_,_=>by have:=h.length_eq;simp at this
 | x::r,y::t,h,h1,ad,aD=>by
   obtain⟨dn,a2⟩:=List.pairwise_cons.1 h1;obtain⟨dM,eC⟩:=List.pairwise_cons.1 ad;have e:x=y:=by
    have ao:x∈y::t:=h.mem_iff.1 List.mem_cons_self;have a7:y∈x::r:=h.mem_iff.2 List.mem_cons_self;rcases List.mem_cons.1 ao with e | ao
    ·exact e
    rcases List.mem_cons.1 a7 with e | pA
    ·exact e.symm
    refine aD x List.mem_cons_self y a7 ?_;have g1:=dn y pA;have g2:=dM x ao;have:=aj.neg x y;omega
   subst e;rw [Pt aj (List.perm_cons x |>.1 h) a2 eC fun a bo b hb=>aD a (List.mem_cons_of_mem _ bo) b (List.mem_cons_of_mem _ hb)]
theorem JL {hp hp':aY Cell}{root:Ref}{ws:List Bool}{b:Bool}{p q:Nat}{c tP:dX}(bP:oB hp root)(hw:c4 hp root ws=some p)(aj:cU hp p=some c)(hq:bF c.db (fF b)=some q)(oa:cU hp q=some tP)(al:∀ x,bF tP.db (fF x)=none)
 (dd:cU hp' p=some { c with db:=dr c.db (fF b) none }) (hB:∀ x,x≠p→cU hp' x=cU hp x):
 ∀ (a1 us:List Bool) (r:Nat),c4 hp root us=some r→us≠ws++[b]→c4 hp' (some r) a1=if us++a1=ws++[b] then none else c4 hp (some r) a1
 | [],us,r,hu,da=>by
   rw [List.append_nil,if_neg da];rfl
 | x::xs,us,r,hu,da=>by
   obtain⟨M6,tD⟩:=bP.reads us r hu;by_cases pv:r=p
   ·subst pv;have Ml:=bP.inj us ws r hu hw;subst Ml;rw [aj] at tD;cases tD;rw [hW dd,hW aj];simp only;have ct:fF b<2:=by cases b <;> decide
    rw [ig _ _ ct];by_cases xI:x=b
    ·subst xI;rw [if_pos rfl,hq,gQ];by_cases h:xs= []
     ·subst h;rw [if_pos rfl]
     have fU: ¬ us++x::xs=us++[x]:=fun e=>h (by have:=List.append_cancel_left e;simpa using this);rw [if_neg fU];cases xs with
     | nil=>exact absurd rfl h
     | cons y ys=>rw [hW oa,al,gQ]
    have agY: ¬ fF x=fF b:=fun e=>xI (by cases x <;> cases b <;> first | rfl | cases e);have fU:∀ ys,¬ us++x::ys=us++[b]:=fun ys e=>xI (by have:=List.append_cancel_left e;simpa using (List.cons.inj this).1);rw [if_neg agY,if_neg (fU xs)];cases e:bF c.db (fF x) with
    | none=>rw [gQ,gQ]
    | some kz=>
      have mU:c4 hp root (us++[x])=some kz:=by rw [ma,hu,hW aj,e,mE]
      rw [JL bP hw aj hq oa al dd hB xs (us++[x]) kz mU (fU []),List.append_assoc,List.singleton_append,if_neg (fU xs)]
   have h1:cU hp' r=some M6:=by rw [hB r pv];exact tD
   rw [hW h1,hW tD];have afn:us++[x]≠ws++[b]:=fun e=>by
    have:=List.append_inj_left' e rfl;subst this;rw [hu] at hw;cases hw;exact pv rfl
   cases e:bF M6.db (fF x) with
   | none=>rw [gQ,gQ];split <;> rfl
   | some kz=>
     have mU:c4 hp root (us++[x])=some kz:=by rw [ma,hu,hW tD,e,mE]
     rw [JL bP hw aj hq oa al dd hB xs (us++[x]) kz mU afn,List.append_assoc,List.singleton_append]
theorem cut {hp hp':aY Cell}{r:Nat}{ws:List Bool}{b:Bool}{p q:Nat}{c tP:dX}(bP:oB hp (some r))(hw:c4 hp (some r) ws=some p)(aj:cU hp p=some c)(hq:bF c.db (fF b)=some q)(oa:cU hp q=some tP)(al:∀ x,bF tP.db (fF x)=none)(hu:tP.e6=false)
 (dd:cU hp' p=some { c with db:=dr c.db (fF b) none }) (hB:∀ x,x≠p→cU hp' x=cU hp x):
 oB hp' (some r)∧ (∀ a1,c4 hp' (some r) a1=if a1=ws++[b] then none else c4 hp (some r) a1)∧ ∀ a1,cont hp' (some r) a1=cont hp (some r) a1:=by
 have bb:∀ a1,c4 hp' (some r) a1=if a1=ws++[b] then none else c4 hp (some r) a1:=fun a1=>JL bP hw aj hq oa al dd hB a1 [] r rfl (by simp)
 have Mm:c4 hp (some r) (ws++[b])=some q:=by rw [ma,hw,hW aj,hq,mE]
 refine⟨⟨fun a1 x h=>?_,fun a1 cs x h1 ad=>?_,fun a1 x h=>?_⟩,bb,fun a1=>?_⟩
 ·rw [bb] at h
  split at h
  ·cases h
  obtain⟨ke,h1⟩:=bP.reads a1 x h
  by_cases e:x=p
  ·subst e;exact⟨_,dd⟩
  exact⟨ke,by rw [hB x e];exact h1⟩
 ·rw [bb] at h1 ad
  split at h1 <;> split at ad
  ·cases h1
  ·cases h1
  ·cases ad
  exact bP.inj a1 cs x h1 ad
 ·rw [bb] at h
  split at h
  ·cases h
  exact bP.dep a1 x h
 by_cases e:a1=ws++[b]
 ·subst e
  rw [kC (by rw [bb,if_pos rfl]),kk Mm oa,hu];rfl
 have xJ:c4 hp' (some r) a1=c4 hp (some r) a1:=by rw [bb,if_neg e]
 cases h:c4 hp (some r) a1 with
 | none=>rw [kC h,kC (xJ.trans h)]
 | some x=>
   obtain⟨ke,h1⟩:=bP.reads a1 x h
   by_cases eq:x=p
   ·subst eq
    rw [aj] at h1;cases h1
    rw [kk h aj,kk (xJ.trans h) dd]
   rw [kk h h1,kk (xJ.trans h) (by rw [hB x eq];exact h1)]
structure Lh (kR hp:aY Cell)(t:Nat)(g:List Bool→Option Int)(r:Nat):Prop where
 cell:∃ c,ga hp t=some c∧c.fT=32∧c.eg=some r
 tree:oB hp (some r)
 cont:∀ a1,cont hp (some r) a1=g a1
 keeps:fh kR hp (Own kR t)
 own:∀ a1 q,c4 hp (some r) a1=some q→Own kR t q
theorem empty_eq {hp:aY Cell}{p:Nat}{c:dX}(h:cU hp p=some c):yi hp (some p)=some (!c.e6&&decide (c.db=default)):=by
 refine bs.get ?_;unfold yi;refine .eq rfl (.eq h ?_);refine .cH (P:=fun r=>r=p) (fun _=>⟨p,rfl,rfl⟩) fun o h1=>?_;refine .cH (P:=fun r=>r=c) (fun ad=>⟨c,by rw [h1 ad];exact h,rfl⟩) fun c2 ad=>.ret ?_;cases hu:c.e6 with
 | true=>rfl
 | false=>rw [ad (by rw [hu];rfl)]
theorem Yu (v:au)(n:Nat):(dG v n).length=n:=by unfold dG;simp
theorem Yv (v:au){i n:Nat}(h:i≤n):dG v n=dG v i++(dG v n).drop i:=by
 have:dG v i=(dG v n).take i:=by unfold dG;rw [← List.map_take,List.take_range];congr 2;omega
 rw [this,List.take_append_drop]
theorem Gd {hp:aY Cell}{r:Ref}{v:au}{i n:Nat}(h:i≤n){p:Nat}(hp':c4 hp r (dG v n)=some p):∃ q,c4 hp r (dG v i)=some q:=by
 rw [Yv v h,ma] at hp';cases e:c4 hp r (dG v i) with
 | none=>rw [e,gQ] at hp';cases hp'
 | some q=>exact⟨q,rfl⟩
theorem Yw {hp:aY Cell}{t:Nat}{g:List Bool→Option Int}(h:js hp t g){n:Nat}(aO:n≤32){v:au}(a6:∀ j,j<128→cx v j=true→lead 32 n j=true){id:Int}(bH:g (dG v n)=some id):
 bs (yf hp (some t) v n) (fun r=>r.1=true∧js r.2 t (fun a1=>if a1=dG v n then none else g a1)∧fh hp r.2 (Own hp t)∧ ∀ q,Own r.2 t q→Own hp t q):=by
 obtain⟨c,aj,hb,bP,MA⟩:=h.ok
 have afo:∃ p,c4 hp c.eg (dG v n)=some p:=by
  cases e:c4 hp c.eg (dG v n) with
  | none=>rw [← MA,kC e] at bH;cases bH
  | some p=>exact⟨p,rfl⟩
 obtain⟨vG,jC⟩:=afo
 have ado:∃ r,c.eg=some r:=by
  obtain⟨q,hq⟩:=Gd (Nat.zero_le n) jC;rw [BJ,mE] at hq;exact⟨q,hq⟩
 obtain⟨r,aR⟩:=ado
 rw [aR] at bP MA jC
 unfold yf
 refine .eq (Rf h aO a6) ?_
 rw [bH]
 refine .cond (fun aj=>by cases aj) fun _=>.eq rfl (.eq aj (.eq rfl ?_))
 rw [aR]
 show bs (Option.bind (qm hp (n:Int) v (some t) _ _) _) _
 refine bs.bind (P:=fun e:(List Int×List Ref) ⊕ Empty=> ∃ bits nA,e= .inl (bits,nA)∧nA.length=n+1∧bits.length=n∧ (∀ j,j≤n→ay nA j=c4 hp (some r) (dG v j))∧ ∀ j,j<n→ay bits j=((fF (cx v (31 - j)):Nat):Int))
  (KM aj hb v aO (fun i s=> ∃ bits nA,s=(bits,nA)∧nA.length=i+1∧bits.length=i∧ (∀ j,j≤i→ay nA j=c4 hp (some r) (dG v j))∧ ∀ j,j<i→ay bits j=((fF (cx v (31 - j)):Nat):Int)) ⟨[],[some r],rfl,rfl,rfl,fun j aF=>?_,fun j aF=>by omega⟩ (fun i s ar hs=>?_) (fun s hs=>?_)) fun e he=>?_
 ·have:j=0:=by omega
  subst this
  rw [BJ,mE];rfl
 ·obtain⟨bits,nA,rfl,h1,ad,aD,aZ⟩:=hs
  obtain⟨q,hq⟩:=Gd (show i≤n by omega) jC
  obtain⟨d,hd⟩:=bP.reads _ _ hq
  have hw:bE ((nA.length:Int) - 1)=(i:Int):=by rw [hN (by omega) (by omega)];omega
  simp only [hw]
  have ct:fF (cx v (31 - i))<2:=by cases cx v (31 - i) <;> decide
  refine .idx rfl (by omega) (.eq (a:=q) (by rw [aD i (Nat.le_refl _)];exact hq) (.idx rfl ct (.eq hd (.eq (iJ _ _ (by simp;omega) (by omega)) (.eq (iJ _ _ (by simp;omega) (by omega)) (.ret ⟨_,_,rfl,by simp;omega,by simp;omega,fun j aF=>?_,fun j aF=>?_⟩))))))
  ·rw [I5]
   by_cases hZ:j=nA.length
   ·rw [if_pos hZ,show j=i+1 by omega,BI,ma,hq,hW hd,mE]
   rw [if_neg hZ];exact aD j (by omega)
  rw [I5]
  by_cases hZ:j=bits.length
  ·rw [if_pos hZ,show j=i by omega]
  rw [if_neg hZ];exact aZ j (by omega)
 ·exact⟨s.1,s.2,by obtain⟨bits,nA,rfl,_⟩:=hs;rfl,by obtain⟨bits,nA,rfl,h⟩:=hs;exact h⟩
 obtain⟨bits,nA,rfl,h1,ad,aD,aZ⟩:=he
 simp only [Sum.elim_inl]
 obtain⟨d,hd⟩:=bP.reads _ _ jC
 have Mt:=pO.1 hd
 have iQ:cU (dx hp vG (.gv { d with e6:=false })) vG=some { d with e6:=false } :=yR Mt
 refine .idx rfl (by omega) (.eq (a:=vG) (by rw [aD n (Nat.le_refl _)];exact jC) (.eq hd (.eq rfl (.eq iQ (.eq rfl ?_)))))
 generalize dg:dx (dx hp vG (.gv { d with e6:=false })) vG (.gv { d with e6:=false,hQ:=0 })=dq
 have hz:=GN hd aj
 have oO:cU dq vG=some { d with e6:=false,hQ:=0 } :=by rw [← dg];exact yR (pO.1 iQ)
 have Li:∀ q,q≠vG→pat dq q=pat hp q:=fun q hq=>by rw [← dg,om hq.symm,om hq.symm]
 obtain⟨s1,s2⟩:=Ty bP jC hd oO rfl fun q hq=>wb (Li q hq)
 have UJ:=BW hd oO rfl fun q hq=>wb (Li q hq)
 have agZ:ga dq t=some c:=by rw [Fy (Li t hz.symm)];exact aj
 have SZ:Own hp t vG:= .inr ⟨c,_,aj,by rw [aR];exact jC⟩
 have cS:fh hp dq (Own hp t):=by
  rw [← dg];exact(fh.up (own:=Own hp t) SZ).trans (fh.up SZ) fun q _ h=>h
 have m0:Lh hp dq t (fun a1=>if a1=dG v n then none else g a1) r:=⟨⟨c,agZ,hb,aR⟩,s1,fun a1=>by
  rw [s2];by_cases e:a1=dG v n
  ·rw [if_pos e];simp only [if_pos e];rfl
  rw [if_neg e];simp only [if_neg e];exact MA a1,cS,fun a1 q hq=>.inr ⟨c,a1,aj,by rw [aR,← UJ];exact hq⟩⟩
 have vf:bE ((n:Int) - 1)=(n:Int) - 1:=hN (by omega) (by omega)
 rw [vf]
 refine bs.bind (P:=fun aX=>Lh hp aX.2.2 t (fun a1=>if a1=dG v n then none else g a1) r) (bs.sY n (fun i st=> ∃ hq,st=((n:Int) - 1 - (i:Int),hq)∧Lh hp hq t (fun a1=>if a1=dG v n then none else g a1) r∧ ∀ j,j+i≤n→c4 hq (some r) (dG v j)=ay nA j) (by omega) ⟨dq,by simp,m0,fun j aF=>by rw [UJ,aD j (by omega)]⟩ (fun i st ar hs=>?_) (fun st hs=>?_)) fun aX vy=>?_
 ·obtain⟨hq,rfl,hm,Lj⟩:=hs
  have aw:(n:Int) - 1 - (i:Int)=((n - 1 - i:Nat):Int):=by omega
  have aX:bE ((n:Int) - 1 - (i:Int)+1)=((n - i:Nat):Int):=by rw [hN (by omega) (by omega)];omega
  have dc:bE ((n:Int) - 1 - (i:Int) - 1)=(n:Int) - 1 - ((i+1:Nat):Int):=by rw [hN (by omega) (by omega)];omega
  simp only [aX,dc]
  have pw:decide ((n:Int) - 1 - (i:Int)≥0)=true:=by rw [decide_eq_true_eq];omega
  simp only [pw]
  have jT:=Lj (n - i) (by omega)
  have tr:=Lj (n - 1 - i) (by omega)
  obtain⟨ai,zY⟩:=Gd (show n - i≤n by omega) jC
  obtain⟨J,Hr⟩:=Gd (show n - 1 - i≤n by omega) jC
  rw [aD _ (by omega),zY] at jT
  rw [aD _ (by omega),Hr] at tr
  obtain⟨c1,dQ⟩:=hm.tree.reads _ _ jT
  obtain⟨H7,xA⟩:=hm.tree.reads _ _ tr
  refine .cH (P:=fun gU=>gU=n - i) (fun _=>⟨_,pa (by omega),rfl⟩) fun gU mm=>?_
  rw [mm rfl]
  have Mh:ay nA (n - i)=some ai:=by rw [aD _ (by omega)];exact zY
  have Mc:ay nA (n - 1 - i)=some J:=by rw [aD _ (by omega)];exact Hr
  refine .cH (P:=fun y=>y=(!c1.e6&&decide (c1.db=default))) (fun _=>⟨_,by rw [Mh];exact empty_eq dQ,rfl⟩) fun bz hS=>.cond (fun dS=>?_) fun dS=>.ret hm
  rw [Bool.true_and,hS rfl,Bool.and_eq_true,Bool.not_eq_true',decide_eq_true_eq] at dS
  obtain⟨bO,z2⟩:=dS
  have ct:fF (cx v (31 - (n - 1 - i)))<2:=by cases cx v (31 - (n - 1 - i)) <;> decide
  have adp:dG v (n - i)=dG v (n - 1 - i)++[cx v (31 - (n - 1 - i))]:=by rw [← BI,show n - 1 - i+1=n - i by omega]
  have pB:bF H7.db (fF (cx v (31 - (n - 1 - i))))=some ai:=by
   rw [adp,ma,tr,hW xA,mE] at jT;exact jT
  have kR:=pO.1 xA
  refine .idx aw (by omega) (.idx aw (by omega) (.eq Mc (.idx (aZ _ (by omega)) ct (.eq xA (.eq rfl (.ret ?_))))))
  obtain⟨g1,g2,g3⟩:=cut (hp':=dx hq J (.gv { H7 with db:=dr H7.db (fF (cx v (31 - (n - 1 - i)))) none })) hm.tree tr xA pB dQ (fun x=>by rw [z2,Fu];rfl) bO (yR kR) fun x ao=>ue ao.symm
  obtain⟨ke,dn,a2,a3⟩:=hm.cell
  have adq:=hm.own _ _ tr
  refine⟨_,rfl,⟨⟨ke,by rw [FA (GN xA dn)];exact dn,a2,a3⟩,g1,fun a1=>by rw [g3];exact hm.cont a1,hm.keeps.trans (fh.up adq) fun q _ h=>h,fun a1 q k6=>?_⟩,fun j aF=>?_⟩
  ·rw [g2] at k6
   split at k6
   ·cases k6
   exact hm.own a1 q k6
  rw [g2,if_neg (fun e=>by have:=congrArg List.length e;simp only [List.length_append,Yu,List.length_singleton] at this;omega)]
  exact Lj j (by omega)
 ·obtain⟨hq,rfl,hm,_⟩:=hs
  have pw:decide ((n:Int) - 1 - (n:Int)≥0)=false:=by rw [decide_eq_false_iff_not];omega
  simp only [pw]
  refine .cH (P:=fun _=>True) (fun aj=>by cases aj) fun _ _=>.cH (P:=fun _=>True) (fun aj=>by cases aj) fun _ _=>.cond (fun aj=>by cases aj) fun _=>.ret hm
 obtain⟨l3,dn,a2,a3⟩:=vy.cell
 refine .eq dn ?_
 rw [a3]
 obtain⟨M6,tD⟩:=vy.tree.reads [] r rfl
 refine .eq (empty_eq tD) (.bind (P:=fun m1=>js m1 t (fun a1=>if a1=dG v n then none else g a1)∧fh hp m1 (Own hp t)∧ ∀ q,Own m1 t q→Own hp t q) (.cond (fun dS=>.eq rfl (.ret ?_)) fun _=>.ret ?_) fun m1 ck=>.ret ⟨rfl,ck⟩)
 ·rw [Bool.and_eq_true,Bool.not_eq_true',decide_eq_true_eq] at dS
  obtain⟨bO,z2⟩:=dS
  have Ul:ga (dx aX.2.2 t (.j9 { l3 with eg:=none })) t=some { l3 with eg:=none } :=Pj (sv.1 dn)
  refine⟨⟨_,Ul,a2,⟨fun a1 p h=>(by rw [gQ] at h;cases h),fun a1 cs p h=>(by rw [gQ] at h;cases h),fun a1 p h=>(by rw [gQ] at h;cases h)⟩,fun a1=>?_⟩,vy.keeps.trans (fh.up (own:=Own hp t) (.inl rfl)) fun q _ h=>h,fun q hq=>?_⟩
  ·rw [kC gQ,← vy.cont]
   cases a1 with
   | nil=>rw [kk (p:=r) rfl tD,bO];rfl
   | cons b a1=>rw [kC];rw [hW tD,z2,Fu];exact gQ
  rcases hq with rfl | ⟨ke,a1,dM,eC⟩
  ·exact .inl rfl
  rw [Ul] at dM;cases dM
  rw [gQ] at eC;cases eC
 refine⟨⟨l3,dn,a2,by rw [a3];exact vy.tree,fun a1=>by rw [a3];exact vy.cont a1⟩,vy.keeps,fun q hq=>?_⟩
 rcases hq with rfl | ⟨ke,a1,dM,eC⟩
 ·exact .inl rfl
 rw [dn] at dM;cases dM
 rw [a3] at eC
 exact vy.own a1 q eC
def ku (hp:aY Cell):Nat→Ref→List Int
 | 0,_=>[]
 | _+1,none=>[]
 | n+1,some p=>match cU hp p with
   | none=>[]
   | some c=>(bif c.e6 then [c.hQ] else [])++(ku hp n (bF c.db 0)++ku hp n (bF c.db 1))
theorem Gq {hp:aY Cell}{n p:Nat}{c:dX}(h:cU hp p=some c):ku hp (n+1) (some p)=(bif c.e6 then [c.hQ] else [])++(ku hp n (bF c.db 0)++ku hp n (bF c.db 1)):=by
 show(match cU hp p with | none=>[] | some c=>_)=_;rw [h]
theorem sw {hp:aY Cell}{p:Nat}{c:dX}(h:cU hp p=some c)(b:Bool)(a1:List Bool):cont hp (some p) (b::a1)=cont hp (bF c.db (fF b)) a1:=by
 unfold cont;rw [hW h]
theorem wu {hp:aY Cell} :∀ {n:Nat} {r:Ref} {id:Int},id∈ku hp n r→ ∃ a1,cont hp r a1=some id
 | 0,_,_,h=>by cases h
 | _+1,none,_,h=>by cases h
 | n+1,some p,id,h=>by
   cases aj:cU hp p with
   | none=>
     have:ku hp (n+1) (some p)= []:=by
      show(match cU hp p with | none=>[] | some c=>_)=_;rw [aj]
     rw [this] at h;cases h
   | some c=>
     rw [Gq aj] at h
     rcases List.mem_append.1 h with h | h
     ·refine⟨[],?_⟩
      rw [kk (p:=p) rfl aj]
      cases hu:c.e6 with
      | true=>rw [hu] at h;rw [List.mem_singleton.1 h];rfl
      | false=>rw [hu] at h;cases h
     rcases List.mem_append.1 h with h | h
     ·obtain⟨a1,k6⟩:=wu h
      exact⟨false::a1,by rw [sw aj];exact k6⟩
     obtain⟨a1,k6⟩:=wu h
     exact⟨true::a1,by rw [sw aj];exact k6⟩
theorem Pu {hp:aY Cell} :∀ {n:Nat} {r:Ref} {id:Int} {a1:List Bool},a1.length<n→cont hp r a1=some id→id∈ku hp n r
 | 0,_,_,_,al,_=>by omega
 | n+1,none,id,a1,_,h=>by rw [kC gQ] at h;cases h
 | n+1,some p,id,a1,al,h=>by
   cases aj:cU hp p with
   | none=>
     exfalso
     cases a1 with
     | nil=>
       unfold cont at h
       have:c4 hp (some p) []=some p:=rfl
       rw [this] at h
       simp only [aj] at h;cases h
     | cons b a1=>
       have:c4 hp (some p) (b::a1)=none:=by
        show(match cU hp p with | none=>none | some c=>c4 hp (bF c.db (fF b)) a1)=none;rw [aj]
       rw [kC this] at h;cases h
   | some c=>
     rw [Gq aj]
     cases a1 with
     | nil=>
       rw [kk (p:=p) rfl aj] at h
       cases hu:c.e6 with
       | true=>
         rw [hu] at h
         have:c.hQ=id:=by simpa using h
         rw [this];simp
       | false=>rw [hu] at h;cases h
     | cons b a1=>
       rw [sw aj] at h
       have iB:a1.length<n:=by simp at al;omega
       have:=Pu iB h
       cases b
       ·exact List.mem_append_right _ (List.mem_append_left _ this)
       exact List.mem_append_right _ (List.mem_append_right _ this)
theorem OT {hp:aY Cell} :∀ {n:Nat} {r:Ref},(∀ a1 cs id,cont hp r a1=some id→cont hp r cs=some id→a1=cs)→ (ku hp n r).Nodup
 | 0,_,_=>List.nodup_nil
 | _+1,none,_=>List.nodup_nil
 | n+1,some p,h=>by
   cases aj:cU hp p with
   | none=>
     have:ku hp (n+1) (some p)= []:=by
      show(match cU hp p with | none=>[] | some c=>_)=_;rw [aj]
     rw [this];exact List.nodup_nil
   | some c=>
     rw [Gq aj]
     have hb:∀ b,(ku hp n (bF c.db (fF b))).Nodup:=fun b=>OT fun a1 cs id h1 ad=>by
      have:=h (b::a1) (b::cs) id (by rw [sw aj];exact h1) (by rw [sw aj];exact ad);simpa using this
     rw [List.nodup_append,List.nodup_append]
     refine⟨by cases c.e6 <;> simp,⟨hb false,hb true,fun a bo ke nz e=>?_⟩,fun a bo ke nz e=>?_⟩
     ·subst e
      obtain⟨a1,h1⟩:=wu bo
      obtain⟨cs,ad⟩:=wu nz
      have:=h (false::a1) (true::cs) a (by rw [sw aj];exact h1) (by rw [sw aj];exact ad)
      simp at this
     subst e
     cases hu:c.e6 with
     | false=>rw [hu] at bo;cases bo
     | true=>
       rw [hu] at bo
       have bo:a=c.hQ:=List.mem_singleton.1 bo
       have bR:cont hp (some p) []=some a:=by rw [kk (p:=p) rfl aj,hu,bo];rfl
       rcases List.mem_append.1 nz with h1 | h1
       ·obtain⟨a1,h1⟩:=wu h1
        have:=h [] (false::a1) a bR (by rw [sw aj];exact h1)
        cases this
       obtain⟨a1,h1⟩:=wu h1
       have:=h [] (true::a1) a bR (by rw [sw aj];exact h1)
       cases this
theorem Pv:∀ {l m:List Int},l.Nodup→ (∀ x∈l,x∈m)→l.length≤m.length
 | [],m,_,_=>Nat.zero_le _
 | x::l,m,aO,h=>by
   obtain⟨h1,ad⟩:=List.nodup_cons.1 aO;have ao:=h x (by simp);have:=Pv (m:=m.erase x) ad fun y a7=>(List.mem_erase_of_ne fun e=>h1 (by rw [← e];exact a7)).2 (h y (by simp [a7]));rw [List.length_erase_of_mem ao] at this;have hp:=List.length_pos_of_mem ao;simp only [List.length_cons];omega
theorem Yx (v:au)(n:Int):bs (By v n) (fun _=>True):=by
 unfold By;exact .cond (fun _=>.ret trivial) fun _=>.cond (fun _=>.eq rfl (.ret trivial)) fun _=>.eq rfl (.eq rfl (.ret trivial))
theorem JM {hp:aY Cell}{t:Nat}{c:fR}(aj:ga hp t=some c):∀ (d f:Nat) (r:Ref) (aL:au) (cN:Int) (iR:List dD),d<f→ (∀ a1 p,c4 hp r a1=some p→a1.length<d)→ (∀ a1 p,c4 hp r a1=some p→ ∃ c,cU hp p=some c)→iR.length+(ku hp d r).length≤20000→
 bs (vI f hp (some t) r aL cN iR) (fun o=>o.length=iR.length+(ku hp d r).length)
 | d,0,r,aL,cN,iR,bb,_,_,_=>by omega
 | 0,f+1,none,aL,cN,iR,bb,hd,aR,al=>⟨iR,rfl,rfl⟩
 | 0,f+1,some p,aL,cN,iR,bb,hd,aR,al=>by have:=hd [] p rfl;simp at this
 | d+1,f+1,none,aL,cN,iR,bb,hd,aR,al=>⟨iR,rfl,rfl⟩
 | d+1,f+1,some p,aL,cN,iR,bb,hd,aR,al=>by
   obtain⟨e,he⟩:=aR [] p rfl;rw [Gq he] at al ⊢;simp only [List.length_append] at al ⊢;have pB:∀ b,(∀ a1 q,c4 hp (bF e.db (fF b)) a1=some q→a1.length<d)∧ ∀ a1 q,c4 hp (bF e.db (fF b)) a1=some q→ ∃ c,cU hp q=some c:=fun b=>⟨fun a1 q hq=>by
    have:=hd (b::a1) q (by rw [hW he];exact hq);simp at this;omega,fun a1 q hq=>aR (b::a1) q (by rw [hW he];exact hq)⟩
   show bs (cond (some p:Ref).isNone (some iR) _) _;refine .cond (fun aj=>by cases aj) fun _=>?_;refine .bind (P:=fun y=>y.length=iR.length+(bif e.e6 then [e.hQ] else []).length) ?_ fun aE bw=>?_
   ·unfold EV;refine .eq rfl (.eq he ?_);cases hu:e.e6 with
    | true=>
      rw [hu] at al
      simp only [cond_true,List.length_singleton] at al
      refine .eq (a:=iR++[{ cM:=aL,wi:=cN,bV:=e.hQ }]) ?_ (.ret (by simp))
      show(hf 32 iR _).bind _=_
      rw [iJ _ _ (by simp;omega) (by omega)];rfl
    | false=>exact .eq rfl (.ret (by simp))
   refine .eq rfl (.eq he (.bind (JM aj d f _ aL (bE (cN+1)) aE (by omega) (pB false).1 (pB false).2 (by rw [bw];show _+_+(ku hp d (bF e.db 0)).length≤_;omega)) fun an cy=>?_));have cy:an.length=aE.length+(ku hp d (bF e.db 0)).length:=cy;refine .eq rfl (.eq rfl (.eq aj (.bind (Yx _ _) fun cc _=>.eq rfl (.bind (JM aj d f _ _ (bE (cN+1)) an (by omega) (pB true).1 (pB true).2 (by rw [cy,bw];show _+_+_+(ku hp d (bF e.db 1)).length≤_;omega)) fun cg h5=>.ret ?_))));have h5:cg.length=an.length+(ku hp d (bF e.db 1)).length:=h5;rw [h5,cy,bw];omega
theorem aaX {hp:aY Cell}{t:Nat}{g:List Bool→Option Int}(h:js hp t g)(ar:∀ a1 cs id,g a1=some id→g cs=some id→a1=cs)(m:List Int)(hm:∀ a1 id,g a1=some id→id∈m)(al:m.length≤20000):bs (yv hp (some t)) (fun r=>r=0→ ∀ a1,g a1=none):=by
 obtain⟨c,aj,hb,bP,bH⟩:=h.ok;have aO:(ku hp 33 c.eg).Nodup:=OT fun a1 cs id h1 ad=>ar a1 cs id (by rw [← bH];exact h1) (by rw [← bH];exact ad);have hle:(ku hp 33 c.eg).length≤m.length:=Pv aO fun x ao=>by
  obtain⟨a1,k6⟩:=wu ao;exact hm a1 x (by rw [← bH];exact k6)
 unfold yv Fm EO;refine .bind (P:=fun y=>y.length=(ku hp 33 c.eg).length) (.bind (P:=fun y=>y.length=(ku hp 33 c.eg).length) (.bind (P:=fun y=>y.length=(ku hp 33 c.eg).length) (.cond (fun _=>.eq rfl (.eq aj ((show bs (H9 hp (some t) c.eg default 0 []) _ from JM aj 33 et c.eg default 0 [] (by unfold et;omega) (fun a1 p hp=>by have:=bP.dep a1 p hp;omega) bP.reads (by simp;omega)).bind fun y a7=>.ret (by simpa using a7)))) fun aj=>by cases aj) fun y a7=>.ret a7) fun y a7=>.ret a7) fun y a7=>.ret fun bR a1=>?_;have bR:(ku hp 33 c.eg).length=0:=by rw [← a7];have:(y.length:Int)=0:=bR;omega
 cases ag0:g a1 with
 | none=>rfl
 | some id=>
   have MB:cont hp c.eg a1=some id:=by rw [bH];exact ag0
   have hlen:a1.length<33:=by
    cases bb:c4 hp c.eg a1 with
    | none=>rw [kC bb] at MB;cases MB
    | some p=>have:=bP.dep a1 p bb;omega
   have:=Pu hlen MB
   rw [List.eq_nil_of_length_eq_zero bR] at this;cases this
theorem Zg {key:cW}{m:b5}(hm:nR key.cO (fv key) m)(hp:m.ff=true)(da:m.fE≠default)(v:au):
 h9 key.cO (fv key) m { cZ:=(v.cZ&&& ~~~m.fE.cZ)|||m.cM.cZ,bS:=(v.bS&&& ~~~m.fE.bS)|||m.cM.bS } =true:=by
 have aD:key.cO=3:=Classical.byContradiction fun h=>da (hm.hT h)
 unfold h9
 rw [if_neg (by simp [hp]),if_neg (by omega),if_neg (by omega),if_pos aD,decide_eq_true_eq]
 refine za fun j aF=>?_
 have bP:=hm.agI aD j aF
 rw [wD]
 unfold cx at *
 split
 ·rename_i HP
  simp only [HP,if_true] at bP
  simp only [BitVec.getLsbD_or,BitVec.getLsbD_and,BitVec.getLsbD_not,HP,decide_true,Bool.true_and]
  cases a6:m.cM.bS.getLsbD j <;> cases hk:m.fE.bS.getLsbD j <;> simp_all
 rename_i HP
 simp only [HP,if_false] at bP
 have afp:j - 64<64:=by omega
 simp only [BitVec.getLsbD_or,BitVec.getLsbD_and,BitVec.getLsbD_not,afp,decide_true,Bool.true_and]
 cases a6:m.cM.cZ.getLsbD (j - 64) <;> cases hk:m.fE.cZ.getLsbD (j - 64) <;> simp_all
theorem Z7 {key:cW}(hk:km key){m:b5}(hm:nR key.cO (fv key) m)(hp:m.ff=true)(bR:0<m.dK)(x:BitVec 64):
 h9 key.cO (fv key) m { (default:au) with bS:=m.cM.bS|||(x&&&(((1#64) <<< (BitVec.ofInt 64 (bE (32 - m.dK))).toNat) - (1#64))) } =true:=by
 have ad:key.cO=2:=Classical.byContradiction fun h=>by have:=hm.Mo h;omega
 have Eo:=hm.pre.2
 obtain⟨air,ah5,bb,_,_,_,_,cS⟩:=hk
 have ag1:fv key=32:=by rw [GM bb,cS ad];rfl
 obtain⟨n,aO⟩:=Int.eq_ofNat_of_zero_le (show 0≤32 - m.dK by omega)
 rw [hN (by omega) (by omega),aO,pb (by omega)]
 unfold h9
 rw [if_neg (by simp [hp]),if_neg (by omega),if_pos ad,List.all_eq_true]
 intro j aF
 cases al:lead (fv key) m.dK j
 ·rfl
 unfold lead at al
 rw [ag1] at al
 simp only [Bool.and_eq_true,decide_eq_true_eq] at al
 have afq:j<64:=by omega
 have qX: ¬ j<n:=by omega
 unfold cx
 simp only [afq,if_true,BitVec.getLsbD_or,BitVec.getLsbD_and]
 rw [yQ (by omega),decide_eq_false qX]
 simp
theorem Z8 {key:cW}(hk:km key){m:b5}(hm:nR key.cO (fv key) m)(hp:m.ff=true)(da:m.fE=default)(bR: ¬ (0<m.dK∧m.dK≤32)):
 h9 key.cO (fv key) m m.cM=true:=by
 obtain⟨_,_,_,aJ,gU,_⟩:=hk
 have ad:key.cO≠2:=fun h=>by have:=hm.HK h hp;have:=hm.pre.2;omega
 have aD:key.cO≠3:=fun h=>hm.agJ h hp da
 unfold h9
 rw [if_neg (by simp [hp])]
 by_cases h1:key.cO=1
 ·rw [if_pos h1];simp
 rw [if_neg h1,if_neg ad,if_neg aD]
 obtain⟨dn,a2⟩:=hm.q8 (by omega) hp
 rw [ug,aaL dn a2];rfl
theorem Yy {s:aQ}(h:dj s){k:Nat}(hk:k<4){e:bd}(he:il s k e)(p:Vector au 4):bs (Bq e p) (fun q=>mt s k q e=true):=by
 obtain⟨t1,⟨t2,t3⟩,t4,_⟩:=h.jD hk;have hlen:=he.len;unfold Bq;refine bs.loop e.bY.length (fun i st=> ∃ q,st=((i:Int),q)∧ ∀ c,c<i→h9 (ay (ay s.bh k).b4 c).cO (fv (ay (ay s.bh k).b4 c)) (ay e.bY c) (bF q c)=true) (by omega) ⟨p,rfl,fun c aj=>by omega⟩ (fun i st ar hs=>?_) (fun st hs=>?_)
 ·obtain⟨q,rfl,hq⟩:=hs;have q8:i<4:=by omega
  have jS:km (ay (ay s.bh k).b4 i):=t4 _ (by rw [eU _ (show i<(ay s.bh k).b4.length by omega)];exact List.getElem_mem _);have hm:=he.tB i (by omega);refine .cond (fun _=>?_) (fun aj=>by simp at aj;omega);refine .idx rfl ar ?_;have kK:∀ v,h9 (ay (ay s.bh k).b4 i).cO (fv (ay (ay s.bh k).b4 i)) (ay e.bY i) v=true→ ∀ c,c<i+1→h9 (ay (ay s.bh k).b4 c).cO (fv (ay (ay s.bh k).b4 c)) (ay e.bY c) (bF (dr q i v) c)=true:=fun v a6 c aj=>by
   rw [ig _ _ q8];by_cases vw:c=i
   ·subst vw;rw [if_pos rfl];exact a6
   rw [if_neg vw];exact hq c (by omega)
  refine .cond (fun aj=>.ret ⟨q,by rw [e0 (by omega)],fun c nz=>?_⟩) fun aj=>?_
  ·have ag2:(ay e.bY i).ff=false:=by
    rw [show decide ((i:Int)≥4)=false by simp;omega] at aj;simpa using aj
   by_cases vw:c=i
   ·subst vw;unfold h9;rw [if_pos ag2]
   exact hq c (by omega)
  have Ac:(ay e.bY i).ff=true:=by
   rw [show decide ((i:Int)≥4)=false by simp;omega] at aj;simpa using aj
  refine .bind (P:=fun na=> ∃ v,na=dr q i v∧h9 (ay (ay s.bh k).b4 i).cO (fv (ay (ay s.bh k).b4 i)) (ay e.bY i) v=true) ?_ fun na jn=>?_
  ·refine .cond (fun ck=>?_) fun ck=>.eq rfl (.bind (P:=fun na=> ∃ v,na=dr q i v∧h9 (ay (ay s.bh k).b4 i).cO (fv (ay (ay s.bh k).b4 i)) (ay e.bY i) v=true) (.cond (fun dS=>?_) fun dS=>?_) fun na jn=>.ret jn)
   ·refine .idx rfl q8 (.eq rfl (.idx rfl q8 (.eq rfl (.idx rfl q8 (.idx rfl q8 (.eq rfl (.ret ⟨_,?_,Zg hm Ac (by simpa using ck) (bF q i)⟩)))))));refine FW fun c aj=>?_;simp only [ig _ _ q8];split <;> simp
   ·simp only [Bool.and_eq_true,decide_eq_true_eq] at dS;exact .idx rfl q8 (.eq rfl (.eq rfl (.idx rfl q8 (.eq rfl (.ret ⟨_,rfl,Z7 jS hm Ac dS.1 _⟩)))))
   refine .idx rfl q8 (.ret ⟨_,rfl,Z8 jS hm Ac (by simpa using ck) fun cu=>?_⟩);rw [decide_eq_true cu.1,decide_eq_true cu.2] at dS;cases dS
  obtain⟨v,rfl,a6⟩:=jn;exact .ret ⟨dr q i v,by rw [e0 (by omega)],kK v a6⟩
 obtain⟨q,rfl,hq⟩:=hs;refine⟨_,by simp;rfl,.ret ?_⟩;unfold mt;exact Kc hq hlen.symm
theorem Zh (x:cK)(n:Int)(al:x.ch.length≤1000):bs (EU x n) (fun r=>(r= -1∧iY x.ch n=false)∨ ∃ i:Nat,i<x.ch.length∧r=i∧ (ay x.ch i).cB=n∧iY x.ch n=true∧ ∀ j,j<i→ (ay x.ch j).cB≠n):=SQ x n al
theorem Z9 {l:List ax}{n:Int}{i:Nat}(aO:l.Pairwise fun a c=>a.cB≠c.cB)(ar:i<l.length)(h:(ay l i).cB=n):
 l.take i++l.drop (i+1)=l.filter (fun c=>c.cB !=n):=by
 rw [eU _ ar] at h
 have xL:l=l.take i++l[i]::l.drop (i+1):=by rw [List.getElem_cons_drop,List.take_append_drop]
 rw [xL,List.pairwise_append] at aO
 obtain⟨h1,ad,aD⟩:=aO
 obtain⟨aZ,bc⟩:=List.pairwise_cons.1 ad
 conv=>rhs;rw [xL]
 rw [List.filter_append,List.filter_cons_of_neg (by simp [h])]
 congr 1
 ·exact(List.filter_eq_self.2 fun c aj=>by have:=aD c aj l[i] List.mem_cons_self;rw [h] at this;simpa using this).symm
 exact(List.filter_eq_self.2 fun c aj=>by have:=aZ c aj;rw [h] at this;simp;exact fun e=>this e.symm).symm
theorem jv.filter {s:aQ}{k:Nat}{l:List ax}(h:jv s k l)(q:ax→Bool):jv s k (l.filter q) where
 ok i ar:=h.ok i (List.mem_filter.1 ar).1
 num:=h.num.sublist List.filter_sublist
 len:=Nat.le_trans (List.length_filter_le _ _) h.len
theorem Yz {s:aQ}{k:Nat}{l:List ax}(al:jv s k l)(n:Int):
 Av (oK s k l) n=some (iY l n,oK s k (l.filter fun c=>c.cB !=n)):=by
 refine bs.get ?_
 unfold Av
 obtain⟨jI,hA⟩:=al.eR
 refine(Zh (oK s k l) n (by show(eR _ l).length≤1000;omega)).bind fun aE h1=>?_
 rcases h1 with⟨rfl,ad⟩ | ⟨j,ad,rfl,aD,aZ,bc⟩
 ·have lz:iY l n=false:=by rw [← ad];exact F8.symm
  refine .cond (fun _=>.ret ?_) fun aj=>by simp at aj
  rw [lz,List.filter_eq_self.2 fun c aj=>by simpa using P0 lz c aj]
 have Ad:iY l n=true:=by rw [← aZ];exact F8.symm
 refine .cond (fun aj=>by simp at aj;omega) fun _=>?_
 have aF:j<(eR (eJ s k) l).length:=ad
 refine .eq (a:=eR (eJ s k) (l.filter fun c=>c.cB !=n)) ?_ (.ret ?_)
 ·show Dy (eR (eJ s k) l) _ _=_
  unfold Dy
  rw [e0 (by omega),if_pos ⟨by omega,by omega,by omega⟩]
  have Mk:(eR (eJ s k) l).Pairwise fun a c=>a.cB≠c.cB:=((JD l).symm.pairwise_iff fun cu=>fun e=>cu e.symm).1 al.num
  rw [← Ym (qB s k) al.vx,← Z9 Mk aF aD]
  simp
 rw [Ad];rfl
def im (l:List ax)(e:bd):List ax:=l.filter fun c=> !hn c.bA e
theorem o7 {l:List ax}{e:bd}{c:ax} :c∈im l e↔c∈l∧hn c.bA e=false:=by
 unfold im;rw [List.mem_filter];simp
theorem gZ.im {s:aQ}{k:Nat}{l:List ax}(h:gZ s k l)(e:bd):gZ s k (Go.Proofs.YtelbhaohleeijaaGreat.im l e):=
 ⟨h.ok.filter _,h.key.sublist List.filter_sublist⟩
theorem FX {s:aQ}{k:Nat}{l:List ax}(h:gZ s k l){e:bd}{i:ax}(ar:i∈l)(hk:hn i.bA e=true):im l e=l.filter fun c=>c.cB !=i.cB:=by
 unfold im;refine List.filter_congr fun c aj=>?_;by_cases aw:c=i
 ·rw [aw,hk];simp
 have h1:hn c.bA e=false:=by
  rw [Bool.eq_false_iff];intro ad;exact aw (h.uniq aj ar (Jj ad (by rw [qu];exact hk)))
 have ad:c.cB≠i.cB:=fun ad=>aw (h.ok.uniq aj ar ad);rw [h1];simp [ad]
theorem afr {s:aQ}(h:dj s){hp:aY Cell}{q:Nat}{l:List ax}{own:Nat→Prop}(hq:wN s hp q l own)(al:gZ s 0 l){i:ax}(ar:i∈l):
 bs (AF hp ⟨some q⟩ i) (fun hp'=>wN s hp' q (im l i.bA) own∧fh hp hp' own):=by
 obtain⟨m,em,h1,ad,aD,aZ,bc,kq⟩:=hq.ok
 have hx:=(al.ok.ok i ar).fC
 have bH:eh em (e1 i.bA)=some i.cB:=(bc _ _).2 ⟨i,ar,rfl,rfl⟩
 unfold AF E3 tW
 refine .eq (Gc (hx.G9 h (by decide)).1) ?_
 refine .eq (a:=(true,dx hp m (Cell.oL (iy em (e1 i.bA))))) ?_ (.ret ?_)
 ·show((nh hp q).bind _).bind _=_
  rw [h1]
  show((me hp m).bind _).bind _=_
  rw [ad]
  show cond (!(eh em (e1 i.bA)).isSome) _ _=_
  rw [bH]
  show(nh hp q).bind _=_
  rw [h1]
  show(me hp m).bind _=_
  rw [ad];rfl
 have Es:q≠m:=fun e=>by
  subst e;have:=uw h1;rw [rH ad] at this;cases this
 refine⟨⟨m,_,by rw [IN (om Es.symm)];exact h1,Po (rH ad),aD,aZ,fun c6 n=>?_,kq.del⟩,.up aZ⟩
 rw [BR kq]
 by_cases hz:c6=e1 i.bA
 ·rw [if_pos hz]
  refine⟨fun e=>(by cases e),fun⟨c,aj,bu,dh⟩=>?_⟩
  obtain⟨g1,g2⟩:=o7.1 aj
  rw [(Er h (al.ok.ok c g1).fC hx).2 (bu.trans hz)] at g2;cases g2
 rw [if_neg hz,bc]
 constructor
 ·rintro ⟨c,aj,bu,dh⟩
  refine⟨c,o7.2 ⟨aj,?_⟩,bu,dh⟩
  rw [Bool.eq_false_iff];intro fk
  exact hz (by rw [← bu];exact(Er h (al.ok.ok c aj).fC hx).1 fk)
 rintro ⟨c,aj,bu⟩
 exact⟨c,(o7.1 aj).1,bu⟩
theorem afs {s:aQ}(h:dj s){hp:aY Cell}{m:Nat}{l:List ax}{own:Nat→Prop}(hq:mI s hp m l own)(al:gZ s 1 l){i:ax}(ar:i∈l):
 bs (Az hp ⟨0,32,⟨some m⟩⟩ i) (fun hp'=>mI s hp' m (im l i.bA) own∧fh hp hp' own):=by
 obtain⟨em,mv,ad,aD,aZ,bc,kq⟩:=hq.ok
 have hx:=(al.ok.ok i ar).fC
 have hi:=va h hx
 have bP:∃ t,eh em (gH (e1 i.bA))=some (some t):=by
  cases bH:eh em (gH (e1 i.bA)) with
  | none=>exact absurd rfl (aZ _ bH i ar)
  | some r=>obtain⟨t,g,rfl,_⟩:=aD _ _ bH;exact⟨t,rfl⟩
 obtain⟨t,bP⟩:=bP
 obtain⟨fL,g,e,g1,g2,g3⟩:=aD _ _ bP
 cases e
 obtain⟨n,aO⟩:=Int.eq_ofNat_of_zero_le hi.pre.1
 have DI:n≤32:=by have:=hi.pre.2;omega
 have uR:=Jk hi
 have hp':dG (ay i.bA.bY 0).cM n=jV i.bA:=by unfold jV;rw [aO];rfl
 have ag3:g (jV i.bA)=some i.cB:=(g3 _ _).2 ⟨i,ar,rfl,rfl,rfl⟩
 have Um:∀ c∈l,gH (e1 c.bA)=gH (e1 i.bA)→ (hn c.bA i.bA=false↔jV c.bA≠jV i.bA):=fun c aj ao=>by
  rw [Bool.eq_false_iff,ne_eq,Af h (al.ok.ok c aj).fC hx];exact⟨fun h1 ad=>h1 ⟨ao,ad⟩,fun h1 ad=>h1 ad.2⟩
 have ly:∀ c∈l,gH (e1 c.bA)≠gH (e1 i.bA)→hn c.bA i.bA=false:=fun c aj ao=>by
  rw [Bool.eq_false_iff,ne_eq,Af h (al.ok.ok c aj).fC hx];exact fun h1=>ao h1.1
 unfold Az
 refine .eq (JI h hx _) (.eq rfl (.eq mv (.eq rfl ?_)))
 simp only [bP]
 rw [aO] at uR ⊢
 refine(show bs (yf hp (some t) (ay i.bA.bY 0).cM (n:Int)) _ from Yw g1 DI uR (by rw [hp'];exact ag3)).bind fun an aR=>?_
 obtain⟨_,jI,hA,oW⟩:=aR
 rw [hp'] at jI
 obtain⟨ah6,dq⟩:=an
 simp only at jI hA oW ⊢
 have Ae:∀ q,Own hp t q→q≠m:=fun q Mw e=>by
  have:=mG mv;rw [← e] at this;rcases g1.Gp Mw with⟨c,aj⟩ | ⟨c,aj⟩ <;> rw [aj] at this <;> cases this
 have lx:pat dq m=pat hp m:=hA.rest m (la (mG mv)) fun hq=>Ae m hq rfl
 have Lk:j8 dq m=some em:=by rw [FB lx];exact mv
 have DJ:∀ a1 tM,(if a1=jV i.bA then none else g a1)=some tM↔ ∃ c∈im l i.bA,gH (e1 c.bA)=gH (e1 i.bA)∧jV c.bA=a1∧c.cB=tM:=fun a1 tM=>by
  by_cases k6:a1=jV i.bA
  ·rw [if_pos k6];refine⟨fun e=>(by cases e),fun⟨c,aj,bu,dh,_⟩=>?_⟩;obtain⟨dn,a2⟩:=o7.1 aj;exact absurd (dh.trans k6) ((Um c dn bu).1 a2)
  rw [if_neg k6,g3];constructor
  ·rintro ⟨c,aj,bu,dh,fk⟩;exact⟨c,o7.2 ⟨aj,(Um c aj bu).2 fun e=>k6 (dh.symm.trans e)⟩,bu,dh,fk⟩
  rintro ⟨c,aj,bu⟩;exact⟨c,(o7.1 aj).1,bu⟩
 have rI:∀ c6 fL,c6≠gH (e1 i.bA)→eh em c6=some (some fL)→ ∃ eW,js hp fL eW∧js dq fL eW∧ (∀ q,Own hp fL q→own q)∧ (∀ q,Own dq fL q↔Own hp fL q)∧ ∀ a1 n,eW a1=some n↔ ∃ c∈im l i.bA,gH (e1 c.bA)=c6∧jV c.bA=a1∧c.cB=n:=fun c6 fL da aR=>by
  obtain⟨agW,eW,e,dn,a2,a3⟩:=aD c6 _ aR;cases e;obtain⟨dM,eC⟩:=dn.congr (hp':=dq) fun q hq=>hA.rest q (dn.wM hq) fun jn=>bc _ _ _ _ bP aR da.symm q jn hq;refine⟨eW,dn,dM,a2,eC,fun a1 n=>?_⟩;rw [a3];constructor
  ·rintro ⟨c,aj,bu,dh⟩;exact⟨c,o7.2 ⟨aj,ly c aj (by rw [bu];exact da)⟩,bu,dh⟩
  rintro ⟨c,aj,bu⟩;exact⟨c,(o7.1 aj).1,bu⟩
 have cS:fh hp dq own:=⟨hA.keys,fun q hq fU=>hA.rest q hq fun jn=>fU (g2 q jn)⟩
 have dg:mI s dq m (im l i.bA) own:=by
  refine⟨em,Lk,ad,fun c6 kz ia=>?_,fun c6 hz c aj=>aZ c6 hz c (o7.1 aj).1,fun c6 kd t1 t2 jE kt da q jT oP=>?_,kq⟩
  ·by_cases hz:c6=gH (e1 i.bA)
   ·subst hz;rw [bP] at ia;cases ia;exact⟨t,_,rfl,jI,fun q hq=>g2 q (oW q hq),DJ⟩
   obtain⟨fL,eW,e,_⟩:=aD c6 kz ia;subst e;obtain⟨xO,dn,a2,a3,a4,a5⟩:=rI c6 fL hz ia;exact⟨fL,xO,rfl,a2,fun q hq=>a3 q ((a4 q).1 hq),a5⟩
  have fc:∀ c6 t1,eh em c6=some (some t1)→ ∀ q,Own dq t1 q→Own hp t1 q:=fun c6 t1 jE q jT=>by
   by_cases aw:c6=gH (e1 i.bA)
   ·subst aw;rw [bP] at jE;cases jE;exact oW q jT
   obtain⟨_,_,_,_,a4,_⟩:=rI c6 t1 aw jE;exact(a4 q).1 jT
  exact bc _ _ _ _ jE kt da q (fc c6 t1 jE q jT) (fc kd t2 kt q oP)
 refine .eq Lk (.eq rfl ?_)
 simp only [bP]
 refine(show bs (yv dq (some t)) _ from aaX jI (fun a1 cs id h1 ad=>?_) (l.map (·.cB)) (fun a1 id h1=>?_) (by rw [List.length_map];have:=al.ok.len;omega)).bind fun br bu=>?_
 ·obtain⟨c,aj,_,dM,eC⟩:=(DJ _ _).1 h1
  obtain⟨d,hd,_,d1,d2⟩:=(DJ _ _).1 ad
  have:=al.ok.uniq (o7.1 aj).1 (o7.1 hd).1 (eC.trans d2.symm)
  rw [← dM,← d1,this]
 ·obtain⟨c,aj,_,dM,eC⟩:=(DJ _ _).1 h1
  exact List.mem_map.2 ⟨c,(o7.1 aj).1,eC⟩
 refine .bind (P:=fun hp'=>mI s hp' m (im l i.bA) own∧fh hp hp' own) (.cond (fun dS=>.eq rfl (.ret ?_)) fun _=>.ret ⟨dg,cS⟩) fun m1 ck=>.ret ck
 have bu:=bu (by simpa using dS)
 have Ha:=mG Lk
 have Ll:∀ fL eW,js dq fL eW→js (dx dq m (Cell.mh (iy em (gH (e1 i.bA))))) fL eW∧ ∀ q,Own (dx dq m (Cell.mh (iy em (gH (e1 i.bA))))) fL q↔Own dq fL q:=fun fL eW xN=>xN.congr fun q qf=>om fun e=>by
  rw [e] at Ha;rcases xN.Gp qf with⟨c,aj⟩ | ⟨c,aj⟩ <;> rw [aj] at Ha <;> cases Ha
 refine⟨⟨_,Pp Ha,ad,fun c6 kz ia=>?_,fun c6 hz c aj=>?_,fun c6 kd t1 t2 jE kt da q jT oP=>?_,kq.del⟩,cS.trans (fh.up ad) fun q _ hq=>hq⟩
 ·rw [BR kq] at ia
  split at ia
  ·cases ia
  rename_i hz
  obtain⟨fL,eW,e,_⟩:=aD c6 kz ia
  subst e
  obtain⟨xO,dn,a2,a3,a4,a5⟩:=rI c6 fL hz ia
  obtain⟨dM,eC⟩:=Ll fL xO a2
  exact⟨fL,xO,rfl,dM,fun q hq=>a3 q ((a4 q).1 ((eC q).1 hq)),a5⟩
 ·rw [BR kq] at hz
  split at hz
  ·rename_i e
   intro ao
   have:=(DJ _ _).2 ⟨c,aj,ao.trans e,rfl,rfl⟩
   rw [bu] at this;cases this
  exact aZ c6 hz c (o7.1 aj).1
 rw [BR kq] at jE kt
 split at jE
 ·cases jE
 split at kt
 ·cases kt
 rename_i aw aX
 obtain⟨agR,dn,a2,a3,a4,_⟩:=rI c6 t1 aw jE
 obtain⟨agS,dM,eC,hK,H4,_⟩:=rI kd t2 aX kt
 exact bc _ _ _ _ jE kt da q ((a4 q).1 (((Ll t1 _ a2).2 q).1 jT)) ((H4 q).1 (((Ll t2 _ eC).2 q).1 oP))
theorem srem {s:aQ}{k:Nat}{hp:aY Cell}{q:Nat}{l:List ax}{own:Nat→Prop}(hq:wO s k hp q l own)(al:gZ s k l){i:ax}(ar:i∈l):
 ed (AG hp ⟨some q⟩ i) (fun hp'=>wO s k hp' q (im l i.bA) own∧fh hp hp' own):=by
 obtain⟨key,cap,h1,ad⟩:=hq.ok
 unfold AG
 refine .eq rfl (.eq h1 (.eq (Yz al.ok _) (.any fun aq=>.eq rfl (.ret ?_))))
 rw [FX al ar (P5 _)]
 exact⟨⟨aq.1,aq.2,Pq (uz h1),ad⟩,.up ad⟩
theorem aft {s:aQ}(h:dj s){k:Nat}{hp:aY Cell}{f:gO}{l:List ax}{own:Nat→Prop}(hq:p3 s k hp f l own)(al:gZ s k l){i:ax}(ar:i∈l):
 ed (Ij hp f i) (fun hp'=>p3 s k hp' f (im l i.bA) own∧fh hp hp' own):=by
 rcases hq with⟨rfl,q,rfl,hq⟩ | ⟨rfl,m,rfl,hq⟩ | ⟨cS,q,rfl,hq⟩
 ·exact ed.of ((afr h hq al ar).mono fun hp' aR=>⟨.inl ⟨rfl,q,rfl,aR.1⟩,aR.2⟩)
 ·exact ed.of ((afs h hq al ar).mono fun hp' aR=>⟨.inr (.inl ⟨rfl,m,rfl,aR.1⟩),aR.2⟩)
 exact(srem hq al ar).mono fun hp' aR=>⟨.inr (.inr ⟨cS,q,rfl,aR.1⟩),aR.2⟩
theorem Ob {α β:Type}[DecidableEq α]:∀ {l:List (α×β)} {x:α},oe l→iy l x=l.filter fun a=>decide (a.1≠x)
 | [],_,_=>rfl
 | (k,w)::r,x,h=>by
   obtain⟨h1,ad⟩:=List.pairwise_cons.1 h;unfold iy;by_cases e:x=k
   ·rw [if_pos e,List.filter_cons_of_neg (by simp [e])];exact(List.filter_eq_self.2 fun a bo=>by simpa using fun e'=>h1 a bo (by rw [← e,e'])).symm
   rw [if_neg e,List.filter_cons_of_pos (by simpa using fun e'=>e e'.symm),Ob ad]
theorem th.HV {s:aQ}{k:Nat}{em:List (Int×ax)}{l:List ax}(h:th em l)(al:jv s k l):oe em:=by
 refine(h.pairwise_iff fun cu=>Ne.symm cu).2 ?_;rw [List.pairwise_map];exact al.num.imp fun cu=>cu
theorem YA {s:aQ}(h:dj s){k:Nat}(hk:k<4){hp:aY Cell}{p:Nat}{l:List ax}{own:Nat→Prop}(ao:ml s k hp p l own){e:bd}(he:il s k e):
 ed (AT hp (some p) e) (fun r=>(r.1,r.2.1)=kQ (gL l e)∧ml s k r.2.2 p (im l e) own∧fh hp r.2.2 own):=by
 obtain⟨f,m,em,h1,ad,aD,aZ,bc,bu⟩:=ao.cell
 have hm:=qw ad
 have hp':=lL h1
 have lx:p≠m:=fun e=>by rw [e,hm] at hp';cases hp'
 unfold AT
 refine .eq (Qa h hk ao he) ?_
 refine .bind (P:=fun m1=>ml s k m1 p (im l e) own∧fh hp m1 own) (.cond (fun aj=>?_) fun aj=>.ret ?_) fun m1 ck=>.ret ⟨rfl,ck⟩
 ·cases bb:gL l e with
  | none=>rw [bb] at aj;cases aj
  | some i=>
    obtain⟨ar,r8⟩:=sy bb
    have ag4:im l i.bA=im l e:=by
     rw [FX ao.lG ar (P5 _),FX ao.lG ar r8]
    refine .eq rfl (.eq h1 (.bind (aft h bu ao.lG ar) fun dq aR=>?_))
    obtain⟨jI,hA⟩:=aR
    have jI:p3 s k dq f (im l i.bA) (fun q=>own q∧q≠m∧q≠p):=jI
    rw [ag4] at jI
    show ed (aA.bind (aA.of (iw dq p)) fun c2=>aA.bind (aA.of c2.ki.p) fun cV=>aA.bind (aA.of (mf dq cV)) fun gV=>aA.bind (aA.of (some (dx dq cV (Cell.kI (iy gV i.cB))))) fun dd=>aA.ret dd) _
    have dn:pat dq p=some (.nU ⟨kf k,(h2 s k:Int),f,⟨some m⟩⟩):=by rw [hA.rest p (la hp') (fun hq=>hq.2.2 rfl)];exact hp'
    have a2:pat dq m=some (.kI em):=by rw [hA.rest m (la hm) (fun hq=>hq.2.1 rfl)];exact hm
    refine .eq (by unfold iw;rw [dn]) (.eq rfl (.eq (by unfold mf;rw [a2]) (.eq rfl (.ret ?_))))
    have ag5:fh hp dq own:=⟨hA.keys,fun q hq fU=>hA.rest q hq fun h=>fU h.1⟩
    have jS:fh hp (dx dq m (Cell.kI (iy em i.cB))) own:=ag5.trans (fh.up (own:=own) aZ) fun q _ hq=>hq
    refine⟨⟨ao.lG.im e,⟨f,m,_,by unfold iw;rw [om lx.symm,dn],Zf a2,aD,aZ,?_,jI.congr (fun q _ hq=>hq) fun q hq=>om hq.2.1.symm⟩,fun q hq=>jS.keys q (ao.HO q hq)⟩,jS⟩
    unfold th
    rw [Ob (bc.HV ao.lG.ok),FX ao.lG ar r8]
    refine(bc.filter _).trans ?_
    rw [List.filter_map]
    have:((fun a:Int×ax=>decide (a.1≠i.cB)) ∘ fun c:ax=>(c.cB,c))=fun c=>c.cB !=i.cB:=by
     funext c;show decide (c.cB≠i.cB)=_;by_cases e:c.cB=i.cB <;> simp [e]
    rw [this]
 have bb:gL l e=none:=by
  cases bb:gL l e with
  | none=>rfl
  | some i=>rw [bb] at aj;cases aj
 have:im l e=l:=by
  unfold im;exact List.filter_eq_self.2 fun c aj=>by rw [sA bb c aj];rfl
 rw [this]
 exact⟨ao,.refl⟩
theorem _root_.Gv.ed.next {β:Type}{n:Nat}{vis:List Nat}{k:Option Nat→aA β}{P:β→Prop}(h:∀ j,xZ n vis j→ed (k j) P):ed (aA.bind (aA.next n vis) k) P:=fun Q hq j aF=>h j aF Q hq
theorem _root_.Gv.ed.ze {T:Type}{xs:List T}{F:T→T→Option Int}{c:T→T→Int}(aj:vu c)(al:xs.length<4611686018427387904)(jy:∀ a∈xs,∀ b∈xs,F a b=some (c a b)):ed (aA.ze xs F) (fun r=>r.Perm xs∧r.Pairwise (fun a b=>c a b≤0)):=fun Q hq=>⟨c,aj,al,jy,fun ys h1 ad=>hq ys ⟨h1,ad⟩⟩
structure Met (n:Nat)(vis:List Nat):Prop where
 one:vis.Nodup
 lt:∀ q∈vis,q<n
theorem Met.more {n:Nat}{vis:List Nat}{q:Nat}(h:Met n vis)(hq:q<n∧q ∉ vis):Met n (vis++[q]):=
 ⟨by rw [List.nodup_append];exact⟨h.one,by simp,fun a bo b hb e=>by rw [List.mem_singleton.1 hb] at e;exact hq.2 (e ▸ bo)⟩,fun a bo=>by
  rcases List.mem_append.1 bo with bo | bo
  ·exact h.lt a bo
  rw [List.mem_singleton.1 bo];exact hq.1⟩
theorem Met.perm {n:Nat}{vis:List Nat}(h:Met n vis)(bo:∀ j,j<n→j∈vis):vis.Perm (List.range n):=
 (List.perm_ext_iff_of_nodup h.one List.nodup_range).2 fun a=>⟨fun h1=>List.mem_range.2 (h.lt a h1),fun h1=>bo a (List.mem_range.1 h1)⟩
theorem Met.full {n:Nat}{vis:List Nat}(h:Met n vis)(al:vis.length=n){q:Nat}(hq:q<n):q∈vis:=by
 false_or_by_contra;rename_i fU;have h1:vis.Perm ((List.range n).filter fun x=>decide (x∈vis)):=(List.perm_ext_iff_of_nodup h.one (List.nodup_range.filter _)).2 fun a=>by
  rw [List.mem_filter,List.mem_range,decide_eq_true_eq];exact⟨fun h1=>⟨h.lt a h1,h1⟩,fun h1=>h1.2⟩
 have ad:=h1.length_eq;have aD:((List.range n).filter fun x=>decide (x∈vis)).length<(List.range n).length:=List.length_filter_lt_length_iff_exists.2 ⟨q,List.mem_range.2 hq,by simpa using fU⟩;rw [List.length_range] at aD;omega
theorem YB {α:Type}[Inhabited α](l:List α):(List.range l.length).map (fun q=>ay l q)=l:=by
 apply List.ext_getElem
 ·simp
 intro i h1 ad;simp only [List.getElem_map,List.getElem_range];rw [eU _ ad]
def mX (a c:ax):Int:=Am a.bA c.bA
theorem Cz:k9 mX:=adm.on fun i:ax=>i.bA
theorem adr {s:aQ}(h:dj s){k:Nat}(hk:k<4){hp:aY Cell}{p:Nat}{l:List ax}{own:Nat→Prop}(ao:ml s k hp p l own)(hlen:l.length≤900):
 ed (Be hp (some p)) (fun r=>r.2=hp∧r.1.Perm l∧r.1.Pairwise (fun a b=>mX a b≤0)):=by
 obtain⟨f,m,em,h1,ad,aD,aZ,bc,bu⟩:=ao.cell
 have al:=ao.lG.ok
 have D8:em.length=l.length:=by rw [bc.length_eq,List.length_map]
 have zM:∀ q,q<em.length→ (ay em q).2∈l:=fun q hq=>by
  have hm:ay em q∈em:=by rw [eU _ hq];exact List.getElem_mem _
  obtain⟨i,ar,e⟩:=List.mem_map.1 (bc.mem_iff.1 hm);rw [← e];exact ar
 have DC:∀ vis,Met em.length vis→ (∀ j,j<em.length→j∈vis)→ (vis.map fun q=>(ay em q).2).Perm l:=fun vis a6 bo=>by
  refine((a6.perm bo).map _).trans ?_;have:(List.range em.length).map (fun q=>(ay em q).2)=em.map (·.2):=by
   rw [show(List.range em.length).map (fun q=>(ay em q).2)=((List.range em.length).map (fun q=>ay em q)).map (·.2) by rw [List.map_map];rfl,YB]
  rw [this];refine(bc.map (·.2)).trans ?_;rw [List.map_map,show((fun x:Int×ax=>x.2) ∘ fun i:ax=>(i.cB,i))=id from rfl,List.map_id]
 unfold Be
 refine .cond (fun aj=>by cases aj) fun _=>.eq rfl (.eq h1 (.eq rfl (.eq ad ?_)))
 refine .bind (P:=fun e=>e.2.2.Perm l) (ed.loop em.length (fun j st=> ∃ vis,st=(vis,vis.map fun q=>(ay em q).2)∧vis.length=j∧Met em.length vis) (by omega) ⟨[],rfl,rfl,.nil,by simp⟩ (fun j st aF hs=>?_) (fun st hs=>?_)) fun e he=>?_
 ·obtain⟨vis,rfl,q2,a6⟩:=hs
  refine .next fun o bk=>?_
  cases o with
  | none=>exact .cond (fun aj=>by cases aj) fun _=>.ret (DC vis a6 bk)
  | some q=>
    refine .cond (fun _=>.eq rfl (.eq (zb h hk (al.ok _ (zM q bk.1))) (.eq (iJ _ _ (by simp;omega) (by omega)) (.ret ⟨vis++[q],?_,by simp [q2],a6.more bk⟩)))) fun aj=>by cases aj
    rw [List.map_append];rfl
 ·obtain⟨vis,rfl,q2,a6⟩:=hs
  refine .next fun o bk=>?_
  cases o with
  | none=>exact .cond (fun aj=>by cases aj) fun _=>.ret (DC vis a6 bk)
  | some q=>exact absurd (a6.full q2 bk.1) bk.2
 have qg:∀ a∈e.2.2,a.bA.bY.length≤1000∧a.bA.hX.length≤1000:=fun a bo=>(al.ok a (he.mem_iff.1 bo)).small h hk
 have hle:=he.length_eq
 refine .bind (ed.ze (c:=mX) ⟨Cz.neg,Cz.nb⟩ (by omega) fun a bo b hb=>?_) fun br a7=>.ret ⟨rfl,a7.1.trans he,a7.2⟩
 unfold EZ
 rw [Z6 (qg a bo).1 (qg b hb).1 (qg a bo).2 (qg b hb).2]
 rfl
theorem Zi {s:aQ}{k:Nat}{l kA r kz:List ax}(al:gZ s k l)(hp:l.Perm kA)(h1:r.Perm l)(ad:kz.Perm kA)(s1:r.Pairwise (fun a b=>mX a b≤0))(s2:kz.Pairwise (fun a b=>mX a b≤0)):r=kz:=
 Pt Cz (h1.trans (hp.trans ad.symm)) s1 s2 fun a bo b hb e=>al.uniq (h1.mem_iff.1 bo) (h1.mem_iff.1 hb) (adn e)
theorem Qd {α:Type}{b:α→α→Bool}(hb:q9 b){q:α→Bool} :∀ {l:List α} {c:α},l.Pairwise (fun x y=>b x y=true)→l.find? q=some c→ ∀ d∈l,q d=true→d=c∨b c d=true
 | [],c,_,h,_,_,_=>by cases h
 | a::l,c,hs,h,d,hd,hq=>by
   obtain⟨h1,ad⟩:=List.pairwise_cons.1 hs;by_cases mW:q a=true
   ·rw [List.find?_cons_of_pos mW] at h;cases h;rcases List.mem_cons.1 hd with aD | aD
    ·exact .inl aD
    exact .inr (h1 d aD)
   rw [List.find?_cons_of_neg mW] at h;rcases List.mem_cons.1 hd with aD | aD
   ·rw [aD] at hq;exact absurd hq mW
   exact Qd hb ad h d aD hq
theorem afu {s:aQ}{k:Nat}{l:List ax}(al:jv s k l){p:Vector au 4}{c:ax}(h:ks s k l p=some c):∀ d∈l,mt s k p d.bA=true→d=c∨eJ s k c d=true:=fun d hd hq=>
 Qd (qB s k) (BO (qB s k) al.vx) h d (oC.2 hd) hq
theorem Zj {s:aQ}{k:Nat}{l kA:List ax}(al:jv s k l)(iB:jv s k kA)(hm:∀ i,i∈l↔i∈kA)(p:Vector au 4):ks s k l p=ks s k kA p:=by
 cases e:ks s k l p with
 | some c=>
   have hq:mt s k p c.bA=true:=by unfold ks at e;exact List.find?_some (p:=fun c:ax=>mt s k p c.bA) e
   exact(Ga (qB s k) iB.vx ((hm c).1 (JJ e)) hq fun d hd Mu=>afu al e d ((hm d).2 hd) Mu).symm
 | none=>
   refine(JE fun d hd=>?_).symm
   unfold ks at e
   have:=List.find?_eq_none.1 e d (oC.2 ((hm d).2 hd))
   simpa using this
def kB (r c:Int):Prop:=(r<0↔c<0)∧ (0<r↔0<c)
theorem kB.zero {r c:Int}(h:kB r c):r=0↔c=0:=by
 obtain⟨h1,ad⟩:=h;constructor
 ·intro e;have a: ¬ c<0:=fun x=>by have:=h1.2 x;omega
  have b: ¬ 0<c:=fun x=>by have:=ad.2 x;omega
  omega
 intro e;have a: ¬ r<0:=fun x=>by have:=h1.1 x;omega
 have b: ¬ 0<r:=fun x=>by have:=ad.1 x;omega
 omega
theorem kB.refl (r:Int):kB r r:=⟨Iff.rfl,Iff.rfl⟩
theorem Gr {α:Type}{f g:α→α→Int}{x y:α}(h:f x y=0):jF f g x y=g x y:=by unfold jF;rw [if_pos h]
theorem Gs {α:Type}{f g:α→α→Int}{x y:α}(h:f x y≠0):jF f g x y=f x y:=by unfold jF;rw [if_neg h]
theorem aaY {a b:au} :jU a b=true↔gB a<gB b:=by
 rw [yY];simp only [BitVec.lt_def];unfold gB;have h1:=a.cZ.isLt;have ad:=a.bS.isLt;have aD:=b.cZ.isLt;have aZ:=b.bS.isLt;constructor
 ·rintro (h | ⟨h,df⟩)
  ·omega
  rw [h];omega
 intro h;by_cases cu:a.cZ.toNat<b.cZ.toNat
 ·exact .inl cu
 have:a.cZ.toNat=b.cZ.toNat:=by omega
 exact .inr ⟨BitVec.eq_of_toNat_eq this,by omega⟩
theorem Ge (a b:au):bs (pM a b) (fun r=>kB r (fm (gB a) (gB b))):=by
 refine(Fz a b).mono fun r aR=>?_;obtain⟨h1,ad⟩:=aR;rw [aaY] at h1 ad;exact⟨by rw [SX];exact ad,by rw [C8];exact h1⟩
theorem B5 (a b:Int):o3 a b=some (fm a b):=by
 unfold o3 fm;by_cases h:a<b
 ·simp [h]
 by_cases ad:b<a
 ·simp [h,ad]
 simp [h,ad]
theorem YC (x y:b5):bs (vV x y) (fun r=>kB r (nG x y)):=by
 unfold vV nG;by_cases iS:x.ff=y.ff
 ·have z0:fm (lB x) (lB y)=0:=nf.2 (by unfold lB;rw [iS]);rw [show(x.ff !=y.ff)=false by simp [iS]];refine .cond (fun aj=>by simp at aj) fun _=>.cond (fun aj=>by cases aj) fun _=>?_;rw [Gr (f:=fun x y=>fm (lB x) (lB y)) z0];refine .cond (fun aj=>(Ge _ _).bind fun r aR=>.ret ?_) fun aj=>?_
  ·rw [Gs]
   ·exact aR
   intro h;have:=zd (nf.1 h);simp [this] at aj
  have aw:x.cM=y.cM:=by simpa using aj
  rw [Gr (f:=fun x y:b5=>fm (gB x.cM) (gB y.cM)) (show fm (gB x.cM) (gB y.cM)=0 by rw [aw];exact nf.2 rfl)];refine .cond (fun aj=>(Ge _ _).bind fun r aR=>.ret ?_) fun aj=>?_
  ·rw [Gs]
   ·exact aR
   intro h;have:=zd (nf.1 h);simp [this] at aj
  have aX:x.fE=y.fE:=by simpa using aj
  rw [Gr (f:=fun x y:b5=>fm (gB x.fE) (gB y.fE)) (show fm (gB x.fE) (gB y.fE)=0 by rw [aX];exact nf.2 rfl)];refine .cond (fun aj=>.eq (B5 _ _) (.ret ?_)) fun aj=>?_
  ·rw [Gs]
   ·exact kB.refl _
   intro h;have:=nf.1 h;simp [this] at aj
  have dc:x.dK=y.dK:=by simpa using aj
  rw [Gr (f:=fun x y:b5=>fm x.dK y.dK) (show fm x.dK y.dK=0 by rw [dc];exact nf.2 rfl)];exact(Ge _ _).bind fun r aR=>.ret aR
 rw [show(x.ff !=y.ff)=true by simp [iS]];have hs:fm (lB x) (lB y)=if y.ff=true then -1 else 1:=by
  unfold lB fm;cases ao:x.ff <;> cases a7:y.ff <;> simp_all
 have da:fm (lB x) (lB y)≠0:=by rw [hs];split <;> decide
 rw [Gs (f:=fun x y=>fm (lB x) (lB y)) da];show bs _ (fun r=>kB r (fm (lB x) (lB y)));rw [hs];refine .cond (fun aj=>.ret ?_) fun aj=>.cond (fun _=>.ret ?_) fun aj=>by cases aj
 ·rw [if_pos (by simpa using aj)];exact kB.refl _
 rw [if_neg (by simpa using aj)];exact kB.refl _
theorem Qe {α:Type}[Inhabited α]{g:α→α→Int}{f:α→α→Option Int}(bb:∀ a b,bs (f a b) (fun r=>kB r (g a b))){xs ys:List α}(ao:xs.length≤100000)(a7:ys.length≤100000):
 bs ((ey (σ:=Int) (ε:=(Int×Bool) ⊕ (Int×Int×Int×Bool×Bool)) et (fun s1=>
 cond ((decide (s1<(xs.length:Int)))&&(decide (s1<(ys.length:Int)))) (
  (idx xs.length s1).bind fun aJ=>
  (idx ys.length s1).bind fun bT=>
  (f (ay xs aJ) (ay ys bT)).bind fun aE=>
  cond (aE !=0) (
   some (.inr (Sum.inr (aE,s1,aE,(decide (s1<(xs.length:Int)))&&(decide (s1<(ys.length:Int))),aE !=0)))) (
   some (.inl (bE (s1+1))))) (
  some (.inr (Sum.inl (s1,(decide (s1<(xs.length:Int)))&&(decide (s1<(ys.length:Int)))))))) 0).bind fun aw=>
 Sum.elim (fun aw=>
  (o3 (xs.length:Int) (ys.length:Int)).bind fun an=>
  some an) (fun aw=>
 some aw.1) aw) (fun r=>kB r (lc g xs ys)):=by
 refine .bind (P:=fun e=>(∃ q,e= .inl q∧lc g xs ys=fm (xs.length:Int) (ys.length:Int))∨ ∃ q:Int×Int×Int×Bool×Bool,e= .inr q∧kB q.1 (lc g xs ys))
  (bs.sY (min xs.length ys.length) (fun j st=>st=(j:Int)∧lc g xs ys=lc g (xs.drop j) (ys.drop j)) (by omega) ⟨rfl,rfl⟩ (fun j st aF hs=>?_) (fun st hs=>?_)) fun e he=>?_
 ·obtain⟨rfl,hs⟩:=hs
  have MC:j<xs.length:=by omega
  have xP:j<ys.length:=by omega
  refine .cond (fun _=>?_) fun aj=>by
   rw [decide_eq_true (show(j:Int)<(xs.length:Int) by omega),decide_eq_true (show(j:Int)<(ys.length:Int) by omega)] at aj;cases aj
  rw [List.drop_eq_getElem_cons MC,List.drop_eq_getElem_cons xP] at hs
  refine .idx rfl MC (.idx rfl xP ((bb _ _).bind fun r aR=>?_))
  rw [eU _ MC,eU _ xP] at aR
  have hs:lc g xs ys=if g xs[j] ys[j]=0 then lc g (xs.drop (j+1)) (ys.drop (j+1)) else g xs[j] ys[j]:=hs
  refine .cond (fun aj=>.ret (.inr ⟨_,rfl,?_⟩)) fun aj=>.ret ⟨e0 (by omega),?_⟩
  ·have:r≠0:=by simpa using aj
   rw [hs,if_neg (fun h=>this (aR.zero.2 h))];exact aR
  have:r=0:=by simpa using aj
  rw [hs,if_pos (aR.zero.1 this)]
 ·obtain⟨rfl,hs⟩:=hs
  refine .cond (fun aj=>by
   rw [Bool.and_eq_true,decide_eq_true_eq,decide_eq_true_eq] at aj;omega) fun _=>.ret (.inl ⟨_,rfl,?_⟩)
  rw [hs]
  rcases Nat.lt_trichotomy xs.length ys.length with h | h | h
  ·rw [show min xs.length ys.length=xs.length by omega,List.drop_length]
   cases hd:ys.drop xs.length with
   | nil=>have:=List.drop_eq_nil_iff.1 hd;omega
   | cons z tJ=>
     unfold fm
     rw [if_pos (by omega)];rfl
  ·rw [show min xs.length ys.length=xs.length by omega,List.drop_length,h,List.drop_length,nf.2 rfl];rfl
  rw [show min xs.length ys.length=ys.length by omega,List.drop_length]
  cases hd:xs.drop ys.length with
  | nil=>have:=List.drop_eq_nil_iff.1 hd;omega
  | cons z tJ=>
    unfold fm
    rw [if_neg (by omega),if_pos (by omega)];rfl
 rcases he with⟨q,rfl,hq⟩ | ⟨q,rfl,hq⟩
 ·simp only [Sum.elim_inl]
  refine .eq (B5 _ _) (.ret ?_)
  rw [hq];exact kB.refl _
 simp only [Sum.elim_inr]
 exact .ret hq
theorem Oc {xs ys:List b5}(ao:xs.length≤1000)(a7:ys.length≤1000):bs (tZ xs ys) (fun r=>kB r (lc nG xs ys)):=by
 unfold tZ;exact Qe YC (by omega) (by omega)
theorem XJ {xs ys:List au}(ao:xs.length≤1000)(a7:ys.length≤1000):bs (vS xs ys) (fun r=>kB r (lc (fun v w=>fm (gB v) (gB w)) xs ys)):=by
 unfold vS;exact Qe Ge (by omega) (by omega)
theorem YD {l:List Int}(al:l.length≤1000):bs (ey (σ:=Int) (ε:=(Int×Bool) ⊕ (Int×Int×Int×Bool×Bool)) et (fun s1=>
 cond (decide (s1<(l.length:Int))) (
  (idx l.length s1).bind fun aJ=>
  cond ((ay l aJ) !=0) (
   some (.inr (Sum.inr (ay l aJ,ay l aJ,s1,decide (s1<(l.length:Int)),(ay l aJ) !=0)))) (
   some (.inl (bE (s1+1))))) (
  some (.inr (Sum.inl (s1,decide (s1<(l.length:Int))))))) 0) (fun e=>(∃ q,e= .inl q∧lR l=0)∨ ∃ q:Int×Int×Int×Bool×Bool,e= .inr q∧q.1=lR l∧lR l≠0):=by
 refine bs.sY l.length (fun j st=>st=(j:Int)∧lR l=lR (l.drop j)) (by omega) ⟨rfl,rfl⟩ (fun j st aF hs=>?_) (fun st hs=>?_)
 ·obtain⟨rfl,hs⟩:=hs
  rw [List.drop_eq_getElem_cons aF] at hs
  have hs:lR l=if l[j]=0 then lR (l.drop (j+1)) else l[j]:=hs
  refine .cond (fun _=>.idx rfl aF ?_) fun aj=>by simp at aj;omega
  rw [eU _ aF]
  refine .cond (fun aj=>.ret (.inr ⟨_,rfl,?_⟩)) fun aj=>.ret ⟨e0 (by omega),?_⟩
  ·have:l[j]≠0:=by simpa using aj
   rw [hs,if_neg this];exact⟨rfl,this⟩
  have:l[j]=0:=by simpa using aj
  rw [hs,if_pos this]
 obtain⟨rfl,hs⟩:=hs
 refine .cond (fun aj=>by simp at aj) fun _=>.ret (.inl ⟨_,rfl,?_⟩)
 rw [hs,List.drop_length];rfl
theorem afv (a b c d:Int):lR [a,b,c,d]=if a=0 then(if b=0 then(if c=0 then d else c) else b) else a:=by
 have hd:lR [d]=d:=by
  show(if d=0 then 0 else d)=d;split
  ·rename_i h;exact h.symm
  rfl
 show(if a=0 then(if b=0 then(if c=0 then lR [d] else c) else b) else a)=_;rw [hd]
theorem ads {t p m EM a v f:Int}(hm:kB m EM)(bb:f=if t=0 then(if p=0 then(if m=0 then a else m) else p) else t):
 (f≠0→kB f (if t=0 then(if p=0 then(if EM=0 then(if a=0 then v else a) else EM) else p) else t))∧ (f=0→ (if t=0 then(if p=0 then(if EM=0 then(if a=0 then v else a) else EM) else p) else t)=v):=by
 have dS:=hm.zero
 by_cases bP:t=0
 ·rw [if_pos bP] at bb
  by_cases hp:p=0
  ·rw [if_pos hp] at bb
   by_cases bR:m=0
   ·rw [if_pos bR] at bb
    rw [if_pos bP,if_pos hp,if_pos (dS.1 bR)]
    by_cases bo:a=0
    ·rw [if_pos bo];exact⟨fun h=>absurd (bb.trans bo) h,fun _=>rfl⟩
    rw [if_neg bo,bb];exact⟨fun _=>kB.refl _,fun h=>absurd h bo⟩
   rw [if_neg bR] at bb
   rw [if_pos bP,if_pos hp,if_neg (fun h=>bR (dS.2 h)),bb]
   exact⟨fun _=>hm,fun h=>absurd h bR⟩
  rw [if_neg hp] at bb
  rw [if_pos bP,if_neg hp,bb]
  exact⟨fun _=>kB.refl _,fun h=>absurd h hp⟩
 rw [if_neg bP] at bb
 rw [if_neg bP,bb]
 exact⟨fun _=>kB.refl _,fun h=>absurd h bP⟩
theorem aaa {x y:bd}(h1:x.bY.length≤1000)(ad:y.bY.length≤1000)(aD:x.hX.length≤1000)(aZ:y.hX.length≤1000):bs (ua x y) (fun r=>kB r (Am x y)):=by
 unfold ua;refine .eq (B5 _ _) (.eq (B5 _ _) ((Oc h1 ad).bind fun br MD=>.eq (B5 _ _) ((YD (l:= [fm x.dB y.dB,fm y.fG x.fG,br,fm x.jd y.jd]) (by simp)).bind fun e he=>?_)));have ag6:Am x y=if fm x.dB y.dB=0 then(if fm y.fG x.fG=0 then(if lc nG x.bY y.bY=0 then(if fm x.jd y.jd=0 then lc (fun v w=>fm (gB v) (gB w)) x.hX y.hX else fm x.jd y.jd) else lc nG x.bY y.bY) else fm y.fG x.fG) else fm x.dB y.dB:=rfl;obtain⟨aJ,bT⟩:=ads (v:=lc (fun v w=>fm (gB v) (gB w)) x.hX y.hX) MD (afv (fm x.dB y.dB) (fm y.fG x.fG) br (fm x.jd y.jd));rw [← ag6] at aJ bT;rcases he with⟨q,rfl,bR⟩ | ⟨q,rfl,hq,bR⟩
 ·simp only [Sum.elim_inl];refine(XJ aD aZ).bind fun r aR=>.ret ?_;rw [bT bR];exact aR
 simp only [Sum.elim_inr];refine .ret ?_;rw [hq];exact aJ bR
theorem Jl {x y:bd}(h1:x.bY.length≤1000)(ad:y.bY.length≤1000):vQ x y=some (hn x y):=by
 refine bs.get ?_;unfold vQ;refine .cH (P:=fun r=>kB r (lc nG x.bY y.bY)) (fun _=>Oc h1 ad) fun r aR=>.eq rfl (.ret ?_);rw [Bool.eq_iff_iff,uF];simp only [Bool.and_eq_true,beq_iff_eq] at aR ⊢;constructor
 ·rintro ⟨⟨aw,aX⟩,dc⟩;exact⟨aw,JK (fun _ _=>Qc) ((aR ⟨aw,aX⟩).zero.1 dc),aX⟩
 rintro ⟨aw,aX,dc⟩;exact⟨⟨aw,dc⟩,(aR ⟨aw,dc⟩).zero.2 (by rw [aX];exact(KO KP).self _)⟩
structure tQ (s:aQ)(y:bJ)(l:List ax):Prop where
 ME:y.h6=s
 HQ:y.b0.Pairwise (fun a b=>mX a b≤0)
 nB:y.b0.Perm l
theorem gZ.perm {s:aQ}{k:Nat}{l kA:List ax}(h:gZ s k l)(hp:kA.Perm l):gZ s k kA:=
 ⟨⟨fun i ar=>h.ok.ok i (hp.mem_iff.1 ar),(hp.pairwise_iff (R:=fun a c:ax=>a.cB≠c.cB) (fun {a b} cu=>Ne.symm cu)).2 h.ok.num,by rw [hp.length_eq];exact h.ok.len⟩,(hp.pairwise_iff (R:=fun a c:ax=>hn a.bA c.bA=false) (fun {a b} cu=>by rw [qu];exact cu)).2 h.key⟩
theorem Pw {l:List ax}{n:Int} :iY l n=true↔ ∃ i∈l,i.cB=n:=by
 unfold iY;rw [List.any_eq_true];exact⟨fun⟨i,ar,e⟩=>⟨i,ar,by simpa using e⟩,fun⟨i,ar,e⟩=>⟨i,ar,by simpa using e⟩⟩
theorem YE {l:List ax}{i b:ax}(hb:b∈l)(h:hn i.bA b.bA=true∨i.cB=b.cB):pC l i=false:=by
 unfold pC;rcases h with h | h
 ·cases bb:gL l i.bA with
  | some _=>rfl
  | none=>have:=sA bb b hb;rw [qu,h] at this;cases this
 rw [Pw.2 ⟨b,hb,h.symm⟩];simp
theorem Zk {l:List ax}{i:ax}(h:∀ b∈l,hn i.bA b.bA=false∧i.cB≠b.cB):pC l i=true:=by
 unfold pC;have h1:gL l i.bA=none:=List.find?_eq_none.2 fun b hb=>by rw [qu,(h b hb).1];simp
 have ad:iY l i.cB=false:=by
  cases e:iY l i.cB with
  | false=>rfl
  | true=>obtain⟨b,hb,aO⟩:=Pw.1 e;exact absurd aO.symm (h b hb).2
 rw [h1,ad];rfl
theorem XK {α:Type}[Inhabited α]{l:List α}{j:Nat}(h:j<l.length):l.drop j=ay l j::l.drop (j+1):=by rw [eU _ h];exact List.drop_eq_getElem_cons h
theorem aab {s:aQ}(hs:dj s){k:Nat}(hk:k<4){y:bJ}{l:List ax}(h:tQ s y l)(al:gZ s k l){i:ax}(ar:kc s k i)(hlen:l.length<900):
 bs (Bc y i) (fun r=>r.1=pC l i∧tQ s r.2 (added l i)):=by
 have MF:=h.nB.length_eq
 have MG:=ar.small hs hk
 unfold Bc
 refine .bind (P:=fun e=>(∃ q:Int×Int×Bool,e= .inl q∧pC l i=true∧ ∃ a:Nat,q.1=(a:Int)∧a≤y.b0.length∧ (∀ b∈y.b0.take a,mX b i≤0)∧ ∀ b∈y.b0.drop a,0≤mX b i)∨ ((∃ q,e= .inr q)∧pC l i=false))
  (bs.sY y.b0.length (fun j st=> ∃ a:Nat,st=((a:Int),(j:Int))∧a≤j∧ (∀ b∈y.b0.take a,mX b i≤0)∧ (∀ b∈ (y.b0.take j).drop a,0≤mX b i)∧ ∀ b∈y.b0.take j,hn i.bA b.bA=false∧i.cB≠b.cB) (by omega) ⟨0,rfl,Nat.le_refl _,fun b hb=>by simp at hb,fun b hb=>by simp at hb,fun b hb=>by simp at hb⟩ (fun j st aF eS=>?_) (fun st eS=>?_)) fun e he=>?_
 ·obtain⟨a,rfl,Un,h1,ad,aD⟩:=eS
  have hm:ay y.b0 j∈y.b0:=by rw [eU _ aF];exact List.getElem_mem _
  have mR:=h.nB.mem_iff.1 hm
  have qg:=(al.ok.ok _ mR).small hs hk
  refine .cond (fun _=>.idx rfl aF (.eq (Jl MG.1 qg.1) (.cond (fun aj=>.ret (.inr ⟨⟨_,rfl⟩,?_⟩)) fun aj=>?_))) fun aj=>by simp at aj;omega
  ·rw [Bool.or_eq_true,beq_iff_eq] at aj
   exact YE mR aj
  rw [Bool.or_eq_false_iff,beq_eq_false_iff_ne] at aj
  refine(aaa qg.1 MG.1 qg.2 MG.2).bind fun r aR=>?_
  have MD:∀ b∈y.b0.take (j+1),hn i.bA b.bA=false∧i.cB≠b.cB:=fun b hb=>by
   rw [oj _ aF] at hb;rcases List.mem_append.1 hb with hb | hb
   ·exact aD b hb
   rw [List.mem_singleton.1 hb];exact aj
  refine .bind (P:=fun m=> ∃ a:Nat,m=(a:Int)∧a≤j+1∧ (∀ b∈y.b0.take a,mX b i≤0)∧ (∀ b∈ (y.b0.take (j+1)).drop a,0≤mX b i)) (.cond (fun aO=>.ret ⟨j+1,e0 (by omega),Nat.le_refl _,fun b hb=>?_,fun b hb=>?_⟩) fun aO=>.ret ⟨a,rfl,by omega,h1,fun b hb=>?_⟩) fun m ⟨gX,bo,aZ,bc,bu⟩=>.ret ⟨gX,by rw [bo,e0 (by omega)],aZ,bc,bu,MD⟩
  ·have ct:mX (ay y.b0 j) i<0:=aR.1.1 (of_decide_eq_true aO)
   rw [oj _ aF] at hb
   rcases List.mem_append.1 hb with hb | hb
   ·have hp:=h.HQ
    rw [← List.take_append_drop j y.b0,List.pairwise_append] at hp
    have hd:ay y.b0 j∈y.b0.drop j:=by rw [XK aF];exact List.mem_cons_self
    exact Cz.nb _ _ _ (hp.2.2 b hb _ hd) (by omega)
   rw [List.mem_singleton.1 hb];omega
  ·rw [List.drop_eq_nil_of_le (by rw [List.length_take];omega)] at hb;cases hb
  have aO:=of_decide_eq_false aO
  rw [oj _ aF,List.drop_append_of_le_length (by rw [List.length_take];omega)] at hb
  rcases List.mem_append.1 hb with hb | hb
  ·exact ad b hb
  rw [List.mem_singleton.1 hb]
  have: ¬ mX (ay y.b0 j) i<0:=fun cu=>aO (aR.1.2 cu)
  omega
 ·obtain⟨a,rfl,Un,h1,ad,aD⟩:=eS
  rw [List.take_length] at ad aD
  exact .cond (fun aj=>by simp at aj) fun _=>.ret (.inl ⟨_,rfl,Zk fun b hb=>aD b (h.nB.mem_iff.2 hb),a,rfl,Un,h1,ad⟩)
 rcases he with⟨⟨aw,aX,dc⟩,rfl,bP,a,UK,aO,hy,eL⟩ | ⟨⟨q,rfl⟩,bP⟩
 ·simp only at UK
  subst UK
  simp only [Sum.elim_inl]
  refine .eq (a:=y.b0.take a) (by unfold qz;rw [if_pos ⟨by omega,by omega,by omega⟩];simp) ?_
  refine .eq (iJ _ _ (by simp;omega) (by omega)) (.eq (iJ _ _ (by simp;omega) (by omega)) (.eq (a:=y.b0.drop a) (by unfold qz;rw [if_pos ⟨by omega,by omega,by omega⟩,List.take_of_length_le (by simp)];rfl) (.eq (iJ _ _ (by simp;omega) (by omega)) (.ret ⟨bP.symm,h.ME,?_,?_⟩))))
  ·simp only [List.nil_append]
   have hp:=h.HQ
   rw [← List.take_append_drop a y.b0,List.pairwise_append] at hp
   have pw:∀ b∈y.b0.drop a,mX i b≤0:=fun b hb=>by
    have h1:=eL b hb;have ad:=(Cz.neg b i).2;have: ¬ 0<mX i b:=fun cu=>by have:=ad cu;omega
    omega
   rw [List.append_assoc,List.pairwise_append]
   refine⟨hp.1,?_,fun x ao z dS=>?_⟩
   ·rw [List.singleton_append,List.pairwise_cons]
    exact⟨pw,hp.2.1⟩
   rw [List.singleton_append] at dS
   rcases List.mem_cons.1 dS with e | dS
   ·rw [e];exact hy x ao
   exact hp.2.2 x ao z dS
  simp only [List.nil_append]
  unfold added
  rw [if_pos bP,List.append_assoc]
  have ad:(y.b0.take a++(y.b0.drop a++[i]))=y.b0++[i]:=by rw [← List.append_assoc,List.take_append_drop]
  have aD:(y.b0.take a++(y.b0.drop a++[i])).Perm (l++[i]):=by rw [ad];exact h.nB.append_right _
  exact(List.Perm.append_left _ List.perm_append_comm).trans aD
 simp only [Sum.elim_inr]
 refine .ret ⟨bP.symm,?_⟩
 unfold added
 rw [if_neg (by rw [bP];simp)]
 exact h
theorem Px {s:aQ}(hs:dj s){k:Nat}(hk:k<4){y:bJ}{l:List ax}(h:tQ s y l)(al:gZ s k l){e:bd}(he:il s k e):ye y e=some (kQ (gL l e)):=by
 have MF:=h.nB.length_eq;have hlen:=al.ok.len;have MH:=(show kc s k { bA:=e,cB:=0,o9:=0 } from⟨he⟩).small hs hk;refine bs.get ?_;unfold ye;refine .bind (P:=fun x=>(∃ q,x= .inl q∧gL l e=none)∨ ∃ q:Bool×Int×Bool×Bool×ax,x= .inr q∧q.1=true∧gL l e=some q.2.2.2.2)
  (bs.sY y.b0.length (fun j st=>st=(j:Int)∧ ∀ b∈y.b0.take j,hn b.bA e=false) (by omega) ⟨rfl,fun b hb=>by simp at hb⟩ (fun j st aF eS=>?_) (fun st eS=>?_)) fun x ao=>?_
 ·obtain⟨rfl,h1⟩:=eS;have hm:ay y.b0 j∈y.b0:=by rw [eU _ aF];exact List.getElem_mem _
  have mR:=h.nB.mem_iff.1 hm;have qg:=(al.ok.ok _ mR).small hs hk;refine .cond (fun _=>.idx rfl aF (.eq (Jl MH.1 qg.1) (.cond (fun aj=>.ret (.inr ⟨_,rfl,rfl,?_⟩)) fun aj=>.ret ⟨e0 (by omega),fun b hb=>?_⟩))) fun aj=>by simp at aj;omega
  ·exact al.aaS mR (by rw [qu];exact aj)
  rw [oj _ aF] at hb;rcases List.mem_append.1 hb with hb | hb
  ·exact h1 b hb
  rw [List.mem_singleton.1 hb,qu];exact aj
 ·obtain⟨rfl,h1⟩:=eS;rw [List.take_length] at h1;exact .cond (fun aj=>by simp at aj) fun _=>.ret (.inl ⟨_,rfl,List.find?_eq_none.2 fun b hb=>by rw [h1 b (h.nB.mem_iff.2 hb)];simp⟩)
 rcases ao with⟨q,rfl,hq⟩ | ⟨q,rfl,hq,bb⟩
 ·simp only [Sum.elim_inl];rw [hq];exact .ret rfl
 simp only [Sum.elim_inr];rw [bb,hq];exact .ret rfl
theorem XL {s:aQ}(hs:dj s){k:Nat}(hk:k<4){y:bJ}{l:List ax}(h:tQ s y l)(al:gZ s k l){e:bd}(he:il s k e):
 bs (AQ y e) (fun r=>(r.1,r.2.1)=kQ (gL l e)∧tQ s r.2.2 (im l e)):=by
 have MF:=h.nB.length_eq
 have hlen:=al.ok.len
 have MH:=(show kc s k { bA:=e,cB:=0,o9:=0 } from⟨he⟩).small hs hk
 unfold AQ
 refine .eq (Px hs hk h al he) (.bind (P:=fun x=>x.2.2=im y.b0 e) (bs.sY y.b0.length (fun j st=>st=((j:Int),im (y.b0.take j) e)) (by omega) rfl (fun j st aF eS=>?_) (fun st eS=>?_)) fun x ao=>.ret ⟨rfl,h.ME,?_,?_⟩)
 ·subst eS
  have hm:ay y.b0 j∈y.b0:=by rw [eU _ aF];exact List.getElem_mem _
  have qg:=(al.ok.ok _ (h.nB.mem_iff.1 hm)).small hs hk
  have hle:=List.length_filter_le (fun c:ax=> !hn c.bA e) (y.b0.take j)
  rw [List.length_take] at hle
  have xL:im (y.b0.take (j+1)) e=im (y.b0.take j) e++(if hn (ay y.b0 j).bA e=true then [] else [ay y.b0 j]):=by
   unfold im;rw [oj _ aF,List.filter_append,List.filter_cons];cases hn (ay y.b0 j).bA e <;> rfl
  refine .cond (fun _=>.idx rfl aF (.eq (Jl MH.1 qg.1) (.bind (P:=fun m=>m=im (y.b0.take (j+1)) e) (.cond (fun aj=>.eq (iJ _ _ (by simp only [List.length_cons,List.length_nil];unfold im;omega) (by omega)) (.ret ?_)) fun aj=>.ret ?_) fun m hm=>.ret (by rw [hm,e0 (by omega)])))) fun aj=>by simp at aj;omega
  ·rw [xL,qu,if_neg (by simpa using aj)]
  rw [xL,qu,if_pos (by simpa using aj),List.append_nil]
 ·subst eS
  refine .cond (fun aj=>by simp at aj) fun _=>.ret ?_
  show im (List.take _ _) _=_
  rw [List.take_length]
 ·rw [ao];exact h.HQ.sublist List.filter_sublist
 rw [ao];exact h.nB.filter _
theorem XM {s:aQ}(hs:dj s){k:Nat}(hk:k<4){y:bJ}{l:List ax}(h:tQ s y l)(al:gZ s k l)(p:Vector au 4):AR y p=some (kQ (ks s k l p)):=by
 have a7:=al.perm h.nB;refine bs.get ?_;unfold AR;rw [h.ME];refine .eq (Z2 hs hk a7.ok p) (.ret ?_);rw [← Zj a7.ok al.ok (fun i=>h.nB.mem_iff) p];rfl
theorem aac {s:aQ}{k:Nat}{hp:aY Cell}{p:Nat}{l:List ax}{own:Nat→Prop}(ao:ml s k hp p l own):qn hp (some p)=some (kf k):=by
 obtain⟨f,m,em,h1,_⟩:=ao.cell;refine bs.get ?_;unfold qn;exact .cond (fun aj=>by cases aj) fun _=>.eq rfl (.eq h1 (.ret rfl))
theorem wv (t:bl){r:Int}(aS:List cW)(hk:t.b4=aS)(h:yI { (default:bl) with b4:=aS } =some r):yI t=some r:=by
 subst hk;exact h
theorem Zl {s:aQ}(h:dj s){k:Nat}(hk:k<4):yI (ay s.bh k)=some (kf k):=by
 obtain⟨dM,eC,hK,e⟩:=h.Ep;have e:=e k hk;have gy:(ay s.bh k).b4=(ay (rV dM eC hK) k).2.2:=congrArg (·.2.2) e;have:k=0∨k=1∨k=2∨k=3:=by omega
 rcases this with rfl | rfl | rfl | rfl
 ·exact wv _ [pH] gy rfl
 ·cases dM
  ·exact wv _ [si] gy rfl
  exact wv _ [si,EG] gy rfl
 ·cases eC
  ·exact wv _ [x0,xK] gy rfl
  exact wv _ [x0,xK,H2] gy rfl
 cases hK
 ·exact wv _ [x1] gy rfl
 exact wv _ [x1,H3,si] gy rfl
theorem Ke {s:aQ}(h:dj s){k:Nat}(hk:k<4){l:List ax}(al:∀ i∈l,kc s k i){o:Option ax}(bk:∀ i,o=some i→i∈l):qo (kQ o).1 (kQ o).1=some true:=by
 cases o with
 | none=>exact FP (Nat.zero_le _) (Nat.zero_le _)
 | some c=>have:=(al c (bk c rfl)).small h hk;exact FP this.1 this.2
theorem YF {l:List ax}{i:ax} :(added l i).length≤l.length+1:=by
 unfold added;split
 ·simp
 omega
theorem WX (hp:aY Cell)(J ai:List (BitVec 8))(aL:Int):ed (A9 hp J ai aL) (fun r=>r.1=true):=by
 unfold A9;refine .k5 (JA J 120 (by omega) (by omega)) fun aE h1=>.k5 (Oq aE h1) fun an ad=>.k5 (JA ai 220 (by omega) (by omega)) fun br aD=>?_;obtain⟨s,H7⟩:=an;obtain⟨h,_⟩:=ad;simp only at h ⊢;obtain⟨m,em,hi,ck⟩:=PX aL (s.bh.length:Int) (by rw [h.lj];omega) (by rw [h.lj];omega);obtain⟨k,rfl⟩:=Int.eq_ofNat_of_zero_le hi;have hk:k<4:=by have:=h.lj;omega
 refine .eq em (.idx rfl (by rw [h.lj];exact hk) ?_);rw [(h.jD hk).1];refine .bind (aaU h hk hp) fun bz bc=>?_;obtain⟨ah7,dd⟩:=bz;obtain⟨p,iF,ao,_⟩:=bc;simp only at iF ao;subst iF;refine .eq (aac ao) (.eq (Zl h hk) (.cond (fun aj=>by simp at aj) fun _=>?_));refine .bind (P:=fun e=> ∃ q,e= .inl q)
  (ed.loop 24 (fun j st=> ∃ l y c hp' own,st=((j:Int),y,c,hp')∧ml s k hp' p l own∧tQ s y l∧l.length≤j∧hh c) (by omega) ⟨[],_,br,dd,_,rfl,ao,⟨rfl,.nil,.nil⟩,Nat.le_refl _,aD⟩ (fun j st aF hs=>?_) (fun st hs=>?_)) fun e he=>?_
 ·obtain⟨l,y,c,hp',own,rfl,ao,aR,xM,Uo⟩:=hs;have Ab:=ao.lG;have al:=ao.lG.ok;have MF:=aR.nB.length_eq;refine .cH (P:=fun _=>True) (fun _=>Zc _) fun cT _=>.cond (fun aj=>?_) fun aj=>.ret ⟨_,rfl⟩;refine .k5 (Yj c aL Uo h) fun gW ⟨gz,k',jQ,tv,he⟩=>?_;have jS:k'=k:=by rw [em] at tv;simp only [Option.some.injEq] at tv;omega
  subst jS;refine .bind (P:=fun r=>hh r.2) (.cond (fun _=>.of (nL _ gz)) fun _=>.ret gz) fun dm kO=>?_;refine .k5 (P:=fun m=>hh m.1∧il s k' m.2) (.cond (fun aj=>?_) fun _=>.ret ⟨kO,he⟩) fun m1 ck=>?_
  ·rw [Bool.and_eq_true,decide_eq_true_eq] at aj;refine(gp _ _ kO (by omega)).bind fun vj MI=>?_;obtain⟨n,aO⟩:=Int.eq_ofNat_of_zero_le MI.2.1;have Up:n<y.b0.length:=by have bc:vj.1<(y.b0.length:Int):=MI.2.2.1;omega
   refine .idx aO Up (.ret ⟨MI.1,?_⟩);have hm:ay y.b0 n∈y.b0:=by rw [eU _ Up];exact List.getElem_mem _
   exact(al.ok _ (aR.nB.mem_iff.1 hm)).fC
  obtain⟨c1,e⟩:=m1;obtain⟨dQ,xQ⟩:=ck;simp only at dQ xQ ⊢;refine .k5 (gp _ 6 dQ (by omega)) fun c5 sa=>?_;refine .k5 (P:=fun _=>True) (.cond (fun _=>.ret trivial) fun _=>.bind (P:=fun _=>True) (.cond (fun _=>.ret trivial) fun _=>.ret trivial) fun _ _=>.ret trivial) fun m2 _=>?_;refine .bind (P:=fun m3=>m3.1=m3.2.1∧m3.2.2.2.2.1=m3.2.2.2.1∧qo m3.2.2.2.1 m3.2.2.2.1=some true∧hh m3.2.2.1∧ ∃ kA own',ml s k' m3.2.2.2.2.2.2 p kA own'∧tQ s m3.2.2.2.2.2.1 kA∧kA.length≤j+1) (.cond (fun _=>?_) fun _=>.bind (P:=fun m3=>m3.1=m3.2.1∧m3.2.2.2.2.1=m3.2.2.2.1∧qo m3.2.2.2.1 m3.2.2.2.1=some true∧hh m3.2.2.1∧ ∃ kA own',ml s k' m3.2.2.2.2.2.2 p kA own'∧tQ s m3.2.2.2.2.2.1 kA∧kA.length≤j+1) (.cond (fun _=>?_) fun _=>?_) fun m4 aZ=>.ret aZ) fun m3 gj=>?_
  ·refine .k5 (gp _ 60 sa.1 (by omega)) fun qU ag7=>.k5 (gp _ 3 ag7.1 (by omega)) fun oQ ag8=>.eq rfl ?_;have ar:kc s k' { bA:=e,cB:=qU.1,o9:=oQ.1 } :=⟨xQ⟩;refine .bind (aaV h hk ao ar (by omega)) fun lY Uq=>.k5 (aab h hk aR Ab ar (by omega)) fun zT Ur=>.ret ⟨Uq.1.trans Ur.1.symm,rfl,FP (Nat.zero_le _) (Nat.zero_le _),ag8.1,_,_,Uq.2.1,Ur.2,?_⟩;have:=YF (l:=l) (i:= { bA:=e,cB:=qU.1,o9:=oQ.1 });omega
  ·refine .bind (YA h hk ao xQ) fun tn Us=>.k5 (XL h hk aR Ab xQ) fun r2 Ut=>.ret ?_;have aw:=Us.1;have aX:=Ut.1;have f1:=congrArg Prod.fst aw;have f2:=congrArg Prod.snd aw;have g1:=congrArg Prod.fst aX;have g2:=congrArg Prod.snd aX;simp only at f1 f2 g1 g2;refine⟨f2.trans g2.symm,f1.trans g1.symm,?_,sa.1,_,_,Us.2.1,Ut.2,?_⟩
   ·show qo r2.1 r2.1=_;rw [g1];exact Ke h hk al.ok fun i ar=>(sy ar).1
   have:=List.length_filter_le (fun c:ax=> !hn c.bA e) l;unfold im;omega
  ·refine .k5 (P:=fun m=>m.1=m.2.1∧m.2.2.2.2=m.2.2.2.1∧qo m.2.2.2.1 m.2.2.2.1=some true∧hh m.2.2.1) (.cond (fun _=>?_) fun _=>?_) fun m5 bc=>.ret ⟨bc.1,bc.2.1,bc.2.2.1,bc.2.2.2,l,own,ao,aR,by omega⟩
   ·exact .eq (Qa h hk ao xQ) (.eq (Px h hk aR Ab xQ) (.ret ⟨rfl,rfl,Ke h hk al.ok fun i ar=>(sy ar).1,sa.1⟩))
   refine(Yk _ sa.1).bind fun xq ag9=>(Yy h hk xQ _).bind fun vi ah8=>.eq (Yt h hk ao _) (.eq (XM h hk aR Ab _) (.ret ⟨rfl,rfl,Ke h hk al.ok fun i ar=>JJ ar,ag9⟩))
  obtain⟨ok,is,c2,b,a,UL,dq⟩:=m3;obtain⟨aw,aX,dc,gA,kA,own',ju,ia,iB⟩:=gj;simp only at aw aX dc gA ju ia iB ⊢;subst aw aX;have da:(ok !=ok)=false:=by simp
  have afw:=ia.nB.length_eq;rw [da];refine .eq (a:=true) (by unfold cH;rw [if_pos rfl];exact dc) (.eq (a:=(kA.length:Int)) (by unfold cH;rw [if_pos (show(false|| !true)=false from rfl)];exact aaT ju) (.eq rfl ?_));rw [afw,show((false|| !true)||((kA.length:Int) !=(kA.length:Int)))=false by simp];refine .bind (P:=fun r=>r.2=dq∧r.1.Perm kA∧r.1.Pairwise (fun a b=>mX a b≤0)) (.cond (fun _=>adr h hk ju (by omega)) fun aj=>by simp at aj) fun lX aha=>?_;obtain⟨r,hB⟩:=lX;obtain⟨f1,f2,f3⟩:=aha;simp only at f1 f2 f3 ⊢;subst f1;have Eg:r=UL.b0:=Zi ju.lG (List.Perm.refl _) f2 ia.nB f3 ia.HQ;subst Eg;refine .eq (a:=true) (by unfold cH;rw [if_pos rfl];exact WW (fun i ar=>(ju.lG.ok.ok i (f2.mem_iff.1 ar)).small h hk) (by omega)) (.cond (fun aj=>by cases aj) fun _=>.ret ⟨kA,UL,c2,hB,own',by rw [e0 (by omega)],ju,ia,iB,gA⟩)
 ·obtain⟨l,y,c,hp',own,rfl,ao,aR,xM,Uo⟩:=hs;exact .cH (P:=fun _=>True) (fun aj=>by simp at aj) fun cT _=>.cond (fun aj=>by simp at aj) fun aj=>.ret ⟨_,rfl⟩
 obtain⟨q,rfl⟩:=he;simp only [Sum.elim_inl];exact .bind (Z4 _) fun xr ahb=>.ret ahb
theorem WB (J ai:List (BitVec 8))(aL:Int):A9 [] J ai aL (fun r=>r.1=true):=(WX [] J ai aL).run
end Go.Proofs.YtelbhaohleeijaaGreat
