/-
  What the programs compute, in plain Lean. Conditions: none.
-/
import Derived.Test.YtmnggbjcnoffeaaGreatMp0
namespace Go.Proofs.YtmnggbjcnoffeaaGreat
open Go Gv
set_option linter.unusedVariables false
set_option linter.unusedSimpArgs false
set_option maxRecDepth 100000
structure kD (s:a0) (k:Nat) (l:List aU):Prop where
 ok:iC s k l
 key:l.Pairwise fun a c=>kV a.cr c.cr=false
theorem kD.uniq {s:a0} {k:Nat} {l:List aU} (h:kD s k l) {a c:aU} (a9:a∈l) (ao:c∈l) (e:kV a.cr c.cr=true):a=c:=by
 have aO:=h.key
 clear h
 induction l with
 | nil=>cases a9
 | cons x l bO=>
   obtain⟨J,ab⟩:=List.pairwise_cons.1 aO
   rcases List.mem_cons.1 a9 with au | au <;> rcases List.mem_cons.1 ao with aT | aT
   ·rw [au,aT]
   ·rw [au,J c aT] at e; cases e
   ·rw [aT,Mp,J a au] at e; cases e
   ·exact bO au aT ab
def h6 (l:List aU) (e:bL):Option aU:=l.find? fun i=>kV i.cr e
theorem Cq {l:List aU} {e:bL} {i:aU} (h:h6 l e=some i):i∈l∧kV i.cr e=true:=by
 unfold h6 at h
 have ab:=List.find?_some h
 exact⟨List.mem_of_find?_eq_some h,ab⟩
theorem v9 {l:List aU} {e:bL} (h:h6 l e=none):∀ i∈l,kV i.cr e=false:=fun i aj=>by
 have:=List.find?_eq_none.1 h i aj
 simpa using this
def ve (o:Option aU):Int × Bool:=match o with | some i=>(i.cg,true) | none=>(0,false)
def vf {α β:Type} (l:List (α × β)):Prop:=l.Pairwise fun a c=>a.1≠c.1
theorem LM {α β:Type} [DecidableEq α]:∀ {l:List (α × β)} {x:α} {v:β} {a:α × β},a∈gr l x v→a.1=x∨a∈l
 | [],x,v,a,h=>by
   have:a=(x,v):=by simpa [gr] using h
   rw [this]; exact .inl rfl
 | (k,w) :: r,x,v,a,h=>by
   unfold gr at h
   split at h
   ·rcases List.mem_cons.1 h with h | h
    ·rw [h]; exact .inl rfl
    ·exact .inr (by simp [h])
   ·rcases List.mem_cons.1 h with h | h
    ·exact .inr (by simp [h])
    ·exact(LM h).imp id fun h=>List.mem_cons_of_mem _ h
theorem vf.put {α β:Type} [DecidableEq α]:∀ {l:List (α × β)} {x:α} {v:β},vf l→vf (gr l x v)
 | [],x,v,_=>by unfold gr vf; simp
 | (k,w) :: r,x,v,h=>by
   obtain⟨J,ab⟩:=List.pairwise_cons.1 h
   unfold gr
   split
   ·rename_i e
    refine List.pairwise_cons.2 ⟨fun a a9=> ?_,ab⟩
    have:=J a a9
    rw [e]; exact this
   ·rename_i e
    refine List.pairwise_cons.2 ⟨fun a a9=> ?_,vf.put ab⟩
    rcases LM a9 with g | g
    ·rw [g]; exact fun e'=>e e'.symm
    ·exact J a g
structure CQ (s:a0) (hp:bg Cell) (q:Nat) (l:List aU) (own:Nat→Prop):Prop where
 ok:∃ m em,ou hp q=some ⟨⟨some m⟩⟩∧mZ hp m=some em∧own q∧own m∧ (∀ ee n,e3 em ee=some n↔ ∃ i∈l,gR i.cr=ee∧i.cg=n)∧vf em
structure og (s:a0) (hp:bg Cell) (m:Nat) (l:List aU) (own:Nat→Prop):Prop where
 ok:∃ em,kp hp m=some em∧own m∧
  (∀ ee r,e3 em ee=some r→ ∃ t g,r=some t∧kZ hp t g∧ (∀ q,Own hp t q→own q)∧ ∀ bK n,g bK=some n↔ ∃ i∈l,kg (gR i.cr)=ee∧mF i.cr=bK∧i.cg=n)∧
  (∀ ee,e3 em ee=none→ ∀ i∈l,kg (gR i.cr)≠ee)∧
  (∀ ee kx t h8,e3 em ee=some (some t)→e3 em kx=some (some h8)→ee≠kx→ ∀ q,Own hp t q→ ¬ Own hp h8 q)∧vf em
structure CR (s:a0) (k:Nat) (hp:bg Cell) (q:Nat) (l:List aU) (own:Nat→Prop):Prop where
 ok:∃ key cap,ov hp q=some (wO s k l,key,cap)∧own q
def sD (s:a0) (k:Nat) (hp:bg Cell) (f:g3) (l:List aU) (own:Nat→Prop):Prop:=
 (k=0∧ ∃ q,f= .nB ⟨some q⟩∧CQ s hp q l own)∨ (k=1∧ ∃ m,f= .nC ⟨0,32,⟨some m⟩⟩∧og s hp m l own)∨ (2≤k∧ ∃ q,f= .nD ⟨some q⟩∧CR s k hp q l own)
theorem KA {hp hp':bg Cell} {p:Nat} (h:pat hp' p=pat hp p):ou hp' p=ou hp p:=by unfold ou; rw [h]
theorem Sy {hp hp':bg Cell} {p:Nat} (h:pat hp' p=pat hp p):mZ hp' p=mZ hp p:=by unfold mZ; rw [h]
theorem E5 {hp hp':bg Cell} {p:Nat} (h:pat hp' p=pat hp p):kp hp' p=kp hp p:=by unfold kp; rw [h]
theorem Sz {hp hp':bg Cell} {p:Nat} (h:pat hp' p=pat hp p):ov hp' p=ov hp p:=by unfold ov; rw [h]
theorem SA {hp hp':bg Cell} {p:Nat} (h:pat hp' p=pat hp p):jF hp' p=jF hp p:=by unfold jF; rw [h]
theorem SB {hp hp':bg Cell} {p:Nat} (h:pat hp' p=pat hp p):ny hp' p=ny hp p:=by unfold ny; rw [h]
theorem sD.congr {s:a0} {k:Nat} {hp hp':bg Cell} {f:g3} {l:List aU} {own:Nat→Prop} (h:sD s k hp f l own) {own':Nat→Prop} (bo:∀ q,q∈eG hp→own q→own' q) (a9:∀ q,own q→pat hp' q=pat hp q):sD s k hp' f l own':=by
 rcases h with⟨rfl,q,rfl,h⟩ | ⟨rfl,m,rfl,h⟩ | ⟨aq,q,rfl,h⟩
 ·obtain⟨m,em,J,ab,aE,aW,aX,l9⟩:=h.ok
  refine .inl ⟨rfl,q,rfl,⟨m,em,by rw [KA (a9 q aE)]; exact J,by rw [Sy (a9 m aW)]; exact ab,bo q (lC (wk J)) aE,bo m (lC (tV ab)) aW,aX,l9⟩⟩
 ·obtain⟨em,J,ab,aE,aW,aX,l9⟩:=h.ok
  have key:∀ ee r,e3 em ee=some r→ ∃ t g,r=some t∧kZ hp t g∧kZ hp' t g∧ (∀ q,Own hp t q→own q)∧ (∀ q,Own hp' t q↔Own hp t q)∧ ∀ bK n,g bK=some n↔ ∃ i∈l,kg (gR i.cr)=ee∧mF i.cr=bK∧i.cg=n:=fun ee r aQ=>by
   obtain⟨t,g,rfl,au,aT,bq⟩:=aE ee r aQ
   obtain⟨cx,gT⟩:=au.congr fun q hq=>a9 q (aT q hq)
   exact⟨t,g,rfl,au,cx,aT,gT,bq⟩
  refine .inr (.inl ⟨rfl,m,rfl,⟨em,by rw [E5 (a9 m ab)]; exact J,bo m (lC (pM J)) ab,fun ee r aQ=> ?_,aW,fun ee kx t h8 cc nb dk q hq=> ?_,l9⟩⟩)
  ·obtain⟨t,g,rfl,g0,au,aT,bq,cx⟩:=key ee r aQ
   exact⟨t,g,rfl,au,fun q hq=>bo q (g0.wB ((bq q).1 hq)) (aT q ((bq q).1 hq)),cx⟩
  ·obtain⟨_,g,e,g0,au,aT,bq,cx⟩:=key ee _ cc
   obtain⟨_,fh,e',abg,abh,abi,aaf,abj⟩:=key kx _ nb
   cases e; cases e'
   rw [aaf]
   exact aX ee kx t h8 cc nb dk q ((bq q).1 hq)
 ·obtain⟨key,cap,J,ab⟩:=h.ok
  exact .inr (.inr ⟨aq,q,rfl,⟨key,cap,by rw [Sz (a9 q ab)]; exact J,bo q (lC (y7 J)) ab⟩⟩)
theorem F2 {e:bL} (al:e.cu.length≤4):tt e=some (gR e):=by
 refine a6.get ?_
 unfold tt
 refine .eq (a:=e.cu) (by unfold tX; rw [if_pos ⟨by omega,by omega,by omega⟩,Int.toNat_zero,List.drop_zero,Nat.sub_zero,List.take_of_length_le (by omega)]) ?_
 refine a6.loop e.cu.length (fun i st=>st.1=(i:Int)∧ ∀ j,j < 4→bd st.2 j=if j < i then(aB e.cu j).bW else default) (by omega) ⟨rfl,fun j aF=>by rw [rZ]; rfl⟩ (fun i st aj hs=> ?_) (fun st hs=> ?_)
 ·obtain⟨j,v⟩:=st
  obtain⟨ay,aS⟩:=hs
  simp only at ay aS; subst ay
  refine .cond (fun _=> ?_) (fun ao=>by simp at ao; omega)
  refine .idx rfl aj (.idx rfl (by omega) (.ret ⟨dz (by omega),fun j aF=> ?_⟩))
  rw [eK _ _ (by omega)]
  by_cases jb:j=i
  ·rw [if_pos jb,if_pos (by omega),jb]
  ·rw [if_neg jb,aS j aF]
   by_cases h:j < i
   ·rw [if_pos h,if_pos (by omega)]
   ·rw [if_neg h,if_neg (by omega)]
 ·obtain⟨j,v⟩:=st
  obtain⟨ay,aS⟩:=hs
  simp only at ay aS; subst ay
  refine⟨_,by simp; rfl,.ret ?_⟩
  exact Cm fun j aF=>by rw [aS j aF,v8 aF]
theorem ie.HJ {s:a0} (h:de s) {k:Nat} (aq:k < 4) {e:bL} (he:ie s k e):e.cu.length≤4∧1≤e.cu.length:=by
 have:=(h.jd aq).2.1
 rw [he.len]; omega
theorem T7 {a c:List cA} (al:a.length≤1000):xx a c=some (decide (a=c)):=by
 refine a6.get ?_
 unfold xx
 refine .cond (fun h=> .ret ?_) fun h=> ?_
 ·have:a≠c:=fun e=>by rw [e] at h; simp at h
  simp [this]
 have rD:c.length=a.length:=by
  have:(a.length:Int)=c.length:=by simpa using h
  omega
 refine a6.loop a.length (fun i st=>st=(i:Int)∧ ∀ j,j < i→aB a j=aB c j) (by omega) ⟨rfl,fun j aF=>by omega⟩ (fun i st aj hs=> ?_) (fun st hs=> ?_)
 ·obtain⟨rfl,hs⟩:=hs
  refine .cond (fun _=> ?_) (fun ao=>by simp at ao; omega)
  refine .idx rfl aj (.idx rfl (by omega) (.cond (fun dk=> .ret ?_) fun he=> .ret ⟨dz (by omega),fun j aF=> ?_⟩))
  ·simp only [Sum.elim_inr]
   refine .ret ?_
   have:a≠c:=fun e=>by rw [e] at dk; simp at dk
   simp [this]
  ·by_cases jb:j=i
   ·subst jb; simpa using he
   ·exact hs j (by omega)
 ·obtain⟨rfl,hs⟩:=hs
  refine⟨_,by simp; rfl,?_⟩
  simp only [Sum.elim_inl]
  refine .ret ?_
  have:a=c:=List.ext_getElem rD.symm fun j J ab=>by
   have:=hs j J
   rwa [dU _ J,dU _ ab] at this
  simp [this]
theorem SV {a c:bL} (al:a.cu.length≤1000):x4 a c=some (kV a c):=by
 refine a6.get ?_
 unfold x4 kV
 refine .cX (P:=fun r=>r=decide (a.cu=c.cu)) (fun _=>⟨_,T7 al,rfl⟩) fun y a4=> .ret ?_
 by_cases h:a.dJ=c.dJ
 ·rw [a4 (by simpa using h)]
  rw [Bool.eq_iff_iff]
  simp [h]
 ·simp [h]
theorem XG {s:a0} (h:de s) {hp:bg Cell} {q:Nat} {l:List aU} {own:Nat→Prop} (hq:CQ s hp q l own) (al:kD s 0 l) {e:bL} (he:ie s 0 e):xS hp ⟨some q⟩ e=some (ve (h6 l e)):=by
 obtain⟨m,em,J,ab,_,_,aX,_⟩:=hq.ok
 refine a6.get ?_
 unfold xS BN
 refine .eq (F2 (he.HJ h (by decide)).1) ?_
 have hm:e3 em (gR e)=(h6 l e).map (·.cg):=by
  cases a7:h6 l e with
  | none=>
    cases bZ:e3 em (gR e) with
    | none=>rfl
    | some n=>
      obtain⟨i,aj,bk,_⟩:=(aX _ _).1 bZ
      have:=v9 a7 i aj
      rw [(IT h (al.ok.ok i aj).fl he).2 bk] at this; cases this
  | some i=>
    obtain⟨aj,aq⟩:=Cq a7
    exact(aX _ _).2 ⟨i,aj,(IT h (al.ok.ok i aj).fl he).1 aq,rfl⟩
 refine .eq (a:=ve (h6 l e)) ?_ (.ret rfl)
 show(ou hp q).bind _=_
 rw [J]
 show(mZ hp m).bind _=_
 rw [ab]
 show some ((e3 em (gR e)).getD default,(e3 em (gR e)).isSome)=_
 rw [hm]
 cases h6 l e <;> rfl
theorem Ms {s:a0} (h:de s) {e:bL} (he:ie s 1 e) (m:gp):vm ⟨0,32,m⟩ e=some (kg (gR e),(aB e.cu 0).bW,(aB e.cu 0).gV):=by
 have al:=he.HJ h (by decide)
 refine a6.get ?_
 unfold vm Bn
 refine .eq (F2 al.1) (.eq (a:=(kg (gR e),bd (gR e) 0)) rfl (.cond (fun ao=>by have ao:(0:Int)≥ (e.cu.length:Int):=of_decide_eq_true ao; omega) fun _=> .idx (k:=0) rfl (by omega) (.ret ?_)))
 rw [v8 (by decide),if_pos (by omega)]
theorem LN {m:cA} (h:o3 2 32 m):∀ j,j < 128→bV m.bW j=true→lead 32 m.gV j=true:=fun j aF a3=>
 (zb h.pre.1 h.pre.2).2 (h.IL rfl j aF a3)
theorem XH {s:a0} (h:de s) {hp:bg Cell} {m:Nat} {l:List aU} {own:Nat→Prop} (hq:og s hp m l own) (al:kD s 1 l) {e:bL} (he:ie s 1 e):xE hp ⟨0,32,⟨some m⟩⟩ e=some (ve (h6 l e)):=by
 obtain⟨em,J,_,aE,aW,_⟩:=hq.ok
 have hJ:=DA h he
 refine a6.get ?_
 unfold xE
 refine .eq (Ms h he _) (.eq rfl (.eq J (.eq rfl ?_)))
 obtain⟨n,aO⟩:=Int.eq_ofNat_of_zero_le hJ.pre.1
 have HK:n≤32:=by have:=hJ.pre.2; omega
 have zx:=LN hJ
 refine .eq (a:=ve (h6 l e)) ?_ (.ret rfl)
 simp only
 cases aQ:e3 em (kg (gR e)) with
 | none=>
   have a7:h6 l e=none:=by
    cases a7:h6 l e with
    | none=>rfl
    | some i=>
      obtain⟨aj,aq⟩:=Cq a7
      exact absurd ((Ea h (al.ok.ok i aj).fl he).1 aq).1 (aW _ aQ i aj)
   rw [a7]; rfl
 | some r=>
   obtain⟨t,g,rfl,au,_,bq⟩:=aE _ _ aQ
   have bZ:g (mF e)=(h6 l e).map (·.cg):=by
    cases a7:h6 l e with
    | none=>
      cases IU:g (mF e) with
      | none=>rfl
      | some n=>
        obtain⟨i,aj,bk,cV,_⟩:=(bq _ _).1 IU
        have:=v9 a7 i aj
        rw [(Ea h (al.ok.ok i aj).fl he).2 ⟨bk,cV⟩] at this; cases this
    | some i=>
      obtain⟨aj,aq⟩:=Cq a7
      obtain⟨bk,cV⟩:=(Ea h (al.ok.ok i aj).fl he).1 aq
      exact(bq _ _).2 ⟨i,aj,bk,cV,rfl⟩
   rw [aO] at zx ⊢
   show vC hp (some t) _ (n:Int)=_
   rw [Vw au HK zx]
   have hp':g5 (aB e.cu 0).bW n=mF e:=by unfold mF; rw [aO]; rfl
   rw [hp',bZ]
   cases h6 l e <;> rfl
theorem XI {s:a0} (h:de s) {k:Nat} (aq:k < 4) {hp:bg Cell} {q:Nat} {l:List aU} {own:Nat→Prop} (hq:CR s k hp q l own) (al:kD s k l) {e:bL} (he:ie s k e):xV hp ⟨some q⟩ e=some (ve (h6 l e)):=by
 obtain⟨key,cap,J,_⟩:=hq.ok
 refine a6.get ?_
 unfold xV
 refine .eq rfl (.eq J (.eq (Vv h aq al.ok) ?_))
 obtain⟨n1,jN⟩:=al.ok.iE
 have a7:h6 l e=(iE (fG s k) l).find? fun i=>kV i.cr e:=by
  cases a7:h6 l e with
  | none=>
    symm
    rw [List.find?_eq_none]
    intro x an
    rw [v9 a7 x (ub.1 an)]; simp
  | some i=>
    obtain⟨aj,uY⟩:=Cq a7
    exact(UP (CO s k) al.ok.PJ aj uY fun d hd aag=> .inl (al.uniq hd aj (T6 aag (by rw [Mp]; exact uY)))).symm
 rw [a7]
 refine a6.loop (iE (fG s k) l).length (fun i st=>st=(i:Int)∧ ∀ j,j < i→kV (aB (iE (fG s k) l) j).cr e=false) (by omega) ⟨rfl,fun j aF=>by omega⟩ (fun i st aj hs=> ?_) (fun st hs=> ?_)
 ·obtain⟨rfl,hs⟩:=hs
  refine .cond (fun _=> ?_) (fun ao=>by simp at ao; omega)
  have hm:=n1 (aB (iE (fG s k) l) i) (by rw [dU _ aj]; exact List.getElem_mem _)
  refine .idx rfl aj (.eq (SV (hm.small h aq).1) (.cond (fun ao=> .ret ?_) fun ao=> .ret ⟨dz (by omega),fun j aF=> ?_⟩))
  ·simp only [Sum.elim_inr]
   refine .ret ?_
   rw [UF (p:=fun i=>kV i.cr e) aj ao hs]; rfl
  ·by_cases jb:j=i
   ·subst jb; exact ao
   ·exact hs j (by omega)
 ·obtain⟨rfl,hs⟩:=hs
  refine⟨_,by simp; rfl,?_⟩
  simp only [Sum.elim_inl]
  refine .ret ?_
  rw [UG fun c ao=> ?_]
  ·rfl
  ·obtain⟨j,aF,rfl⟩:=List.mem_iff_getElem.1 ao
   rw [← dU _ aF]; exact hs j aF
theorem XJ {s:a0} (h:de s) {k:Nat} (aq:k < 4) {hp:bg Cell} {f:g3} {l:List aU} {own:Nat→Prop} (hq:sD s k hp f l own) (al:kD s k l) {e:bL} (he:ie s k e):EC hp f e=some (ve (h6 l e)):=by
 rcases hq with⟨rfl,q,rfl,hq⟩ | ⟨rfl,m,rfl,hq⟩ | ⟨cD,q,rfl,hq⟩
 ·exact XG h hq al he
 ·exact XH h hq al he
 ·exact XI h aq hq al he
end Go.Proofs.YtmnggbjcnoffeaaGreat
namespace Go.Proofs.YtmnggbjcnoffeaaGreat
open Go Gv
set_option linter.unusedVariables false
set_option linter.unusedSimpArgs false
set_option maxRecDepth 100000
def mq (own:Nat→Prop) (hp hp':bg Cell) (q:Nat):Prop:=own q∨ (q ∉ eG hp∧q∈eG hp')
theorem T8 {hp:bg Cell} {p:Nat} {k:Cell} {x:List (Vector aw 4 × Int)} (h:pat hp p=some k):mZ (ea hp p (.o4 x)) p=some x:=by unfold mZ; rw [wz h]
theorem T9 {hp:bg Cell} {p:Nat} {k:Cell} {x:List (Vector aw 4 × Ref)} (h:pat hp p=some k):kp (ea hp p (.m4 x)) p=some x:=by unfold kp; rw [wz h]
theorem Y4 {s:a0} (h:de s) {hp:bg Cell} {q:Nat} {l:List aU} {own:Nat→Prop} (hq:CQ s hp q l own) (al:kD s 0 l) {i:aU} (aj:ll s 0 i) (a7:h6 l i.cr=none):
 a6 (xY hp ⟨some q⟩ i) (fun hp'=>CQ s hp' q (l ++ [i]) (mq own hp hp')∧gN hp hp' own):=by
 obtain⟨m,em,J,ab,aE,aW,aX,l9⟩:=hq.ok
 have fZ:e3 em (gR i.cr)=none:=by
  cases bZ:e3 em (gR i.cr) with
  | none=>rfl
  | some n=>
    obtain⟨c,ao,bk,_⟩:=(aX _ _).1 bZ
    have:=v9 a7 c ao
    rw [(IT h (al.ok.ok c ao).fl aj.fl).2 bk] at this; cases this
 unfold xY BO
 refine .eq (F2 (aj.fl.HJ h (by decide)).1) ?_
 refine .eq (a:=(true,ea hp m (Cell.o4 (gr em (gR i.cr) i.cg)))) ?_ (.ret ?_)
 ·show(ou hp q).bind _=_
  rw [J]
  show(mZ hp m).bind _=_
  rw [ab]
  show cond (e3 em (gR i.cr)).isSome _ _=_
  rw [fZ]; rfl
 have IV:q≠m:=fun e=>by
  subst e
  have:=wk J
  rw [tV ab] at this; cases this
 refine⟨⟨m,_,by rw [KA (r8 IV.symm)]; exact J,T8 (tV ab),.inl aE,.inl aW,fun ee n=> ?_,l9.put⟩,.up aW⟩
 rw [yG]
 by_cases kv:ee=gR i.cr
 ·rw [if_pos kv]
  constructor
  ·intro e
   cases e
   exact⟨i,by simp,kv.symm,rfl⟩
  ·rintro ⟨c,ao,bk,cV⟩
   rcases List.mem_append.1 ao with ao | ao
   ·have:=(aX _ _).2 ⟨c,ao,bk,cV⟩
    rw [kv,fZ] at this; cases this
   ·rw [List.mem_singleton.1 ao] at cV; rw [cV]
 ·rw [if_neg kv,aX]
  constructor
  ·rintro ⟨c,ao,bk⟩; exact⟨c,by simp [ao],bk⟩
  ·rintro ⟨c,ao,bk,cV⟩
   rcases List.mem_append.1 ao with ao | ao
   ·exact⟨c,ao,bk,cV⟩
   ·rw [List.mem_singleton.1 ao] at bk; exact absurd bk.symm kv
theorem Y5 {s:a0} (h:de s) {hp:bg Cell} {m:Nat} {l:List aU} {own:Nat→Prop} (hq:og s hp m l own) (eJ:∀ q,own q→q∈eG hp) (al:kD s 1 l) {i:aU} (aj:ll s 1 i) (a7:h6 l i.cr=none)
 {em:List (Vector aw 4 × Ref)} (nU:kp hp m=some em) {t:Nat} (cc:e3 em (kg (gR i.cr))=some (some t)):
 eB (vF hp (some t) (aB i.cr.cu 0).bW (aB i.cr.cu 0).gV i.cg) (fun r=>og s r.2 m (l ++ [i]) (mq own hp r.2)∧gN hp r.2 own):=by
 obtain⟨aah,J,ab,aE,aW,aX,l9⟩:=hq.ok
 rw [nU] at J; cases J
 have hJ:=DA h aj.fl
 obtain⟨h8,g,e,au,aT,bq⟩:=aE _ _ cc
 cases e
 obtain⟨n,aO⟩:=Int.eq_ofNat_of_zero_le hJ.pre.1
 have HK:n≤32:=by have:=hJ.pre.2; omega
 have zx:=LN hJ
 have hp':g5 (aB i.cr.cu 0).bW n=mF i.cr:=by unfold mF; rw [aO]; rfl
 have fZ:g (mF i.cr)=none:=by
  cases IU:g (mF i.cr) with
  | none=>rfl
  | some n=>
    obtain⟨c,ao,bk,cV,_⟩:=(bq _ _).1 IU
    have:=v9 a7 c ao
    rw [(Ea h (al.ok.ok c ao).fl aj.fl).2 ⟨bk,cV⟩] at this; cases this
 rw [aO] at zx ⊢
 refine(Xz au HK zx i.cg (by rw [hp']; exact fZ)).mono fun r aQ=> ?_
 obtain⟨_,n1,jN,va⟩:=aQ
 rw [hp'] at n1
 have D9:∀ q,Own hp t q→q≠m:=fun q aai e=>by
  have:=pM nU
  rw [← e] at this
  rcases au.Nd aai with⟨c,ao⟩ | ⟨c,ao⟩ <;> rw [ao] at this <;> cases this
 have m8:pat r.2 m=pat hp m:=jN.rest m (lC (pM nU)) fun hq=>D9 m hq rfl
 have CS:∀ ee h8,ee≠kg (gR i.cr)→e3 em ee=some (some h8)→ ∃ fh,kZ hp h8 fh∧kZ r.2 h8 fh∧ (∀ q,Own hp h8 q→own q)∧ (∀ q,Own r.2 h8 q↔Own hp h8 q)∧ ∀ bK n,fh bK=some n↔ ∃ i∈l,kg (gR i.cr)=ee∧mF i.cr=bK∧i.cg=n:=fun ee h8 dk aQ=>by
  obtain⟨abk,fh,e,eL,eR,kd⟩:=aE ee _ aQ
  cases e
  obtain⟨e6,gy⟩:=eL.congr (hp':=r.2) fun q hq=>jN.rest q (eL.wB hq) fun gv=>aX _ _ _ _ cc aQ dk.symm q gv hq
  exact⟨fh,eL,e6,eR,gy,kd⟩
 have z0:∀ q,Own r.2 t q→mq own hp r.2 q:=fun q hq=>by
  rcases va q hq with bk | bk
  ·exact .inl (aT q bk)
  ·exact .inr ⟨bk,n1.wB hq⟩
 refine⟨⟨em,by rw [E5 m8]; exact nU,.inl ab,fun ee rK jc=> ?_,fun ee kv c ao=> ?_,fun ee kx t1 t2 nV nc dk q pr oE=> ?_,l9⟩,⟨jN.keys,fun q hq fZ=>jN.rest q hq fun gv=>fZ (aT q gv)⟩⟩
 ·by_cases kv:ee=kg (gR i.cr)
  ·subst kv
   rw [cc] at jc; cases jc
   refine⟨t,_,rfl,n1,z0,fun bK Jg=> ?_⟩
   by_cases AP:bK=mF i.cr
   ·simp only [if_pos AP]
    constructor
    ·intro e; cases e
     exact⟨i,by simp,rfl,AP.symm,rfl⟩
    ·rintro ⟨c,ao,bk,cV,eS⟩
     rcases List.mem_append.1 ao with ao | ao
     ·have:=(bq _ _).2 ⟨c,ao,bk,cV,eS⟩
      rw [AP,fZ] at this; cases this
     ·rw [List.mem_singleton.1 ao] at eS; rw [eS]
   ·simp only [if_neg AP]
    rw [bq]
    constructor
    ·rintro ⟨c,ao,bk⟩; exact⟨c,by simp [ao],bk⟩
    ·rintro ⟨c,ao,bk,cV,eS⟩
     rcases List.mem_append.1 ao with ao | ao
     ·exact⟨c,ao,bk,cV,eS⟩
     ·rw [List.mem_singleton.1 ao] at cV; exact absurd cV.symm AP
  ·obtain⟨h8,fh,e,_⟩:=aE ee rK jc
   subst e
   obtain⟨PS,eL,eR,kd,lR,rL⟩:=CS ee h8 kv jc
   refine⟨h8,PS,rfl,eR,fun q hq=> .inl (kd q ((lR q).1 hq)),fun bK Jg=> ?_⟩
   rw [rL]
   constructor
   ·rintro ⟨c,ao,bk⟩; exact⟨c,by simp [ao],bk⟩
   ·rintro ⟨c,ao,bk,cV⟩
    rcases List.mem_append.1 ao with ao | ao
    ·exact⟨c,ao,bk,cV⟩
    ·rw [List.mem_singleton.1 ao] at bk; exact absurd bk.symm kv
 ·rcases List.mem_append.1 ao with ao | ao
  ·exact aW ee kv c ao
  ·rw [List.mem_singleton.1 ao]
   intro e
   rw [← e,cc] at kv; cases kv
 ·
  have Nf:∀ ee h8,ee≠kg (gR i.cr)→e3 em ee=some (some h8)→ ∀ q,Own r.2 t q→ ¬ Own r.2 h8 q:=fun ee h8 dk aQ q hq gv=>by
   obtain⟨PS,eL,eR,kd,lR,rL⟩:=CS ee h8 dk aQ
   have gv:=(lR q).1 gv
   rcases va q hq with bk | bk
   ·exact aX _ _ _ _ cc aQ dk.symm q bk gv
   ·exact bk (eL.wB gv)
  by_cases ay:ee=kg (gR i.cr)
  ·subst ay
   rw [cc] at nV; cases nV
   exact Nf kx t2 dk.symm nc q pr oE
  ·by_cases aS:kx=kg (gR i.cr)
   ·subst aS
    rw [cc] at nc; cases nc
    exact Nf ee t1 ay nV q oE pr
   ·obtain⟨_,_,_,_,lR,_⟩:=CS ee t1 ay nV
    obtain⟨_,_,_,_,Qg,_⟩:=CS kx t2 aS nc
    exact aX _ _ _ _ nV nc dk q ((lR q).1 pr) ((Qg q).1 oE)
end Go.Proofs.YtmnggbjcnoffeaaGreat
namespace Go.Proofs.YtmnggbjcnoffeaaGreat
open Go Gv
set_option linter.unusedVariables false
set_option linter.unusedSimpArgs false
set_option maxRecDepth 100000
theorem R4 {own:Nat→Prop} {bP J ab:bg Cell} {q:Nat} (aq:∀ q,q∈eG bP→q∈eG J) (cD:∀ q,q∈eG J→q∈eG ab) (h:mq (mq own bP J) J ab q):mq own bP ab q:=by
 rcases h with(h | ⟨h,cR⟩) | ⟨h,cR⟩
 ·exact .inl h
 ·exact .inr ⟨h,cD q cR⟩
 ·exact .inr ⟨fun aE=>h (aq q aE),cR⟩
theorem og.mono {s:a0} {hp:bg Cell} {m:Nat} {l:List aU} {own own':Nat→Prop} (h:og s hp m l own) (bo:∀ q,own q→own' q):og s hp m l own':=by
 obtain⟨em,J,ab,aE,aW,aX,l9⟩:=h.ok
 exact⟨em,J,bo m ab,fun ee r aQ=>by obtain⟨t,g,e,a,b,c⟩:=aE ee r aQ; exact⟨t,g,e,a,fun q hq=>bo q (b q hq),c⟩,aW,aX,l9⟩
theorem gN.grow {bP J ab:bg Cell} {own:Nat→Prop} (a:gN bP J own) (b:gN J ab (mq own bP J)):gN bP ab own:=
 a.trans b fun q hq h=>h.elim (fun h=>h) fun h=>absurd hq h.1
theorem Y6 {s:a0} {hp:bg Cell} {m:Nat} {l:List aU} {own:Nat→Prop} (hq:og s hp m l own)
 {em:List (Vector aw 4 × Ref)} (nU:kp hp m=some em) {ee:Vector aw 4} (fZ:e3 em ee=none) {a:Nat} (a9:a ∉ eG hp) {z:gA} (dh:z.fU=32) (aQ:z.dr=none):
 og s (ea ((a,Cell.jX z) :: hp) m (.m4 (gr em ee (some a)))) m l (mq own hp (ea ((a,Cell.jX z) :: hp) m (.m4 (gr em ee (some a)))))∧gN hp (ea ((a,Cell.jX z) :: hp) m (.m4 (gr em ee (some a)))) own∧
  kp (ea ((a,Cell.jX z) :: hp) m (.m4 (gr em ee (some a)))) m=some (gr em ee (some a)):=by
 obtain⟨aah,J,ab,aE,aW,aX,l9⟩:=hq.ok
 rw [nU] at J; cases J
 have m8:=pM nU
 have PT:=yH a9 m8
 have cB:pat ((a,Cell.jX z) :: hp) m=some (.m4 em):=by rw [sd,if_neg PT]; exact m8
 generalize fp:ea ((a,Cell.jX z) :: hp) m (.m4 (gr em ee (some a)))=dZ
 have au:kp dZ m=some (gr em ee (some a)):=by rw [← fp]; exact T9 cB
 have aT:pat dZ a=some (.jX z):=by rw [← fp,r8 PT.symm,sd,if_pos rfl]
 have bq:∀ q,q≠m→q≠a→pat dZ q=pat hp q:=fun q IV tb=>by rw [← fp,r8 IV.symm,sd,if_neg tb.symm]
 have aq:gN hp dZ own:=by
  rw [← fp]
  exact(gN.mk' (own:=own) a9).trans (gN.up ab) fun q _ h=>h
 have PU:gM dZ a=some z:=r9.2 aT
 have XK:kZ dZ a (fun _=>none):=⟨z,PU,dh,by rw [aQ]; exact⟨fun bK p h=>(by rw [iF] at h; cases h),fun bK cs p h _=>(by rw [iF] at h; cases h),fun bK p h=>(by rw [iF] at h; cases h)⟩,fun bK=>by rw [aQ]; exact oT iF⟩
 have Hg:∀ q,Own dZ a q→q=a:=fun q qc=>by
  rcases qc with h | ⟨c,bK,bk,cV⟩
  ·exact h
  ·rw [PU] at bk; cases bk
   rw [aQ,iF] at cV; cases cV
 have hold:∀ t g,kZ hp t g→kZ dZ t g∧ ∀ q,Own dZ t q↔Own hp t q:=fun t g cc=>cc.congr fun q qc=>by
  refine bq q (fun e=> ?_) fun e=>a9 (by rw [← e]; exact cc.wB qc)
  rw [← e] at m8
  rcases cc.Nd qc with⟨c,ao⟩ | ⟨c,ao⟩ <;> rw [ao] at m8 <;> cases m8
 refine⟨⟨_,au,.inl ab,fun kx r jc=> ?_,fun kx jc=> ?_,fun IW Eb t1 t2 nV nc dk q pr oE=> ?_,l9.put⟩,aq,au⟩
 ·rw [yG] at jc
  by_cases e:kx=ee
  ·rw [if_pos e] at jc; cases jc
   exact⟨a,_,rfl,XK,fun q qc=>by rw [Hg q qc]; exact .inr ⟨a9,lC aT⟩,fun bK n=>⟨fun h=>(by cases h),fun⟨i,aj,bk,_⟩=>absurd (bk.trans e) (aW ee fZ i aj)⟩⟩
  ·rw [if_neg e] at jc
   obtain⟨t,g,rfl,eL,eR,kd⟩:=aE kx r jc
   obtain⟨e6,gy⟩:=hold t g eL
   exact⟨t,g,rfl,e6,fun q qc=> .inl (eR q ((gy q).1 qc)),kd⟩
 ·rw [yG] at jc
  by_cases e:kx=ee
  ·rw [if_pos e] at jc; cases jc
  ·rw [if_neg e] at jc; exact aW kx jc
 ·rw [yG] at nV nc
  have an:∀ kx h8,e3 em kx=some (some h8)→ ∀ q,q=a→ ¬ Own dZ h8 q:=fun kx h8 nb q e qc=>by
   obtain⟨t,g,e',eL,_⟩:=aE kx _ nb
   cases e'
   have:=(hold h8 g eL).2 q |>.1 qc
   exact a9 (by rw [← e]; exact eL.wB this)
  by_cases ay:IW=ee
  ·rw [if_pos ay] at nV; cases nV
   by_cases aS:Eb=ee
   ·exact dk (ay.trans aS.symm)
   ·rw [if_neg aS] at nc
    exact an Eb t2 nc q (Hg q pr) oE
  ·rw [if_neg ay] at nV
   by_cases aS:Eb=ee
   ·rw [if_pos aS] at nc; cases nc
    exact an IW t1 nV q (Hg q oE) pr
   ·rw [if_neg aS] at nc
    obtain⟨t,g,e',eL,_⟩:=aE IW _ nV
    cases e'
    obtain⟨h8,fh,IA,aaj,_⟩:=aE Eb _ nc
    cases IA
    exact aX _ _ _ _ nV nc dk q (((hold _ _ eL).2 q).1 pr) (((hold _ _ aaj).2 q).1 oE)
theorem XL {s:a0} (h:de s) {hp:bg Cell} {m:Nat} {l:List aU} {own:Nat→Prop} (hq:og s hp m l own) (eJ:∀ q,own q→q∈eG hp) (al:kD s 1 l) {i:aU} (aj:ll s 1 i) (a7:h6 l i.cr=none):
 eB (xL hp ⟨0,32,⟨some m⟩⟩ i) (fun hp'=>og s hp' m (l ++ [i]) (mq own hp hp')∧gN hp hp' own):=by
 obtain⟨em,nU,ab,aE,aW,aX,_⟩:=hq.ok
 unfold xL
 refine .eq (Ms h aj.fl _) (.eq rfl (.eq nU (.eq rfl ?_)))
 simp only
 refine .bind (P:=fun bJ=>og s bJ m l (mq own hp bJ)∧gN hp bJ own∧ ∃ IX t,kp bJ m=some IX∧e3 IX (kg (gR i.cr))=some (some t)) (.cond (fun ao=> ?_) fun ao=> .ret ?_) fun bJ cB=> ?_
 ·have fZ:e3 em (kg (gR i.cr))=none:=by
   cases bZ:e3 em (kg (gR i.cr)) with
   | none=>rfl
   | some r=>
     obtain⟨t,_,rfl,_⟩:=aE _ _ bZ
     rw [bZ] at ao; cases ao
  unfold B5
  refine .bind (P:=fun r=> ∃ a,a ∉ eG hp∧r=((some a:Ref),(a,Cell.jX ({ (default:gA) with fU:=32 })) :: hp)) (.eq rfl (.mk fun a a9=> .ret ⟨a,a9,rfl⟩)) fun a8 bk=> ?_
  obtain⟨a,a9,rfl⟩:=bk
  have mz:kp ((a,Cell.jX ({ (default:gA) with fU:=32 })) :: hp) m=some em:=(E5 (hp:=hp) (by rw [sd,if_neg (yH a9 (pM nU))])).trans nU
  obtain⟨au,aT,bq⟩:=Y6 hq nU fZ a9 (z:= { (default:gA) with fU:=32 }) rfl rfl
  refine .eq mz (.eq rfl (.ret ⟨au,aT,_,a,bq,by rw [yG,if_pos rfl]⟩))
 ·cases bZ:e3 em (kg (gR i.cr)) with
  | none=>rw [bZ] at ao; cases ao
  | some r=>
    obtain⟨t,_,rfl,_⟩:=aE _ _ bZ
    exact⟨hq.mono fun q hq=> .inl hq,.refl,em,t,nU,bZ⟩
 ·obtain⟨au,aT,IX,t,bq,cx⟩:=cB
  refine .eq bq (.eq rfl ?_)
  simp only [cx]
  refine .bind (Y5 h au (fun q hq=>hq.elim (fun hq=>aT.keys q (eJ q hq)) fun hq=>hq.2) al aj a7 bq cx) fun r aQ=> .ret ?_
  exact⟨aQ.1.mono fun q hq=>R4 aT.keys aQ.2.keys hq,aT.grow aQ.2⟩
theorem Ua {hp:bg Cell} {p:Nat} {k:Cell} {x:dM} {y:Option Nat} {n:Nat} (h:pat hp p=some k):ov (ea hp p (.sH x y n)) p=some (x,y,n):=by unfold ov; rw [wz h]
theorem XM {s:a0} (h:de s) {k:Nat} (aq:k < 4) {hp:bg Cell} {q:Nat} {l:List aU} {own:Nat→Prop} (hq:CR s k hp q l own) (al:kD s k l) {i:aU} (aj:ll s k i) (jC:kr l i.cg=false) (hlen:l.length < 900):
 eB (xZ hp ⟨some q⟩ i) (fun hp'=>CR s k hp' q (l ++ [i]) (mq own hp hp')∧gN hp hp' own):=by
 obtain⟨key,cap,J,ab⟩:=hq.ok
 unfold xZ
 refine .eq rfl (.eq J (.eq (Vu h aq al.ok aj hlen) (.any fun az=> .eq rfl (.ret ?_))))
 rw [jC]
 exact⟨⟨az.1,az.2,Ua (y7 J),.inl ab⟩,.up ab⟩
theorem XN {s:a0} (h:de s) {k:Nat} (aq:k < 4) {hp:bg Cell} {f:g3} {l:List aU} {own:Nat→Prop} (hq:sD s k hp f l own) (eJ:∀ q,own q→q∈eG hp) (al:kD s k l) {i:aU} (aj:ll s k i) (a7:h6 l i.cr=none) (jC:kr l i.cg=false) (hlen:l.length < 900):
 eB (EI hp f i) (fun hp'=>sD s k hp' f (l ++ [i]) (mq own hp hp')∧gN hp hp' own):=by
 rcases hq with⟨rfl,q,rfl,hq⟩ | ⟨rfl,m,rfl,hq⟩ | ⟨cD,q,rfl,hq⟩
 ·exact eB.of ((Y4 h hq al aj a7).mono fun hp' aQ=>⟨.inl ⟨rfl,q,rfl,aQ.1⟩,aQ.2⟩)
 ·exact(XL h hq eJ al aj a7).mono fun hp' aQ=>⟨.inr (.inl ⟨rfl,m,rfl,aQ.1⟩),aQ.2⟩
 ·exact(XM h aq hq al aj jC hlen).mono fun hp' aQ=>⟨.inr (.inr ⟨cD,q,rfl,aQ.1⟩),aQ.2⟩
theorem LO {α β:Type} [DecidableEq α]:∀ {l:List (α × β)} {x:α} {v:β},e3 l x=some v→ (x,v)∈l
 | [],_,_,h=>by cases h
 | (k,w) :: r,x,v,h=>by
   unfold e3 at h
   split at h
   ·rename_i e; cases h; rw [e]; simp
   ·exact List.mem_cons_of_mem _ (LO h)
theorem Mt {α β:Type} [DecidableEq α]:∀ {l:List (α × β)} {x:α} {v:β},l.Pairwise (fun a c=>a.1≠c.1)→ (x,v)∈l→e3 l x=some v
 | [],_,_,_,h=>by cases h
 | (k,w) :: r,x,v,aO,h=>by
   obtain⟨J,ab⟩:=List.pairwise_cons.1 aO
   unfold e3
   rcases List.mem_cons.1 h with h | h
   ·cases h; rw [if_pos rfl]
   ·rw [if_neg (fun e=>J _ h e.symm),Mt ab h]
theorem LP {α β:Type} [DecidableEq α]:∀ {l:List (α × β)} {x:α} {v:β},e3 l x=none→gr l x v=l ++ [(x,v)]
 | [],_,_,_=>rfl
 | (k,w) :: r,x,v,h=>by
   unfold e3 at h
   split at h
   ·cases h
   ·rename_i e
    show(if x=k then _ else _)=_
    rw [if_neg e,LP h]; rfl
def w3 (em:List (Int × aU)) (l:List aU):Prop:=em.Perm (l.map fun i=>(i.cg,i))
theorem w3.get {s:a0} {k:Nat} {em:List (Int × aU)} {l:List aU} (h:w3 em l) (al:iC s k l) (n:Int) (i:aU):e3 em n=some i↔i∈l∧i.cg=n:=by
 have hd:em.Pairwise (fun a c=>a.1≠c.1):=by
  refine(h.pairwise_iff fun cE=>Ne.symm cE).2 ?_
  rw [List.pairwise_map]
  exact al.num.imp fun cE=>cE
 have hm:(n,i)∈em↔i∈l∧i.cg=n:=by
  rw [h.mem_iff,List.mem_map]
  constructor
  ·rintro ⟨c,ao,e⟩
   cases e; exact⟨ao,rfl⟩
  ·rintro ⟨aj,rfl⟩
   exact⟨i,aj,rfl⟩
 rw [← hm]
 exact⟨LO,Mt hd⟩
theorem w3.no {s:a0} {k:Nat} {em:List (Int × aU)} {l:List aU} (h:w3 em l) (al:iC s k l) (n:Int):(e3 em n).isSome=kr l n:=by
 rw [Bool.eq_iff_iff,Option.isSome_iff_exists]
 unfold kr
 rw [List.any_eq_true]
 constructor
 ·rintro ⟨i,aj⟩
  obtain⟨J,ab⟩:=(h.get al n i).1 aj
  exact⟨i,J,by simpa using ab⟩
 ·rintro ⟨i,aj,ab⟩
  exact⟨i,(h.get al n i).2 ⟨aj,by simpa using ab⟩⟩
structure nG (s:a0) (k:Nat) (hp:bg Cell) (p:Nat) (l:List aU) (own:Nat→Prop):Prop where
 tk:kD s k l
 cell:∃ f m em,jF hp p=some ⟨n2 k,(Jt s k:Int),f,⟨some m⟩⟩∧ny hp m=some em∧own p∧own m∧w3 em l∧sD s k hp f l (fun q=>own q∧q≠m∧q≠p)
 AQ:∀ q,own q→q∈eG hp
theorem nG.congr {s:a0} {k:Nat} {hp hp':bg Cell} {p:Nat} {l:List aU} {own:Nat→Prop} (h:nG s k hp p l own) (aq:∀ q,q∈eG hp→q∈eG hp') (a9:∀ q,own q→pat hp' q=pat hp q):nG s k hp' p l own:=by
 obtain⟨f,m,em,J,ab,aE,aW,aX,bk⟩:=h.cell
 exact⟨h.tk,⟨f,m,em,by rw [SA (a9 p aE)]; exact J,by rw [SB (a9 m aW)]; exact ab,aE,aW,aX,bk.congr (fun q _ hq=>hq) fun q hq=>a9 q hq.1⟩,fun q hq=>aq q (h.AQ q hq)⟩
theorem nG.q1 {s:a0} {k:Nat} {hp hp':bg Cell} {p:Nat} {l:List aU} {own own':Nat→Prop} (h:nG s k hp p l own) (aq:gN hp hp' own') (hd:∀ q,own q→ ¬ own' q):nG s k hp' p l own:=
 h.congr aq.keys fun q hq=>aq.rest q (h.AQ q hq) (hd q hq)
end Go.Proofs.YtmnggbjcnoffeaaGreat
namespace Go.Proofs.YtmnggbjcnoffeaaGreat
open Go Gv
set_option linter.unusedVariables false
set_option linter.unusedSimpArgs false
set_option maxRecDepth 100000
theorem nG.mono {s:a0} {k:Nat} {hp:bg Cell} {p:Nat} {l:List aU} {own own':Nat→Prop} (h:nG s k hp p l own) (bo:∀ q,own q→own' q) (aj:∀ q,own' q→q∈eG hp):nG s k hp p l own':=by
 obtain⟨f,m,em,J,ab,aE,aW,aX,bk⟩:=h.cell
 exact⟨h.tk,⟨f,m,em,J,ab,bo p aE,bo m aW,aX,bk.congr (fun q _ hq=>⟨bo q hq.1,hq.2⟩) fun q hq=>rfl⟩,aj⟩
theorem kD.nil {s:a0} {k:Nat} :kD s k []:=⟨⟨fun i aj=>by(cases aj),.nil,by simp⟩,.nil⟩
def IY:Nat→Prop:=fun _=>False
theorem Vz {s:a0} (h:de s) {k:Nat} (aq:k < 4) (hp:bg Cell):eB (vV hp s ((k:Int) + 1)) (fun r=> ∃ p,r.1=some p∧nG s k r.2 p [] (mq IY hp r.2)∧gN hp r.2 IY):=by
 refine(XA h aq hp).mono fun r aQ=> ?_
 obtain⟨p,e,aQ⟩:=aQ
 obtain⟨c,m,J,ab,aE,aW,aX,bk,cV,eS,fB,jK,oH,AE⟩:=aQ.cell
 obtain⟨aay,aP,f,eo⟩:=c
 simp only at ab aE aW bk cV eS
 subst ab aE aW
 have hm:=CI aX
 have hp':=qL J
 refine⟨p,e,⟨kD.nil,⟨f,m,[],J,aX,.inr ⟨fB,lC hp'⟩,.inr ⟨jK,lC hm⟩,List.Perm.refl _,?_⟩,fun q hq=>hq.elim (fun h=>h.elim) fun h=>h.2⟩,⟨oH,fun q hq _=>AE q hq⟩⟩
 have key:∀ q c,pat r.2 q=some c→ (∀ x,c≠ .l6 x)→ (∀ x,c≠ .m5 x)→q ∉ eG hp→mq IY hp r.2 q∧q≠m∧q≠p:=fun q c ao vd Js aO=>
  ⟨.inr ⟨aO,lC ao⟩,fun e=>by rw [e,hm] at ao; cases ao; exact vd _ rfl,fun e=>by rw [e,hp'] at ao; cases ao; exact Js _ rfl⟩
 have:k=0∨k=1∨2≤k:=by omega
 rcases this with rfl | rfl | cD
 ·obtain⟨q,cy,rfl,au,aT,bq,cx⟩:=bk rfl
  exact .inl ⟨rfl,q,rfl,⟨cy,[],au,aT,key q _ (wk au) (fun _ h=>by cases h) (fun _ h=>by cases h) bq,key cy _ (tV aT) (fun _ h=>by cases h) (fun _ h=>by cases h) cx,fun ee n=>⟨fun h=>(by cases h),fun⟨i,aj,_⟩=>(by cases aj)⟩,.nil⟩⟩
 ·obtain⟨fm,rfl,au,aT⟩:=cV rfl
  exact .inr (.inl ⟨rfl,fm,rfl,⟨[],au,key fm _ (pM au) (fun _ h=>by cases h) (fun _ h=>by cases h) aT,fun ee r h=>(by cases h),fun ee _ i aj=>(by cases aj),fun ee kx t h8 h=>(by cases h),.nil⟩⟩)
 ·obtain⟨q,aaF,cap,rfl,au,aT⟩:=eS cD
  exact .inr (.inr ⟨cD,q,rfl,⟨aaF,cap,au,key q _ (y7 au) (fun _ h=>by cases h) (fun _ h=>by cases h) aT⟩⟩)
theorem kD.snoc {s:a0} {k:Nat} {l:List aU} (h:kD s k l) {i:aU} (aj:ll s k i) (a7:h6 l i.cr=none) (aO:kr l i.cg=false) (al:l.length < 900):kD s k (l ++ [i]) where
 ok:=h.ok.snoc aj aO al
 key:=by
  rw [List.pairwise_append]
  exact⟨h.key,by simp,fun a a9 c ao=>by rw [List.mem_singleton.1 ao]; exact v9 a7 a a9⟩
theorem Ng (o:Option aU):(ve o).2=o.isSome:=by cases o <;> rfl
def u6 (l:List aU) (i:aU):Bool:=(h6 l i.cr).isNone && !kr l i.cg
def added (l:List aU) (i:aU):List aU:=if u6 l i=true then l ++ [i] else l
theorem VA {s:a0} (h:de s) {k:Nat} (aq:k < 4) {hp:bg Cell} {p:Nat} {l:List aU} {own:Nat→Prop} (an:nG s k hp p l own) {i:aU} (aj:ll s k i) (hlen:l.length < 900):
 eB (x0 hp (some p) i) (fun r=>r.1=u6 l i∧nG s k r.2 p (added l i) (mq own hp r.2)∧gN hp r.2 own):=by
 obtain⟨f,m,em,J,ab,aE,aW,aX,bk⟩:=an.cell
 have hm:=CI ab
 have hp':=qL J
 have m8:p≠m:=fun e=>by rw [e,hm] at hp'; cases hp'
 have fZ:=aX.no an.tk.ok i.cg
 unfold x0
 refine .cond (fun ao=>by cases ao) fun _=> .eq rfl (.eq J (.eq rfl (.eq ab (.eq rfl (.eq rfl (.eq J (.eq (XJ h aq bk an.tk aj.fl) (.cond (fun ao=> .ret ?_) fun ao=> ?_))))))))
 ·rw [fZ,Ng,Bool.or_eq_true] at ao
  have cc:u6 l i=false:=by
   unfold u6
   rcases ao with ao | ao
   ·cases a7:h6 l i.cr with
    | none=>rw [a7] at ao; cases ao
    | some _=>rfl
   ·rw [ao]; simp
  refine⟨cc.symm,?_,.refl⟩
  unfold added
  rw [cc]
  exact an.mono (fun q hq=> .inl hq) fun q hq=>hq.elim (an.AQ q) fun hq=>absurd hq.2 hq.1
 ·rw [fZ,Ng,Bool.or_eq_false_iff] at ao
  obtain⟨cZ,dX⟩:=ao
  have a7:h6 l i.cr=none:=by
   cases a7:h6 l i.cr with
   | none=>rfl
   | some _=>rw [a7] at cZ; cases cZ
  have cc:u6 l i=true:=by unfold u6; rw [a7,dX]; rfl
  have bZ:e3 em i.cg=none:=by
   cases bZ:e3 em i.cg with
   | none=>rfl
   | some _=>rw [bZ,dX] at fZ; cases fZ
  have az:pat (ea hp m (Cell.l6 (gr em i.cg i))) p=some (.m5 ⟨n2 k,(Jt s k:Int),f,⟨some m⟩⟩):=by rw [r8 m8.symm]; exact hp'
  have f1:sD s k (ea hp m (Cell.l6 (gr em i.cg i))) f l (fun q=>own q∧q≠m∧q≠p):=bk.congr (fun q _ hq=>hq) fun q hq=>r8 hq.2.1.symm
  refine .eq rfl (.eq J (.eq (Gy h aq aj) (.eq rfl (.eq ab (.eq rfl (.eq (by unfold jF; rw [az]) (.bind (XN h aq f1 (fun q hq=>by rw [tL]; exact an.AQ q hq.1) an.tk aj a7 dX hlen) fun iA aQ=> .ret ⟨cc.symm,?_,?_⟩)))))))
  ·obtain⟨n1,jN⟩:=aQ
   have eL:pat iA p=some (.m5 ⟨n2 k,(Jt s k:Int),f,⟨some m⟩⟩):=by rw [jN.rest p (lC az) (fun hq=>hq.2.2 rfl)]; exact az
   have eR:pat iA m=some (.l6 (gr em i.cg i)):=by
    have:pat (ea hp m (Cell.l6 (gr em i.cg i))) m=some (.l6 (gr em i.cg i)):=wz hm
    rw [jN.rest m (lC this) (fun hq=>hq.2.1 rfl)]; exact this
   unfold added
   rw [if_pos cc]
   refine⟨an.tk.snoc aj a7 dX hlen,⟨f,m,_,by unfold jF; rw [eL],by unfold ny; rw [eR],.inl aE,.inl aW,?_,n1.congr (fun q _ hq=> ?_) fun q _=>rfl⟩,fun q hq=> ?_⟩
   ·unfold w3
    rw [LP bZ,List.map_append]
    exact List.Perm.append_right _ aX
   ·rcases hq with hq | ⟨au,aT⟩
    ·exact⟨.inl hq.1,hq.2⟩
    ·rw [tL] at au
     exact⟨.inr ⟨au,aT⟩,fun e=>au (e ▸ lC hm),fun e=>au (e ▸ lC hp')⟩
   ·rcases hq with hq | hq
    ·exact jN.keys q (by rw [tL]; exact an.AQ q hq)
    ·exact hq.2
  ·exact(gN.up (own:=own) aW).trans aQ.2 fun q _ hq=>hq.1
end Go.Proofs.YtmnggbjcnoffeaaGreat
namespace Go.Proofs.YtmnggbjcnoffeaaGreat
open Go Gv
set_option linter.unusedVariables false
set_option linter.unusedSimpArgs false
set_option maxRecDepth 100000
end Go.Proofs.YtmnggbjcnoffeaaGreat
namespace Go.Proofs.YtmnggbjcnoffeaaGreat
open Go Gv
set_option linter.unusedVariables false
set_option linter.unusedSimpArgs false
set_option maxRecDepth 100000
theorem iC.filter {s:a0} {k:Nat} {l:List aU} (h:iC s k l) (q:aU→Bool):iC s k (l.filter q) where
 ok i aj:=h.ok i (List.mem_filter.1 aj).1
 num:=h.num.sublist List.filter_sublist
 len:=Nat.le_trans (List.length_filter_le _ _) h.len
end Go.Proofs.YtmnggbjcnoffeaaGreat
namespace Go.Proofs.YtmnggbjcnoffeaaGreat
open Go Gv
set_option linter.unusedVariables false
set_option linter.unusedSimpArgs false
set_option maxRecDepth 100000
theorem Tu:BV=some true:=by kernel_rfl
theorem VB (s:a0) (k:Nat) (i:aU):fG s k i i=false:=by
 cases h:fG s k i i with
 | false=>rfl
 | true=>have:=(CO s k).asymm _ _ h; rw [h] at this; cases this
end Go.Proofs.YtmnggbjcnoffeaaGreat
namespace Go.Proofs.YtmnggbjcnoffeaaGreat
open Go Gv
set_option linter.unusedVariables false
set_option linter.unusedSimpArgs false
set_option maxRecDepth 100000
def n3 (s:a0) (e:bL):hg:=((qw s e).getD default).1
theorem XO {s:a0} (h:de s) {k:Nat} (aq:k < 4) (aQ:iX s k=true) {e:bL} (he:ie s k e):a6 (qw s e) (fun r=>r.2=false):=
 (Mg h aq he).mono fun r ab=>by
  rcases ab with⟨a,_⟩ | ⟨_,b,_⟩
  ·exact a
  ·exfalso
   unfold iX at aQ
   obtain⟨key,hG,aW⟩:=List.any_eq_true.1 aQ
   obtain⟨i,aj,e⟩:=List.mem_iff_getElem.1 hG
   exact b i aj (by rw [dU _ aj,e]; simpa using aW)
theorem zy {s:a0} (h:de s) {k:Nat} (aq:k < 4) (aQ:iX s k=false) {e:bL} (he:ie s k e):qw s e=some (n3 s e,true)∧rel (jP s e) (n3 s e):=by
 obtain⟨r,J,ab⟩:=Mg h aq he
 rcases ab with⟨_,i,aj,aW⟩ | ⟨ab,_,V,M,aE,aX⟩
 ·exact absurd aW (Mo aQ i aj)
 ·obtain⟨a,b⟩:=r
  simp only at ab aE
  subst ab
  have ay:n3 s e=a:=by unfold n3; rw [J]; rfl
  rw [ay]
  refine⟨J,fun i aj=> ?_⟩
  obtain⟨_,an⟩:=Df h aq aQ he
  have au:=an (i / 128) (127 - i % 128) (by omega) (by omega)
  have aT:=aX (i / 128) (127 - i % 128) (by omega) (by omega)
  rw [aE i aj]
  unfold cell bj
  rw [au.1,au.2,aT.1,aT.2]
  by_cases hm:(decide (i / 128 < (aB s.bB k).bQ.length) && lx (aB (aB s.bB k).bQ (i / 128)) (aB e.cu (i / 128)) (127 - i % 128))=true
  ·obtain⟨bJ,cy⟩:=(Bool.and_eq_true _ _).mp hm
   have:(aB e.cu (i / 128)).hV=true:=by
    have fm:=cy
    unfold lx at fm
    rw [Bool.and_eq_true] at fm
    exact fm.1
   rw [bJ,cy,this]; simp
  ·rw [if_neg hm,if_neg hm]
def kS (s:a0) (k:Nat) (l:List aU) (i:aU):List hg:=(l.filter fun c=>fG s k c i).map fun c=>n3 s c.cr
theorem iJ.maps {α β γ:Type} {R:α→β→Prop} {f:γ→α} {g:γ→β} :∀ (l:List γ),(∀ x∈l,R (f x) (g x))→iJ R (l.map f) (l.map g)
 | [],_=> .nil
 | x :: r,h=> .cons (h x List.mem_cons_self) (iJ.maps r fun y a4=>h y (List.mem_cons_of_mem _ a4))
theorem Mu {s:a0} (h:de s) {k:Nat} (aq:k < 4) (aQ:iX s k=false) {l:List aU} (al:iC s k l) (i:aU):iJ rel (kb s k l i) (kS s k l i):=
 iJ.maps _ fun c ao=>(zy h aq aQ (al.ok c (List.mem_filter.1 ao).1).fl).2
theorem FC {s:a0} (h:de s) {k:Nat} (aq:k < 4) {l:List aU} (al:iC s k l) {i:aU} (aj:i∈l):
 a6 (rW s l i.cg) (fun r=>(iX s k=true→r.2.2=13)∧ (iX s k=false→r=(n3 s i.cr,kS s k l i,0))):=by
 have hlen:=al.len
 have dW:=(al.ok i aj).fl
 unfold rW
 refine .bind (P:=fun e=> ∃ q:(List (Vector (BitVec 8) 512)) × Int × Bool × Int × Bool × Bool × Bool × (Vector (BitVec 8) 512),e= .inr q∧ (iX s k=true→q.2.1=13)∧ (iX s k=false→ (q.2.2.2.2.2.2.2,q.1,q.2.1)=(n3 s i.cr,kS s k l i,0)))
  (a6.pT l.length (fun j st=>st=(j:Int)∧ ∀ a,a < j→ (aB l a).cg≠i.cg) (by omega) ⟨rfl,fun a a9=>by omega⟩ (fun j st aF hs=> ?_) (fun st hs=> ?_)) fun e he=> ?_
 ·obtain⟨rfl,hs⟩:=hs
  refine .cond (fun _=> .idx rfl aF (.cond (fun ao=> .ret ⟨dz (by omega),fun a a9=> ?_⟩) fun ao=> ?_)) fun ao=>by simp at ao; omega
  ·by_cases e:a=j
   ·rw [e]; simpa using ao
   ·exact hs a (by omega)
  have hm:aB l j∈l:=by rw [dU _ aF]; exact List.getElem_mem _
  have jb:aB l j=i:=al.uniq hm aj (by simpa using ao)
  rw [jb]
  cases aQ:iX s k with
  | true=>
    refine(XO h aq aQ dW).bind fun aD ay=> .cond (fun _=> .ret ⟨_,rfl,fun _=>rfl,fun ao=>by cases ao⟩) fun ao=>by rw [ay] at ao; simp at ao
  | false=>
    refine .eq (zy h aq aQ dW).1 (.cond (fun ao=>by simp at ao) fun _=> .bind (P:=fun aS=>aS.2.2=kS s k l i) (a6.pT l.length (fun a st=>st=((a:Int),kS s k (l.take a) i)) (by omega) rfl (fun a st a9 hs=> ?_) (fun st hs=> ?_)) fun aS IZ=> .ret ⟨_,rfl,fun ao=>(by cases ao),fun _=>by rw [IZ]⟩)
    ·subst hs
     have an:aB l a∈l:=by rw [dU _ a9]; exact List.getElem_mem _
     have AO:=(al.ok _ an).fl
     have hw:kS s k (l.take (a + 1)) i=if fG s k (aB l a) i=true then kS s k (l.take a) i ++ [n3 s (aB l a).cr] else kS s k (l.take a) i:=by
      unfold kS
      rw [pD l a9,List.filter_append]
      by_cases hb:fG s k (aB l a) i=true
      ·rw [if_pos hb,show [aB l a].filter (fun c=>fG s k c i)= [aB l a] from by simp [hb],List.map_append]; rfl
      ·rw [if_neg hb,show [aB l a].filter (fun c=>fG s k c i)= [] from by simp [hb],List.append_nil]
     refine .cond (fun _=> .idx rfl a9 (.cX (P:=fun y=>y=fG s k (aB l a) i) (fun _=>⟨_,To h aq AO dW,rfl⟩) fun aM ab=> ?_)) fun ao=>by simp at ao; omega
     have a4:(((aB l a).cg !=i.cg) && aM)=fG s k (aB l a) i:=by
      cases aO:((aB l a).cg !=i.cg) with
      | true=>rw [ab aO]; rfl
      | false=>
        have ph:(aB l a).cg=i.cg:=by simpa using aO
        rw [al.uniq an aj ph,VB]; rfl
     rw [a4]
     have hle:(kS s k (l.take a) i).length≤a:=by
      unfold kS
      rw [List.length_map]
      have:=List.length_filter_le (fun c=>fG s k c i) (l.take a)
      rw [List.length_take] at this; omega
     refine .bind (P:=fun bJ=>bJ=kS s k (l.take (a + 1)) i) (.cond (fun hb=> .eq (zy h aq aQ AO).1 (.eq (iq _ _ (by simp; omega) (by omega)) (.ret (by rw [hw,if_pos hb])))) fun hb=> .ret (by rw [hw,if_neg (by rw [hb]; simp)])) fun bJ cB=> .ret ?_
     rw [cB,dz (by omega)]
    ·subst hs
     refine .cond (fun ao=>by simp at ao) fun _=> .ret ?_
     simp only [List.take_length]
 ·obtain⟨rfl,hs⟩:=hs
  exfalso
  obtain⟨a,a9,e⟩:=List.mem_iff_getElem.1 aj
  exact hs a a9 (by rw [dU _ a9,e])
 ·obtain⟨q,rfl,au,aT⟩:=he
  simp only [Sum.elim_inr]
  exact .ret ⟨au,aT⟩
theorem Ub {s:a0} {l:List aU} (hlen:l.length≤900) {n:Int} (aO:∀ c∈l,c.cg≠n):rW s l n=some (default,[],16):=by
 refine a6.get ?_
 unfold rW
 refine .bind (P:=fun e=> ∃ q,e= .inl q) (a6.pT l.length (fun j st=>st=(j:Int)) (by omega) rfl (fun j st aF hs=> ?_) (fun st hs=> ?_)) fun e he=> ?_
 ·subst hs
  have hm:aB l j∈l:=by rw [dU _ aF]; exact List.getElem_mem _
  refine .cond (fun _=> .idx rfl aF (.cond (fun ao=> .ret (dz (by omega))) fun ao=> ?_)) fun ao=>by simp at ao; omega
  exact absurd (by simpa using ao) (aO _ hm)
 ·subst hs
  exact .cond (fun ao=>by simp at ao) fun _=> .ret ⟨_,rfl⟩
 ·obtain⟨q,rfl⟩:=he
  simp only [Sum.elim_inl]
  exact .ret rfl
theorem SC {s:a0} {l:List aU} (hlen:l.length≤900) {n:Int} (aO:∀ c∈l,c.cg≠n):rR s l n=some (default,[],16):=by
 refine a6.get ?_
 unfold rR
 refine(Es (g:=fun c=>c.cg ==n) (fun x an=>rfl) (by omega)).bind fun r aQ=> ?_
 rcases aQ with⟨rfl,aQ⟩ | ⟨a,J,rfl,aE,_⟩
 ·exact .cond (fun _=> .ret rfl) fun ao=>by simp at ao
 ·exact absurd (by simpa using aE) (aO (aB l a) (by rw [dU _ J]; exact List.getElem_mem _))
theorem E9 {s:a0} (h:de s) {k:Nat} (aq:k < 4) {l:List aU} (al:iC s k l) (hlen:l.length≤16) (n:Int):∃ r,oO s l n=some r∧tv s l n=some r:=by
 by_cases an:∃ i∈l,i.cg=n
 ·obtain⟨i,aj,rfl⟩:=an
  obtain⟨r,e,aQ⟩:=T5 h aq al hlen aj
  refine⟨r,e,a6.get ?_⟩
  unfold tv
  refine(FC h aq al aj).bind fun aD J=> ?_
  cases fJ:iX s k with
  | true=>
    rw [aQ.1 fJ]
    have ab:=J.1 fJ
    exact .cond (fun _=> .ret (by rw [ab])) fun ao=>by rw [ab] at ao; simp at ao
  | false=>
    have ab:=J.2 fJ
    subst ab
    have hw:=y2 (s:=s) (k:=k) (l:=l) (i:=i)
    have a9:=Mu h aq fJ al i
    have ao:=zc h aq fJ (al.ok i aj).fl
    have hp:=(zy h aq fJ (al.ok i aj).fl).2
    have g2:∀ b∈kS s k l i,lP b:=fun b hb=>by
     obtain⟨t,cc,rfl⟩:=List.mem_iff_getElem.1 hb
     exact CD (a9.2 t (by rw [a9.1]; exact cc) cc)
    refine .cond (fun ao=>by simp at ao) fun _=>(J7 (n3 s i.cr) (kS s k l i) (CD hp) g2 (by rw [← a9.1]; omega)).bind fun y a4=> .ret ?_
    have a7:=List.length_filter_le (iM (n3 s i.cr)) (kS s k l i)
    rw [if_neg (by have:=a9.1; omega),Mn ao (CE h aq fJ al i) hp a9] at a4
    obtain⟨eL,eR⟩:=aQ.2 fJ
    exact Prod.ext (by rw [Bool.eq_iff_iff,a4.2,eR]) (by rw [a4.1,eL])
 ·have aO:∀ c∈l,c.cg≠n:=fun c ao e=>an ⟨c,ao,e⟩
  refine⟨(false,16),a6.get ?_,a6.get ?_⟩
  ·unfold oO
   exact .eq (SC (by omega) aO) (.cond (fun _=> .ret rfl) fun ao=>by simp at ao)
  ·unfold tv
   exact .eq (Ub (by omega) aO) (.cond (fun _=> .ret rfl) fun ao=>by simp at ao)
theorem Uc {s:a0} (h:de s) {k:Nat} (aq:k < 4) {l:List aU} (al:iC s k l) (hlen:l.length≤16) {i:aU} (aj:i∈l):∃ r,vE s l i.cg=some r∧tq s l i.cg=some r:=by
 cases fJ:iX s k with
 | true=>
   refine⟨(default,false,13),a6.get ?_,a6.get ?_⟩
   ·unfold vE
    refine(FC h aq al aj).bind fun aD J=> ?_
    have ab:=J.1 fJ
    exact .cond (fun _=> .ret (by rw [ab])) fun ao=>by rw [ab] at ao; simp at ao
   ·unfold tq
    refine .eq (E4 h aq al aj) ?_
    simp only [fJ,if_true]
    exact .cond (fun _=> .ret rfl) fun ao=>by simp at ao
 | false=>
   obtain⟨r,e,aQ⟩:=Vy h aq al hlen aj fJ
   refine⟨r,a6.get ?_,e⟩
   unfold vE
   refine(FC h aq al aj).bind fun aD J=> ?_
   have ab:=J.2 fJ
   subst ab
   have hw:=y2 (s:=s) (k:=k) (l:=l) (i:=i)
   have a9:=Mu h aq fJ al i
   have ao:=zc h aq fJ (al.ok i aj).fl
   have nO:=CE h aq fJ al i
   have hp:=(zy h aq fJ (al.ok i aj).fl).2
   have g2:∀ b∈kS s k l i,lP b:=fun b hb=>by
    obtain⟨t,cc,rfl⟩:=List.mem_iff_getElem.1 hb
    exact CD (a9.2 t (by rw [a9.1]; exact cc) cc)
   refine .cond (fun ao=>by simp at ao) fun _=>(RT (n3 s i.cr) (kS s k l i) (CD hp) g2 (by rw [← a9.1]; omega)).bind fun y a4=> .ret ?_
   have a7:=List.length_filter_le (iM (n3 s i.cr)) (kS s k l i)
   have Iz:ln (n3 s i.cr)=fun q=>gQ (jP s i.cr) q=true:=funext fun q=>propext (ud ao hp q)
   have aaG:sO (kS s k l i)=out (kb s k l i):=funext fun q=>propext (by
    constructor
    ·intro J z dh aj
     obtain⟨w,hw,ab⟩:=(a9.ex (P:=fun z=>gQ z q=true) (Q:=fun w=>ln w q) fun z dh w hw=>(ud (nO z dh) hw q).symm).1 ⟨z,dh,aj⟩
     exact J w hw ab
    ·intro J w hw ab
     obtain⟨z,dh,aj⟩:=(a9.ex (P:=fun z=>gQ z q=true) (Q:=fun w=>ln w q) fun z dh w hw=>(ud (nO z dh) hw q).symm).2 ⟨w,hw,ab⟩
     exact J z dh aj)
   rw [if_neg (by have:=a9.1; omega),Mn ao nO hp a9,Iz,aaG] at a4
   by_cases lp:iL (jP s i.cr) (kb s k l i)
   ·rw [aQ.1 lp,a4.1 lp]
   ·obtain⟨q,eS,fB⟩:=aQ.2 lp
    obtain⟨ed,AM,AL⟩:=a4.2 lp
    rw [eS,AM,fB.uniq AL]
theorem F3 {α:Type} {m:Option (List α)} {xs:List α} (h:m=some xs):q7 xs.length m=some xs:=by unfold q7; rw [h]; simp
theorem Ud {j:Nat} (h:j < 2 ^ 62):bm (((j + 1:Nat):Int) - 1)=(j:Int):=by rw [gC] <;> omega
theorem Tv {xs:List cP} {f:cP→cP→Option Int} (hlen:xs.length≤1000) (a7:∀ j,j + 1 < xs.length→a6 (f (aB xs (j + 1)) (aB xs j)) (fun r=>0≤r)):xo xs 0 (xs.length:Int) f=some xs:=by
 refine a6.get ?_
 unfold xo
 refine .bind (P:=fun e=>e.2.2=xs) (a6.pT (xs.length - 1) (fun j st=>st=(((j + 1:Nat):Int),xs)) (by omega) rfl (fun j st aF hs=> ?_) (fun st hs=> ?_)) fun e he=> .ret he
 ·subst hs
  refine .cond (fun _=> ?_) fun ao=>by simp at ao; omega
  refine .bind (P:=fun e=>e.2.2=xs) (a6.pT 0 (fun _ st=>st=(((j + 1:Nat):Int),xs)) (by omega) rfl (fun a st a9 hs=>by omega) (fun st hs=> ?_)) fun e he=> .ret (by rw [he,dz (by omega)])
  subst hs
  have lL:j + 1 < xs.length:=by omega
  have ku:j < xs.length:=by omega
  have hd:decide (((j + 1:Nat):Int) > 0)=true:=by rw [decide_eq_true_eq]; omega
  refine .cX (P:=fun c=>c=j + 1) (fun _=>⟨_,lD lL,rfl⟩) fun aV ay=> .cX (P:=fun c=>c=j) (fun _=>⟨j,by rw [Ud (by omega)]; exact lD ku,rfl⟩) fun bu aS=> ?_
  rw [ay hd,aS hd]
  refine .cX (P:=fun c=>(0:Int)≤c) (fun _=>a7 j (by omega)) fun aD cW=> .cond (fun ao=> ?_) fun _=> .ret rfl
  have:=cW hd
  rw [Bool.and_eq_true,decide_eq_true_eq,decide_eq_true_eq] at ao
  omega
 ·subst hs
  exact .cond (fun ao=>by simp at ao; omega) fun _=> .ret rfl
theorem Tw {xs:List cP} {f:cP→cP→Option Int} (hlen:xs.length < 20) (a7:∀ j,j + 1 < xs.length→a6 (f (aB xs (j + 1)) (aB xs j)) (fun r=>0≤r)):xq xs f=some xs:=by
 refine a6.get ?_
 unfold xq
 refine .eq (a:=xs) (F3 (a6.get ?_)) (.ret rfl)
 unfold Be
 refine .bind (P:=fun _=>True) (a6.pT 0 (fun _ _=>True) (by omega) trivial (fun a st a9 hs=>by omega) fun st hs=> .cond (fun ao=>by simp at ao; omega) fun _=> .ret trivial) fun _ _=> ?_
 refine .eq (a:=xs) (F3 (Tv (by omega) a7)) ?_
 exact .bind (P:=fun _=>True) (a6.pT 0 (fun _ _=>True) (by omega) trivial (fun a st a9 hs=>by omega) fun st hs=> .cond (fun ao=>by simp at ao; omega) fun _=> .ret trivial) fun _ _=> .ret rfl
def xe (s:a0) (l:List aU) (n:Int):Bool × Int:=(oO s l n).getD default
def rE (s:a0) (l:List aU) (x:aU):cP:= { cg:=x.cg,r5:=(xe s l x.cg).1,sy:=(xe s l x.cg).2 }
def AR (l:List aU):Prop:=l.Pairwise fun a c=>a.cg < c.cg
theorem Tx {s:a0} (h:de s) {k:Nat} (aq:k < 4) {l:List aU} (al:iC s k l) (hlen:l.length≤16) (a9:AR l):yc s l=some (l.map (rE s l)):=by
 refine a6.get ?_
 unfold yc
 refine .bind (P:=fun e=>e.2.2=l.map (rE s l)) (a6.pT l.length (fun j st=>st=((j:Int),(l.take j).map (rE s l))) (by omega) rfl (fun j st aF hs=> ?_) (fun st hs=> ?_)) fun e he=> ?_
 ·subst hs
  refine .cond (fun _=> .idx rfl aF (.eq rfl ?_)) fun ao=>by simp at ao; omega
  obtain⟨r,aQ,_⟩:=E9 h aq al hlen (aB l j).cg
  have ao:xe s l (aB l j).cg=r:=by unfold xe; rw [aQ]; rfl
  refine .eq aQ (.eq rfl (.eq (iq _ _ (by simp; omega) (by omega)) (.ret ?_)))
  rw [dz (by omega),pD l aF,List.map_append]
  have rv: [rE s l (aB l j)]= [({ cg:=(aB l j).cg,r5:=r.1,sy:=r.2 } :cP)]:=by unfold rE; rw [ao]
  rw [show [aB l j].map (rE s l)= [rE s l (aB l j)] from rfl,rv]
 ·subst hs
  refine .cond (fun ao=>by simp at ao) fun _=> .ret ?_
  simp only [List.take_length]
 ·rw [he]
  refine .eq (a:=l.map (rE s l)) (F3 (Tw (by rw [List.length_map]; omega) fun j aF=> ?_)) (.ret rfl)
  rw [List.length_map] at aF
  rw [qz _ (show j + 1 < l.length by omega),qz _ (show j < l.length by omega)]
  unfold BE
  refine .eq (CP _ _) (.ret ?_)
  have J:(aB l j).cg < (aB l (j + 1)).cg:=by
   rw [dU _ (show j < l.length by omega),dU _ (show j + 1 < l.length by omega)]
   exact List.pairwise_iff_getElem.1 a9 j (j + 1) (by omega) (by omega) (by omega)
  show 0≤A9 (aB l (j + 1)).cg (aB l j).cg
  unfold A9
  rw [if_neg (by omega),if_pos J]; decide
theorem Ty {s:a0} (h:de s) {k:Nat} (aq:k < 4) {x:Int} (em:r1 x (s.bB.length:Int)=some (k:Int)) (hp:bg Cell) (c:bI) (ao:hF c) (n:Nat) (aO:n≤100):
 eB (yi hp s c x (n:Int)) (fun r=>kD s k r.2.1∧r.2.1.length≤n∧AR r.2.1):=by
 unfold yi
 have aak:=(h.jd aq).1
 refine .eq em (.idx rfl (by rw [h.js]; exact aq) ?_)
 rw [aak]
 refine .bind (Vz h aq hp) fun aM ab=> ?_
 obtain⟨p,e,an,_⟩:=ab
 obtain⟨abl,dZ⟩:=aM
 simp only at e an
 subst e
 refine .bind (P:=fun ay=>kD s k ay.2.2.1∧ay.2.2.1.length≤n∧AR ay.2.2.1)
  (eB.loop n (fun j st=> ∃ l jQ hp' own,st=((j:Int),l,jQ,hp')∧nG s k hp' p l own∧l.length≤j∧hF jQ∧AR l∧ ∀ z∈l,z.cg≤ (j:Int)) (by omega) ⟨[],c,dZ,_,rfl,an,by simp,ao,.nil,fun z dh=>(by cases dh)⟩ (fun j st aF hs=> ?_) (fun st hs=> ?_)) fun ay J=> .ret J
 ·obtain⟨l,jQ,hp',own,rfl,an,I0,qb,has,Ec⟩:=hs
  refine .cX (P:=fun _=>True) (fun _=>TZ _) fun a8 _=> .cond (fun ao=> ?_) fun ao=> .ret ⟨an.tk,Nat.le_trans I0 (by omega),has⟩
  refine .ps (Tm jQ x qb h) fun br ⟨aW,k',j5,rz,he⟩=> .eq rfl ?_
  have ry:k'=k:=by rw [em] at rz; simp only [Option.some.injEq] at rz; omega
  subst ry
  generalize dh:({ (default:aU) with cr:=br.1,cg:=bm ((j:Int) + 1) } :aU)=z
  have aj:ll s k' z:=⟨by rw [← dh]; exact he⟩
  have PV:z.cg=(j:Int) + 1:=by rw [← dh]; show bm ((j:Int) + 1)=_; rw [dz (by omega)]; omega
  simp only [dh]
  refine .bind (VA h aq an aj (by omega)) fun cj aX=> ?_
  obtain⟨au,aT,bq⟩:=aX
  obtain⟨abm,iA⟩:=cj
  simp only at au aT bq
  refine .eq (a:=added l z) ?_ (.ret ⟨_,br.2,iA,_,by rw [dz (by omega)],aT,?_,aW,?_,?_⟩)
  ·simp only [au]
   unfold added
   cases u6 l z
   ·rfl
   ·show(fP 88 l [_]).bind (fun cM=>some cM)=_
    rw [iq _ _ (by simp; omega) (by omega)]; rfl
  ·unfold added; split
   ·simp; omega
   ·omega
  ·unfold added; split
   ·unfold AR
    rw [List.pairwise_append]
    exact⟨has,by simp,fun a a9 c ao=>by rw [List.mem_singleton.1 ao,PV]; have:=Ec a a9; omega⟩
   ·exact has
  ·intro a a9
   unfold added at a9
   split at a9
   ·rcases List.mem_append.1 a9 with a9 | a9
    ·have:=Ec a a9; omega
    ·rw [List.mem_singleton.1 a9,PV]; omega
   ·have:=Ec a a9; omega
 ·obtain⟨l,jQ,hp',own,rfl,an,I0,qb,has,Ec⟩:=hs
  refine .cX (P:=fun _=>True) (fun ao=>by simp at ao) fun a8 _=> .cond (fun ao=>by simp at ao) fun ao=> .ret ⟨an.tk,I0,has⟩
theorem RU (hp:bg Cell) (aa ai:List (BitVec 8)) (aR cQ:Int):eB (xM hp aa ai aR cQ) (fun r=>r.1=true):=by
 unfold xM
 refine .ps (Mb aa 120 (by omega) (by omega)) fun aD J=> .ps (SN aD J) fun aM ab=> .ps (Mb ai 200 (by omega) (by omega)) fun a8 aE=> ?_
 obtain⟨s,abG⟩:=aM
 obtain⟨h,_⟩:=ab
 simp only at h ⊢
 obtain⟨m,em,hJ,cB⟩:=Md aR (s.bB.length:Int) (by rw [h.js]; omega) (by rw [h.js]; omega)
 obtain⟨k,rfl⟩:=Int.eq_ofNat_of_zero_le hJ
 have aq:k < 4:=by have:=h.js; omega
 refine .bind (Ty h aq em hp a8 aE 14 (by omega)) fun br aW=> ?_
 obtain⟨abH,l,jQ,dZ⟩:=br
 obtain⟨Ap,hlen,has⟩:=aW
 simp only at Ap hlen has
 have al:=Ap.ok
 have Y7:l.length≤16:=by omega
 refine .eq (Tx h aq al Y7 has) (.cond (fun ao=>by rw [List.length_map] at ao; simp at ao) fun _=> ?_)
 refine .ps (P:=fun e=> ∃ a,e= .inl a) (a6.pT l.length (fun i st=>st=(i:Int)) (by omega) rfl (fun i st aj hs=> ?_) (fun st hs=> ?_)) fun aS IZ=> ?_
 ·subst hs
  refine .cond (fun _=> ?_) (fun ao=>by simp at ao; omega)
  have hm:aB l i∈l:=by rw [dU _ aj]; exact List.getElem_mem _
  obtain⟨r,cZ,dX⟩:=E9 h aq al (by omega) (aB l i).cg
  obtain⟨w,aaH,aaI⟩:=Uc h aq al (by omega) hm
  refine .idx rfl aj (.eq dX (.eq aaH (.eq aaI (.idx rfl (by rw [List.length_map]; exact aj) (.eq rfl (.eq rfl (.cond (fun ao=> ?_) fun _=> .ret (dz (by omega)))))))))
  exfalso
  have hz:xe s l (aB l i).cg=r:=by unfold xe; rw [cZ]; rfl
  rw [qz _ aj] at ao
  unfold rE at ao
  rw [hz] at ao
  simp at ao
 ·subst hs
  exact .cond (fun ao=>by simp at ao) fun _=> .ret ⟨_,rfl⟩
 ·obtain⟨a,rfl⟩:=IZ
  simp only [Sum.elim_inl]
  obtain⟨r,cZ,dX⟩:=E9 h aq al (by omega) cQ
  refine .eq cZ (.eq dX (.cX (P:=fun y=>y=true) (fun _=>⟨_,Tu,rfl⟩) fun ik oH=> .ret ?_))
  have hb:((r.1 ==r.1) && (r.2 ==r.2))=true:=by simp
  rw [hb,oH hb]; rfl
theorem RH (aa ai:List (BitVec 8)) (aR cQ:Int):xM [] aa ai aR cQ (fun r=>r.1=true):=(RU [] aa ai aR cQ).run
end Go.Proofs.YtmnggbjcnoffeaaGreat
