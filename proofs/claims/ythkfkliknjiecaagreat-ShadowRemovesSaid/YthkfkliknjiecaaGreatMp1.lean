/-
  What the programs compute, in plain Lean. Conditions: none.
-/
import Derived.Test.YthkfkliknjiecaaGreatMp0
set_option maxRecDepth 100000
namespace Go.Proofs.YthkfkliknjiecaaGreat
open Go Gv
structure h4 (s:a3) (k:Nat) (l:List aJ):Prop where
 ok:iV s k l
 key:l.Pairwise fun a c=>jt a.bK c.bK=false
theorem h4.uniq {s:a3} {k:Nat} {l:List aJ} (h:h4 s k l) {a c:aJ} (bp:a∈l) (al:c∈l) (e:jt a.bK c.bK=true):a=c:=by
 have aR:=h.key
 clear h
 induction l with
 | nil=>cases bp
 | cons x l bR=>
   obtain⟨aa,ad⟩:=List.pairwise_cons.1 aR
   rcases List.mem_cons.1 bp with av | av <;> rcases List.mem_cons.1 al with aW | aW
   ·rw [av,aW]
   ·rw [av,aa c aW] at e; cases e
   ·rw [aW,E4,aa a av] at e; cases e
   exact bR av aW ad
def hz (l:List aJ) (e:bC):Option aJ:=l.find? fun i=>jt i.bK e
theorem uf {l:List aJ} {e:bC} {i:aJ} (h:hz l e=some i):i∈l∧jt i.bK e=true:=by
 unfold hz at h
 have ad:=List.find?_some h
 exact⟨List.mem_of_find?_eq_some h,ad⟩
theorem ug {l:List aJ} {e:bC} (h:hz l e=none):∀ i∈l,jt i.bK e=false:=fun i ak=>by
 have:=List.find?_eq_none.1 h i ak
 simpa using this
theorem h4.Yn {s:a3} {k:Nat} {l:List aJ} (h:h4 s k l) {e:bC} {i:aJ} (ak:i∈l) (aw:jt i.bK e=true):hz l e=some i:=by
 cases a7:hz l e with
 | none=>rw [ug a7 i ak] at aw; cases aw
 | some c=>
   obtain⟨aa,ad⟩:=uf a7
   rw [h.uniq aa ak (H7 ad (by rw [E4]; exact aw))]
def nO (o:Option aJ):Int×Bool:=match o with | some i=>(i.cH,true) | none=>(0,false)
theorem OS {i:aJ} {n:Int} (h:i.cH=n):nO (some i)=(n,true):=by rw [← h]; rfl
def nP {α β:Type} (l:List (α×β)):Prop:=l.Pairwise fun a c=>a.1≠c.1
theorem N5 {α β:Type} [DecidableEq α]:∀ {l:List (α×β)} {x:α} {v:β} {a:α×β},a∈hc l x v→a.1=x∨a∈l
 | [],x,v,a,h=>by
   have:a=(x,v):=by simpa [hc] using h
   rw [this]; exact .inl rfl
 | (k,w)::r,x,v,a,h=>by
   unfold hc at h
   split at h
   ·rcases List.mem_cons.1 h with h | h
    ·rw [h]; exact .inl rfl
    exact .inr (by simp [h])
   rcases List.mem_cons.1 h with h | h
   ·exact .inr (by simp [h])
   exact(N5 h).imp id fun h=>List.mem_cons_of_mem _ h
theorem nP.put {α β:Type} [DecidableEq α]:∀ {l:List (α×β)} {x:α} {v:β},nP l→nP (hc l x v)
 | [],x,v,_=>by unfold hc nP; simp
 | (k,w)::r,x,v,h=>by
   obtain⟨aa,ad⟩:=List.pairwise_cons.1 h
   unfold hc
   split
   ·rename_i e
    refine List.pairwise_cons.2 ⟨fun a bp=>?_,ad⟩
    have:=aa a bp
    rw [e]; exact this
   rename_i e
   refine List.pairwise_cons.2 ⟨fun a bp=>?_,nP.put ad⟩
   rcases N5 bp with g | g
   ·rw [g]; exact fun e'=>e e'.symm
   exact aa a g
theorem N6 {α β:Type} [DecidableEq α]:∀ {l:List (α×β)} {x:α} {a:α×β},a∈ir l x→a∈l
 | [],x,a,h=>by cases h
 | (k,w)::r,x,a,h=>by
   unfold ir at h
   split at h
   ·exact List.mem_cons_of_mem _ h
   rcases List.mem_cons.1 h with h | h
   ·simp [h]
   exact List.mem_cons_of_mem _ (N6 h)
theorem nP.del {α β:Type} [DecidableEq α]:∀ {l:List (α×β)} {x:α},nP l→nP (ir l x)
 | [],x,_=>by unfold ir nP; exact .nil
 | (k,w)::r,x,h=>by
   obtain⟨aa,ad⟩:=List.pairwise_cons.1 h
   unfold ir
   split
   ·exact ad
   exact List.pairwise_cons.2 ⟨fun a bp=>aa a (N6 bp),nP.del ad⟩
theorem OT {α β:Type} [DecidableEq α]:∀ {l:List (α×β)} {x:α},(∀ a∈l,a.1≠x)→dX l x=none
 | [],_,_=>rfl
 | (k,w)::r,x,h=>by
   unfold dX
   rw [if_neg fun e=>h (k,w) (by simp) e.symm,OT fun a bp=>h a (by simp [bp])]
theorem AU {α β:Type} [DecidableEq α]:∀ {l:List (α×β)} {x y:α},nP l→dX (ir l x) y=if y=x then none else dX l y
 | [],x,y,_=>by
   show none=if y=x then none else none
   split <;> rfl
 | (k,w)::r,x,y,h=>by
   obtain⟨aa,ad⟩:=List.pairwise_cons.1 h
   unfold ir
   by_cases e:x=k
   ·rw [if_pos e]
    by_cases aO:y=x
    ·rw [if_pos aO,aO,e]; exact OT fun a bp=>(aa a bp).symm
    rw [if_neg aO]; show _=if y=k then _ else _; rw [if_neg (by rw [← e]; exact aO)]
   rw [if_neg e]
   show(if y=k then some w else dX (ir r x) y)=_
   by_cases aO:y=k
   ·rw [if_pos aO,if_neg (by rw [aO]; exact fun cK=>e cK.symm)]; show _=if y=k then _ else _; rw [if_pos aO]
   rw [if_neg aO,AU ad]
   show _=if y=x then none else if y=k then _ else _
   rw [if_neg aO]
structure wh (s:a3) (hp:a1 Cell) (q:Nat) (l:List aJ) (own:Nat→Prop):Prop where
 ok:∃ m em,m2 hp q=some ⟨⟨some m⟩⟩∧l4 hp m=some em∧own q∧own m∧ (∀ c7 n,dX em c7=some n↔ ∃ i∈l,e7 i.bK=c7∧i.cH=n)∧nP em
structure mx (s:a3) (hp:a1 Cell) (m:Nat) (l:List aJ) (own:Nat→Prop):Prop where
 ok:∃ em,j3 hp m=some em∧own m∧
  (∀ c7 r,dX em c7=some r→ ∃ t g,r=some t∧jg hp t g∧ (∀ q,Own hp t q→own q)∧ ∀ a5 n,g a5=some n↔ ∃ i∈l,gC (e7 i.bK)=c7∧jP i.bK=a5∧i.cH=n)∧
  (∀ c7,dX em c7=none→ ∀ i∈l,gC (e7 i.bK)≠c7)∧
  (∀ c7 j7 t fH,dX em c7=some (some t)→dX em j7=some (some fH)→c7≠j7→ ∀ q,Own hp t q→ ¬ Own hp fH q)∧nP em
structure wi (s:a3) (k:Nat) (hp:a1 Cell) (q:Nat) (l:List aJ) (own:Nat→Prop):Prop where
 ok:∃ key cap,oi hp q=some (oq s k l,key,cap)∧own q
def pM (s:a3) (k:Nat) (hp:a1 Cell) (f:gM) (l:List aJ) (own:Nat→Prop):Prop:=
 (k=0∧ ∃ q,f= .mA ⟨some q⟩∧wh s hp q l own)∨ (k=1∧ ∃ m,f= .mB ⟨0,32,⟨some m⟩⟩∧mx s hp m l own)∨ (2≤k∧ ∃ q,f= .mC ⟨some q⟩∧wi s k hp q l own)
theorem HC {hp hp':a1 Cell} {p:Nat} (h:pat hp' p=pat hp p):m2 hp' p=m2 hp p:=by unfold m2; rw [h]
theorem U5 {hp hp':a1 Cell} {p:Nat} (h:pat hp' p=pat hp p):l4 hp' p=l4 hp p:=by unfold l4; rw [h]
theorem Ei {hp hp':a1 Cell} {p:Nat} (h:pat hp' p=pat hp p):j3 hp' p=j3 hp p:=by unfold j3; rw [h]
theorem U6 {hp hp':a1 Cell} {p:Nat} (h:pat hp' p=pat hp p):oi hp' p=oi hp p:=by unfold oi; rw [h]
theorem pM.congr {s:a3} {k:Nat} {hp hp':a1 Cell} {f:gM} {l:List aJ} {own:Nat→Prop} (h:pM s k hp f l own) {own':Nat→Prop} (bm:∀ q,q∈fh hp→own q→own' q) (bp:∀ q,own q→pat hp' q=pat hp q):pM s k hp' f l own':=by
 rcases h with⟨rfl,q,rfl,h⟩ | ⟨rfl,m,rfl,h⟩ | ⟨aw,q,rfl,h⟩
 ·obtain⟨m,em,aa,ad,aF,aX,a0,jK⟩:=h.ok
  refine .inl ⟨rfl,q,rfl,⟨m,em,by rw [HC (bp q aF)]; exact aa,by rw [U5 (bp m aX)]; exact ad,bm q (k7 (ur aa)) aF,bm m (k7 (rD ad)) aX,a0,jK⟩⟩
 ·obtain⟨em,aa,ad,aF,aX,a0,jK⟩:=h.ok
  have key:∀ c7 r,dX em c7=some r→ ∃ t g,r=some t∧jg hp t g∧jg hp' t g∧ (∀ q,Own hp t q→own q)∧ (∀ q,Own hp' t q↔Own hp t q)∧ ∀ a5 n,g a5=some n↔ ∃ i∈l,gC (e7 i.bK)=c7∧jP i.bK=a5∧i.cH=n:=fun c7 r aQ=>by
   obtain⟨t,g,rfl,av,aW,bB⟩:=aF c7 r aQ
   obtain⟨cn,gy⟩:=av.congr fun q hq=>bp q (aW q hq)
   exact⟨t,g,rfl,av,cn,aW,gy,bB⟩
  refine .inr (.inl ⟨rfl,m,rfl,⟨em,by rw [Ei (bp m ad)]; exact aa,bm m (k7 (mw aa)) ad,fun c7 r aQ=>?_,aX,fun c7 j7 t fH b1 u7 dm q hq=>?_,jK⟩⟩)
  ·obtain⟨t,g,rfl,g0,av,aW,bB,cn⟩:=key c7 r aQ
   exact⟨t,g,rfl,av,fun q hq=>bm q (g0.wg ((bB q).1 hq)) (aW q ((bB q).1 hq)),cn⟩
  obtain⟨_,g,e,g0,av,aW,bB,cn⟩:=key c7 _ b1
  obtain⟨_,eZ,e',aeB,adt,adu,adv,aeC⟩:=key j7 _ u7
  cases e; cases e'
  rw [adv]
  exact a0 c7 j7 t fH b1 u7 dm q ((bB q).1 hq)
 obtain⟨key,cap,aa,ad⟩:=h.ok
 exact .inr (.inr ⟨aw,q,rfl,⟨key,cap,by rw [U6 (bp q ad)]; exact aa,bm q (k7 (uv aa)) ad⟩⟩)
theorem E5 {e:bC} (ao:e.b4.length≤4):tU e=some (e7 e):=by
 refine bl.get ?_
 unfold tU
 refine .eq (a:=e.b4) (by unfold sL; rw [if_pos ⟨by omega,by omega,by omega⟩,Int.toNat_zero,List.drop_zero,Nat.sub_zero,List.take_of_length_le (by omega)]) ?_
 refine bl.loop e.b4.length (fun i st=>st.1=(i:Int)∧ ∀ j,j<4→br st.2 j=if j<i then(az e.b4 j).bS else default) (by omega) ⟨rfl,fun j aE=>by rw [x3]; rfl⟩ (fun i st ak hs=>?_) (fun st hs=>?_)
 ·obtain⟨j,v⟩:=st
  obtain⟨ay,aO⟩:=hs
  simp only at ay aO; subst ay
  refine .cond (fun _=>?_) (fun al=>by simp at al; omega)
  refine .idx rfl ak (.idx rfl (by omega) (.ret ⟨eT (by omega),fun j aE=>?_⟩))
  rw [gp _ _ (by omega)]
  by_cases hE:j=i
  ·rw [if_pos hE,if_pos (by omega),hE]
  rw [if_neg hE,aO j aE]
  by_cases h:j<i
  ·rw [if_pos h,if_pos (by omega)]
  rw [if_neg h,if_neg (by omega)]
 obtain⟨j,v⟩:=st
 obtain⟨ay,aO⟩:=hs
 simp only at ay aO; subst ay
 refine⟨_,by simp; rfl,.ret ?_⟩
 exact EG fun j aE=>by rw [aO j aE,lX aE]
theorem ia.F4 {s:a3} (h:db s) {k:Nat} (aw:k<4) {e:bC} (he:ia s k e):e.b4.length≤4∧1≤e.b4.length:=by
 have:=(h.iJ aw).2.1
 rw [he.len]; omega
theorem WU {a c:List cA} (ao:a.length≤1000):zr a c=some (decide (a=c)):=by
 refine bl.get ?_
 unfold zr
 refine .cond (fun h=>.ret ?_) fun h=>?_
 ·have:a≠c:=fun e=>by rw [e] at h; simp at h
  simp [this]
 have y8:c.length=a.length:=by
  have:(a.length:Int)=c.length:=by simpa using h
  omega
 refine bl.loop a.length (fun i st=>st=(i:Int)∧ ∀ j,j<i→az a j=az c j) (by omega) ⟨rfl,fun j aE=>by omega⟩ (fun i st ak hs=>?_) (fun st hs=>?_)
 ·obtain⟨rfl,hs⟩:=hs
  refine .cond (fun _=>?_) (fun al=>by simp at al; omega)
  refine .idx rfl ak (.idx rfl (by omega) (.cond (fun dm=>.ret ?_) fun he=>.ret ⟨eT (by omega),fun j aE=>?_⟩))
  ·simp only [Sum.elim_inr]
   refine .ret ?_
   have:a≠c:=fun e=>by rw [e] at dm; simp at dm
   simp [this]
  by_cases hE:j=i
  ·subst hE; simpa using he
  exact hs j (by omega)
 obtain⟨rfl,hs⟩:=hs
 refine⟨_,by simp; rfl,?_⟩
 simp only [Sum.elim_inl]
 refine .ret ?_
 have:a=c:=List.ext_getElem y8.symm fun j aa ad=>by
  have:=hs j aa
  rwa [e0 _ aa,e0 _ ad] at this
 simp [this]
theorem Vv {a c:bC} (ao:a.b4.length≤1000):z9 a c=some (jt a c):=by
 refine bl.get ?_
 unfold z9 jt
 refine .c0 (P:=fun r=>r=decide (a.b4=c.b4)) (fun _=>⟨_,WU ao,rfl⟩) fun y a6=>.ret ?_
 by_cases h:a.ef=c.ef
 ·rw [a6 (by simpa using h)]
  rw [Bool.eq_iff_iff]
  simp [h]
 simp [h]
theorem aaj {s:a3} (h:db s) {hp:a1 Cell} {q:Nat} {l:List aJ} {own:Nat→Prop} (hq:wh s hp q l own) (ao:h4 s 0 l) {e:bC} (he:ia s 0 e):zQ hp ⟨some q⟩ e=some (nO (hz l e)):=by
 obtain⟨m,em,aa,ad,_,_,a0,_⟩:=hq.ok
 refine bl.get ?_
 unfold zQ tP
 refine .eq (E5 (he.F4 h (by decide)).1) ?_
 have hm:dX em (e7 e)=(hz l e).map (·.cH):=by
  cases a7:hz l e with
  | none=>
    cases bQ:dX em (e7 e) with
    | none=>rfl
    | some n=>
      obtain⟨i,ak,bn,_⟩:=(a0 _ _).1 bQ
      have:=ug a7 i ak
      rw [(C8 h (ao.ok.ok i ak).eV he).2 bn] at this; cases this
  | some i=>
    obtain⟨ak,aw⟩:=uf a7
    exact(a0 _ _).2 ⟨i,ak,(C8 h (ao.ok.ok i ak).eV he).1 aw,rfl⟩
 refine .eq (a:=nO (hz l e)) ?_ (.ret rfl)
 show(m2 hp q).bind _=_
 rw [aa]
 show(l4 hp m).bind _=_
 rw [ad]
 show some ((dX em (e7 e)).getD default,(dX em (e7 e)).isSome)=_
 rw [hm]
 cases hz l e <;> rfl
theorem IA {s:a3} (h:db s) {e:bC} (he:ia s 1 e) (m:gS):vj ⟨0,32,m⟩ e=some (gC (e7 e),(az e.b4 0).bS,(az e.b4 0).fp):=by
 have ao:=he.F4 h (by decide)
 refine bl.get ?_
 unfold vj xu
 refine .eq (E5 ao.1) (.eq (a:=(gC (e7 e),br (e7 e) 0)) rfl (.cond (fun al=>by have al:(0:Int)≥ (e.b4.length:Int):=of_decide_eq_true al; omega) fun _=>.idx (k:=0) rfl (by omega) (.ret ?_)))
 rw [lX (by decide),if_pos (by omega)]
theorem H8 {m:cA} (h:oo 2 32 m):∀ j,j<128→bA m.bS j=true→lead 32 m.fp j=true:=fun j aE a2=>
 (yu h.pre.1 h.pre.2).2 (h.K6 rfl j aE a2)
theorem aak {s:a3} (h:db s) {hp:a1 Cell} {m:Nat} {l:List aJ} {own:Nat→Prop} (hq:mx s hp m l own) (ao:h4 s 1 l) {e:bC} (he:ia s 1 e):zD hp ⟨0,32,⟨some m⟩⟩ e=some (nO (hz l e)):=by
 obtain⟨em,aa,_,aF,aX,_⟩:=hq.ok
 have g8:=uU h he
 refine bl.get ?_
 unfold zD
 refine .eq (IA h he _) (.eq rfl (.eq aa (.eq rfl ?_)))
 obtain⟨n,aR⟩:=Int.eq_ofNat_of_zero_le g8.pre.1
 have Ci:n≤32:=by have:=g8.pre.2; omega
 have uH:=H8 g8
 refine .eq (a:=nO (hz l e)) ?_ (.ret rfl)
 simp only
 cases aQ:dX em (gC (e7 e)) with
 | none=>
   have a7:hz l e=none:=by
    cases a7:hz l e with
    | none=>rfl
    | some i=>
      obtain⟨ak,aw⟩:=uf a7
      exact absurd ((za h (ao.ok.ok i ak).eV he).1 aw).1 (aX _ aQ i ak)
   rw [a7]; rfl
 | some r=>
   obtain⟨t,g,rfl,av,_,bB⟩:=aF _ _ aQ
   have bQ:g (jP e)=(hz l e).map (·.cH):=by
    cases a7:hz l e with
    | none=>
      cases Li:g (jP e) with
      | none=>rfl
      | some n=>
        obtain⟨i,ak,bn,cZ,_⟩:=(bB _ _).1 Li
        have:=ug a7 i ak
        rw [(za h (ao.ok.ok i ak).eV he).2 ⟨bn,cZ⟩] at this; cases this
    | some i=>
      obtain⟨ak,aw⟩:=uf a7
      obtain⟨bn,cZ⟩:=(za h (ao.ok.ok i ak).eV he).1 aw
      exact(bB _ _).2 ⟨i,ak,bn,cZ,rfl⟩
   rw [aR] at uH ⊢
   show vr hp (some t) _ (n:Int)=_
   rw [Px av Ci uH]
   have hp':dC (az e.b4 0).bS n=jP e:=by unfold jP; rw [aR]; rfl
   rw [hp',bQ]
   cases hz l e <;> rfl
theorem aal {s:a3} (h:db s) {k:Nat} (aw:k<4) {hp:a1 Cell} {q:Nat} {l:List aJ} {own:Nat→Prop} (hq:wi s k hp q l own) (ao:h4 s k l) {e:bC} (he:ia s k e):zY hp ⟨some q⟩ e=some (nO (hz l e)):=by
 obtain⟨key,cap,aa,_⟩:=hq.ok
 refine bl.get ?_
 unfold zY
 refine .eq rfl (.eq aa (.eq (Yk h aw ao.ok) ?_))
 obtain⟨js,hl⟩:=ao.ok.e9
 have a7:hz l e=(e9 (eS s k) l).find? fun i=>jt i.bK e:=by
  cases a7:hz l e with
  | none=>
    symm
    rw [List.find?_eq_none]
    intro x aq
    rw [ug a7 x (pF.1 aq)]; simp
  | some i=>
    obtain⟨ak,pX⟩:=uf a7
    exact(E0 (pG s k) ao.ok.xe ak pX fun d hd adw=>.inl (ao.uniq hd ak (H7 adw (by rw [E4]; exact pX)))).symm
 rw [a7]
 refine bl.loop (e9 (eS s k) l).length (fun i st=>st=(i:Int)∧ ∀ j,j<i→jt (az (e9 (eS s k) l) j).bK e=false) (by omega) ⟨rfl,fun j aE=>by omega⟩ (fun i st ak hs=>?_) (fun st hs=>?_)
 ·obtain⟨rfl,hs⟩:=hs
  refine .cond (fun _=>?_) (fun al=>by simp at al; omega)
  have hm:=js (az (e9 (eS s k) l) i) (by rw [e0 _ ak]; exact List.getElem_mem _)
  refine .idx rfl ak (.eq (Vv (hm.small h aw).1) (.cond (fun al=>.ret ?_) fun al=>.ret ⟨eT (by omega),fun j aE=>?_⟩))
  ·simp only [Sum.elim_inr]
   refine .ret ?_
   rw [Oy (p:=fun i=>jt i.bK e) ak al hs]; rfl
  by_cases hE:j=i
  ·subst hE; exact al
  exact hs j (by omega)
 obtain⟨rfl,hs⟩:=hs
 refine⟨_,by simp; rfl,?_⟩
 simp only [Sum.elim_inl]
 refine .ret ?_
 rw [Oz fun c al=>?_]
 ·rfl
 obtain⟨j,aE,rfl⟩:=List.mem_iff_getElem.1 al
 rw [← e0 _ aE]; exact hs j aE
theorem QP {s:a3} (h:db s) {k:Nat} (aw:k<4) {hp:a1 Cell} {f:gM} {l:List aJ} {own:Nat→Prop} (hq:pM s k hp f l own) (ao:h4 s k l) {e:bC} (he:ia s k e):DL hp f e=some (nO (hz l e)):=by
 rcases hq with⟨rfl,q,rfl,hq⟩ | ⟨rfl,m,rfl,hq⟩ | ⟨c6,q,rfl,hq⟩
 ·exact aaj h hq ao he
 ·exact aak h hq ao he
 exact aal h aw hq ao he
def hU (s:a3) (k:Nat) (l:List aJ) (p:Vector an 4):Option aJ:=(e9 (eS s k) l).find? fun c=>mt s k p c.bK
theorem E6 {s:a3} {k:Nat} {l:List aJ} {p:Vector an 4} {i:aJ} (h:hU s k l p=some i):i∈l:=by
 unfold hU at h
 exact pF.1 (List.mem_of_find?_eq_some h)
theorem aam {s:a3} (h:db s) {k:Nat} (aw:k<4) (p:Vector an 4) (e:bC):mt s k (k5 (h3 s k) p) e=mt s k p e:=by
 unfold mt
 rw [Bool.eq_iff_iff,List.all_eq_true,List.all_eq_true]
 have ao:=(h.iJ aw).2.1
 have key:∀ i∈List.range (az s.bt k).bN.length,br (k5 (h3 s k) p) i=br p i:=fun i ak=>by
  have:=List.mem_range.1 ak
  rw [nv (by omega),if_pos (show i<h3 s k from this)]
 exact⟨fun aa i ak=>by have:=aa i ak; rwa [key i ak] at this,fun aa i ak=>by rw [key i ak]; exact aa i ak⟩
theorem aan {s:a3} (h:db s) {hp:a1 Cell} {q:Nat} {l:List aJ} {own:Nat→Prop} (hq:wh s hp q l own) (ao:h4 s 0 l) (p:Vector an 4):zz hp ⟨some q⟩ (k5 (h3 s 0) p)=some (nO (hU s 0 l p)):=by
 obtain⟨m,em,aa,ad,_,_,a0,_⟩:=hq.ok
 have hb:=aag h ao.ok p (o:=dX em (k5 (h3 s 0) p)) fun n=>a0 _ n
 refine bl.get ?_
 unfold zz tP
 refine .eq (a:=nO (hU s 0 l p)) ?_ (.ret rfl)
 show(m2 hp q).bind _=_
 rw [aa]
 show(l4 hp m).bind _=_
 rw [ad]
 show some ((dX em (k5 (h3 s 0) p)).getD default,(dX em (k5 (h3 s 0) p)).isSome)=_
 cases bQ:dX em (k5 (h3 s 0) p) with
 | none=>
   have hb:hU s 0 l p=none:=hb.2 bQ
   rw [hb]; rfl
 | some n=>
   obtain⟨i,_,ay,aO⟩:=hb.1 n bQ
   have aO:hU s 0 l p=some i:=aO
   rw [aO,OS ay]; rfl
theorem QQ {g:List Bool→Option Int} (h:∀ a5,g a5=none) (v:an):∀ m,jY g v m=none
 | 0=>by unfold jY; rw [h]; rfl
 | m+1=>by unfold jY; rw [h]; exact QQ h v m
theorem aao {s:a3} (h:db s) {hp:a1 Cell} {m:Nat} {l:List aJ} {own:Nat→Prop} (hq:mx s hp m l own) (ao:h4 s 1 l) (p:Vector an 4):zv hp ⟨0,32,⟨some m⟩⟩ (k5 (h3 s 1) p)=some (nO (hU s 1 l p)):=by
 obtain⟨em,aa,_,aF,aX,_⟩:=hq.ok
 have aR:1≤h3 s 1:=(h.iJ (show 1<4 by decide)).2.1.1
 refine bl.get ?_
 unfold zv xu
 refine .eq (a:=(gC (k5 (h3 s 1) p),br p 0)) (by show some (gC (k5 (h3 s 1) p),br (k5 (h3 s 1) p) 0)=_; rw [nv (by decide),if_pos (by omega)]) (.eq rfl (.eq aa (.eq rfl ((Bc 32).bind fun aK aO=>.eq (and_eq _ _) ?_))))
 simp only
 have a2:∀ j,j<128→bA (uQ (br p 0) aK) j=(bA (br p 0) j&&decide (j<32)):=fun j aE=>by
  rw [pC,aO j aE]
  congr 1
  rw [decide_eq_decide]; omega
 cases aQ:dX em (gC (k5 (h3 s 1) p)) with
 | none=>
   have hb:=QM h ao.ok p a2 (g:=fun _=>none) fun a5 n=>⟨fun h=>(by cases h),fun⟨i,ak,bn,_⟩=>absurd bn (aX _ aQ i ak)⟩
   rw [QQ (fun _=>rfl)] at hb
   have hb:hU s 1 l p=none:=hb
   rw [hb]
   exact .eq rfl (.ret rfl)
 | some r=>
   obtain⟨t,g,rfl,av,_,bB⟩:=aF _ _ aQ
   have hb:=QM h ao.ok p a2 bB
   have hs:Small (uQ (br p 0) aK):=fun j aE hb=>by
    rw [a2 j aE,Bool.and_eq_true,decide_eq_true_eq] at hb
    exact hb.2
   refine .eq (Vt av hs) (.ret ?_)
   cases R4:jY g (uQ (br p 0) aK) 32 with
   | none=>
     rw [R4] at hb
     have hb:hU s 1 l p=none:=hb
     rw [hb]; rfl
   | some r=>
     rw [R4] at hb
     obtain⟨i,_,ay,cK⟩:=hb
     have cK:hU s 1 l p=some i:=cK
     rw [cK,OS ay]; rfl
theorem aap {s:a3} (h:db s) {k:Nat} (aw:k<4) {hp:a1 Cell} {q:Nat} {l:List aJ} {own:Nat→Prop} (hq:wi s k hp q l own) (ao:h4 s k l) (p:Vector an 4):zE hp ⟨some q⟩ (k5 (h3 s k) p)=some (nO (hU s k l p)):=by
 obtain⟨key,cap,aa,_⟩:=hq.ok
 refine bl.get ?_
 unfold zE
 refine .eq rfl (.eq aa (.eq (Vr h aw ao.ok _) (.ret ?_)))
 have:((e9 (eS s k) l).find? fun c=>mt s k (k5 (h3 s k) p) c.bK)=hU s k l p:=by
  unfold hU; congr 1; funext c; exact aam h aw p c.bK
 rw [this]
 cases hU s k l p <;> rfl
theorem aaq {s:a3} (h:db s) {k:Nat} (aw:k<4) {hp:a1 Cell} {f:gM} {l:List aJ} {own:Nat→Prop} (hq:pM s k hp f l own) (ao:h4 s k l) (p:Vector an 4):G6 hp f (k5 (h3 s k) p)=some (nO (hU s k l p)):=by
 rcases hq with⟨rfl,q,rfl,hq⟩ | ⟨rfl,m,rfl,hq⟩ | ⟨c6,q,rfl,hq⟩
 ·exact aan h hq ao p
 ·exact aao h hq ao p
 exact aap h aw hq ao p
def nx (own:Nat→Prop) (hp hp':a1 Cell) (q:Nat):Prop:=own q∨ (q ∉ fh hp∧q∈fh hp')
theorem N7 {hp:a1 Cell} {p:Nat} {k:Cell} {x:List (Vector an 4×Int)} (h:pat hp p=some k):l4 (dr hp p (.ot x)) p=some x:=by unfold l4; rw [wb h]
theorem N8 {hp:a1 Cell} {p:Nat} {k:Cell} {x:List (Vector an 4×Ref)} (h:pat hp p=some k):j3 (dr hp p (.l7 x)) p=some x:=by unfold j3; rw [wb h]
theorem ab8 {s:a3} (h:db s) {hp:a1 Cell} {q:Nat} {l:List aJ} {own:Nat→Prop} (hq:wh s hp q l own) (ao:h4 s 0 l) {i:aJ} (ak:lO s 0 i) (a7:hz l i.bK=none):
 bl (z1 hp ⟨some q⟩ i) (fun hp'=>wh s hp' q (l++[i]) (nx own hp hp')∧fi hp hp' own):=by
 obtain⟨m,em,aa,ad,aF,aX,a0,jK⟩:=hq.ok
 have fq:dX em (e7 i.bK)=none:=by
  cases bQ:dX em (e7 i.bK) with
  | none=>rfl
  | some n=>
    obtain⟨c,al,bn,_⟩:=(a0 _ _).1 bQ
    have:=ug a7 c al
    rw [(C8 h (ao.ok.ok c al).eV ak.eV).2 bn] at this; cases this
 unfold z1 DY
 refine .eq (E5 (ak.eV.F4 h (by decide)).1) ?_
 refine .eq (a:=(true,dr hp m (Cell.ot (hc em (e7 i.bK) i.cH)))) ?_ (.ret ?_)
 ·show(m2 hp q).bind _=_
  rw [aa]
  show(l4 hp m).bind _=_
  rw [ad]
  show cond (dX em (e7 i.bK)).isSome _ _=_
  rw [fq]; rfl
 have C9:q≠m:=fun e=>by
  subst e
  have:=ur aa
  rw [rD ad] at this; cases this
 refine⟨⟨m,_,by rw [HC (nX C9.symm)]; exact aa,N7 (rD ad),.inl aF,.inl aX,fun c7 n=>?_,jK.put⟩,.up aX⟩
 rw [AQ]
 by_cases hj:c7=e7 i.bK
 ·rw [if_pos hj]
  constructor
  ·intro e
   cases e
   exact⟨i,by simp,hj.symm,rfl⟩
  rintro ⟨c,al,bn,cZ⟩
  rcases List.mem_append.1 al with al | al
  ·have:=(a0 _ _).2 ⟨c,al,bn,cZ⟩
   rw [hj,fq] at this; cases this
  rw [List.mem_singleton.1 al] at cZ; rw [cZ]
 rw [if_neg hj,a0]
 constructor
 ·rintro ⟨c,al,bn⟩; exact⟨c,by simp [al],bn⟩
 rintro ⟨c,al,bn,cZ⟩
 rcases List.mem_append.1 al with al | al
 ·exact⟨c,al,bn,cZ⟩
 rw [List.mem_singleton.1 al] at bn; exact absurd bn.symm hj
theorem ab9 {s:a3} (h:db s) {hp:a1 Cell} {m:Nat} {l:List aJ} {own:Nat→Prop} (hq:mx s hp m l own) (eE:∀ q,own q→q∈fh hp) (ao:h4 s 1 l) {i:aJ} (ak:lO s 1 i) (a7:hz l i.bK=none)
 {em:List (Vector an 4×Ref)} (mi:j3 hp m=some em) {t:Nat} (b1:dX em (gC (e7 i.bK))=some (some t)):
 eC (xR hp (some t) (az i.bK.b4 0).bS (az i.bK.b4 0).fp i.cH) (fun r=>mx s r.2 m (l++[i]) (nx own hp r.2)∧fi hp r.2 own):=by
 obtain⟨adx,aa,ad,aF,aX,a0,jK⟩:=hq.ok
 rw [mi] at aa; cases aa
 have g8:=uU h ak.eV
 obtain⟨fH,g,e,av,aW,bB⟩:=aF _ _ b1
 cases e
 obtain⟨n,aR⟩:=Int.eq_ofNat_of_zero_le g8.pre.1
 have Ci:n≤32:=by have:=g8.pre.2; omega
 have uH:=H8 g8
 have hp':dC (az i.bK.b4 0).bS n=jP i.bK:=by unfold jP; rw [aR]; rfl
 have fq:g (jP i.bK)=none:=by
  cases Li:g (jP i.bK) with
  | none=>rfl
  | some n=>
    obtain⟨c,al,bn,cZ,_⟩:=(bB _ _).1 Li
    have:=ug a7 c al
    rw [(za h (ao.ok.ok c al).eV ak.eV).2 ⟨bn,cZ⟩] at this; cases this
 rw [aR] at uH ⊢
 refine(aae av Ci uH i.cH (by rw [hp']; exact fq)).mono fun r aQ=>?_
 obtain⟨_,js,hl,oF⟩:=aQ
 rw [hp'] at js
 have y9:∀ q,Own hp t q→q≠m:=fun q Lj e=>by
  have:=mw mi
  rw [← e] at this
  rcases av.Fg Lj with⟨c,al⟩ | ⟨c,al⟩ <;> rw [al] at this <;> cases this
 have mf:pat r.2 m=pat hp m:=hl.rest m (k7 (mw mi)) fun hq=>y9 m hq rfl
 have rE:∀ c7 fH,c7≠gC (e7 i.bK)→dX em c7=some (some fH)→ ∃ eZ,jg hp fH eZ∧jg r.2 fH eZ∧ (∀ q,Own hp fH q→own q)∧ (∀ q,Own r.2 fH q↔Own hp fH q)∧ ∀ a5 n,eZ a5=some n↔ ∃ i∈l,gC (e7 i.bK)=c7∧jP i.bK=a5∧i.cH=n:=fun c7 fH dm aQ=>by
  obtain⟨ady,eZ,e,dA,dK,hH⟩:=aF c7 _ aQ
  cases e
  obtain⟨eo,fb⟩:=dA.congr (hp':=r.2) fun q hq=>hl.rest q (dA.wg hq) fun jm=>a0 _ _ _ _ b1 aQ dm.symm q jm hq
  exact⟨eZ,dA,eo,dK,fb,hH⟩
 have Cf:∀ q,Own r.2 t q→nx own hp r.2 q:=fun q hq=>by
  rcases oF q hq with bn | bn
  ·exact .inl (aW q bn)
  exact .inr ⟨bn,js.wg hq⟩
 refine⟨⟨em,by rw [Ei mf]; exact mi,.inl ad,fun c7 lT jn=>?_,fun c7 hj c al=>?_,fun c7 j7 t1 t2 jA kp dm q jN nf=>?_,jK⟩,⟨hl.keys,fun q hq fq=>hl.rest q hq fun jm=>fq (aW q jm)⟩⟩
 ·by_cases hj:c7=gC (e7 i.bK)
  ·subst hj
   rw [b1] at jn; cases jn
   refine⟨t,_,rfl,js,Cf,fun a5 tH=>?_⟩
   by_cases k1:a5=jP i.bK
   ·simp only [if_pos k1]
    constructor
    ·intro e; cases e
     exact⟨i,by simp,rfl,k1.symm,rfl⟩
    rintro ⟨c,al,bn,cZ,e5⟩
    rcases List.mem_append.1 al with al | al
    ·have:=(bB _ _).2 ⟨c,al,bn,cZ,e5⟩
     rw [k1,fq] at this; cases this
    rw [List.mem_singleton.1 al] at e5; rw [e5]
   simp only [if_neg k1]
   rw [bB]
   constructor
   ·rintro ⟨c,al,bn⟩; exact⟨c,by simp [al],bn⟩
   rintro ⟨c,al,bn,cZ,e5⟩
   rcases List.mem_append.1 al with al | al
   ·exact⟨c,al,bn,cZ,e5⟩
   rw [List.mem_singleton.1 al] at cZ; exact absurd cZ.symm k1
  obtain⟨fH,eZ,e,_⟩:=aF c7 lT jn
  subst e
  obtain⟨xf,dA,dK,hH,jV,pq⟩:=rE c7 fH hj jn
  refine⟨fH,xf,rfl,dK,fun q hq=>.inl (hH q ((jV q).1 hq)),fun a5 tH=>?_⟩
  rw [pq]
  constructor
  ·rintro ⟨c,al,bn⟩; exact⟨c,by simp [al],bn⟩
  rintro ⟨c,al,bn,cZ⟩
  rcases List.mem_append.1 al with al | al
  ·exact⟨c,al,bn,cZ⟩
  rw [List.mem_singleton.1 al] at bn; exact absurd bn.symm hj
 ·rcases List.mem_append.1 al with al | al
  ·exact aX c7 hj c al
  rw [List.mem_singleton.1 al]
  intro e
  rw [← e,b1] at hj; cases hj
 
 have Pz:∀ c7 fH,c7≠gC (e7 i.bK)→dX em c7=some (some fH)→ ∀ q,Own r.2 t q→ ¬ Own r.2 fH q:=fun c7 fH dm aQ q hq jm=>by
  obtain⟨xf,dA,dK,hH,jV,pq⟩:=rE c7 fH dm aQ
  have jm:=(jV q).1 jm
  rcases oF q hq with bn | bn
  ·exact a0 _ _ _ _ b1 aQ dm.symm q bn jm
  exact bn (dA.wg jm)
 by_cases ay:c7=gC (e7 i.bK)
 ·subst ay
  rw [b1] at jA; cases jA
  exact Pz j7 t2 dm.symm kp q jN nf
 by_cases aO:j7=gC (e7 i.bK)
 ·subst aO
  rw [b1] at kp; cases kp
  exact Pz c7 t1 ay jA q nf jN
 obtain⟨_,_,_,_,jV,_⟩:=rE c7 t1 ay jA
 obtain⟨_,_,_,_,GS,_⟩:=rE j7 t2 aO kp
 exact a0 _ _ _ _ jA kp dm q ((jV q).1 jN) ((GS q).1 nf)
theorem Uu {own:Nat→Prop} {bT aa ad:a1 Cell} {q:Nat} (aw:∀ q,q∈fh bT→q∈fh aa) (c6:∀ q,q∈fh aa→q∈fh ad) (h:nx (nx own bT aa) aa ad q):nx own bT ad q:=by
 rcases h with(h | ⟨h,dc⟩) | ⟨h,dc⟩
 ·exact .inl h
 ·exact .inr ⟨h,c6 q dc⟩
 exact .inr ⟨fun aF=>h (aw q aF),dc⟩
theorem mx.mono {s:a3} {hp:a1 Cell} {m:Nat} {l:List aJ} {own own':Nat→Prop} (h:mx s hp m l own) (bm:∀ q,own q→own' q):mx s hp m l own':=by
 obtain⟨em,aa,ad,aF,aX,a0,jK⟩:=h.ok
 exact⟨em,aa,bm m ad,fun c7 r aQ=>by obtain⟨t,g,e,a,b,c⟩:=aF c7 r aQ; exact⟨t,g,e,a,fun q hq=>bm q (b q hq),c⟩,aX,a0,jK⟩
theorem fi.grow {bT aa ad:a1 Cell} {own:Nat→Prop} (a:fi bT aa own) (b:fi aa ad (nx own bT aa)):fi bT ad own:=
 a.trans b fun q hq h=>h.elim (fun h=>h) fun h=>absurd hq h.1
theorem aca {s:a3} {hp:a1 Cell} {m:Nat} {l:List aJ} {own:Nat→Prop} (hq:mx s hp m l own)
 {em:List (Vector an 4×Ref)} (mi:j3 hp m=some em) {c7:Vector an 4} (fq:dX em c7=none) {a:Nat} (bp:a ∉ fh hp) {z:fK} (df:z.fL=32) (aQ:z.cQ=none):
 mx s (dr ((a,Cell.j4 z)::hp) m (.l7 (hc em c7 (some a)))) m l (nx own hp (dr ((a,Cell.j4 z)::hp) m (.l7 (hc em c7 (some a)))))∧fi hp (dr ((a,Cell.j4 z)::hp) m (.l7 (hc em c7 (some a)))) own∧
  j3 (dr ((a,Cell.j4 z)::hp) m (.l7 (hc em c7 (some a)))) m=some (hc em c7 (some a)):=by
 obtain⟨adx,aa,ad,aF,aX,a0,jK⟩:=hq.ok
 rw [mi] at aa; cases aa
 have mf:=mw mi
 have R5:=AS bp mf
 have cy:pat ((a,Cell.j4 z)::hp) m=some (.l7 em):=by rw [ue,if_neg R5]; exact mf
 generalize dw:dr ((a,Cell.j4 z)::hp) m (.l7 (hc em c7 (some a)))=de
 have av:j3 de m=some (hc em c7 (some a)):=by rw [← dw]; exact N8 cy
 have aW:pat de a=some (.j4 z):=by rw [← dw,nX R5.symm,ue,if_pos rfl]
 have bB:∀ q,q≠m→q≠a→pat de q=pat hp q:=fun q C9 mP=>by rw [← dw,nX C9.symm,ue,if_neg mP.symm]
 have aw:fi hp de own:=by
  rw [← dw]
  exact(fi.mk' (own:=own) bp).trans (fi.up ad) fun q _ h=>h
 have R6:fR de a=some z:=ss.2 aW
 have aar:jg de a (fun _=>none):=⟨z,R6,df,by rw [aQ]; exact⟨fun a5 p h=>(by rw [gO] at h; cases h),fun a5 cs p h _=>(by rw [gO] at h; cases h),fun a5 p h=>(by rw [gO] at h; cases h)⟩,fun a5=>by rw [aQ]; exact kv gO⟩
 have JH:∀ q,Own de a q→q=a:=fun q p1=>by
  rcases p1 with h | ⟨c,a5,bn,cZ⟩
  ·exact h
  rw [R6] at bn; cases bn
  rw [aQ,gO] at cZ; cases cZ
 have hold:∀ t g,jg hp t g→jg de t g∧ ∀ q,Own de t q↔Own hp t q:=fun t g b1=>b1.congr fun q p1=>by
  refine bB q (fun e=>?_) fun e=>bp (by rw [← e]; exact b1.wg p1)
  rw [← e] at mf
  rcases b1.Fg p1 with⟨c,al⟩ | ⟨c,al⟩ <;> rw [al] at mf <;> cases mf
 refine⟨⟨_,av,.inl ad,fun j7 r jn=>?_,fun j7 jn=>?_,fun Lk GH t1 t2 jA kp dm q jN nf=>?_,jK.put⟩,aw,av⟩
 ·rw [AQ] at jn
  by_cases e:j7=c7
  ·rw [if_pos e] at jn; cases jn
   exact⟨a,_,rfl,aar,fun q p1=>by rw [JH q p1]; exact .inr ⟨bp,k7 aW⟩,fun a5 n=>⟨fun h=>(by cases h),fun⟨i,ak,bn,_⟩=>absurd (bn.trans e) (aX c7 fq i ak)⟩⟩
  rw [if_neg e] at jn
  obtain⟨t,g,rfl,dA,dK,hH⟩:=aF j7 r jn
  obtain⟨eo,fb⟩:=hold t g dA
  exact⟨t,g,rfl,eo,fun q p1=>.inl (dK q ((fb q).1 p1)),hH⟩
 ·rw [AQ] at jn
  by_cases e:j7=c7
  ·rw [if_pos e] at jn; cases jn
  rw [if_neg e] at jn; exact aX j7 jn
 rw [AQ] at jA kp
 have aq:∀ j7 fH,dX em j7=some (some fH)→ ∀ q,q=a→ ¬ Own de fH q:=fun j7 fH u7 q e p1=>by
  obtain⟨t,g,e',dA,_⟩:=aF j7 _ u7
  cases e'
  have:=(hold fH g dA).2 q |>.1 p1
  exact bp (by rw [← e]; exact dA.wg this)
 by_cases ay:Lk=c7
 ·rw [if_pos ay] at jA; cases jA
  by_cases aO:GH=c7
  ·exact dm (ay.trans aO.symm)
  rw [if_neg aO] at kp
  exact aq GH t2 kp q (JH q jN) nf
 rw [if_neg ay] at jA
 by_cases aO:GH=c7
 ·rw [if_pos aO] at kp; cases kp
  exact aq Lk t1 jA q (JH q nf) jN
 rw [if_neg aO] at kp
 obtain⟨t,g,e',dA,_⟩:=aF Lk _ jA
 cases e'
 obtain⟨fH,eZ,KU,adz,_⟩:=aF GH _ kp
 cases KU
 exact a0 _ _ _ _ jA kp dm q (((hold _ _ dA).2 q).1 jN) (((hold _ _ adz).2 q).1 nf)
theorem aas {s:a3} (h:db s) {hp:a1 Cell} {m:Nat} {l:List aJ} {own:Nat→Prop} (hq:mx s hp m l own) (eE:∀ q,own q→q∈fh hp) (ao:h4 s 1 l) {i:aJ} (ak:lO s 1 i) (a7:hz l i.bK=none):
 eC (zN hp ⟨0,32,⟨some m⟩⟩ i) (fun hp'=>mx s hp' m (l++[i]) (nx own hp hp')∧fi hp hp' own):=by
 obtain⟨em,mi,ad,aF,aX,a0,_⟩:=hq.ok
 unfold zN
 refine .eq (IA h ak.eV _) (.eq rfl (.eq mi (.eq rfl ?_)))
 simp only
 refine .bind (P:=fun bx=>mx s bx m l (nx own hp bx)∧fi hp bx own∧ ∃ Ll t,j3 bx m=some Ll∧dX Ll (gC (e7 i.bK))=some (some t)) (.cond (fun al=>?_) fun al=>.ret ?_) fun bx cy=>?_
 ·have fq:dX em (gC (e7 i.bK))=none:=by
   cases bQ:dX em (gC (e7 i.bK)) with
   | none=>rfl
   | some r=>
     obtain⟨t,_,rfl,_⟩:=aF _ _ bQ
     rw [bQ] at al; cases al
  unfold Ek
  refine .bind (P:=fun r=> ∃ a,a ∉ fh hp∧r=((some a:Ref),(a,Cell.j4 ({ (default:fK) with fL:=32 }))::hp)) (.eq rfl (.mk fun a bp=>.ret ⟨a,bp,rfl⟩)) fun bb bn=>?_
  obtain⟨a,bp,rfl⟩:=bn
  have lJ:j3 ((a,Cell.j4 ({ (default:fK) with fL:=32 }))::hp) m=some em:=(Ei (hp:=hp) (by rw [ue,if_neg (AS bp (mw mi))])).trans mi
  obtain⟨av,aW,bB⟩:=aca hq mi fq bp (z:= { (default:fK) with fL:=32 }) rfl rfl
  refine .eq lJ (.eq rfl (.ret ⟨av,aW,_,a,bB,by rw [AQ,if_pos rfl]⟩))
 ·cases bQ:dX em (gC (e7 i.bK)) with
  | none=>rw [bQ] at al; cases al
  | some r=>
    obtain⟨t,_,rfl,_⟩:=aF _ _ bQ
    exact⟨hq.mono fun q hq=>.inl hq,.refl,em,t,mi,bQ⟩
 obtain⟨av,aW,Ll,t,bB,cn⟩:=cy
 refine .eq bB (.eq rfl ?_)
 simp only [cn]
 refine .bind (ab9 h av (fun q hq=>hq.elim (fun hq=>aW.keys q (eE q hq)) fun hq=>hq.2) ao ak a7 bB cn) fun r aQ=>.ret ?_
 exact⟨aQ.1.mono fun q hq=>Uu aW.keys aQ.2.keys hq,aW.grow aQ.2⟩
theorem N9 {hp:a1 Cell} {p:Nat} {k:Cell} {x:cL} {y:Option Nat} {n:Nat} (h:pat hp p=some k):oi (dr hp p (.rQ x y n)) p=some (x,y,n):=by unfold oi; rw [wb h]
theorem aat {s:a3} (h:db s) {k:Nat} (aw:k<4) {hp:a1 Cell} {q:Nat} {l:List aJ} {own:Nat→Prop} (hq:wi s k hp q l own) (ao:h4 s k l) {i:aJ} (ak:lO s k i) (k4:ji l i.cH=false) (hlen:l.length<900):
 eC (z2 hp ⟨some q⟩ i) (fun hp'=>wi s k hp' q (l++[i]) (nx own hp hp')∧fi hp hp' own):=by
 obtain⟨key,cap,aa,ad⟩:=hq.ok
 unfold z2
 refine .eq rfl (.eq aa (.eq (Yj h aw ao.ok ak hlen) (.any fun aA=>.eq rfl (.ret ?_))))
 rw [k4]
 exact⟨⟨aA.1,aA.2,N9 (uv aa),.inl ad⟩,.up ad⟩
theorem aau {s:a3} (h:db s) {k:Nat} (aw:k<4) {hp:a1 Cell} {f:gM} {l:List aJ} {own:Nat→Prop} (hq:pM s k hp f l own) (eE:∀ q,own q→q∈fh hp) (ao:h4 s k l) {i:aJ} (ak:lO s k i) (a7:hz l i.bK=none) (k4:ji l i.cH=false) (hlen:l.length<900):
 eC (Hj hp f i) (fun hp'=>pM s k hp' f (l++[i]) (nx own hp hp')∧fi hp hp' own):=by
 rcases hq with⟨rfl,q,rfl,hq⟩ | ⟨rfl,m,rfl,hq⟩ | ⟨c6,q,rfl,hq⟩
 ·exact eC.of ((ab8 h hq ao ak a7).mono fun hp' aQ=>⟨.inl ⟨rfl,q,rfl,aQ.1⟩,aQ.2⟩)
 ·exact(aas h hq eE ao ak a7).mono fun hp' aQ=>⟨.inr (.inl ⟨rfl,m,rfl,aQ.1⟩),aQ.2⟩
 exact(aat h aw hq ao ak k4 hlen).mono fun hp' aQ=>⟨.inr (.inr ⟨c6,q,rfl,aQ.1⟩),aQ.2⟩
theorem Oa {α β:Type} [DecidableEq α]:∀ {l:List (α×β)} {x:α} {v:β},dX l x=some v→ (x,v)∈l
 | [],_,_,h=>by cases h
 | (k,w)::r,x,v,h=>by
   unfold dX at h
   split at h
   ·rename_i e; cases h; rw [e]; simp
   exact List.mem_cons_of_mem _ (Oa h)
theorem OU {α β:Type} [DecidableEq α]:∀ {l:List (α×β)} {x:α} {v:β},l.Pairwise (fun a c=>a.1≠c.1)→ (x,v)∈l→dX l x=some v
 | [],_,_,_,h=>by cases h
 | (k,w)::r,x,v,aR,h=>by
   obtain⟨aa,ad⟩:=List.pairwise_cons.1 aR
   unfold dX
   rcases List.mem_cons.1 h with h | h
   ·cases h; rw [if_pos rfl]
   rw [if_neg (fun e=>aa _ h e.symm),OU ad h]
theorem Ob {α β:Type} [DecidableEq α]:∀ {l:List (α×β)} {x:α} {v:β},dX l x=none→hc l x v=l++[(x,v)]
 | [],_,_,_=>rfl
 | (k,w)::r,x,v,h=>by
   unfold dX at h
   split at h
   ·cases h
   rename_i e
   show(if x=k then _ else _)=_
   rw [if_neg e,Ob h]; rfl
def tb (em:List (Int×aJ)) (l:List aJ):Prop:=em.Perm (l.map fun i=>(i.cH,i))
theorem tb.get {s:a3} {k:Nat} {em:List (Int×aJ)} {l:List aJ} (h:tb em l) (ao:iV s k l) (n:Int) (i:aJ):dX em n=some i↔i∈l∧i.cH=n:=by
 have hd:em.Pairwise (fun a c=>a.1≠c.1):=by
  refine(h.pairwise_iff fun cE=>Ne.symm cE).2 ?_
  rw [List.pairwise_map]
  exact ao.num.imp fun cE=>cE
 have hm:(n,i)∈em↔i∈l∧i.cH=n:=by
  rw [h.mem_iff,List.mem_map]
  constructor
  ·rintro ⟨c,al,e⟩
   cases e; exact⟨al,rfl⟩
  rintro ⟨ak,rfl⟩
  exact⟨i,ak,rfl⟩
 rw [← hm]
 exact⟨Oa,OU hd⟩
theorem tb.no {s:a3} {k:Nat} {em:List (Int×aJ)} {l:List aJ} (h:tb em l) (ao:iV s k l) (n:Int):(dX em n).isSome=ji l n:=by
 rw [Bool.eq_iff_iff,Option.isSome_iff_exists]
 unfold ji
 rw [List.any_eq_true]
 constructor
 ·rintro ⟨i,ak⟩
  obtain⟨aa,ad⟩:=(h.get ao n i).1 ak
  exact⟨i,aa,by simpa using ad⟩
 rintro ⟨i,ak,ad⟩
 exact⟨i,(h.get ao n i).2 ⟨ak,by simpa using ad⟩⟩
structure nA (s:a3) (k:Nat) (hp:a1 Cell) (p:Nat) (l:List aJ) (own:Nat→Prop):Prop where
 lU:h4 s k l
 cell:∃ f m em,iY hp p=some ⟨oL k,(h3 s k:Int),f,⟨some m⟩⟩∧m3 hp m=some em∧own p∧own m∧tb em l∧pM s k hp f l (fun q=>own q∧q≠m∧q≠p)
 GI:∀ q,own q→q∈fh hp
theorem entry_eq {s:a3} (h:db s) {k:Nat} (aw:k<4) {hp:a1 Cell} {p:Nat} {l:List aJ} {own:Nat→Prop} (aq:nA s k hp p l own) {o:Option aJ} (bm:∀ i,o=some i→i∈l):xF hp (some p) (nO o).1 (nO o).2=some (q1 o):=by
 obtain⟨f,m,em,aa,ad,aF,aX,a0,bn⟩:=aq.cell
 refine bl.get ?_
 unfold xF
 cases o with
 | none=>exact .cond (fun _=>.ret rfl) fun al=>by cases al
 | some i=>
   have ak:=bm i rfl
   refine .cond (fun al=>by cases al) fun _=>.eq rfl (.eq aa (.eq rfl (.eq ad (.eq rfl ?_))))
   have bQ:dX em i.cH=some i:=(a0.get aq.lU.ok _ _).2 ⟨ak,rfl⟩
   show bl (Option.bind (oM ((dX em i.cH).getD default)) _) _
   rw [bQ]
   exact .eq (Br h aw (aq.lU.ok.ok i ak)) (.ret rfl)
theorem XE {s:a3} (h:db s) {k:Nat} (aw:k<4) {hp:a1 Cell} {p:Nat} {l:List aJ} {own:Nat→Prop} (aq:nA s k hp p l own) {e:bC} (he:ia s k e):z3 hp (some p) e=some (q1 (hz l e)):=by
 obtain⟨f,m,em,aa,ad,aF,aX,a0,bn⟩:=aq.cell
 refine bl.get ?_
 unfold z3
 refine .cond (fun al=>by cases al) fun _=>.eq rfl (.eq aa (.eq (QP h aw bn aq.lU he) (.eq (entry_eq h aw aq fun i ak=>(uf ak).1) (.ret rfl))))
theorem Ny {s:a3} (h:db s) {k:Nat} (aw:k<4) {hp:a1 Cell} {p:Nat} {l:List aJ} {own:Nat→Prop} (aq:nA s k hp p l own) (c7:Vector an 4):xB hp (some p) c7=some (q1 (hU s k l c7)):=by
 obtain⟨f,m,em,aa,ad,aF,aX,a0,bn⟩:=aq.cell
 refine bl.get ?_
 unfold xB
 refine .cond (fun al=>by cases al) fun _=>?_
 refine bl.loop 4 (fun i st=>st.1=(i:Int)∧ ∀ j,j<4→br st.2 j=if j<i then(if j<h3 s k then br c7 j else default) else br c7 j) (by decide) ⟨rfl,fun j aE=>rfl⟩ (fun i st ak hs=>?_) (fun st hs=>?_)
 ·obtain⟨j,v⟩:=st
  obtain⟨ay,aO⟩:=hs
  simp only at ay aO; subst ay
  refine .cond (fun _=>.eq rfl (.eq aa ?_)) (fun al=>by simp at al; omega)
  refine .bind (P:=fun xk=> ∀ j,j<4→br xk j=if j<i+1 then(if j<h3 s k then br c7 j else default) else br c7 j) (.cond (fun al=>.idx rfl ak (.ret fun j aE=>?_)) fun al=>.ret fun j aE=>?_) fun xk nj=>.ret ⟨eT (by omega),nj⟩
  ·have al:h3 s k≤i:=by simp at al; omega
   rw [gp _ _ ak]
   by_cases hE:j=i
   ·rw [if_pos hE,if_pos (show j<i+1 by omega),if_neg (show ¬ j<h3 s k by omega)]
   rw [if_neg hE,aO j aE]
   by_cases cD:j<i
   ·rw [if_pos cD,if_pos (show j<i+1 by omega)]
   rw [if_neg cD,if_neg (show ¬ j<i+1 by omega)]
  have al:i<h3 s k:=by simp at al; omega
  rw [aO j aE]
  by_cases hE:j=i
  ·rw [if_neg (show ¬ j<i by omega),if_pos (show j<i+1 by omega),if_pos (show j<h3 s k by omega)]
  by_cases cD:j<i
  ·rw [if_pos cD,if_pos (show j<i+1 by omega)]
  rw [if_neg cD,if_neg (show ¬ j<i+1 by omega)]
 obtain⟨j,v⟩:=st
 obtain⟨ay,aO⟩:=hs
 simp only at ay aO; subst ay
 refine⟨_,by simp; rfl,?_⟩
 have a2:v=k5 (h3 s k) c7:=EG fun j aE=>by rw [aO j aE,if_pos aE,nv aE]
 subst a2
 exact .eq rfl (.eq aa (.eq (aaq h aw bn aq.lU c7) (.eq (entry_eq h aw aq fun i ak=>E6 ak) (.ret rfl))))
theorem nA.mono {s:a3} {k:Nat} {hp:a1 Cell} {p:Nat} {l:List aJ} {own own':Nat→Prop} (h:nA s k hp p l own) (bm:∀ q,own q→own' q) (ak:∀ q,own' q→q∈fh hp):nA s k hp p l own':=by
 obtain⟨f,m,em,aa,ad,aF,aX,a0,bn⟩:=h.cell
 exact⟨h.lU,⟨f,m,em,aa,ad,bm p aF,bm m aX,a0,bn.congr (fun q _ hq=>⟨bm q hq.1,hq.2⟩) fun q hq=>rfl⟩,ak⟩
theorem h4.nil {s:a3} {k:Nat} :h4 s k []:=⟨⟨fun i ak=>by(cases ak),.nil,by simp⟩,.nil⟩
def Lm:Nat→Prop:=fun _=>False
theorem Yo {s:a3} (h:db s) {k:Nat} (aw:k<4) (hp:a1 Cell):eC (x7 hp s ((k:Int)+1)) (fun r=> ∃ p,r.1=some p∧nA s k r.2 p [] (nx Lm hp r.2)∧fi hp r.2 Lm):=by
 refine(aaf h aw hp).mono fun r aQ=>?_
 obtain⟨p,e,aQ⟩:=aQ
 obtain⟨c,m,aa,ad,aF,aX,a0,bn,cZ,e5,fX,kI,qY,C1⟩:=aQ.cell
 obtain⟨ad3,aV,f,eR⟩:=c
 simp only at ad aF aX bn cZ e5
 subst ad aF aX
 have hm:=v3 a0
 have hp':=m0 aa
 refine⟨p,e,⟨h4.nil,⟨f,m,[],aa,a0,.inr ⟨fX,k7 hp'⟩,.inr ⟨kI,k7 hm⟩,List.Perm.refl _,?_⟩,fun q hq=>hq.elim (fun h=>h.elim) fun h=>h.2⟩,⟨qY,fun q hq _=>C1 q hq⟩⟩
 have key:∀ q c,pat r.2 q=some c→ (∀ x,c≠ .kC x)→ (∀ x,c≠ .ny x)→q ∉ fh hp→nx Lm hp r.2 q∧q≠m∧q≠p:=fun q c al xo LU aR=>
  ⟨.inr ⟨aR,k7 al⟩,fun e=>by rw [e,hm] at al; cases al; exact xo _ rfl,fun e=>by rw [e,hp'] at al; cases al; exact LU _ rfl⟩
 have:k=0∨k=1∨2≤k:=by omega
 rcases this with rfl | rfl | c6
 ·obtain⟨q,cY,rfl,av,aW,bB,cn⟩:=bn rfl
  exact .inl ⟨rfl,q,rfl,⟨cY,[],av,aW,key q _ (ur av) (fun _ h=>by cases h) (fun _ h=>by cases h) bB,key cY _ (rD aW) (fun _ h=>by cases h) (fun _ h=>by cases h) cn,fun c7 n=>⟨fun h=>(by cases h),fun⟨i,ak,_⟩=>(by cases ak)⟩,.nil⟩⟩
 ·obtain⟨fA,rfl,av,aW⟩:=cZ rfl
  exact .inr (.inl ⟨rfl,fA,rfl,⟨[],av,key fA _ (mw av) (fun _ h=>by cases h) (fun _ h=>by cases h) aW,fun c7 r h=>(by cases h),fun c7 _ i ak=>(by cases ak),fun c7 j7 t fH h=>(by cases h),.nil⟩⟩)
 obtain⟨q,ad9,cap,rfl,av,aW⟩:=e5 c6
 exact .inr (.inr ⟨c6,q,rfl,⟨ad9,cap,av,key q _ (uv av) (fun _ h=>by cases h) (fun _ h=>by cases h) aW⟩⟩)
theorem h4.snoc {s:a3} {k:Nat} {l:List aJ} (h:h4 s k l) {i:aJ} (ak:lO s k i) (a7:hz l i.bK=none) (aR:ji l i.cH=false) (ao:l.length<900):h4 s k (l++[i]) where
 ok:=h.ok.snoc ak aR ao
 key:=by
  rw [List.pairwise_append]
  exact⟨h.key,by simp,fun a bp c al=>by rw [List.mem_singleton.1 al]; exact ug a7 a bp⟩
theorem WV {hp:a1 Cell} {p:Nat} {k:Cell} {x:List (Int×aJ)} (h:pat hp p=some k):m3 (dr hp p (.kC x)) p=some x:=by unfold m3; rw [wb h]
theorem PA (o:Option aJ):(nO o).2=o.isSome:=by cases o <;> rfl
def tA (l:List aJ) (i:aJ):Bool:=(hz l i.bK).isNone&& !ji l i.cH
def added (l:List aJ) (i:aJ):List aJ:=if tA l i=true then l++[i] else l
theorem PB {s:a3} (h:db s) {k:Nat} (aw:k<4) {hp:a1 Cell} {p:Nat} {l:List aJ} {own:Nat→Prop} (aq:nA s k hp p l own) {i:aJ} (ak:lO s k i) (hlen:l.length<900):
 eC (xL hp (some p) i) (fun r=>r.1=tA l i∧nA s k r.2 p (added l i) (nx own hp r.2)∧fi hp r.2 own):=by
 obtain⟨f,m,em,aa,ad,aF,aX,a0,bn⟩:=aq.cell
 have hm:=v3 ad
 have hp':=m0 aa
 have mf:p≠m:=fun e=>by rw [e,hm] at hp'; cases hp'
 have fq:=a0.no aq.lU.ok i.cH
 unfold xL
 refine .cond (fun al=>by cases al) fun _=>.eq rfl (.eq aa (.eq rfl (.eq ad (.eq rfl (.eq rfl (.eq aa (.eq (QP h aw bn aq.lU ak.eV) (.cond (fun al=>.ret ?_) fun al=>?_))))))))
 ·rw [fq,PA,Bool.or_eq_true] at al
  have b1:tA l i=false:=by
   unfold tA
   rcases al with al | al
   ·cases a7:hz l i.bK with
    | none=>rw [a7] at al; cases al
    | some _=>rfl
   rw [al]; simp
  refine⟨b1.symm,?_,.refl⟩
  unfold added
  rw [b1]
  exact aq.mono (fun q hq=>.inl hq) fun q hq=>hq.elim (aq.GI q) fun hq=>absurd hq.2 hq.1
 rw [fq,PA,Bool.or_eq_false_iff] at al
 obtain⟨bY,cN⟩:=al
 have a7:hz l i.bK=none:=by
  cases a7:hz l i.bK with
  | none=>rfl
  | some _=>rw [a7] at bY; cases bY
 have b1:tA l i=true:=by unfold tA; rw [a7,cN]; rfl
 have bQ:dX em i.cH=none:=by
  cases bQ:dX em i.cH with
  | none=>rfl
  | some _=>rw [bQ,cN] at fq; cases fq
 have aA:pat (dr hp m (Cell.kC (hc em i.cH i))) p=some (.ny ⟨oL k,(h3 s k:Int),f,⟨some m⟩⟩):=by rw [nX mf.symm]; exact hp'
 have f1:pM s k (dr hp m (Cell.kC (hc em i.cH i))) f l (fun q=>own q∧q≠m∧q≠p):=bn.congr (fun q _ hq=>hq) fun q hq=>nX hq.2.1.symm
 refine .eq rfl (.eq aa (.eq (Br h aw ak) (.eq rfl (.eq ad (.eq rfl (.eq (by unfold iY; rw [aA]) (.bind (aau h aw f1 (fun q hq=>by rw [vS]; exact aq.GI q hq.1) aq.lU ak a7 cN hlen) fun hi aQ=>.ret ⟨b1.symm,?_,?_⟩)))))))
 ·obtain⟨js,hl⟩:=aQ
  have dA:pat hi p=some (.ny ⟨oL k,(h3 s k:Int),f,⟨some m⟩⟩):=by rw [hl.rest p (k7 aA) (fun hq=>hq.2.2 rfl)]; exact aA
  have dK:pat hi m=some (.kC (hc em i.cH i)):=by
   have:pat (dr hp m (Cell.kC (hc em i.cH i))) m=some (.kC (hc em i.cH i)):=wb hm
   rw [hl.rest m (k7 this) (fun hq=>hq.2.1 rfl)]; exact this
  unfold added
  rw [if_pos b1]
  refine⟨aq.lU.snoc ak a7 cN hlen,⟨f,m,_,by unfold iY; rw [dA],by unfold m3; rw [dK],.inl aF,.inl aX,?_,js.congr (fun q _ hq=>?_) fun q _=>rfl⟩,fun q hq=>?_⟩
  ·unfold tb
   rw [Ob bQ,List.map_append]
   exact List.Perm.append_right _ a0
  ·rcases hq with hq | ⟨av,aW⟩
   ·exact⟨.inl hq.1,hq.2⟩
   rw [vS] at av
   exact⟨.inr ⟨av,aW⟩,fun e=>av (e ▸ k7 hm),fun e=>av (e ▸ k7 hp')⟩
  rcases hq with hq | hq
  ·exact hl.keys q (by rw [vS]; exact aq.GI q hq)
  exact hq.2
 exact(fi.up (own:=own) aX).trans aQ.2 fun q _ hq=>hq.1
theorem WW (x:cL) (n:Int) (ao:x.ch.length≤1000):bl (DA x n) (fun r=>(r= -1∧ji x.ch n=false)∨ ∃ i:Nat,i<x.ch.length∧r=i∧ (az x.ch i).cH=n∧ji x.ch n=true∧ ∀ j,j<i→ (az x.ch j).cH≠n):=QK x n ao
theorem XF {l:List aJ} {n:Int} {i:Nat} (aR:l.Pairwise fun a c=>a.cH≠c.cH) (ak:i<l.length) (h:(az l i).cH=n):
 l.take i++l.drop (i+1)=l.filter (fun c=>c.cH !=n):=by
 rw [e0 _ ak] at h
 have GD:l=l.take i++l[i]::l.drop (i+1):=by rw [List.getElem_cons_drop,List.take_append_drop]
 rw [GD,List.pairwise_append] at aR
 obtain⟨aa,ad,aF⟩:=aR
 obtain⟨aX,a0⟩:=List.pairwise_cons.1 ad
 conv=>rhs; rw [GD]
 rw [List.filter_append,List.filter_cons_of_neg (by simp [h])]
 congr 1
 ·exact(List.filter_eq_self.2 fun c al=>by have:=aF c al l[i] List.mem_cons_self; rw [h] at this; simpa using this).symm
 exact(List.filter_eq_self.2 fun c al=>by have:=aX c al; rw [h] at this; simp; exact fun e=>this e.symm).symm
theorem iV.filter {s:a3} {k:Nat} {l:List aJ} (h:iV s k l) (q:aJ→Bool):iV s k (l.filter q) where
 ok i ak:=h.ok i (List.mem_filter.1 ak).1
 num:=h.num.sublist List.filter_sublist
 len:=Nat.le_trans (List.length_filter_le _ _) h.len
theorem We {s:a3} {k:Nat} {l:List aJ} (ao:iV s k l) (n:Int):
 zq (oq s k l) n=some (ji l n,oq s k (l.filter fun c=>c.cH !=n)):=by
 refine bl.get ?_
 unfold zq
 obtain⟨js,hl⟩:=ao.e9
 refine(WW (oq s k l) n (by show(e9 _ l).length≤1000; omega)).bind fun aD aa=>?_
 rcases aa with⟨rfl,ad⟩ | ⟨j,ad,rfl,aF,aX,a0⟩
 ·have kn:ji l n=false:=by rw [← ad]; exact EZ.symm
  refine .cond (fun _=>.ret ?_) fun al=>by simp at al
  rw [kn,List.filter_eq_self.2 fun c al=>by simpa using OH kn c al]
 have tv:ji l n=true:=by rw [← aX]; exact EZ.symm
 refine .cond (fun al=>by simp at al; omega) fun _=>?_
 have aE:j<(e9 (eS s k) l).length:=ad
 refine .eq (a:=e9 (eS s k) (l.filter fun c=>c.cH !=n)) ?_ (.ret ?_)
 ·show B6 (e9 (eS s k) l) _ _=_
  unfold B6
  rw [eT (by omega),if_pos ⟨by omega,by omega,by omega⟩]
  have adA:(e9 (eS s k) l).Pairwise fun a c=>a.cH≠c.cH:=((Iv l).symm.pairwise_iff fun cE=>fun e=>cE e.symm).1 ao.num
  rw [← V3 (pG s k) ao.xe,← XF adA aE aF]
  simp
 rw [tv]; rfl
theorem Nz:As=some true:=by kernel_rfl
theorem Wf {s:a3} (h:db s) {k:Nat} (aw:k<4) {x:Int} (em:sq x (s.bt.length:Int)=some (k:Int)) (hp:a1 Cell) (c:bu) (al:hv c) (n:Nat) (aR:n≤100):
 eC (Am hp s c x (n:Int)) (fun r=> ∃ p own,r.1=some p∧nA s k r.2.2.2 p r.2.1 own∧r.2.1.length≤n∧hv r.2.2.1):=by
 unfold Am
 have adB:=(h.iJ aw).1
 refine .eq em (.idx rfl (by rw [h.lj]; exact aw) ?_)
 rw [adB]
 refine .bind (Yo h aw hp) fun aK ad=>?_
 obtain⟨p,e,aq,_⟩:=ad
 obtain⟨adC,de⟩:=aK
 simp only at e aq
 subst e
 refine .bind (P:=fun ay=> ∃ own,nA s k ay.2.2.2.2 p ay.2.2.1 own∧ay.2.2.1.length≤n∧hv ay.2.2.2.1)
  (eC.loop n (fun j st=> ∃ l iC hp' own,st=((j:Int),l,iC,hp')∧nA s k hp' p l own∧l.length≤j∧hv iC) (by omega) ⟨[],c,de,_,rfl,aq,by simp,al⟩ (fun j st aE hs=>?_) (fun st hs=>?_)) fun ay aa=>.ret ⟨p,aa.elim fun own h=>⟨own,rfl,h⟩⟩
 ·obtain⟨l,iC,hp',own,rfl,aq,tz,hT⟩:=hs
  refine .c0 (P:=fun _=>True) (fun _=>WN _) fun bb _=>.cond (fun al=>?_) fun al=>.ret ⟨own,aq,Nat.le_trans tz (by omega),hT⟩
  refine .nJ (V0 iC x hT h) fun bJ ⟨aX,k',jL,tn,he⟩=>.eq rfl ?_
  have lL:k'=k:=by rw [em] at tn; simp only [Option.some.injEq] at tn; omega
  subst lL
  generalize df:({ (default:aJ) with bK:=bJ.1,cH:=bs ((j:Int)+1) } :aJ)=z
  have ak:lO s k' z:=⟨by rw [← df]; exact he⟩
  simp only [df]
  refine .bind (PB h aw aq ak (by omega)) fun bq a0=>?_
  obtain⟨av,aW,bB⟩:=a0
  obtain⟨aeD,hi⟩:=bq
  simp only at av aW bB
  refine .eq (a:=added l z) ?_ (.ret ⟨_,bJ.2,hi,_,by rw [eT (by omega)],aW,?_,aX⟩)
  ·simp only [av]
   unfold added
   cases tA l z
   ·rfl
   show(fV 88 l [_]).bind (fun b6=>some b6)=_
   rw [il _ _ (by simp; omega) (by omega)]; rfl
  unfold added; split
  ·simp; omega
  omega
 obtain⟨l,iC,hp',own,rfl,aq,tz,hT⟩:=hs
 refine .c0 (P:=fun _=>True) (fun al=>by simp at al) fun bb _=>.cond (fun al=>by simp at al) fun al=>.ret ⟨own,aq,tz,hT⟩
theorem Yp (s:a3) (k:Nat) (i:aJ):eS s k i i=false:=by
 cases h:eS s k i i with
 | false=>rfl
 | true=>have:=(pG s k).asymm _ _ h; rw [h] at this; cases this
theorem NA {α:Type} {b:α→α→Bool} (hb:r7 b) {q:α→Bool} :∀ {l:List α} {c:α},l.Pairwise (fun x y=>b x y=true)→l.find? q=some c→ ∀ d∈l,q d=true→d=c∨b c d=true
 | [],c,_,h,_,_,_=>by cases h
 | a::l,c,hs,h,d,hd,hq=>by
   obtain⟨aa,ad⟩:=List.pairwise_cons.1 hs
   by_cases mP:q a=true
   ·rw [List.find?_cons_of_pos mP] at h
    cases h
    rcases List.mem_cons.1 hd with aF | aF
    ·exact .inl aF
    exact .inr (aa d aF)
   rw [List.find?_cons_of_neg mP] at h
   rcases List.mem_cons.1 hd with aF | aF
   ·rw [aF] at hq; exact absurd hq mP
   exact NA hb ad h d aF hq
theorem EC {s:a3} {k:Nat} {l:List aJ} (ao:iV s k l) {p:Vector an 4} {c:aJ} (h:hU s k l p=some c):∀ d∈l,mt s k p d.bK=true→d=c∨eS s k c d=true:=fun d hd hq=>
 NA (pG s k) (Ez (pG s k) ao.xe) h d (pF.2 hd) hq
theorem Oc {s:a3} {k:Nat} {l:List aJ} {p:Vector an 4} {d:aJ} (hd:d∈l) (hq:mt s k p d.bK=true):∃ c,hU s k l p=some c:=by
 cases h:hU s k l p with
 | some c=>exact⟨c,rfl⟩
 | none=>
   unfold hU at h
   have:=List.find?_eq_none.1 h d (pF.2 hd)
   exact absurd hq this
theorem Wg {s:a3} (h:db s) {k:Nat} (aw:k<4) (aQ:ma s k=false) {l:List aJ} (ao:iV s k l) {i:aJ} (ak:i∈l) (al:nn (lS s i.bK) (mQ s k l i)) {p:Vector an 4} (hb:Lf s k p) (hm:mt s k p i.bK=true):∃ c,hU s k l p=some c∧c.cH≠i.cH:=by
 obtain⟨x,aq,aa⟩:=al p ((QO h aw aQ (ao.ok i ak).eV hb).2 hm)
 obtain⟨w,hw,rfl⟩:=List.mem_map.1 aq
 obtain⟨Da,pV⟩:=List.mem_filter.1 hw
 have R7:=(QO h aw aQ (ao.ok w Da).eV hb).1 aa
 obtain⟨c,xg⟩:=Oc Da R7
 refine⟨c,xg,fun e=>?_⟩
 have ph:=ao.uniq (E6 xg) ak e
 subst ph
 rcases EC ao xg w Da R7 with aO | aO
 ·rw [aO,Yp] at pV; cases pV
 rw [(pG s k).asymm _ _ pV] at aO; cases aO
theorem XG {kind b:Int} {m:cA} (hm:oo kind b m) (aa:1≤kind∧kind≤3) {x y:an} (a6:∀ j,j<128→bA y j=(bA x j&&decide ((j:Int)<b))) (h:jO kind b m x=true):jO kind b m y=true:=by
 unfold jO at h ⊢
 by_cases hp:m.g1=false
 ·rw [if_pos hp]
 rw [if_neg hp] at h ⊢
 by_cases ay:kind=1
 ·rw [if_pos ay,decide_eq_true_eq] at h ⊢
  refine sN fun j aE=>?_
  rw [a6 j aE,h]
  cases a2:bA m.bS j with
  | false=>rfl
  | true=>rw [decide_eq_true (hm.low ay j aE a2)]; rfl
 rw [if_neg ay] at h ⊢
 by_cases aO:kind=2
 ·rw [if_pos aO,List.all_eq_true] at h ⊢
  intro j aE
  have r5:=List.mem_range.1 aE
  have aF:=h j aE
  cases ao:lead b m.fp j with
  | false=>rfl
  | true=>
    rw [ao] at aF
    have Cx:(j:Int)<b:=by unfold lead at ao; rw [Bool.and_eq_true,decide_eq_true_eq] at ao; exact ao.1
    rw [a6 j r5,decide_eq_true Cx,Bool.and_true]; exact aF
 rw [if_neg aO] at h ⊢
 have cK:kind=3:=by omega
 rw [if_pos cK,decide_eq_true_eq] at h ⊢
 rw [← h]
 refine sN fun j aE=>?_
 rw [pC,pC,a6 j aE]
 cases a2:bA m.b3 j with
 | false=>simp
 | true=>rw [decide_eq_true (hm.RV cK j aE a2),Bool.and_true]
theorem acb {s:a3} (h:db s) {k:Nat} (aw:k<4) (aQ:ma s k=false) {e:bC} (he:ia s k e) {p p5:Vector an 4}
 (hp:∀ c j,c<(az s.bt k).bN.length→j<128→bA (br p5 c) j=(bA (br p c) j&&decide ((j:Int)<gh (az (az s.bt k).bN c)))) (hm:mt s k p e=true):Lf s k p5∧mt s k p5 e=true:=by
 refine⟨fun c j al aE a2=>?_,?_⟩
 ·rw [hp c j al aE,Bool.and_eq_true,decide_eq_true_eq] at a2
  exact a2.2
 unfold mt at hm ⊢
 rw [List.all_eq_true] at hm ⊢
 intro c al
 have hT:=List.mem_range.1 al
 obtain⟨_,_,_,a,b,_⟩:=(h.iJ aw).2.2.1 (az (az s.bt k).bN c) (by rw [e0 _ hT]; exact List.getElem_mem _)
 have aX:=E2 aQ c hT
 exact XG (he.q0 c hT) ⟨a,by omega⟩ (fun j aE=>hp c j hT aE) (hm c al)
theorem IB {hp hp':a1 Cell} {root:Ref} {ws:List Bool} {b:Bool} {p q:Nat} {c tJ:dM} (b1:oc hp root) (hw:c4 hp root ws=some p) (al:cW hp p=some c) (hq:br c.c8 (fE b)=some q) (mO:cW hp q=some tJ) (ao:∀ x,br tJ.c8 (fE x)=none)
 (de:cW hp' p=some { c with c8:=c5 c.c8 (fE b) none }) (hi:∀ x,x≠p→cW hp' x=cW hp x):
 ∀ (a5 us:List Bool) (r:Nat),c4 hp root us=some r→us≠ws++[b]→c4 hp' (some r) a5=if us++a5=ws++[b] then none else c4 hp (some r) a5
 | [],us,r,hu,dm=>by
   rw [List.append_nil,if_neg dm]; rfl
 | x::xs,us,r,hu,dm=>by
   obtain⟨LW,q2⟩:=b1.reads us r hu
   by_cases pd:r=p
   ·subst pd
    have K3:=b1.inj us ws r hu hw
    subst K3
    rw [al] at q2; cases q2
    rw [hY de,hY al]
    simp only
    have cD:fE b<2:=by cases b <;> decide
    rw [gp _ _ cD]
    by_cases xc:x=b
    ·subst xc
     rw [if_pos rfl,hq,gO]
     by_cases h:xs= []
     ·subst h; rw [if_pos rfl]
     have fq: ¬ us++x::xs=us++[x]:=fun e=>h (by have:=List.append_cancel_left e; simpa using this)
     rw [if_neg fq]
     cases xs with
     | nil=>exact absurd rfl h
     | cons y ys=>rw [hY mO,ao,gO]
    have adD: ¬ fE x=fE b:=fun e=>xc (by cases x <;> cases b <;> first | rfl | cases e)
    have fq:∀ ys,¬ us++x::ys=us++[b]:=fun ys e=>xc (by have:=List.append_cancel_left e; simpa using (List.cons.inj this).1)
    rw [if_neg adD,if_neg (fq xs)]
    cases e:br c.c8 (fE x) with
    | none=>rw [gO,gO]
    | some lT=>
      have mM:c4 hp root (us++[x])=some lT:=by rw [lZ,hu,hY al,e,mu]
      rw [IB b1 hw al hq mO ao de hi xs (us++[x]) lT mM (fq []),List.append_assoc,List.singleton_append,if_neg (fq xs)]
   have aa:cW hp' r=some LW:=by rw [hi r pd]; exact q2
   rw [hY aa,hY q2]
   have acd:us++[x]≠ws++[b]:=fun e=>by
    have:=List.append_inj_left' e rfl
    subst this
    rw [hu] at hw; cases hw; exact pd rfl
   cases e:br LW.c8 (fE x) with
   | none=>rw [gO,gO]; split <;> rfl
   | some lT=>
     have mM:c4 hp root (us++[x])=some lT:=by rw [lZ,hu,hY q2,e,mu]
     rw [IB b1 hw al hq mO ao de hi xs (us++[x]) lT mM acd,List.append_assoc,List.singleton_append]
theorem cut {hp hp':a1 Cell} {r:Nat} {ws:List Bool} {b:Bool} {p q:Nat} {c tJ:dM} (b1:oc hp (some r)) (hw:c4 hp (some r) ws=some p) (al:cW hp p=some c) (hq:br c.c8 (fE b)=some q) (mO:cW hp q=some tJ) (ao:∀ x,br tJ.c8 (fE x)=none) (hu:tJ.dP=false)
 (de:cW hp' p=some { c with c8:=c5 c.c8 (fE b) none }) (hi:∀ x,x≠p→cW hp' x=cW hp x):
 oc hp' (some r)∧ (∀ a5,c4 hp' (some r) a5=if a5=ws++[b] then none else c4 hp (some r) a5)∧ ∀ a5,cont hp' (some r) a5=cont hp (some r) a5:=by
 have a7:∀ a5,c4 hp' (some r) a5=if a5=ws++[b] then none else c4 hp (some r) a5:=fun a5=>IB b1 hw al hq mO ao de hi a5 [] r rfl (by simp)
 have K4:c4 hp (some r) (ws++[b])=some q:=by rw [lZ,hw,hY al,hq,mu]
 refine⟨⟨fun a5 x h=>?_,fun a5 cs x aa ad=>?_,fun a5 x h=>?_⟩,a7,fun a5=>?_⟩
 ·rw [a7] at h
  split at h
  ·cases h
  obtain⟨iC,aa⟩:=b1.reads a5 x h
  by_cases e:x=p
  ·subst e; exact⟨_,de⟩
  exact⟨iC,by rw [hi x e]; exact aa⟩
 ·rw [a7] at aa ad
  split at aa <;> split at ad
  ·cases aa
  ·cases aa
  ·cases ad
  exact b1.inj a5 cs x aa ad
 ·rw [a7] at h
  split at h
  ·cases h
  exact b1.dep a5 x h
 by_cases e:a5=ws++[b]
 ·subst e
  rw [kv (by rw [a7,if_pos rfl]),kd K4 mO,hu]; rfl
 have xd:c4 hp' (some r) a5=c4 hp (some r) a5:=by rw [a7,if_neg e]
 cases h:c4 hp (some r) a5 with
 | none=>rw [kv h,kv (xd.trans h)]
 | some x=>
   obtain⟨iC,aa⟩:=b1.reads a5 x h
   by_cases eq:x=p
   ·subst eq
    rw [al] at aa; cases aa
    rw [kd h al,kd (xd.trans h) de]
   rw [kd h aa,kd (xd.trans h) (by rw [hi x eq]; exact aa)]
structure Kc (lq hp:a1 Cell) (t:Nat) (g:List Bool→Option Int) (r:Nat):Prop where
 cell:∃ c,fR hp t=some c∧c.fL=32∧c.cQ=some r
 tree:oc hp (some r)
 cont:∀ a5,cont hp (some r) a5=g a5
 keeps:fi lq hp (Own lq t)
 own:∀ a5 q,c4 hp (some r) a5=some q→Own lq t q
theorem empty_eq {hp:a1 Cell} {p:Nat} {c:dM} (h:cW hp p=some c):xJ hp (some p)=some (!c.dP&&decide (c.c8=default)):=by
 refine bl.get ?_
 unfold xJ
 refine .eq rfl (.eq h ?_)
 refine .c0 (P:=fun r=>r=p) (fun _=>⟨p,rfl,rfl⟩) fun o aa=>?_
 refine .c0 (P:=fun r=>r=c) (fun ad=>⟨c,by rw [aa ad]; exact h,rfl⟩) fun cN ad=>.ret ?_
 cases hu:c.dP with
 | true=>rfl
 | false=>rw [ad (by rw [hu]; rfl)]
theorem Wh (v:an) (n:Nat):(dC v n).length=n:=by unfold dC; simp
theorem Wi (v:an) {i n:Nat} (h:i≤n):dC v n=dC v i++(dC v n).drop i:=by
 have:dC v i=(dC v n).take i:=by unfold dC; rw [← List.map_take,List.take_range]; congr 2; omega
 rw [this,List.take_append_drop]
theorem E7 {hp:a1 Cell} {r:Ref} {v:an} {i n:Nat} (h:i≤n) {p:Nat} (hp':c4 hp r (dC v n)=some p):∃ q,c4 hp r (dC v i)=some q:=by
 rw [Wi v h,lZ] at hp'
 cases e:c4 hp r (dC v i) with
 | none=>rw [e,gO] at hp'; cases hp'
 | some q=>exact⟨q,rfl⟩
theorem Wj {hp:a1 Cell} {t:Nat} {g:List Bool→Option Int} (h:jg hp t g) {n:Nat} (aR:n≤32) {v:an} (a2:∀ j,j<128→bA v j=true→lead 32 n j=true) {id:Int} (bQ:g (dC v n)=some id):
 bl (xH hp (some t) v n) (fun r=>r.1=true∧jg r.2 t (fun a5=>if a5=dC v n then none else g a5)∧fi hp r.2 (Own hp t)∧ ∀ q,Own r.2 t q→Own hp t q):=by
 obtain⟨c,al,hb,b1,Ln⟩:=h.ok
 have ace:∃ p,c4 hp c.cQ (dC v n)=some p:=by
  cases e:c4 hp c.cQ (dC v n) with
  | none=>rw [← Ln,kv e] at bQ; cases bQ
  | some p=>exact⟨p,rfl⟩
 obtain⟨vg,jz⟩:=ace
 have aav:∃ r,c.cQ=some r:=by
  obtain⟨q,hq⟩:=E7 (Nat.zero_le n) jz
  rw [AK,mu] at hq
  exact⟨q,hq⟩
 obtain⟨r,aQ⟩:=aav
 rw [aQ] at b1 Ln jz
 unfold xH
 refine .eq (Px h aR a2) ?_
 rw [bQ]
 refine .cond (fun al=>by cases al) fun _=>.eq rfl (.eq al (.eq rfl ?_))
 rw [aQ]
 show bl (Option.bind (p8 hp (n:Int) v (some t) _ _) _) _
 refine bl.bind (P:=fun e:(List Int×List Ref) ⊕ Empty=> ∃ bits nq,e= .inl (bits,nq)∧nq.length=n+1∧bits.length=n∧ (∀ j,j≤n→az nq j=c4 hp (some r) (dC v j))∧ ∀ j,j<n→az bits j=((fE (bA v (31 - j)):Nat):Int))
  (JF al hb v aR (fun i s=> ∃ bits nq,s=(bits,nq)∧nq.length=i+1∧bits.length=i∧ (∀ j,j≤i→az nq j=c4 hp (some r) (dC v j))∧ ∀ j,j<i→az bits j=((fE (bA v (31 - j)):Nat):Int)) ⟨[],[some r],rfl,rfl,rfl,fun j aE=>?_,fun j aE=>by omega⟩ (fun i s ak hs=>?_) (fun s hs=>?_)) fun e he=>?_
 ·have:j=0:=by omega
  subst this
  rw [AK,mu]; rfl
 ·obtain⟨bits,nq,rfl,aa,ad,aF,aX⟩:=hs
  obtain⟨q,hq⟩:=E7 (show i≤n by omega) jz
  obtain⟨d,hd⟩:=b1.reads _ _ hq
  have hw:bs ((nq.length:Int) - 1)=(i:Int):=by rw [hC (by omega) (by omega)]; omega
  simp only [hw]
  have cD:fE (bA v (31 - i))<2:=by cases bA v (31 - i) <;> decide
  refine .idx rfl (by omega) (.eq (a:=q) (by rw [aF i (Nat.le_refl _)]; exact hq) (.idx rfl cD (.eq hd (.eq (il _ _ (by simp; omega) (by omega)) (.eq (il _ _ (by simp; omega) (by omega)) (.ret ⟨_,_,rfl,by simp; omega,by simp; omega,fun j aE=>?_,fun j aE=>?_⟩))))))
  ·rw [HP]
   by_cases hE:j=nq.length
   ·rw [if_pos hE,show j=i+1 by omega,AJ,lZ,hq,hY hd,mu]
   rw [if_neg hE]; exact aF j (by omega)
  rw [HP]
  by_cases hE:j=bits.length
  ·rw [if_pos hE,show j=i by omega]
  rw [if_neg hE]; exact aX j (by omega)
 ·exact⟨s.1,s.2,by obtain⟨bits,nq,rfl,_⟩:=hs; rfl,by obtain⟨bits,nq,rfl,h⟩:=hs; exact h⟩
 obtain⟨bits,nq,rfl,aa,ad,aF,aX⟩:=he
 simp only [Sum.elim_inl]
 obtain⟨d,hd⟩:=b1.reads _ _ jz
 have Lb:=py.1 hd
 have jJ:cW (dr hp vg (.gk { d with dP:=false })) vg=some { d with dP:=false } :=ye Lb
 refine .idx rfl (by omega) (.eq (a:=vg) (by rw [aF n (Nat.le_refl _)]; exact jz) (.eq hd (.eq rfl (.eq jJ (.eq rfl ?_)))))
 generalize dw:dr (dr hp vg (.gk { d with dP:=false })) vg (.gk { d with dP:=false,hO:=0 })=dk
 have hj:=FG hd al
 have pW:cW dk vg=some { d with dP:=false,hO:=0 } :=by rw [← dw]; exact ye (py.1 jJ)
 have Kd:∀ q,q≠vg→pat dk q=pat hp q:=fun q hq=>by rw [← dw,nX hq.symm,nX hq.symm]
 obtain⟨s1,s2⟩:=Rn b1 jz hd pW rfl fun q hq=>vC (Kd q hq)
 have Sp:=A1 hd pW rfl fun q hq=>vC (Kd q hq)
 have adE:fR dk t=some c:=by rw [Ef (Kd t hj.symm)]; exact al
 have QR:Own hp t vg:= .inr ⟨c,_,al,by rw [aQ]; exact jz⟩
 have c6:fi hp dk (Own hp t):=by
  rw [← dw]
  exact(fi.up (own:=Own hp t) QR).trans (fi.up QR) fun q _ h=>h
 have LV:Kc hp dk t (fun a5=>if a5=dC v n then none else g a5) r:=⟨⟨c,adE,hb,aQ⟩,s1,fun a5=>by
  rw [s2]
  by_cases e:a5=dC v n
  ·rw [if_pos e]; simp only [if_pos e]; rfl
  rw [if_neg e]; simp only [if_neg e]; exact Ln a5,c6,fun a5 q hq=>.inr ⟨c,a5,al,by rw [aQ,← Sp]; exact hq⟩⟩
 have pV:bs ((n:Int) - 1)=(n:Int) - 1:=hC (by omega) (by omega)
 rw [pV]
 refine bl.bind (P:=fun aO=>Kc hp aO.2.2 t (fun a5=>if a5=dC v n then none else g a5) r) (bl.yI n (fun i st=> ∃ hq,st=((n:Int) - 1 - (i:Int),hq)∧Kc hp hq t (fun a5=>if a5=dC v n then none else g a5) r∧ ∀ j,j+i≤n→c4 hq (some r) (dC v j)=az nq j) (by omega) ⟨dk,by simp,LV,fun j aE=>by rw [Sp,aF j (by omega)]⟩ (fun i st ak hs=>?_) (fun st hs=>?_)) fun aO r9=>?_
 ·obtain⟨hq,rfl,hm,Ke⟩:=hs
  have ay:(n:Int) - 1 - (i:Int)=((n - 1 - i:Nat):Int):=by omega
  have aO:bs ((n:Int) - 1 - (i:Int)+1)=((n - i:Nat):Int):=by rw [hC (by omega) (by omega)]; omega
  have cK:bs ((n:Int) - 1 - (i:Int) - 1)=(n:Int) - 1 - ((i+1:Nat):Int):=by rw [hC (by omega) (by omega)]; omega
  simp only [aO,cK]
  have qM:decide ((n:Int) - 1 - (i:Int)≥0)=true:=by rw [decide_eq_true_eq]; omega
  simp only [qM]
  have jN:=Ke (n - i) (by omega)
  have tj:=Ke (n - 1 - i) (by omega)
  obtain⟨ah,y2⟩:=E7 (show n - i≤n by omega) jz
  obtain⟨J,Gk⟩:=E7 (show n - 1 - i≤n by omega) jz
  rw [aF _ (by omega),y2] at jN
  rw [aF _ (by omega),Gk] at tj
  obtain⟨bY,ed⟩:=hm.tree.reads _ _ jN
  obtain⟨GW,w6⟩:=hm.tree.reads _ _ tj
  refine .c0 (P:=fun eY=>eY=n - i) (fun _=>⟨_,oS (by omega),rfl⟩) fun eY hy=>?_
  rw [hy rfl]
  have Da:az nq (n - i)=some ah:=by rw [aF _ (by omega)]; exact y2
  have KZ:az nq (n - 1 - i)=some J:=by rw [aF _ (by omega)]; exact Gk
  refine .c0 (P:=fun y=>y=(!bY.dP&&decide (bY.c8=default))) (fun _=>⟨_,by rw [Da]; exact empty_eq ed,rfl⟩) fun bq gG=>.cond (fun df=>?_) fun df=>.ret hm
  rw [Bool.true_and,gG rfl,Bool.and_eq_true,Bool.not_eq_true',decide_eq_true_eq] at df
  obtain⟨bH,dn⟩:=df
  have cD:fE (bA v (31 - (n - 1 - i)))<2:=by cases bA v (31 - (n - 1 - i)) <;> decide
  have aaw:dC v (n - i)=dC v (n - 1 - i)++[bA v (31 - (n - 1 - i))]:=by rw [← AJ,show n - 1 - i+1=n - i by omega]
  have pj:br GW.c8 (fE (bA v (31 - (n - 1 - i))))=some ah:=by
   rw [aaw,lZ,tj,hY w6,mu] at jN; exact jN
  have lq:=py.1 w6
  refine .idx ay (by omega) (.idx ay (by omega) (.eq KZ (.idx (aX _ (by omega)) cD (.eq w6 (.eq rfl (.ret ?_))))))
  obtain⟨av,aW,bB⟩:=cut (hp':=dr hq J (.gk { GW with c8:=c5 GW.c8 (fE (bA v (31 - (n - 1 - i)))) none })) hm.tree tj w6 pj ed (fun x=>by rw [dn,x3]; rfl) bH (ye lq) fun x aq=>ua aq.symm
  obtain⟨iC,dA,dK,hH⟩:=hm.cell
  have aax:=hm.own _ _ tj
  refine⟨_,rfl,⟨⟨iC,by rw [Eh (FG w6 dA)]; exact dA,dK,hH⟩,av,fun a5=>by rw [bB]; exact hm.cont a5,hm.keeps.trans (fi.up aax) fun q _ h=>h,fun a5 q k1=>?_⟩,fun j aE=>?_⟩
  ·rw [aW] at k1
   split at k1
   ·cases k1
   exact hm.own a5 q k1
  rw [aW,if_neg (fun e=>by have:=congrArg List.length e; simp only [List.length_append,Wh,List.length_singleton] at this; omega)]
  exact Ke j (by omega)
 ·obtain⟨hq,rfl,hm,_⟩:=hs
  have qM:decide ((n:Int) - 1 - (n:Int)≥0)=false:=by rw [decide_eq_false_iff_not]; omega
  simp only [qM]
  refine .c0 (P:=fun _=>True) (fun al=>by cases al) fun _ _=>.c0 (P:=fun _=>True) (fun al=>by cases al) fun _ _=>.cond (fun al=>by cases al) fun _=>.ret hm
 obtain⟨lQ,dA,dK,hH⟩:=r9.cell
 refine .eq dA ?_
 rw [hH]
 obtain⟨LW,q2⟩:=r9.tree.reads [] r rfl
 refine .eq (empty_eq q2) (.bind (P:=fun bx=>jg bx t (fun a5=>if a5=dC v n then none else g a5)∧fi hp bx (Own hp t)∧ ∀ q,Own bx t q→Own hp t q) (.cond (fun df=>.eq rfl (.ret ?_)) fun _=>.ret ?_) fun bx cy=>.ret ⟨rfl,cy⟩)
 ·rw [Bool.and_eq_true,Bool.not_eq_true',decide_eq_true_eq] at df
  obtain⟨bH,dn⟩:=df
  have R8:fR (dr aO.2.2 t (.j4 { lQ with cQ:=none })) t=some { lQ with cQ:=none } :=N0 (ss.1 dA)
  refine⟨⟨_,R8,dK,⟨fun a5 p h=>(by rw [gO] at h; cases h),fun a5 cs p h=>(by rw [gO] at h; cases h),fun a5 p h=>(by rw [gO] at h; cases h)⟩,fun a5=>?_⟩,r9.keeps.trans (fi.up (own:=Own hp t) (.inl rfl)) fun q _ h=>h,fun q hq=>?_⟩
  ·rw [kv gO,← r9.cont]
   cases a5 with
   | nil=>rw [kd (p:=r) rfl q2,bH]; rfl
   | cons b a5=>rw [kv]; rw [hY q2,dn,x3]; exact gO
  rcases hq with rfl | ⟨iC,a5,eo,fb⟩
  ·exact .inl rfl
  rw [R8] at eo; cases eo
  rw [gO] at fb; cases fb
 refine⟨⟨lQ,dA,dK,by rw [hH]; exact r9.tree,fun a5=>by rw [hH]; exact r9.cont a5⟩,r9.keeps,fun q hq=>?_⟩
 rcases hq with rfl | ⟨iC,a5,eo,fb⟩
 ·exact .inl rfl
 rw [dA] at eo; cases eo
 rw [hH] at fb
 exact r9.own a5 q fb
def kq (hp:a1 Cell):Nat→Ref→List Int
 | 0,_=>[]
 | _+1,none=>[]
 | n+1,some p=>match cW hp p with
   | none=>[]
   | some c=>(bif c.dP then [c.hO] else [])++(kq hp n (br c.c8 0)++kq hp n (br c.c8 1))
theorem Fh {hp:a1 Cell} {n p:Nat} {c:dM} (h:cW hp p=some c):kq hp (n+1) (some p)=(bif c.dP then [c.hO] else [])++(kq hp n (br c.c8 0)++kq hp n (br c.c8 1)):=by
 show(match cW hp p with | none=>[] | some c=>_)=_
 rw [h]
theorem su {hp:a1 Cell} {p:Nat} {c:dM} (h:cW hp p=some c) (b:Bool) (a5:List Bool):cont hp (some p) (b::a5)=cont hp (br c.c8 (fE b)) a5:=by
 unfold cont; rw [hY h]
theorem vN {hp:a1 Cell} :∀ {n:Nat} {r:Ref} {id:Int},id∈kq hp n r→ ∃ a5,cont hp r a5=some id
 | 0,_,_,h=>by cases h
 | _+1,none,_,h=>by cases h
 | n+1,some p,id,h=>by
   cases al:cW hp p with
   | none=>
     have:kq hp (n+1) (some p)= []:=by
      show(match cW hp p with | none=>[] | some c=>_)=_
      rw [al]
     rw [this] at h; cases h
   | some c=>
     rw [Fh al] at h
     rcases List.mem_append.1 h with h | h
     ·refine⟨[],?_⟩
      rw [kd (p:=p) rfl al]
      cases hu:c.dP with
      | true=>rw [hu] at h; rw [List.mem_singleton.1 h]; rfl
      | false=>rw [hu] at h; cases h
     rcases List.mem_append.1 h with h | h
     ·obtain⟨a5,k1⟩:=vN h
      exact⟨false::a5,by rw [su al]; exact k1⟩
     obtain⟨a5,k1⟩:=vN h
     exact⟨true::a5,by rw [su al]; exact k1⟩
theorem Od {hp:a1 Cell} :∀ {n:Nat} {r:Ref} {id:Int} {a5:List Bool},a5.length<n→cont hp r a5=some id→id∈kq hp n r
 | 0,_,_,_,ao,_=>by omega
 | n+1,none,id,a5,_,h=>by rw [kv gO] at h; cases h
 | n+1,some p,id,a5,ao,h=>by
   cases al:cW hp p with
   | none=>
     exfalso
     cases a5 with
     | nil=>
       unfold cont at h
       have:c4 hp (some p) []=some p:=rfl
       rw [this] at h
       simp only [al] at h; cases h
     | cons b a5=>
       have:c4 hp (some p) (b::a5)=none:=by
        show(match cW hp p with | none=>none | some c=>c4 hp (br c.c8 (fE b)) a5)=none
        rw [al]
       rw [kv this] at h; cases h
   | some c=>
     rw [Fh al]
     cases a5 with
     | nil=>
       rw [kd (p:=p) rfl al] at h
       cases hu:c.dP with
       | true=>
         rw [hu] at h
         have:c.hO=id:=by simpa using h
         rw [this]; simp
       | false=>rw [hu] at h; cases h
     | cons b a5=>
       rw [su al] at h
       have ln:a5.length<n:=by simp at ao; omega
       have:=Od ln h
       cases b
       ·exact List.mem_append_right _ (List.mem_append_left _ this)
       exact List.mem_append_right _ (List.mem_append_right _ this)
theorem NB {hp:a1 Cell} :∀ {n:Nat} {r:Ref},(∀ a5 cs id,cont hp r a5=some id→cont hp r cs=some id→a5=cs)→ (kq hp n r).Nodup
 | 0,_,_=>List.nodup_nil
 | _+1,none,_=>List.nodup_nil
 | n+1,some p,h=>by
   cases al:cW hp p with
   | none=>
     have:kq hp (n+1) (some p)= []:=by
      show(match cW hp p with | none=>[] | some c=>_)=_
      rw [al]
     rw [this]; exact List.nodup_nil
   | some c=>
     rw [Fh al]
     have hb:∀ b,(kq hp n (br c.c8 (fE b))).Nodup:=fun b=>NB fun a5 cs id aa ad=>by
      have:=h (b::a5) (b::cs) id (by rw [su al]; exact aa) (by rw [su al]; exact ad)
      simpa using this
     rw [List.nodup_append,List.nodup_append]
     refine⟨by cases c.dP <;> simp,⟨hb false,hb true,fun a bp iC hT e=>?_⟩,fun a bp iC hT e=>?_⟩
     ·subst e
      obtain⟨a5,aa⟩:=vN bp
      obtain⟨cs,ad⟩:=vN hT
      have:=h (false::a5) (true::cs) a (by rw [su al]; exact aa) (by rw [su al]; exact ad)
      simp at this
     subst e
     cases hu:c.dP with
     | false=>rw [hu] at bp; cases bp
     | true=>
       rw [hu] at bp
       have bp:a=c.hO:=List.mem_singleton.1 bp
       have bT:cont hp (some p) []=some a:=by rw [kd (p:=p) rfl al,hu,bp]; rfl
       rcases List.mem_append.1 hT with aa | aa
       ·obtain⟨a5,aa⟩:=vN aa
        have:=h [] (false::a5) a bT (by rw [su al]; exact aa)
        cases this
       obtain⟨a5,aa⟩:=vN aa
       have:=h [] (true::a5) a bT (by rw [su al]; exact aa)
       cases this
theorem Oe:∀ {l m:List Int},l.Nodup→ (∀ x∈l,x∈m)→l.length≤m.length
 | [],m,_,_=>Nat.zero_le _
 | x::l,m,aR,h=>by
   obtain⟨aa,ad⟩:=List.nodup_cons.1 aR
   have aq:=h x (by simp)
   have:=Oe (m:=m.erase x) ad fun y a6=>(List.mem_erase_of_ne fun e=>aa (by rw [← e]; exact a6)).2 (h y (by simp [a6]))
   rw [List.length_erase_of_mem aq] at this
   have hp:=List.length_pos_of_mem aq
   simp only [List.length_cons]; omega
theorem Wk (v:an) (n:Int):bl (tW v n) (fun _=>True):=by
 unfold tW
 exact .cond (fun _=>.ret trivial) fun _=>.cond (fun _=>.eq rfl (.ret trivial)) fun _=>.eq rfl (.eq rfl (.ret trivial))
theorem IC {hp:a1 Cell} {t:Nat} {c:fK} (al:fR hp t=some c):∀ (d f:Nat) (r:Ref) (aP:an) (b5:Int) (iL:List dy),d<f→ (∀ a5 p,c4 hp r a5=some p→a5.length<d)→ (∀ a5 p,c4 hp r a5=some p→ ∃ c,cW hp p=some c)→iL.length+(kq hp d r).length≤20000→
 bl (vi f hp (some t) r aP b5 iL) (fun o=>o.length=iL.length+(kq hp d r).length)
 | d,0,r,aP,b5,iL,a7,_,_,_=>by omega
 | 0,f+1,none,aP,b5,iL,a7,hd,aQ,ao=>⟨iL,rfl,rfl⟩
 | 0,f+1,some p,aP,b5,iL,a7,hd,aQ,ao=>by have:=hd [] p rfl; simp at this
 | d+1,f+1,none,aP,b5,iL,a7,hd,aQ,ao=>⟨iL,rfl,rfl⟩
 | d+1,f+1,some p,aP,b5,iL,a7,hd,aQ,ao=>by
   obtain⟨e,he⟩:=aQ [] p rfl
   rw [Fh he] at ao ⊢
   simp only [List.length_append] at ao ⊢
   have pj:∀ b,(∀ a5 q,c4 hp (br e.c8 (fE b)) a5=some q→a5.length<d)∧ ∀ a5 q,c4 hp (br e.c8 (fE b)) a5=some q→ ∃ c,cW hp q=some c:=fun b=>⟨fun a5 q hq=>by
    have:=hd (b::a5) q (by rw [hY he]; exact hq)
    simp at this; omega,fun a5 q hq=>aQ (b::a5) q (by rw [hY he]; exact hq)⟩
   show bl (cond (some p:Ref).isNone (some iL) _) _
   refine .cond (fun al=>by cases al) fun _=>?_
   refine .bind (P:=fun y=>y.length=iL.length+(bif e.dP then [e.hO] else []).length) ?_ fun aD bo=>?_
   ·unfold DB
    refine .eq rfl (.eq he ?_)
    cases hu:e.dP with
    | true=>
      rw [hu] at ao
      simp only [cond_true,List.length_singleton] at ao
      refine .eq (a:=iL++[{ bS:=aP,vK:=b5,b0:=e.hO }]) ?_ (.ret (by simp))
      show(fV 32 iL _).bind _=_
      rw [il _ _ (by simp; omega) (by omega)]; rfl
    | false=>exact .eq rfl (.ret (by simp))
   refine .eq rfl (.eq he (.bind (IC al d f _ aP (bs (b5+1)) aD (by omega) (pj false).1 (pj false).2 (by rw [bo]; show _+_+(kq hp d (br e.c8 0)).length≤_; omega)) fun aK cb=>?_))
   have cb:aK.length=aD.length+(kq hp d (br e.c8 0)).length:=cb
   refine .eq rfl (.eq rfl (.eq al (.bind (Wk _ _) fun bJ _=>.eq rfl (.bind (IC al d f _ _ (bs (b5+1)) aK (by omega) (pj true).1 (pj true).2 (by rw [cb,bo]; show _+_+_+(kq hp d (br e.c8 1)).length≤_; omega)) fun b6 gH=>.ret ?_))))
   have gH:b6.length=aK.length+(kq hp d (br e.c8 1)).length:=gH
   rw [gH,cb,bo]; omega
theorem Yq {hp:a1 Cell} {t:Nat} {g:List Bool→Option Int} (h:jg hp t g) (ak:∀ a5 cs id,g a5=some id→g cs=some id→a5=cs) (m:List Int) (hm:∀ a5 id,g a5=some id→id∈m) (ao:m.length≤20000):bl (xP hp (some t)) (fun r=>r=0→ ∀ a5,g a5=none):=by
 obtain⟨c,al,hb,b1,bQ⟩:=h.ok
 have aR:(kq hp 33 c.cQ).Nodup:=NB fun a5 cs id aa ad=>ak a5 cs id (by rw [← bQ]; exact aa) (by rw [← bQ]; exact ad)
 have hle:(kq hp 33 c.cQ).length≤m.length:=Oe aR fun x aq=>by
  obtain⟨a5,k1⟩:=vN aq
  exact hm a5 x (by rw [← bQ]; exact k1)
 unfold xP D4 Dv
 refine .bind (P:=fun y=>y.length=(kq hp 33 c.cQ).length) (.bind (P:=fun y=>y.length=(kq hp 33 c.cQ).length) (.bind (P:=fun y=>y.length=(kq hp 33 c.cQ).length) (.cond (fun _=>.eq rfl (.eq al ((show bl (GZ hp (some t) c.cQ default 0 []) _ from IC al 33 ec c.cQ default 0 [] (by unfold ec; omega) (fun a5 p hp=>by have:=b1.dep a5 p hp; omega) b1.reads (by simp; omega)).bind fun y a6=>.ret (by simpa using a6)))) fun al=>by cases al) fun y a6=>.ret a6) fun y a6=>.ret a6) fun y a6=>.ret fun bT a5=>?_
 have bT:(kq hp 33 c.cQ).length=0:=by rw [← a6]; have:(y.length:Int)=0:=bT; omega
 cases adF:g a5 with
 | none=>rfl
 | some id=>
   have xg:cont hp c.cQ a5=some id:=by rw [bQ]; exact adF
   have hlen:a5.length<33:=by
    cases a7:c4 hp c.cQ a5 with
    | none=>rw [kv a7] at xg; cases xg
    | some p=>have:=b1.dep a5 p a7; omega
   have:=Od hlen xg
   rw [List.eq_nil_of_length_eq_zero bT] at this; cases this
def iw (l:List aJ) (e:bC):List aJ:=l.filter fun c=> !jt c.bK e
theorem lY {l:List aJ} {e:bC} {c:aJ} :c∈iw l e↔c∈l∧jt c.bK e=false:=by
 unfold iw; rw [List.mem_filter]; simp
theorem h4.iw {s:a3} {k:Nat} {l:List aJ} (h:h4 s k l) (e:bC):h4 s k (Go.Proofs.YthkfkliknjiecaaGreat.iw l e):=
 ⟨h.ok.filter _,h.key.sublist List.filter_sublist⟩
theorem EI {s:a3} {k:Nat} {l:List aJ} (h:h4 s k l) {e:bC} {i:aJ} (ak:i∈l) (aw:jt i.bK e=true):iw l e=l.filter fun c=>c.cH !=i.cH:=by
 unfold iw
 refine List.filter_congr fun c al=>?_
 by_cases ay:c=i
 ·rw [ay,aw]; simp
 have aa:jt c.bK e=false:=by
  rw [Bool.eq_false_iff]; intro ad
  exact ay (h.uniq al ak (H7 ad (by rw [E4]; exact aw)))
 have ad:c.cH≠i.cH:=fun ad=>ay (h.ok.uniq al ak ad)
 rw [aa]; simp [ad]
theorem acf {s:a3} (h:db s) {hp:a1 Cell} {q:Nat} {l:List aJ} {own:Nat→Prop} (hq:wh s hp q l own) (ao:h4 s 0 l) {i:aJ} (ak:i∈l):
 bl (zA hp ⟨some q⟩ i) (fun hp'=>wh s hp' q (iw l i.bK) own∧fi hp hp' own):=by
 obtain⟨m,em,aa,ad,aF,aX,a0,jK⟩:=hq.ok
 have g7:=(ao.ok.ok i ak).eV
 have bQ:dX em (e7 i.bK)=some i.cH:=(a0 _ _).2 ⟨i,ak,rfl,rfl⟩
 unfold zA DH tP
 refine .eq (E5 (g7.F4 h (by decide)).1) ?_
 refine .eq (a:=(true,dr hp m (Cell.ot (ir em (e7 i.bK))))) ?_ (.ret ?_)
 ·show((m2 hp q).bind _).bind _=_
  rw [aa]
  show((l4 hp m).bind _).bind _=_
  rw [ad]
  show cond (!(dX em (e7 i.bK)).isSome) _ _=_
  rw [bQ]
  show(m2 hp q).bind _=_
  rw [aa]
  show(l4 hp m).bind _=_
  rw [ad]; rfl
 have C9:q≠m:=fun e=>by
  subst e
  have:=ur aa
  rw [rD ad] at this; cases this
 refine⟨⟨m,_,by rw [HC (nX C9.symm)]; exact aa,N7 (rD ad),aF,aX,fun c7 n=>?_,jK.del⟩,.up aX⟩
 rw [AU jK]
 by_cases hj:c7=e7 i.bK
 ·rw [if_pos hj]
  refine⟨fun e=>(by cases e),fun⟨c,al,bn,cZ⟩=>?_⟩
  obtain⟨av,aW⟩:=lY.1 al
  rw [(C8 h (ao.ok.ok c av).eV g7).2 (bn.trans hj)] at aW; cases aW
 rw [if_neg hj,a0]
 constructor
 ·rintro ⟨c,al,bn,cZ⟩
  refine⟨c,lY.2 ⟨al,?_⟩,bn,cZ⟩
  rw [Bool.eq_false_iff]; intro e5
  exact hj (by rw [← bn]; exact(C8 h (ao.ok.ok c al).eV g7).1 e5)
 rintro ⟨c,al,bn⟩
 exact⟨c,(lY.1 al).1,bn⟩
theorem acg {s:a3} (h:db s) {hp:a1 Cell} {m:Nat} {l:List aJ} {own:Nat→Prop} (hq:mx s hp m l own) (ao:h4 s 1 l) {i:aJ} (ak:i∈l):
 bl (zw hp ⟨0,32,⟨some m⟩⟩ i) (fun hp'=>mx s hp' m (iw l i.bK) own∧fi hp hp' own):=by
 obtain⟨em,mi,ad,aF,aX,a0,jK⟩:=hq.ok
 have g7:=(ao.ok.ok i ak).eV
 have g8:=uU h g7
 have b1:∃ t,dX em (gC (e7 i.bK))=some (some t):=by
  cases bQ:dX em (gC (e7 i.bK)) with
  | none=>exact absurd rfl (aX _ bQ i ak)
  | some r=>obtain⟨t,g,rfl,_⟩:=aF _ _ bQ; exact⟨t,rfl⟩
 obtain⟨t,b1⟩:=b1
 obtain⟨fH,g,e,av,aW,bB⟩:=aF _ _ b1
 cases e
 obtain⟨n,aR⟩:=Int.eq_ofNat_of_zero_le g8.pre.1
 have Ci:n≤32:=by have:=g8.pre.2; omega
 have uH:=H8 g8
 have hp':dC (az i.bK.b4 0).bS n=jP i.bK:=by unfold jP; rw [aR]; rfl
 have adG:g (jP i.bK)=some i.cH:=(bB _ _).2 ⟨i,ak,rfl,rfl,rfl⟩
 have R9:∀ c∈l,gC (e7 c.bK)=gC (e7 i.bK)→ (jt c.bK i.bK=false↔jP c.bK≠jP i.bK):=fun c al aq=>by
  rw [Bool.eq_false_iff,ne_eq,za h (ao.ok.ok c al).eV g7]
  exact⟨fun aa ad=>aa ⟨aq,ad⟩,fun aa ad=>aa ad.2⟩
 have nh:∀ c∈l,gC (e7 c.bK)≠gC (e7 i.bK)→jt c.bK i.bK=false:=fun c al aq=>by
  rw [Bool.eq_false_iff,ne_eq,za h (ao.ok.ok c al).eV g7]
  exact fun aa=>aq aa.1
 unfold zw
 refine .eq (IA h g7 _) (.eq rfl (.eq mi (.eq rfl ?_)))
 simp only [b1]
 rw [aR] at uH ⊢
 refine(show bl (xH hp (some t) (az i.bK.b4 0).bS (n:Int)) _ from Wj av Ci uH (by rw [hp']; exact adG)).bind fun aK aQ=>?_
 obtain⟨_,js,hl,oF⟩:=aQ
 rw [hp'] at js
 obtain⟨adC,dk⟩:=aK
 simp only at js hl oF ⊢
 have y9:∀ q,Own hp t q→q≠m:=fun q Lj e=>by
  have:=mw mi
  rw [← e] at this
  rcases av.Fg Lj with⟨c,al⟩ | ⟨c,al⟩ <;> rw [al] at this <;> cases this
 have mf:pat dk m=pat hp m:=hl.rest m (k7 (mw mi)) fun hq=>y9 m hq rfl
 have Kf:j3 dk m=some em:=by rw [Ei mf]; exact mi
 have Cj:∀ a5 tH,(if a5=jP i.bK then none else g a5)=some tH↔ ∃ c∈iw l i.bK,gC (e7 c.bK)=gC (e7 i.bK)∧jP c.bK=a5∧c.cH=tH:=fun a5 tH=>by
  by_cases k1:a5=jP i.bK
  ·rw [if_pos k1]
   refine⟨fun e=>(by cases e),fun⟨c,al,bn,cZ,_⟩=>?_⟩
   obtain⟨dA,dK⟩:=lY.1 al
   exact absurd (cZ.trans k1) ((R9 c dA bn).1 dK)
  rw [if_neg k1,bB]
  constructor
  ·rintro ⟨c,al,bn,cZ,e5⟩
   exact⟨c,lY.2 ⟨al,(R9 c al bn).2 fun e=>k1 (cZ.symm.trans e)⟩,bn,cZ,e5⟩
  rintro ⟨c,al,bn⟩
  exact⟨c,(lY.1 al).1,bn⟩
 have rE:∀ c7 fH,c7≠gC (e7 i.bK)→dX em c7=some (some fH)→ ∃ eZ,jg hp fH eZ∧jg dk fH eZ∧ (∀ q,Own hp fH q→own q)∧ (∀ q,Own dk fH q↔Own hp fH q)∧ ∀ a5 n,eZ a5=some n↔ ∃ c∈iw l i.bK,gC (e7 c.bK)=c7∧jP c.bK=a5∧c.cH=n:=fun c7 fH dm aQ=>by
  obtain⟨ady,eZ,e,dA,dK,hH⟩:=aF c7 _ aQ
  cases e
  obtain⟨eo,fb⟩:=dA.congr (hp':=dk) fun q hq=>hl.rest q (dA.wg hq) fun jm=>a0 _ _ _ _ b1 aQ dm.symm q jm hq
  refine⟨eZ,dA,eo,dK,fb,fun a5 n=>?_⟩
  rw [hH]
  constructor
  ·rintro ⟨c,al,bn,cZ⟩
   exact⟨c,lY.2 ⟨al,nh c al (by rw [bn]; exact dm)⟩,bn,cZ⟩
  rintro ⟨c,al,bn⟩
  exact⟨c,(lY.1 al).1,bn⟩
 have c6:fi hp dk own:=⟨hl.keys,fun q hq fq=>hl.rest q hq fun jm=>fq (aW q jm)⟩
 have dw:mx s dk m (iw l i.bK) own:=by
  refine⟨em,Kf,ad,fun c7 lT jn=>?_,fun c7 hj c al=>aX c7 hj c (lY.1 al).1,fun c7 j7 t1 t2 jA kp dm q jN nf=>?_,jK⟩
  ·by_cases hj:c7=gC (e7 i.bK)
   ·subst hj
    rw [b1] at jn; cases jn
    exact⟨t,_,rfl,js,fun q hq=>aW q (oF q hq),Cj⟩
   obtain⟨fH,eZ,e,_⟩:=aF c7 lT jn
   subst e
   obtain⟨xf,dA,dK,hH,jV,pq⟩:=rE c7 fH hj jn
   exact⟨fH,xf,rfl,dK,fun q hq=>hH q ((jV q).1 hq),pq⟩
  have eE:∀ c7 t1,dX em c7=some (some t1)→ ∀ q,Own dk t1 q→Own hp t1 q:=fun c7 t1 jA q jN=>by
   by_cases ay:c7=gC (e7 i.bK)
   ·subst ay
    rw [b1] at jA; cases jA
    exact oF q jN
   obtain⟨_,_,_,_,jV,_⟩:=rE c7 t1 ay jA
   exact(jV q).1 jN
  exact a0 _ _ _ _ jA kp dm q (eE c7 t1 jA q jN) (eE j7 t2 kp q nf)
 refine .eq Kf (.eq rfl ?_)
 simp only [b1]
 refine(show bl (xP dk (some t)) _ from Yq js (fun a5 cs id aa ad=>?_) (l.map (·.cH)) (fun a5 id aa=>?_) (by rw [List.length_map]; have:=ao.ok.len; omega)).bind fun bb bn=>?_
 ·obtain⟨c,al,_,eo,fb⟩:=(Cj _ _).1 aa
  obtain⟨d,hd,_,d1,d2⟩:=(Cj _ _).1 ad
  have:=ao.ok.uniq (lY.1 al).1 (lY.1 hd).1 (fb.trans d2.symm)
  rw [← eo,← d1,this]
 ·obtain⟨c,al,_,eo,fb⟩:=(Cj _ _).1 aa
  exact List.mem_map.2 ⟨c,(lY.1 al).1,fb⟩
 refine .bind (P:=fun hp'=>mx s hp' m (iw l i.bK) own∧fi hp hp' own) (.cond (fun df=>.eq rfl (.ret ?_)) fun _=>.ret ⟨dw,c6⟩) fun bx cy=>.ret cy
 have bn:=bn (by simpa using df)
 have F5:=mw Kf
 have Kg:∀ fH eZ,jg dk fH eZ→jg (dr dk m (Cell.l7 (ir em (gC (e7 i.bK))))) fH eZ∧ ∀ q,Own (dr dk m (Cell.l7 (ir em (gC (e7 i.bK))))) fH q↔Own dk fH q:=fun fH eZ u7=>u7.congr fun q p1=>nX fun e=>by
  rw [e] at F5
  rcases u7.Fg p1 with⟨c,al⟩ | ⟨c,al⟩ <;> rw [al] at F5 <;> cases F5
 refine⟨⟨_,N8 F5,ad,fun c7 lT jn=>?_,fun c7 hj c al=>?_,fun c7 j7 t1 t2 jA kp dm q jN nf=>?_,jK.del⟩,c6.trans (fi.up ad) fun q _ hq=>hq⟩
 ·rw [AU jK] at jn
  split at jn
  ·cases jn
  rename_i hj
  obtain⟨fH,eZ,e,_⟩:=aF c7 lT jn
  subst e
  obtain⟨xf,dA,dK,hH,jV,pq⟩:=rE c7 fH hj jn
  obtain⟨eo,fb⟩:=Kg fH xf dK
  exact⟨fH,xf,rfl,eo,fun q hq=>hH q ((jV q).1 ((fb q).1 hq)),pq⟩
 ·rw [AU jK] at hj
  split at hj
  ·rename_i e
   intro aq
   have:=(Cj _ _).2 ⟨c,al,aq.trans e,rfl,rfl⟩
   rw [bn] at this; cases this
  exact aX c7 hj c (lY.1 al).1
 rw [AU jK] at jA kp
 split at jA
 ·cases jA
 split at kp
 ·cases kp
 rename_i ay aO
 obtain⟨adt,dA,dK,hH,jV,_⟩:=rE c7 t1 ay jA
 obtain⟨adu,eo,fb,ij,GS,_⟩:=rE j7 t2 aO kp
 exact a0 _ _ _ _ jA kp dm q ((jV q).1 (((Kg t1 _ dK).2 q).1 jN)) ((GS q).1 (((Kg t2 _ fb).2 q).1 nf))
theorem srem {s:a3} {k:Nat} {hp:a1 Cell} {q:Nat} {l:List aJ} {own:Nat→Prop} (hq:wi s k hp q l own) (ao:h4 s k l) {i:aJ} (ak:i∈l):
 eC (zC hp ⟨some q⟩ i) (fun hp'=>wi s k hp' q (iw l i.bK) own∧fi hp hp' own):=by
 obtain⟨key,cap,aa,ad⟩:=hq.ok
 unfold zC
 refine .eq rfl (.eq aa (.eq (We ao.ok _) (.any fun aA=>.eq rfl (.ret ?_))))
 rw [EI ao ak (E3 _)]
 exact⟨⟨aA.1,aA.2,N9 (uv aa),ad⟩,.up ad⟩
theorem ach {s:a3} (h:db s) {k:Nat} {hp:a1 Cell} {f:gM} {l:List aJ} {own:Nat→Prop} (hq:pM s k hp f l own) (ao:h4 s k l) {i:aJ} (ak:i∈l):
 eC (G7 hp f i) (fun hp'=>pM s k hp' f (iw l i.bK) own∧fi hp hp' own):=by
 rcases hq with⟨rfl,q,rfl,hq⟩ | ⟨rfl,m,rfl,hq⟩ | ⟨c6,q,rfl,hq⟩
 ·exact eC.of ((acf h hq ao ak).mono fun hp' aQ=>⟨.inl ⟨rfl,q,rfl,aQ.1⟩,aQ.2⟩)
 ·exact eC.of ((acg h hq ao ak).mono fun hp' aQ=>⟨.inr (.inl ⟨rfl,m,rfl,aQ.1⟩),aQ.2⟩)
 exact(srem hq ao ak).mono fun hp' aQ=>⟨.inr (.inr ⟨c6,q,rfl,aQ.1⟩),aQ.2⟩
theorem MV {α β:Type} [DecidableEq α]:∀ {l:List (α×β)} {x:α},nP l→ir l x=l.filter fun a=>decide (a.1≠x)
 | [],_,_=>rfl
 | (k,w)::r,x,h=>by
   obtain⟨aa,ad⟩:=List.pairwise_cons.1 h
   unfold ir
   by_cases e:x=k
   ·rw [if_pos e,List.filter_cons_of_neg (by simp [e])]
    exact(List.filter_eq_self.2 fun a bp=>by simpa using fun e'=>aa a bp (by rw [← e,e'])).symm
   rw [if_neg e,List.filter_cons_of_pos (by simpa using fun e'=>e e'.symm),MV ad]
theorem tb.GM {s:a3} {k:Nat} {em:List (Int×aJ)} {l:List aJ} (h:tb em l) (ao:iV s k l):nP em:=by
 refine(h.pairwise_iff fun cE=>Ne.symm cE).2 ?_
 rw [List.pairwise_map]
 exact ao.num.imp fun cE=>cE
theorem Wl {s:a3} (h:db s) {k:Nat} (aw:k<4) {hp:a1 Cell} {p:Nat} {l:List aJ} {own:Nat→Prop} (aq:nA s k hp p l own) {e:bC} (he:ia s k e):
 eC (zO hp (some p) e) (fun r=>(r.1,r.2.1)=q1 (hz l e)∧nA s k r.2.2 p (iw l e) own∧fi hp r.2.2 own):=by
 obtain⟨f,m,em,aa,ad,aF,aX,a0,bn⟩:=aq.cell
 have hm:=v3 ad
 have hp':=m0 aa
 have mf:p≠m:=fun e=>by rw [e,hm] at hp'; cases hp'
 unfold zO
 refine .eq (XE h aw aq he) ?_
 refine .bind (P:=fun bx=>nA s k bx p (iw l e) own∧fi hp bx own) (.cond (fun al=>?_) fun al=>.ret ?_) fun bx cy=>.ret ⟨rfl,cy⟩
 ·cases a7:hz l e with
  | none=>rw [a7] at al; cases al
  | some i=>
    obtain⟨ak,pX⟩:=uf a7
    have adH:iw l i.bK=iw l e:=by
     rw [EI aq.lU ak (E3 _),EI aq.lU ak pX]
    refine .eq rfl (.eq aa (.bind (ach h bn aq.lU ak) fun dk aQ=>?_))
    obtain⟨js,hl⟩:=aQ
    have js:pM s k dk f (iw l i.bK) (fun q=>own q∧q≠m∧q≠p):=js
    rw [adH] at js
    show eC (aI.bind (aI.of (iY dk p)) fun cN=>aI.bind (aI.of cN.ly.p) fun cv=>aI.bind (aI.of (m3 dk cv)) fun e4=>aI.bind (aI.of (some (dr dk cv (Cell.kC (ir e4 i.cH))))) fun de=>aI.ret de) _
    have dA:pat dk p=some (.ny ⟨oL k,(h3 s k:Int),f,⟨some m⟩⟩):=by rw [hl.rest p (k7 hp') (fun hq=>hq.2.2 rfl)]; exact hp'
    have dK:pat dk m=some (.kC em):=by rw [hl.rest m (k7 hm) (fun hq=>hq.2.1 rfl)]; exact hm
    refine .eq (by unfold iY; rw [dA]) (.eq rfl (.eq (by unfold m3; rw [dK]) (.eq rfl (.ret ?_))))
    have adI:fi hp dk own:=⟨hl.keys,fun q hq fq=>hl.rest q hq fun h=>fq h.1⟩
    have lL:fi hp (dr dk m (Cell.kC (ir em i.cH))) own:=adI.trans (fi.up (own:=own) aX) fun q _ hq=>hq
    refine⟨⟨aq.lU.iw e,⟨f,m,_,by unfold iY; rw [nX mf.symm,dA],WV dK,aF,aX,?_,js.congr (fun q _ hq=>hq) fun q hq=>nX hq.2.1.symm⟩,fun q hq=>lL.keys q (aq.GI q hq)⟩,lL⟩
    unfold tb
    rw [MV (a0.GM aq.lU.ok),EI aq.lU ak pX]
    refine(a0.filter _).trans ?_
    rw [List.filter_map]
    have:((fun a:Int×aJ=>decide (a.1≠i.cH)) ∘ fun c:aJ=>(c.cH,c))=fun c=>c.cH !=i.cH:=by
     funext c
     show decide (c.cH≠i.cH)=_
     by_cases e:c.cH=i.cH <;> simp [e]
    rw [this]
 have a7:hz l e=none:=by
  cases a7:hz l e with
  | none=>rfl
  | some i=>rw [a7] at al; cases al
 have:iw l e=l:=by
  unfold iw
  exact List.filter_eq_self.2 fun c al=>by rw [ug a7 c al]; rfl
 rw [this]
 exact⟨aq,.refl⟩
theorem Yr {kind b:Int} {m:cA} (hm:oo kind b m) (aa:1≤kind∧kind≤3) {x y:an} (a6:∀ j,j<128→bA y j=(bA x j&&decide ((j:Int)<b))) (aq:kind=1→x=y) (h:jO kind b m y=true):jO kind b m x=true:=by
 by_cases ay:kind=1
 ·rw [aq ay]; exact h
 unfold jO at h ⊢
 by_cases hp:m.g1=false
 ·rw [if_pos hp]
 rw [if_neg hp,if_neg ay] at h ⊢
 by_cases aO:kind=2
 ·rw [if_pos aO,List.all_eq_true] at h ⊢
  intro j aE
  have r5:=List.mem_range.1 aE
  have aF:=h j aE
  cases ao:lead b m.fp j with
  | false=>rfl
  | true=>
    rw [ao] at aF
    have Cx:(j:Int)<b:=by unfold lead at ao; rw [Bool.and_eq_true,decide_eq_true_eq] at ao; exact ao.1
    rw [a6 j r5,decide_eq_true Cx,Bool.and_true] at aF; exact aF
 rw [if_neg aO] at h ⊢
 have cK:kind=3:=by omega
 rw [if_pos cK,decide_eq_true_eq] at h ⊢
 rw [← h]
 refine sN fun j aE=>?_
 rw [pC,pC,a6 j aE]
 cases a2:bA m.b3 j with
 | false=>simp
 | true=>rw [decide_eq_true (hm.RV cK j aE a2),Bool.and_true,Bool.and_true]
theorem Ys {s:a3} (h:db s) {k:Nat} (aw:k<4) (p:Vector an 4):∃ p5:Vector an 4,∀ c j,c<(az s.bt k).bN.length→j<128→bA (br p5 c) j=(bA (br p c) j&&decide ((j:Int)<gh (az (az s.bt k).bN c))):=by
 obtain⟨t1,⟨t2,t3⟩,t4,_⟩:=h.iJ aw
 have key:∀ c,∃ y:an,c<(az s.bt k).bN.length→ ∀ j,j<128→bA y j=(bA (br p c) j&&decide ((j:Int)<gh (az (az s.bt k).bN c))):=fun c=>by
  by_cases al:c<(az s.bt k).bN.length
  ·have ic:=t4 _ (show az (az s.bt k).bN c∈ (az s.bt k).bN by rw [e0 _ al]; exact List.getElem_mem al)
   have hb:=ic.gh
   obtain⟨y,_,a6⟩:=Bq (br p c) (gh (az (az s.bt k).bN c)) (by omega) (by omega)
   exact⟨y,fun _=>a6⟩
  exact⟨default,fun h=>absurd h al⟩
 obtain⟨f0,bT⟩:=key 0
 obtain⟨f1,aa⟩:=key 1
 obtain⟨f2,ad⟩:=key 2
 obtain⟨f3,aF⟩:=key 3
 refine⟨c5 (c5 (c5 (c5 default 0 f0) 1 f1) 2 f2) 3 f3,fun c j al aE=>?_⟩
 rw [gp _ _ (by decide),gp _ _ (by decide),gp _ _ (by decide),gp _ _ (by decide)]
 have:c=0∨c=1∨c=2∨c=3:=by omega
 rcases this with rfl | rfl | rfl | rfl
 ·exact bT al j aE
 ·exact aa al j aE
 ·exact ad al j aE
 exact aF al j aE
theorem aay {s:a3} (h:db s) {k:Nat} (aw:k<4) (aQ:ma s k=false) {e d:bC} (he:ia s k e) (hd:ia s k d) {p p5:Vector an 4}
 (hp:∀ c j,c<(az s.bt k).bN.length→j<128→bA (br p5 c) j=(bA (br p c) j&&decide ((j:Int)<gh (az (az s.bt k).bN c)))) (hm:mt s k p e=true) (hq:mt s k p5 d=true):mt s k p d=true:=by
 unfold mt at hm hq ⊢
 rw [List.all_eq_true] at hm hq ⊢
 intro c al
 have hT:=List.mem_range.1 al
 obtain⟨_,_,_,a,b,_⟩:=(h.iJ aw).2.2.1 (az (az s.bt k).bN c) (by rw [e0 _ hT]; exact List.getElem_mem _)
 have aX:=E2 aQ c hT
 refine Yr (hd.q0 c hT) ⟨a,by omega⟩ (fun j aE=>hp c j hT aE) (fun ay=>?_) (hq c al)
 have Lp:=hm c al
 have Sa:=he.q0 c hT
 unfold jO at Lp
 rw [if_neg (by rw [Sa.C3 ay]; simp),if_pos ay,decide_eq_true_eq] at Lp
 refine sN fun j aE=>?_
 rw [hp c j hT aE,Lp]
 cases a2:bA (az e.b4 c).bS j with
 | false=>rfl
 | true=>rw [decide_eq_true (Sa.low ay j aE a2)]; rfl
theorem I1 {s:a3} {k:Nat} {l:List aJ} {p:Vector an 4} {c:aJ} (h:hU s k l p=some c):mt s k p c.bK=true:=by
 unfold hU at h
 have:=List.find?_some h
 exact this
theorem XH {s:a3} {k:Nat} {l:List aJ} (ao:h4 s k l) {i:aJ} (ak:i∈l) {p:Vector an 4} (aR:hU s k l p≠some i):hU s k (iw l i.bK) p=hU s k l p:=by
 have uW:=(ao.iw i.bK).ok
 cases hb:hU s k l p with
 | none=>
   unfold hU
   refine Iw fun d hd=>?_
   obtain⟨av,_⟩:=lY.1 hd
   rw [Bool.eq_false_iff]; intro hq
   obtain⟨c,al⟩:=Oc av hq
   rw [hb] at al; cases al
 | some c=>
   have al:=E6 hb
   have hq:=I1 hb
   have ph:c≠i:=fun e=>aR (by rw [hb,e])
   have q2:c∈iw l i.bK:=lY.2 ⟨al,by
    rw [Bool.eq_false_iff]; intro ad
    exact ph (ao.uniq al ak ad)⟩
   unfold hU
   exact E0 (pG s k) uW.xe q2 hq fun d hd Lc=>EC ao.ok hb d (lY.1 hd).1 Lc
theorem XI {s:a3} (h:db s) {k:Nat} (aw:k<4) (aQ:ma s k=false) {l:List aJ} (ao:iV s k l) {i:aJ} (ak:i∈l) (al:nn (lS s i.bK) (mQ s k l i)) (p:Vector an 4):hU s k l p≠some i:=by
 intro hb
 have hm:=I1 hb
 obtain⟨p5,hp⟩:=Ys h aw p
 obtain⟨ve,Dl⟩:=acb h aw aQ (ao.ok i ak).eV hp hm
 obtain⟨c,ed,fI⟩:=Wg h aw aQ ao ak al ve Dl
 have lp:=E6 ed
 have mO:=I1 ed
 have te:eS s k c i=true:=by
  rcases EC ao ed i ak Dl with e | e
  ·exact absurd (by rw [e]) fI
  exact e
 rcases EC ao hb c lp (aay h aw aQ (ao.ok i ak).eV (ao.ok c lp).eV hp hm mO) with e | e
 ·exact fI (by rw [e])
 have:=(pG s k).asymm _ _ te
 rw [e] at this; cases this
theorem XJ {s:a3} {k:Nat} {l:List aJ} (ao:h4 s k l) {i:aJ} (ak:i∈l):tA (iw l i.bK) i=true:=by
 have aa:hz (iw l i.bK) i.bK=none:=by
  cases a7:hz (iw l i.bK) i.bK with
  | none=>rfl
  | some c=>
    obtain⟨al,aw⟩:=uf a7
    rw [(lY.1 al).2] at aw; cases aw
 have ad:ji (iw l i.bK) i.cH=false:=by
  rw [Bool.eq_false_iff]; intro aR
  unfold ji at aR
  rw [List.any_eq_true] at aR
  obtain⟨c,al,e⟩:=aR
  obtain⟨av,aW⟩:=lY.1 al
  have:c=i:=ao.ok.uniq av ak (by simpa using e)
  rw [this,E3] at aW; cases aW
 unfold tA
 rw [aa,ad]; rfl
theorem Ud (hp:a1 Cell) (J ah:List (BitVec 8)) (aP:Int) (b5:List (Vector an 4)):eC (zF hp J ah aP b5) (fun r=>r.1=true):=by
 unfold zF
 refine .nJ (OA J 120 (by omega) (by omega)) fun aD aa=>.nJ (Vi aD aa) fun aK ad=>.nJ (OA ah 200 (by omega) (by omega)) fun bb aF=>?_
 obtain⟨s,GW⟩:=aK
 obtain⟨h,_⟩:=ad
 simp only at h ⊢
 obtain⟨m,em,g8,cy⟩:=OC aP (s.bt.length:Int) (by rw [h.lj]; omega) (by rw [h.lj]; omega)
 obtain⟨k,rfl⟩:=Int.eq_ofNat_of_zero_le g8
 have aw:k<4:=by have:=h.lj; omega
 refine .eq em (.idx rfl (by rw [h.lj]; exact aw) (.bind (Wf h aw em hp bb aF 12 (by omega)) fun bJ aX=>?_))
 obtain⟨ae3,l,iC,de⟩:=bJ
 obtain⟨p,own,rfl,aq,hlen,hT⟩:=aX
 simp only at aq hlen hT
 have ao:=aq.lU.ok
 obtain⟨t1,⟨t2,t3⟩,t4,_⟩:=h.iJ aw
 refine .bind (P:=fun e=>match e with | .inl _=>True | .inr x=>x.1=true) (eC.loop l.length (fun i st=>st=(i:Int)) (by omega) rfl (fun i st ak hs=>?_) (fun st hs=>?_)) fun ay adJ=>?_
 ·subst hs
  refine .cond (fun _=>?_) (fun al=>by simp at al; omega)
  have hm:az l i∈l:=by rw [e0 _ ak]; exact List.getElem_mem _
  generalize df:az l i=z at hm
  simp only
  refine .idx rfl ak ?_
  rw [df]
  refine .nJ (WT h aw ao (by omega) hm) fun b6 bn=>.cond (fun _=>.ret (eT (by omega))) fun qG=>?_
  cases aQ:ma s k with
  | true=>rw [bn.1 aQ] at qG; simp at qG
  | false=>
  obtain⟨dA,dK⟩:=bn.2 aQ
  have wT:nn (lS s z.bK) (mQ s k l z):=dK.1 (by
   rw [Bool.or_eq_false_iff] at qG
   simpa using qG.1)
  have Jw:∀ q,hU s k (iw l z.bK) q=hU s k l q:=fun q=>XH aq.lU hm (XI h aw aQ ao hm wT q)
  refine .eq (a:=b5.take 3) (by unfold sL; rw [if_pos ⟨by omega,by omega,by omega⟩]; congr 1; simp only [List.drop_zero,Int.toNat_zero,Nat.sub_zero]; rw [show(min (b5.length:Int) 3).toNat=min b5.length 3 by omega]; rw [List.take_eq_take_iff]; omega) ?_
  have aeE:(b5.take 3).length≤3:=by rw [List.length_take]; omega
  refine .eq (il _ _ (by simp only [List.length_nil]; omega) (by omega)) (.nJ (V1 _ hT) fun jl qY=>.eq (il _ _ (by simp only [List.nil_append,List.length_cons,List.length_nil]; omega) (by omega)) ?_)
  generalize Kv: []++b5.take 3++[jl.1]=bz
  have aeF:bz.length≤4:=by rw [← Kv]; simp only [List.nil_append,List.length_append,List.length_cons,List.length_nil]; omega
  have aeG:=((ao.ok z hm).small h aw).1
  refine .nJ (P:=fun e=>e.2.2.length≤8) (bl.yI bz.length (fun j st=>st.1=(j:Int)∧st.2.length≤2 * j) (by omega) ⟨rfl,Nat.le_refl 0⟩ (fun j st aE hs=>?_) (fun st hs=>?_)) fun aO r9=>?_
  ·obtain⟨GL,vh⟩:=st
   obtain⟨f1,f2⟩:=hs
   simp only at f1 f2
   subst f1
   refine .cond (fun _=>?_) (fun al=>by simp at al; omega)
   refine .idx rfl aE (.bind (P:=fun _=>True) (bl.yI (az s.bt k).bN.length (fun a st=>st.1=(a:Int)) (by omega) rfl (fun a st bp hs=>?_) (fun st hs=>?_)) fun cK _=>?_)
   ·obtain⟨gz,v⟩:=st
    simp only at hs
    subst hs
    refine .cond (fun _=>?_) (fun al=>by simp at al; omega)
    have ic:=t4 _ (show az (az s.bt k).bN a∈ (az s.bt k).bN by rw [e0 _ bp]; exact List.getElem_mem bp)
    have Gg:a<4:=by omega
    refine .idx rfl Gg ((Vk h bp ic).bind fun kG adK=>?_)
    subst adK
    have hb:=ic.gh
    exact(Bq _ _ (by omega) (by omega)).bind fun o9 C0=>.idx rfl Gg (.ret (eT (by omega)))
   ·obtain⟨gz,v⟩:=st
    simp only at hs
    subst hs
    exact .cond (fun al=>by simp at al) fun _=>.ret trivial
   refine(Vm _ _ (by omega)).bind fun jx _=>.eq (il _ _ (by simp only [List.length_cons,List.length_nil]; omega) (by omega)) (.ret ⟨eT (by omega),?_⟩)
   simp only [List.length_append,List.length_cons,List.length_nil]; omega
  ·obtain⟨GL,vh⟩:=st
   obtain⟨f1,f2⟩:=hs
   simp only at f1 f2
   subst f1
   exact .cond (fun al=>by simp at al) fun _=>.ret (by simp only; omega)
  obtain⟨_,_,vh⟩:=aO
  simp only at r9 ⊢
  refine .nJ (P:=fun e=>e.2.2=vh.map fun q=>(q1 (hU s k l q)).1) (bl.yI vh.length (fun j st=>st=((j:Int),(vh.take j).map fun q=>(q1 (hU s k l q)).1)) (by omega) rfl (fun j st aE hs=>?_) (fun st hs=>?_)) fun di Sb=>?_
  ·subst hs
   refine .cond (fun _=>?_) (fun al=>by simp at al; omega)
   refine .idx rfl aE (.eq (Ny h aw aq _) (.eq (il _ _ (by simp only [List.length_map,List.length_take,List.length_cons,List.length_nil]; omega) (by omega)) (.ret ?_)))
   rw [eT (by omega),sn vh aE,List.map_append]; rfl
  ·subst hs
   refine .cond (fun al=>by simp at al) fun _=>.ret ?_
   simp only [List.take_length]
  obtain⟨_,_,ws⟩:=di
  simp only at Sb ⊢
  subst Sb
  refine .bind (Wl h aw aq (ao.ok z hm).eV) fun iI adL=>?_
  obtain⟨js,adM,dk⟩:=iI
  obtain⟨av,aW,bB⟩:=adL
  simp only at av aW bB ⊢
  rw [aq.lU.Yn hm (E3 _)] at av
  have hS:adM=true:=congrArg Prod.snd av
  subst hS
  refine .cond (fun al=>by cases al) fun _=>?_
  refine .nJ (P:=fun e=> ∃ a,e= .inl a) (bl.yI vh.length (fun j st=>st=(j:Int)) (by omega) rfl (fun j st aE hs=>?_) (fun st hs=>?_)) fun fQ adN=>?_
  ·subst hs
   refine .cond (fun _=>?_) (fun al=>by simp at al; omega)
   have hw:=V8 h aw ao.e9.1 (fun c=>mt s k (az vh j) c.bK)
   refine .idx rfl aE (.eq (Ny h aw aW _) (.idx rfl (by rw [List.length_map]; exact aE) ?_))
   rw [Jw,yd (fun q=>(q1 (hU s k l q)).1) aE]
   exact .eq (V7 hw.1 hw.2) (.cond (fun al=>by cases al) fun _=>.ret (eT (by omega)))
  ·subst hs
   exact .cond (fun al=>by simp at al) fun _=>.ret ⟨_,rfl⟩
  obtain⟨a,rfl⟩:=adN
  simp only [Sum.elim_inl]
  have aeH:(iw l z.bK).length≤l.length:=List.length_filter_le _ _
  refine .bind (PB h aw aW (ao.ok z hm) (by omega)) fun w0 adO=>?_
  obtain⟨aA,_,_⟩:=adO
  rw [XJ aq.lU hm] at aA
  obtain⟨aeI,hi⟩:=w0
  simp only at aA ⊢
  subst aA
  exact .eq (a:=true) (by unfold c0; rw [if_pos rfl]; exact Nz) (.ret rfl)
 ·subst hs
  exact .cond (fun al=>by simp at al) fun _=>.ret trivial
 cases ay with
 | inl a=>
   simp only [Sum.elim_inl]
   exact .eq Nz (.ret rfl)
 | inr x=>
   simp only [Sum.elim_inr]
   exact .ret adJ
theorem TT (J ah:List (BitVec 8)) (aP:Int) (b5:List (Vector an 4)):zF [] J ah aP b5 (fun r=>r.1=true):=(Ud [] J ah aP b5).run
end Go.Proofs.YthkfkliknjiecaaGreat
