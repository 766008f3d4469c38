/-
  What the programs compute, in plain Lean. Conditions: none.
-/
import Derived.Test.YtmnggbjcnoffeaaGreatMp0
namespace Go.Proofs.YtmnggbjcnoffeaaGreat
open Go Gv
set_option linter.unusedVariables false
set_option linter.unusedSimpArgs false
set_option maxRecDepth 100000
structure jQ (s:a2) (k:Nat) (l:List aI):Prop where
 ok:h3 s k l
 key:l.Pairwise fun a c=>kZ a.b2 c.b2=false
theorem jQ.uniq {s:a2} {k:Nat} {l:List aI} (h:jQ s k l) {a c:aI} (bn:a∈l) (ar:c∈l) (e:kZ a.b2 c.b2=true):a=c:=by
 have aR:=h.key
 clear h
 induction l with
 | nil=>cases bn
 | cons x l b1=>
   obtain⟨aa,ae⟩:=List.pairwise_cons.1 aR
   rcases List.mem_cons.1 bn with az | az <;> rcases List.mem_cons.1 ar with a5 | a5
   ·rw [az,a5]
   ·rw [az,aa c a5] at e; cases e
   ·rw [a5,Mw,aa a az] at e; cases e
   ·exact b1 az a5 ae
def ic (l:List aI) (e:bJ):Option aI:=l.find? fun i=>kZ i.b2 e
theorem CS {l:List aI} {e:bJ} {i:aI} (h:ic l e=some i):i∈l∧kZ i.b2 e=true:=by
 unfold ic at h
 have ae:=List.find?_some h
 exact⟨List.mem_of_find?_eq_some h,ae⟩
theorem vX {l:List aI} {e:bJ} (h:ic l e=none):∀ i∈l,kZ i.b2 e=false:=fun i an=>by
 have:=List.find?_eq_none.1 h i an
 simpa using this
def mW (o:Option aI):Int × Bool:=match o with | some i=>(i.cH,true) | none=>(0,false)
theorem Mz {i:aI} {n:Int} (h:i.cH=n):mW (some i)=(n,true):=by rw [← h]; rfl
def ve {α β:Type} (l:List (α × β)):Prop:=l.Pairwise fun a c=>a.1≠c.1
theorem LS {α β:Type} [DecidableEq α]:∀ {l:List (α × β)} {x:α} {v:β} {a:α × β},a∈gH l x v→a.1=x∨a∈l
 | [],x,v,a,h=>by
   have:a=(x,v):=by simpa [gH] using h
   rw [this]; exact .inl rfl
 | (k,w) :: r,x,v,a,h=>by
   unfold gH at h
   split at h
   ·rcases List.mem_cons.1 h with h | h
    ·rw [h]; exact .inl rfl
    ·exact .inr (by simp [h])
   ·rcases List.mem_cons.1 h with h | h
    ·exact .inr (by simp [h])
    ·exact(LS h).imp id fun h=>List.mem_cons_of_mem _ h
theorem ve.put {α β:Type} [DecidableEq α]:∀ {l:List (α × β)} {x:α} {v:β},ve l→ve (gH l x v)
 | [],x,v,_=>by unfold gH ve; simp
 | (k,w) :: r,x,v,h=>by
   obtain⟨aa,ae⟩:=List.pairwise_cons.1 h
   unfold gH
   split
   ·rename_i e
    refine List.pairwise_cons.2 ⟨fun a bn=> ?_,ae⟩
    have:=aa a bn
    rw [e]; exact this
   ·rename_i e
    refine List.pairwise_cons.2 ⟨fun a bn=> ?_,ve.put ae⟩
    rcases LS bn with g | g
    ·rw [g]; exact fun e'=>e e'.symm
    ·exact aa a g
structure zC (s:a2) (hp:a9 Cell) (q:Nat) (l:List aI) (own:Nat→Prop):Prop where
 ok:∃ m em,nV hp q=some ⟨⟨some m⟩⟩∧mC hp m=some em∧own q∧own m∧ (∀ dA n,ep em dA=some n↔ ∃ i∈l,gn i.b2=dA∧i.cH=n)∧ve em
structure nO (s:a2) (hp:a9 Cell) (m:Nat) (l:List aI) (own:Nat→Prop):Prop where
 ok:∃ em,jX hp m=some em∧own m∧
  (∀ dA r,ep em dA=some r→ ∃ t g,r=some t∧kH hp t g∧ (∀ q,Own hp t q→own q)∧ ∀ bC n,g bC=some n↔ ∃ i∈l,ih (gn i.b2)=dA∧mq i.b2=bC∧i.cH=n)∧
  (∀ dA,ep em dA=none→ ∀ i∈l,ih (gn i.b2)≠dA)∧
  (∀ dA kv t ij,ep em dA=some (some t)→ep em kv=some (some ij)→dA≠kv→ ∀ q,Own hp t q→ ¬ Own hp ij q)∧ve em
structure zD (s:a2) (k:Nat) (hp:a9 Cell) (q:Nat) (l:List aI) (own:Nat→Prop):Prop where
 ok:∃ key cap,nW hp q=some (o6 s k l,key,cap)∧own q
def re (s:a2) (k:Nat) (hp:a9 Cell) (f:gL) (l:List aI) (own:Nat→Prop):Prop:=
 (k=0∧ ∃ q,f= .mE ⟨some q⟩∧zC s hp q l own)∨ (k=1∧ ∃ m,f= .mF ⟨0,32,⟨some m⟩⟩∧nO s hp m l own)∨ (2≤k∧ ∃ q,f= .mG ⟨some q⟩∧zD s k hp q l own)
theorem KJ {hp hp':a9 Cell} {p:Nat} (h:pat hp' p=pat hp p):nV hp' p=nV hp p:=by unfold nV; rw [h]
theorem RZ {hp hp':a9 Cell} {p:Nat} (h:pat hp' p=pat hp p):mC hp' p=mC hp p:=by unfold mC; rw [h]
theorem Fu {hp hp':a9 Cell} {p:Nat} (h:pat hp' p=pat hp p):jX hp' p=jX hp p:=by unfold jX; rw [h]
theorem R0 {hp hp':a9 Cell} {p:Nat} (h:pat hp' p=pat hp p):nW hp' p=nW hp p:=by unfold nW; rw [h]
theorem R1 {hp hp':a9 Cell} {p:Nat} (h:pat hp' p=pat hp p):iI hp' p=iI hp p:=by unfold iI; rw [h]
theorem R2 {hp hp':a9 Cell} {p:Nat} (h:pat hp' p=pat hp p):nd hp' p=nd hp p:=by unfold nd; rw [h]
theorem re.congr {s:a2} {k:Nat} {hp hp':a9 Cell} {f:gL} {l:List aI} {own:Nat→Prop} (h:re s k hp f l own) {own':Nat→Prop} (bp:∀ q,q∈eA hp→own q→own' q) (bn:∀ q,own q→pat hp' q=pat hp q):re s k hp' f l own':=by
 rcases h with⟨rfl,q,rfl,h⟩ | ⟨rfl,m,rfl,h⟩ | ⟨av,q,rfl,h⟩
 ·obtain⟨m,em,aa,ae,aD,aV,a1,mg⟩:=h.ok
  refine .inl ⟨rfl,q,rfl,⟨m,em,by rw [KJ (bn q aD)]; exact aa,by rw [RZ (bn m aV)]; exact ae,bp q (lr (wb aa)) aD,bp m (lr (tX ae)) aV,a1,mg⟩⟩
 ·obtain⟨em,aa,ae,aD,aV,a1,mg⟩:=h.ok
  have key:∀ dA r,ep em dA=some r→ ∃ t g,r=some t∧kH hp t g∧kH hp' t g∧ (∀ q,Own hp t q→own q)∧ (∀ q,Own hp' t q↔Own hp t q)∧ ∀ bC n,g bC=some n↔ ∃ i∈l,ih (gn i.b2)=dA∧mq i.b2=bC∧i.cH=n:=fun dA r aQ=>by
   obtain⟨t,g,rfl,az,a5,bu⟩:=aD dA r aQ
   obtain⟨cM,gO⟩:=az.congr fun q hq=>bn q (a5 q hq)
   exact⟨t,g,rfl,az,cM,a5,gO,bu⟩
  refine .inr (.inl ⟨rfl,m,rfl,⟨em,by rw [Fu (bn m ae)]; exact aa,bp m (lr (oZ aa)) ae,fun dA r aQ=> ?_,aV,fun dA kv t ij cj nv dz q hq=> ?_,mg⟩⟩)
  ·obtain⟨t,g,rfl,g0,az,a5,bu,cM⟩:=key dA r aQ
   exact⟨t,g,rfl,az,fun q hq=>bp q (g0.wv ((bu q).1 hq)) (a5 q ((bu q).1 hq)),cM⟩
  ·obtain⟨_,g,e,g0,az,a5,bu,cM⟩:=key dA _ cj
   obtain⟨_,fw,e',aaB,aaC,aaD,ZC,aaE⟩:=key kv _ nv
   cases e; cases e'
   rw [ZC]
   exact a1 dA kv t ij cj nv dz q ((bu q).1 hq)
 ·obtain⟨key,cap,aa,ae⟩:=h.ok
  exact .inr (.inr ⟨av,q,rfl,⟨key,cap,by rw [R0 (bn q ae)]; exact aa,bp q (lr (wg aa)) ae⟩⟩)
theorem Gx {e:bJ} (ao:e.bY.length≤4):tz e=some (gn e):=by
 refine bg.get ?_
 unfold tz
 refine .eq (a:=e.bY) (by unfold q0; rw [if_pos ⟨by omega,by omega,by omega⟩,Int.toNat_zero,List.drop_zero,Nat.sub_zero,List.take_of_length_le (by omega)]) ?_
 refine bg.loop e.bY.length (fun i st=>st.1=(i:Int)∧ ∀ j,j < 4→bD st.2 j=if j < i then(ax e.bY j).bI else default) (by omega) ⟨rfl,fun j aE=>by rw [Fj]; rfl⟩ (fun i st an hs=> ?_) (fun st hs=> ?_)
 ·obtain⟨j,v⟩:=st
  obtain⟨aA,aU⟩:=hs
  simp only at aA aU; subst aA
  refine .cond (fun _=> ?_) (fun ar=>by simp at ar; omega)
  refine .idx rfl an (.idx rfl (by omega) (.ret ⟨ew (by omega),fun j aE=> ?_⟩))
  rw [gD _ _ (by omega)]
  by_cases jL:j=i
  ·rw [if_pos jL,if_pos (by omega),jL]
  ·rw [if_neg jL,aU j aE]
   by_cases h:j < i
   ·rw [if_pos h,if_pos (by omega)]
   ·rw [if_neg h,if_neg (by omega)]
 ·obtain⟨j,v⟩:=st
  obtain⟨aA,aU⟩:=hs
  simp only at aA aU; subst aA
  refine⟨_,by simp; rfl,.ret ?_⟩
  exact yZ fun j aE=>by rw [aU j aE,k3 aE]
theorem hR.H0 {s:a2} (h:c5 s) {k:Nat} (av:k < 4) {e:bJ} (he:hR s k e):e.bY.length≤4∧1≤e.bY.length:=by
 have:=(h.hL av).2.1
 rw [he.len]; omega
theorem Tz {a c:List cr} (ao:a.length≤1000):xE a c=some (decide (a=c)):=by
 refine bg.get ?_
 unfold xE
 refine .cond (fun h=> .ret ?_) fun h=> ?_
 ·have:a≠c:=fun e=>by rw [e] at h; simp at h
  simp [this]
 have xl:c.length=a.length:=by
  have:(a.length:Int)=c.length:=by simpa using h
  omega
 refine bg.loop a.length (fun i st=>st=(i:Int)∧ ∀ j,j < i→ax a j=ax c j) (by omega) ⟨rfl,fun j aE=>by omega⟩ (fun i st an hs=> ?_) (fun st hs=> ?_)
 ·obtain⟨rfl,hs⟩:=hs
  refine .cond (fun _=> ?_) (fun ar=>by simp at ar; omega)
  refine .idx rfl an (.idx rfl (by omega) (.cond (fun dz=> .ret ?_) fun he=> .ret ⟨ew (by omega),fun j aE=> ?_⟩))
  ·simp only [Sum.elim_inr]
   refine .ret ?_
   have:a≠c:=fun e=>by rw [e] at dz; simp at dz
   simp [this]
  ·by_cases jL:j=i
   ·subst jL; simpa using he
   ·exact hs j (by omega)
 ·obtain⟨rfl,hs⟩:=hs
  refine⟨_,by simp; rfl,?_⟩
  simp only [Sum.elim_inl]
  refine .ret ?_
  have:a=c:=List.ext_getElem xl.symm fun j aa ae=>by
   have:=hs j aa
   rwa [ey _ aa,ey _ ae] at this
  simp [this]
theorem So {a c:bJ} (ao:a.bY.length≤1000):yj a c=some (kZ a c):=by
 refine bg.get ?_
 unfold yj kZ
 refine .c4 (P:=fun r=>r=decide (a.bY=c.bY)) (fun _=>⟨_,Tz ao,rfl⟩) fun y a6=> .ret ?_
 by_cases h:a.dO=c.dO
 ·rw [a6 (by simpa using h)]
  rw [Bool.eq_iff_iff]
  simp [h]
 ·simp [h]
theorem W1 {s:a2} (h:c5 s) {hp:a9 Cell} {q:Nat} {l:List aI} {own:Nat→Prop} (hq:zC s hp q l own) (ao:jQ s 0 l) {e:bJ} (he:hR s 0 e):xZ hp ⟨some q⟩ e=some (mW (ic l e)):=by
 obtain⟨m,em,aa,ae,_,_,a1,_⟩:=hq.ok
 refine bg.get ?_
 unfold xZ vv
 refine .eq (Gx (he.H0 h (by decide)).1) ?_
 have hm:ep em (gn e)=(ic l e).map (·.cH):=by
  cases a8:ic l e with
  | none=>
    cases bP:ep em (gn e) with
    | none=>rfl
    | some n=>
      obtain⟨i,an,bo,_⟩:=(a1 _ _).1 bP
      have:=vX a8 i an
      rw [(Jd h (ao.ok.ok i an).eN he).2 bo] at this; cases this
  | some i=>
    obtain⟨an,av⟩:=CS a8
    exact(a1 _ _).2 ⟨i,an,(Jd h (ao.ok.ok i an).eN he).1 av,rfl⟩
 refine .eq (a:=mW (ic l e)) ?_ (.ret rfl)
 show(nV hp q).bind _=_
 rw [aa]
 show(mC hp m).bind _=_
 rw [ae]
 show some ((ep em (gn e)).getD default,(ep em (gn e)).isSome)=_
 rw [hm]
 cases ic l e <;> rfl
theorem MA {s:a2} (h:c5 s) {e:bJ} (he:hR s 1 e) (m:gF):vk ⟨0,32,m⟩ e=some (ih (gn e),(ax e.bY 0).bI,(ax e.bY 0).eQ):=by
 have ao:=he.H0 h (by decide)
 refine bg.get ?_
 unfold vk vm
 refine .eq (Gx ao.1) (.eq (a:=(ih (gn e),bD (gn e) 0)) rfl (.cond (fun ar=>by have ar:(0:Int)≥ (e.bY.length:Int):=of_decide_eq_true ar; omega) fun _=> .idx (k:=0) rfl (by omega) (.ret ?_)))
 rw [k3 (by decide),if_pos (by omega)]
theorem LU {m:cr} (h:lB 2 32 m):∀ j,j < 128→bL m.bI j=true→lead 32 m.eQ j=true:=fun j aE aX=>
 (wu h.pre.1 h.pre.2).2 (h.I4 rfl j aE aX)
theorem W2 {s:a2} (h:c5 s) {hp:a9 Cell} {m:Nat} {l:List aI} {own:Nat→Prop} (hq:nO s hp m l own) (ao:jQ s 1 l) {e:bJ} (he:hR s 1 e):xN hp ⟨0,32,⟨some m⟩⟩ e=some (mW (ic l e)):=by
 obtain⟨em,aa,_,aD,aV,_⟩:=hq.ok
 have hr:=uG h he
 refine bg.get ?_
 unfold xN
 refine .eq (MA h he _) (.eq rfl (.eq aa (.eq rfl ?_)))
 obtain⟨n,aR⟩:=Int.eq_ofNat_of_zero_le hr.pre.1
 have H2:n≤32:=by have:=hr.pre.2; omega
 have Ac:=LU hr
 refine .eq (a:=mW (ic l e)) ?_ (.ret rfl)
 simp only
 cases aQ:ep em (ih (gn e)) with
 | none=>
   have a8:ic l e=none:=by
    cases a8:ic l e with
    | none=>rfl
    | some i=>
      obtain⟨an,av⟩:=CS a8
      exact absurd ((EC h (ao.ok.ok i an).eN he).1 av).1 (aV _ aQ i an)
   rw [a8]; rfl
 | some r=>
   obtain⟨t,g,rfl,az,_,bu⟩:=aD _ _ aQ
   have bP:g (mq e)=(ic l e).map (·.cH):=by
    cases a8:ic l e with
    | none=>
      cases Je:g (mq e) with
      | none=>rfl
      | some n=>
        obtain⟨i,an,bo,cX,_⟩:=(bu _ _).1 Je
        have:=vX a8 i an
        rw [(EC h (ao.ok.ok i an).eN he).2 ⟨bo,cX⟩] at this; cases this
    | some i=>
      obtain⟨an,av⟩:=CS a8
      obtain⟨bo,cX⟩:=(EC h (ao.ok.ok i an).eN he).1 av
      exact(bu _ _).2 ⟨i,an,bo,cX,rfl⟩
   rw [aR] at Ac ⊢
   show vD hp (some t) _ (n:Int)=_
   rw [U0 az H2 Ac]
   have hp':eL (ax e.bY 0).bI n=mq e:=by unfold mq; rw [aR]; rfl
   rw [hp',bP]
   cases ic l e <;> rfl
theorem W3 {s:a2} (h:c5 s) {k:Nat} (av:k < 4) {hp:a9 Cell} {q:Nat} {l:List aI} {own:Nat→Prop} (hq:zD s k hp q l own) (ao:jQ s k l) {e:bJ} (he:hR s k e):x6 hp ⟨some q⟩ e=some (mW (ic l e)):=by
 obtain⟨key,cap,aa,_⟩:=hq.ok
 refine bg.get ?_
 unfold x6
 refine .eq rfl (.eq aa (.eq (UZ h av ao.ok) ?_))
 obtain⟨mV,iG⟩:=ao.ok.fu
 have a8:ic l e=(fu (eF s k) l).find? fun i=>kZ i.b2 e:=by
  cases a8:ic l e with
  | none=>
    symm
    rw [List.find?_eq_none]
    intro x aq
    rw [vX a8 x (o0.1 aq)]; simp
  | some i=>
    obtain⟨an,A5⟩:=CS a8
    exact(C3 (pW s k) ao.ok.xi an A5 fun d hd ZD=> .inl (ao.uniq hd an (Ty ZD (by rw [Mw]; exact A5)))).symm
 rw [a8]
 refine bg.loop (fu (eF s k) l).length (fun i st=>st=(i:Int)∧ ∀ j,j < i→kZ (ax (fu (eF s k) l) j).b2 e=false) (by omega) ⟨rfl,fun j aE=>by omega⟩ (fun i st an hs=> ?_) (fun st hs=> ?_)
 ·obtain⟨rfl,hs⟩:=hs
  refine .cond (fun _=> ?_) (fun ar=>by simp at ar; omega)
  have hm:=mV (ax (fu (eF s k) l) i) (by rw [ey _ an]; exact List.getElem_mem _)
  refine .idx rfl an (.eq (So (hm.small h av).1) (.cond (fun ar=> .ret ?_) fun ar=> .ret ⟨ew (by omega),fun j aE=> ?_⟩))
  ·simp only [Sum.elim_inr]
   refine .ret ?_
   rw [Me (p:=fun i=>kZ i.b2 e) an ar hs]; rfl
  ·by_cases jL:j=i
   ·subst jL; exact ar
   ·exact hs j (by omega)
 ·obtain⟨rfl,hs⟩:=hs
  refine⟨_,by simp; rfl,?_⟩
  simp only [Sum.elim_inl]
  refine .ret ?_
  rw [Mf fun c ar=> ?_]
  ·rfl
  ·obtain⟨j,aE,rfl⟩:=List.mem_iff_getElem.1 ar
   rw [← ey _ aE]; exact hs j aE
theorem W4 {s:a2} (h:c5 s) {k:Nat} (av:k < 4) {hp:a9 Cell} {f:gL} {l:List aI} {own:Nat→Prop} (hq:re s k hp f l own) (ao:jQ s k l) {e:bJ} (he:hR s k e):EZ hp f e=some (mW (ic l e)):=by
 rcases hq with⟨rfl,q,rfl,hq⟩ | ⟨rfl,m,rfl,hq⟩ | ⟨de,q,rfl,hq⟩
 ·exact W1 h hq ao he
 ·exact W2 h hq ao he
 ·exact W3 h av hq ao he
end Go.Proofs.YtmnggbjcnoffeaaGreat
namespace Go.Proofs.YtmnggbjcnoffeaaGreat
open Go Gv
set_option linter.unusedVariables false
set_option linter.unusedSimpArgs false
set_option maxRecDepth 100000
def jv (s:a2) (k:Nat) (l:List aI) (p:Vector ak 4):Option aI:=(fu (eF s k) l).find? fun c=>mt s k p c.b2
theorem MB {s:a2} {k:Nat} {l:List aI} {p:Vector ak 4} {i:aI} (h:jv s k l p=some i):i∈l:=by
 unfold jv at h
 exact o0.1 (List.mem_of_find?_eq_some h)
theorem W5 {s:a2} (h:c5 s) {k:Nat} (av:k < 4) (p:Vector ak 4) (e:bJ):mt s k (kc (hy s k) p) e=mt s k p e:=by
 unfold mt
 rw [Bool.eq_iff_iff,List.all_eq_true,List.all_eq_true]
 have ao:=(h.hL av).2.1
 have key:∀ i∈List.range (ax s.bm k).bx.length,bD (kc (hy s k) p) i=bD p i:=fun i an=>by
  have:=List.mem_range.1 an
  rw [mx (by omega),if_pos (show i < hy s k from this)]
 exact⟨fun aa i an=>by have:=aa i an; rwa [key i an] at this,fun aa i an=>by rw [key i an]; exact aa i an⟩
theorem W6 {s:a2} (h:c5 s) {hp:a9 Cell} {q:Nat} {l:List aI} {own:Nat→Prop} (hq:zC s hp q l own) (ao:jQ s 0 l) (p:Vector ak 4):xL hp ⟨some q⟩ (kc (hy s 0) p)=some (mW (jv s 0 l p)):=by
 obtain⟨m,em,aa,ae,_,_,a1,_⟩:=hq.ok
 have hb:=WW h ao.ok p (o:=ep em (kc (hy s 0) p)) fun n=>a1 _ n
 refine bg.get ?_
 unfold xL vv
 refine .eq (a:=mW (jv s 0 l p)) ?_ (.ret rfl)
 show(nV hp q).bind _=_
 rw [aa]
 show(mC hp m).bind _=_
 rw [ae]
 show some ((ep em (kc (hy s 0) p)).getD default,(ep em (kc (hy s 0) p)).isSome)=_
 cases bP:ep em (kc (hy s 0) p) with
 | none=>
   have hb:jv s 0 l p=none:=hb.2 bP
   rw [hb]; rfl
 | some n=>
   obtain⟨i,_,aA,aU⟩:=hb.1 n bP
   have aU:jv s 0 l p=some i:=aU
   rw [aU,Mz aA]; rfl
theorem N9 {g:List Bool→Option Int} (h:∀ bC,g bC=none) (v:ak):∀ m,iU g v m=none
 | 0=>by unfold iU; rw [h]; rfl
 | m + 1=>by unfold iU; rw [h]; exact N9 h v m
theorem W7 {s:a2} (h:c5 s) {hp:a9 Cell} {m:Nat} {l:List aI} {own:Nat→Prop} (hq:nO s hp m l own) (ao:jQ s 1 l) (p:Vector ak 4):xH hp ⟨0,32,⟨some m⟩⟩ (kc (hy s 1) p)=some (mW (jv s 1 l p)):=by
 obtain⟨em,aa,_,aD,aV,_⟩:=hq.ok
 have aR:1≤hy s 1:=(h.hL (show 1 < 4 by decide)).2.1.1
 refine bg.get ?_
 unfold xH vm
 refine .eq (a:=(ih (kc (hy s 1) p),bD p 0)) (by show some (ih (kc (hy s 1) p),bD (kc (hy s 1) p) 0)=_; rw [mx (by decide),if_pos (by omega)]) (.eq rfl (.eq aa (.eq rfl ((zd 32).bind fun aN aU=> .eq (and_eq _ _) ?_))))
 simp only
 have aX:∀ j,j < 128→bL (sS (bD p 0) aN) j=(bL (bD p 0) j && decide (j < 32)):=fun j aE=>by
  rw [oW,aU j aE]
  congr 1
  rw [decide_eq_decide]; omega
 cases aQ:ep em (ih (kc (hy s 1) p)) with
 | none=>
   have hb:=N7 h ao.ok p aX (g:=fun _=>none) fun bC n=>⟨fun h=>(by cases h),fun⟨i,an,bo,_⟩=>absurd bo (aV _ aQ i an)⟩
   rw [N9 (fun _=>rfl)] at hb
   have hb:jv s 1 l p=none:=hb
   rw [hb]
   exact .eq rfl (.ret rfl)
 | some r=>
   obtain⟨t,g,rfl,az,_,bu⟩:=aD _ _ aQ
   have hb:=N7 h ao.ok p aX bu
   have hs:Small (sS (bD p 0) aN):=fun j aE hb=>by
    rw [aX j aE,Bool.and_eq_true,decide_eq_true_eq] at hb
    exact hb.2
   refine .eq (Sm az hs) (.ret ?_)
   cases Po:iU g (sS (bD p 0) aN) 32 with
   | none=>
     rw [Po] at hb
     have hb:jv s 1 l p=none:=hb
     rw [hb]; rfl
   | some r=>
     rw [Po] at hb
     obtain⟨i,_,aA,cL⟩:=hb
     have cL:jv s 1 l p=some i:=cL
     rw [cL,Mz aA]; rfl
theorem W8 {s:a2} (h:c5 s) {k:Nat} (av:k < 4) {hp:a9 Cell} {q:Nat} {l:List aI} {own:Nat→Prop} (hq:zD s k hp q l own) (ao:jQ s k l) (p:Vector ak 4):xO hp ⟨some q⟩ (kc (hy s k) p)=some (mW (jv s k l p)):=by
 obtain⟨key,cap,aa,_⟩:=hq.ok
 refine bg.get ?_
 unfold xO
 refine .eq rfl (.eq aa (.eq (Sk h av ao.ok _) (.ret ?_)))
 have:((fu (eF s k) l).find? fun c=>mt s k (kc (hy s k) p) c.b2)=jv s k l p:=by
  unfold jv; congr 1; funext c; exact W5 h av p c.b2
 rw [this]
 cases jv s k l p <;> rfl
theorem W9 {s:a2} (h:c5 s) {k:Nat} (av:k < 4) {hp:a9 Cell} {f:gL} {l:List aI} {own:Nat→Prop} (hq:re s k hp f l own) (ao:jQ s k l) (p:Vector ak 4):ES hp f (kc (hy s k) p)=some (mW (jv s k l p)):=by
 rcases hq with⟨rfl,q,rfl,hq⟩ | ⟨rfl,m,rfl,hq⟩ | ⟨de,q,rfl,hq⟩
 ·exact W6 h hq ao p
 ·exact W7 h hq ao p
 ·exact W8 h av hq ao p
def mD (own:Nat→Prop) (hp hp':a9 Cell) (q:Nat):Prop:=own q∨ (q ∉ eA hp∧q∈eA hp')
theorem TA {hp:a9 Cell} {p:Nat} {k:Cell} {x:List (Vector ak 4 × Int)} (h:pat hp p=some k):mC (dW hp p (.o7 x)) p=some x:=by unfold mC; rw [wo h]
theorem TB {hp:a9 Cell} {p:Nat} {k:Cell} {x:List (Vector ak 4 × Ref)} (h:pat hp p=some k):jX (dW hp p (.nm x)) p=some x:=by unfold jX; rw [wo h]
theorem Yt {s:a2} (h:c5 s) {hp:a9 Cell} {q:Nat} {l:List aI} {own:Nat→Prop} (hq:zC s hp q l own) (ao:jQ s 0 l) {i:aI} (an:lg s 0 i) (a8:ic l i.b2=none):
 bg (ya hp ⟨some q⟩ i) (fun hp'=>zC s hp' q (l ++ [i]) (mD own hp hp')∧gS hp hp' own):=by
 obtain⟨m,em,aa,ae,aD,aV,a1,mg⟩:=hq.ok
 have gK:ep em (gn i.b2)=none:=by
  cases bP:ep em (gn i.b2) with
  | none=>rfl
  | some n=>
    obtain⟨c,ar,bo,_⟩:=(a1 _ _).1 bP
    have:=vX a8 c ar
    rw [(Jd h (ao.ok.ok c ar).eN an.eN).2 bo] at this; cases this
 unfold ya Cm
 refine .eq (Gx (an.eN.H0 h (by decide)).1) ?_
 refine .eq (a:=(true,dW hp m (Cell.o7 (gH em (gn i.b2) i.cH)))) ?_ (.ret ?_)
 ·show(nV hp q).bind _=_
  rw [aa]
  show(mC hp m).bind _=_
  rw [ae]
  show cond (ep em (gn i.b2)).isSome _ _=_
  rw [gK]; rfl
 have Jf:q≠m:=fun e=>by
  subst e
  have:=wb aa
  rw [tX ae] at this; cases this
 refine⟨⟨m,_,by rw [KJ (se Jf.symm)]; exact aa,TA (tX ae),.inl aD,.inl aV,fun dA n=> ?_,mg.put⟩,.up aV⟩
 rw [yR]
 by_cases ku:dA=gn i.b2
 ·rw [if_pos ku]
  constructor
  ·intro e
   cases e
   exact⟨i,by simp,ku.symm,rfl⟩
  ·rintro ⟨c,ar,bo,cX⟩
   rcases List.mem_append.1 ar with ar | ar
   ·have:=(a1 _ _).2 ⟨c,ar,bo,cX⟩
    rw [ku,gK] at this; cases this
   ·rw [List.mem_singleton.1 ar] at cX; rw [cX]
 ·rw [if_neg ku,a1]
  constructor
  ·rintro ⟨c,ar,bo⟩; exact⟨c,by simp [ar],bo⟩
  ·rintro ⟨c,ar,bo,cX⟩
   rcases List.mem_append.1 ar with ar | ar
   ·exact⟨c,ar,bo,cX⟩
   ·rw [List.mem_singleton.1 ar] at bo; exact absurd bo.symm ku
theorem Yu {s:a2} (h:c5 s) {hp:a9 Cell} {m:Nat} {l:List aI} {own:Nat→Prop} (hq:nO s hp m l own) (e3:∀ q,own q→q∈eA hp) (ao:jQ s 1 l) {i:aI} (an:lg s 1 i) (a8:ic l i.b2=none)
 {em:List (Vector ak 4 × Ref)} (n7:jX hp m=some em) {t:Nat} (cj:ep em (ih (gn i.b2))=some (some t)):
 ev (vC hp (some t) (ax i.b2.bY 0).bI (ax i.b2.bY 0).eQ i.cH) (fun r=>nO s r.2 m (l ++ [i]) (mD own hp r.2)∧gS hp r.2 own):=by
 obtain⟨ZE,aa,ae,aD,aV,a1,mg⟩:=hq.ok
 rw [n7] at aa; cases aa
 have hr:=uG h an.eN
 obtain⟨ij,g,e,az,a5,bu⟩:=aD _ _ cj
 cases e
 obtain⟨n,aR⟩:=Int.eq_ofNat_of_zero_le hr.pre.1
 have H2:n≤32:=by have:=hr.pre.2; omega
 have Ac:=LU hr
 have hp':eL (ax i.b2.bY 0).bI n=mq i.b2:=by unfold mq; rw [aR]; rfl
 have gK:g (mq i.b2)=none:=by
  cases Je:g (mq i.b2) with
  | none=>rfl
  | some n=>
    obtain⟨c,ar,bo,cX,_⟩:=(bu _ _).1 Je
    have:=vX a8 c ar
    rw [(EC h (ao.ok.ok c ar).eN an.eN).2 ⟨bo,cX⟩] at this; cases this
 rw [aR] at Ac ⊢
 refine(WU az H2 Ac i.cH (by rw [hp']; exact gK)).mono fun r aQ=> ?_
 obtain⟨_,mV,iG,qw⟩:=aQ
 rw [hp'] at mV
 have EA:∀ q,Own hp t q→q≠m:=fun q ZF e=>by
  have:=oZ n7
  rw [← e] at this
  rcases az.Nb ZF with⟨c,ar⟩ | ⟨c,ar⟩ <;> rw [ar] at this <;> cases this
 have nr:pat r.2 m=pat hp m:=iG.rest m (lr (oZ n7)) fun hq=>EA m hq rfl
 have Df:∀ dA ij,dA≠ih (gn i.b2)→ep em dA=some (some ij)→ ∃ fw,kH hp ij fw∧kH r.2 ij fw∧ (∀ q,Own hp ij q→own q)∧ (∀ q,Own r.2 ij q↔Own hp ij q)∧ ∀ bC n,fw bC=some n↔ ∃ i∈l,ih (gn i.b2)=dA∧mq i.b2=bC∧i.cH=n:=fun dA ij dz aQ=>by
  obtain⟨aaF,fw,e,dY,eg,jM⟩:=aD dA _ aQ
  cases e
  obtain⟨eE,fN⟩:=dY.congr (hp':=r.2) fun q hq=>iG.rest q (dY.wv hq) fun fI=>a1 _ _ _ _ cj aQ dz.symm q fI hq
  exact⟨fw,dY,eE,eg,fN,jM⟩
 have AF:∀ q,Own r.2 t q→mD own hp r.2 q:=fun q hq=>by
  rcases qw q hq with bo | bo
  ·exact .inl (a5 q bo)
  ·exact .inr ⟨bo,mV.wv hq⟩
 refine⟨⟨em,by rw [Fu nr]; exact n7,.inl ae,fun dA rS mr=> ?_,fun dA ku c ar=> ?_,fun dA kv t1 t2 n8 nw dz q pB oJ=> ?_,mg⟩,⟨iG.keys,fun q hq gK=>iG.rest q hq fun fI=>gK (a5 q fI)⟩⟩
 ·by_cases ku:dA=ih (gn i.b2)
  ·subst ku
   rw [cj] at mr; cases mr
   refine⟨t,_,rfl,mV,AF,fun bC Jz=> ?_⟩
   by_cases Bs:bC=mq i.b2
   ·simp only [if_pos Bs]
    constructor
    ·intro e; cases e
     exact⟨i,by simp,rfl,Bs.symm,rfl⟩
    ·rintro ⟨c,ar,bo,cX,eP⟩
     rcases List.mem_append.1 ar with ar | ar
     ·have:=(bu _ _).2 ⟨c,ar,bo,cX,eP⟩
      rw [Bs,gK] at this; cases this
     ·rw [List.mem_singleton.1 ar] at eP; rw [eP]
   ·simp only [if_neg Bs]
    rw [bu]
    constructor
    ·rintro ⟨c,ar,bo⟩; exact⟨c,by simp [ar],bo⟩
    ·rintro ⟨c,ar,bo,cX,eP⟩
     rcases List.mem_append.1 ar with ar | ar
     ·exact⟨c,ar,bo,cX,eP⟩
     ·rw [List.mem_singleton.1 ar] at cX; exact absurd cX.symm Bs
  ·obtain⟨ij,fw,e,_⟩:=aD dA rS mr
   subst e
   obtain⟨Pp,dY,eg,jM,mS,rT⟩:=Df dA ij ku mr
   refine⟨ij,Pp,rfl,eg,fun q hq=> .inl (jM q ((mS q).1 hq)),fun bC Jz=> ?_⟩
   rw [rT]
   constructor
   ·rintro ⟨c,ar,bo⟩; exact⟨c,by simp [ar],bo⟩
   ·rintro ⟨c,ar,bo,cX⟩
    rcases List.mem_append.1 ar with ar | ar
    ·exact⟨c,ar,bo,cX⟩
    ·rw [List.mem_singleton.1 ar] at bo; exact absurd bo.symm ku
 ·rcases List.mem_append.1 ar with ar | ar
  ·exact aV dA ku c ar
  ·rw [List.mem_singleton.1 ar]
   intro e
   rw [← e,cj] at ku; cases ku
 ·
  have Nc:∀ dA ij,dA≠ih (gn i.b2)→ep em dA=some (some ij)→ ∀ q,Own r.2 t q→ ¬ Own r.2 ij q:=fun dA ij dz aQ q hq fI=>by
   obtain⟨Pp,dY,eg,jM,mS,rT⟩:=Df dA ij dz aQ
   have fI:=(mS q).1 fI
   rcases qw q hq with bo | bo
   ·exact a1 _ _ _ _ cj aQ dz.symm q bo fI
   ·exact bo (dY.wv fI)
  by_cases aA:dA=ih (gn i.b2)
  ·subst aA
   rw [cj] at n8; cases n8
   exact Nc kv t2 dz.symm nw q pB oJ
  ·by_cases aU:kv=ih (gn i.b2)
   ·subst aU
    rw [cj] at nw; cases nw
    exact Nc dA t1 aA n8 q oJ pB
   ·obtain⟨_,_,_,_,mS,_⟩:=Df dA t1 aA n8
    obtain⟨_,_,_,_,PK,_⟩:=Df kv t2 aU nw
    exact a1 _ _ _ _ n8 nw dz q ((mS q).1 pB) ((PK q).1 oJ)
end Go.Proofs.YtmnggbjcnoffeaaGreat
namespace Go.Proofs.YtmnggbjcnoffeaaGreat
open Go Gv
set_option linter.unusedVariables false
set_option linter.unusedSimpArgs false
set_option maxRecDepth 100000
theorem Rv {own:Nat→Prop} {bW aa ae:a9 Cell} {q:Nat} (av:∀ q,q∈eA bW→q∈eA aa) (de:∀ q,q∈eA aa→q∈eA ae) (h:mD (mD own bW aa) aa ae q):mD own bW ae q:=by
 rcases h with(h | ⟨h,cZ⟩) | ⟨h,cZ⟩
 ·exact .inl h
 ·exact .inr ⟨h,de q cZ⟩
 ·exact .inr ⟨fun aD=>h (av q aD),cZ⟩
theorem nO.mono {s:a2} {hp:a9 Cell} {m:Nat} {l:List aI} {own own':Nat→Prop} (h:nO s hp m l own) (bp:∀ q,own q→own' q):nO s hp m l own':=by
 obtain⟨em,aa,ae,aD,aV,a1,mg⟩:=h.ok
 exact⟨em,aa,bp m ae,fun dA r aQ=>by obtain⟨t,g,e,a,b,c⟩:=aD dA r aQ; exact⟨t,g,e,a,fun q hq=>bp q (b q hq),c⟩,aV,a1,mg⟩
theorem gS.grow {bW aa ae:a9 Cell} {own:Nat→Prop} (a:gS bW aa own) (b:gS aa ae (mD own bW aa)):gS bW ae own:=
 a.trans b fun q hq h=>h.elim (fun h=>h) fun h=>absurd hq h.1
theorem Yv {s:a2} {hp:a9 Cell} {m:Nat} {l:List aI} {own:Nat→Prop} (hq:nO s hp m l own)
 {em:List (Vector ak 4 × Ref)} (n7:jX hp m=some em) {dA:Vector ak 4} (gK:ep em dA=none) {a:Nat} (bn:a ∉ eA hp) {z:ga} (dI:z.eR=32) (aQ:z.db=none):
 nO s (dW ((a,Cell.j0 z) :: hp) m (.nm (gH em dA (some a)))) m l (mD own hp (dW ((a,Cell.j0 z) :: hp) m (.nm (gH em dA (some a)))))∧gS hp (dW ((a,Cell.j0 z) :: hp) m (.nm (gH em dA (some a)))) own∧
  jX (dW ((a,Cell.j0 z) :: hp) m (.nm (gH em dA (some a)))) m=some (gH em dA (some a)):=by
 obtain⟨ZE,aa,ae,aD,aV,a1,mg⟩:=hq.ok
 rw [n7] at aa; cases aa
 have nr:=oZ n7
 have Pq:=yS bn nr
 have cG:pat ((a,Cell.j0 z) :: hp) m=some (.nm em):=by rw [si,if_neg Pq]; exact nr
 generalize dZ:dW ((a,Cell.j0 z) :: hp) m (.nm (gH em dA (some a)))=dV
 have az:jX dV m=some (gH em dA (some a)):=by rw [← dZ]; exact TB cG
 have a5:pat dV a=some (.j0 z):=by rw [← dZ,se Pq.symm,si,if_pos rfl]
 have bu:∀ q,q≠m→q≠a→pat dV q=pat hp q:=fun q Jf oL=>by rw [← dZ,se Jf.symm,si,if_neg oL.symm]
 have av:gS hp dV own:=by
  rw [← dZ]
  exact(gS.mk' (own:=own) bn).trans (gS.up ae) fun q _ h=>h
 have Pr:gE dV a=some z:=sf.2 a5
 have Xa:kH dV a (fun _=>none):=⟨z,Pr,dI,by rw [aQ]; exact⟨fun bC p h=>(by rw [iz] at h; cases h),fun bC cs p h _=>(by rw [iz] at h; cases h),fun bC p h=>(by rw [iz] at h; cases h)⟩,fun bC=>by rw [aQ]; exact nJ iz⟩
 have Hu:∀ q,Own dV a q→q=a:=fun q qq=>by
  rcases qq with h | ⟨c,bC,bo,cX⟩
  ·exact h
  ·rw [Pr] at bo; cases bo
   rw [aQ,iz] at cX; cases cX
 have hold:∀ t g,kH hp t g→kH dV t g∧ ∀ q,Own dV t q↔Own hp t q:=fun t g cj=>cj.congr fun q qq=>by
  refine bu q (fun e=> ?_) fun e=>bn (by rw [← e]; exact cj.wv qq)
  rw [← e] at nr
  rcases cj.Nb qq with⟨c,ar⟩ | ⟨c,ar⟩ <;> rw [ar] at nr <;> cases nr
 refine⟨⟨_,az,.inl ae,fun kv r mr=> ?_,fun kv mr=> ?_,fun Jg ED t1 t2 n8 nw dz q pB oJ=> ?_,mg.put⟩,av,az⟩
 ·rw [yR] at mr
  by_cases e:kv=dA
  ·rw [if_pos e] at mr; cases mr
   exact⟨a,_,rfl,Xa,fun q qq=>by rw [Hu q qq]; exact .inr ⟨bn,lr a5⟩,fun bC n=>⟨fun h=>(by cases h),fun⟨i,an,bo,_⟩=>absurd (bo.trans e) (aV dA gK i an)⟩⟩
  ·rw [if_neg e] at mr
   obtain⟨t,g,rfl,dY,eg,jM⟩:=aD kv r mr
   obtain⟨eE,fN⟩:=hold t g dY
   exact⟨t,g,rfl,eE,fun q qq=> .inl (eg q ((fN q).1 qq)),jM⟩
 ·rw [yR] at mr
  by_cases e:kv=dA
  ·rw [if_pos e] at mr; cases mr
  ·rw [if_neg e] at mr; exact aV kv mr
 ·rw [yR] at n8 nw
  have aq:∀ kv ij,ep em kv=some (some ij)→ ∀ q,q=a→ ¬ Own dV ij q:=fun kv ij nv q e qq=>by
   obtain⟨t,g,e',dY,_⟩:=aD kv _ nv
   cases e'
   have:=(hold ij g dY).2 q |>.1 qq
   exact bn (by rw [← e]; exact dY.wv this)
  by_cases aA:Jg=dA
  ·rw [if_pos aA] at n8; cases n8
   by_cases aU:ED=dA
   ·exact dz (aA.trans aU.symm)
   ·rw [if_neg aU] at nw
    exact aq ED t2 nw q (Hu q pB) oJ
  ·rw [if_neg aA] at n8
   by_cases aU:ED=dA
   ·rw [if_pos aU] at nw; cases nw
    exact aq Jg t1 n8 q (Hu q oJ) pB
   ·rw [if_neg aU] at nw
    obtain⟨t,g,e',dY,_⟩:=aD Jg _ n8
    cases e'
    obtain⟨ij,fw,IU,ZG,_⟩:=aD ED _ nw
    cases IU
    exact a1 _ _ _ _ n8 nw dz q (((hold _ _ dY).2 q).1 pB) (((hold _ _ ZG).2 q).1 oJ)
theorem Xb {s:a2} (h:c5 s) {hp:a9 Cell} {m:Nat} {l:List aI} {own:Nat→Prop} (hq:nO s hp m l own) (e3:∀ q,own q→q∈eA hp) (ao:jQ s 1 l) {i:aI} (an:lg s 1 i) (a8:ic l i.b2=none):
 ev (xV hp ⟨0,32,⟨some m⟩⟩ i) (fun hp'=>nO s hp' m (l ++ [i]) (mD own hp hp')∧gS hp hp' own):=by
 obtain⟨em,n7,ae,aD,aV,a1,_⟩:=hq.ok
 unfold xV
 refine .eq (MA h an.eN _) (.eq rfl (.eq n7 (.eq rfl ?_)))
 simp only
 refine .bind (P:=fun bM=>nO s bM m l (mD own hp bM)∧gS hp bM own∧ ∃ Jh t,jX bM m=some Jh∧ep Jh (ih (gn i.b2))=some (some t)) (.cond (fun ar=> ?_) fun ar=> .ret ?_) fun bM cG=> ?_
 ·have gK:ep em (ih (gn i.b2))=none:=by
   cases bP:ep em (ih (gn i.b2)) with
   | none=>rfl
   | some r=>
     obtain⟨t,_,rfl,_⟩:=aD _ _ bP
     rw [bP] at ar; cases ar
  unfold Cz
  refine .bind (P:=fun r=> ∃ a,a ∉ eA hp∧r=((some a:Ref),(a,Cell.j0 ({ (default:ga) with eR:=32 })) :: hp)) (.eq rfl (.mk fun a bn=> .ret ⟨a,bn,rfl⟩)) fun a7 bo=> ?_
  obtain⟨a,bn,rfl⟩:=bo
  have lM:jX ((a,Cell.j0 ({ (default:ga) with eR:=32 })) :: hp) m=some em:=(Fu (hp:=hp) (by rw [si,if_neg (yS bn (oZ n7))])).trans n7
  obtain⟨az,a5,bu⟩:=Yv hq n7 gK bn (z:= { (default:ga) with eR:=32 }) rfl rfl
  refine .eq lM (.eq rfl (.ret ⟨az,a5,_,a,bu,by rw [yR,if_pos rfl]⟩))
 ·cases bP:ep em (ih (gn i.b2)) with
  | none=>rw [bP] at ar; cases ar
  | some r=>
    obtain⟨t,_,rfl,_⟩:=aD _ _ bP
    exact⟨hq.mono fun q hq=> .inl hq,.refl,em,t,n7,bP⟩
 ·obtain⟨az,a5,Jh,t,bu,cM⟩:=cG
  refine .eq bu (.eq rfl ?_)
  simp only [cM]
  refine .bind (Yu h az (fun q hq=>hq.elim (fun hq=>a5.keys q (e3 q hq)) fun hq=>hq.2) ao an a8 bu cM) fun r aQ=> .ret ?_
  exact⟨aQ.1.mono fun q hq=>Rv a5.keys aQ.2.keys hq,a5.grow aQ.2⟩
theorem TC {hp:a9 Cell} {p:Nat} {k:Cell} {x:cS} {y:Option Nat} {n:Nat} (h:pat hp p=some k):nW (dW hp p (.sP x y n)) p=some (x,y,n):=by unfold nW; rw [wo h]
theorem Xc {s:a2} (h:c5 s) {k:Nat} (av:k < 4) {hp:a9 Cell} {q:Nat} {l:List aI} {own:Nat→Prop} (hq:zD s k hp q l own) (ao:jQ s k l) {i:aI} (an:lg s k i) (kY:kl l i.cH=false) (hlen:l.length < 900):
 ev (yb hp ⟨some q⟩ i) (fun hp'=>zD s k hp' q (l ++ [i]) (mD own hp hp')∧gS hp hp' own):=by
 obtain⟨key,cap,aa,ae⟩:=hq.ok
 unfold yb
 refine .eq rfl (.eq aa (.eq (UY h av ao.ok an hlen) (.any fun aF=> .eq rfl (.ret ?_))))
 rw [kY]
 exact⟨⟨aF.1,aF.2,TC (wg aa),.inl ae⟩,.up ae⟩
theorem Xd {s:a2} (h:c5 s) {k:Nat} (av:k < 4) {hp:a9 Cell} {f:gL} {l:List aI} {own:Nat→Prop} (hq:re s k hp f l own) (e3:∀ q,own q→q∈eA hp) (ao:jQ s k l) {i:aI} (an:lg s k i) (a8:ic l i.b2=none) (kY:kl l i.cH=false) (hlen:l.length < 900):
 ev (E3 hp f i) (fun hp'=>re s k hp' f (l ++ [i]) (mD own hp hp')∧gS hp hp' own):=by
 rcases hq with⟨rfl,q,rfl,hq⟩ | ⟨rfl,m,rfl,hq⟩ | ⟨de,q,rfl,hq⟩
 ·exact ev.of ((Yt h hq ao an a8).mono fun hp' aQ=>⟨.inl ⟨rfl,q,rfl,aQ.1⟩,aQ.2⟩)
 ·exact(Xb h hq e3 ao an a8).mono fun hp' aQ=>⟨.inr (.inl ⟨rfl,m,rfl,aQ.1⟩),aQ.2⟩
 ·exact(Xc h av hq ao an kY hlen).mono fun hp' aQ=>⟨.inr (.inr ⟨de,q,rfl,aQ.1⟩),aQ.2⟩
theorem LV {α β:Type} [DecidableEq α]:∀ {l:List (α × β)} {x:α} {v:β},ep l x=some v→ (x,v)∈l
 | [],_,_,h=>by cases h
 | (k,w) :: r,x,v,h=>by
   unfold ep at h
   split at h
   ·rename_i e; cases h; rw [e]; simp
   ·exact List.mem_cons_of_mem _ (LV h)
theorem MC {α β:Type} [DecidableEq α]:∀ {l:List (α × β)} {x:α} {v:β},l.Pairwise (fun a c=>a.1≠c.1)→ (x,v)∈l→ep l x=some v
 | [],_,_,_,h=>by cases h
 | (k,w) :: r,x,v,aR,h=>by
   obtain⟨aa,ae⟩:=List.pairwise_cons.1 aR
   unfold ep
   rcases List.mem_cons.1 h with h | h
   ·cases h; rw [if_pos rfl]
   ·rw [if_neg (fun e=>aa _ h e.symm),MC ae h]
theorem LW {α β:Type} [DecidableEq α]:∀ {l:List (α × β)} {x:α} {v:β},ep l x=none→gH l x v=l ++ [(x,v)]
 | [],_,_,_=>rfl
 | (k,w) :: r,x,v,h=>by
   unfold ep at h
   split at h
   ·cases h
   ·rename_i e
    show(if x=k then _ else _)=_
    rw [if_neg e,LW h]; rfl
def w5 (em:List (Int × aI)) (l:List aI):Prop:=em.Perm (l.map fun i=>(i.cH,i))
theorem w5.get {s:a2} {k:Nat} {em:List (Int × aI)} {l:List aI} (h:w5 em l) (ao:h3 s k l) (n:Int) (i:aI):ep em n=some i↔i∈l∧i.cH=n:=by
 have hd:em.Pairwise (fun a c=>a.1≠c.1):=by
  refine(h.pairwise_iff fun cC=>Ne.symm cC).2 ?_
  rw [List.pairwise_map]
  exact ao.num.imp fun cC=>cC
 have hm:(n,i)∈em↔i∈l∧i.cH=n:=by
  rw [h.mem_iff,List.mem_map]
  constructor
  ·rintro ⟨c,ar,e⟩
   cases e; exact⟨ar,rfl⟩
  ·rintro ⟨an,rfl⟩
   exact⟨i,an,rfl⟩
 rw [← hm]
 exact⟨LV,MC hd⟩
theorem w5.no {s:a2} {k:Nat} {em:List (Int × aI)} {l:List aI} (h:w5 em l) (ao:h3 s k l) (n:Int):(ep em n).isSome=kl l n:=by
 rw [Bool.eq_iff_iff,Option.isSome_iff_exists]
 unfold kl
 rw [List.any_eq_true]
 constructor
 ·rintro ⟨i,an⟩
  obtain⟨aa,ae⟩:=(h.get ao n i).1 an
  exact⟨i,aa,by simpa using ae⟩
 ·rintro ⟨i,an,ae⟩
  exact⟨i,(h.get ao n i).2 ⟨an,by simpa using ae⟩⟩
structure lG (s:a2) (k:Nat) (hp:a9 Cell) (p:Nat) (l:List aI) (own:Nat→Prop):Prop where
 qA:jQ s k l
 cell:∃ f m em,iI hp p=some ⟨oc k,(hy s k:Int),f,⟨some m⟩⟩∧nd hp m=some em∧own p∧own m∧w5 em l∧re s k hp f l (fun q=>own q∧q≠m∧q≠p)
 Bt:∀ q,own q→q∈eA hp
theorem lG.congr {s:a2} {k:Nat} {hp hp':a9 Cell} {p:Nat} {l:List aI} {own:Nat→Prop} (h:lG s k hp p l own) (av:∀ q,q∈eA hp→q∈eA hp') (bn:∀ q,own q→pat hp' q=pat hp q):lG s k hp' p l own:=by
 obtain⟨f,m,em,aa,ae,aD,aV,a1,bo⟩:=h.cell
 exact⟨h.qA,⟨f,m,em,by rw [R1 (bn p aD)]; exact aa,by rw [R2 (bn m aV)]; exact ae,aD,aV,a1,bo.congr (fun q _ hq=>hq) fun q hq=>bn q hq.1⟩,fun q hq=>av q (h.Bt q hq)⟩
theorem lG.ri {s:a2} {k:Nat} {hp hp':a9 Cell} {p:Nat} {l:List aI} {own own':Nat→Prop} (h:lG s k hp p l own) (av:gS hp hp' own') (hd:∀ q,own q→ ¬ own' q):lG s k hp' p l own:=
 h.congr av.keys fun q hq=>av.rest q (h.Bt q hq) (hd q hq)
theorem entry_eq {s:a2} (h:c5 s) {k:Nat} (av:k < 4) {hp:a9 Cell} {p:Nat} {l:List aI} {own:Nat→Prop} (aq:lG s k hp p l own) {o:Option aI} (bp:∀ i,o=some i→i∈l):x0 hp (some p) (mW o).1 (mW o).2=some (xj o):=by
 obtain⟨f,m,em,aa,ae,aD,aV,a1,bo⟩:=aq.cell
 refine bg.get ?_
 unfold x0
 cases o with
 | none=>exact .cond (fun _=> .ret rfl) fun ar=>by cases ar
 | some i=>
   have an:=bp i rfl
   refine .cond (fun ar=>by cases ar) fun _=> .eq rfl (.eq aa (.eq rfl (.eq ae (.eq rfl ?_))))
   have bP:ep em i.cH=some i:=(a1.get aq.qA.ok _ _).2 ⟨an,rfl⟩
   show bg (Option.bind (nC ((ep em i.cH).getD default)) _) _
   rw [bP]
   exact .eq (zA h av (aq.qA.ok.ok i an)) (.ret rfl)
theorem Lj {s:a2} (h:c5 s) {k:Nat} (av:k < 4) {hp:a9 Cell} {p:Nat} {l:List aI} {own:Nat→Prop} (aq:lG s k hp p l own) (dA:Vector ak 4):vt hp (some p) dA=some (xj (jv s k l dA)):=by
 obtain⟨f,m,em,aa,ae,aD,aV,a1,bo⟩:=aq.cell
 refine bg.get ?_
 unfold vt
 refine .cond (fun ar=>by cases ar) fun _=> ?_
 refine bg.loop 4 (fun i st=>st.1=(i:Int)∧ ∀ j,j < 4→bD st.2 j=if j < i then(if j < hy s k then bD dA j else default) else bD dA j) (by decide) ⟨rfl,fun j aE=>rfl⟩ (fun i st an hs=> ?_) (fun st hs=> ?_)
 ·obtain⟨j,v⟩:=st
  obtain⟨aA,aU⟩:=hs
  simp only at aA aU; subst aA
  refine .cond (fun _=> .eq rfl (.eq aa ?_)) (fun ar=>by simp at ar; omega)
  refine .bind (P:=fun vb=> ∀ j,j < 4→bD vb j=if j < i + 1 then(if j < hy s k then bD dA j else default) else bD dA j) (.cond (fun ar=> .idx rfl an (.ret fun j aE=> ?_)) fun ar=> .ret fun j aE=> ?_) fun vb ml=> .ret ⟨ew (by omega),ml⟩
  ·have ar:hy s k≤i:=by simp at ar; omega
   rw [gD _ _ an]
   by_cases jL:j=i
   ·rw [if_pos jL,if_pos (show j < i + 1 by omega),if_neg (show ¬ j < hy s k by omega)]
   ·rw [if_neg jL,aU j aE]
    by_cases cw:j < i
    ·rw [if_pos cw,if_pos (show j < i + 1 by omega)]
    ·rw [if_neg cw,if_neg (show ¬ j < i + 1 by omega)]
  ·have ar:i < hy s k:=by simp at ar; omega
   rw [aU j aE]
   by_cases jL:j=i
   ·rw [if_neg (show ¬ j < i by omega),if_pos (show j < i + 1 by omega),if_pos (show j < hy s k by omega)]
   ·by_cases cw:j < i
    ·rw [if_pos cw,if_pos (show j < i + 1 by omega)]
    ·rw [if_neg cw,if_neg (show ¬ j < i + 1 by omega)]
 ·obtain⟨j,v⟩:=st
  obtain⟨aA,aU⟩:=hs
  simp only at aA aU; subst aA
  refine⟨_,by simp; rfl,?_⟩
  have aX:v=kc (hy s k) dA:=yZ fun j aE=>by rw [aU j aE,if_pos aE,mx aE]
  subst aX
  exact .eq rfl (.eq aa (.eq (W9 h av bo aq.qA dA) (.eq (entry_eq h av aq fun i an=>MB an) (.ret rfl))))
end Go.Proofs.YtmnggbjcnoffeaaGreat
namespace Go.Proofs.YtmnggbjcnoffeaaGreat
open Go Gv
set_option linter.unusedVariables false
set_option linter.unusedSimpArgs false
set_option maxRecDepth 100000
theorem lG.mono {s:a2} {k:Nat} {hp:a9 Cell} {p:Nat} {l:List aI} {own own':Nat→Prop} (h:lG s k hp p l own) (bp:∀ q,own q→own' q) (an:∀ q,own' q→q∈eA hp):lG s k hp p l own':=by
 obtain⟨f,m,em,aa,ae,aD,aV,a1,bo⟩:=h.cell
 exact⟨h.qA,⟨f,m,em,aa,ae,bp p aD,bp m aV,a1,bo.congr (fun q _ hq=>⟨bp q hq.1,hq.2⟩) fun q hq=>rfl⟩,an⟩
theorem jQ.nil {s:a2} {k:Nat} :jQ s k []:=⟨⟨fun i an=>by(cases an),.nil,by simp⟩,.nil⟩
def Ji:Nat→Prop:=fun _=>False
theorem U3 {s:a2} (h:c5 s) {k:Nat} (av:k < 4) (hp:a9 Cell):ev (vP hp s ((k:Int) + 1)) (fun r=> ∃ p,r.1=some p∧lG s k r.2 p [] (mD Ji hp r.2)∧gS hp r.2 Ji):=by
 refine(WV h av hp).mono fun r aQ=> ?_
 obtain⟨p,e,aQ⟩:=aQ
 obtain⟨c,m,aa,ae,aD,aV,a1,bo,cX,eP,fO,jK,oM,Bk⟩:=aQ.cell
 obtain⟨Z3,aP,f,ea⟩:=c
 simp only at ae aD aV bo cX eP
 subst ae aD aV
 have hm:=zm a1
 have hp':=oo aa
 refine⟨p,e,⟨jQ.nil,⟨f,m,[],aa,a1,.inr ⟨fO,lr hp'⟩,.inr ⟨jK,lr hm⟩,List.Perm.refl _,?_⟩,fun q hq=>hq.elim (fun h=>h.elim) fun h=>h.2⟩,⟨oM,fun q hq _=>Bk q hq⟩⟩
 have key:∀ q c,pat r.2 q=some c→ (∀ x,c≠ .ma x)→ (∀ x,c≠ .nn x)→q ∉ eA hp→mD Ji hp r.2 q∧q≠m∧q≠p:=fun q c ar vd JI aR=>
  ⟨.inr ⟨aR,lr ar⟩,fun e=>by rw [e,hm] at ar; cases ar; exact vd _ rfl,fun e=>by rw [e,hp'] at ar; cases ar; exact JI _ rfl⟩
 have:k=0∨k=1∨2≤k:=by omega
 rcases this with rfl | rfl | de
 ·obtain⟨q,cI,rfl,az,a5,bu,cM⟩:=bo rfl
  exact .inl ⟨rfl,q,rfl,⟨cI,[],az,a5,key q _ (wb az) (fun _ h=>by cases h) (fun _ h=>by cases h) bu,key cI _ (tX a5) (fun _ h=>by cases h) (fun _ h=>by cases h) cM,fun dA n=>⟨fun h=>(by cases h),fun⟨i,an,_⟩=>(by cases an)⟩,.nil⟩⟩
 ·obtain⟨fb,rfl,az,a5⟩:=cX rfl
  exact .inr (.inl ⟨rfl,fb,rfl,⟨[],az,key fb _ (oZ az) (fun _ h=>by cases h) (fun _ h=>by cases h) a5,fun dA r h=>(by cases h),fun dA _ i an=>(by cases an),fun dA kv t ij h=>(by cases h),.nil⟩⟩)
 ·obtain⟨q,aaa,cap,rfl,az,a5⟩:=eP de
  exact .inr (.inr ⟨de,q,rfl,⟨aaa,cap,az,key q _ (wg az) (fun _ h=>by cases h) (fun _ h=>by cases h) a5⟩⟩)
theorem jQ.snoc {s:a2} {k:Nat} {l:List aI} (h:jQ s k l) {i:aI} (an:lg s k i) (a8:ic l i.b2=none) (aR:kl l i.cH=false) (ao:l.length < 900):jQ s k (l ++ [i]) where
 ok:=h.ok.snoc an aR ao
 key:=by
  rw [List.pairwise_append]
  exact⟨h.key,by simp,fun a bn c ar=>by rw [List.mem_singleton.1 ar]; exact vX a8 a bn⟩
theorem Nd (o:Option aI):(mW o).2=o.isSome:=by cases o <;> rfl
def u5 (l:List aI) (i:aI):Bool:=(ic l i.b2).isNone && !kl l i.cH
def added (l:List aI) (i:aI):List aI:=if u5 l i=true then l ++ [i] else l
theorem U4 {s:a2} (h:c5 s) {k:Nat} (av:k < 4) {hp:a9 Cell} {p:Nat} {l:List aI} {own:Nat→Prop} (aq:lG s k hp p l own) {i:aI} (an:lg s k i) (hlen:l.length < 900):
 ev (yc hp (some p) i) (fun r=>r.1=u5 l i∧lG s k r.2 p (added l i) (mD own hp r.2)∧gS hp r.2 own):=by
 obtain⟨f,m,em,aa,ae,aD,aV,a1,bo⟩:=aq.cell
 have hm:=zm ae
 have hp':=oo aa
 have nr:p≠m:=fun e=>by rw [e,hm] at hp'; cases hp'
 have gK:=a1.no aq.qA.ok i.cH
 unfold yc
 refine .cond (fun ar=>by cases ar) fun _=> .eq rfl (.eq aa (.eq rfl (.eq ae (.eq rfl (.eq rfl (.eq aa (.eq (W4 h av bo aq.qA an.eN) (.cond (fun ar=> .ret ?_) fun ar=> ?_))))))))
 ·rw [gK,Nd,Bool.or_eq_true] at ar
  have cj:u5 l i=false:=by
   unfold u5
   rcases ar with ar | ar
   ·cases a8:ic l i.b2 with
    | none=>rw [a8] at ar; cases ar
    | some _=>rfl
   ·rw [ar]; simp
  refine⟨cj.symm,?_,.refl⟩
  unfold added
  rw [cj]
  exact aq.mono (fun q hq=> .inl hq) fun q hq=>hq.elim (aq.Bt q) fun hq=>absurd hq.2 hq.1
 ·rw [gK,Nd,Bool.or_eq_false_iff] at ar
  obtain⟨cF,da⟩:=ar
  have a8:ic l i.b2=none:=by
   cases a8:ic l i.b2 with
   | none=>rfl
   | some _=>rw [a8] at cF; cases cF
  have cj:u5 l i=true:=by unfold u5; rw [a8,da]; rfl
  have bP:ep em i.cH=none:=by
   cases bP:ep em i.cH with
   | none=>rfl
   | some _=>rw [bP,da] at gK; cases gK
  have aF:pat (dW hp m (Cell.ma (gH em i.cH i))) p=some (.nn ⟨oc k,(hy s k:Int),f,⟨some m⟩⟩):=by rw [se nr.symm]; exact hp'
  have f1:re s k (dW hp m (Cell.ma (gH em i.cH i))) f l (fun q=>own q∧q≠m∧q≠p):=bo.congr (fun q _ hq=>hq) fun q hq=>se hq.2.1.symm
  refine .eq rfl (.eq aa (.eq (zA h av an) (.eq rfl (.eq ae (.eq rfl (.eq (by unfold iI; rw [aF]) (.bind (Xd h av f1 (fun q hq=>by rw [tS]; exact aq.Bt q hq.1) aq.qA an a8 da hlen) fun iE aQ=> .ret ⟨cj.symm,?_,?_⟩)))))))
  ·obtain⟨mV,iG⟩:=aQ
   have dY:pat iE p=some (.nn ⟨oc k,(hy s k:Int),f,⟨some m⟩⟩):=by rw [iG.rest p (lr aF) (fun hq=>hq.2.2 rfl)]; exact aF
   have eg:pat iE m=some (.ma (gH em i.cH i)):=by
    have:pat (dW hp m (Cell.ma (gH em i.cH i))) m=some (.ma (gH em i.cH i)):=wo hm
    rw [iG.rest m (lr this) (fun hq=>hq.2.1 rfl)]; exact this
   unfold added
   rw [if_pos cj]
   refine⟨aq.qA.snoc an a8 da hlen,⟨f,m,_,by unfold iI; rw [dY],by unfold nd; rw [eg],.inl aD,.inl aV,?_,mV.congr (fun q _ hq=> ?_) fun q _=>rfl⟩,fun q hq=> ?_⟩
   ·unfold w5
    rw [LW bP,List.map_append]
    exact List.Perm.append_right _ a1
   ·rcases hq with hq | ⟨az,a5⟩
    ·exact⟨.inl hq.1,hq.2⟩
    ·rw [tS] at az
     exact⟨.inr ⟨az,a5⟩,fun e=>az (e ▸ lr hm),fun e=>az (e ▸ lr hp')⟩
   ·rcases hq with hq | hq
    ·exact iG.keys q (by rw [tS]; exact aq.Bt q hq)
    ·exact hq.2
  ·exact(gS.up (own:=own) aV).trans aQ.2 fun q _ hq=>hq.1
end Go.Proofs.YtmnggbjcnoffeaaGreat
namespace Go.Proofs.YtmnggbjcnoffeaaGreat
open Go Gv
set_option linter.unusedVariables false
set_option linter.unusedSimpArgs false
set_option maxRecDepth 100000
end Go.Proofs.YtmnggbjcnoffeaaGreat
namespace Go.Proofs.YtmnggbjcnoffeaaGreat
open Go Gv
set_option linter.unusedVariables false
set_option linter.unusedSimpArgs false
set_option maxRecDepth 100000
theorem TD {key:cE} {m:cr} (hm:lB key.cg (eC key) m) (hp:m.gM=true) (dz:m.bQ≠default) (v:ak):
 ht key.cg (eC key) m { c6:=(v.c6 &&& ~~~m.bQ.c6) ||| m.bI.c6,bO:=(v.bO &&& ~~~m.bQ.bO) ||| m.bI.bO } =true:=by
 have aD:key.cg=3:=Classical.byContradiction fun h=>dz (hm.g6 h)
 unfold ht
 rw [if_neg (by simp [hp]),if_neg (by omega),if_neg (by omega),if_pos aD,decide_eq_true_eq]
 refine uc fun j aE=> ?_
 have cj:=hm.Pd aD j aE
 rw [oW]
 unfold bL at *
 split
 ·rename_i EE
  simp only [EE,if_true] at cj
  simp only [BitVec.getLsbD_or,BitVec.getLsbD_and,BitVec.getLsbD_not,EE,decide_true,Bool.true_and]
  cases aX:m.bI.bO.getLsbD j <;> cases av:m.bQ.bO.getLsbD j <;> simp_all
 ·rename_i EE
  simp only [EE,if_false] at cj
  have Yw:j - 64 < 64:=by omega
  simp only [BitVec.getLsbD_or,BitVec.getLsbD_and,BitVec.getLsbD_not,Yw,decide_true,Bool.true_and]
  cases aX:m.bI.c6.getLsbD (j - 64) <;> cases av:m.bQ.c6.getLsbD (j - 64) <;> simp_all
theorem Up {key:cE} (av:iJ key) {m:cr} (hm:lB key.cg (eC key) m) (hp:m.gM=true) (bW:0 < m.eQ) (x:BitVec 64):
 ht key.cg (eC key) m { (default:ak) with bO:=m.bI.bO ||| (x &&& (((1#64) <<< (BitVec.ofInt 64 (bz (32 - m.eQ))).toNat) - (1#64))) } =true:=by
 have ae:key.cg=2:=Classical.byContradiction fun h=>by have:=hm.I3 h; omega
 have Bm:=hm.pre.2
 obtain⟨aa3,aaG,a8,_,_,_,_,de⟩:=av
 have ZH:eC key=32:=by rw [wN a8,de ae]; rfl
 obtain⟨n,aR⟩:=Int.eq_ofNat_of_zero_le (show 0≤32 - m.eQ by omega)
 rw [hQ (by omega) (by omega),aR,nI (by omega)]
 unfold ht
 rw [if_neg (by simp [hp]),if_neg (by omega),if_pos ae,List.all_eq_true]
 intro j aE
 cases ao:lead (eC key) m.eQ j
 ·rfl
 ·unfold lead at ao
  rw [ZH] at ao
  simp only [Bool.and_eq_true,decide_eq_true_eq] at ao
  have Yx:j < 64:=by omega
  have pq: ¬ j < n:=by omega
  unfold bL
  simp only [Yx,if_true,BitVec.getLsbD_or,BitVec.getLsbD_and]
  rw [vW (by omega),decide_eq_false pq]
  simp
theorem Uq {key:cE} (av:iJ key) {m:cr} (hm:lB key.cg (eC key) m) (hp:m.gM=true) (dz:m.bQ=default) (bW: ¬ (0 < m.eQ∧m.eQ≤32)):
 ht key.cg (eC key) m m.bI=true:=by
 obtain⟨_,_,_,aZ,fm,_⟩:=av
 have ae:key.cg≠2:=fun h=>by have:=hm.I2 h hp; have:=hm.pre.2; omega
 have aD:key.cg≠3:=fun h=>hm.Zp h hp dz
 unfold ht
 rw [if_neg (by simp [hp])]
 by_cases aa:key.cg=1
 ·rw [if_pos aa]; simp
 ·rw [if_neg aa,if_neg ae,if_neg aD]
  obtain⟨dY,eg⟩:=hm.kU (by omega) hp
  rw [vR,UU dY eg]; rfl
theorem S0 {s:a2} (h:c5 s) {k:Nat} (av:k < 4) {e:bJ} (he:hR s k e) (p:Vector ak 4):bg (yr e p) (fun q=>mt s k q e=true):=by
 obtain⟨t1,⟨t2,t3⟩,t4,_⟩:=h.hL av
 have hlen:=he.len
 unfold yr
 refine bg.loop e.bY.length (fun i st=> ∃ q,st=((i:Int),q)∧ ∀ c,c < i→ht (ax (ax s.bm k).bx c).cg (eC (ax (ax s.bm k).bx c)) (ax e.bY c) (bD q c)=true) (by omega) ⟨p,rfl,fun c ar=>by omega⟩ (fun i st an hs=> ?_) (fun st hs=> ?_)
 ·obtain⟨q,rfl,hq⟩:=hs
  have kU:i < 4:=by omega
  have mP:iJ (ax (ax s.bm k).bx i):=t4 _ (by rw [ey _ (show i < (ax s.bm k).bx.length by omega)]; exact List.getElem_mem _)
  have hm:=he.pF i (by omega)
  refine .cond (fun _=> ?_) (fun ar=>by simp at ar; omega)
  refine .idx rfl an ?_
  have lF:∀ v,ht (ax (ax s.bm k).bx i).cg (eC (ax (ax s.bm k).bx i)) (ax e.bY i) v=true→ ∀ c,c < i + 1→ht (ax (ax s.bm k).bx c).cg (eC (ax (ax s.bm k).bx c)) (ax e.bY c) (bD (cW q i v) c)=true:=fun v aX c ar=>by
   rw [gD _ _ kU]
   by_cases mo:c=i
   ·subst mo; rw [if_pos rfl]; exact aX
   ·rw [if_neg mo]; exact hq c (by omega)
  refine .cond (fun ar=> .ret ⟨q,by rw [ew (by omega)],fun c j8=> ?_⟩) fun ar=> ?_
  ·have ZI:(ax e.bY i).gM=false:=by
    rw [show decide ((i:Int)≥4)=false by simp; omega] at ar
    simpa using ar
   by_cases mo:c=i
   ·subst mo; unfold ht; rw [if_pos ZI]
   ·exact hq c (by omega)
  have Br:(ax e.bY i).gM=true:=by
   rw [show decide ((i:Int)≥4)=false by simp; omega] at ar
   simpa using ar
  refine .bind (P:=fun dw=> ∃ v,dw=cW q i v∧ht (ax (ax s.bm k).bx i).cg (eC (ax (ax s.bm k).bx i)) (ax e.bY i) v=true) ?_ fun dw fI=> ?_
  ·refine .cond (fun cG=> ?_) fun cG=> .eq rfl (.bind (P:=fun dw=> ∃ v,dw=cW q i v∧ht (ax (ax s.bm k).bx i).cg (eC (ax (ax s.bm k).bx i)) (ax e.bY i) v=true) (.cond (fun dI=> ?_) fun dI=> ?_) fun dw fI=> .ret fI)
   ·refine .idx rfl kU (.eq rfl (.idx rfl kU (.eq rfl (.idx rfl kU (.idx rfl kU (.eq rfl (.ret ⟨_,?_,TD hm Br (by simpa using cG) (bD q i)⟩)))))))
    refine yZ fun c ar=> ?_
    simp only [gD _ _ kU]
    split <;> simp
   ·simp only [Bool.and_eq_true,decide_eq_true_eq] at dI
    exact .idx rfl kU (.eq rfl (.eq rfl (.idx rfl kU (.eq rfl (.ret ⟨_,rfl,Up mP hm Br dI.1 _⟩)))))
   ·refine .idx rfl kU (.ret ⟨_,rfl,Uq mP hm Br (by simpa using cG) fun cC=> ?_⟩)
    rw [decide_eq_true cC.1,decide_eq_true cC.2] at dI; cases dI
  ·obtain⟨v,rfl,aX⟩:=fI
   exact .ret ⟨cW q i v,by rw [ew (by omega)],lF v aX⟩
 ·obtain⟨q,rfl,hq⟩:=hs
  refine⟨_,by simp; rfl,.ret ?_⟩
  unfold mt
  exact M5 hq hlen.symm
theorem h3.filter {s:a2} {k:Nat} {l:List aI} (h:h3 s k l) (q:aI→Bool):h3 s k (l.filter q) where
 ok i an:=h.ok i (List.mem_filter.1 an).1
 num:=h.num.sublist List.filter_sublist
 len:=Nat.le_trans (List.length_filter_le _ _) h.len
end Go.Proofs.YtmnggbjcnoffeaaGreat
namespace Go.Proofs.YtmnggbjcnoffeaaGreat
open Go Gv
set_option linter.unusedVariables false
set_option linter.unusedSimpArgs false
set_option maxRecDepth 100000
theorem S1:Cp=some true:=by kernel_rfl
theorem S2 {s:a2} (h:c5 s) {k:Nat} (av:k < 4) {x:Int} (em:qK x (s.bm.length:Int)=some (k:Int)) (hp:a9 Cell) (c:bt) (ar:gI c) (n:Nat) (aR:n≤100):
 ev (yv hp s c x (n:Int)) (fun r=> ∃ p own,r.1=some p∧lG s k r.2.2.2 p r.2.1 own∧r.2.1.length≤n∧gI r.2.2.1):=by
 unfold yv
 have ZJ:=(h.hL av).1
 refine .eq em (.idx rfl (by rw [h.kk]; exact av) ?_)
 rw [ZJ]
 refine .bind (U3 h av hp) fun aN ae=> ?_
 obtain⟨p,e,aq,_⟩:=ae
 obtain⟨aaH,dV⟩:=aN
 simp only at e aq
 subst e
 refine .bind (P:=fun aA=> ∃ own,lG s k aA.2.2.2.2 p aA.2.2.1 own∧aA.2.2.1.length≤n∧gI aA.2.2.2.1)
  (ev.loop n (fun j st=> ∃ l jP hp' own,st=((j:Int),l,jP,hp')∧lG s k hp' p l own∧l.length≤j∧gI jP) (by omega) ⟨[],c,dV,_,rfl,aq,by simp,ar⟩ (fun j st aE hs=> ?_) (fun st hs=> ?_)) fun aA aa=> .ret ⟨p,aa.elim fun own h=>⟨own,rfl,h⟩⟩
 ·obtain⟨l,jP,hp',own,rfl,aq,rK,j8⟩:=hs
  refine .c4 (P:=fun _=>True) (fun _=>Ts _) fun a7 _=> .cond (fun ar=> ?_) fun ar=> .ret ⟨own,aq,Nat.le_trans rK (by omega),j8⟩
  refine .pC (SQ jP x j8 h) fun bR ⟨aV,k',j5,rG,he⟩=> .eq rfl ?_
  have mP:k'=k:=by rw [em] at rG; simp only [Option.some.injEq] at rG; omega
  subst mP
  generalize dI:({ (default:aI) with b2:=bR.1,cH:=bz ((j:Int) + 1) } :aI)=z
  have an:lg s k' z:=⟨by rw [← dI]; exact he⟩
  simp only [dI]
  refine .bind (U4 h av aq an (by omega)) fun br a1=> ?_
  obtain⟨az,a5,bu⟩:=a1
  obtain⟨aaI,iE⟩:=br
  simp only at az a5 bu
  refine .eq (a:=added l z) ?_ (.ret ⟨_,bR.2,iE,_,by rw [ew (by omega)],a5,?_,aV⟩)
  ·simp only [az]
   unfold added
   cases u5 l z
   ·rfl
   ·show(gu 88 l [_]).bind (fun b8=>some b8)=_
    rw [iy _ _ (by simp; omega) (by omega)]; rfl
  ·unfold added; split
   ·simp; omega
   ·omega
 ·obtain⟨l,jP,hp',own,rfl,aq,rK,j8⟩:=hs
  refine .c4 (P:=fun _=>True) (fun ar=>by simp at ar) fun a7 _=> .cond (fun ar=>by simp at ar) fun ar=> .ret ⟨own,aq,rK,j8⟩
theorem U5 (s:a2) (k:Nat) (i:aI):eF s k i i=false:=by
 cases h:eF s k i i with
 | false=>rfl
 | true=>have:=(pW s k).asymm _ _ h; rw [h] at this; cases this
end Go.Proofs.YtmnggbjcnoffeaaGreat
namespace Go.Proofs.YtmnggbjcnoffeaaGreat
open Go Gv
set_option linter.unusedVariables false
set_option linter.unusedSimpArgs false
set_option maxRecDepth 100000
theorem Lk {α:Type} {b:α→α→Bool} (hb:ta b) {q:α→Bool} :∀ {l:List α} {c:α},l.Pairwise (fun x y=>b x y=true)→l.find? q=some c→ ∀ d∈l,q d=true→d=c∨b c d=true
 | [],c,_,h,_,_,_=>by cases h
 | a :: l,c,hs,h,d,hd,hq=>by
   obtain⟨aa,ae⟩:=List.pairwise_cons.1 hs
   by_cases oL:q a=true
   ·rw [List.find?_cons_of_pos oL] at h
    cases h
    rcases List.mem_cons.1 hd with aD | aD
    ·exact .inl aD
    ·exact .inr (aa d aD)
   ·rw [List.find?_cons_of_neg oL] at h
    rcases List.mem_cons.1 hd with aD | aD
    ·rw [aD] at hq; exact absurd hq oL
    ·exact Lk hb ae h d aD hq
theorem S3 {s:a2} {k:Nat} {l:List aI} (ao:h3 s k l) {p:Vector ak 4} {c:aI} (h:jv s k l p=some c):∀ d∈l,mt s k p d.b2=true→d=c∨eF s k c d=true:=fun d hd hq=>
 Lk (pW s k) (FN (pW s k) ao.xi) h d (o0.2 hd) hq
theorem TE {s:a2} {k:Nat} {l:List aI} {p:Vector ak 4} {d:aI} (hd:d∈l) (hq:mt s k p d.b2=true):∃ c,jv s k l p=some c:=by
 cases h:jv s k l p with
 | some c=>exact⟨c,rfl⟩
 | none=>
   unfold jv at h
   have:=List.find?_eq_none.1 h d (o0.2 hd)
   exact absurd hq this
theorem Xe {key:cE} {m:cr} (av:key.cg≠4) (aa:1≤key.cg∧key.cg≤4) (hm:lB key.cg (eC key) m) {j:Nat} (aE:j < 128) (h:lW key m j=true):(j:Int) < eC key:=by
 unfold lW at h
 rw [Bool.and_eq_true] at h
 obtain⟨_,h⟩:=h
 by_cases aA:key.cg=1
 ·rw [if_pos aA,decide_eq_true_eq] at h; exact h
 ·rw [if_neg aA] at h
  by_cases aU:key.cg=2
  ·rw [if_pos aU] at h
   unfold lead at h
   rw [Bool.and_eq_true,decide_eq_true_eq] at h
   exact h.1
  ·rw [if_neg aU] at h
   exact hm.Pc (by omega) j aE h
theorem Ur {s:a2} (h:c5 s) {k:Nat} (av:k < 4) (aQ:km s k=false) {e:bJ} (he:hR s k e) {i:Nat} (an:i < 512) (aX:bk (ig s e).bQ i=true):i / 128 < (ax s.bm k).bx.length∧ ((127 - i % 128:Nat):Int) < eC (ax (ax s.bm k).bx (i / 128)):=by
 obtain⟨_,ae⟩:=Ab h av aQ he
 unfold bk at aX
 rw [(ae (i / 128) (127 - i % 128) (by omega) (by omega)).1,Bool.and_eq_true,decide_eq_true_eq] at aX
 obtain⟨aD,aV⟩:=aX
 obtain⟨j,aE,a8,a,b,_⟩:=(h.hL av).2.2.1 (ax (ax s.bm k).bx (i / 128)) (by rw [ey _ aD]; exact List.getElem_mem _)
 exact⟨aD,Xe (C6 aQ _ aD) ⟨a,b⟩ (he.pF _ aD) (by omega) aV⟩
theorem TF {c:a4} (ar:can c) {q dw:Vector ak 4} (h:∀ i,i < 512→bk c.bQ i=true→bk q i=bk dw i):gm c q=true↔gm c dw=true:=by
 rw [mA ar,mA ar]
 exact⟨fun aa i an hm=>by rw [← h i an hm]; exact aa i an hm,fun aa i an hm=>by rw [h i an hm]; exact aa i an hm⟩
theorem S4 {s:a2} (h:c5 s) {k:Nat} (av:k < 4) (aQ:km s k=false) {l:List aI} (ao:h3 s k l) {i:aI} (an:i∈l) {q:Vector ak 4} (hq:su (fun q=>gm (ig s i.b2) q=true) (out (ju s k l i)) q):EB s k q:=by
 intro c j ar aE aX
 have Eb:c < 4:=by have:=(h.hL av).2.1; omega
 obtain⟨dw,fI⟩:=LO fun x=>bk q x && (decide (x / 128 < (ax s.bm k).bx.length) && decide (((127 - x % 128:Nat):Int) < eC (ax (ax s.bm k).bx (x / 128))))
 have DH:∀ d∈l,gm (ig s d.b2) q=true↔gm (ig s d.b2) dw=true:=fun d hd=>TF (De h av aQ (ao.ok d hd).eN) fun x aq hm=>by
  obtain⟨a,b⟩:=Ur h av aQ (ao.ok d hd).eN aq hm
  rw [fI x aq,decide_eq_true a,decide_eq_true b]; simp
 obtain⟨aa,ae,aD⟩:=hq
 have e3:gm (ig s i.b2) dw=true:=(DH i an).1 aa
 have qb:out (ju s k l i) dw:=fun x aq O1=>by
  obtain⟨d,hd,rfl⟩:=List.mem_map.1 aq
  exact ae _ aq ((DH d (List.mem_filter.1 hd).1).2 O1)
 rcases aD dw e3 qb with e | ⟨x,aq,az,a5,_⟩
 ·have aV:=fI (c * 128 + (127 - j)) (by omega)
  rw [e] at aV
  have aA:(c * 128 + (127 - j)) / 128=c:=by omega
  have aU:127 - (c * 128 + (127 - j)) % 128=j:=by omega
  have a1:bk q (c * 128 + (127 - j))=true:=by unfold bk; rw [aA,aU]; exact aX
  rw [a1,aA,aU] at aV
  simp only [Bool.true_and] at aV
  have aV:=aV.symm
  rw [Bool.and_eq_true,decide_eq_true_eq,decide_eq_true_eq] at aV
  exact aV.2
 ·rw [fI x aq,az] at a5; cases a5
theorem S5 {s:a2} (h:c5 s) {k:Nat} (av:k < 4) (aQ:km s k=false) {l:List aI} (ao:h3 s k l) {i:aI} (an:i∈l) (ar:iN (ig s i.b2) (ju s k l i)) {p:Vector ak 4} (hb:EB s k p) (hm:mt s k p i.b2=true):∃ c,jv s k l p=some c∧c.cH≠i.cH:=by
 obtain⟨x,aq,aa⟩:=ar p ((DK h av aQ (ao.ok i an).eN hb).2 hm)
 obtain⟨w,hw,rfl⟩:=List.mem_map.1 aq
 obtain⟨sW,qj⟩:=List.mem_filter.1 hw
 have Ps:=(DK h av aQ (ao.ok w sW).eN hb).1 aa
 obtain⟨c,Jj⟩:=TE sW Ps
 refine⟨c,Jj,fun e=> ?_⟩
 have mo:=ao.uniq (MB Jj) an e
 subst mo
 rcases S3 ao Jj w sW Ps with aU | aU
 ·rw [aU,U5] at qj; cases qj
 ·rw [(pW s k).asymm _ _ qj] at aU; cases aU
theorem TG {s:a2} (h:c5 s) {k:Nat} (av:k < 4) (aQ:km s k=false) {l:List aI} (ao:h3 s k l) {i:aI} (an:i∈l) {q:Vector ak 4} (hq:su (fun q=>gm (ig s i.b2) q=true) (out (ju s k l i)) q):jv s k l q=some i:=by
 have hb:=S4 h av aQ ao an hq
 have hm:=(DK h av aQ (ao.ok i an).eN hb).1 hq.1
 refine C3 (pW s k) ao.xi an hm fun d hd ZK=> ?_
 by_cases e:d.cH=i.cH
 ·exact .inl (ao.uniq hd an e)
 ·right
  rcases M7 (s:=s) (k:=k) e with aa | aa
  ·exact absurd ((DK h av aQ (ao.ok d hd).eN hb).2 ZK) (hq.2.1 _ (List.mem_map.2 ⟨d,List.mem_filter.2 ⟨hd,aa⟩,rfl⟩))
  ·exact aa
theorem Us {kind b:Int} {m:cr} (hm:lB kind b m) (aa:1≤kind∧kind≤3) {x y:ak} (a6:∀ j,j < 128→bL y j=(bL x j && decide ((j:Int) < b))) (h:ht kind b m x=true):ht kind b m y=true:=by
 unfold ht at h ⊢
 by_cases hp:m.gM=false
 ·rw [if_pos hp]
 rw [if_neg hp] at h ⊢
 by_cases aA:kind=1
 ·rw [if_pos aA,decide_eq_true_eq] at h ⊢
  refine uc fun j aE=> ?_
  rw [a6 j aE,h]
  cases aX:bL m.bI j with
  | false=>rfl
  | true=>rw [decide_eq_true (hm.low aA j aE aX)]; rfl
 rw [if_neg aA] at h ⊢
 by_cases aU:kind=2
 ·rw [if_pos aU,List.all_eq_true] at h ⊢
  intro j aE
  have s6:=List.mem_range.1 aE
  have aD:=h j aE
  cases ao:lead b m.eQ j with
  | false=>rfl
  | true=>
    rw [ao] at aD
    have Im:(j:Int) < b:=by unfold lead at ao; rw [Bool.and_eq_true,decide_eq_true_eq] at ao; exact ao.1
    rw [a6 j s6,decide_eq_true Im,Bool.and_true]; exact aD
 rw [if_neg aU] at h ⊢
 have cL:kind=3:=by omega
 rw [if_pos cL,decide_eq_true_eq] at h ⊢
 rw [← h]
 refine uc fun j aE=> ?_
 rw [oW,oW,a6 j aE]
 cases aX:bL m.bQ j with
 | false=>simp
 | true=>rw [decide_eq_true (hm.Pc cL j aE aX),Bool.and_true]
theorem Yy {s:a2} (h:c5 s) {k:Nat} (av:k < 4) (aQ:km s k=false) {e:bJ} (he:hR s k e) {p xw:Vector ak 4}
 (hp:∀ c j,c < (ax s.bm k).bx.length→j < 128→bL (bD xw c) j=(bL (bD p c) j && decide ((j:Int) < eC (ax (ax s.bm k).bx c)))) (hm:mt s k p e=true):EB s k xw∧mt s k xw e=true:=by
 refine⟨fun c j ar aE aX=> ?_,?_⟩
 ·rw [hp c j ar aE,Bool.and_eq_true,decide_eq_true_eq] at aX
  exact aX.2
 ·unfold mt at hm ⊢
  rw [List.all_eq_true] at hm ⊢
  intro c ar
  have j8:=List.mem_range.1 ar
  obtain⟨_,_,_,a,b,_⟩:=(h.hL av).2.2.1 (ax (ax s.bm k).bx c) (by rw [ey _ j8]; exact List.getElem_mem _)
  have aV:=C6 aQ c j8
  exact Us (he.pF c j8) ⟨a,by omega⟩ (fun j aE=>hp c j j8 aE) (hm c ar)
theorem Rw (hp:a9 Cell) (J ag:List (BitVec 8)) (aT:Int) (cB:List (Vector ak 4)):ev (x9 hp J ag aT cB) (fun r=>r.1=true):=by
 unfold x9
 refine .pC (Mg J 120 (by omega) (by omega)) fun al aa=> .pC (Sd al aa) fun aN ae=> .pC (Mg ag 200 (by omega) (by omega)) fun a7 aD=> ?_
 obtain⟨s,aa4⟩:=aN
 obtain⟨h,_⟩:=ae
 simp only at h ⊢
 obtain⟨m,em,hr,cG⟩:=Mi aT (s.bm.length:Int) (by rw [h.kk]; omega) (by rw [h.kk]; omega)
 obtain⟨k,rfl⟩:=Int.eq_ofNat_of_zero_le hr
 have av:k < 4:=by have:=h.kk; omega
 refine .eq em (.idx rfl (by rw [h.kk]; exact av) (.bind (S2 h av em hp a7 aD 14 (by omega)) fun bR aV=> ?_))
 obtain⟨aa5,l,jP,dV⟩:=bR
 obtain⟨p,own,rfl,aq,hlen,j8⟩:=aV
 simp only at aq hlen j8
 have ao:=aq.qA.ok
 obtain⟨t1,⟨t2,t3⟩,t4,_⟩:=h.hL av
 refine .pC (P:=fun e=> ∃ a,e= .inl a) (bg.DI l.length (fun i st=>st.1=(i:Int)∧gI st.2) (by omega) ⟨rfl,j8⟩ (fun i st an hs=> ?_) (fun st hs=> ?_)) fun aU ZL=> ?_
 ·obtain⟨rW,rV⟩:=st
  obtain⟨aA,Bu⟩:=hs
  simp only at aA Bu
  subst aA
  refine .cond (fun _=> ?_) (fun ar=>by simp at ar; omega)
  have hm:ax l i∈l:=by rw [ey _ an]; exact List.getElem_mem _
  generalize dI:ax l i=z at hm
  simp only
  refine .idx rfl an ?_
  rw [dI]
  refine(Tx h av ao (by omega) hm).bind fun b8 bo=> ?_
  cases aQ:km s k with
  | true=>
    rw [bo.1 aQ]
    exact .cond (fun _=> .ret ⟨ew (by omega),Bu⟩) fun ar=>by simp at ar
  | false=>
  obtain⟨dY,eg⟩:=bo.2 aQ
  refine .cond (fun ar=>by rw [dY] at ar; simp at ar) fun _=>(U2 h av ao (by omega) hm aQ).bind fun cD cX=> ?_
  have hw:cD.2.2=0∧cD.2.1= !b8.1∧ (cD.2.1=true→jv s k l cD.1=some z):=by
   by_cases qp:iN (ig s z.b2) (ju s k l z)
   ·rw [cX.1 qp,eg.2 qp]; exact⟨rfl,rfl,fun h=>by cases h⟩
   ·obtain⟨q,e,hq⟩:=cX.2 qp
    have:b8.1=false:=by rw [Bool.eq_false_iff]; exact fun h=>qp (eg.1 h)
    rw [e,this]; exact⟨rfl,rfl,fun _=>TG h av aQ ao hm hq⟩
  obtain⟨eE,fN,hx⟩:=hw
  refine .cond (fun ar=> ?_) fun _=> .eq (Lj h av aq _) (.cond (fun ar=> ?_) fun _=> ?_)
  ·rw [eE,fN] at ar; cases b8.1 <;> simp at ar
  ·rw [Bool.and_eq_true] at ar
   rw [hx ar.1] at ar
   simp [xj] at ar
  refine .eq (a:=cB.take 4) (by unfold q0; rw [if_pos ⟨by omega,by omega,by omega⟩]; congr 1; simp only [List.drop_zero,Int.toNat_zero,Nat.sub_zero]; rw [show(min (cB.length:Int) 4).toNat=min cB.length 4 by omega]; rw [List.take_eq_take_iff]; omega) ?_
  have aaJ:(cB.take 4).length≤4:=by rw [List.length_take]; omega
  refine .eq (iy _ _ (by simp only [List.length_nil]; omega) (by omega)) ((SR _ Bu).bind fun g4 oM=> .eq (iy _ _ (by simp only [List.nil_append,List.length_cons,List.length_nil]; omega) (by omega)) ?_)
  generalize Io: [] ++ cB.take 4 ++ [g4.1]=bq
  have aaK:bq.length≤5:=by rw [← Io]; simp only [List.nil_append,List.length_append,List.length_cons,List.length_nil]; omega
  refine .bind (P:=fun e=> ∃ a,e= .inl a) (bg.DI bq.length (fun j st=>st=(j:Int)) (by omega) rfl (fun j st aE hs=> ?_) (fun st hs=> ?_)) fun gz ZM=> ?_
  ·subst hs
   refine .cond (fun _=> ?_) (fun ar=>by simp at ar; omega)
   refine .idx rfl aE ((S0 h av (ao.ok z hm).eN _).bind fun ib pE=> ?_)
   refine .bind (P:=fun cL=> ∀ c j,c < (ax s.bm k).bx.length→j < 128→bL (bD cL.2.2 c) j=(bL (bD ib c) j && decide ((j:Int) < eC (ax (ax s.bm k).bx c)))) (bg.DI (ax s.bm k).bx.length (fun a st=>st.1=(a:Int)∧ ∀ c j,c < 4→j < 128→bL (bD st.2 c) j=if c < a then(bL (bD ib c) j && decide ((j:Int) < eC (ax (ax s.bm k).bx c))) else bL (bD ib c) j) (by omega) ⟨rfl,fun c j _ _=>rfl⟩ (fun a st bn hs=> ?_) (fun st hs=> ?_)) fun cL ZN=> ?_
   ·obtain⟨ie,v⟩:=st
    obtain⟨f1,f2⟩:=hs
    simp only at f1 f2
    subst f1
    refine .cond (fun _=> ?_) (fun ar=>by simp at ar; omega)
    have hS:=t4 _ (show ax (ax s.bm k).bx a∈ (ax s.bm k).bx by rw [ey _ bn]; exact List.getElem_mem bn)
    have AQ:a < 4:=by omega
    refine .idx rfl AQ ((Sf h bn hS).bind fun jJ ZO=> ?_)
    subst ZO
    have hb:=hS.eC
    refine(Dd _ _ (by omega) (by omega)).bind fun oG xh=> .idx rfl AQ (.ret ⟨ew (by omega),fun c j ar aE=> ?_⟩)
    rw [gD _ _ AQ]
    by_cases Pt:c=a
    ·subst Pt
     rw [if_pos rfl,if_pos (show c < c + 1 by omega),xh j aE,f2 c j ar aE,if_neg (Nat.lt_irrefl c)]
    ·rw [if_neg Pt,f2 c j ar aE]
     by_cases cw:c < a
     ·rw [if_pos cw,if_pos (show c < a + 1 by omega)]
     ·rw [if_neg cw,if_neg (show ¬ c < a + 1 by omega)]
   ·obtain⟨ie,v⟩:=st
    obtain⟨f1,f2⟩:=hs
    simp only at f1 f2
    subst f1
    refine .cond (fun ar=>by simp at ar) fun _=> .ret fun c j ar aE=> ?_
    simp only
    rw [f2 c j (by omega) aE,if_pos ar]
   ·obtain⟨ti,EI⟩:=Yy h av aQ (ao.ok z hm).eN ZN pE
    refine .eq (Lj h av aq _) (.cond (fun ar=> ?_) fun _=> .ret (ew (by omega)))
    exfalso
    rw [Bool.and_eq_true] at ar
    obtain⟨c,az,a5⟩:=S5 h av aQ ao hm (eg.1 ar.1) ti EI
    rw [az] at ar
    simp [xj,a5] at ar
  ·subst hs
   exact .cond (fun ar=>by simp at ar) fun _=> .ret ⟨_,rfl⟩
  ·obtain⟨a,rfl⟩:=ZM
   simp only [Sum.elim_inl]
   exact .ret ⟨ew (by omega),oM⟩
 ·obtain⟨rW,rV⟩:=st
  obtain⟨aA,Bu⟩:=hs
  simp only at aA Bu
  subst aA
  exact .cond (fun ar=>by simp at ar) fun _=> .ret ⟨_,rfl⟩
 obtain⟨a,rfl⟩:=ZL
 simp only [Sum.elim_inl]
 exact .eq S1 (.ret rfl)
theorem Rj (J ag:List (BitVec 8)) (aT:Int) (cB:List (Vector ak 4)):x9 [] J ag aT cB (fun r=>r.1=true):=(Rw [] J ag aT cB).run
end Go.Proofs.YtmnggbjcnoffeaaGreat
