/-
  The library of the decompiler, as far as it is needed here. Conditions: none.
-/
import Derived.Lib.AppendZerosOnto
import Derived.Lib.Overlaps
import Derived.MapKept
import Derived.Test.YtmnggbjcnoffeaaGreatMl0
namespace Gv
open Go
set_option linter.unusedVariables false
set_option linter.unusedSimpArgs false
section
variable {c:dh} {E:List (Nat × I)} {L:List aO} {ops:Array Oper} {Q:Exit→Act→World→Prop}
variable {d:Option Tmp} {ty:TypeId} {pos:String} {af:Array Edge} {g:Option (Nat × Bool)} {x y:Operand} {t t2:TypeId}
theorem aj.o8 {α:Type} [ai α] {rest:List Oper} {bb e n:Nat} {z:α} {r:List α} {bq:List (Nat × Operand)} (hu:c.P.underlying t=some (.slice e)) (fC:bA c.P e α) (gB:cQ c.P e z) (hs:Nat.beq (ai.size α) 0=false) (aR:Nat.ble (n * ai.size α) 16777216=true)
 (a8:na c E L (List.replicate n z) bq r) (kY:Nat.blt bb c.n=true) (k:∀ p,aj c ops Q rest ((bb,.eq (a0 p r.length n)) :: E) (⟨p,.row e r n⟩ :: L)):
 aj c ops Q (⟨some bb,.buildSlice t n bq.toArray,ty,pos,af,none⟩ :: rest) E L:=fun a W s=>by
 obtain⟨gp,dX,ef,dI,qm⟩:=gB.zero
 have mI:gp.size=ai.size α:=by
  obtain⟨i2,aa,ae⟩:=fC.info
  rw [ef] at aa; cases aa; exact ae
 have fr:ai.size α≠0:=fun h=>by rw [h] at hs; cases hs
 have pv:=yQ (qm (aP L ++ c.b5) W) n fr
 obtain⟨dK,aD,aV,a1⟩:=a8.run a W s _ pv
 have hlen:r.length=n:=by rw [a1]; simp
 have hm:(bq.toArray.map fun(x:Nat × Operand)=>(x.1,a.eval x.2)).toList=bq.map fun(i,x)=>(i,a.eval x):=by simp
 have Ya:=Nat.le_of_ble_eq_true aR
 refine h6 rfl (R:=fun v W'=>v= .slice (some ⟨W.heap.size,0,none⟩) n n∧W'=W.alloc (.cells dK e)) (.l5 (v:= .slice (some ⟨W.heap.size,0,none⟩) n n) (W':=W.alloc (.cells dK e)) ?_ ⟨rfl,rfl⟩) fun v W' ⟨aa,ae⟩=> ?_
 ·simp only [execOp,Instr.buildSlice,Sem.run_bind,run_underlying hu,Result.andThen_ok,Go.sizeOf,typeInfo,run_program,ef,Sem.run_pure,mI]
  rw [if_neg (by omega)]
  try simp only [Sem.run_pure,Result.andThen_ok,Sem.run_bind]
  by_cases bW:n * ai.size α=0
  ·have s0:n=0:=by
    rcases Nat.mul_eq_zero.1 bW with h | h
    ·exact h
    ·exact absurd h fr
   subst s0
   simp only [Nat.zero_mul,if_true,Sem.run_pure,Result.andThen_ok]
   try simp only [Nat.zero_mul] at aD
   have jN:((Array.range 0).map (fun x=>(#[]:Array Value)[x % (#[]:Array Value).size]!))=((Array.range 0).map (dX.cells[· % dX.cells.size]!)):=by simp
   simp only [pure_bind]
   rw [jN,hm,aD]
   simp [newRow]
  ·simp only [bW,if_false,Sem.run_bind,zeroValue,typeInfo,run_program,Result.andThen_ok,ef,dI,Sem.run_pure]
   rw [hm,aD]
   simp [newRow]
 ·subst aa ae
  have At:n≤maxLen:=by
   have:n * 1≤n * ai.size α:=Nat.mul_le_mul_left _ (by omega)
   have:maxLen=9223372036854775807:=rfl
   omega
  have eV:dK.size=n * ai.size α:=by have:=aV.1; rw [hlen] at this; simpa using this
  have ca:=s.alloc (o:= .cells dK e) (cp:= .row e r n) ⟨dK,rfl,eV,by omega,At,by
   have bo:=aV.1
   rw [← bo,List.take_length]
   exact aV⟩
  refine k (some W.heap.size) _ _ (ca.put (τ:= .eq (a0 (some W.heap.size) r.length n)) (by simpa using kY) ?_)
  show _=_
  rw [hlen]; rfl
theorem aj.k6 {l:List Oper} {key:Option Nat} {n m cap:Nat} (fo:Nat) (ao:look E fo=some (.eq (a0 key n cap))) (aR:n=m) (k:aj c ops Q l ((fo,.eq (a0 key m cap)) :: E) L):aj c ops Q l E L:=fun a W s=>by
 subst aR
 refine k a W (s.less fun t τ h=> ?_)
 simp only [look] at h
 by_cases e:Nat.beq fo t=true
 ·rw [e] at h
  simp only [cond_true] at h
  have:=fc.1 e
  subst this
  exact⟨τ,by rw [ao,h],fun _ _ _ h=>h⟩
 ·simp only [Bool.not_eq_true] at e
  rw [e] at h
  exact⟨τ,h,fun _ _ _ h=>h⟩
end
theorem mv {α:Type} {xs r:List α} {k:Nat} {v:α} (h:hk xs k v=r):xs.length=r.length:=by rw [← h]; simp [hk]
theorem KL {α:Type} [Inhabited α] {xs r:List α} {lo n:Nat} (aR:lo + n≤xs.length) (h:nM xs lo n=r):xs.length=r.length:=by rw [← h]; simp [nM]; omega
theorem FA {α:Type} {b:Nat} {r:List α} (h:((gu b [] ([]:List α)).bind fun y=>some y)=some r):r= []:=by
 obtain⟨y,aa,ae⟩:=bind_some h
 obtain⟨_,_,aD⟩:=K5 aa
 rw [aD] at ae
 exact(aG ae).symm
end Gv
namespace Gv
open Go
set_option linter.unusedVariables false
set_option linter.unusedSimpArgs false
def jH:Value:= .slice none 0 0
def blank:List (Nat × Value)→List Value→List Value
 | [],cs=>cs
 | o :: r,cs=>blank r (cs.set o.1 jH)
theorem yE:∀ {os:List (Nat × Value)} {cs:List Value},(blank os cs).length=cs.length
 | [],_=>rfl
 | o :: r,cs=>by rw [blank,yE,List.length_set]
theorem pO:∀ {os:List (Nat × Value)} {cs:List Value} (i:Nat),(blank os cs)[i]? =if os.any (fun h=>Nat.beq h.1 i)=true then cs[i]?.map (fun _=>jH) else cs[i]?
 | [],_,i=>by simp [blank]
 | o :: r,cs,i=>by
   rw [blank,pO i,List.any_cons]
   by_cases h:o.1=i
   ·subst h
    simp only [Nat.beq_refl,Bool.true_or,if_true,List.getElem?_set]
    by_cases ao:o.1 < cs.length
    ·simp [ao]
    ·simp [ao]
   ·have hb:Nat.beq o.1 i=false:=by
     cases hb:Nat.beq o.1 i
     ·rfl
     ·exact absurd (fc.1 hb) h
    rw [hb,Bool.false_or,List.getElem?_set_ne h]
def sA (os:List (Nat × Value)) (off n:Nat):Bool:=os.all fun h=>Nat.blt h.1 off || Nat.ble (off + n) h.1
theorem KP {os:List (Nat × Value)} {off n i:Nat} (h:sA os off n=true) (aa:off≤i) (ae:i < off + n):os.any (fun h=>Nat.beq h.1 i)=false:=by
 rw [List.any_eq_false]
 intro x aq hb
 have aD:=List.all_eq_true.1 h x aq
 have aV:=fc.1 hb
 simp only [Bool.or_eq_true,Nat.blt_eq,Nat.ble_eq] at aD
 omega
theorem SH {os:List (Nat × Value)} {off n:Nat} {cs:List Value} (h:sA os off n=true):((blank os cs).drop off).take n=(cs.drop off).take n:=by
 apply List.ext_getElem?
 intro i
 simp only [List.getElem?_take,List.getElem?_drop]
 split
 ·rw [pO,KP h (by omega) (by omega)]; rfl
 ·rfl
theorem tH {cs ds:List Value} {off:Nat} (h:off + ds.length≤cs.length) (i:Nat):(fR cs off ds)[i]? =if i < off then cs[i]? else if i < off + ds.length then ds[i - off]? else cs[i]? :=by
 have aa:(cs.take off).length=off:=by rw [List.length_take]; omega
 unfold fR
 rw [List.append_assoc]
 by_cases an:i < off
 ·rw [if_pos an,List.getElem?_append_left (by omega),List.getElem?_take,if_pos an]
 ·rw [if_neg an,List.getElem?_append_right (by omega),aa]
  by_cases ae:i < off + ds.length
  ·rw [if_pos ae,List.getElem?_append_left (by omega)]
  ·rw [if_neg ae,List.getElem?_append_right (by omega),List.getElem?_drop]
   congr 1; omega
theorem RD {os:List (Nat × Value)} {off:Nat} {cs ds:List Value} (h:sA os off ds.length=true) (hs:off + ds.length≤cs.length):blank os (fR cs off ds)=fR (blank os cs) off ds:=by
 apply List.ext_getElem?
 intro i
 rw [pO,tH hs,tH (by rw [yE]; exact hs),pO]
 by_cases aa:i < off
 ·simp only [if_pos aa]
 ·simp only [if_neg aa]
  by_cases ae:i < off + ds.length
  ·simp only [if_pos ae,KP h (Nat.not_lt.1 aa) ae]; rfl
  ·simp only [if_neg ae]
def ss (os:List (Nat × Value)) (o:Nat) (u:Value):List (Nat × Value):=
 bif os.any (fun h=>Nat.beq h.1 o) then os.map (fun h=>bif Nat.beq h.1 o then(o,u) else h) else(o,u) :: os
theorem RQ {os:List (Nat × Value)} {o:Nat} {u:Value} {h:Nat × Value} (hm:h∈ss os o u):h=(o,u)∨ (h∈os∧h.1≠o):=by
 unfold ss at hm
 cases hb:os.any (fun h=>Nat.beq h.1 o)
 ·rw [hb] at hm
  simp only [cond_false] at hm
  rcases List.mem_cons.1 hm with hm | hm
  ·exact .inl hm
  ·refine .inr ⟨hm,fun e=> ?_⟩
   have:=List.any_eq_false.1 hb h hm
   exact this (fc.2 e)
 ·rw [hb] at hm
  simp only [cond_true] at hm
  obtain⟨x,aq,he⟩:=List.mem_map.1 hm
  cases aa:Nat.beq x.1 o
  ·rw [aa] at he
   simp only [cond_false] at he
   subst he
   exact .inr ⟨aq,fun e=>by rw [fc.2 e] at aa; cases aa⟩
  ·rw [aa] at he
   exact .inl he.symm
theorem RR {os:List (Nat × Value)} {o i:Nat} {u:Value} :(ss os o u).any (fun h=>Nat.beq h.1 i)=(Nat.beq o i || os.any (fun h=>Nat.beq h.1 i)):=by
 unfold ss
 cases hb:os.any (fun h=>Nat.beq h.1 o)
 ·simp only [cond_false,List.any_cons]
 ·simp only [cond_true,List.any_map]
  rw [Bool.eq_iff_iff,Bool.or_eq_true,List.any_eq_true,List.any_eq_true]
  constructor
  ·rintro ⟨x,aq,he⟩
   simp only [Function.comp] at he
   cases aa:Nat.beq x.1 o
   ·rw [aa] at he
    exact .inr ⟨x,aq,he⟩
   ·rw [aa] at he
    exact .inl he
  ·rintro (h | ⟨x,aq,he⟩)
   ·obtain⟨x,aq,aa⟩:=List.any_eq_true.1 hb
    exact⟨x,aq,by simp only [Function.comp,aa,cond_true]; exact h⟩
   ·refine⟨x,aq,?_⟩
    simp only [Function.comp]
    cases aa:Nat.beq x.1 o
    ·exact he
    ·have aA:=fc.1 aa; have aU:=fc.1 he
     simp only [cond_true]; exact fc.2 (by omega)
def m8 (os:List (Nat × Value)) (o:Nat):List (Nat × Value):=os.filter (fun h=> !Nat.beq h.1 o)
theorem RS {os:List (Nat × Value)} {o i:Nat} :(m8 os o).any (fun h=>Nat.beq h.1 i)=(!(Nat.beq o i) && os.any (fun h=>Nat.beq h.1 i)):=by
 rw [Bool.eq_iff_iff]
 simp only [List.any_eq_true,Bool.and_eq_true,Bool.not_eq_true',m8,List.mem_filter]
 constructor
 ·rintro ⟨x,⟨aa,ae⟩,aD⟩
  refine⟨?_,x,aa,aD⟩
  cases hb:Nat.beq o i
  ·rfl
  ·have:=fc.1 hb; have aV:=fc.1 aD
   rw [aV,← this,Nat.beq_refl] at ae; cases ae
 ·rintro ⟨bW,x,aa,aD⟩
  refine⟨x,⟨aa,?_⟩,aD⟩
  cases hb:Nat.beq x.1 o
  ·rfl
  ·have:=fc.1 hb; have aV:=fc.1 aD
   rw [← this,aV,Nat.beq_refl] at bW; cases bW
def kL {α:Type} [ai α] (A:List Nat) (W:World) (cs:List Value) (x:α) (os:List (Nat × Value)):Prop:=ai.rep A W (blank os cs) x∧ ∀ h∈os,cs[h.1]? =some h.2∧h.2.oneCell'=true
theorem kL.len {α:Type} [ai α] {A W} {cs:List Value} {x:α} {os:List (Nat × Value)} (h:kL A W cs x os):cs.length=ai.size α:=by rw [← yE (os:=os)]; exact ai.len h.1
theorem kL.mono {α:Type} [ai α] {A W c7 W'} {cs:List Value} {x:α} {os:List (Nat × Value)} (e:Ext A W c7 W') (h:kL A W cs x os):kL c7 W' cs x os:=⟨ai.mono e h.1,h.2⟩
theorem kL.one {α:Type} [ai α] {A W} {cs:List Value} {x:α} {os:List (Nat × Value)} (h:kL A W cs x os):∀ u∈cs,u.oneCell'=true:=by
 intro u hu
 obtain⟨i,an⟩:=List.mem_iff_getElem?.1 hu
 by_cases hb:os.any (fun h=>Nat.beq h.1 i)=true
 ·obtain⟨o,bp,he⟩:=List.any_eq_true.1 hb
  have he:=fc.1 he
  obtain⟨aa,ae⟩:=h.2 o bp
  rw [he,an] at aa
  cases aa; exact ae
 ·have aa:=pO (os:=os) (cs:=cs) i
  rw [if_neg hb,an] at aa
  exact ai.one h.1 u (List.mem_of_getElem? aa)
def dM.cz {α:Type} [ai α] (x:α) (os:List (Nat × Value)):dM where
 holds A W o:= ∃ cs T,o= .cells cs T (0,0)∧kL A W cs.toList x os
 nf:=False
 mono e h:=let⟨cs,T,bp,aQ⟩:=h; ⟨cs,T,bp,aQ.mono e⟩
def I.IE {α:Type} [ai α] (x:α) (os:List (Nat × Value)):I where
 holds A W v:=shaped (ai.agg α) v∧kL A W v.cells.toList x os
 mono e h:=⟨h.1,h.2.mono e⟩
structure fJ where
 v:Value
instance:ai fJ where
 size:=1
 agg:=false
 rep _ _ cs x:=cs= [x.v]∧x.v.oneCell'=true
 len h:=by rw [h.1]; rfl
 one h:=by rw [h.1]; intro u hu; rw [List.mem_singleton.1 hu]; exact h.2
 flat _:=rfl
 mono _ h:=h
theorem NR {A W v} {u:Value} :(I.of (⟨u⟩:fJ)).holds A W v↔v=u∧u.oneCell'=true:=by
 constructor
 ·rintro ⟨aa,ae,aD⟩
  have aa:v.oneCell'=true:=aa
  exact⟨nF aa ae,aD⟩
 ·rintro ⟨rfl,h⟩
  exact⟨h,by show v.cells.toList= [v]∧_; rw [nG h]; exact⟨rfl,h⟩⟩
theorem bA.ex {P:Program} {t:TypeId} {γ:Type} [ai γ] (h:bA P t (List γ)):bA P t fJ:=⟨h.size,h.OP⟩
theorem iA {key:Option Nat} {n cap:Nat} :(a0 key n cap).oneCell'=true:=by cases key <;> rfl
theorem T4 {A W} {γ:Type} [ai γ]:ai.rep A W [jH] ([]:List γ):=⟨jH,rfl,.inl ⟨rfl,rfl⟩⟩
theorem Ly {α γ:Type} [ai α] [ai γ] {A W} {cs ds:List Value} {x:α} {v:γ} {os:List (Nat × Value)} (l:aL α γ) (h:kL A W cs x os) (hd:ai.rep A W ds v) (bn:sA os l.off (ai.size γ)=true):kL A W (fR cs l.off ds) (l.set x v) os:=by
 have aa:=h.len
 have e3:=l.gl
 have ao:=ai.len hd
 refine⟨?_,fun o hm=> ?_⟩
 ·have bo:=l.kF h.1 hd
  rw [RD (by rw [ao]; exact bn) (by rw [ao]; omega)]
  simpa [fR,ao] using bo
 ·refine⟨?_,(h.2 o hm).2⟩
  rw [tH (by rw [ao]; omega)]
  have cX:=List.all_eq_true.1 bn o hm
  simp only [Bool.or_eq_true,Nat.blt_eq,Nat.ble_eq] at cX
  rw [ao]
  by_cases eP:o.1 < l.off
  ·rw [if_pos eP]; exact(h.2 o hm).1
  ·rw [if_neg eP,if_neg (by omega)]; exact(h.2 o hm).1
theorem K9 {α γ:Type} [ai α] [ai γ] {A W} {cs:List Value} {x:α} {u:Value} {os:List (Nat × Value)} (l:aL α (List γ)) (h:kL A W cs x os) (hu:u.oneCell'=true):kL A W (fR cs l.off [u]) (l.set x []) (ss os l.off u):=by
 have aa:=h.len
 have e3:l.off + 1≤ai.size α:=l.gl
 refine⟨?_,fun o hm=> ?_⟩
 ·have bo:ai.rep A W ((blank os cs).take l.off ++ [jH] ++ (blank os cs).drop (l.off + 1)) (l.set x []):=l.kF h.1 (T4 (γ:=γ))
  have e:blank (ss os l.off u) (fR cs l.off [u])=fR (blank os cs) l.off [jH]:=by
   apply List.ext_getElem?
   intro i
   rw [pO,tH (by simp; omega),tH (by rw [yE]; simp; omega),pO]
   rw [RR]
   by_cases an:l.off=i
   ·subst an
    simp
   ·have hb:Nat.beq l.off i=false:=by
     cases hb:Nat.beq l.off i
     ·rfl
     ·exact absurd (fc.1 hb) an
    rw [hb]
    simp only [Bool.false_or,List.length_singleton]
    by_cases ae:i < l.off
    ·simp only [if_pos ae]
    ·have fO: ¬ i < l.off + 1:=by omega
     simp only [if_neg ae,if_neg fO]
  rw [e]
  simpa [fR] using bo
 ·rw [tH (by simp; omega)]
  rcases RQ hm with rfl | ⟨aD,dz⟩
  ·exact⟨by simp,hu⟩
  ·
   simp only [List.length_singleton]
   refine⟨?_,(h.2 o aD).2⟩
   by_cases eP:o.1 < l.off
   ·rw [if_pos eP]; exact(h.2 o aD).1
   ·rw [if_neg eP,if_neg (by omega)]; exact(h.2 o aD).1
theorem La {α γ:Type} [ai α] [ai γ] {A W} {cs:List Value} {x:α} {u:Value} {xs:List γ} {os:List (Nat × Value)} (l:aL α (List γ)) (h:kL A W cs x os) (hm:(l.off,u)∈os) (hs:nx A W u xs):kL A W cs (l.set x xs) (m8 os l.off):=by
 have aa:=h.len
 have e3:l.off + 1≤ai.size α:=l.gl
 have Y2:=(h.2 _ hm).1
 refine⟨?_,fun o bp=>h.2 o (List.mem_filter.1 bp).1⟩
 have bo:ai.rep A W ((blank os cs).take l.off ++ [u] ++ (blank os cs).drop (l.off + 1)) (l.set x xs):=l.kF h.1 (ds:= [u]) (g:=xs) ⟨u,rfl,hs⟩
 have e:blank (m8 os l.off) cs=fR (blank os cs) l.off [u]:=by
  apply List.ext_getElem?
  intro i
  rw [pO,tH (by rw [yE]; simp; omega),pO,RS]
  by_cases an:l.off=i
  ·subst an
   simp [Y2]
  ·have hb:Nat.beq l.off i=false:=by
    cases hb:Nat.beq l.off i
    ·rfl
    ·exact absurd (fc.1 hb) an
   rw [hb]
   simp only [Bool.not_false,Bool.true_and,List.length_singleton]
   by_cases ae:i < l.off
   ·simp only [if_pos ae]
   ·have fO: ¬ i < l.off + 1:=by omega
    simp only [if_neg ae,if_neg fO]
 rw [e]
 simpa [fR] using bo
section
variable {c:dh} {E:List (Nat × I)} {L:List aO} {ops:Array Oper} {Q:Exit→Act→World→Prop}
variable {d:Option Tmp} {ty:TypeId} {pos:String} {af:Array Edge} {g:Option (Nat × Bool)} {x y:Operand} {t t2:TypeId}
theorem bS.wj {a:Act} {W:World} (s:bS c E L a W) {i:Nat} {key:Option Nat} {cp cp':dM} (au:L[i]? =some ⟨key,cp⟩) (h:∀ o,cp.holds (aP L ++ c.b5) W o→cp'.holds (aP L ++ c.b5) W o) (aR:cp.nf→cp'.nf):bS c E (L.set i ⟨key,cp'⟩) a W:=by
 have g5:aP (L.set i ⟨key,cp'⟩)=aP L:=wh (e:=⟨key,cp⟩) (cp:=cp') au
 exact
 {defers:=s.defers
  size:=s.size
  env:=fun t τ ao=>by rw [g5]; exact s.env t τ ao
  dD:=s.dD
  own:=fun e he=>by
   rw [g5]
   obtain⟨j,aE⟩:=List.mem_iff_getElem?.1 he
   rw [List.getElem?_set] at aE
   split at aE
   ·split at aE
    ·simp only [Option.some.injEq] at aE
     subst aE
     have bp:=s.own _ (List.mem_of_getElem? au)
     cases key with
     | none=>exact aR bp
     | some p=>obtain⟨o,aa,ae⟩:=bp; exact⟨o,aa,h _ ae⟩
    ·cases aE
   ·exact s.own e (List.mem_of_getElem? aE)
  nodup:=by rw [g5]; exact s.nodup
  lt:=by rw [g5]; exact s.lt
  fY:=by rw [g5]; exact s.fY
  eU:=by rw [g5]; exact s.eU }
theorem aj.nQ {l:List Oper} {p:Nat} {β:Type} [ai β] {b:β} (i:Nat) (au:L[i]? =some ⟨some p,.cz b []⟩) (k:aj c ops Q l E (L.set i ⟨some p,.var b⟩)):aj c ops Q l E L:=fun a W s=>
 k a W (s.wj au (fun o ⟨cs,T,aa,ae⟩=>⟨cs,T,aa,ae.1⟩) id)
theorem ad.nQ {z:Exit} {p:Nat} {β:Type} [ai β] {b:β} (i:Nat) (au:L[i]? =some ⟨some p,.cz b []⟩) (k:ad c Q z E (L.set i ⟨some p,.var b⟩)):ad c Q z E L:=fun a W s=>
 k a W (s.wj au (fun o ⟨cs,T,aa,ae⟩=>⟨cs,T,aa,ae.1⟩) id)
theorem ah.nQ {z:Code} {p:Nat} {β:Type} [ai β] {b:β} (i:Nat) (au:L[i]? =some ⟨some p,.cz b []⟩) (k:ah c Q z E (L.set i ⟨some p,.var b⟩)):ah c Q z E L:=fun a W s=>
 k a W (s.wj au (fun o ⟨cs,T,aa,ae⟩=>⟨cs,T,aa,ae.1⟩) id)
def GP:Option Value→Bool
 | some (.slice none 0 0)=>true
 | _=>false
theorem KQ {v:Option Value} (h:GP v=true):v=some jH:=by
 unfold GP at h
 split at h
 ·rfl
 ·cases h
def jO (P:Program) (t:TypeId) (hs:List Nat):Prop:=((P.info? t).bind (·.zero)).any (fun v=>hs.all fun o=>GP v.cells.toList[o]?)=true
theorem Fx:∀ {os:List (Nat × Value)} {cs:List Value},(∀ h∈os,cs[h.1]? =some jH)→blank os cs=cs
 | [],_,_=>rfl
 | o :: r,cs,h=>by
   have aa:=h o (by simp)
   have e:cs.set o.1 jH=cs:=by
    apply List.ext_getElem?
    intro i
    rw [List.getElem?_set]
    split
    ·rename_i he; subst he
     have:=(List.getElem?_eq_some_iff.1 aa).1
     rw [if_pos this,aa]
    ·rfl
   rw [blank,e]
   exact Fx fun x aq=>h x (by simp [aq])
theorem aj.oX {rest:List Oper} {bb:Nat} {α:Type} [ai α] {z:α} (hs:List Nat) (rR:jO c.P t hs) (gB:cQ c.P t z) (aR:Nat.blt bb c.n=true)
 (k:∀ p,aj c ops Q rest ((bb,.eq (.pointer (some ⟨p,0,none⟩))) :: E) (⟨some p,.cz z (hs.map fun o=>(o,jH))⟩ :: L)):aj c ops Q (⟨some bb,.alloc t,ty,pos,af,none⟩ :: rest) E L:=fun a W s=>by
 obtain⟨i,dX,aa,ae,aD⟩:=gB.zero
 have cC:∀ o∈hs,dX.cells.toList[o]? =some jH:=fun o bp=>by
  unfold jO at rR
  rw [aa] at rR
  simp only [Option.bind_some,ae,Option.any_some] at rR
  exact KQ (List.all_eq_true.1 rR o bp)
 have OX:∀ h∈hs.map (fun o=>(o,jH)),dX.cells.toList[h.1]? =some h.2:=fun h hm=>by
  obtain⟨o,bp,rfl⟩:=List.mem_map.1 hm
  exact cC o bp
 refine h6 rfl (R:=fun v W'=>v= .pointer (some ⟨W.heap.size,0,none⟩)∧W'=W.alloc (.cells dX.cells t)) (.l5 ?_ ⟨rfl,rfl⟩) fun v W' ⟨aX,hw⟩=> ?_
 ·simp [execOp,Instr.alloc,zeroValue,typeInfo,aa,ae,newVar,newRow]
 ·subst aX
  subst hw
  refine k _ _ _ ((s.alloc (cp:= .cz z (hs.map fun o=>(o,jH))) ⟨dX.cells,t,rfl,?_,fun h hm=>⟨OX h hm,by obtain⟨o,_,rfl⟩:=List.mem_map.1 hm; rfl⟩⟩).put (by simpa using aR) rfl)
  rw [Fx fun h hm=>by rw [OX h hm]; obtain⟨o,_,rfl⟩:=List.mem_map.1 hm; rfl]
  exact(aD _ _).2
theorem aj.Xv {rest:List Oper} {bb:Nat} {α:Type} [ai α] {z:α} {os:List (Nat × Value)} (aq:bc c E L x (.IE z os)) (aR:Nat.blt bb c.n=true)
 (k:∀ p,aj c ops Q rest ((bb,.eq (.pointer (some ⟨p,0,none⟩))) :: E) (⟨some p,.cz z os⟩ :: L)):aj c ops Q (⟨some bb,.box t x,ty,pos,af,none⟩ :: rest) E L:=fun a W s=>by
 refine h6 rfl (R:=fun v W'=>v= .pointer (some ⟨W.heap.size,0,none⟩)∧W'=W.alloc (.cells (a.eval x).cells t)) (.l5 ?_ ⟨rfl,rfl⟩) fun v W' ⟨aX,hw⟩=> ?_
 ·simp [execOp,Instr.box,newVar,newRow]
 ·subst aX
  subst hw
  obtain⟨aa,ae⟩:=aq a W s
  exact k _ _ _ ((s.alloc (cp:= .cz z os) ⟨_,t,rfl,ae⟩).put (by simpa using aR) rfl)
theorem CW {t:TypeId} {i p o:Nat} {β γ:Type} [ai β] [ai γ] {b:β} {os:List (Nat × Value)} (l:aL β γ) {r:γ} (eh:bA c.P t γ) (aq:bc c E L x (.eq (.pointer (some ⟨p,o,none⟩))))
 (au:L[i]? =some ⟨some p,.cz b os⟩) (bp:o=l.off) (aQ:l.get b=r) (bn:sA os l.off (ai.size γ)=true):b7 c E L ⟨d,.load t x,ty,pos,af,g⟩ (.of r):= .pure fun a W s=>by
 subst bp
 subst aQ
 obtain⟨jy,eu,cs,T,rfl,fL⟩:=s.own _ (List.mem_of_getElem? au)
 have aa:cs.toList.length=ai.size β:=fL.len
 have a1:=l.il fL.1
 rw [SH bn] at a1
 obtain⟨v,ae,aD⟩:=tx (A:=aP L ++ c.b5) eh eu (by have:=l.gl; simp at aa; omega) a1
 refine⟨v,?_,aD⟩
 have aV:a.eval x=_:=aq a W s
 simp [execOp,Instr.loadAt,Instr.sureAddr,aV,ae]
theorem T5 {cs:List Value} {o:Nat} {u:Value} (h:cs[o]? =some u):(cs.drop o).take 1= [u]:=by
 apply List.ext_getElem?
 intro i
 rw [List.getElem?_take,List.getElem?_drop]
 cases i with
 | zero=>simpa using h
 | succ i=>simp
theorem iH {t:TypeId} {i p o q:Nat} {β γ:Type} [ai β] [ai γ] {b:β} {os:List (Nat × Value)} {u:Value} (eh:bA c.P t (List γ)) (aq:bc c E L x (.eq (.pointer (some ⟨p,o,none⟩))))
 (au:L[i]? =some ⟨some p,.cz b os⟩) (hq:os[q]? =some (o,u)):b7 c E L ⟨d,.load t x,ty,pos,af,g⟩ (.eq u):= .pure fun a W s=>by
 obtain⟨jy,eu,cs,T,rfl,fL,cC⟩:=s.own _ (List.mem_of_getElem? au)
 obtain⟨a1,hu⟩:=cC _ (List.mem_of_getElem? hq)
 have cw:o < cs.size:=by have:=(List.getElem?_eq_some_iff.1 a1).1; simpa using this
 obtain⟨v,ae,aD⟩:=tx (α:=fJ) (x:=⟨u⟩) (A:=aP L ++ c.b5) eh.ex eu (show o + 1≤cs.size by omega) ⟨T5 a1,hu⟩
 refine⟨v,?_,(NR.1 aD).1⟩
 have aV:a.eval x=_:=aq a W s
 simp [execOp,Instr.loadAt,Instr.sureAddr,aV,ae]
theorem aj.sx {t:TypeId} {rest:List Oper} {i p o:Nat} {β γ:Type} [ai β] [ai γ] {b b':β} {v:γ} {os:List (Nat × Value)} (l:aL β γ) (eh:bA c.P t γ) (aq:bc c E L x (.eq (.pointer (some ⟨p,o,none⟩))))
 (a6:bc c E L y (.of v)) (au:L[i]? =some ⟨some p,.cz b os⟩) (bp:o=l.off) (hb:l.set b v=b') (bn:sA os l.off (ai.size γ)=true)
 (k:aj c ops Q rest E (L.set i ⟨some p,.cz b' os⟩)):aj c ops Q (⟨none,.store t x y,ty,pos,af,none⟩ :: rest) E L:=fun a W s=>by
 subst bp
 subst hb
 obtain⟨jy,eu,cs,T,rfl,fL⟩:=s.own _ (List.mem_of_getElem? au)
 have aa:cs.toList.length=ai.size β:=fL.len
 have e3:=l.gl
 have aX:=a6 a W s
 have ae:=yp (A:=aP L ++ c.b5) eh eu (off:=l.off) (by simp at aa; omega) aX
 have aV:a.eval x=_:=aq a W s
 refine h6 rfl (R:=fun v W'=>W'=W.setRow p (fR cs.toList l.off (a.eval y).cells.toList).toArray) (.v8 ?_ rfl) fun v W' hw=> ?_
 ·simp [execOp,Instr.storeAt,Instr.sureAddr,aV,ae]
 ·subst hw
  exact k _ _ (s.store au eu ⟨_,T,rfl,by rw [List.toList_toArray]; exact Ly l fL aX.2 bn⟩)
theorem aj.jj {t:TypeId} {rest:List Oper} {i p o:Nat} {β γ:Type} [ai β] [ai γ] {b b':β} {u:Value} {os os':List (Nat × Value)} (l:aL β (List γ)) (eh:bA c.P t (List γ)) (aq:bc c E L x (.eq (.pointer (some ⟨p,o,none⟩))))
 (a6:bc c E L y (.eq u)) (hu:u.oneCell'=true) (au:L[i]? =some ⟨some p,.cz b os⟩) (bp:o=l.off) (hb:l.set b []=b') (j7:ss os o u=os')
 (k:aj c ops Q rest E (L.set i ⟨some p,.cz b' os'⟩)):aj c ops Q (⟨none,.store t x y,ty,pos,af,none⟩ :: rest) E L:=fun a W s=>by
 subst bp
 subst hb
 subst j7
 obtain⟨jy,eu,cs,T,rfl,fL⟩:=s.own _ (List.mem_of_getElem? au)
 have aa:cs.toList.length=ai.size β:=fL.len
 have e3:l.off + 1≤ai.size β:=l.gl
 have OY:a.eval y=u:=a6 a W s
 have aX:(I.of (⟨u⟩:fJ)).holds (aP L ++ c.b5) W (a.eval y):=NR.2 ⟨OY,hu⟩
 have ae:=yp (A:=aP L ++ c.b5) eh.ex eu (off:=l.off) (show l.off + 1≤cs.size by simp at aa; omega) aX
 have aV:a.eval x=_:=aq a W s
 have lO:(a.eval y).cells.toList= [u]:=by rw [OY,nG hu]
 rw [lO] at ae
 refine h6 rfl (R:=fun v W'=>W'=W.setRow p (fR cs.toList l.off [u]).toArray) (.v8 ?_ rfl) fun v W' hw=> ?_
 ·simp [execOp,Instr.storeAt,Instr.sureAddr,aV,ae]
 ·subst hw
  exact k _ _ (s.store au eu ⟨_,T,rfl,by rw [List.toList_toArray]; exact K9 l fL hu⟩)
theorem QX {P:Program} {W:World} {b off:Nat} {cur:Array Value} {T t:TypeId} {α:Type} [ai α] {v:Value} (ty:bA P t α)
 (hb:W.heap[b]? =some (.cells cur T (0,0))) (hs:off + ai.size α≤cur.size) (ao:v.cells.toList.length=ai.size α) (aa:∀ u∈v.cells.toList,u.oneCell'=true):
 (storeVar t ⟨b,off,none⟩ v).run P W= .ok () (W.setRow b (fR cur.toList off v.cells.toList).toArray):=by
 have ae:=run_storeCells_at P b off T v.cells.toList 0 cur W hb (by rw [ao]; omega) aa
 have eV:v.cells.size=ai.size α:=by simpa using ao
 simp only [Nat.add_zero] at ae
 simp only [storeVar,Sem.run_bind,ty.sizeOf,Result.andThen_ok,eV]
 simp only [ne_eq,not_true_eq_false,↓reduceIte,Sem.run_pure,Sem.run_bind,Result.andThen_ok]
 simpa [fR] using ae
theorem aj.qV {t:TypeId} {rest:List Oper} {i p:Nat} {β:Type} [ai β] {b b':β} {os os':List (Nat × Value)} (eh:bA c.P t β) (aq:bc c E L x (.eq (.pointer (some ⟨p,0,none⟩))))
 (a6:bc c E L y (.IE b' os')) (au:L[i]? =some ⟨some p,.cz b os⟩)
 (k:aj c ops Q rest E (L.set i ⟨some p,.cz b' os'⟩)):aj c ops Q (⟨none,.store t x y,ty,pos,af,none⟩ :: rest) E L:=fun a W s=>by
 obtain⟨jy,eu,cs,T,rfl,fL⟩:=s.own _ (List.mem_of_getElem? au)
 have aa:cs.toList.length=ai.size β:=fL.len
 obtain⟨az,a5⟩:=a6 a W s
 have ao:=a5.len
 have ae:=QX eh eu (off:=0) (by simp at aa; omega) ao a5.one
 have aV:a.eval x=_:=aq a W s
 have e:fR cs.toList 0 (a.eval y).cells.toList=(a.eval y).cells.toList:=by
  unfold fR
  rw [List.take_zero,List.nil_append,Nat.zero_add,ao,← aa,List.drop_length,List.append_nil]
 rw [e] at ae
 refine h6 rfl (R:=fun v W'=>W'=W.setRow p (a.eval y).cells.toList.toArray) (.v8 ?_ rfl) fun v W' hw=> ?_
 ·simp [execOp,Instr.storeAt,Instr.sureAddr,aV,ae]
 ·subst hw
  exact k _ _ (s.store au eu ⟨_,T,rfl,by rw [List.toList_toArray]; exact a5⟩)
theorem ff {p:Addr} (aq:bc c E L x (.eq (.pointer (some p)))):b7 c E L ⟨d,.nilCheck x,ty,pos,af,g⟩ (.eq (.pointer (some p))):= .pure fun a W s=>by
 have aV:a.eval x=_:=aq a W s
 exact⟨_,by simp [execOp,aV],rfl⟩
theorem zf {γ:Type} [ai γ] {r:γ} (aq:bc c E L x (.ptr r)):b7 c E L ⟨d,.nilCheck x,ty,pos,af,g⟩ (.ptr r):= .pure fun a W s=>by
 have hp:=aq a W s
 obtain⟨b,off,cur,T,gP,aV,a1⟩:=hp
 exact⟨_,by simp [execOp,aV],b,off,cur,T,gP,rfl,a1⟩
theorem bS.iX {a:Act} {W:World} (s:bS c E L a W) {i j p cap T:Nat} {key:Option Nat} {β γ:Type} [ai β] [ai γ] {b b':β} {xs:List γ} {os os':List (Nat × Value)} (l:aL β (List γ)) (fz:i≠j) (au:L[i]? =some ⟨some p,.cz b os⟩) (kC:L[j]? =some ⟨key,.row T xs cap⟩)
 (q:Nat) (hq:os[q]? =some (l.off,a0 key xs.length cap)) (hb:l.set b xs=b') (j7:m8 os l.off=os'):bS c E ((L.set j ⟨none,.dead⟩).set i ⟨some p,.cz b' os'⟩) a W:=by
 subst hb
 subst j7
 have av:=s.kill j
 have an:(L.set j ⟨none,.dead⟩)[i]? =some ⟨some p,.cz b os⟩:=by rw [List.getElem?_set_ne (fun e=>fz e.symm)]; exact au
 have kJ:=vE (L:=L) (i:=j) (cp:= .dead)
 have lN:nx (aP (L.set j ⟨none,.dead⟩) ++ c.b5) W (a0 key xs.length cap) xs:=by
  have bp:=s.own _ (List.mem_of_getElem? kC)
  cases key with
  | none=>exact .inl ⟨rfl,bp.1⟩
  | some p=>
    obtain⟨o,eu,cs,rfl,eV,aR,oI,aQ⟩:=bp
    obtain⟨aD,aV⟩:=Fo eV aR aQ
    refine .inr ⟨p,0,cap,cs,T,(0,0),rfl,s.yW kC,eu,aR,by omega,aD,?_⟩
    exact aV.mono (.drop fun k hm=>by
     rcases List.mem_append.1 hm with hm | hm
     ·exact List.mem_append.2 (.inl (kJ.subset hm))
     ·exact List.mem_append.2 (.inr hm))
 exact av.wj an (fun o ⟨cs,T,aa,ae⟩=>⟨cs,T,aa,La l ae (List.mem_of_getElem? hq) lN⟩) id
theorem aj.iX {nz:List Oper} {p cap T:Nat} {key:Option Nat} {β γ:Type} [ai β] [ai γ] {b b':β} {xs:List γ} {os os':List (Nat × Value)} (l:aL β (List γ)) (i j q:Nat) (fz:Nat.beq i j=false) (au:L[i]? =some ⟨some p,.cz b os⟩) (kC:L[j]? =some ⟨key,.row T xs cap⟩)
 (hq:os[q]? =some (l.off,a0 key xs.length cap)) (hb:l.set b xs=b') (j7:m8 os l.off=os') (k:aj c ops Q nz E ((L.set j ⟨none,.dead⟩).set i ⟨some p,.cz b' os'⟩)):aj c ops Q nz E L:=
 fun a W s=>k a W (s.iX l (fun e=>by rw [e,Nat.beq_refl] at fz; cases fz) au kC q hq hb j7)
theorem ad.iX {z:Exit} {p cap T:Nat} {key:Option Nat} {β γ:Type} [ai β] [ai γ] {b b':β} {xs:List γ} {os os':List (Nat × Value)} (l:aL β (List γ)) (i j q:Nat) (fz:Nat.beq i j=false) (au:L[i]? =some ⟨some p,.cz b os⟩) (kC:L[j]? =some ⟨key,.row T xs cap⟩)
 (hq:os[q]? =some (l.off,a0 key xs.length cap)) (hb:l.set b xs=b') (j7:m8 os l.off=os') (k:ad c Q z E ((L.set j ⟨none,.dead⟩).set i ⟨some p,.cz b' os'⟩)):ad c Q z E L:=
 fun a W s=>k a W (s.iX l (fun e=>by rw [e,Nat.beq_refl] at fz; cases fz) au kC q hq hb j7)
theorem ah.iX {z:Code} {p cap T:Nat} {key:Option Nat} {β γ:Type} [ai β] [ai γ] {b b':β} {xs:List γ} {os os':List (Nat × Value)} (l:aL β (List γ)) (i j q:Nat) (fz:Nat.beq i j=false) (au:L[i]? =some ⟨some p,.cz b os⟩) (kC:L[j]? =some ⟨key,.row T xs cap⟩)
 (hq:os[q]? =some (l.off,a0 key xs.length cap)) (hb:l.set b xs=b') (j7:m8 os l.off=os') (k:ah c Q z E ((L.set j ⟨none,.dead⟩).set i ⟨some p,.cz b' os'⟩)):ah c Q z E L:=
 fun a W s=>k a W (s.iX l (fun e=>by rw [e,Nat.beq_refl] at fz; cases fz) au kC q hq hb j7)
theorem bS.sK {a:Act} {W:World} (s:bS c E L a W) {i j p cap T fo:Nat} {key:Option Nat} {β γ:Type} [ai β] [ai γ] {b b':β} {xs:List γ} {os os':List (Nat × Value)} (l:aL β (List γ)) (fz:i≠j) (au:L[i]? =some ⟨some p,.cz b os⟩) (kC:L[j]? =some ⟨key,.row T xs cap⟩)
 (q:Nat) (hq:os[q]? =some (l.off,a0 key xs.length cap)) (hb:l.set b xs=b') (j7:m8 os l.off=os') (lN:look E fo=some (.eq (a0 key xs.length cap))):bS c ((fo,.of xs) :: E) ((L.set j ⟨none,.dead⟩).set i ⟨some p,.cz b' os'⟩) a W:=by
 have aa:=s.freeze lN kC
 subst hb
 subst j7
 have an:(L.set j ⟨none,.dead⟩)[i]? =some ⟨some p,.cz b os⟩:=by rw [List.getElem?_set_ne (fun e=>fz e.symm)]; exact au
 obtain⟨v,ae,aD⟩:=aa.env fo (.of xs) (by simp [look,Nat.beq_refl])
 obtain⟨vb,aV,a1⟩:=s.env fo _ lN
 rw [ae] at aV
 cases aV
 have a1:v=_:=a1
 subst a1
 exact aa.wj an (fun o ⟨cs,T,az,a5⟩=>⟨cs,T,az,La l a5 (List.mem_of_getElem? hq) (mw.1 aD)⟩) id
theorem aj.sK {nz:List Oper} {p cap T:Nat} {key:Option Nat} {β γ:Type} [ai β] [ai γ] {b b':β} {xs:List γ} {os os':List (Nat × Value)} (l:aL β (List γ)) (i j q fo:Nat) (fz:Nat.beq i j=false) (au:L[i]? =some ⟨some p,.cz b os⟩) (kC:L[j]? =some ⟨key,.row T xs cap⟩)
 (hq:os[q]? =some (l.off,a0 key xs.length cap)) (hb:l.set b xs=b') (j7:m8 os l.off=os') (lN:look E fo=some (.eq (a0 key xs.length cap))) (k:aj c ops Q nz ((fo,.of xs) :: E) ((L.set j ⟨none,.dead⟩).set i ⟨some p,.cz b' os'⟩)):aj c ops Q nz E L:=
 fun a W s=>k a W (s.sK l (fun e=>by rw [e,Nat.beq_refl] at fz; cases fz) au kC q hq hb j7 lN)
theorem ah.sK {z:Code} {p cap T:Nat} {key:Option Nat} {β γ:Type} [ai β] [ai γ] {b b':β} {xs:List γ} {os os':List (Nat × Value)} (l:aL β (List γ)) (i j q fo:Nat) (fz:Nat.beq i j=false) (au:L[i]? =some ⟨some p,.cz b os⟩) (kC:L[j]? =some ⟨key,.row T xs cap⟩)
 (hq:os[q]? =some (l.off,a0 key xs.length cap)) (hb:l.set b xs=b') (j7:m8 os l.off=os') (lN:look E fo=some (.eq (a0 key xs.length cap))) (k:ah c Q z ((fo,.of xs) :: E) ((L.set j ⟨none,.dead⟩).set i ⟨some p,.cz b' os'⟩)):ah c Q z E L:=
 fun a W s=>k a W (s.sK l (fun e=>by rw [e,Nat.beq_refl] at fz; cases fz) au kC q hq hb j7 lN)
theorem ad.sK {z:Exit} {p cap T:Nat} {key:Option Nat} {β γ:Type} [ai β] [ai γ] {b b':β} {xs:List γ} {os os':List (Nat × Value)} (l:aL β (List γ)) (i j q fo:Nat) (fz:Nat.beq i j=false) (au:L[i]? =some ⟨some p,.cz b os⟩) (kC:L[j]? =some ⟨key,.row T xs cap⟩)
 (hq:os[q]? =some (l.off,a0 key xs.length cap)) (hb:l.set b xs=b') (j7:m8 os l.off=os') (lN:look E fo=some (.eq (a0 key xs.length cap))) (k:ad c Q z ((fo,.of xs) :: E) ((L.set j ⟨none,.dead⟩).set i ⟨some p,.cz b' os'⟩)):ad c Q z E L:=
 fun a W s=>k a W (s.sK l (fun e=>by rw [e,Nat.beq_refl] at fz; cases fz) au kC q hq hb j7 lN)
inductive sB (c:dh) (E:List (Nat × I)) (L:List aO) (place:Nat→Option (Nat × Nat)) {β:Type} [ai β]:β→List (Nat × Value)→List (Nat × Operand)→β→List (Nat × Value)→Prop
 | nil {b os} :sB c E L place b os [] b os
 | cons {b eE b':β} {os os':List (Nat × Value)} {γ:Type} [ai γ] {v:γ} {i:Nat} {x:Operand} {r:List (Nat × Operand)} (l:aL β γ):place i=some (l.off,ai.size γ)→bc c E L x (.of v)→l.set b v=eE→sA os l.off (ai.size γ)=true→sB c E L place eE os r b' os'→sB c E L place b os ((i,x) :: r) b' os'
 | hole {b eE b':β} {os IF os':List (Nat × Value)} {γ:Type} [ai γ] {u:Value} {i:Nat} {x:Operand} {r:List (Nat × Operand)} (l:aL β (List γ)):place i=some (l.off,1)→bc c E L x (.eq u)→u.oneCell'=true→l.set b []=eE→ss os l.off u=IF→sB c E L place eE IF r b' os'→sB c E L place b os ((i,x) :: r) b' os'
theorem sB.run {place:Nat→Option (Nat × Nat)} {β:Type} [ai β] {b b':β} {os os':List (Nat × Value)} {bq:List (Nat × Operand)} (h:sB c E L place b os bq b' os'):∀ a W,bS c E L a W→ ∀ cs:Array Value,kL (aP L ++ c.b5) W cs.toList b os→
 ∃ dK,Instr.fill place cs (bq.map fun(i,x)=>(i,a.eval x))=some dK∧kL (aP L ++ c.b5) W dK.toList b' os':=by
 induction h with
 | nil=>intro a W s cs aQ; exact⟨cs,rfl,aQ⟩
 | @cons b eE b' os os' γ _ v i x r l aa ae aD aV _ b1=>
   intro a W s cs aQ
   subst aD
   have aX:=ae a W s
   have eV:(a.eval x).cells.size=ai.size γ:=by have:=ai.len aX.2; simpa using this
   have ao:cs.toList.length=ai.size β:=aQ.len
   have e3:=l.gl
   rw [List.map_cons,CO aa eV (by simp at ao; omega)]
   refine b1 a W s _ ?_
   have:=Ly l aQ aX.2 aV
   simpa [fR,ai.len aX.2] using this
 | @hole b eE b' os IF os' γ _ u i x r l aa ae aD aV a1 _ b1=>
   intro a W s cs aQ
   subst aV
   subst a1
   have aX:a.eval x=u:=ae a W s
   have ar:(a.eval x).cells.toList= [u]:=by rw [aX,nG aD]
   have eV:(a.eval x).cells.size=1:=by have:=congrArg List.length ar; simpa using this
   have ao:cs.toList.length=ai.size β:=aQ.len
   have e3:l.off + 1≤ai.size β:=l.gl
   rw [List.map_cons,CO aa eV (by simp at ao; omega)]
   refine b1 a W s _ ?_
   have:=K9 l aQ aD
   simpa [fR,ar] using this
theorem pP {β:Type} [ai β] {z b:β} {bq:List (Nat × Operand)} {pl:Array (Nat × Nat)} {os:List (Nat × Value)} (jb:List Nat) (rR:jO c.P t jb) (bn:ai.agg β=true) (By:hG c.P t pl) (gB:cQ c.P t z)
 (a8:sB c E L (pl[·]?) z (jb.map fun o=>(o,jH)) bq b os):b7 c E L ⟨d,.build t bq.toArray,ty,pos,af,g⟩ (.IE b os):= .pure fun a W s=>by
 obtain⟨fW,hu,hs,rfl⟩:=By.at_
 obtain⟨i,dX,aa,ae,aD⟩:=gB.zero
 have cC:∀ o∈jb,dX.cells.toList[o]? =some jH:=fun o bp=>by
  unfold jO at rR
  rw [aa] at rR
  simp only [Option.bind_some,ae,Option.any_some] at rR
  exact KQ (List.all_eq_true.1 rR o bp)
 obtain⟨dK,aV,a1⟩:=a8.run a W s dX.cells ⟨by
  rw [Fx fun h hm=>by obtain⟨o,bp,rfl⟩:=List.mem_map.1 hm; exact cC o bp]
  exact(aD _ _).2,fun h hm=>by obtain⟨o,bp,rfl⟩:=List.mem_map.1 hm; exact⟨cC o bp,rfl⟩⟩
 refine⟨.agg dK,?_,by simp [shaped,bn],by simpa [Value.cells] using a1⟩
 have hm:(bq.toArray.map fun(x:Nat × Operand)=>(x.1,a.eval x.2)).toList=bq.map fun(i,x)=>(i,a.eval x):=by simp
 simp only [execOp,Instr.build,Sem.run_bind,zeroValue,typeInfo,run_program,Result.andThen_ok,aa,ae,Sem.run_pure,run_underlying hu,Kh fW hs]
 rw [hm,aV]
 rfl
def rz {α:Type} [Inhabited α] (bytes:Nat) (n:Int):Option (List α):=if 0≤n∧n≤140737488355328∧bytes * n≤140737488355328 then some (List.replicate n.toNat default) else none
theorem Tg {α:Type} [Inhabited α] {bytes:Nat} {n:Int} {r:List α} (h:rz bytes n=some r):0≤n∧n≤140737488355328∧bytes * n≤140737488355328∧List.replicate n.toNat default=r:=by
 unfold rz at h
 split at h
 ·rename_i ar; exact⟨ar.1,ar.2.1,ar.2.2,aG h⟩
 ·cases h
theorem aj.D9 {α:Type} [ai α] [Inhabited α] {rest:List Oper} {bb e bytes:Nat} {r:List α} {n:Int} (hu:c.P.underlying t=some (.slice e)) (fC:bA c.P e α) (gB:cQ c.P e (default:α)) (hs:Nat.beq (ai.size α) 0=false) (hb:(c.P.info? e).map (·.bytes)=some bytes)
 (aq:bc c E L x (.of n)) (a6:bc c E L y (.of n)) (hm:rz bytes n=some r) (kY:Nat.blt bb c.n=true) (k:∀ p,aj c ops Q rest ((bb,.eq (a0 p r.length r.length)) :: E) (⟨p,.row e r r.length⟩ :: L)):
 aj c ops Q (⟨some bb,.makeSlice t x y,ty,pos,af,none⟩ :: rest) E L:=fun a W s=>by
 obtain⟨bW,aR,aay,rfl⟩:=Tg hm
 obtain⟨m,rfl⟩:=Int.eq_ofNat_of_zero_le bW
 obtain⟨gp,dX,ef,dI,qm⟩:=gB.zero
 have mI:gp.size=ai.size α:=by
  obtain⟨i2,aa,ae⟩:=fC.info
  rw [ef] at aa; cases aa; exact ae
 have uV:gp.bytes=bytes:=by rw [ef] at hb; simpa using hb
 have fr:ai.size α≠0:=fun h=>by rw [h] at hs; cases hs
 have pv:=yQ (qm (aP L ++ c.b5) W) m fr
 have aa:=of_int.1 (aq a W s)
 have ae:=of_int.1 (a6 a W s)
 have hw:IntKind.i64.wrap (m:Int)=m:=by have:bz (m:Int)=m:=hQ (by omega) (by omega); exact this
 have hp:(2:Int) ^ 48=281474976710656:=by decide
 simp only [Int.toNat_natCast,List.length_replicate] at k
 generalize kB:(Array.range (m * ai.size α)).map (dX.cells[· % dX.cells.size]!)=D at pv
 refine h6 rfl (R:=fun v W'=>v= .slice (some ⟨W.heap.size,0,none⟩) m m∧W'=W.alloc (.cells D e)) (.l5 (v:= .slice (some ⟨W.heap.size,0,none⟩) m m) (W':=W.alloc (.cells D e)) ?_ ⟨rfl,rfl⟩) fun v W' ⟨aD,aV⟩=> ?_
 ·have fT:((decide ((m:Int) < 0) || decide ((gp.bytes:Int) * m > 2 ^ 48)) || decide ((m:Int) < 0) || decide ((m:Int) > m))=false:=by
   rw [uV,hp]; simp; omega
  have El:((Array.range (m * gp.size)).map fun i=>(if m * gp.size=0 then(#[]:Array Value) else dX.cells)[i % (if m * gp.size=0 then(#[]:Array Value) else dX.cells).size]!)=D:=by
   rw [← kB,mI]
   by_cases hr:m * ai.size α=0
   ·rw [hr]; simp
   ·simp only [if_neg hr]
  have bn:(asInt (.int .i64 (m:Int)):Sem Int).run c.P W= .ok (m:Int) W:=by simp [asInt,asIntOf]
  simp only [execOp,Instr.makeSlice,Sem.run_bind,run_underlying hu,Result.andThen_ok,aa,ae,bn,Sem.run_pure,typeInfo,run_program,ef,hw,fT,Bool.false_eq_true,if_false,run_askRoom,Go.sizeOf,Int.toNat_natCast]
  by_cases hr:m * gp.size=0
  ·simp only [hr,if_true,Sem.run_pure,Result.andThen_ok,Sem.run_bind,newRow] at El ⊢
   rw [El]
   simp
  ·simp only [hr,if_false,Sem.run_pure,Result.andThen_ok,Sem.run_bind,newRow,zeroValue,typeInfo,run_program,ef,dI] at El ⊢
   rw [El]
   simp
 ·subst aD aV
  have At:m≤maxLen:=by
   have:maxLen=9223372036854775807:=rfl
   omega
  have eV:D.size=m * ai.size α:=by have:=pv.1; simpa using this
  have ca:=s.alloc (o:= .cells D e) (cp:= .row e (List.replicate m (default:α)) m) ⟨D,rfl,eV,by simp,At,by
   have bo:=pv.1
   rw [List.length_replicate] at bo ⊢
   rw [← bo,List.take_length]
   exact pv⟩
  exact k (some W.heap.size) _ _ (ca.put (τ:= .eq (a0 (some W.heap.size) m m)) (by simpa using kY) rfl)
theorem ad.ox {fn:Func} {δ:Type} {ρ:δ→I} {Lo:δ→List aO} (bb:δ) (hs:(Lo bb).Sublist L) (aQ:fn.results= #[]) (rH:ρ bb= .cN []) (hU:c.ds= []:=by rfl):ad c (bodyPost c.P fn (jD c.X c.b5 c.iw ρ Lo)) .ret E L:=fun a W s=>
 ⟨s.tM hU,.tuple #[],by simp [tG,aQ],s.ends bb hs (by rw [rH]; exact⟨_,rfl,.nil⟩)⟩
end
end Gv
namespace Gv
open Go
set_option linter.unusedVariables false
set_option linter.unusedSimpArgs false
abbrev Hid:=Nat→Option Nat
def eY (l:List (Option Nat)):Hid:=fun i=>(l[i]?).getD none
structure ec where
 slot:Option Nat
 up:List Nat
 rd:List Nat
 wr:List Nat
 τ:(Nat→Hid)→I
 eN:(Nat→Hid)→Nat→aO
def g6 (up:List Nat) (i:Nat) (hd:Nat→Hid):Nat→Hid:=fun j=>bif Nat.beq j i || up.any (fun k=>Nat.beq k j) then hd j else fun _=>none
def lQ (hd:Nat→Hid) (i:Nat) (x:Hid):Nat→Hid:=fun j=>bif Nat.beq j i then x else hd j
theorem SI {up:List Nat} {i:Nat} {hd hd':Nat→Hid} (h:hd i=hd' i) (cZ:∀ k∈up,hd k=hd' k):g6 up i hd=g6 up i hd':=by
 funext j
 unfold g6
 cases aa:Nat.beq j i
 ·cases ae:up.any (fun k=>Nat.beq k j)
  ·rfl
  ·obtain⟨k,av,he⟩:=List.any_eq_true.1 ae
   have:=fc.1 he
   subst this
   simp only [Bool.false_or,cond_true]
   exact cZ k av
 ·have:=fc.1 aa
  subst this
  simp only [Bool.true_or,cond_true]
  exact h
def mJ:List aO→ (Nat→aO)→List Nat→List aO
 | L,_,[]=>L
 | L,f,j :: r=>mJ (L.set j (f j)) f r
theorem KB:∀ {L:List aO} {f:Nat→aO} {eZ:List Nat},(mJ L f eZ).length=L.length
 | _,_,[]=>rfl
 | L,f,j :: r=>by rw [mJ,KB,List.length_set]
theorem FX:∀ {L:List aO} {f:Nat→aO} {eZ:List Nat} (i:Nat),(mJ L f eZ)[i]? =if eZ.contains i=true then L[i]?.map (fun _=>f i) else L[i]?
 | _,_,[],i=>by simp [mJ]
 | L,f,j :: r,i=>by
   rw [mJ,FX i]
   by_cases h:j=i
   ·subst h
    simp only [List.contains_cons,BEq.rfl,Bool.true_or,if_true,List.getElem?_set]
    by_cases ao:j < L.length
    ·simp [ao]
    ·simp [ao]
   ·have hb:(i ==j)=false:=by simp; exact fun e=>h e.symm
    rw [List.contains_cons,hb,Bool.false_or,List.getElem?_set_ne h]
def ix (ls:Nat→Bool) (hd:Nat→Hid):Nat→List ec→List aO→List aO
 | _,[],L=>L
 | k,h :: r,L=>ix ls hd (k + 1) r (bif ls k then mJ L (h.eN (g6 h.up k hd)) h.wr else L)
def jo (ls:Nat→Bool) (hd:Nat→Hid) (E:List (Nat × I)):Nat→List ec→List (Nat × I)
 | _,[]=>E
 | k,h :: r=>match ls k,h.slot with
   | true,some s=>(s,h.τ (g6 h.up k hd)) :: jo ls hd E (k + 1) r
   | _,_=>jo ls hd E (k + 1) r
def k9 (ls:Nat→Bool) (hd:Nat→Hid) (j:Nat):Nat→List ec→Option aO→Option aO
 | _,[],v=>v
 | k,h :: r,v=>k9 ls hd j (k + 1) r (bif ls k && h.wr.contains j then v.map (fun _=>h.eN (g6 h.up k hd) j) else v)
theorem Dc {ls:Nat→Bool} {hd:Nat→Hid} (j:Nat):∀ {k:Nat} {hs:List ec} {L:List aO},(ix ls hd k hs L)[j]? =k9 ls hd j k hs L[j]?
 | _,[],_=>rfl
 | k,h :: r,L=>by
   rw [ix,k9,Dc j]
   congr 1
   cases ls k
   ·rfl
   ·simp only [cond_true,Bool.true_and]
    rw [FX]
    cases h.wr.contains j <;> rfl
theorem FJ {ls:Nat→Bool} {hd:Nat→Hid} {j:Nat} :∀ {k:Nat} {hs:List ec} {v:Option aO},(∀ m h,hs[m]? =some h→h.wr.contains j=true→ls (k + m)=false)→k9 ls hd j k hs v=v
 | _,[],_,_=>rfl
 | k,h :: r,v,aR=>by
   rw [k9,FJ fun m x hm aq=>by have:=aR (m + 1) x (by simpa using hm) aq; rw [← this]; congr 1; omega]
   cases hw:h.wr.contains j
   ·simp
   ·have:=aR 0 h rfl hw
    simp only [Nat.add_zero] at this
    rw [this]; rfl
theorem Fp {ls:Nat→Bool} {hd:Nat→Hid} {j:Nat} :∀ {k:Nat} {hs rs:List ec} {v:Option aO},k9 ls hd j k (hs ++ rs) v=k9 ls hd j (k + hs.length) rs (k9 ls hd j k hs v)
 | _,[],_,_=>rfl
 | k,h :: r,rs,v=>by
   rw [List.cons_append,k9,Fp,k9,List.length_cons]
   congr 1; omega
theorem CE {ls ls':Nat→Bool} {hd hd':Nat→Hid} {j:Nat} :∀ {k:Nat} {hs:List ec} {v:Option aO},(∀ m h,hs[m]? =some h→h.wr.contains j=true→ls (k + m)=ls' (k + m)∧ (ls (k + m)=true→g6 h.up (k + m) hd=g6 h.up (k + m) hd'))→k9 ls hd j k hs v=k9 ls' hd' j k hs v
 | _,[],_,_=>rfl
 | k,h :: r,v,aR=>by
   have b1:=CE (ls:=ls) (ls':=ls') (hd:=hd) (hd':=hd') (j:=j) (k:=k + 1) (hs:=r) (v:=bif ls k && h.wr.contains j then v.map (fun _=>h.eN (g6 h.up k hd) j) else v) fun m x hm aq=>by
    have:=aR (m + 1) x (by simpa using hm) aq
    rw [show k + 1 + m=k + (m + 1) by omega]; exact this
   rw [k9,k9,b1]
   congr 1
   cases hw:h.wr.contains j
   ·simp
   ·have:=aR 0 h rfl hw
    simp only [Nat.add_zero] at this
    rw [← this.1]
    cases ao:ls k
    ·rfl
    ·rw [this.2 ao]
theorem FK {ls:Nat→Bool} {hd:Nat→Hid} {E:List (Nat × I)} {t:Nat} :∀ {k:Nat} {hs:List ec},(∀ (m:Nat) (h:ec),hs[m]? =some h→ls (k + m)=true→h.slot≠some t)→look (jo ls hd E k hs) t=look E t
 | _,[],_=>rfl
 | k,h :: r,aR=>by
   have b1:=FK (ls:=ls) (hd:=hd) (E:=E) (t:=t) (k:=k + 1) (hs:=r) fun m x hm ao=>aR (m + 1) x (by simpa using hm) (by rw [← ao]; congr 1; omega)
   unfold jo
   split
   ·rename_i s aa ae
    have dz:Nat.beq s t=false:=by
     cases hb:Nat.beq s t
     ·rfl
     ·have:=fc.1 hb; subst this; exact absurd ae (aR 0 h rfl aa)
    simp only [look,dz,cond_false]
    exact b1
   ·exact b1
theorem FY {ls:Nat→Bool} {hd:Nat→Hid} {E:List (Nat × I)} {s:Nat} :∀ {k:Nat} {hs:List ec} {j:Nat} {h:ec},hs[j]? =some h→ls (k + j)=true→h.slot=some s→ (∀ m x,hs[m]? =some x→x.slot=some s→m=j)→look (jo ls hd E k hs) s=some (h.τ (g6 h.up (k + j) hd))
 | _,[],_,_,h,_,_,_=>by simp at h
 | k,x :: r,0,h,aE,ao,hs,_=>by
   simp only [List.getElem?_cons_zero,Option.some.injEq] at aE
   subst aE
   simp only [Nat.add_zero] at ao
   unfold jo
   rw [ao,hs]
   simp [look,Nat.beq_refl]
 | k,x :: r,j + 1,h,aE,ao,hs,hu=>by
   have b1:=FY (ls:=ls) (hd:=hd) (E:=E) (s:=s) (k:=k + 1) (hs:=r) (j:=j) (h:=h) (by simpa using aE) (by rw [← ao]; congr 1; omega) hs fun m y hm a6=>by
    have:=hu (m + 1) y (by simpa using hm) a6; omega
   rw [show k + 1 + j=k + (j + 1) by omega] at b1
   unfold jo
   split
   ·rename_i ca aa ae
    have dz:Nat.beq ca s=false:=by
     cases hb:Nat.beq ca s
     ·rfl
     ·have:=fc.1 hb; subst this
      have:=hu 0 x rfl ae; omega
    simp only [look,dz,cond_false]
    exact b1
   ·exact b1
theorem Lz {ls:Nat→Bool} {hd:Nat→Hid} {E:List (Nat × I)} {t:Nat} {τ:I} :∀ {k:Nat} {hs:List ec},look (jo ls hd E k hs) t=some τ→ (∃ (j:Nat) (h:ec),hs[j]? =some h∧ls (k + j)=true∧h.slot=some t∧τ=h.τ (g6 h.up (k + j) hd))∨ (look E t=some τ∧ ∀ (m:Nat) (h:ec),hs[m]? =some h→ls (k + m)=true→h.slot≠some t)
 | _,[],h=> .inr ⟨h,fun m h hm=>by simp at hm⟩
 | k,x :: r,h=>by
   unfold jo at h
   have go:(ls k=true→x.slot≠some t)→look (jo ls hd E (k + 1) r) t=some τ→ (∃ (j:Nat) (h:ec),(x :: r)[j]? =some h∧ls (k + j)=true∧h.slot=some t∧τ=h.τ (g6 h.up (k + j) hd))∨ (look E t=some τ∧ ∀ (m:Nat) (h:ec),(x :: r)[m]? =some h→ls (k + m)=true→h.slot≠some t):=fun aq h=>by
    rcases Lz h with⟨j,y,aa,ae,aD,aV⟩ | ⟨aa,ae⟩
    ·exact .inl ⟨j + 1,y,by simpa using aa,by rw [← ae]; congr 1; omega,aD,by rw [aV]; congr 2; omega⟩
    ·refine .inr ⟨aa,fun m y hm ao=> ?_⟩
     cases m with
     | zero=>simp only [List.getElem?_cons_zero,Option.some.injEq] at hm; subst hm; exact aq ao
     | succ m=>exact ae m y (by simpa using hm) (by rw [← ao]; congr 1; omega)
   split at h
   ·rename_i s aa ae
    simp only [look] at h
    by_cases e:Nat.beq s t=true
    ·rw [e] at h
     simp only [cond_true,Option.some.injEq] at h
     have:=fc.1 e
     subst this
     exact .inl ⟨0,x,rfl,aa,ae,h.symm⟩
    ·rw [Bool.not_eq_true] at e
     rw [e] at h
     exact go (fun _ fr=>by rw [ae] at fr; cases fr; rw [Nat.beq_refl] at e; cases e) h
   ·rename_i gK
    exact go (fun ao fr=>gK t ao fr) h
def mj (hd:Nat→Hid) (hs:List ec) (E:List (Nat × I)):List Nat→List (Nat × I)
 | []=>E
 | j :: r=>match hs[j]? with
   | some h=>match h.slot with
     | some s=>(s,h.τ (g6 h.up j hd)) :: mj hd hs E r
     | none=>mj hd hs E r
   | none=>mj hd hs E r
theorem Md {hd:Nat→Hid} {hs:List ec} {E:List (Nat × I)} {t:Nat} {τ:I} :∀ {ds:List Nat},look (mj hd hs E ds) t=some τ→ (∃ j∈ds,∃ h:ec,hs[j]? =some h∧h.slot=some t∧τ=h.τ (g6 h.up j hd))∨look E t=some τ
 | [],h=> .inr h
 | j :: r,h=>by
   have go:look (mj hd hs E r) t=some τ→ (∃ i∈j :: r,∃ h:ec,hs[i]? =some h∧h.slot=some t∧τ=h.τ (g6 h.up i hd))∨look E t=some τ:=fun h=>by
    rcases Md h with⟨i,aa,ae⟩ | aa
    ·exact .inl ⟨i,by simp [aa],ae⟩
    ·exact .inr aa
   unfold mj at h
   split at h
   ·rename_i x aq
    split at h
    ·rename_i s lN
     simp only [look] at h
     by_cases e:Nat.beq s t=true
     ·rw [e] at h
      simp only [cond_true,Option.some.injEq] at h
      have:=fc.1 e
      subst this
      exact .inl ⟨j,by simp,x,aq,lN,h.symm⟩
     ·simp only [Bool.not_eq_true] at e
      rw [e] at h
      exact go h
    ·exact go h
   ·exact go h
def sL (E:List (Nat × I)) (v:Value):List Nat→Prop
 | []=>True
 | s :: r=>look E s=some (.eq v)∧sL E v r
theorem sL.get {E:List (Nat × I)} {v:Value} :∀ {h4:List Nat},sL E v h4→ ∀ s∈h4,look E s=some (.eq v)
 | _ :: _,h,s,hs=>by
   rcases List.mem_cons.1 hs with rfl | hs
   ·exact h.1
   ·exact sL.get h.2 s hs
def uY (τ:I) (E:List (Nat × I)):List Nat→List (Nat × I)
 | []=>E
 | s :: r=>(s,τ) :: uY τ E r
theorem LA {τ:I} {E:List (Nat × I)} {t:Nat} {σ:I} :∀ {h4:List Nat},look (uY τ E h4) t=some σ→ (t∈h4∧σ=τ)∨look E t=some σ
 | [],h=> .inr h
 | s :: r,h=>by
   simp only [uY,look] at h
   by_cases e:Nat.beq s t=true
   ·rw [e] at h
    simp only [cond_true,Option.some.injEq] at h
    have:=fc.1 e
    subst this
    exact .inl ⟨by simp,h.symm⟩
   ·simp only [Bool.not_eq_true] at e
    rw [e] at h
    rcases LA h with⟨aa,ae⟩ | aa
    ·exact .inl ⟨by simp [aa],ae⟩
    ·exact .inr aa
def uA {w:Nat} (a b:BitVec w):BitVec w:=if a≤b then a else b
def rp:Option Nat→I→List (Nat × I)→List (Nat × I)
 | some s,τ,E=>(s,τ) :: E
 | none,_,E=>E
section
variable {c:dh} {E:List (Nat × I)} {L:List aO} {ops:Array Oper} {Q:Exit→Act→World→Prop}
theorem bS.l1 {a:Act} {W:World} {α:Type} [ai α] {i cap T:Nat} {h4:List Nat} {key:Option Nat} {xs:List α} (h:bS c E L a W) (ao:sL E (a0 key xs.length cap) h4) (au:L[i]? =some ⟨key,.row T xs cap⟩):
 bS c (uY (.of xs) E h4) (L.set i ⟨none,.dead⟩) a W:=by
 have av:=h.kill i
 refine { av with env:=fun t τ ej=> ?_ }
 rcases LA ej with⟨hm,rfl⟩ | aa
 ·obtain⟨v,aa,ae⟩:=h.env t _ (ao.get t hm)
  refine⟨v,aa,mw.2 ?_⟩
  have kt:v=a0 key xs.length cap:=ae
  subst kt
  have bp:=h.own _ (List.mem_of_getElem? au)
  cases key with
  | none=>exact .inl ⟨rfl,bp.1⟩
  | some p=>
    obtain⟨o,eu,cs,rfl,eV,aR,oI,aQ⟩:=bp
    obtain⟨aD,aV⟩:=Fo eV aR aQ
    refine .inr ⟨p,0,cap,cs,T,(0,0),rfl,h.yW au,eu,aR,by omega,aD,?_⟩
    have kJ:=vE (L:=L) (i:=i) (cp:= .dead)
    exact aV.mono (.drop fun k hm=>by
     rcases List.mem_append.1 hm with hm | hm
     ·exact List.mem_append.2 (.inl (kJ.subset hm))
     ·exact List.mem_append.2 (.inr hm))
 ·exact av.env t τ aa
theorem aj.l1 {l:List Oper} {α:Type} [ai α] {key:Option Nat} {xs:List α} {cap T:Nat} (i:Nat) (h4:List Nat) (ao:sL E (a0 key xs.length cap) h4) (au:L[i]? =some ⟨key,.row T xs cap⟩)
 (k:aj c ops Q l (uY (.of xs) E h4) (L.set i ⟨none,.dead⟩)):aj c ops Q l E L:=fun a W st=>k a W (st.l1 ao au)
theorem ad.l1 {x:Exit} {α:Type} [ai α] {key:Option Nat} {xs:List α} {cap T:Nat} (i:Nat) (h4:List Nat) (ao:sL E (a0 key xs.length cap) h4) (au:L[i]? =some ⟨key,.row T xs cap⟩)
 (k:ad c Q x (uY (.of xs) E h4) (L.set i ⟨none,.dead⟩)):ad c Q x E L:=fun a W st=>k a W (st.l1 ao au)
theorem ah.l1 {code:Code} {α:Type} [ai α] {key:Option Nat} {xs:List α} {cap T:Nat} (i:Nat) (h4:List Nat) (ao:sL E (a0 key xs.length cap) h4) (au:L[i]? =some ⟨key,.row T xs cap⟩)
 (k:ah c Q code (uY (.of xs) E h4) (L.set i ⟨none,.dead⟩)):ah c Q code E L:=fun a W st=>k a W (st.l1 ao au)
def df (c:dh) (ops:Array Oper) (Q:Exit→Act→World→Prop) (hs:List ec) (E:List (Nat × I)) (L:List aO) (i:Nat) (o:Oper) (h:ec):Prop:=
 ∀ (hd:Nat→Hid) (E':List (Nat × I)) (ay:List aO),(∀ t τ,look (mj hd hs E h.up) t=some τ→look E' t=some τ)→
   (∀ j e,(ix (fun _=>true) hd 0 (hs.take i) L)[j]? =some e→h.rd.contains j=true→ay[j]? =some e)→
   aj c ops (qx (fun a W=> ∃ x,bS c (rp h.slot (h.τ (g6 h.up i (lQ hd i x))) E') (mJ ay (h.eN (g6 h.up i (lQ hd i x))) h.wr) a W) Q) [o] E' ay
def sC (c:dh) (ops:Array Oper) (Q:Exit→Act→World→Prop) (hs:List ec) (E:List (Nat × I)) (L:List aO):Nat→List Oper→List ec→Prop
 | _,[],[]=>True
 | i,o :: os,h :: r=>df c ops Q hs E L i o h∧sC c ops Q hs E L (i + 1) os r
 | _,_,_=>False
theorem sC.get {hs:List ec} :∀ {k:Nat} {os:List Oper} {rs:List ec},sC c ops Q hs E L k os rs→ ∀ i h o,rs[i]? =some h→os[i]? =some o→df c ops Q hs E L (k + i) o h
 | k,[],[],_,i,h,o,an,_=>by simp at an
 | k,ZV :: os,bW :: r,cC,i,h,o,an,bp=>by
   cases i with
   | zero=>
     simp only [List.getElem?_cons_zero,Option.some.injEq] at an bp
     subst an; subst bp; exact cC.1
   | succ i=>
     have:=sC.get cC.2 i h o (by simpa using an) (by simpa using bp)
     rw [show k + 1 + i=k + (i + 1) by omega] at this
     exact this
 | k,[],_ :: _,cC,_,_,_,_,_=>cC.elim
 | k,_ :: _,[],cC,_,_,_,_,_=>cC.elim
def ki (ops:Array Oper) (hs:List (Option Nat × List Nat × List Nat × List Nat)) (E:List Nat):Bool:=
 decide (hs.length=ops.size) && decide (hs.filterMap (·.1)).Nodup && ((List.range ops.size).all fun m=>match hs[m]? with | some (some s,up,_)=> !E.contains s || (List.range ops.size).all fun k=>decide (k=m) || up.contains k | _=>true) &&
 ((List.range ops.size).all fun i=>match hs[i]? with
   | none=>false
   | some (_,up,rd,wr)=>
     (((ops[i]?).map fun o=>(o.dst ==(hs[i]?).bind (·.1)) && o.after.all fun e=> !Region.binds .any e || decide (e.on < i)).getD false) &&
     (up.all fun k=>Region.waitsFor .any ops i k || (List.range i).any fun m=>Region.waitsFor .any ops i m && ((hs[m]?).map fun h=>h.2.1.contains k).getD false) &&
     ((List.range ops.size).all fun k=>match hs[k]? with
       | none=>true
       | some (_,Y3,_,OZ)=>
         (!(decide (k < i) && OZ.any rd.contains) || up.contains k) && (!(decide (i < k) && OZ.any fun j=>rd.contains j || wr.contains j) || Y3.contains i)))
theorem KR {ls ls':Nat→Bool} {hd:Nat→Hid} :∀ {k:Nat} {hs:List ec},(∀ m,m < hs.length→ls (k + m)=ls' (k + m))→jo ls hd E k hs=jo ls' hd E k hs
 | _,[],_=>rfl
 | k,h :: r,aR=>by
   have b1:=KR (ls:=ls) (ls':=ls') (hd:=hd) (k:=k + 1) (hs:=r) fun m hm=>by
    have:=aR (m + 1) (by simp; omega)
    rw [show k + 1 + m=k + (m + 1) by omega]; exact this
   have bW:=aR 0 (by simp)
   simp only [Nat.add_zero] at bW
   unfold jo
   rw [bW,b1]
theorem LB {ls ls':Nat→Bool} {hd:Nat→Hid} :∀ {k:Nat} {hs:List ec} {L:List aO},(∀ m,m < hs.length→ls (k + m)=ls' (k + m))→ix ls hd k hs L=ix ls' hd k hs L
 | _,[],_,_=>rfl
 | k,h :: r,L,aR=>by
   have bW:=aR 0 (by simp)
   simp only [Nat.add_zero] at bW
   rw [ix,ix,bW]
   exact LB fun m hm=>by
    have:=aR (m + 1) (by simp; omega)
    rw [show k + 1 + m=k + (m + 1) by omega]; exact this
def mR (hs:List ec):List (Option Nat × List Nat × List Nat × List Nat):=hs.map fun h=>(h.slot,h.up,h.rd,h.wr)
theorem Gp {hs:List ec} {i:Nat} {h:ec} (an:hs[i]? =some h):(mR hs)[i]? =some (h.slot,h.up,h.rd,h.wr):=by simp [mR,an]
def GQ (c:dh) (ops:Array Oper) (Q:Exit→Act→World→Prop) (hs:List ec) (E:List (Nat × I)) (L:List aO) (np:Nat) (i:Nat) (o:Oper) (h:ec):Prop:=
 ∀ (hd:Nat→Hid) (E':List (Nat × I)) (ay:List aO),(∀ t τ,look (mj hd hs E h.up) t=some τ→look E' t=some τ)→
   (∀ j e,(ix (fun _=>true) hd 0 (hs.take i) L)[j]? =some e→h.rd.contains j=true→ay[j]? =some e)→ay.drop np=L.drop np→
   aj c ops (qx (fun a W=> ∃ x,bS c (rp h.slot (h.τ (g6 h.up i (lQ hd i x))) E') (mJ ay (h.eN (g6 h.up i (lQ hd i x))) h.wr) a W) Q) [o] E' ay
def qS (c:dh) (ops:Array Oper) (Q:Exit→Act→World→Prop) (hs:List ec) (E:List (Nat × I)) (L:List aO) (np:Nat):Nat→List Oper→List ec→Prop
 | _,[],[]=>True
 | i,o :: os,h :: r=>GQ c ops Q hs E L np i o h∧qS c ops Q hs E L np (i + 1) os r
 | _,_,_=>False
theorem qS.get {hs:List ec} {np:Nat} :∀ {k:Nat} {os:List Oper} {rs:List ec},qS c ops Q hs E L np k os rs→ ∀ i h o,rs[i]? =some h→os[i]? =some o→GQ c ops Q hs E L np (k + i) o h
 | k,[],[],_,i,h,o,an,_=>by simp at an
 | k,ZV :: os,bW :: r,cC,i,h,o,an,bp=>by
   cases i with
   | zero=>
     simp only [List.getElem?_cons_zero,Option.some.injEq] at an bp
     subst an; subst bp; exact cC.1
   | succ i=>
     have:=qS.get cC.2 i h o (by simpa using an) (by simpa using bp)
     rw [show k + 1 + i=k + (i + 1) by omega] at this
     exact this
 | k,[],_ :: _,cC,_,_,_,_,_=>cC.elim
 | k,_ :: _,[],cC,_,_,_,_,_=>cC.elim
theorem sC.O0 {hs:List ec} {np:Nat} :∀ {k:Nat} {os:List Oper} {rs:List ec},sC c ops Q hs E L k os rs→qS c ops Q hs E L np k os rs
 | _,[],[],_=>trivial
 | _,_ :: _,_ :: _,h=>⟨fun hd E' ay aa ae _=>h.1 hd E' ay aa ae,sC.O0 h.2⟩
 | _,[],_ :: _,h=>h.elim
 | _,_ :: _,[],h=>h.elim
theorem Lb {n:Nat} :∀ {L:List aO} {f:Nat→aO} {eZ:List Nat},(∀ j∈eZ,j < n∨L.length≤j)→ (mJ L f eZ).drop n=L.drop n
 | _,_,[],_=>rfl
 | L,f,j :: r,h=>by
   rw [mJ,Lb (fun k av=>by rw [List.length_set]; exact h k (by simp [av]))]
   rcases h j (by simp) with aa | aa
   ·rw [List.drop_set_of_lt aa]
   ·rw [List.set_eq_of_length_le aa]
theorem Gq {ls:Nat→Bool} {hd:Nat→Hid} {n:Nat} :∀ {k:Nat} {hs:List ec} {L:List aO},(∀ h∈hs,∀ j∈h.wr,j < n∨L.length≤j)→ (ix ls hd k hs L).drop n=L.drop n
 | _,[],_,_=>rfl
 | k,h :: r,L,hw=>by
   rw [ix]
   cases ao:ls k
   ·exact Gq fun x aq=>hw x (by simp [aq])
   ·simp only [cond_true]
    rw [Gq (fun x aq j aE=>by rw [KB]; exact hw x (by simp [aq]) j aE),Lb (hw h (by simp))]
theorem R7 {hs:List ec} {np:Nat} (hw:∀ h∈hs,∀ j∈h.wr,j < np∨L.length≤j) (jc:ki ops (mR hs) (E.map (·.1))=true) (cC:qS c ops Q hs E L np 0 ops.toList hs)
 (cj:∀ hd,ad c Q .normal (jo (fun _=>true) hd E 0 hs) (ix (fun _=>true) hd 0 hs L)):
 ∀ m (b4:Array Bool) (hd:Nat→Hid) (a:Act) (W:World),((List.range ops.size).filter fun i=> !b4.getD i true).length≤m→HeadInv .any ops ops.size b4→
   bS c (jo (fun i=>b4.getD i false) hd E 0 hs) (ix (fun i=>b4.getD i false) hd 0 hs L) a W→wpAnyIn c.F 9 c.P .any ops Q m b4 a W:=by
 simp only [ki,Bool.and_eq_true,decide_eq_true_eq] at jc
 obtain⟨⟨⟨WE,iM⟩,Ow⟩,jG⟩:=jc
 have hlen:hs.length=ops.size:=by simpa [mR] using WE
 have uF:∀ i,i < ops.size→ ∃ h o,hs[i]? =some h∧ops[i]? =some o:=fun i an=>⟨hs[i]'(by omega),ops[i],by simp,by simp⟩
 have z6:∀ (i:Nat) (h:ec) (o:Oper),hs[i]? =some h→ops[i]? =some o→
  o.dst=h.slot∧ (∀ e∈o.after,Region.binds .any e=true→e.on < i)∧
  (∀ k∈h.up,Region.waitsFor .any ops i k=true∨ ∃ m,m < i∧Region.waitsFor .any ops i m=true∧ ∃ x,hs[m]? =some x∧k∈x.up)∧
  (∀ (k:Nat) (x:ec),hs[k]? =some x→ (k < i→ (∃ j∈x.wr,h.rd.contains j=true)→k∈h.up)∧ (i < k→ (∃ j∈x.wr,h.rd.contains j=true∨h.wr.contains j=true)→i∈x.up)):=by
  intro i h o an bp
  have cw:i < ops.size:=(Array.getElem?_eq_some_iff.1 bp).1
  have aa:=List.all_eq_true.1 jG i (List.mem_range.2 cw)
  rw [Gp an] at aa
  simp only [Bool.and_eq_true] at aa
  obtain⟨⟨ae,aD⟩,aV⟩:=aa
  simp only [bp,Option.map_some,Option.getD_some,Bool.and_eq_true,Option.bind_some,beq_iff_eq] at ae
  refine⟨ae.1,fun e he hb=> ?_,fun k av=> ?_,fun k x aq=> ?_⟩
  ·have:=Array.all_eq_true_iff_forall_mem.1 ae.2 e he
   simp [hb] at this
   exact this
  ·have:=List.all_eq_true.1 aD k av
   simp only [Bool.or_eq_true,List.any_eq_true,Bool.and_eq_true,List.mem_range] at this
   rcases this with a1 | ⟨m,a1,bo,cX⟩
   ·exact .inl a1
   ·have hm:m < hs.length:=by omega
    rw [Gp (List.getElem?_eq_getElem hm)] at cX
    exact .inr ⟨m,a1,bo,hs[m],List.getElem?_eq_getElem hm,by simpa using cX⟩
  ·have Is:k < ops.size:=by have:=(List.getElem?_eq_some_iff.1 aq).1; omega
   have:=List.all_eq_true.1 aV k (List.mem_range.2 Is)
   rw [Gp aq] at this
   simp only [Bool.and_eq_true,Bool.or_eq_true,Bool.not_eq_true',Bool.and_eq_false_iff,decide_eq_false_iff_not,List.contains_iff_mem] at this
   refine⟨fun A5 ⟨j,aE,aQ⟩=> ?_,fun j6 ⟨j,aE,aQ⟩=> ?_⟩
   ·rcases this.1 with(a1 | a1) | a1
    ·exact absurd A5 a1
    ·have:=List.any_eq_false.1 a1 j aE
     exact absurd aQ this
    ·exact a1
   ·rcases this.2 with(a1 | a1) | a1
    ·exact absurd j6 a1
    ·have:=List.any_eq_false.1 a1 j aE
     simp only [Bool.or_eq_true] at this
     exact absurd aQ this
    ·exact a1
 have Hn:∀ (i j s:Nat) (x y:ec),hs[i]? =some x→hs[j]? =some y→x.slot=some s→y.slot=some s→i=j:=by
  have key:∀ (l:List ec),((mR l).filterMap (·.1)).Nodup→ ∀ (i j s:Nat) (x y:ec),l[i]? =some x→l[j]? =some y→x.slot=some s→y.slot=some s→i=j:=by
   intro l
   induction l with
   | nil=>intro _ i j s x y h; simp at h
   | cons z r b1=>
     intro iM i j s x y an aE aq a6
     have aQ:((mR r).filterMap (·.1)).Nodup:=by
      cases dI:z.slot with
      | none=>simpa [mR,dI] using iM
      | some w=>
        simp only [mR,List.map_cons,List.filterMap_cons,dI] at iM
        exact(List.nodup_cons.1 iM).2
     have qb:z.slot=some s→ ∀ (q:Nat) (v:ec),r[q]? =some v→v.slot≠some s:=fun dI q v hq aX=>by
      simp only [mR,List.map_cons,List.filterMap_cons,dI] at iM
      exact(List.nodup_cons.1 iM).1 (List.mem_filterMap.2 ⟨_,List.mem_map.2 ⟨v,List.mem_of_getElem? hq,rfl⟩,aX⟩)
     cases i with
     | zero=>
       simp only [List.getElem?_cons_zero,Option.some.injEq] at an
       subst an
       cases j with
       | zero=>rfl
       | succ j=>simp only [List.getElem?_cons_succ] at aE; exact absurd a6 (qb aq j y aE)
     | succ i=>
       simp only [List.getElem?_cons_succ] at an
       cases j with
       | zero=>
         simp only [List.getElem?_cons_zero,Option.some.injEq] at aE
         subst aE
         exact absurd aq (qb a6 i x an)
       | succ j=>simp only [List.getElem?_cons_succ] at aE; rw [b1 aQ i j s x y an aE aq a6]
  exact key hs iM
 have WG:∀ (t:Nat) (τ:I),look E t=some τ→ ∀ (m:Nat) (h:ec),hs[m]? =some h→h.slot=some t→ ∀ k,k < ops.size→k≠m→k∈h.up:=by
  intro t τ ao m h hm fr k av uZ
  have po:m < ops.size:=by have:=(List.getElem?_eq_some_iff.1 hm).1; omega
  have aa:=List.all_eq_true.1 Ow m (List.mem_range.2 po)
  rw [show(mR hs)[m]? =some (h.slot,h.up,h.rd,h.wr) by simp [mR,hm],fr] at aa
  have wZ:t∈E.map (·.1):=by
   clear Ow aa cC cj hm fr
   induction E with
   | nil=>simp [look] at ao
   | cons x r b1=>
     obtain⟨s,σ⟩:=x
     simp only [look] at ao
     by_cases e:Nat.beq s t=true
     ·have:=fc.1 e; subst this; simp
     ·simp only [Bool.not_eq_true] at e
      rw [e] at ao
      simp only [List.map_cons,List.mem_cons]
      exact .inr (b1 ao)
  replace aa:(!(E.map (·.1)).contains t || (List.range ops.size).all fun k=>decide (k=m) || h.up.contains k)=true:=aa
  rw [show(E.map (·.1)).contains t=true by simpa using wZ] at aa
  have ae:∀ x,x < ops.size→x=m∨x∈h.up:=by simpa using aa
  exact(ae k av).resolve_left uZ
 have Em:∀ (b4:Array Bool),HeadInv .any ops ops.size b4→ ∀ (d i:Nat),i≤d→ ∀ (h:ec) (o:Oper),hs[i]? =some h→ops[i]? =some o→ (∀ e∈o.after,Region.binds .any e=true→b4.getD e.on false=true)→ ∀ k∈h.up,b4.getD k false=true:=by
  intro b4 inv d
  induction d with
  | zero=>
    intro i an h o er u0 hw k av
    rcases (z6 i h o er u0).2.2.1 k av with aa | ⟨m,hm,_⟩
    ·obtain⟨oO,mi,e,he,hb,ps⟩:=Region.waitsFor_spec aa
     rw [u0] at mi; cases mi
     rw [← ps]; exact hw e he hb
    ·omega
  | succ d b1=>
    intro i an h o er u0 hw k av
    rcases (z6 i h o er u0).2.2.1 k av with aa | ⟨m,hm,aa,x,aq,Y4⟩
    ·obtain⟨oO,mi,e,he,hb,ps⟩:=Region.waitsFor_spec aa
     rw [u0] at mi; cases mi
     rw [← ps]; exact hw e he hb
    ·obtain⟨oO,mi,e,he,hb,ps⟩:=Region.waitsFor_spec aa
     rw [u0] at mi; cases mi
     have po:=hw e he hb
     rw [ps] at po
     obtain⟨aT,BC,O1,A6⟩:=uF m (by have:=(Array.getElem?_eq_some_iff.1 u0).1; omega)
     exact b1 m (by omega) x BC aq A6 (fun e he hb=>inv.closed m BC A6 po e he hb) k Y4
 have p5:∀ (b4:Array Bool) (hd:Nat→Hid) (a:Act) (W:World),(∀ i,i < ops.size→b4.getD i true=true)→HeadInv .any ops ops.size b4→
  bS c (jo (fun i=>b4.getD i false) hd E 0 hs) (ix (fun i=>b4.getD i false) hd 0 hs L) a W→Region.ready .any ops b4= []∧Q .normal a W:=by
  intro b4 hd a W NS inv st
  refine⟨?_,?_⟩
  ·refine List.eq_nil_iff_forall_not_mem.2 fun i an=> ?_
   obtain⟨aa,o,bp,_⟩:=mem_ready.1 an
   rw [NS i (Array.getElem?_eq_some_iff.1 bp).1] at aa
   cases aa
  ·have ao:∀ m,m < hs.length→b4.getD (0 + m) false=true:=fun m hm=>by
    have aa:=NS m (by omega)
    have ae:m < b4.size:=by rw [inv.size]; omega
    simpa [ae] using aa
   rw [KR (ls':=fun _=>true) ao,LB (ls':=fun _=>true) ao] at st
   exact cj hd a W st
 intro m
 induction m with
 | zero=>
   intro b4 hd a W hm inv st
   refine p5 b4 hd a W (fun i an=> ?_) inv st
   cases h:b4.getD i true with
   | true=>rfl
   | false=>
     have:i∈ (List.range ops.size).filter fun i=> !b4.getD i true:=List.mem_filter.2 ⟨List.mem_range.2 an,by rw [h]; rfl⟩
     rw [List.length_eq_zero_iff.1 (Nat.le_zero.1 hm)] at this
     cases this
 | succ m b1=>
   intro b4 hd a W hm inv st
   refine⟨fun bW=> ?_,fun i an=> ?_⟩
   ·refine(p5 b4 hd a W (fun i an=> ?_) inv st).2
    have key:∀ d i,i≤d→i < ops.size→b4.getD i true=true:=by
     intro d
     induction d with
     | zero=>
       intro i Ij an
       cases ao:b4.getD i true with
       | true=>rfl
       | false=>
         obtain⟨h,o,er,bp⟩:=uF i an
         have:i∈Region.ready .any ops b4:=mem_ready.2 ⟨ao,o,bp,fun e he hb=>by have:=(z6 i h o er bp).2.1 e he hb; omega⟩
         rw [bW] at this; cases this
     | succ d Y5=>
       intro i Ij an
       cases ao:b4.getD i true with
       | true=>rfl
       | false=>
         obtain⟨h,o,er,bp⟩:=uF i an
         have:i∈Region.ready .any ops b4:=mem_ready.2 ⟨ao,o,bp,fun e he hb=>by
          have aa:=(z6 i h o er bp).2.1 e he hb
          have ae:=Y5 e.on (by omega) (by omega)
          have aD:e.on < b4.size:=by rw [inv.size]; omega
          simpa [aD] using ae⟩
         rw [bW] at this; cases this
    exact key i i (Nat.le_refl _) an
   ·obtain⟨pr,o,bp,sq⟩:=mem_ready.1 an
    have e3:i < ops.size:=(Array.getElem?_eq_some_iff.1 bp).1
    obtain⟨h,_,er,_⟩:=uF i e3
    have mH:b4.getD i false=false:=getD_both pr
    have DV:i < b4.size:=by rw [inv.size]; omega
    have uC:((List.range ops.size).filter fun j=> !(b4.setIfInBounds i true).getD j true).length≤m:=by
     have:((List.range ops.size).filter fun j=> !(b4.setIfInBounds i true).getD j true).length < ((List.range ops.size).filter fun j=> !b4.getD j true).length:=by
      refine MO (fun j=> !b4.getD j true) (fun j=> !(b4.setIfInBounds i true).getD j true) i (by simp only [pr]; rfl) ?_ (fun j aE=> ?_) ops.size e3
      ·simp [DV]
      ·by_cases e:i=j
       ·subst e; simp only [pr]; rfl
       ·rw [getD_set_ne true e] at aE; exact aE
     omega
    have uD:=inv.set an e3
    obtain⟨DZ,Db,aah,AA⟩:=z6 i h o er bp
    have Ox:=Em b4 inv i i (Nat.le_refl _) h o er bp sq
    have MR:∀ (k:Nat) (x:ec),hs[k]? =some x→i < k→ (∃ j∈x.wr,h.rd.contains j=true∨h.wr.contains j=true)→b4.getD k false=false:=fun k x aq j6 aE=>by
     have aa:=(AA k x aq).2 j6 aE
     cases av:b4.getD k false with
     | false=>rfl
     | true=>
       obtain⟨_,ok,_,hV⟩:=uF k (by have:=(List.getElem?_eq_some_iff.1 aq).1; omega)
       have:=Em b4 inv k k (Nat.le_refl _) x ok aq hV (fun e he hb=>inv.closed k ok hV av e he hb) i aa
       rw [mH] at this; cases this
    have MS:hs=hs.take i ++ h :: hs.drop (i + 1):=by
     have O2:i < hs.length:=by omega
     rw [List.getElem?_eq_getElem O2] at er
     cases er
     rw [List.getElem_cons_drop]
     exact(List.take_append_drop i hs).symm
    have O3:(hs.take i).length=i:=by rw [List.length_take]; omega
    have A3:∀ (t:Nat) (τ:I),look E t=some τ→ ∀ (m:Nat) (x:ec),hs[m]? =some x→b4.getD (0 + m) false=true→x.slot≠some t:=fun t τ ao m x aq En fr=>by
     rw [Nat.zero_add] at En
     have IG:i≠m:=fun e=>by subst e; rw [mH] at En; cases En
     obtain⟨_,BC,_,A6⟩:=uF m (by have:=(List.getElem?_eq_some_iff.1 aq).1; omega)
     have:=Em b4 inv m m (Nat.le_refl _) x BC aq A6 (fun e he hb=>inv.closed m BC A6 En e he hb) i (WG t τ ao m x aq fr i e3 IG)
     rw [mH] at this; cases this
    have NT:=(qS.get cC i h o er (by rw [Array.getElem?_toList]; exact bp))
    rw [Nat.zero_add] at NT
    have Y6:=NT hd (jo (fun i=>b4.getD i false) hd E 0 hs) (ix (fun i=>b4.getD i false) hd 0 hs L) (fun t τ ao=> ?_) (fun j e aE aQ=> ?_) (Gq hw)
    ·have hw:=Kv (K:=fun a W=> ∃ x,bS c (rp h.slot (h.τ (g6 h.up i (lQ hd i x))) (jo (fun i=>b4.getD i false) hd E 0 hs)) (mJ (ix (fun i=>b4.getD i false) hd 0 hs L) (h.eN (g6 h.up i (lQ hd i x))) h.wr) a W) bp (Y6 a W st)
     refine wpOpIn_mono (fun ie W' ⟨x,px⟩=> ?_) hw
     have O4:∀ j,j≠i→lQ hd i x j=hd j:=fun j aE=>by
      have:Nat.beq j i=false:=by
       cases hb:Nat.beq j i
       ·rfl
       ·exact absurd (fc.1 hb) aE
      simp only [lQ,this,cond_false]
     have IH:∀ (j:Nat) (y:ec),hs[j]? =some y→b4.getD j false=true→g6 y.up j (lQ hd i x)=g6 y.up j hd:=fun j y a6 aE=>by
      obtain⟨_,oO,_,mi⟩:=uF j (by have:=(List.getElem?_eq_some_iff.1 a6).1; omega)
      refine SI (O4 j fun e=>by subst e; rw [mH] at aE; cases aE) fun k av=>O4 k fun e=> ?_
      have:=Em b4 inv j j (Nat.le_refl _) y oO a6 mi (fun e he hb=>inv.closed j oO mi aE e he hb) k av
      subst e
      rw [mH] at this; cases this
     have O5:(b4.setIfInBounds i true).getD i false=true:=by simp [DV]
     have hC:∀ j,j≠i→ (b4.setIfInBounds i true).getD j false=b4.getD j false:=fun j aE=>getD_set_ne false (fun e=>aE e.symm)
     refine b1 _ (lQ hd i x) ie W' uC uD ?_
     have Yg:ix (fun j=>(b4.setIfInBounds i true).getD j false) (lQ hd i x) 0 hs L=mJ (ix (fun i=>b4.getD i false) hd 0 hs L) (h.eN (g6 h.up i (lQ hd i x))) h.wr:=by
      apply List.ext_getElem?
      intro j
      rw [Dc,FX,Dc]
      by_cases aE:h.wr.contains j=true
      ·rw [if_pos aE]
       have aA:∀ (ls:Nat→Bool) (g:Nat→Hid) (v:Option aO),(∀ k x,hs[k]? =some x→i < k→x.wr.contains j=true→ls k=false)→k9 ls g j 0 hs v=(bif ls i then(k9 ls g j 0 (hs.take i) v).map (fun _=>h.eN (g6 h.up i g) j) else k9 ls g j 0 (hs.take i) v):=fun ls g v ID=>by
        conv=>lhs; rw [MS]
        rw [Fp,O3,Nat.zero_add,k9,aE,Bool.and_true,FJ]
        intro k x aq hw
        rw [List.getElem?_drop] at aq
        exact ID (i + 1 + k) x aq (by omega) hw
       have gK:∀ k x,hs[k]? =some x→i < k→x.wr.contains j=true→b4.getD k false=false:=fun k x aq j6 hw=>MR k x aq j6 ⟨j,by simpa using hw,.inr aE⟩
       rw [aA (fun j=>(b4.setIfInBounds i true).getD j false) (lQ hd i x) _ (fun k x aq j6 hw=>by rw [hC k (by omega)]; exact gK k x aq j6 hw),aA (fun j=>b4.getD j false) hd _ gK]
       simp only [O5,mH,cond_true,cond_false]
       rw [CE (ls':=fun j=>b4.getD j false) (hd':=hd) fun q x aq _=>by
        have hq:q < i:=by have:=(List.getElem?_eq_some_iff.1 aq).1; omega
        rw [List.getElem?_take,if_pos hq] at aq
        rw [Nat.zero_add]
        exact⟨hC q (by omega),fun ao=>IH q x aq (by rw [hC q (by omega)] at ao; exact ao)⟩]
      ·rw [if_neg aE]
       refine CE fun q x aq hw=> ?_
       rw [Nat.zero_add]
       have hq:q≠i:=fun e=>by subst e; rw [er] at aq; cases aq; exact aE hw
       exact⟨hC q hq,fun ao=>IH q x aq (by rw [hC q hq] at ao; exact ao)⟩
     rw [Yg]
     refine px.less fun t τ ao=> ?_
     rcases Lz ao with⟨j,y,aa,ae,aD,aV⟩ | ⟨aa,gK⟩
     ·rw [Nat.zero_add] at ae aV
      by_cases jL:j=i
      ·subst jL
       rw [er] at aa
       cases aa
       exact⟨τ,by rw [aD,aV]; simp [rp,look,Nat.beq_refl],fun _ _ _ h=>h⟩
      ·rw [hC j jL] at ae
       rw [IH j y aa ae] at aV
       have a1:=FY (ls:=fun i=>b4.getD i false) (hd:=hd) (E:=E) (k:=0) aa (by rw [Nat.zero_add]; exact ae) aD fun q z hq dI=>Hn q j t z y hq aa dI aD
       rw [Nat.zero_add,← aV] at a1
       refine⟨τ,?_,fun _ _ _ h=>h⟩
       cases AT:h.slot with
       | none=>exact a1
       | some s=>
         have dz:Nat.beq s t=false:=by
          cases hb:Nat.beq s t
          ·rfl
          ·have:=fc.1 hb; subst this
           exact absurd (Hn j i s y h aa er aD AT) jL
         simp only [rp,look,dz,cond_false]
         exact a1
     ·have hb:=A3 t τ aa
      have a1:=FK (ls:=fun i=>b4.getD i false) (hd:=hd) (E:=E) (k:=0) hb
      refine⟨τ,?_,fun _ _ _ h=>h⟩
      cases AT:h.slot with
      | none=>simp only [rp]; rw [a1]; exact aa
      | some s=>
        have dz:Nat.beq s t=false:=by
         cases pn:Nat.beq s t
         ·rfl
         ·have:=fc.1 pn; subst this
          exact absurd AT (gK i h er (by rw [Nat.zero_add]; exact O5))
        simp only [rp,look,dz,cond_false]
        rw [a1]; exact aa
    ·rcases Md ao with⟨j,aE,y,aa,ae,aD⟩ | aa
     ·have a1:=FY (ls:=fun i=>b4.getD i false) (hd:=hd) (E:=E) (k:=0) aa (by rw [Nat.zero_add]; exact Ox j aE) ae fun q z hq dI=>Hn q j t z y hq aa dI ae
      rw [Nat.zero_add,← aD] at a1
      exact a1
     ·rw [FK (A3 t τ aa)]; exact aa
    ·rw [Dc] at aE ⊢
     rw [← aE]
     conv=>lhs; rw [MS]
     rw [Fp,FJ]
     ·refine CE fun q x aq hw=> ?_
      rw [Nat.zero_add]
      have hq:q < i:=by have:=(List.getElem?_eq_some_iff.1 aq).1; omega
      rw [List.getElem?_take,if_pos hq] at aq
      exact⟨Ox q ((AA q x aq).1 hq ⟨j,by simpa using hw,aQ⟩),fun _=>rfl⟩
     ·intro q x aq hw
      rw [O3,Nat.zero_add]
      cases q with
      | zero=>exact mH
      | succ q=>
        simp only [List.getElem?_cons_succ] at aq
        rw [List.getElem?_drop] at aq
        exact MR (i + (q + 1)) x (by rw [← aq]; congr 1; omega) (by omega) ⟨j,by simpa using hw,.inl aQ⟩
theorem ah.MT {np:Nat} {rD:Nat} {l:List Oper} (hm:c.P.follows .mixedOrders=true) (hs:List ec) (ds:List (Option Nat × List Nat × List Nat × List Nat)) (es:List Nat) (hU:mR hs=ds) (A7:E.map (·.1)=es) (jc:Gv.ki l.toArray ds es=true) (hw:∀ h∈hs,∀ j∈h.wr,j < np∨L.length≤j)
 (cC:qS c l.toArray Q hs E L np 0 l hs) (cj:∀ hd,ad c Q .normal (jo (fun _=>true) hd E 0 hs) (ix (fun _=>true) hd 0 hs L)):ah c Q (.region rD l.toArray true) E L:=fun a W s=>by
 subst hU A7
 refine wpIn_region_any hm ?_
 have HQ:HeadInv .any l.toArray l.toArray.size (Array.replicate l.toArray.size false):=
  {size:=by simp
   closed:=fun j oO _ ao=>by rw [getD_replicate_false] at ao; cases ao
   tail:=fun t aa ae=>by omega }
 refine R7 hw (ops:=l.toArray) (Q:=Q) jc (by simpa using cC) cj l.toArray.size (Array.replicate l.toArray.size false) (fun _ _=>none) a W.drew (Nat.le_trans (List.length_filter_le _ _) (by simp)) HQ ?_
 have aa:∀ (hs:List ec) (k:Nat),jo (fun i=>(Array.replicate l.toArray.size false).getD i false) (fun _ _=>none) E k hs=E:=by
  intro hs
  induction hs with
  | nil=>intro k; rfl
  | cons h r b1=>
    intro k
    have ae:=b1 (k + 1)
    simp only [getD_replicate_false] at ae
    unfold jo
    simp only [getD_replicate_false]
    exact ae
 have ae:∀ (hs:List ec) (k:Nat) (L:List aO),ix (fun i=>(Array.replicate l.toArray.size false).getD i false) (fun _ _=>none) k hs L=L:=by
  intro hs
  induction hs with
  | nil=>intro k L; rfl
  | cons h r b1=>intro k L; rw [ix,b1]; simp only [getD_replicate_false,cond_false]
 rw [aa,ae]
 exact s.world (Fr.drew W)
theorem ah.ki {rD:Nat} {l:List Oper} (hm:c.P.follows .mixedOrders=true) (hs:List ec) (ds:List (Option Nat × List Nat × List Nat × List Nat)) (es:List Nat) (hU:mR hs=ds) (A7:E.map (·.1)=es) (jc:Gv.ki l.toArray ds es=true)
 (cC:sC c l.toArray Q hs E L 0 l hs) (cj:∀ hd,ad c Q .normal (jo (fun _=>true) hd E 0 hs) (ix (fun _=>true) hd 0 hs L)):ah c Q (.region rD l.toArray true) E L:=
 ah.MT (np:=L.length) hm hs ds es hU A7 jc (fun _ _ j _=>by omega) cC.O0 cj
theorem WH {hs:List ec} {ds:List (Option Nat × List Nat × List Nat × List Nat)} {np:Nat} (hU:mR hs=ds) (h:(ds.all fun d=>d.2.2.2.all fun j=>Nat.blt j np)=true):∀ h∈hs,∀ j∈h.wr,j < np∨L.length≤j:=fun x aq j aE=>by
 subst hU
 have aa:=List.all_eq_true.1 h (x.slot,x.up,x.rd,x.wr) (List.mem_map.2 ⟨x,aq,rfl⟩)
 have ae:=List.all_eq_true.1 aa j aE
 exact .inl (Nat.blt_eq.mp ae)
theorem ah.sE {rD:Nat} {l:List Oper} (np:Nat) (hm:c.P.follows .mixedOrders=true) (hs:List ec) (ds:List (Option Nat × List Nat × List Nat × List Nat)) (es:List Nat) (hU:mR hs=ds) (A7:E.map (·.1)=es) (jc:Gv.ki l.toArray ds es=true) (hw:(ds.all fun d=>d.2.2.2.all fun j=>Nat.blt j np)=true)
 (cC:qS c l.toArray Q hs E L np 0 l hs) (cj:∀ hd,ad c Q .normal (jo (fun _=>true) hd E 0 hs) (ix (fun _=>true) hd 0 hs L)):ah c Q (.region rD l.toArray true) E L:=
 ah.MT hm hs ds es hU A7 jc (WH hU hw) cC cj
theorem ad.fin {slot:Option Nat} {up wr:List Nat} {i:Nat} {hd:Nat→Hid} {τ:(Nat→Hid)→I} {eN:(Nat→Hid)→Nat→aO} {E' BD:List (Nat × I)} {ay L2:List aO} (x:Hid) (aH:BD=rp slot (τ (g6 up i (lQ hd i x))) E') (au:L2=mJ ay (eN (g6 up i (lQ hd i x))) wr):
 ad c (qx (fun a W=> ∃ x,bS c (rp slot (τ (g6 up i (lQ hd i x))) E') (mJ ay (eN (g6 up i (lQ hd i x))) wr) a W) Q) .normal BD L2:=fun a W s=>by
 subst aH au
 exact⟨x,s⟩
theorem ad.place {z:Exit} {e:aO} (j:Nat) (aE:L[j]? =some ⟨none,.dead⟩) (k:ad c Q z E (L.set j e)):ad c Q z E (e :: L):=fun a W s=>by
 refine k a W (s.sub (fun x aq=> ?_) ?_)
 ·rcases List.mem_or_eq_of_mem_set aq with h | h
  ·exact List.mem_cons.2 (.inr h)
  ·exact List.mem_cons.2 (.inl h)
 ·have aa:=sc aE
  have ae:(L.set j e).Perm (e :: L.eraseIdx j):=by
   have aD:(L.set j e)[j]? =some e:=by rw [List.getElem?_set_self (List.getElem?_eq_some_iff.1 aE).1]
   have aV:=sc aD
   rwa [List.eraseIdx_set_eq] at aV
  have a1:=tQ (aa.cons e)
  have bo:aP (e :: ⟨none,.dead⟩ :: L.eraseIdx j)=aP (e :: L.eraseIdx j):=by cases av:e.key <;> simp [aP,av]
  rw [bo] at a1
  exact(tQ ae).nodup_iff.2 (a1.nodup_iff.1 s.nodup)
theorem ad.back {z:Exit} {e jN:aO} (j:Nat) (aE:L[j]? =some jN) (k:ad c Q z E (L.set j e)):ad c Q z E (e :: L.eraseIdx j):=fun a W s=>by
 have aD:(L.set j e)[j]? =some e:=by rw [List.getElem?_set_self (List.getElem?_eq_some_iff.1 aE).1]
 have aV:=sc aD
 rw [List.eraseIdx_set_eq] at aV
 exact k a W (s.perm aV.symm)
theorem ah.ri {z:Code} (n:Nat) (k:ah c Q z E (L ++ List.replicate n ⟨none,.dead⟩)):ah c Q z E L:=fun a W s=>by
 refine k a W ?_
 have av:aP (L ++ List.replicate n ⟨none,.dead⟩)=aP L:=by
  rw [e6]
  have:∀ n,aP (List.replicate n (⟨none,.dead⟩:aO))= []:=fun n=>by
   induction n with
   | zero=>rfl
   | succ n b1=>rw [List.replicate_succ]; simp [aP,b1]
  rw [this,List.append_nil]
 exact
 {defers:=s.defers
  size:=s.size
  env:=fun t τ ao=>by rw [av]; exact s.env t τ ao
  dD:=s.dD
  own:=fun e he=>by
   rw [av]
   rcases List.mem_append.1 he with he | he
   ·exact s.own e he
   ·rw [(List.mem_replicate.1 he).2]; trivial
  nodup:=by rw [av]; exact s.nodup
  lt:=by rw [av]; exact s.lt
  fY:=by rw [av]; exact s.fY
  eU:=by rw [av]; exact s.eU }
theorem ah.Wx {z:Code} (n m:Nat) (k:ah c Q z E (L.take m ++ (List.replicate n ⟨none,.dead⟩ ++ L.drop m))):ah c Q z E L:=by
 refine ah.ri n fun a W s=>k a W (s.perm ?_)
 have e:L=L.take m ++ L.drop m:=(List.take_append_drop m L).symm
 conv=>lhs; rw [e]
 rw [List.append_assoc]
 exact List.perm_append_comm.append_left _
theorem ad.eI {z:Exit} {L2:List aO} (h:L=L2) (k:ad c Q z E L2):ad c Q z E L:=by subst h; exact k
theorem ad.k6 {z:Exit} {key:Option Nat} {n m cap:Nat} (fo:Nat) (ao:look E fo=some (.eq (a0 key n cap))) (aR:n=m) (k:ad c Q z ((fo,.eq (a0 key m cap)) :: E) L):ad c Q z E L:=fun a W s=>by
 subst aR
 refine k a W (s.less fun t τ h=> ?_)
 simp only [look] at h
 by_cases e:Nat.beq fo t=true
 ·rw [e] at h
  simp only [cond_true] at h
  have:=fc.1 e
  subst this
  exact⟨τ,by rw [ao,h],fun _ _ _ h=>h⟩
 ·simp only [Bool.not_eq_true] at e
  rw [e] at h
  exact⟨τ,h,fun _ _ _ h=>h⟩
variable {hs:List ec} {i d:Nat} {up rd:List Nat} {eN:(Nat→Hid)→Nat→aO} {o:Oper}
theorem jF {τ:I} (bP:o.guard=none) (hd:o.dst=some d) (aR:Nat.blt d c.n=true)
 (h:∀ (hd:Nat→Hid) (E':List (Nat × I)) (ay:List aO),(∀ t τ,look (mj hd hs E up) t=some τ→look E' t=some τ)→ (∀ j e,(ix (fun _=>true) hd 0 (hs.take i) L)[j]? =some e→rd.contains j=true→ay[j]? =some e)→b7 c E' ay o τ):
 df c ops Q hs E L i o ⟨some d,up,rd,[],fun _=>τ,eN⟩:=fun Y7 E' ay aH au=>
 aj.v (h Y7 E' ay aH au) bP hd aR (aj.nil (ad.fin (fun _=>none) rfl rfl))
variable {ty t:TypeId} {pos:String} {af:Array Edge}
theorem aj.Of {α:Type} [ai α] {rest:List Oper} {bb e n:Nat} {z:α} {r0 r:List α} {bq:List (Nat × Operand)} (hu:c.P.underlying t=some (.slice e)) (fC:bA c.P e α) (gB:cQ c.P e z) (hs:Nat.beq (ai.size α) 0=false) (aR:Nat.ble (n * ai.size α) 16777216=true)
 (a8:na c E L (List.replicate n z) bq r0) (aQ:r0=r) (kY:Nat.blt bb c.n=true) (k:∀ p,aj c ops Q rest ((bb,.eq (a0 p r.length n)) :: E) (⟨p,.row e r n⟩ :: L)):
 aj c ops Q (⟨some bb,.buildSlice t n bq.toArray,ty,pos,af,none⟩ :: rest) E L:=by subst aQ; exact aj.o8 hu fC gB hs aR a8 kY k
variable {g:Option (Nat × Bool)} {x y:Operand}
theorem S8 {a b:BitVec 64} {bb:Option Tmp} {ats:Array TypeId} (aq:bc c E L x (.of a)) (a6:bc c E L y (.of b)):b7 c E L ⟨bb,.call ⟨.builtin .min,#[x,y],ats⟩,ty,pos,af,g⟩ (.of (uA a b)):= .pure fun A W s=>
 ⟨.int .u64 (uA a b).toNat,by
   simp [execOp,resolve,invoke,builtin,Builtin.min_,Builtin.min2,fK.1 (aq A W s),fK.1 (a6 A W s)]
   unfold uA
   split <;> split <;> first | rfl | (rename_i aa ae; simp only [BitVec.le_def] at *; omega),fK.2 rfl⟩
end
end Gv
namespace Gv
open Go
set_option linter.unusedVariables false
set_option linter.unusedSimpArgs false
section
variable {c:dh} {E:List (Nat × I)} {L:List aO} {ops:Array Oper} {Q:Exit→Act→World→Prop}
variable {d:Option Tmp} {ty:TypeId} {pos:String} {af:Array Edge} {g:Option (Nat × Bool)} {x y:Operand} {t t2:TypeId}
def Src (c:dh) (E:List (Nat × I)) (L:List aO) (y:Operand) (N:Nat) {α:Type} [ai α] (vs:List α):Prop:=
 ∀ a W,bS c E L a W→ (Builtin.lenOf (a.eval y)).run c.P W= .ok N W∧ ∃ cells:List Value,(Builtin.firstCells (ai.size α) vs.length (a.eval y)).run c.P W= .ok cells.toArray W∧gv (aP L ++ c.b5) W cells vs∧ ∀ v∈cells,v.oneCell'=true
theorem aj.DC {rest:List Oper} {i e p off bb dLen dCap N T:Nat} {cp cp':dM} {α:Type} [ai α] {vs:List α} (hu:c.P.underlying t=some (.slice e)) (fC:bA c.P e α)
 (aq:bc c E L x (.eq (.slice (some ⟨p,off,none⟩) dLen dCap))) (a6:Src c E L y N vs) (HP:Nat.min N dLen=vs.length) (au:L[i]? =some ⟨some p,cp⟩) (aR:Nat.blt bb c.n=true)
 (Ih:∀ A W o cells,cp.holds A W o→gv A W cells vs→ ∃ cs,o= .cells cs T (0,0)∧off + cells.length≤cs.size∧cp'.holds A W (.cells (cs.toList.take off ++ cells ++ cs.toList.drop (off + cells.length)).toArray T (0,0)))
 (k:aj c ops Q rest ((bb,.of (vs.length:Int)) :: E) (L.set i ⟨some p,cp'⟩)):
 aj c ops Q (⟨some bb,.call ⟨.builtin .copy,#[x,y],#[t,t2]⟩,ty,pos,af,none⟩ :: rest) E L:=fun a W s=>by
 have kY:bb < c.n:=by simpa using aR
 have aa:a.eval x=_:=aq a W s
 obtain⟨ao,cells,ar,aQ,Ei⟩:=a6 a W s
 obtain⟨o,bp,cC⟩:=s.own _ (List.mem_of_getElem? au)
 obtain⟨cs,rfl,Ou,Ax⟩:=Ih _ _ _ _ cC aQ
 obtain⟨gp,ef,eV⟩:=fC.info
 have kQ:=run_storeCells_at (P:=c.P) p off T cells 0 cs W bp (by omega) Ei
 simp only [Nat.add_zero] at kQ
 have kK:(execOp a.eval ⟨some bb,.call ⟨.builtin .copy,#[x,y],#[t,t2]⟩,ty,pos,af,none⟩).run c.P W= .ok (.value (goInt vs.length)) (W.setRow p (cs.toList.take off ++ cells ++ cs.toList.drop (off + cells.length)).toArray):=by
  simp [execOp,resolve,invoke,builtin,Builtin.copy_,aa,run_underlying hu,ao,HP,Go.sizeOf,typeInfo,ef,eV,ar,kQ]
 refine h6 rfl (R:=fun v hH=>v=goInt vs.length∧hH=W.setRow p (cs.toList.take off ++ cells ++ cs.toList.drop (off + cells.length)).toArray) (.l5 kK ⟨rfl,rfl⟩) fun v hH ⟨aX,hw⟩=> ?_
 subst aX
 subst hw
 exact k _ _ ((s.store au bp Ax).put kY (of_int.2 rfl))
theorem Gg {i T cap lo N k:Nat} {key:Option Nat} {α:Type} [ai α] {xs:List α} (a6:bc c E L y (.eq (iD key lo N cap (ai.size α)))) (au:L[i]? =some ⟨key,.row T xs cap⟩) (av:0 < k) (hC:lo + k≤xs.length):
 Src c E L y N ((xs.drop lo).take k):=fun a W s=>by
 obtain⟨p,cs,rfl,eu,az,a5,bu,cM⟩:=s.rowAt au (by omega)
 have aa:a.eval y=_:=a6 a W s
 have lO:cap≠lo:=by omega
 have aX:a.eval y= .slice (some ⟨p,lo * ai.size α,none⟩) N (cap - lo):=by rw [aa]; simp [iD,lO]
 have hlen:((xs.drop lo).take k).length=k:=by rw [List.length_take,List.length_drop]; omega
 have rE:cs.toList.length=cap * ai.size α:=by simpa using az
 have Yh:(lo + k) * ai.size α≤xs.length * ai.size α:=Nat.mul_le_mul_right _ hC
 have D0:xs.length * ai.size α≤cap * ai.size α:=Nat.mul_le_mul_right _ a5
 rw [Nat.add_mul] at Yh
 have Oy:((cs.toList.drop (lo * ai.size α)).take (k * ai.size α)).length=k * ai.size α:=by rw [List.length_take,List.length_drop]; omega
 have fL:gv (aP L ++ c.b5) W ((cs.toList.drop (lo * ai.size α)).take (k * ai.size α)) ((xs.drop lo).take k):=by
  refine⟨by rw [Oy,hlen],fun j aE=> ?_⟩
  rw [hlen] at aE
  have a1:=cM.2 (lo + j) (by omega)
  have e3:=wi (s:=ai.size α) aE
  have aam:=wi (s:=ai.size α) (show lo + j < xs.length by omega)
  rw [List.drop_take,List.take_take,Nat.min_eq_left (by omega)] at a1
  rw [List.drop_take,List.take_take,Nat.min_eq_left (by omega),List.drop_drop,← Nat.add_mul]
  simpa using a1
 have fO:=run_loadCells_list (P:=c.P) W ⟨p,lo * ai.size α,none⟩ ((cs.toList.drop (lo * ai.size α)).take (k * ai.size α)) fun j v aX=>by
  rw [jh,cell_of_row W p _ cs T (0,0) eu]
  rw [List.getElem?_take] at aX
  split at aX
  ·rw [List.getElem?_drop] at aX; simpa using aX
  ·cases aX
 rw [Oy] at fO
 refine⟨by rw [aX]; rfl,(cs.toList.drop (lo * ai.size α)).take (k * ai.size α),?_,fL,fL.one⟩
 rw [aX]
 simp only [Builtin.firstCells]
 rw [hlen]
 exact fO
theorem Gf {p lo n cap size:Nat} (h:cap≠lo):iD (some p) lo n cap size=Value.slice (some ⟨p,lo * size,none⟩) n (cap - lo):=by simp [iD,h]
theorem L6 {i T cap:Nat} {key:Option Nat} {α:Type} [ai α] {xs:List α} (a6:bc c E L y (.eq (a0 key xs.length cap))) (au:L[i]? =some ⟨key,.row T xs cap⟩) (aq:0 < xs.length):Src c E L y xs.length xs:=by
 have:=Gg (lo:=0) (k:=xs.length) (N:=xs.length) (by rw [yO]; exact a6) au aq (by omega)
 simpa using this
theorem C9 {key:Option Nat} {n cap size:Nat} (h:bc c E L x (.eq (iD key 0 n cap size))):bc c E L x (.eq (a0 key n cap)):=by rw [← yO (size:=size)]; exact h
theorem GK {p lo n cap size:Nat} (ar:cap≠lo) (h:bc c E L x (.eq (iD (some p) lo n cap size))):bc c E L x (.eq (.slice (some ⟨p,lo * size,none⟩) n (cap - lo))):=by rw [← Gf ar]; exact h
def dM.AP {α:Type} [ai α] (T:TypeId) (xs:List α) (i m cap:Nat):dM where
 holds A W o:= ∃ cs,o= .cells cs T (0,0)∧cs.size=cap * ai.size α∧xs.length + m≤cap∧cap≤maxLen∧gv A W (cs.toList.take (i * ai.size α)) (xs.take i)∧
  gv A W ((cs.toList.drop ((i + m) * ai.size α)).take ((xs.length - i) * ai.size α)) (xs.drop i)
 nf:=False
 mono e h:=let⟨cs,aa,ae,aD,aV,a1,bo⟩:=h; ⟨cs,aa,ae,aD,aV,a1.mono e,bo.mono e⟩
theorem TP {α:Type} [ai α] {T i m cap:Nat} {xs:List α} (an:i≤xs.length) (hm:xs.length + m≤cap) {A W o cells} (h:(dM.row T xs cap).holds A W o) (ar:gv A W cells (xs.drop i)):
 ∃ cs,o= .cells cs T (0,0)∧ (i + m) * ai.size α + cells.length≤cs.size∧ (dM.AP T xs i m cap).holds A W (.cells (cs.toList.take ((i + m) * ai.size α) ++ cells ++ cs.toList.drop ((i + m) * ai.size α + cells.length)).toArray T (0,0)):=by
 obtain⟨cs,rfl,az,a5,bu,cM⟩:=h
 have rE:cs.toList.length=cap * ai.size α:=by simpa using az
 have lO:cells.length=(xs.length - i) * ai.size α:=by rw [ar.1,List.length_drop]
 have aA:(i + m) * ai.size α + (xs.length - i) * ai.size α=(xs.length + m) * ai.size α:=by rw [← Nat.add_mul]; congr 1; omega
 have aU:(xs.length + m) * ai.size α≤cap * ai.size α:=Nat.mul_le_mul_right _ hm
 have cL:i * ai.size α≤ (i + m) * ai.size α:=Nat.mul_le_mul_right _ (by omega)
 have eO:i * ai.size α≤xs.length * ai.size α:=Nat.mul_le_mul_right _ an
 have gz:(cs.toList.take ((i + m) * ai.size α)).length=(i + m) * ai.size α:=by rw [List.length_take]; omega
 refine⟨cs,rfl,by omega,_,rfl,?_,hm,bu,?_,?_⟩
 ·simp only [List.size_toArray,List.length_append,List.length_take,List.length_drop]; omega
 ·rw [List.toList_toArray,List.append_assoc,List.take_append_of_le_length (by rw [gz]; omega),List.take_take,Nat.min_eq_left cL]
  have:=FW an (⟨cs,rfl,az,a5,bu,cM⟩:(dM.row T xs cap).holds A W (.cells cs T (0,0)))
  obtain⟨Y8,aa,_,_,_,a1⟩:=this
  cases aa
  rwa [List.length_take,Nat.min_eq_left an] at a1
 ·rw [List.toList_toArray,List.append_assoc,List.drop_left' gz,← lO,List.take_left]
  exact ar
theorem S7 {α:Type} [ai α] {T i cap:Nat} {xs vs:List α} (an:i≤xs.length) {A W o cells} (h:(dM.AP T xs i vs.length cap).holds A W o) (ar:gv A W cells vs):
 ∃ cs,o= .cells cs T (0,0)∧i * ai.size α + cells.length≤cs.size∧ (dM.row T (xs.take i ++ vs ++ xs.drop i) cap).holds A W (.cells (cs.toList.take (i * ai.size α) ++ cells ++ cs.toList.drop (i * ai.size α + cells.length)).toArray T (0,0)):=by
 obtain⟨cs,rfl,az,a5,bu,cM,gO⟩:=h
 have rE:cs.toList.length=cap * ai.size α:=by simpa using az
 have lO:cells.length=vs.length * ai.size α:=ar.1
 have jN:i * ai.size α + vs.length * ai.size α=(i + vs.length) * ai.size α:=by rw [← Nat.add_mul]
 have aA:(i + vs.length) * ai.size α + (xs.length - i) * ai.size α=(xs.length + vs.length) * ai.size α:=by rw [← Nat.add_mul]; congr 1; omega
 have aU:(xs.length + vs.length) * ai.size α≤cap * ai.size α:=Nat.mul_le_mul_right _ a5
 have hlen:(xs.take i ++ vs ++ xs.drop i).length=xs.length + vs.length:=by simp; omega
 refine⟨cs,rfl,by omega,_,rfl,?_,by rw [hlen]; exact a5,bu,?_⟩
 ·simp only [List.size_toArray,List.length_append,List.length_take,List.length_drop]; omega
 ·rw [List.toList_toArray,hlen]
  have jG:=sb (sb cM ar) gO
  have gz:(cs.toList.take (i * ai.size α) ++ cells).length=(i + vs.length) * ai.size α:=by rw [List.length_append,List.length_take]; omega
  have hE:(cs.toList.take (i * ai.size α) ++ cells ++ cs.toList.drop (i * ai.size α + cells.length)).take ((xs.length + vs.length) * ai.size α)=cs.toList.take (i * ai.size α) ++ cells ++ (cs.toList.drop ((i + vs.length) * ai.size α)).take ((xs.length - i) * ai.size α):=by
   rw [List.take_append,gz,List.take_of_length_le (by omega),lO,jN]
   congr 2
   omega
  rw [hE]
  exact jG
theorem Lp {α:Type} [ai α] {T lo cap:Nat} {xs vs:List α} (av:lo + vs.length≤xs.length) {A W o cells} (h:(dM.row T xs cap).holds A W o) (ar:gv A W cells vs):
 ∃ cs,o= .cells cs T (0,0)∧lo * ai.size α + cells.length≤cs.size∧ (dM.row T (xs.take lo ++ vs ++ xs.drop (lo + vs.length)) cap).holds A W (.cells (cs.toList.take (lo * ai.size α) ++ cells ++ cs.toList.drop (lo * ai.size α + cells.length)).toArray T (0,0)):=by
 obtain⟨cs,rfl,az,a5,bu,cM⟩:=h
 have rE:cs.toList.length=cap * ai.size α:=by simpa using az
 have lO:cells.length=vs.length * ai.size α:=ar.1
 have jN:lo * ai.size α + vs.length * ai.size α=(lo + vs.length) * ai.size α:=by rw [← Nat.add_mul]
 have aA:(lo + vs.length) * ai.size α≤xs.length * ai.size α:=Nat.mul_le_mul_right _ av
 have aU:xs.length * ai.size α≤cap * ai.size α:=Nat.mul_le_mul_right _ a5
 have hlen:(xs.take lo ++ vs ++ xs.drop (lo + vs.length)).length=xs.length:=by simp; omega
 refine⟨cs,rfl,by omega,_,rfl,?_,by rw [hlen]; exact a5,bu,?_⟩
 ·simp only [List.size_toArray,List.length_append,List.length_take,List.length_drop]; omega
 ·rw [List.toList_toArray,hlen]
  have gO:=K8 (lo:=lo) cM ar av
  have e:(cs.toList.take (lo * ai.size α) ++ cells ++ cs.toList.drop (lo * ai.size α + cells.length)).take (xs.length * ai.size α)=(cs.toList.take (xs.length * ai.size α)).take (lo * ai.size α) ++ cells ++ (cs.toList.take (xs.length * ai.size α)).drop (lo * ai.size α + cells.length):=by
   have cL:(cs.toList.take (lo * ai.size α) ++ cells).length=lo * ai.size α + cells.length:=by rw [List.length_append,List.length_take]; omega
   rw [List.take_append,cL,List.take_of_length_le (by omega),List.take_take,Nat.min_eq_left (by omega),List.drop_take]
  rw [e]
  exact gO
theorem UB {p n cap e:Nat} (hu:c.P.underlying t=some (.slice e)) (aq:bc c E L x (.eq (a0 (some p) n cap))):b7 c E L ⟨d,.call ⟨.builtin .cap,#[x],#[t]⟩,ty,pos,af,g⟩ (.of (cap:Int)):= .pure fun a W s=>by
 have aa:a.eval x=_:=aq a W s
 exact⟨.int .i64 cap,by simp [execOp,resolve,invoke,builtin,Builtin.cap_,aa,a0,run_underlying hu,goInt],of_int.2 rfl⟩
theorem sg {p n cap:Nat} {α:Type} [ai α] {e:TypeId} {lo an:Option Operand} {m h:Nat} {BA BB:Int} (hu:c.P.underlying t=some (.slice e)) (fC:bA c.P e α) (aq:bc c E L x (.eq (a0 (some p) n cap)))
 (hC:tg c E L lo BA 0) (er:tg c E L an BB n) (hm:BA=m) (aR:BB=h) (cC:m≤h∧h≤cap):
 b7 c E L ⟨d,.slice t x lo an none,ty,pos,af,g⟩ (.eq (iD (some p) m (h - m) cap (ai.size α))):= .pure fun a W s=>by
 subst hm; subst aR
 obtain⟨uU,nt⟩:=cC
 obtain⟨gp,ef,eV⟩:=fC.info
 have aa:a.eval x=_:=aq a W s
 refine⟨_,?_,rfl⟩
 simp only [iD]
 have au:∀ v,v=Value.int .i64 m→ (Instr.sliceBound v h .sliceB).run c.P W= .ok m W:=fun v aX=>pN uU aX
 have jd:∀ v,v=Value.int .i64 h→ (Instr.sliceBound v cap .sliceAcap).run c.P W= .ok h W:=fun v aX=>pN (by omega) aX
 generalize e3:(h:Int)=Pw at er
 generalize AZ:(m:Int)=Px at hC
 generalize A0:(n:Int)=Py at er
 generalize OR:(0:Int)=Pz at hC
 cases hC with
 | none=>
   have hr:m=0:=by omega
   cases er with
   | none=>
     have nt:h=n:=by omega
     subst nt
     subst hr
     simp [execOp,Instr.sliceAt,Instr.slice,Instr.sliceBounds,aa,a0,run_underlying hu,Go.sizeOf,typeInfo,ef,eV,jh]
   | some cC=>
     subst e3
     subst hr
     simp [execOp,Instr.sliceAt,Instr.slice,Instr.sliceBounds,aa,a0,run_underlying hu,Go.sizeOf,typeInfo,ef,eV,jh,jd _ (of_int.1 (cC a W s))]
 | some ao=>
   subst AZ
   cases er with
   | none=>
     have nt:h=n:=by omega
     subst nt
     simp [execOp,Instr.sliceAt,Instr.slice,Instr.sliceBounds,aa,a0,run_underlying hu,Go.sizeOf,typeInfo,ef,eV,jh,au _ (of_int.1 (ao a W s))]
     split <;> rfl
   | some cC=>
     subst e3
     simp [execOp,Instr.sliceAt,Instr.slice,Instr.sliceBounds,aa,a0,run_underlying hu,Go.sizeOf,typeInfo,ef,eV,jh,au _ (of_int.1 (ao a W s)),jd _ (of_int.1 (cC a W s))]
     split <;> rfl
theorem V2 {f:FuncId} {fn:Func} {p q T U cap cap' i j e tR pH PE hN ig PF jy:Nat} {α:Type} [ai α] {xs vs:List α} (AD:Nat.beq (ai.size α) 0=false)
 (a8:c.P.funcs[f]? =some fn) (WI:(fn.name == "runtime.NumGoroutine")=false) (hb:fn.body.isNone=true) (aR:Extern.findNext fn=none)
 (he:Extern.find fn=some (Extern.SlicesOverlaps.overlaps #[t,t] #[tR])) (hu:c.P.underlying t=some (.slice e)) (fC:bA c.P e α)
 (aq:bc c E L x (.eq (.slice (some ⟨q,PF,none⟩) pH PE))) (a6:bc c E L y (.eq (.slice (some ⟨p,jy,none⟩) hN ig)))
 (an:L[i]? =some ⟨some p,.row T xs cap⟩) (aE:L[j]? =some ⟨some q,.row U vs cap'⟩) (Ef:p≠q) (At:0 < cap):
 b7 c E L ⟨d,.call ⟨.value (.func f),#[x,y],#[t,t]⟩,ty,pos,af,g⟩ (.of false):= .pure fun a W s=>by
 obtain⟨o,bp,cs,rfl,az,a5,bu,cM⟩:=s.own _ (List.mem_of_getElem? an)
 obtain⟨o',rB,dK,rfl,aZ,b0,c1,fm⟩:=s.own _ (List.mem_of_getElem? aE)
 obtain⟨gp,ef,eV⟩:=fC.info
 have aa:a.eval x=_:=aq a W s
 have ae:a.eval y=_:=a6 a W s
 have jb:ai.size α≠0:=fun h=>by rw [h] at AD; cases AD
 have dz:cs.size≠0:=by rw [az]; exact Nat.mul_ne_zero (by omega) jb
 have Y9:=Lib.run_overlaps_apart (P:=c.P) W t tR e hu (ai.size α) (fun w=>by simp [Go.sizeOf,typeInfo,ef,eV]) ⟨q,PF,none⟩ ⟨p,jy,none⟩ pH PE hN ig (fun h=>Ef h.symm) U T dK.size cs.size
  (by simp [World.shape?,rB]) (by simp [World.shape?,bp]) dz (by simp [World.frozen?,rB]) (by simp [World.frozen?,rB])
 refine⟨.bool false,?_,by exact of_bool.2 rfl⟩
 have bW:a.eval (.func f)= .func (.func f) #[] #[]:=rfl
 simp [execOp,resolve,Deferred.ofValue,bW,invoke,run_callFunc_extern a8 WI hb aR he,aa,ae,Y9]
theorem aj.XI {α:Type} [ai α] {rest:List Oper} {bb i e bytes cap m k p T:Nat} {PG:IntKind} {xs:List α} {z:α} (hu:c.P.underlying t=some (.slice e)) (pr:c.P.underlying t2=some (.int PG)) (fC:bA c.P e α) (gB:cQ c.P e z) (AD:Nat.beq (ai.size α) 0=false)
 (uV:(c.P.info? e).map (·.bytes)=some bytes) (aq:bc c E L x (.eq (iD (some p) 0 m cap (ai.size α)))) (a6:bc c E L y (.of (k:Int))) (au:L[i]? =some ⟨some p,.row T xs cap⟩) (hm:m≤xs.length) (av:0 < k) (bP:cap < m + k)
 (uP:(m + k) * bytes≤140737488355328) (pn:m + k≤maxLen) (aR:Nat.blt bb c.n=true)
 (pI:∀ q cap',aj c ops Q rest ((bb,.eq (a0 (some q) (m + k) cap')) :: E) (⟨some q,.row e (xs.take m ++ List.replicate k z) cap'⟩ :: L)):
 aj c ops Q (⟨some bb,.call ⟨.builtin .append,#[x,y],#[t,t2]⟩,ty,pos,af,none⟩ :: rest) E L:=fun a W s=>by
 obtain⟨gp,dX,ef,dI,qm⟩:=gB.zero
 have mI:gp.size=ai.size α:=by
  obtain⟨i2,aa,ae⟩:=fC.info
  rw [ef] at aa; cases aa; exact ae
 have GO:gp.bytes=bytes:=by simpa [ef] using uV
 subst GO
 have uW:dX.cells.size=ai.size α:=by have:=ai.len (qm [] W).2; simpa using this
 have jb:ai.size α≠0:=fun h=>by rw [h] at AD; cases AD
 have kY:bb < c.n:=by simpa using aR
 have aa:a.eval x= .slice (some ⟨p,0,none⟩) m cap:=by
  have:=aq a W s
  rw [yO] at this
  exact this
 obtain⟨o,bp,cs,rfl,az,a5,bu,cM⟩:=s.own _ (List.mem_of_getElem? au)
 have po:maxLen=9223372036854775807:=rfl
 have ae:a.eval y= .int .i64 k:=of_int.1 (a6 a W s)
 have Yi:=FW hm (⟨cs,rfl,az,a5,bu,cM⟩:(dM.row T xs cap).holds (aP L ++ c.b5) W (.cells cs T (0,0)))
 obtain⟨Y8,aA,_,_,_,II⟩:=Yi
 cases aA
 have HS:(xs.take m).length=m:=by rw [List.length_take]; omega
 rw [HS] at II
 have ra:∀ (j:Nat) u,(cs.toList.take (m * ai.size α))[j]? =some u→W.drew.cell? ((⟨p,0,none⟩:Addr).add j)=some u:=by
  intro j u n5
  rw [List.getElem?_take] at n5
  split at n5
  ·rw [jh,Nat.zero_add,cell_of_row W.drew p j cs T (0,0) bp]; simpa using n5
  ·cases n5
 have hold:=run_loadCells_list (P:=c.P) W.drew ⟨p,0,none⟩ _ ra
 rw [II.1,HS] at hold
 have aQ:=Lib.run_append_grow_zeros (P:=c.P) W t t2 ty e gp dX .i64 PG hu pr ef dI (some ⟨p,0,none⟩) m cap _ (by simp only [Builtin.firstCells]; rw [mI]; exact hold) k av (by omega) bP (by omega)
  (by have:k * gp.bytes≤ (m + k) * gp.bytes:=Nat.mul_le_mul_right _ (by omega)
      omega) (growslice_fits bP uP)
 have uX:=grownCap_ge W (m + k) cap e
 have hle:=grownCap_le_maxLen W (m + k) cap e pn
 have Ek:=qm (aP L ++ c.b5) W
 have pv:=yQ Ek k jb
 have IC:Builtin.zeroCells dX.cells k=(Array.range (k * ai.size α)).map (dX.cells[· % dX.cells.size]!):=by rw [Builtin.zeroCells,uW]
 rw [← IC] at pv
 have wY:=(sb II pv).mono (Ext.dD (Fr.drew W))
 have hlen:(xs.take m ++ List.replicate k z).length=m + k:=by rw [List.length_append,HS,List.length_replicate]
 have kQ:=(s.world (Fr.drew W)).alloc (o:= .cells ((cs.toList.take (m * ai.size α)).toArray ++ Builtin.zeroCells dX.cells k ++ Builtin.zeroCells dX.cells (grownCap W (m + k) cap e - (m + k))) e)
  (cp:= .row e (xs.take m ++ List.replicate k z) (grownCap W (m + k) cap e))
  (Gn (T:=e) wY (ds:=(Builtin.zeroCells dX.cells (grownCap W (m + k) cap e - (m + k))).toList) (by rw [Array.length_toList,size_zeroCells,uW,hlen]) (by rw [hlen]; exact uX) hle (by simp))
 refine h6 rfl (R:=fun v hH=>v=a0 (some W.heap.size) (m + k) (grownCap W (m + k) cap e)∧hH=W.drew.alloc (.cells ((cs.toList.take (m * ai.size α)).toArray ++ Builtin.zeroCells dX.cells k ++ Builtin.zeroCells dX.cells (grownCap W (m + k) cap e - (m + k))) e)) (.l5 ?_ ⟨rfl,rfl⟩) fun v hH ⟨aX,hw⟩=> ?_
 ·simp only [execOp,resolve,invoke,builtin,Sem.run_bind,Sem.run_pure,Result.andThen_ok]
  have aA:(#[x,y]:Array Operand).map a.eval= #[a.eval x,a.eval y]:=by simp
  rw [aA,aa,ae,aQ]
  rfl
 ·subst aX
  subst hw
  exact pI _ _ _ _ (kQ.put kY rfl)
def I.td (τ:I):I where
 holds A W v:= ∃ b cur T gP u,v= .pointer (some ⟨b,0,none⟩)∧b ∉ A∧W.heap[b]? =some (.cells cur T gP)∧cur[0]? =some u∧u.oneCell'=true∧τ.holds A W u
 mono e h:=by
  obtain⟨b,cur,T,gP,u,rfl,hb,cC,hs,aa,aQ⟩:=h
  have cw:b < _:=(Array.getElem?_eq_some_iff.1 cC).1
  exact⟨b,cur,T,gP,u,rfl,fun hm=>hb (e.new b hm cw),by rw [e.block b cw hb]; exact cC,hs,aa,τ.mono e aQ⟩
theorem aj.Xw {rest:List Oper} {bb:Nat} {τ:I} (aq:bc c E L x τ) (aa:∀ A W v,τ.holds A W v→v.oneCell'=true) (aR:Nat.blt bb c.n=true)
 (k:aj c ops Q rest ((bb,.td τ) :: E) L):aj c ops Q (⟨some bb,.box t x,ty,pos,af,none⟩ :: rest) E L:=fun a W s=>by
 have aX:=aq a W s
 have bp:=aa _ _ _ aX
 refine h6 rfl (R:=fun v W'=>v= .pointer (some ⟨W.heap.size,0,none⟩)∧W'=W.alloc (.cells (a.eval x).cells t)) (.l5 ?_ ⟨rfl,rfl⟩) fun v W' ⟨ml,hw⟩=> ?_
 ·simp [execOp,Instr.box,newVar,newRow]
 ·subst ml
  subst hw
  have s1:=((s.alloc (o:= .cells (a.eval x).cells t) (cp:= .dead) trivial).kill 0).nX 1
  refine k _ _ (bS.put s1 (by simpa using aR) ?_)
  refine⟨W.heap.size,(a.eval x).cells,t,(0,0),a.eval x,rfl,fun hm=> ?_,GM W _,by rw [nG bp]; rfl,bp,τ.mono (A:=aP L ++ c.b5) (W:=W) ⟨by simp,fun k av _=>zy W _ k av,fun k h _=>h⟩ aX⟩
  rcases List.mem_append.1 hm with hm | hm
  ·exact Nat.lt_irrefl _ (s.lt _ hm)
  ·exact Nat.lt_irrefl _ (s.eU _ hm).1
theorem L7 {τ:I} {D:TypeDesc} (hu:c.P.underlying t=some D) (hd:(match (motive:=TypeDesc→Bool) D with | .struct _ | .array _ _=>true | _=>false)=false) (aq:bc c E L x (.td τ)):b7 c E L ⟨d,.load t x,ty,pos,af,g⟩ τ:= .pure fun a W s=>by
 obtain⟨b,cur,T,gP,u,aa,hb,cC,hs,ae,aQ⟩:=aq a W s
 have Eo:(isAgg t).run c.P W= .ok false W:=by
  unfold Go.isAgg
  rw [Sem.run_bind,run_underlying hu W]
  simp only [Result.andThen_ok]
  cases D <;> simp_all
 have ra:W.cell? ⟨b,0,none⟩=some u:=by rw [cell_of_row W b 0 cur T gP cC]; exact hs
 refine⟨u,?_,aQ⟩
 simp [execOp,Instr.loadAt,Instr.sureAddr,aa,loadVar,Sem.run_bind,Eo,ra]
theorem ah.some {code:Code} {i T cap:Nat} {key:Option Nat} {α:Type} [ai α] {xs:List α} (au:L[i]? =Option.some ⟨key,.row T xs cap⟩) (aq:0 < xs.length) (k:∀ p,key=Option.some p→xs.length≤cap→cap≤maxLen→ah c Q code E L):ah c Q code E L:=fun a W s=>by
 obtain⟨p,cs,rfl,eu,az,a5,bu,cM⟩:=s.rowAt au aq
 exact k p rfl a5 bu a W s
theorem ah.apart {code:Code} {p q:Nat} {cp cp':dM} {ay:List aO} (au:L=⟨Option.some p,cp⟩ :: ⟨Option.some q,cp'⟩ :: ay) (k:p≠q→ah c Q code E L):ah c Q code E L:=fun a W s=>by
 refine k (fun e=> ?_) a W s
 have:=s.nodup
 rw [au,e] at this
 simp [aP] at this
theorem FZ {α γ:Type} [ai α] [ai γ] {A W} {cs:List Value} {x:α} {os:List (Nat × Value)} {u:Value} (l:aL α (List γ)) (h:kL A W cs x os) (hq:(l.off,u)∈os):kL A W cs (l.set x []) os:=by
 refine⟨?_,h.2⟩
 have aa:=l.kF (ds:= [jH]) (g:=([]:List γ)) h.1 (show ai.rep A W [jH] ([]:List γ) from by
  have:=(mw (A:=A) (W:=W) (v:=jH) (xs:=([]:List γ))).2 (.inl ⟨rfl,rfl⟩)
  exact this.2)
 have hb:(blank os cs)[l.off]? =some jH:=by
  rw [pO,if_pos (List.any_eq_true.2 ⟨_,hq,by simp⟩),(h.2 _ hq).1]; rfl
 have cw:l.off < (blank os cs).length:=(List.getElem?_eq_some_iff.1 hb).1
 have he:(blank os cs).take l.off ++ [jH] ++ (blank os cs).drop (l.off + ai.size (List γ))=blank os cs:=by
  show(blank os cs).take l.off ++ [jH] ++ (blank os cs).drop (l.off + 1)=blank os cs
  have ae:(blank os cs)[l.off]=jH:=(List.getElem?_eq_some_iff.1 hb).2
  rw [← ae,List.append_assoc,List.singleton_append,List.getElem_cons_drop,List.take_append_drop]
 rwa [he] at aa
theorem aj.H4 {nz:List Oper} {p:Nat} {β γ:Type} [ai β] [ai γ] {b b':β} {os:List (Nat × Value)} {u:Value} (l:aL β (List γ)) (i q:Nat) (au:L[i]? =some ⟨some p,.cz b os⟩) (hq:os[q]? =some (l.off,u)) (hb:l.set b []=b')
 (k:aj c ops Q nz E (L.set i ⟨some p,.cz b' os⟩)):aj c ops Q nz E L:=fun a W s=>
 k a W (s.again au (fun A W o ⟨cs,T,aa,ae⟩=>⟨cs,T,aa,hb ▸ FZ l ae (List.mem_of_getElem? hq)⟩) id)
theorem ad.H4 {z:Exit} {p:Nat} {β γ:Type} [ai β] [ai γ] {b b':β} {os:List (Nat × Value)} {u:Value} (l:aL β (List γ)) (i q:Nat) (au:L[i]? =some ⟨some p,.cz b os⟩) (hq:os[q]? =some (l.off,u)) (hb:l.set b []=b')
 (k:ad c Q z E (L.set i ⟨some p,.cz b' os⟩)):ad c Q z E L:=fun a W s=>
 k a W (s.again au (fun A W o ⟨cs,T,aa,ae⟩=>⟨cs,T,aa,hb ▸ FZ l ae (List.mem_of_getElem? hq)⟩) id)
end
def Au {α:Type} (bytes:Nat) (xs:List α) (i:Int) (vs:List α):Option (List α):=
 if 0≤i∧i≤xs.length∧0 < vs.length∧ (xs.length + vs.length) * bytes≤140737488355328∧xs.length + vs.length≤maxLen then some (xs.take i.toNat ++ vs ++ xs.drop i.toNat) else none
theorem Sq {α:Type} {bytes:Nat} {xs vs r:List α} {i:Int} (h:Au bytes xs i vs=some r):
 ∃ k:Nat,i=k∧k≤xs.length∧0 < vs.length∧ (xs.length + vs.length) * bytes≤140737488355328∧xs.length + vs.length≤maxLen∧r=xs.take k ++ vs ++ xs.drop k:=by
 unfold Au at h
 split at h
 ·rename_i ar
  obtain⟨aa,ae,aD,aV,a1⟩:=ar
  exact⟨i.toNat,by omega,by omega,aD,aV,a1,(by simp only [Option.some.injEq] at h; exact h.symm)⟩
 ·cases h
end Gv
namespace Gv
open Go
set_option linter.unusedVariables false
set_option linter.unusedSimpArgs false
section
variable {c:dh} {E:List (Nat × I)} {L:List aO} {ops:Array Oper} {Q:Exit→Act→World→Prop} {rest:List Oper} {o:Oper} {bb:Nat}
variable {ty:TypeId} {pos:String} {af:Array Edge} {x y:Operand} {t t2:TypeId}
theorem aC {id:Nat} {l:List Oper} {y:Code} (h:aj c l.toArray (Exit.then (c.wp y Q) Q) l E L):ah c Q (.seq (.region id l.toArray false) y) E L:= .seq (.cn h)
theorem aJ {y:Code} (h:ah c Q y E L):aj c ops (Exit.then (c.wp y Q) Q) [] E L:= .nil (.next h)
theorem bG {y z:Code} (h:ah c (Exit.then (c.wp z Q) Q) y E L):aj c ops (Exit.then (c.wp (Code.seq y z) Q) Q) [] E L:= .nil (.next (.seq h))
theorem bZ {id:Nat} {l:List Oper} {z:Code} (h:aj c l.toArray (Exit.then (c.wp z Q) Q) l E L):aj c ops (Exit.then (c.wp (Code.seq (.region id l.toArray false) z) Q) Q) [] E L:= .nil (.next (.seq (.cn h)))
theorem cJ {y:Code} (h:ah c Q y E L):ah c (Exit.then (c.wp y Q) Q) .skip E L:= .skip (.next h)
theorem aw {α β:Type} {m:Option α} {f:α→Option β} {r:β} (h:m.bind f=some r):∃ y,m=some y∧f y=some r:=bind_some h
theorem ch {R:Type} {b:Bool} {A B:Option R} {r:R} {y z:Code} (h:cond b A B=some r) (cj:A=some r→ah c Q y E L) (a8:B=some r→ah c Q z E L)
 (ao:bc c E L x (.of b):=by first | exact ab rfl | exact fP _):ah c Q (.cond x y z) E L:=
 .cond ao (fun hb=>cj (gQ hb h)) (fun hb=>a8 (gR hb h))
theorem bj {τ:I} (h:b7 c E L o τ) (k:aj c ops Q rest ((bb,τ) :: E) L) (bP:o.guard=none:=by rfl) (hd:o.dst=some bb:=by rfl) (aR:Nat.blt bb c.n=true:=by rfl):aj c ops Q (o :: rest) E L:= .v h bP hd aR k
theorem aB {τ:I} (k:aj c ops Q rest ((bb,τ) :: E) L) (aq:bc c E L x τ:=by first | exact ab rfl | exact bK _ | exact fP _ | exact dC _) (aR:Nat.blt bb c.n=true:=by rfl):
 aj c ops Q (⟨some bb,.move x,ty,pos,af,none⟩ :: rest) E L:= .v (c3 aq) rfl rfl aR k
theorem aK {τ:I} (k:aj c ops Q rest ((bb,τ) :: E) L) (aq:bc c E L x τ:=by first | exact ab rfl | exact bK _ | exact fP _ | exact dC _) (aR:Nat.blt bb c.n=true:=by rfl):
 aj c ops Q (⟨some bb,.assign x,ty,pos,af,none⟩ :: rest) E L:= .v (eG aq) rfl rfl aR k
theorem aY {σ τ:I} (h:bc c E L x σ→b7 c E L o τ) (k:aj c ops Q rest ((bb,τ) :: E) L) (aq:bc c E L x σ:=by first | exact ab rfl | exact bK _ | exact fP _ | exact dC _)
 (bP:o.guard=none:=by rfl) (hd:o.dst=some bb:=by rfl) (aR:Nat.blt bb c.n=true:=by rfl):aj c ops Q (o :: rest) E L:= .v (h aq) bP hd aR k
theorem bf {σ py τ:I} (h:bc c E L x σ→bc c E L y py→b7 c E L o τ) (k:aj c ops Q rest ((bb,τ) :: E) L) (aq:bc c E L x σ:=by first | exact ab rfl | exact bK _ | exact fP _ | exact dC _)
 (a6:bc c E L y py:=by first | exact ab rfl | exact bK _ | exact fP _ | exact dC _)
 (bP:o.guard=none:=by rfl) (hd:o.dst=some bb:=by rfl) (aR:Nat.blt bb c.n=true:=by rfl):aj c ops Q (o :: rest) E L:= .v (h aq a6) bP hd aR k
theorem dj {α:Type} [ai α] {a b:α} (e:some a=some b) (h:b7 c E L o (.of a)) (k:aj c ops Q rest ((bb,.of b) :: E) L) (bP:o.guard=none:=by rfl) (hd:o.dst=some bb:=by rfl) (aR:Nat.blt bb c.n=true:=by rfl):
 aj c ops Q (o :: rest) E L:= .v (h.as (aG e)) bP hd aR k
theorem ez {i:Nat} {τs:List I} {τ:I} (k:aj c ops Q rest ((bb,τ) :: E) L) (aq:bc c E L x (.cN τs):=by exact ab rfl) (an:τs[i]? =some τ:=by rfl) (aR:Nat.blt bb c.n=true:=by rfl):
 aj c ops Q (⟨some bb,.extract x i,ty,pos,af,none⟩ :: rest) E L:= .v (lz aq an) rfl rfl aR k
theorem cb {p o:Nat} {β γ:Type} [ai β] [ai γ] {b:β} (j:Nat) (l:aL β γ) (eh:bA c.P t γ) (k:aj c ops Q rest ((bb,.of (l.get b)) :: E) L) (aq:bc c E L x (.eq (.pointer (some ⟨p,o,none⟩))):=by exact ab rfl)
 (au:L[j]? =some ⟨some p,.var b⟩:=by rfl) (bp:o=l.off:=by rfl) (aR:Nat.blt bb c.n=true:=by rfl):aj c ops Q (⟨some bb,.load t x,ty,pos,af,none⟩ :: rest) E L:= .v (fj l eh aq au bp rfl) rfl rfl aR k
theorem b6 {p:Nat} {β:Type} [ai β] {b:β} (j:Nat) (eh:bA c.P t β) (k:aj c ops Q rest ((bb,.of b) :: E) L) (aq:bc c E L x (.eq (.pointer (some ⟨p,0,none⟩))):=by exact ab rfl)
 (au:L[j]? =some ⟨some p,.var b⟩:=by rfl) (aR:Nat.blt bb c.n=true:=by rfl):aj c ops Q (⟨some bb,.load t x,ty,pos,af,none⟩ :: rest) E L:= .v (fj (aL.id β) eh aq au rfl rfl) rfl rfl aR k
theorem OH {p o:Nat} {β γ:Type} [ai β] [ai γ] {b:β} {os:List (Nat × Value)} (j:Nat) (l:aL β γ) (eh:bA c.P t γ) (k:aj c ops Q rest ((bb,.of (l.get b)) :: E) L) (aq:bc c E L x (.eq (.pointer (some ⟨p,o,none⟩))):=by exact ab rfl)
 (au:L[j]? =some ⟨some p,.cz b os⟩:=by rfl) (bp:o=l.off:=by rfl) (bn:sA os l.off (ai.size γ)=true:=by rfl) (aR:Nat.blt bb c.n=true:=by rfl):aj c ops Q (⟨some bb,.load t x,ty,pos,af,none⟩ :: rest) E L:= .v (CW l eh aq au bp rfl bn) rfl rfl aR k
theorem AK {s f o:Nat} {β γ:Type} [ai β] [ai γ] {b:β} (l:aL β γ) (fd:cq c.P s f o) (k:aj c ops Q rest ((bb,.ptr (l.get b)) :: E) L) (aq:bc c E L x (.ptr b):=by exact ab rfl) (bp:l.off=o:=by rfl) (aR:Nat.blt bb c.n=true:=by rfl):
 aj c ops Q (⟨some bb,.fieldAddr s x f,ty,pos,af,none⟩ :: rest) E L:= .v (zL l fd aq bp rfl) rfl rfl aR k
theorem gJ {α:Type} [ai α] [Inhabited α] {xs:List α} {e:TypeId} {i:Int} {j:Nat} (av:idx xs.length i=some j) (hu:c.P.underlying t=some (.slice e)) (fC:bA c.P e α) (k:aj c ops Q rest ((bb,.ptr (ax xs j)) :: E) L)
 (aq:bc c E L x (.of xs):=by exact ab rfl) (a6:bc c E L y (.of i):=by first | exact ab rfl | exact bK _) (aR:Nat.blt bb c.n=true:=by rfl):
 aj c ops Q (⟨some bb,.indexAddr t x y,ty,pos,af,none⟩ :: rest) E L:= .v (o3 hu fC aq a6 (cc av)) rfl rfl aR k
theorem qg {b e:Bool} {p:Prop} (k:aj c ops Q rest ((bb,.of (b || e)) :: E) L) (aq:bc c E L x (.of b):=by exact ab rfl) (a6:bc c E L y (.cond p (.of e)):=by exact ab rfl) (hp:b=false→p:=by exact fun h=>h) (aR:Nat.blt bb c.n=true:=by rfl):
 aj c ops Q (⟨some bb,.pick x (.const (.bool true)) y,ty,pos,af,none⟩ :: rest) E L:= .v (o9 aq a6 hp) rfl rfl aR k
theorem ja {b e:Bool} {p:Prop} (k:aj c ops Q rest ((bb,.of (b && e)) :: E) L) (aq:bc c E L x (.of b):=by exact ab rfl) (a6:bc c E L y (.cond p (.of e)):=by exact ab rfl) (hp:b=true→p:=by exact fun h=>h) (aR:Nat.blt bb c.n=true:=by rfl):
 aj c ops Q (⟨some bb,.pick x y (.const (.bool false)),ty,pos,af,none⟩ :: rest) E L:= .v (pX aq a6 hp) rfl rfl aR k
theorem eW {τ:I} {j g:Nat} {b want:Bool} (h:b=want→b7 c E L o τ) (k:aj c ops Q rest ((bb,.cond (b=want) τ) :: E) L) (bP:o.guard=some (j,want):=by rfl) (aE:(ops[j]?).bind (·.dst)=some g:=by rfl) (ao:look E g=some (.of b):=by rfl)
 (hd:o.dst=some bb:=by rfl) (aR:Nat.blt bb c.n=true:=by rfl):aj c ops Q (o :: rest) E L:= .g h bP aE ao hd aR k
theorem dE {σ τ:I} {j g:Nat} {b want:Bool} (h:bc c E L x σ→b7 c E L o τ) (k:aj c ops Q rest ((bb,.cond (b=want) τ) :: E) L)
 (aq:b=want→bc c E L x σ:=by first | exact fun hb=>ct rfl hb | exact fun _=>ab rfl | exact fun _=>bK _ | exact fun _=>fP _)
 (bP:o.guard=some (j,want):=by rfl) (aE:(ops[j]?).bind (·.dst)=some g:=by rfl) (ao:look E g=some (.of b):=by rfl)
 (hd:o.dst=some bb:=by rfl) (aR:Nat.blt bb c.n=true:=by rfl):aj c ops Q (o :: rest) E L:= .g (fun hb=>h (aq hb)) bP aE ao hd aR k
theorem kn {σ py τ:I} {j g:Nat} {b want:Bool} (h:bc c E L x σ→bc c E L y py→b7 c E L o τ) (k:aj c ops Q rest ((bb,.cond (b=want) τ) :: E) L)
 (aq:b=want→bc c E L x σ:=by first | exact fun hb=>ct rfl hb | exact fun _=>ab rfl | exact fun _=>bK _ | exact fun _=>fP _)
 (a6:b=want→bc c E L y py:=by first | exact fun hb=>ct rfl hb | exact fun _=>ab rfl | exact fun _=>bK _ | exact fun _=>fP _)
 (bP:o.guard=some (j,want):=by rfl) (aE:(ops[j]?).bind (·.dst)=some g:=by rfl) (ao:look E g=some (.of b):=by rfl)
 (hd:o.dst=some bb:=by rfl) (aR:Nat.blt bb c.n=true:=by rfl):aj c ops Q (o :: rest) E L:= .g (fun hb=>h (aq hb) (a6 hb)) bP aE ao hd aR k
theorem cx {α:Type} [ai α] {z:α} (gB:cQ c.P t z) (k:∀ p,aj c ops Q rest ((bb,.eq (.pointer (some ⟨p,0,none⟩))) :: E) (⟨some p,.var z⟩ :: L)) (aR:Nat.blt bb c.n=true:=by rfl):
 aj c ops Q (⟨some bb,.alloc t,ty,pos,af,none⟩ :: rest) E L:= .alloc gB aR k
theorem cf {α:Type} [ai α] {z:α} (k:∀ p,aj c ops Q rest ((bb,.eq (.pointer (some ⟨p,0,none⟩))) :: E) (⟨some p,.var z⟩ :: L)) (aq:bc c E L x (.of z):=by first | exact ab rfl | exact bK _ | exact fP _) (aR:Nat.blt bb c.n=true:=by rfl):
 aj c ops Q (⟨some bb,.box t x,ty,pos,af,none⟩ :: rest) E L:= .box aq aR k
theorem me {p o:Nat} {β γ:Type} [ai β] [ai γ] {b:β} {v:γ} (i:Nat) (l:aL β γ) (eh:bA c.P t γ) (k:aj c ops Q rest E (L.set i ⟨some p,.var (l.set b v)⟩)) (aq:bc c E L x (.eq (.pointer (some ⟨p,o,none⟩))):=by exact ab rfl)
 (a6:bc c E L y (.of v):=by first | exact ab rfl | exact bK _ | exact fP _ | exact look_nil | exact dC _) (au:L[i]? =some ⟨some p,.var b⟩:=by rfl) (bp:o=l.off:=by rfl):
 aj c ops Q (⟨none,.store t x y,ty,pos,af,none⟩ :: rest) E L:= .store l eh aq a6 au bp rfl k
theorem b3 {p:Nat} {β:Type} [ai β] {b v:β} (i:Nat) (eh:bA c.P t β) (k:aj c ops Q rest E (L.set i ⟨some p,.var v⟩)) (aq:bc c E L x (.eq (.pointer (some ⟨p,0,none⟩))):=by exact ab rfl)
 (a6:bc c E L y (.of v):=by first | exact ab rfl | exact bK _ | exact fP _ | exact look_nil | exact dC _) (au:L[i]? =some ⟨some p,.var b⟩:=by rfl):
 aj c ops Q (⟨none,.store t x y,ty,pos,af,none⟩ :: rest) E L:= .store (aL.id β) eh aq a6 au rfl rfl k
theorem w6 {p o:Nat} {β γ:Type} [ai β] [ai γ] {b b':β} {v:γ} (i:Nat) (l:aL β γ) (eh:bA c.P t γ) (k:aj c ops Q rest E (L.set i ⟨some p,.var b'⟩)) (aq:bc c E L x (.eq (.pointer (some ⟨p,o,none⟩))):=by exact ab rfl)
 (a6:bc c E L y (.of v):=by first | exact ab rfl | exact bK _ | exact fP _ | exact look_nil | exact dC _) (au:L[i]? =some ⟨some p,.var b⟩:=by rfl) (bp:o=l.off:=by rfl) (hb:some (l.set b v)=some b'):
 aj c ops Q (⟨none,.store t x y,ty,pos,af,none⟩ :: rest) E L:= .store l eh aq a6 au bp (aG hb) k
theorem dc {f:FuncId} {xs:List Operand} {ats:Array TypeId} {τs:List I} {ρ:I} (ea:bT c.P f) (h:bw c.P f τs ρ) (k:aj c ops Q rest ((bb,ρ) :: E) L)
 (aq:hA c E L xs τs:=by repeat (first | exact trivial | refine⟨ab rfl,?_⟩ | refine⟨bK _,?_⟩ | refine⟨fP _,?_⟩ | refine⟨look_nil,?_⟩ | refine⟨dC _,?_⟩)) (aR:Nat.blt bb c.n=true:=by rfl):
 aj c ops Q (⟨some bb,.call ⟨.value (.func f),xs.toArray,ats⟩,ty,pos,af,none⟩ :: rest) E L:= .v (hP ea h aq) rfl rfl aR k
theorem eM {f:FuncId} {xs:List Operand} {ats:Array TypeId} {τs:List I} {δ:Type} {ρ:δ→I} {Lo:δ→List aO} (n:Nat) (ea:bT c.P f) (h:cy c.P f τs (L.take n) ρ Lo)
 (k:∀ q,aj c ops Q rest ((bb,ρ q) :: E) (Lo q ++ L.drop n)) (aq:hA c E L xs τs:=by repeat (first | exact trivial | refine⟨ab rfl,?_⟩ | refine⟨bK _,?_⟩ | refine⟨fP _,?_⟩ | refine⟨look_nil,?_⟩ | refine⟨tJ,?_⟩ | refine⟨dC _,?_⟩)) (aR:Nat.blt bb c.n=true:=by rfl):
 aj c ops Q (⟨some bb,.call ⟨.value (.func f),xs.toArray,ats⟩,ty,pos,af,none⟩ :: rest) E L:=by
 have e:=List.take_append_drop n L
 have:=aj.l6 (ty:=ty) (pos:=pos) (af:=af) (ats:=ats) (xs:=xs) (Lin:=L.take n) (Lr:=L.drop n) (E:=E) (Q:=Q) (ops:=ops) ea h (by rw [e]; exact aq) aR k
 rwa [e] at this
theorem jI {α:Type} [ai α] {e bytes cap:Nat} {key:Option Nat} {xs ys r:List α} {z:α} (j:Nat) (hu:c.P.underlying t=some (.slice e)) (fC:bA c.P e α) (gB:cQ c.P e z) (h:gu bytes xs ys=some r)
 (k:∀ pc cap',aj c ops Q rest ((bb,.eq (a0 pc r.length cap')) :: E) (L.set j ⟨pc,.row e r cap'⟩)) (uV:(c.P.info? e).map (·.bytes)=some bytes:=by kernel_rfl)
 (hs:bc c E L x (.eq (a0 key xs.length cap)):=by first | exact ab rfl | exact tJ) (au:L[j]? =some ⟨key,.row e xs cap⟩:=by rfl) (a6:bc c E L y (.of ys):=by exact ab rfl) (aR:Nat.blt bb c.n=true:=by rfl):
 aj c ops Q (⟨some bb,.call ⟨.builtin .append,#[x,y],#[t,t]⟩,ty,pos,af,none⟩ :: rest) E L:= .app hu fC gB uV hs au a6 h aR k
theorem iY {place:Nat→Option (Nat × Nat)} {β:Type} [ai β] {b b':β} {γ:Type} [ai γ] {v:γ} {i:Nat} {r:List (Nat × Operand)} (l:aL β γ) (k:p4 c E L place (l.set b v) r b')
 (hp:place i=some (l.off,ai.size γ):=by rfl) (aq:bc c E L x (.of v):=by first | exact ab rfl | exact bK _ | exact fP _ | exact look_nil | exact dC _):p4 c E L place b ((i,x) :: r) b':= .cons l hp aq rfl k
theorem gV {β:Type} [ai β] {z b:β} {bq:List (Nat × Operand)} {pl:Array (Nat × Nat)} (By:hG c.P t pl) (gB:cQ c.P t z) (PH:β) (a8:p4 c E L (pl[·]?) z bq b) (k:aj c ops Q rest ((bb,.of PH) :: E) L) (bn:ai.agg β=true:=by rfl) (hb:b=PH:=by rfl) (aR:Nat.blt bb c.n=true:=by rfl):
 aj c ops Q (⟨some bb,.build t bq.toArray,ty,pos,af,none⟩ :: rest) E L:= .v ((cU bn By gB a8).as hb) rfl rfl aR k
theorem gy {α:Type} [ai α] {e n:Nat} {z:α} {bq:List (Nat × Operand)} (r:List α) (hu:c.P.underlying t=some (.slice e)) (fC:bA c.P e α) (gB:cQ c.P e z) (k:aj c ops Q rest ((bb,.of r) :: E) L)
 (a8:na c E L (List.replicate n z) bq r:=by repeat (first | exact na.nil | refine na.cons (by simp) (ab rfl) ?_ | refine na.cons (by simp) (bK _) ?_ | refine na.cons (by simp) (fP _) ?_ | refine na.cons (by simp) (dC _) ?_))
 (hs:Nat.beq (ai.size α) 0=false:=by rfl) (rF:Nat.ble (n * ai.size α) 16777216=true:=by rfl) (aR:Nat.blt bb c.n=true:=by rfl):
 aj c ops Q (⟨some bb,.buildSlice t n bq.toArray,ty,pos,af,none⟩ :: rest) E L:= .v (jW hu fC gB hs rF a8) rfl rfl aR k
inductive lU (E:List (Nat × I)):List Nat→List (Nat × I)→Prop
 | nil:lU E [] []
 | cons {t:Nat} {hi:List Nat} {τ:I} {BD:List (Nat × I)} :look E t=some τ→lU E hi BD→lU E (t :: hi) ((t,τ) :: BD)
theorem lU.le:∀ {hi:List Nat} {jz:List (Nat × I)},lU E hi jz→hv E jz
 | _,_,.nil=> .nil
 | _,_,.cons h k=> .same h k.le
theorem jq {code:Code} {jz:List (Nat × I)} (hi:List Nat) (k:ah c Q code jz L) (aH:lU E hi jz:=by repeat (first | exact lU.nil | (apply lU.cons; rfl))):ah c Q code E L:= .le aH.le k
theorem ko {z:Exit} {jz:List (Nat × I)} (hi:List Nat) (k:ad c Q z jz L) (aH:lU E hi jz:=by repeat (first | exact lU.nil | (apply lU.cons; rfl))):ad c Q z E L:= .le aH.le k
theorem dt {z:Exit} {E':List (Nat × I)} {ay:List aO} (n:Nat) (k:ad c Q z E' ay) (au:L.drop n=ay:=by rfl) (h:hv E E':=by repeat (first | exact hv.nil | refine hv.same rfl ?_)):ad c Q z E L:= .meet n au h k
theorem e0 {σ ε γ δ:Type} {E':σ→γ→List (Nat × I)} {ay:σ→γ→List aO} {xs:ε→Exit} {fJ:ε→δ→List (Nat × I)} {Lx:ε→δ→List aO} {s:σ} (g:γ) (n:Nat) (au:L.drop n=ay s g:=by rfl)
 (h:hv E (E' s g):=by repeat (first | exact hv.nil | refine hv.same rfl ?_)):ad c (xd c E' ay xs fJ Lx (.inl s)) .normal E L:= .UK g n au h
theorem dU {σ ε γ δ:Type} {E':σ→γ→List (Nat × I)} {ay:σ→γ→List aO} {xs:ε→Exit} {fJ:ε→δ→List (Nat × I)} {Lx:ε→δ→List aO} {e:ε} {z:Exit} (g:δ) (n:Nat) (aq:z=xs e:=by rfl) (aR:z≠ .normal:=by simp) (au:L.drop n=Lx e g:=by rfl)
 (h:hv E (fJ e g):=by repeat (first | exact hv.nil | refine hv.same rfl ?_)):ad c (xd c E' ay xs fJ Lx (.inr e)) z E L:= .UL g n aq aR au h
theorem eH {t:Nat} {p:Nat} {α:Type} [ai α] {v:α} (i:Nat) (eh:bA c.P ty α) (h:look E t=some (.eq (.pointer (some ⟨p,0,none⟩))):=by rfl) (au:L[i]? =some ⟨some p,.var v⟩:=by rfl):rP c E L (.cell t ty) (.of v):=X9 eh h au
theorem c8 {fn:Func} {t:Nat} {τ:I} (aQ:fn.results= #[.tmp t]:=by rfl) (h:look E t=some τ:=by rfl) (hU:c.ds= []:=by rfl):ad c (bodyPost c.P fn (uE c τ)) .ret E L:= .hg aQ (h9 h) hU
theorem uH {fn:Func} {t u:Nat} {τ ns:I} (aQ:fn.results= #[.tmp t,.tmp u]:=by rfl) (h:look E t=some τ:=by rfl) (ae:look E u=some ns:=by rfl) (hU:c.ds= []:=by rfl):ad c (bodyPost c.P fn (uE c (.cN [τ,ns]))) .ret E L:= .p7 aQ (h9 h) (h9 ae) hU
theorem la {fn:Func} {t:Nat} {τ:I} {δ:Type} {ρ:δ→I} {Lo:δ→List aO} (bb:δ) (hs:(Lo bb).Sublist L:=by repeat (first | exact List.nil_sublist _ | refine List.Sublist.cons_cons _ ?_)) (aQ:fn.results= #[.tmp t]:=by rfl) (h:look E t=some τ:=by rfl) (rH:ρ bb=τ:=by rfl) (hU:c.ds= []:=by rfl):
 ad c (bodyPost c.P fn (jD c.X c.b5 c.iw ρ Lo)) .ret E L:= .hj bb hs aQ rH (eD h) hU
def oA:List aO→List (Nat × aO)→List aO
 | L,[]=>L
 | L,(i,e) :: r=>oA (L.set i e) r
inductive pJ:List aO→List aO→Prop
 | nil:pJ [] []
 | cons {e:aO} {r s:List aO} :pJ r s→pJ (e :: r) (e :: s)
theorem pJ.eq:∀ {l m:List aO},pJ l m→l=m
 | _,_,.nil=>rfl
 | _,_,.cons h=>by rw [h.eq]
theorem gN {σ ε γ δ:Type} {body:Code} {N:Nat} {b:σ→Option (σ ⊕ ε)} {cd:σ} {e:ε} {jz:List (Nat × I)} {jA:List aO} (ao:ei N b cd=some e) (hi:List Nat) (u:σ→γ→List (Nat × I)) (ul:σ→γ→List (Nat × aO)) (xs:ε→Exit)
 (Jy:ε→δ→List (Nat × I)) (IJ:ε→δ→List (Nat × aO)) (g0:γ)
 (q9:∀ s r,b s=some r→ ∀ g,ah c (xd c (fun s g=>u s g ++ jz) (fun s g=>oA jA (ul s g)) xs (fun e d=>Jy e d ++ jz) (fun e d=>oA jA (IJ e d)) r) body (u s g ++ jz) (oA jA (ul s g)))
 (nN:∀ g,ad c Q (xs e) (Jy e g ++ jz) (oA jA (IJ e g)))
 (uR:pJ L jA:=by repeat (first | exact pJ.nil | apply pJ.cons))
 (Za:lU E hi jz:=by repeat (first | exact lU.nil | (apply lU.cons; rfl))) (aH:hv E (u cd g0 ++ jz):=by repeat (first | exact hv.nil | refine hv.same rfl ?_)) (au:jA=oA jA (ul cd g0):=by rfl):ah c Q (.loop body) E L:=
 ah.q3 ao (fun s g=>u s g ++ jz) (fun s g=>oA jA (ul s g)) xs (fun e d=>Jy e d ++ jz) (fun e d=>oA jA (IJ e d)) g0 (uR.eq.trans au) aH q9 nN
theorem iq {γ:Type} {b:Bool} {y z:Code} {jz:List (Nat × I)} {jA:List aO} (hi:List Nat) (u:γ→List (Nat × I)) (ul:γ→List (Nat × aO)) (th:∀ g,ad c Q .normal (u g ++ jz) (oA jA (ul g)))
 (cj:(∀ g,ad c Q .normal (u g ++ jz) (oA jA (ul g)))→b=true→ah c Q y E jA) (a8:(∀ g,ad c Q .normal (u g ++ jz) (oA jA (ul g)))→b=false→ah c Q z E jA)
 (uR:pJ L jA:=by repeat (first | exact pJ.nil | apply pJ.cons))
 (Za:lU E hi jz:=by repeat (first | exact lU.nil | (apply lU.cons; rfl))) (ao:bc c E jA x (.of b):=by first | exact ab rfl | exact fP _):ah c Q (.cond x y z) E L:=by
 cases uR.eq
 exact ah.c4 (fun g=>u g ++ jz) (fun g=>oA L (ul g)) ao th cj a8
section
variable {all:List fh} {w:Nat→Bool}
theorem du {τ:I} {hyp:List aO→Prop} (h:∀ ay,hyp ay→b7 c E ay o τ) (bP:o.guard=none:=by rfl):∀ ay,hyp ay→kb c ops E ay o τ:=fun ay au=> .v (h ay au) bP
theorem cR {τ:I} {hyp:List aO→Prop} (aq:∀ ay,bc c E ay x τ:=by first | exact fun _=>ab rfl | exact fun _=>bK _ | exact fun _=>fP _ | exact fun _=>dC _):∀ ay,hyp ay→kb c ops E ay ⟨some bb,.move x,ty,pos,af,none⟩ τ:=fun ay _=> .v (c3 (aq ay)) rfl
theorem u6 {τ:I} {hyp:List aO→Prop} (aq:∀ ay,bc c E ay x τ:=by first | exact fun _=>ab rfl | exact fun _=>bK _ | exact fun _=>fP _ | exact fun _=>dC _):∀ ay,hyp ay→kb c ops E ay ⟨some bb,.assign x,ty,pos,af,none⟩ τ:=fun ay _=> .v (eG (aq ay)) rfl
theorem H1 {σ τ:I} {hyp:List aO→Prop} (h:∀ {ay},bc c E ay x σ→b7 c E ay o τ) (bP:o.guard=none:=by rfl) (aq:∀ ay,bc c E ay x σ:=by first | exact fun _=>ab rfl | exact fun _=>bK _ | exact fun _=>fP _ | exact fun _=>dC _):
 ∀ ay,hyp ay→kb c ops E ay o τ:=fun ay _=> .v (h (aq ay)) bP
theorem kx {σ py τ:I} {hyp:List aO→Prop} (h:∀ {ay},bc c E ay x σ→bc c E ay y py→b7 c E ay o τ) (bP:o.guard=none:=by rfl) (aq:∀ ay,bc c E ay x σ:=by first | exact fun _=>ab rfl | exact fun _=>bK _ | exact fun _=>fP _ | exact fun _=>dC _)
 (a6:∀ ay,bc c E ay y py:=by first | exact fun _=>ab rfl | exact fun _=>bK _ | exact fun _=>fP _ | exact fun _=>dC _):∀ ay,hyp ay→kb c ops E ay o τ:=fun ay _=> .v (h (aq ay) (a6 ay)) bP
theorem dy {p o:Nat} {β γ:Type} [ai β] [ai γ] {b:β} (i:Nat) (l:aL β γ) (eh:bA c.P t γ) (aq:∀ ay,bc c E ay x (.eq (.pointer (some ⟨p,o,none⟩))):=by exact fun _=>ab rfl) (au:L[i]? =some ⟨some p,.var b⟩:=by rfl) (bp:o=l.off:=by rfl)
 (hu:oz w i 0 all=true:=by first | rfl | kernel_rfl):∀ ay:List aO,(∀ (j:Nat) (e:aO),L[j]? =some e→oz w j 0 all=true→ay[j]? =some e)→kb c ops E ay ⟨some bb,.load t x,ty,pos,af,none⟩ (.of (l.get b)):=
 fun ay ql=> .v (fj l eh (aq ay) (ql _ _ au hu) bp rfl) rfl
theorem e1 {p:Nat} {β:Type} [ai β] {b:β} (i:Nat) (eh:bA c.P t β) (aq:∀ ay,bc c E ay x (.eq (.pointer (some ⟨p,0,none⟩))):=by exact fun _=>ab rfl) (au:L[i]? =some ⟨some p,.var b⟩:=by rfl)
 (hu:oz w i 0 all=true:=by first | rfl | kernel_rfl):∀ ay:List aO,(∀ (j:Nat) (e:aO),L[j]? =some e→oz w j 0 all=true→ay[j]? =some e)→kb c ops E ay ⟨some bb,.load t x,ty,pos,af,none⟩ (.of b):=
 fun ay ql=> .v (fj (aL.id β) eh (aq ay) (ql _ _ au hu) rfl rfl) rfl
theorem e8 {f:FuncId} {xs:List Operand} {ats:Array TypeId} {τs:List I} {ρ:I} {hyp:List aO→Prop} (ea:bT c.P f) (h:bw c.P f τs ρ)
 (aq:∀ ay,hA c E ay xs τs:=by intro ay; repeat (first | exact trivial | refine⟨ab rfl,?_⟩ | refine⟨bK _,?_⟩ | refine⟨fP _,?_⟩ | refine⟨look_nil,?_⟩ | refine⟨dC _,?_⟩)):
 ∀ ay,hyp ay→kb c ops E ay ⟨some bb,.call ⟨.value (.func f),xs.toArray,ats⟩,ty,pos,af,none⟩ ρ:=fun ay _=> .v (hP ea h (aq ay)) rfl
theorem lI {α:Type} [ai α] [Inhabited α] {xs:List α} {e:TypeId} {i:Int} {j:Nat} {hyp:List aO→Prop} (av:idx xs.length i=some j) (hu:c.P.underlying t=some (.slice e)) (fC:bA c.P e α)
 (aq:∀ ay,bc c E ay x (.of xs):=by exact fun _=>ab rfl) (a6:∀ ay,bc c E ay y (.of i):=by first | exact fun _=>ab rfl | exact fun _=>bK _):
 ∀ ay,hyp ay→kb c ops E ay ⟨some bb,.indexAddr t x y,ty,pos,af,none⟩ (.ptr (ax xs j)):=fun ay _=> .v (o3 hu fC (aq ay) (a6 ay) (cc av)) rfl
theorem nq {s f o:Nat} {β γ:Type} [ai β] [ai γ] {b:β} {hyp:List aO→Prop} (l:aL β γ) (fd:cq c.P s f o) (aq:∀ ay,bc c E ay x (.ptr b):=by exact fun _=>ab rfl) (bp:l.off=o:=by rfl):
 ∀ ay,hyp ay→kb c ops E ay ⟨some bb,.fieldAddr s x f,ty,pos,af,none⟩ (.ptr (l.get b)):=fun ay _=> .v (zL l fd (aq ay) bp rfl) rfl
theorem tc {α:Type} [ai α] {a b:α} {hyp:List aO→Prop} (e:some a=some b) (h:∀ ay,hyp ay→b7 c E ay o (.of a)) (bP:o.guard=none:=by rfl):∀ ay,hyp ay→kb c ops E ay o (.of b):=fun ay au=> .v ((h ay au).as (aG e)) bP
theorem sU {i:Nat} {τs:List I} {τ:I} {hyp:List aO→Prop} (aq:∀ ay,bc c E ay x (.cN τs):=by exact fun _=>ab rfl) (an:τs[i]? =some τ:=by rfl):∀ ay,hyp ay→kb c ops E ay ⟨some bb,.extract x i,ty,pos,af,none⟩ τ:=fun ay _=> .v (lz (aq ay) an) rfl
theorem fa {τ:I} {j g:Nat} {b want:Bool} {hyp:List aO→Prop} (h:∀ ay,hyp ay→b=want→b7 c E ay o τ) (bP:o.guard=some (j,want):=by rfl) (aE:(ops[j]?).bind (·.dst)=some g:=by rfl) (ao:look E g=some (.of b):=by rfl):
 ∀ ay,hyp ay→kb c ops E ay o (.cond (b=want) τ):=fun ay au=> .g (h ay au) bP aE ao
end
def bh (s:Nat) (up rd:List Nat) (τ:I):ec:=⟨some s,up,rd,[],fun _=>τ,fun _ _=>⟨none,.dead⟩⟩
section
variable {hs:List ec} {i:Nat} {up rd:List Nat}
theorem gA {τ:I} (aq:∀ (hd:Nat→Hid) (E':List (Nat × I)) (ay:List aO),(∀ t τ,look (mj hd hs E up) t=some τ→look E' t=some τ)→bc c E' ay x τ:=by first | exact fun _ _ _ aH=>ab (aH _ _ rfl) | exact fun _ _ _ _=>bK _ | exact fun _ _ _ _=>fP _ | exact fun _ _ _ _=>dC _)
 (aR:Nat.blt bb c.n=true:=by rfl):df c ops Q hs E L i ⟨some bb,.move x,ty,pos,af,none⟩ (bh bb up rd τ):=jF rfl rfl aR fun hd E' ay aH _=>c3 (aq hd E' ay aH)
theorem fv {σ τ:I} (h:∀ {E' ay},bc c E' ay x σ→b7 c E' ay o τ) (bP:o.guard=none:=by rfl) (hd:o.dst=some bb:=by rfl)
 (aq:∀ (hd:Nat→Hid) (E':List (Nat × I)) (ay:List aO),(∀ t τ,look (mj hd hs E up) t=some τ→look E' t=some τ)→bc c E' ay x σ:=by first | exact fun _ _ _ aH=>ab (aH _ _ rfl) | exact fun _ _ _ _=>bK _ | exact fun _ _ _ _=>fP _ | exact fun _ _ _ _=>dC _)
 (aR:Nat.blt bb c.n=true:=by rfl):df c ops Q hs E L i o (bh bb up rd τ):=jF bP hd aR fun hd E' ay aH _=>h (aq hd E' ay aH)
theorem Bv {σ py τ:I} (h:∀ {E' ay},bc c E' ay x σ→bc c E' ay y py→b7 c E' ay o τ) (bP:o.guard=none:=by rfl) (hd:o.dst=some bb:=by rfl)
 (aq:∀ (hd:Nat→Hid) (E':List (Nat × I)) (ay:List aO),(∀ t τ,look (mj hd hs E up) t=some τ→look E' t=some τ)→bc c E' ay x σ:=by first | exact fun _ _ _ aH=>ab (aH _ _ rfl) | exact fun _ _ _ _=>bK _ | exact fun _ _ _ _=>fP _ | exact fun _ _ _ _=>dC _)
 (a6:∀ (hd:Nat→Hid) (E':List (Nat × I)) (ay:List aO),(∀ t τ,look (mj hd hs E up) t=some τ→look E' t=some τ)→bc c E' ay y py:=by first | exact fun _ _ _ aH=>ab (aH _ _ rfl) | exact fun _ _ _ _=>bK _ | exact fun _ _ _ _=>fP _ | exact fun _ _ _ _=>dC _)
 (aR:Nat.blt bb c.n=true:=by rfl):df c ops Q hs E L i o (bh bb up rd τ):=jF bP hd aR fun hd E' ay aH _=>h (aq hd E' ay aH) (a6 hd E' ay aH)
theorem n0 {p o:Nat} {β γ:Type} [ai β] [ai γ] {b:β} (k:Nat) (l:aL β γ) (eh:bA c.P t γ)
 (aq:∀ (hd:Nat→Hid) (E':List (Nat × I)) (ay:List aO),(∀ t τ,look (mj hd hs E up) t=some τ→look E' t=some τ)→bc c E' ay x (.eq (.pointer (some ⟨p,o,none⟩))):=by exact fun _ _ _ aH=>ab (aH _ _ rfl))
 (au:∀ hd:Nat→Hid,(ix (fun _=>true) hd 0 (hs.take i) L)[k]? =some ⟨some p,.var b⟩:=by exact fun _=>rfl) (aQ:rd.contains k=true:=by rfl) (bp:o=l.off:=by rfl)
 (aR:Nat.blt bb c.n=true:=by rfl):df c ops Q hs E L i ⟨some bb,.load t x,ty,pos,af,none⟩ (bh bb up rd (.of (l.get b))):=jF rfl rfl aR fun hd E' ay aH ql=>fj l eh (aq hd E' ay aH) (ql _ _ (au hd) aQ) bp rfl
theorem lJ {p:Nat} {β:Type} [ai β] {b:β} (k:Nat) (eh:bA c.P t β)
 (aq:∀ (hd:Nat→Hid) (E':List (Nat × I)) (ay:List aO),(∀ t τ,look (mj hd hs E up) t=some τ→look E' t=some τ)→bc c E' ay x (.eq (.pointer (some ⟨p,0,none⟩))):=by exact fun _ _ _ aH=>ab (aH _ _ rfl))
 (au:∀ hd:Nat→Hid,(ix (fun _=>true) hd 0 (hs.take i) L)[k]? =some ⟨some p,.var b⟩:=by exact fun _=>rfl) (aQ:rd.contains k=true:=by rfl)
 (aR:Nat.blt bb c.n=true:=by rfl):df c ops Q hs E L i ⟨some bb,.load t x,ty,pos,af,none⟩ (bh bb up rd (.of b)):=jF rfl rfl aR fun hd E' ay aH ql=>fj (aL.id β) eh (aq hd E' ay aH) (ql _ _ (au hd) aQ) rfl rfl
theorem cP {τ:I} (h:∀ (hd:Nat→Hid) (E':List (Nat × I)) (ay:List aO),(∀ t τ,look (mj hd hs E up) t=some τ→look E' t=some τ)→ (∀ j e,(ix (fun _=>true) hd 0 (hs.take i) L)[j]? =some e→rd.contains j=true→ay[j]? =some e)→b7 c E' ay o τ)
 (bP:o.guard=none:=by rfl) (hd:o.dst=some bb:=by rfl) (aR:Nat.blt bb c.n=true:=by rfl):df c ops Q hs E L i o (bh bb up rd τ):=jF bP hd aR h
end
end
end Gv
namespace Gv
open Go
set_option linter.unusedVariables false
set_option linter.unusedSimpArgs false
theorem CK {F:Fence} {n Jz:Nat} {P:Program} {code:Code} {Q:Exit→Act→World→Prop} {a:Act} {W:World} (hd:F.depth=none) (h:code.wpIn F n P Q a W):code.wpIn F Jz P Q a W:=
 fun b k cs xa hb _=>h b k cs xa hb (fun d hd'=>by rw [hd] at hd'; cases hd')
def dM.is (o:Obj):dM where
 holds _ _ x:=x=o
 nf:=False
 mono _ h:=h
abbrev dM.dn:dM:= .is (.deferred (some []))
def I.gW (f:FuncId) (τs:List I):I where
 holds A W v:= ∃ hN:List Value,v= .func (.func f) #[] hN.toArray∧gq A W τs hN
 mono e h:=let⟨hN,aa,ae⟩:=h; ⟨hN,aa,ae.mono e⟩
theorem bS.rq {c E L a W} (h:bS c E L a W) {i p:Nat} {cp cp':dM} (an:L[i]? =some ⟨some p,cp⟩) {o':Obj} (ar:cp'.holds (aP L ++ c.b5) W o'):
 bS c E (L.set i ⟨some p,cp'⟩) a (W.putObj p o'):=by
 have g5:aP (L.set i ⟨some p,cp'⟩)=aP L:=wh (cp:=cp') an
 have hp:p∈aP L:=kG.2 ⟨_,List.mem_of_getElem? an,rfl⟩
 have g1:Ext (aP L ++ c.b5) W (aP L ++ c.b5) (W.putObj p o'):=
  ⟨by simp,fun k _ bn=>World.putObj_heap_other (fun e=>bn (e ▸ List.mem_append.2 (.inl hp))),fun _ h _=>h⟩
 exact
 {defers:=h.defers
  size:=h.size
  env:=fun t τ ao=>by rw [g5]; exact let⟨v,aa,ae⟩:=h.env t τ ao; ⟨v,aa,τ.mono g1 ae⟩
  dD:=⟨h.dD.os,h.dD.tape,h.dD.output,by simpa using h.dD.size,fun k av aq=>by
   rw [World.putObj_heap_other (fun e:k=p=>aq (by subst e; exact h.fY _ hp av))]
   exact h.dD.block k av aq⟩
  own:=fun e he=>by
   rw [g5]
   obtain⟨j,aE⟩:=List.mem_iff_getElem?.1 he
   rw [List.getElem?_set] at aE
   split at aE
   ·rename_i fz
    subst fz
    split at aE
    ·simp only [Option.some.injEq] at aE
     subst aE
     exact⟨_,World.putObj_heap_same (h.lt p hp),cp'.mono g1 ar⟩
    ·cases aE
   ·rename_i fz
    have aa:=h.own e (List.mem_of_getElem? aE)
    unfold aO.ok at *
    split at aa
    ·rename_i q hq
     obtain⟨o',rB,cC⟩:=aa
     have dz:q≠p:=fun e'=>fz (GN h.nodup an aE rfl (e' ▸ hq))
     exact⟨o',by rw [World.putObj_heap_other dz]; exact rB,dM.mono _ g1 cC⟩
    ·exact aa
  nodup:=by rw [g5]; exact h.nodup
  lt:=by rw [g5]; simpa using h.lt
  fY:=by rw [g5]; exact h.fY
  eU:=by rw [g5]; simpa using h.eU }
theorem G0 {c:dh} {E:List (Nat × I)} {L:List aO} {d:Option Tmp} {ty:TypeId} {pos:String} {af:Array Edge} {g:Option (Nat × Bool)} {f:FuncId} {xs:List Operand} {τs:List I} (aq:hA c E L xs τs):
 b7 c E L ⟨d,.makeFunc (.func f) #[] xs.toArray,ty,pos,af,g⟩ (.gW f τs):= .pure fun a W s=>
 ⟨.func (.func f) #[] (xs.map a.eval).toArray,by simp [execOp,Instr.makeFunc],_,rfl,aq.holds a W s⟩
structure w1 (A:List Nat) (W:World) (L:List aO):Prop where
 eU:∀ k∈A,k < W.heap.size∧k ∉ aP L
 nodup:(aP L).Nodup
 lt:∀ k∈aP L,k < W.heap.size
 ok:∀ e∈L,e.ok (aP L ++ A) W
def u1 (P:Program) (u:Value) {α σ ε γ:Type} (τ:α→I) (Ls:σ→γ→List aO) (Lx:ε→γ→List aO) (step:α→σ→Option (σ ⊕ ε)) (R:List Nat→World→Prop):Prop:=
 ∃ l,u= .func (.yield l) #[] #[]∧ ∀ x s r,step x s=some r→ ∀ g A W v,R (aP (Ls s g) ++ A) W→w1 A W (Ls s g)→ (τ x).holds (aP (Ls s g) ++ A) W v→
   YieldAt Fence.wide 8 P l #[v] W (match r with
    | .inl ca=>jD (aP (Ls s g)) A W (fun _:γ=>I.of true) (fun g=>Ls ca g)
    | .inr q=>jD (aP (Ls s g)) A W (fun _:γ=>I.of false) (fun g=>Lx q g))
def Lr {σ ε γ:Type} (Ls:σ→γ→List aO) (Lx:ε→γ→List aO):σ ⊕ ε→γ→List aO
 | .inl s,g=>Ls s g
 | .inr q,g=>Lx q g
structure tY (P:Program) (f:FuncId) (τs:List I) (Lin:List aO) {α:Type} (τ:α→I) (run:∀ {σ ε:Type},(α→σ→Option (σ ⊕ ε))→σ→Option (σ ⊕ ε)):Prop where
 go:∀ {σ ε γ:Type} (Ls:σ→γ→List aO) (Lx:ε→γ→List aO) (step:α→σ→Option (σ ⊕ ε)) (cd:σ) (g0:γ) (r:σ ⊕ ε),run step cd=some r→
  ∀ (A:List Nat) (W:World) (u:Value) (vs:List Value),w1 A W (Lin ++ Ls cd g0)→gq (aP (Lin ++ Ls cd g0) ++ A) W τs vs→
    u1 P u τ Ls Lx step (fun c7 W'=>Ext (aP (Lin ++ Ls cd g0) ++ A) W c7 W')→
    Calls P f (u :: vs).toArray W (jD (aP (Lin ++ Ls cd g0)) A W (fun _:γ=> .cN []) (fun g=>Lin ++ Lr Ls Lx r g))
theorem tY.of {P:Program} {f:FuncId} {fn:Func} {code:Code} {n:Nat} {τs:List I} {Lin:List aO} {α:Type} {τ:α→I} {run:∀ {σ ε:Type},(α→σ→Option (σ ⊕ ε))→σ→Option (σ ⊕ ε)}
 (a8:P.funcs[f]? =some fn) (hb:fn.body=some code) (aR:fn.ntmps=n) (hlen:Nat.ble (τs.length + 1) n=true)
 (h:∀ {σ ε γ:Type} (Ls:σ→γ→List aO) (Lx:ε→γ→List aO) (step:α→σ→Option (σ ⊕ ε)) (cd:σ) (g0:γ) (r:σ ⊕ ε),run step cd=some r→
  ∀ W A u,u1 P u τ Ls Lx step (fun c7 W'=>Ext (aP (Lin ++ Ls cd g0) ++ A) W c7 W')→
    ah ⟨P,n,W,aP (Lin ++ Ls cd g0),A,none,[]⟩ (bodyPost P fn (jD (aP (Lin ++ Ls cd g0)) A W (fun _:γ=> .cN []) (fun g=>Lin ++ Lr Ls Lx r g))) code (params 0 (.eq u :: τs)) (Lin ++ Ls cd g0)):tY P f τs Lin τ run:=by
 refine⟨?_⟩
 intro σ ε γ Ls Lx step cd g0 r aQ A W u vs ao aX a6
 refine calls_of_wp a8 hb (wpIn_wide.1 (h Ls Lx step cd g0 r aQ W A u a6 _ _ ?_))
 have ml:gq (aP (Lin ++ Ls cd g0) ++ A) W (.eq u :: τs) (u :: vs):= .cons rfl aX
 have ld:=ml.length
 have hle:τs.length + 1≤n:=Nat.le_of_ble_eq_true hlen
 exact
 {defers:=rfl
  size:=by simp at ld; simp [aR,ld]; omega
  env:=fun t τ ej=>by
   obtain⟨_,v,ae,aD⟩:=tE ml 0 t τ ej
   refine⟨v,?_,aD⟩
   have cw:t < (u :: vs).length:=(List.getElem?_eq_some_iff.1 ae).1
   rw [Array.getElem?_append_left (by simpa using cw)]
   simpa using ae
  dD:= .refl _ _
  own:=ao.ok
  nodup:=ao.nodup
  lt:=ao.lt
  fY:=fun k av _=>av
  eU:=ao.eU }
section
variable {c:dh} {E:List (Nat × I)} {L:List aO} {ops:Array Oper} {Q:Exit→Act→World→Prop}
variable {d:Option Tmp} {ty:TypeId} {pos:String} {af:Array Edge} {g:Option (Nat × Bool)} {x y:Operand} {t t2:TypeId}
theorem bS.NU {a:Act} {W:World} (s:bS c E L a W):Ext (c.X ++ c.b5) c.iw (aP L ++ c.b5) W:=
 ⟨s.dD.size,fun k av bn=>s.dD.block k av fun aq=>bn (List.mem_append.2 (.inl aq)),fun k hm cw=>by
   rcases List.mem_append.1 hm with hm | hm
   ·exact List.mem_append.2 (.inl (s.fY k hm cw))
   ·exact List.mem_append.2 (.inr hm)⟩
theorem bS.D1 {a:Act} {W:World} {Lin Lr:List aO} (s:bS c E (Lin ++ Lr) a W):w1 (aP Lr ++ c.b5) W Lin:=by
 have lE:=s.nodup
 rw [e6] at lE
 obtain⟨mQ,qn,pw⟩:=List.nodup_append.1 lE
 exact
 {eU:=fun k hm=>by
   rcases List.mem_append.1 hm with hm | hm
   ·exact⟨s.lt k (by rw [e6]; exact List.mem_append.2 (.inr hm)),fun h=>pw k h k hm rfl⟩
   ·obtain⟨aa,ae⟩:=s.eU k hm
    exact⟨aa,fun h=>ae (by rw [e6]; exact List.mem_append.2 (.inl h))⟩
  nodup:=mQ
  lt:=fun k hm=>s.lt k (by rw [e6]; exact List.mem_append.2 (.inl hm))
  ok:=fun e he=>aO.sr (s.own e (List.mem_append.2 (.inl he))) (.drop fun k hm=>by
   rw [e6]
   simp only [List.mem_append] at hm ⊢
   rcases hm with hm | hm | hm
   ·exact .inl (.inl hm)
   ·exact .inl (.inr hm)
   ·exact .inr hm) fun _ _=>rfl }
theorem za {Lin Lr:List aO} {A:List Nat} {W:World} :Ext (aP (Lin ++ Lr) ++ A) W (aP Lin ++ (aP Lr ++ A)) W:= .drop fun k hm=>by
 rw [e6]
 simp only [List.mem_append] at hm ⊢
 rcases hm with hm | hm | hm
 ·exact .inl (.inl hm)
 ·exact .inl (.inr hm)
 ·exact .inr hm
theorem F0 {Lin Lr:List aO} {A:List Nat} {W:World} :Ext (aP Lin ++ (aP Lr ++ A)) W (aP (Lin ++ Lr) ++ A) W:= .drop fun k hm=>by
 rw [e6] at hm
 simp only [List.mem_append] at hm ⊢
 rcases hm with(hm | hm) | hm
 ·exact .inl hm
 ·exact .inr (.inl hm)
 ·exact .inr (.inr hm)
theorem aj.yield {rest:List Oper} {bb kD:Nat} {ats:Array TypeId} {u:Value} {α σ ε γ:Type} {τ:α→I} {Ls:σ→γ→List aO} {Lx:ε→γ→List aO} {step:α→σ→Option (σ ⊕ ε)} {Lin:List aO} {x:Operand} {v:α} {s:σ} {gg:γ} {r:σ ⊕ ε}
 (ar:c.rd=none) (a6:u1 c.P u τ Ls Lx step (fun c7 W'=>Ext (c.X ++ c.b5) c.iw c7 W')) (a8:look E kD=some (.eq u)) (aq:bc c E (Lin ++ Ls s gg) x (τ v)) (aQ:step v s=some r) (aR:Nat.blt bb c.n=true)
 (aZ:∀ ca,r= .inl ca→ ∀ fw,aj c ops Q rest ((bb,.of true) :: E) (Lin ++ Ls ca fw)) (b0:∀ q,r= .inr q→ ∀ fw,aj c ops Q rest ((bb,.of false) :: E) (Lin ++ Lx q fw)):
 aj c ops Q (⟨some bb,.call ⟨.value (.tmp kD),#[x],ats⟩,ty,pos,af,none⟩ :: rest) E (Lin ++ Ls s gg):=fun a W st=>by
 obtain⟨l,rfl,a6⟩:=a6
 obtain⟨JA,aa,ae⟩:=st.env kD _ a8
 have hu:JA= .func (.yield l) #[] #[]:=ae
 subst hu
 have px:bS c E (Ls s gg ++ Lin) a W:=st.perm List.perm_append_comm
 have aX:=aq a W st
 have ml:(τ v).holds (aP (Ls s gg) ++ (aP Lin ++ c.b5)) W (a.eval x):=(τ v).mono (.drop fun k hm=>by
  rw [e6]
  simp only [List.mem_append] at hm ⊢
  rcases hm with hm | hm | hm
  ·exact .inl (.inr hm)
  ·exact .inl (.inl hm)
  ·exact .inr hm) aX
 obtain⟨fn,tmps,assign,body,kK,iT⟩:=a6 v s r aQ gg (aP Lin ++ c.b5) W (a.eval x) (px.NU.trans za) px.D1 ml
 have Ho:(execOp a.eval ⟨some bb,.call ⟨.value (.tmp kD),#[x],ats⟩,ty,pos,af,none⟩).run c.P W= .ok (.round l fn tmps assign body) W:=by
  rw [← kK]
  simp [execOp,resolve,Deferred.ofValue,Act.eval,aa,invoke,Sem.run_bind,Sem.run_pure,Result.andThen]
 refine wpListIn_plain rfl fun K tf=> ?_
 refine⟨fun _ _=>trivial,?_⟩
 rw [Oper.semAt_eq _ _ _ (fun _ h=>by cases h),Ho,Oper.uponIn_round]
 refine⟨fun h=>by simp at h,?_⟩
 have IK:RoundIn c.F (9 - 1) c.P l fn tmps assign body W _:=iT
 refine IK.mono fun e W' he=> ?_
 cases r with
 | inl ca=>
   obtain⟨w,fw,rfl,pz,aD,aV,a1,bo⟩:=he
   obtain rfl:=of_bool.1 bo
   refine tf _ _ (aZ ca rfl fw _ _ ?_)
   exact(((px.after pz aD aV a1).perm List.perm_append_comm).put (by simpa using aR) (of_bool.2 rfl))
 | inr q=>
   obtain⟨w,fw,rfl,pz,aD,aV,a1,bo⟩:=he
   obtain rfl:=of_bool.1 bo
   refine tf _ _ (b0 q rfl fw _ _ ?_)
   exact(((px.after pz aD aV a1).perm List.perm_append_comm).put (by simpa using aR) (of_bool.2 rfl))
theorem aj.MJ {rest:List Oper} {bb kD j gt:Nat} {b:Bool} {ats:Array TypeId} {u:Value} {α σ ε γ:Type} {τ:α→I} {Ls:σ→γ→List aO} {Lx:ε→γ→List aO} {step:α→σ→Option (σ ⊕ ε)} {Lin:List aO} {x:Operand} {v:α} {s:σ} {gg:γ} {r:σ ⊕ ε}
 (ar:c.rd=none) (a6:u1 c.P u τ Ls Lx step (fun c7 W'=>Ext (c.X ++ c.b5) c.iw c7 W')) (hb:b=true) (aE:(ops[j]?).bind (·.dst)=some gt) (ao:look E gt=some (.of b)) (a8:look E kD=some (.cond (b=true) (.eq u))) (aq:bc c E (Lin ++ Ls s gg) x (τ v)) (aQ:step v s=some r) (aR:Nat.blt bb c.n=true)
 (aZ:∀ ca,r= .inl ca→ ∀ fw,aj c ops Q rest ((bb,.cond (b=true) (.of true)) :: E) (Lin ++ Ls ca fw)) (b0:∀ q,r= .inr q→ ∀ fw,aj c ops Q rest ((bb,.cond (b=true) (.of false)) :: E) (Lin ++ Lx q fw)):
 aj c ops Q (⟨some bb,.call ⟨.value (.tmp kD),#[x],ats⟩,ty,pos,af,some (j,true)⟩ :: rest) E (Lin ++ Ls s gg):=fun a W st=>by
 have aH:look ((kD,.eq u) :: E) kD=some (.eq u):=by simp [look,Nat.beq_refl]
 have Zb:bS c ((kD,.eq u) :: E) (Lin ++ Ls s gg) a W:=st.less fun t mh h=>by
  simp only [look] at h
  by_cases e:Nat.beq kD t=true
  ·rw [e] at h
   simp only [cond_true,Option.some.injEq] at h
   subst h
   rw [← fc.1 e]
   exact⟨_,a8,fun A W v aX=>aX.1 hb⟩
  ·simp only [Bool.not_eq_true] at e
   rw [e] at h
   exact⟨_,h,fun _ _ _ h=>h⟩
 have key:=aj.yield (c:=c) (ops:=ops) (Q:=Q) (E:=(kD,.eq u) :: E) (rest:=rest) (ty:=ty) (pos:=pos) (af:=af) (ats:=ats) ar a6 aH (fun a W s=>aq a W (s.less fun t mh h=>by
  by_cases e:Nat.beq kD t=true
  ·have:=fc.1 e
   subst this
   rw [a8] at h
   cases h
   refine⟨_,aH,fun A W v aX=>⟨fun _=>aX,fun h=>absurd hb h⟩⟩
  ·simp only [Bool.not_eq_true] at e
   exact⟨mh,by simp only [look]; rw [e]; exact h,fun _ _ _ h=>h⟩)) aQ aR
  (fun ca e fw a W st=>aZ ca e fw a W (st.less fun t mh h=>by
   simp only [look] at h ⊢
   by_cases e:Nat.beq bb t=true
   ·rw [e] at h ⊢
    simp only [cond_true,Option.some.injEq] at h ⊢
    exact⟨_,rfl,fun A W v aX=>by subst h; exact⟨fun _=>aX,fun h=>absurd hb h⟩⟩
   ·simp only [Bool.not_eq_true] at e
    rw [e] at h ⊢
    simp only [cond_false] at h ⊢
    by_cases aU:Nat.beq kD t=true
    ·have:=fc.1 aU
     subst this
     rw [a8] at h
     cases h
     rw [aU]
     exact⟨_,rfl,fun A W v aX=>⟨fun _=>aX,fun h=>absurd hb h⟩⟩
    ·simp only [Bool.not_eq_true] at aU
     rw [aU]
     exact⟨mh,h,fun _ _ _ h=>h⟩))
  (fun ca e fw a W st=>b0 ca e fw a W (st.less fun t mh h=>by
   simp only [look] at h ⊢
   by_cases e:Nat.beq bb t=true
   ·rw [e] at h ⊢
    simp only [cond_true,Option.some.injEq] at h ⊢
    exact⟨_,rfl,fun A W v aX=>by subst h; exact⟨fun _=>aX,fun h=>absurd hb h⟩⟩
   ·simp only [Bool.not_eq_true] at e
    rw [e] at h ⊢
    simp only [cond_false] at h ⊢
    by_cases aU:Nat.beq kD t=true
    ·have:=fc.1 aU
     subst this
     rw [a8] at h
     cases h
     rw [aU]
     exact⟨_,rfl,fun A W v aX=>⟨fun _=>aX,fun h=>absurd hb h⟩⟩
    ·simp only [Bool.not_eq_true] at aU
     rw [aU]
     exact⟨mh,h,fun _ _ _ h=>h⟩))
 have:=key a W Zb
 unfold dh.rA wpListIn at this ⊢
 rw [if_pos (by simp [Region.wanted])] at this
 rw [if_pos (by simp [Region.wanted,CB aE ao st,hb])]
 exact this
theorem aj.eI {l:List Oper} {L2:List aO} (h:L=L2) (k:aj c ops Q l E L2):aj c ops Q l E L:=by subst h; exact k
theorem aj.cases {l:List Oper} (b:Bool) (aa:b=true→aj c ops Q l E L) (ae:b=false→aj c ops Q l E L):aj c ops Q l E L:=by
 cases b
 ·exact ae rfl
 ·exact aa rfl
theorem aj.NF {o:Oper} {rest:List Oper} {bb j gt:Nat} {b:Bool} (τ:I) (hb:b=false) (bP:o.guard=some (j,true)) (hd:o.dst=some bb) (aE:(ops[j]?).bind (·.dst)=some gt) (ao:look E gt=some (.of b)) (aR:Nat.blt bb c.n=true)
 (k:aj c ops Q rest ((bb,.cond (b=true) τ) :: E) L):aj c ops Q (o :: rest) E L:=fun a W s=>by
 unfold dh.rA wpListIn
 rw [if_neg (by simp [Region.wanted,bP,CB aE ao s,hb]),hd]
 exact⟨fun _ _=>trivial,k _ _ (s.put (by simpa using aR) ⟨fun h=>(by rw [hb] at h; cases h),fun _=>rfl⟩)⟩
theorem ah.Dp {x:Operand} {b:Bool} {y z:Code} (ao:bc c E L x (.of b)) (hb:b=true) (k:ah c Q y E L):ah c Q (.cond x y z) E L:= .cond ao (fun _=>k) fun h=>by rw [hb] at h; cases h
theorem ah.q2 {x:Operand} {b:Bool} {y z:Code} (ao:bc c E L x (.of b)) (hb:b=false) (k:ah c Q z E L):ah c Q (.cond x y z) E L:= .cond ao (fun h=>by rw [hb] at h; cases h) fun _=>k
def zz:Code→Exit
 | .ret=> .ret
 | .exit id=> .exit id
 | .goto t=> .goto t
 | _=> .normal
def ub:Code→Bool
 | .ret | .exit _ | .goto _=>true
 | _=>false
def BE {σ ε γ:Type} (c:dh) (eZ:ε→Code) (l D:Nat) (rec:Loop) (Ls:σ→γ→List aO) (Lx:ε→γ→List aO):σ ⊕ ε→Exit→Act→World→Prop
 | .inl ca,x,a,W=>x= .normal∧ ∃ g,bS c [] (⟨some l,.is (.loop rec)⟩ :: ⟨some D,.dn⟩ :: Ls ca g) a W
 | .inr q,x,a,W=>ub (eZ q)=true∧x=zz (eZ q)∧ ∃ g,bS c [] (⟨some l,.is (.loop rec)⟩ :: ⟨some D,.dn⟩ :: Lx q g) a W
def BF (c:dh) (l:Nat) (body:Code) (Q:Exit→Act→World→Prop) (a:Act) (W:World):Prop:=
 ∃ nA,(Instr.beginRound l).run c.P W= .ok () nA∧c.wp body Q a nA
theorem ad.begin {l:Nat} {body:Code} {xp:Exit→Act→World→Prop} (i:Nat) {r:Loop} (au:L[i]? =some ⟨some l,.is (.loop r)⟩) (aQ:r.state= .ready)
 (k:ah c Q body E (L.set i ⟨some l,.is (.loop { r with state:= .busy })⟩)):ad c (Exit.then (BF c l body Q) xp) .normal E L:=fun a W s=>by
 obtain⟨o,aa,ae⟩:=s.own _ (List.mem_of_getElem? au)
 have kt:o= .loop r:=ae
 subst kt
 exact⟨_,run_beginRound aa aQ,k _ _ (s.rq au rfl)⟩
theorem ad.H9 {σ ε γ:Type} {eZ:ε→Code} {l D:Nat} {rec:Loop} {Ls:σ→γ→List aO} {Lx:ε→γ→List aO} {ca:σ} (g:γ) (n:Nat) (au:L.drop n=⟨some l,.is (.loop rec)⟩ :: ⟨some D,.dn⟩ :: Ls ca g):
 ad c (BE c eZ l D rec Ls Lx (.inl ca)) .normal E L:=fun a W s=>⟨rfl,g,by rw [← au]; exact(s.nX n).less (fun t τ h=>by simp [look] at h)⟩
theorem ad.GG {σ ε γ:Type} {eZ:ε→Code} {l D:Nat} {rec:Loop} {Ls:σ→γ→List aO} {Lx:ε→γ→List aO} {q:ε} {x:Exit} (g:γ) (n:Nat) (aE:ub (eZ q)=true) (aq:x=zz (eZ q)) (au:L.drop n=⟨some l,.is (.loop rec)⟩ :: ⟨some D,.dn⟩ :: Lx q g):
 ad c (BE c eZ l D rec Ls Lx (.inr q)) x E L:=fun a W s=>⟨aE,aq,g,by rw [← au]; exact(s.nX n).less (fun t τ h=>by simp [look] at h)⟩
theorem ah.jump {j:Code} (aE:ub j=true) (k:ad c Q (zz j) E L):ah c Q j E L:=by
 cases j <;> simp only [ub] at aE <;> first | cases aE | skip
 all_goals first | exact .exit k | exact .ret k | exact fun a W s=>wpIn_goto (k a W s)
theorem Ki {P:Program} {l:Nat} {R:Ending→World→Prop} {j:Code} {a:Act} {W W':World} {v:Value} (aE:ub j=true) (bo:(Instr.endRound l (some j)).run P W= .ok v W') (iT:R (.returned v) W'):
 roundPost P l R (zz j) a W:=by
 cases j <;> simp only [ub] at aE <;> first | exact⟨_,_,bo,iT⟩ | cases aE
theorem bS.mark {a:Act} {W:World} (s:bS c E L a W) (D:Nat):bS { c with ds:=D :: c.ds } E L { a with defers:=DT D :: a.defers } W:=
 {defers:=by simp [s.defers],size:=s.size,env:=s.env,dD:=s.dD,own:=s.own,nodup:=s.nodup,lt:=s.lt,fY:=s.fY,eU:=s.eU }
def IL (P:Program) (f:FuncId) (τs:List I) (Lin:List aO) {α σ ε γ:Type} (τ:α→I) (run:(α→σ→Option (σ ⊕ ε))→σ→Option (σ ⊕ ε)) (Ls:σ→γ→List aO) (Lx:ε→γ→List aO):Prop:=
 ∀ (step:α→σ→Option (σ ⊕ ε)) (cd:σ) (g0:γ) (r:σ ⊕ ε),run step cd=some r→
   ∀ (A:List Nat) (W:World) (u:Value) (vs:List Value),w1 A W (Lin ++ Ls cd g0)→gq (aP (Lin ++ Ls cd g0) ++ A) W τs vs→
     u1 P u τ Ls Lx step (fun c7 W'=>Ext (aP (Lin ++ Ls cd g0) ++ A) W c7 W')→
     Calls P f (u :: vs).toArray W (jD (aP (Lin ++ Ls cd g0)) A W (fun _:γ=> .cN []) (fun g=>Lin ++ Lr Ls Lx r g))
theorem Lc {gt p:Nat} {assign body:Code} {f:FuncId} {mb:List I} {Lin:List aO} {α σ ε γ:Type} {τ:α→I} {run:(α→σ→Option (σ ⊕ ε))→σ→Option (σ ⊕ ε)}
 {Ls:σ→γ→List aO} {Lx:ε→γ→List aO} {step:α→σ→Option (σ ⊕ ε)} {cd:σ} {g0:γ} {r:σ ⊕ ε} (eZ:ε→Code)
 (ar:c.rd=none) (ea:bT c.P f) (bP:look E gt=some (.gW f mb)) (kA:∀ aA aU mm,IL c.P f mb Lin τ run (fun s g=>aA :: aU :: Ls s g) mm) (aQ:run step cd=some r) (au:L=Lin ++ Ls cd g0) (hp:Nat.blt p c.n=true)
 (ot:∀ x s r,step x s=some r→ ∀ g (kr:World) (kz ks:List Nat) (l D:Nat) (rec:Loop),rec.state= .ready→
  ah ⟨c.P,c.n,kr,kz,ks,some l,[]⟩ (Exit.then (BF ⟨c.P,c.n,kr,kz,ks,some l,[]⟩ l body (BE ⟨c.P,c.n,kr,kz,ks,some l,[]⟩ eZ l D { rec with state:= .busy } Ls Lx r)) (fun _ _ _=>False)) assign ((p,τ x) :: E) (⟨some l,.is (.loop rec)⟩ :: ⟨some D,.dn⟩ :: Ls s g))
 (p5:∀ ca,r= .inl ca→ ∀ g D,ad { c with ds:=D :: c.ds } Q .normal E (⟨some D,.dn⟩ :: (Lin ++ Ls ca g)))
 (um:∀ q,r= .inr q→ ∀ g D,ah { c with ds:=D :: c.ds } Q (eZ q) E (⟨some D,.dn⟩ :: (Lin ++ Lx q g))):
 ah c Q (.rangeFunc (.tmp gt) #[p] assign body) E L:=fun a W st=>by
 subst au
 refine wpIn_rangeFunc fun fn Zc=> ?_
 show ∃ l mark Yj d WJ xv args Yk,(Instr.enterLoop fn a.tmps #[p] assign body c.rd).run c.P W=_∧_
 rw [ar]
 obtain⟨rec,j2⟩:∃ rec:Loop,rec= { state:= .ready,pending:=none,fn,tmps:=a.tmps,params:= #[p],assign,body,defers:=W.heap.size } :=⟨_,rfl⟩
 obtain⟨v,A8,hN,u2,Zd⟩:=st.env gt _ bP
 obtain⟨hH,A9⟩:∃ hH,(W.alloc (.deferred (some []))).alloc (.loop rec)=hH:=⟨_,rfl⟩
 have s1:=(st.alloc (o:= .deferred (some [])) (cp:= .dn) rfl).alloc (o:= .loop rec) (cp:= .is (.loop rec)) rfl
 rw [A9,World.size_alloc] at s1
 obtain⟨D,kB⟩:∃ D,D=W.heap.size:=⟨_,rfl⟩
 obtain⟨l,ao⟩:∃ l,l=W.heap.size + 1:=⟨_,rfl⟩
 have Ba:=run_enterLoop_outer (P:=c.P) (w:=W) fn a.tmps #[p] assign body
 rw [← j2,A9,← ao,← kB] at Ba
 rw [← ao,← kB] at s1
 obtain⟨kS,pA⟩:∃ kS:σ→γ→List aO,kS=fun s g=>⟨some l,.is (.loop rec)⟩ :: ⟨some D,.dn⟩ :: Ls s g:=⟨_,rfl⟩
 obtain⟨mm,Bb⟩:∃ mm:ε→γ→List aO,mm=fun q g=>⟨some l,.is (.loop { rec with state:= .done,pending:=some (eZ q) })⟩ :: ⟨some D,.dn⟩ :: Lx q g:=⟨_,rfl⟩
 have s2:bS c E (Lin ++ kS cd g0) a hH:=s1.perm (by
  rw [pA]
  exact(List.perm_middle.trans (List.perm_middle.cons _)).symm)
 have IM:gq (aP (Lin ++ kS cd g0) ++ c.b5) hH mb hN:=by
  have aa:(I.gW f mb).holds (aP (Lin ++ kS cd g0) ++ c.b5) hH v:=by
   obtain⟨vb,aa,ae⟩:=s2.env gt _ bP
   rw [A8] at aa
   cases aa
   exact ae
  obtain⟨IN,aA,aU⟩:=aa
  rw [u2] at aA
  have:IN=hN:=by injection aA with _ _ aA; injection aA with aA; exact aA.symm
  rw [← this]; exact aU
 have Bc:bS c E ((Lin ++ kS cd g0) ++ []) a hH:=by rw [List.append_nil]; exact s2
 have z7:=Bc.D1
 simp only [aP,List.nil_append] at z7
 have HT:u1 c.P (.func (.yield l) #[] #[]) τ kS mm step (fun c7 W'=>Ext (aP (Lin ++ kS cd g0) ++ c.b5) hH c7 W'):=by
  refine⟨l,rfl,fun x s rS hs g A nA v2 g1 hle aX=> ?_⟩
  have AE:=hle
  rw [pA] at AE
  obtain⟨o,e7,gi⟩:=AE.ok ⟨some l,.is (.loop rec)⟩ (by simp)
  have pd:o= .loop rec:=gi
  subst pd
  have a6:=run_yield (P:=c.P) (args:= #[v2]) e7 (by rw [j2]; rfl)
  refine⟨_,_,_,_,a6,roundIn_of_wpIn trivial ?_⟩
  have aA:rec.assign=assign:=by rw [j2]
  have aU:rec.body=body:=by rw [j2]
  have cL:rec.params= #[p]:=by rw [j2]
  have eO:rec.tmps=a.tmps:=by rw [j2]
  rw [aA,aU,cL,eO]
  refine CK (n:=9) rfl ?_
  have Hp:((#[p]:Array Tmp).zip #[v2]).foldl (fun tmps (t,a)=>tmps.setIfInBounds t a) a.tmps=a.tmps.setIfInBounds p v2:=by simp
  rw [Hp]
  subst pA Bb
  refine wpIn_mono ((ot x s rS hs g nA (aP (⟨some l,.is (.loop rec)⟩ :: ⟨some D,.dn⟩ :: Ls s g)) A l D rec (by rw [j2])) { tmps:=a.tmps.setIfInBounds p v2,defers:= [] } nA ?_) ?_
  ·have mn:p < c.n:=by simpa using hp
   exact
   {defers:=rfl
    size:=by simp [s2.size]
    env:=fun t mh ej=>by
     simp only [look] at ej
     by_cases e:Nat.beq p t=true
     ·rw [e] at ej
      simp only [cond_true,Option.some.injEq] at ej
      subst ej
      have:=fc.1 e
      subst this
      exact⟨v2,by simp [s2.size,mn],aX⟩
     ·simp only [Bool.not_eq_true] at e
      rw [e] at ej
      simp only [cond_false] at ej
      obtain⟨u,aa,ae⟩:=s2.env t mh ej
      have dz:p≠t:=fun h=>by rw [fc.2 h] at e; cases e
      exact⟨u,by rw [Array.getElem?_setIfInBounds_ne dz]; exact aa,mh.mono g1 ae⟩
    dD:= .refl _ _
    own:=hle.ok
    nodup:=hle.nodup
    lt:=hle.lt
    fY:=fun k av _=>av
    eU:=hle.eU }
  ·intro e jM ZW hq
   cases e with
   | normal=>
     obtain⟨JB,IP,hb⟩:=hq
     refine⟨JB,IP,CK (n:=9) rfl (wpIn_mono hb ?_)⟩
     intro e rT BG Ep
     have fin:∀ (jump:Option Code) {Lr:List aO},bS ⟨c.P,c.n,nA,aP (⟨some l,.is (.loop rec)⟩ :: ⟨some D,.dn⟩ :: Ls s g),A,some l,[]⟩ [] (⟨some l,.is (.loop { rec with state:= .busy })⟩ :: ⟨some D,.dn⟩ :: Lr) rT BG→
      ∃ oa,(Instr.endRound l jump).run c.P BG= .ok (.bool jump.isNone) oa∧bS ⟨c.P,c.n,nA,aP (⟨some l,.is (.loop rec)⟩ :: ⟨some D,.dn⟩ :: Ls s g),A,some l,[]⟩ [] (⟨some l,.is (.loop { rec with state:=if jump.isNone then .ready else .done,pending:=jump })⟩ :: ⟨some D,.dn⟩ :: Lr) rT oa:=fun jump Lr hM=>by
      obtain⟨o,aa,ae⟩:=hM.own ⟨some l,.is (.loop { rec with state:= .busy })⟩ (by simp)
      have kt:o= .loop { rec with state:= .busy } :=ae
      subst kt
      exact⟨_,run_endRound jump aa,hM.rq (i:=0) rfl rfl⟩
     cases rS with
     | inl ca=>
       obtain⟨rfl,fw,hM⟩:=Ep
       obtain⟨oa,bo,iv⟩:=fin none hM
       refine⟨_,oa,bo,?_⟩
       have IQ:({ rec with state:=if (none:Option Code).isNone then .ready else .done,pending:=none } :Loop)=rec:=by rw [j2]; rfl
       rw [IQ] at iv
       exact iv.ends (ρ:=fun _:γ=>I.of true) (Lo:=fun g=>⟨some l,.is (.loop rec)⟩ :: ⟨some D,.dn⟩ :: Ls ca g) fw (List.Sublist.refl _) (of_bool.2 rfl)
     | inr q=>
       obtain⟨aE,rfl,fw,hM⟩:=Ep
       obtain⟨oa,bo,iv⟩:=fin (some (eZ q)) hM
       have key:jD (aP (⟨some l,.is (.loop rec)⟩ :: ⟨some D,.dn⟩ :: Ls s g)) A nA (fun _:γ=>I.of false) (fun g=>⟨some l,.is (.loop { rec with state:= .done,pending:=some (eZ q) })⟩ :: ⟨some D,.dn⟩ :: Lx q g) (.returned (.bool false)) oa:=
        iv.ends (ρ:=fun _:γ=>I.of false) (Lo:=fun g=>⟨some l,.is (.loop { rec with state:= .done,pending:=some (eZ q) })⟩ :: ⟨some D,.dn⟩ :: Lx q g) fw (List.Sublist.refl _) (of_bool.2 rfl)
       exact Ki aE bo key
   | exit id=>exact hq.elim
   | goto t=>exact hq.elim
   | ret=>exact hq.elim
   | panic Jp=>exact hq.elim
   | outgrown=>exact hq.elim
 have IS:IL c.P f mb Lin τ run kS mm:=by rw [pA]; exact kA _ _ mm
 have z8:=IS step cd g0 r aQ c.b5 hH (.func (.yield l) #[] #[]) hN z7 IM HT
 have lO:a.eval (.tmp gt)= .func (.func f) #[] hN.toArray:=by simp [Act.eval,A8,u2]
 refine⟨l,[DT D],hH,{ target:= .fn (.func f) hN.toArray,args:= #[.func (.yield l) #[] #[]] },hH,f,#[.func (.yield l) #[] #[]] ++ hN.toArray,hH,Ba,?_,fun _ _=>trivial,?_,fun h=>by simp at h,?_⟩
 ·simp only [resolve,lO]
  simp [go_sem]
 ·simp [invoke,go_sem,ea.run]
 ·refine CallsIn.Gi ?_
  have Hq:(#[.func (.yield l) #[] #[]] ++ hN.toArray:Array Value)=(.func (.yield l) #[] #[] :: hN).toArray:=by simp
  rw [Hq]
  refine z8.mono fun e JC ⟨ZX,fw,he,a8,aD,aV,a1,bo⟩=> ?_
  subst he
  have ob:=Bc.after a8 aD (by simpa [aP] using aV) (by simpa [aP] using a1)
  rw [List.append_nil] at ob
  cases r with
  | inl ca=>
    simp only [Lr] at ob
    subst pA
    have BH:bS c E (⟨some l,.is (.loop rec)⟩ :: ⟨some D,.dn⟩ :: (Lin ++ Ls ca fw)) a JC:=ob.perm (by
     exact List.perm_middle.trans (List.perm_middle.cons _))
    obtain⟨o,e7,gi⟩:=BH.own ⟨some l,.is (.loop rec)⟩ (by simp)
    have pd:o= .loop rec:=gi
    subst pd
    have oB:=run_endLoop (P:=c.P) e7 (by rw [j2]; simp)
    have mn:rec.pending=none:=by rw [j2]
    rw [mn] at oB
    refine⟨none,_,oB,?_⟩
    have rU:=(BH.rq (i:=0) (cp':= .is (.loop { rec with state:= .exhausted })) (o':= .loop { rec with state:= .exhausted }) rfl rfl).nX 1
    rw [mn] at rU
    exact p5 ca rfl fw D _ _ (rU.mark D)
  | inr q=>
    simp only [Lr] at ob
    subst Bb
    have BH:bS c E (⟨some l,.is (.loop { rec with state:= .done,pending:=some (eZ q) })⟩ :: ⟨some D,.dn⟩ :: (Lin ++ Lx q fw)) a JC:=ob.perm (by
     exact List.perm_middle.trans (List.perm_middle.cons _))
    obtain⟨o,e7,gi⟩:=BH.own ⟨some l,.is (.loop { rec with state:= .done,pending:=some (eZ q) })⟩ (by simp)
    have pd:o= .loop { rec with state:= .done,pending:=some (eZ q) } :=gi
    subst pd
    have oB:=run_endLoop (P:=c.P) e7 (by simp)
    refine⟨some (eZ q),_,oB,?_⟩
    have rU:=(BH.rq (i:=0) (cp':= .is (.loop { rec with state:= .exhausted,pending:=some (eZ q) })) (o':= .loop { rec with state:= .exhausted,pending:=some (eZ q) }) rfl rfl).nX 1
    exact um q rfl fw D _ _ (rU.mark D)
theorem Lq {gt p:Nat} {assign body:Code} {f:FuncId} {mb:List I} {Lin:List aO} {α σ ε γ:Type} {τ:α→I} {run:∀ {σ ε:Type},(α→σ→Option (σ ⊕ ε))→σ→Option (σ ⊕ ε)}
 {Ls:σ→γ→List aO} {Lx:ε→γ→List aO} {step:α→σ→Option (σ ⊕ ε)} {cd:σ} {g0:γ} {r:σ ⊕ ε} (eZ:ε→Code)
 (ar:c.rd=none) (ea:bT c.P f) (bP:look E gt=some (.gW f mb)) (kA:tY c.P f mb Lin τ run) (aQ:run step cd=some r) (au:L=Lin ++ Ls cd g0) (hp:Nat.blt p c.n=true)
 (ot:∀ x s r,step x s=some r→ ∀ g (kr:World) (kz ks:List Nat) (l D:Nat) (rec:Loop),rec.state= .ready→
  ah ⟨c.P,c.n,kr,kz,ks,some l,[]⟩ (Exit.then (BF ⟨c.P,c.n,kr,kz,ks,some l,[]⟩ l body (BE ⟨c.P,c.n,kr,kz,ks,some l,[]⟩ eZ l D { rec with state:= .busy } Ls Lx r)) (fun _ _ _=>False)) assign ((p,τ x) :: E) (⟨some l,.is (.loop rec)⟩ :: ⟨some D,.dn⟩ :: Ls s g))
 (p5:∀ ca,r= .inl ca→ ∀ g D,ad { c with ds:=D :: c.ds } Q .normal E (⟨some D,.dn⟩ :: (Lin ++ Ls ca g)))
 (um:∀ q,r= .inr q→ ∀ g D,ah { c with ds:=D :: c.ds } Q (eZ q) E (⟨some D,.dn⟩ :: (Lin ++ Lx q g))):
 ah c Q (.rangeFunc (.tmp gt) #[p] assign body) E L:=
 Lc (run:=run) eZ ar ea bP (fun aA aU mm=>kA.go (fun s g=>aA :: aU :: Ls s g) mm) aQ au hp ot p5 um
theorem RE {P:Program} {fn:Func} {R:Ending→World→Prop} {a:Act} {W:World} (h:bodyPost P fn R .ret a W):bodyPostM Fence.wide 9 P fn R .ret a W:=by
 obtain⟨aa,v,ae,aD⟩:=h
 show LeavesInM Fence.wide 9 P fn a.tmps R a.defers .returning W
 rw [aa]
 exact⟨v,ae,aD⟩
theorem ad.sM {P:Program} {fn:Func} {R:Ending→World→Prop} (k:ad c (bodyPost P fn R) .ret E L):ad c (bodyPost P fn R) .normal E L:=fun a W s=>k a W s
theorem ad.wS {fn:Func} {R:Ending→World→Prop} (k:ad c (bodyPost c.P fn R) .ret E L):ad c (bodyPostM Fence.wide 9 c.P fn R) .ret E L:=fun a W s=>RE (k a W s)
theorem ad.sO {fn:Func} {R:Ending→World→Prop} {D:Nat} (i:Nat) (au:L[i]? =some ⟨some D,.dn⟩) (hU:c.ds= [D]) (k:ad { c with ds:= [] } (bodyPost c.P fn R) .ret E (L.set i ⟨some D,.is (.deferred none)⟩)):
 ad c (bodyPostM Fence.wide 9 c.P fn R) .ret E L:=fun a W s=>by
 obtain⟨o,aa,ae⟩:=s.own _ (List.mem_of_getElem? au)
 have kt:o= .deferred (some []):=ae
 subst kt
 have s2:=s.rq au (cp':= .is (.deferred none)) (o':= .deferred none) rfl
 have g7:bS { c with ds:= [] } E (L.set i ⟨some D,.is (.deferred none)⟩) { a with defers:= [] } (W.putObj D (.deferred none)):=
  {defers:=rfl,size:=s2.size,env:=s2.env,dD:=s2.dD,own:=s2.own,nodup:=s2.nodup,lt:=s2.lt,fY:=s2.fY,eU:=s2.eU }
 obtain⟨_,v,aD,aV⟩:=k _ _ g7
 show LeavesInM Fence.wide 9 c.P fn a.tmps R a.defers .returning W
 rw [s.defers,hU]
 exact⟨by simp,.inl ⟨D,_,rfl,run_takeDeferred aa,v,aD,aV⟩⟩
end
theorem bw.UM {P:Program} {f:FuncId} {fn:Func} {code:Code} {n:Nat} {τs:List I} {ρ:I} (a8:P.funcs[f]? =some fn) (hb:fn.body=some code) (aR:fn.ntmps=n) (hlen:Nat.ble τs.length n=true)
 (h:∀ W A,ah ⟨P,n,W,[],A,none,[]⟩ (bodyPostM Fence.wide 9 P fn fun e W'=> ∃ v,e= .returned v∧Fr [] W W'∧ρ.holds A W' v) code (params 0 τs) []):bw P f τs ρ:=by
 intro A W vs fV aX
 refine(callsIn_wide (n:=9)).1 (callsIn_of_wp_marks a8 hb trivial (h W A _ _ ?_))
 have ao:=aX.length
 have hle:τs.length≤n:=Nat.le_of_ble_eq_true hlen
 exact
 {defers:=rfl
  size:=by simp [aR,ao]; omega
  env:=fun t τ ld=>by
   obtain⟨_,v,ae,aD⟩:=tE aX 0 t τ ld
   refine⟨v,?_,aD⟩
   have cw:t < vs.length:=(List.getElem?_eq_some_iff.1 ae).1
   rw [Array.getElem?_append_left (by simpa using cw)]
   simpa using ae
  dD:= .refl _ _
  own:=by simp
  nodup:=by simp [aP]
  lt:=by simp [aP]
  fY:=by simp [aP]
  eU:=fun k av=>⟨fV k av,by simp [aP]⟩ }
theorem bw.ofM {P:Program} {f:FuncId} {fn:Func} {code:Code} {n:Nat} {τs:List I} {ρ:I} (a8:P.funcs[f]? =some fn) (hb:fn.body=some code) (aR:fn.ntmps=n) (hlen:Nat.ble τs.length n=true)
 (h:∀ W A,ah ⟨P,n,W,[],A,none,[]⟩ (bodyPostM Fence.wide 9 P fn (uE ⟨P,n,W,[],A,none,[]⟩ ρ)) code (params 0 τs) []):bw P f τs ρ:=bw.UM a8 hb aR hlen h
theorem cy.ofM {P:Program} {f:FuncId} {fn:Func} {code:Code} {n:Nat} {τs:List I} {Lin:List aO} {δ:Type} {ρ:δ→I} {Lo:δ→List aO} (a8:P.funcs[f]? =some fn) (hb:fn.body=some code) (aR:fn.ntmps=n) (hlen:Nat.ble τs.length n=true)
 (h:∀ W A,ah ⟨P,n,W,aP Lin,A,none,[]⟩ (bodyPostM Fence.wide 9 P fn (jD (aP Lin) A W ρ Lo)) code (params 0 τs) Lin):cy P f τs Lin ρ Lo:=by
 intro A W vs fV iM cw hV aX
 refine(callsIn_wide (n:=9)).1 (callsIn_of_wp_marks a8 hb trivial (h W A _ _ ?_))
 have ao:=aX.length
 have hle:τs.length≤n:=Nat.le_of_ble_eq_true hlen
 exact
 {defers:=rfl
  size:=by simp [aR,ao]; omega
  env:=fun t τ ld=>by
   obtain⟨_,v,ae,aD⟩:=tE aX 0 t τ ld
   refine⟨v,?_,aD⟩
   have cw:t < vs.length:=(List.getElem?_eq_some_iff.1 ae).1
   rw [Array.getElem?_append_left (by simpa using cw)]
   simpa using ae
  dD:= .refl _ _
  own:=hV
  nodup:=iM
  lt:=cw
  fY:=fun k av _=>av
  eU:=fV }
end Gv
namespace Gv
open Go
set_option linter.unusedVariables false
set_option linter.unusedSimpArgs false
theorem FC {τ σ:I} (h:τ.Flat) (k:σ.Flat):(I.cN [τ,σ]).Flat:=fun A W c7 W' v ⟨vs,aa,ae⟩=>by
 refine⟨vs,aa,?_⟩
 generalize vs.toList=l at ae
 cases ae with
 | cons a r=>cases r with
   | cons b r=>cases r; exact .cons (h _ _ _ _ _ a) (.cons (k _ _ _ _ _ b) .nil)
section
variable {c:dh} {E:List (Nat × I)} {L:List aO} {ops:Array Oper} {Q:Exit→Act→World→Prop}
variable {d:Option Tmp} {ty:TypeId} {pos:String} {af:Array Edge} {g:Option (Nat × Bool)} {x y:Operand} {t t2:TypeId}
theorem b7.via {o:Oper} {τ:I} {E':List (Nat × I)} {ay:List aO} (a8:τ.Flat) (hs:∀ a W,bS c E L a W→bS c E' ay a W) (h:b7 c E' ay o τ):b7 c E L o τ:=fun a W st=>by
 have:=h a W (hs a W st)
 unfold gw at this ⊢
 exact Oper.wp_mono (fun ie W' ⟨v,aa,ae,aD⟩=>⟨v,aa,ae,a8 _ _ _ _ _ aD⟩) this
theorem bS.tell {a:Act} {W:World} (s:bS c E L a W) {fo:Nat} {σ τ:I} (ao:look E fo=some σ) (h:∀ v,σ.holds (aP L ++ c.b5) W v→τ.holds (aP L ++ c.b5) W v):bS c ((fo,τ) :: E) L a W:=by
 refine { s with env:=fun t mh ej=> ?_ }
 simp only [look] at ej
 by_cases e:Nat.beq fo t=true
 ·rw [e] at ej
  simp only [cond_true,Option.some.injEq] at ej
  subst ej
  have:=fc.1 e
  subst this
  obtain⟨v,aa,ae⟩:=s.env fo _ ao
  exact⟨v,aa,h v ae⟩
 ·simp only [Bool.not_eq_true] at e
  rw [e] at ej
  exact s.env t mh ej
theorem bS.NV {a:Act} {W:World} (s:bS c E L a W) {i p:Nat} {α:Type} [ai α] {z:α} (au:L[i]? =some ⟨some p,.var z⟩):
 (I.ptr z).holds (aP (L.set i ⟨none,.dead⟩) ++ c.b5) W (.pointer (some ⟨p,0,none⟩)):=by
 obtain⟨o,eu,cs,T,rfl,aQ⟩:=s.own _ (List.mem_of_getElem? au)
 have hlen:cs.toList.length=ai.size α:=ai.len aQ
 refine⟨p,0,cs,T,(0,0),rfl,s.yW au,eu,by simp at hlen; omega,?_⟩
 rw [List.drop_zero,← hlen,List.take_length]
 have kJ:=vE (L:=L) (i:=i) (cp:= .dead)
 exact ai.mono (.drop fun k hm=>by
  rcases List.mem_append.1 hm with hm | hm
  ·exact List.mem_append.2 (.inl (kJ.subset hm))
  ·exact List.mem_append.2 (.inr hm)) aQ
abbrev Bd (f p:Nat):Value:= .func (.func f) #[.pointer (some ⟨p,0,none⟩)] #[]
theorem V6 {f p:Nat} (aq:bc c E L x (.eq (.pointer (some ⟨p,0,none⟩)))):b7 c E L ⟨d,.makeFunc (.func f) #[x] #[],ty,pos,af,g⟩ (.eq (Bd f p)):= .pure fun a W s=>by
 have h:=aq a W s
 refine⟨_,?_,rfl⟩
 have cZ:a.eval x= .pointer (some ⟨p,0,none⟩):=h
 simp [execOp,Instr.makeFunc,cZ,Bd]
theorem T6 {f p:Nat} {α β γ δ:Type} [ai α] [ai β] [ai γ] [ai δ] {z:δ} {F:α→β→Option γ} {P:Program} (ea:bT P f) (h:∀ x y r,F x y=some r→bw P f [.ptr z,.of x,.of y] (.of r)) {A:List Nat} {W:World}
 (hp:(I.ptr z).holds A W (.pointer (some ⟨p,0,none⟩))):(I.w7 P F).holds A W (Bd f p):=
 ⟨f,_,#[],rfl,ea,fun c7 W' e fV x y r n9 xr mT aX u2=>by simpa using h x y r mT c7 W' [_,n9,xr] fV (.cons (I.mono _ e hp) (.cons aX (.cons u2 .nil)))⟩
theorem b7.NO {o:Oper} {τ σ:I} {p:Nat} {α:Type} [ai α] {z:α} (i fo:Nat) (ao:look E fo=some σ) (aX:∀ A W v,σ.holds A W v→v= .pointer (some ⟨p,0,none⟩)) (au:L[i]? =some ⟨some p,.var z⟩) (a8:τ.Flat)
 (h:b7 c ((fo,.ptr z) :: E) (L.set i ⟨none,.dead⟩) o τ):b7 c E L o τ:=
 .via a8 (fun a W s=>(s.kill i).tell (σ:=σ) ao (fun v cC=>by rw [aX _ _ _ cC]; exact s.NV au)) h
theorem b7.UD {o:Oper} {τ:I} {p f:Nat} {α β γ δ:Type} [ai α] [ai β] [ai γ] [ai δ] {z:δ} {F:α→β→Option γ} (i fo:Nat) (ao:look E fo=some (.eq (Bd f p))) (au:L[i]? =some ⟨some p,.var z⟩) (ea:bT c.P f)
 (mT:∀ x y r,F x y=some r→bw c.P f [.ptr z,.of x,.of y] (.of r)) (a8:τ.Flat) (h:b7 c ((fo,.w7 c.P F) :: E) (L.set i ⟨none,.dead⟩) o τ):b7 c E L o τ:=
 .via a8 (fun a W s=>(s.kill i).tell ao (fun v cC=>by have Ze:v=Bd f p:=cC; rw [Ze]; exact T6 ea mT (s.NV au))) h
theorem b7.V4 {o:Oper} {τ:I} {p cap T:Nat} {key:Option Nat} {β γ:Type} [ai β] [ai γ] {b b':β} {xs:List γ} {os os':List (Nat × Value)} (l:aL β (List γ)) (i j q:Nat) (fz:Nat.beq i j=false) (au:L[i]? =some ⟨some p,.cz b os⟩) (kC:L[j]? =some ⟨key,.row T xs cap⟩)
 (hq:os[q]? =some (l.off,a0 key xs.length cap)) (hb:l.set b xs=b') (j7:m8 os l.off=os') (a8:τ.Flat) (h:b7 c E ((L.set j ⟨none,.dead⟩).set i ⟨some p,.cz b' os'⟩) o τ):b7 c E L o τ:=
 .via a8 (fun a W s=>s.iX l (fun e=>by rw [e,Nat.beq_refl] at fz; cases fz) au kC q hq hb j7) h
theorem b7.UC {o:Oper} {τ:I} {p cap T:Nat} {key:Option Nat} {β γ:Type} [ai β] [ai γ] {b b':β} {xs:List γ} {os os':List (Nat × Value)} (l:aL β (List γ)) (i j q fo:Nat) (fz:Nat.beq i j=false) (au:L[i]? =some ⟨some p,.cz b os⟩) (kC:L[j]? =some ⟨key,.row T xs cap⟩)
 (hq:os[q]? =some (l.off,a0 key xs.length cap)) (hb:l.set b xs=b') (j7:m8 os l.off=os') (lN:look E fo=some (.eq (a0 key xs.length cap))) (a8:τ.Flat) (h:b7 c ((fo,.of xs) :: E) ((L.set j ⟨none,.dead⟩).set i ⟨some p,.cz b' os'⟩) o τ):b7 c E L o τ:=
 .via a8 (fun a W s=>s.sK l (fun e=>by rw [e,Nat.beq_refl] at fz; cases fz) au kC q hq hb j7 lN) h
theorem b7.NN {o:Oper} {τ:I} {p:Nat} {β:Type} [ai β] {b:β} (i:Nat) (au:L[i]? =some ⟨some p,.cz b []⟩) (a8:τ.Flat) (h:b7 c E (L.set i ⟨some p,.var b⟩) o τ):b7 c E L o τ:=
 .via a8 (fun a W s=>s.wj (cp':= .var b) au (fun o ⟨cs,T,aa,ae⟩=>⟨cs,T,aa,ae.1⟩) id) h
theorem KS {P:Program} {T:TypeId} {e:TypeId} (h:P.underlying T=some (.pointer e)) (p:Addr) (W:World) (n:Nat):(Op.equalIn (n + 1) T (.pointer (some p)) (.pointer none)).run P W= .ok false W:=by
 simp [Op.equalIn,run_underlying h]
theorem GJ {p:Addr} {e:TypeId} (hu:c.P.underlying t=some (.pointer e)) (aq:bc c E L x (.eq (.pointer (some p)))):b7 c E L ⟨d,.binOp .eql t x (.const (.pointer none)) t2,ty,pos,af,g⟩ (.of false):= .pure fun a W s=>by
 have aR:a.eval (.const (.pointer none))= .pointer none:=rfl
 have aa:a.eval x= .pointer (some p):=aq a W s
 refine⟨.bool false,?_,of_bool.2 rfl⟩
 simp only [execOp,eqGuard,binOp,aa,aR,Op.equal,Op.maxDepth]
 simp [KS hu p W 9999]
theorem TO {γ:Type} [ai γ] {r:γ} {e:TypeId} (hu:c.P.underlying t=some (.pointer e)) (aq:bc c E L x (.ptr r)):b7 c E L ⟨d,.binOp .eql t x (.const (.pointer none)) t2,ty,pos,af,g⟩ (.of false):= .pure fun a W s=>by
 have aR:a.eval (.const (.pointer none))= .pointer none:=rfl
 obtain⟨b,off,cur,T,gP,aa,_⟩:=aq a W s
 refine⟨.bool false,?_,of_bool.2 rfl⟩
 simp only [execOp,eqGuard,binOp,aa,aR,Op.equal,Op.maxDepth]
 simp [KS hu _ W 9999]
theorem ah.bU {code:Code} (i:Nat) {e:aO} (h:L[i]? =Option.some e) (k:ah c Q code E (e :: L.eraseIdx i)):ah c Q code E L:=fun a W s=>k a W (s.bU h)
theorem ah.H4 {z:Code} {p:Nat} {β γ:Type} [ai β] [ai γ] {b b':β} {os:List (Nat × Value)} {u:Value} (l:aL β (List γ)) (i q:Nat) (au:L[i]? =Option.some ⟨Option.some p,.cz b os⟩) (hq:os[q]? =Option.some (l.off,u)) (hb:l.set b []=b')
 (k:ah c Q z E (L.set i ⟨Option.some p,.cz b' os⟩)):ah c Q z E L:=fun a W s=>
 k a W (s.again (cp':= .cz b' os) au (fun A W o ⟨cs,T,aa,ae⟩=>⟨cs,T,aa,hb ▸ FZ l ae (List.mem_of_getElem? hq)⟩) id)
theorem TK {p:Option Addr} :∀ A W v,(I.eq (.pointer p)).holds A W v→v.oneCell'=true:=fun A W v h=>by
 have cZ:v= .pointer p:=h
 rw [cZ]; rfl
def hX (c:dh) (E:List (Nat × I)) (L:List aO) (o:Oper) (τ:I):Prop:=
 ∀ a W,bS c E L a W→gw c.P o a W fun v W'=>bS c E L a W'∧τ.holds (aP L ++ c.b5) W' v
theorem aj.lS {o:Oper} {rest:List Oper} {d:Nat} {τ:I} (h:hX c E L o τ) (bP:o.guard=none) (hd:o.dst=some d) (aR:Nat.blt d c.n=true)
 (k:aj c ops Q rest ((d,τ) :: E) L):aj c ops Q (o :: rest) E L:=fun a W s=>
 h6 bP (h a W s) fun v W' ⟨f,aX⟩=>by
  rw [hd]
  exact k _ _ (f.put (by simpa using aR) aX)
def oC (L:List aO):List Nat→List aO→Prop
 | [],[]=>True
 | i :: is,e :: es=>L[i]? =some e∧oC L is es
 | _,_=>False
theorem Kw {L:List aO} {i j:Nat} (h:i≠j):(L.eraseIdx i)[if j < i then j else j - 1]? =L[j]? :=by
 rw [List.getElem?_eraseIdx]
 by_cases aa:j < i
 ·simp [aa]
 ·have: ¬ (j - 1 < i):=by omega
  simp only [aa,if_false,this]
  congr 1; omega
theorem oC.shift {L:List aO} {i:Nat} :∀ {is:List Nat} {es:List aO},oC L is es→i ∉ is→oC (L.eraseIdx i) (is.map fun j=>if j < i then j else j - 1) es
 | [],[],_,_=>trivial
 | j :: is,e :: es,⟨aa,ae⟩,aR=>by
   simp only [List.mem_cons,not_or] at aR
   exact⟨by rw [Kw aR.1]; exact aa,oC.shift ae aR.2⟩
theorem KC {i:Nat} :∀ {is:List Nat},is.Nodup→i ∉ is→ (is.map fun j=>if j < i then j else j - 1).Nodup
 | [],_,_=>by simp
 | j :: is,h,aR=>by
   simp only [List.mem_cons,not_or] at aR
   obtain⟨aa,ae⟩:=List.nodup_cons.1 h
   refine List.nodup_cons.2 ⟨fun hm=> ?_,KC ae aR.2⟩
   obtain⟨k,av,he⟩:=List.mem_map.1 hm
   have A5:k≠i:=fun e=>aR.2 (e ▸ av)
   have aaz:k≠j:=fun e=>aa (e ▸ av)
   have jL:j≠i:=fun e=>aR.1 e.symm
   have Eh:(if k < i then k else k - 1)=(if j < i then j else j - 1):=he
   split at Eh <;> split at Eh <;> omega
theorem oC.perm:∀ {is:List Nat} {es L:List aO},oC L is es→is.Nodup→ ∃ R,L.Perm (es ++ R)
 | [],[],L,_,_=>⟨L,List.Perm.refl _⟩
 | i :: is,e :: es,L,⟨aa,ae⟩,aR=>by
   obtain⟨mQ,qn⟩:=List.nodup_cons.1 aR
   obtain⟨R,iT⟩:=(ae.shift mQ).perm (KC qn mQ)
   exact⟨R,(sc aa).trans (iT.cons e)⟩
 termination_by is=>is.length
 decreasing_by simp
theorem hX.call {f:FuncId} {xs:List Operand} {ats:Array TypeId} {τs:List I} {Lin:List aO} {ρ:Unit→I} {Lo:Unit→List aO} (is:List Nat) (ea:bT c.P f) (h:cy c.P f τs Lin ρ Lo)
 (aq:hA c E L xs τs) (aR:decide is.Nodup=true) (hp:oC L is Lin) (ao:Lo ()=Lin):hX c E L ⟨d,.call ⟨.value (.func f),xs.toArray,ats⟩,ty,pos,af,g⟩ (ρ ()):=fun a W s=>by
 obtain⟨R,iT⟩:=hp.perm (of_decide_eq_true aR)
 have ca:=s.perm iT
 have IT:=tQ iT
 have Er:∀ k,k∈aP L ++ c.b5↔k∈aP (Lin ++ R) ++ c.b5:=fun k=>by
  simp only [List.mem_append]; rw [IT.mem_iff]
 have cC:gq (aP (Lin ++ R) ++ c.b5) W τs (xs.map a.eval):=(aq.MQ s).mono (.drop fun k hm=>(Er k).2 hm)
 have bp:=yM (d:=d) (ty:=ty) (pos:=pos) (af:=af) (g:=g) (ats:=ats) ea h ca cC
 unfold gw at bp ⊢
 refine Oper.wp_mono (fun ie W' ⟨v,aa,bb,ae,aD⟩=>⟨v,aa,?_,?_⟩) bp
 ·cases bb; rw [ao] at ae; exact ae.perm iT.symm
 ·cases bb
  rw [ao] at aD
  exact I.mono _ (.drop fun k hm=>(Er k).1 hm) aD
theorem oC.set {L:List aO} {i j:Nat} {x y aA aU:aO} (fz:i≠j) (an:L[i]? =some aA) (aE:L[j]? =some aU):∃ R,L.Perm (aA :: aU :: R)∧ ((L.set i x).set j y).Perm (x :: y :: R):=by
 have Ip:oC L [i,j] [aA,aU]:=⟨an,aE,trivial⟩
 have hle:∀ M:List aO,∀ u v:aO,M[i]? =some u→M[j]? =some v→M.Perm (u :: v :: (M.eraseIdx i).eraseIdx (if j < i then j else j - 1)):=fun M u v aa ae=>
  (sc aa).trans ((sc (by rw [Kw fz]; exact ae)).cons u)
 refine⟨_,hle L aA aU an aE,?_⟩
 have jr:=(List.getElem?_eq_some_iff.1 an).1
 have s6:=(List.getElem?_eq_some_iff.1 aE).1
 have aa:=hle ((L.set i x).set j y) x y (by rw [List.getElem?_set_ne (Ne.symm fz),List.getElem?_set_self jr]) (by rw [List.getElem?_set_self (by simpa using s6)])
 have ae:((L.set i x).set j y).eraseIdx i=(L.eraseIdx i).set (if j < i then j else j - 1) y:=by
  apply List.ext_getElem?
  intro k
  simp only [List.getElem?_eraseIdx,List.getElem?_set,List.length_set,List.length_eraseIdx,jr,if_true]
  by_cases av:k < i <;> by_cases jL:j < i <;> simp only [av,jL,if_true,if_false] <;> (repeat' split) <;> first | rfl | omega | skip
 rw [ae,List.eraseIdx_set_eq] at aa
 exact aa
theorem aj.UE {rest:List Oper} {bb:Nat} {f:FuncId} {xs:List Operand} {ats:Array TypeId} {τs:List I} {aA aU:aO} {δ:Type} {ρ:δ→I} {Lo:δ→List aO} (lo:δ→aO) (i j:Nat) (ea:bT c.P f) (h:cy c.P f τs [aA,aU] ρ Lo)
 (aq:hA c E L xs τs) (fz:Nat.beq i j=false) (an:L[i]? =some aA) (aE:L[j]? =some aU) (hC:∀ q,Lo q= [lo q]) (aR:Nat.blt bb c.n=true) (k:∀ q,aj c ops Q rest ((bb,ρ q) :: E) ((L.set i (lo q)).set j ⟨none,.dead⟩)):
 aj c ops Q (⟨some bb,.call ⟨.value (.func f),xs.toArray,ats⟩,ty,pos,af,none⟩ :: rest) E L:=fun a W s=>by
 have dz:i≠j:=fun e=>by rw [e,Nat.beq_refl] at fz; cases fz
 obtain⟨R,iT,_⟩:=oC.set (x:=aA) (y:=aU) dz an aE
 have ca:=s.perm iT
 have IT:=tQ iT
 have Er:∀ k,k∈aP L ++ c.b5↔k∈aP ([aA,aU] ++ R) ++ c.b5:=fun k=>by
  simp only [List.mem_append]; rw [IT.mem_iff]; simp [e6]
 have cC:gq (aP ([aA,aU] ++ R) ++ c.b5) W τs (xs.map a.eval):=(aq.MQ s).mono (.drop fun k hm=>(Er k).2 hm)
 refine h6 rfl (yM (Lin:= [aA,aU]) ea h ca cC) fun v W' ⟨q,ae,aD⟩=> ?_
 refine k q _ _ ?_
 obtain⟨EH,Zf,O6⟩:=oC.set (x:=lo q) (y:=⟨none,.dead⟩) dz an aE
 have Zg:(aA :: aU :: R).Perm (aA :: aU :: EH):=iT.symm.trans Zf
 have Oz:R.Perm EH:=(Zg.cons_inv).cons_inv
 rw [hC] at ae aD
 have aV:bS c E (lo q :: ⟨none,.dead⟩ :: R) a W':= { ae with
  own:=fun e he=>by
   simp only [List.mem_cons] at he
   rcases he with rfl | rfl | he
   ·exact ae.own _ (by simp)
   ·trivial
   ·exact ae.own _ (by simp [he]) }
 have a1:bS c E ((L.set i (lo q)).set j ⟨none,.dead⟩) a W':=aV.perm (((Oz.cons _).cons _).trans O6.symm)
 have bo:(aP ((L.set i (lo q)).set j ⟨none,.dead⟩)).Perm (aP (lo q :: R)):=by
  have:=tQ (O6.trans ((Oz.symm.cons _).cons _))
  simpa [aP] using this
 refine a1.put (by simpa using aR) (I.mono _ (.drop fun k hm=> ?_) aD)
 rcases List.mem_append.1 hm with hm | hm
 ·exact List.mem_append.2 (.inl (bo.mem_iff.1 hm))
 ·exact List.mem_append.2 (.inr hm)
theorem Ic {L:List aO} {i:Nat} {x e:aO} (h:L[i]? =some x):(L.set i e)[i]? =some e:=by
 rw [List.getElem?_set_self (List.getElem?_eq_some_iff.1 h).1]
theorem OJ {L:List aO} {i j:Nat} {r:Option aO} {e:aO} (aR:Nat.beq j i=false) (h:L[i]? =r):(L.set j e)[i]? =r:=by
 rw [List.getElem?_set_ne (fun e=>by rw [e,Nat.beq_refl] at aR; cases aR)]; exact h
theorem ad.again {z:Exit} {key:Option Nat} {cp:dM} (cp':dM) (i:Nat) (au:L[i]? =some ⟨key,cp⟩) (h:∀ A W o,cp.holds A W o→cp'.holds A W o) (aR:cp.nf→cp'.nf) (k:ad c Q z E (L.set i ⟨key,cp'⟩)):ad c Q z E L:=fun a W s=>
 k a W (s.again au h aR)
end
end Gv
namespace Gv
open Go
set_option linter.unusedVariables false
set_option linter.unusedSimpArgs false
abbrev aM (α:Type):=(α→Prop)→Prop
def aM.of {α:Type} (o:Option α):aM α:=fun Q=> ∃ r,o=some r∧Q r
def aM.bind {α β:Type} (m:aM α) (k:α→aM β):aM β:=fun Q=>m fun r=>k r Q
def aM.ret {α:Type} (x:α):aM α:=fun Q=>Q x
def o4 {σ ε:Type} :Nat→ (σ→aM (σ ⊕ ε))→σ→aM ε
 | 0,_,_=>fun _=>False
 | n + 1,b,s=>fun Q=>b s fun r=>match r with
   | .inl ca=>o4 n b ca Q
   | .inr e=>Q e
abbrev a9 (b9:Type):=List (Nat × b9)
abbrev Ref:=Option Nat
instance aae:ai Ref:= .scalar (fun x=>Value.pointer (x.map fun p=>⟨p,0,none⟩)) fun _=>rfl
theorem wk {A W v} {x:Ref} :(I.of x).holds A W v↔v= .pointer (x.map fun p=>⟨p,0,none⟩):=
 ⟨fun h=>nF h.1 h.2,fun h=>by subst h; exact⟨rfl,rfl⟩⟩
instance:bd Ref:=⟨[.pointer none],fun _ _=>rfl⟩
def aM.mk {b9:Type} (hp:a9 b9) (k:b9):aM (Nat × a9 b9):=fun Q=> ∀ a:Nat × a9 b9,a.1 ∉ hp.map (·.1)∧a.2=(a.1,k) :: hp→Q a
theorem aM.sj {b9 α:Type} {hp:a9 b9} {c:b9} {k:Nat × a9 b9→aM α} {R:α→Prop} (h:aM.bind (aM.mk hp c) k R) (a:Nat × a9 b9) (bn:a.1 ∉ hp.map (·.1)∧a.2=(a.1,c) :: hp):k a R:=h a bn
class fx (b9:Type) where
 im:Nat→b9→List aO
 root:∀ p k,∃ e∈im p k,e.key=some p
def ba {b9:Type} [fx b9]:a9 b9→List aO
 | []=> []
 | (p,k) :: r=>fx.im p k ++ ba r
def pat {b9:Type} :a9 b9→Nat→Option b9
 | [],_=>none
 | (q,k) :: r,p=>if q=p then some k else pat r p
def dW {b9:Type} :a9 b9→Nat→b9→a9 b9
 | [],_,_=> []
 | (q,k) :: r,p,k'=>if q=p then(q,k') :: r else(q,k) :: dW r p k'
def eA {b9:Type} (hp:a9 b9):List Nat:=hp.map (·.1)
theorem vT {b9:Type} [fx b9]:∀ {hp:a9 b9} {p:Nat} {k:b9},pat hp p=some k→ ∃ R,(ba hp).Perm (fx.im p k ++ R)∧ ∀ k',(ba (dW hp p k')).Perm (fx.im p k' ++ R)
 | [],_,_,h=>by simp [pat] at h
 | (q,JD) :: r,p,k,h=>by
   simp only [pat] at h
   split at h
   ·rename_i e
    subst e
    simp only [Option.some.injEq] at h
    subst h
    exact⟨ba r,.refl _,fun k'=>by simp only [dW,if_pos]; exact .refl _⟩
   ·rename_i e
    obtain⟨R,aa,ae⟩:=vT h
    refine⟨fx.im q JD ++ R,?_,fun k'=> ?_⟩
    ·exact(aa.append_left (fx.im q JD)).trans (by rw [← List.append_assoc,← List.append_assoc]; exact List.perm_append_comm.append_right R)
    ·simp only [dW,if_neg e]
     exact((ae k').append_left (fx.im q JD)).trans (by rw [← List.append_assoc,← List.append_assoc]; exact List.perm_append_comm.append_right R)
theorem MU {b9:Type} [fx b9] {hp:a9 b9} {p:Nat} (h:p∈eA hp):p∈aP (ba hp):=by
 induction hp with
 | nil=>simp [eA] at h
 | cons x r b1=>
   obtain⟨q,k⟩:=x
   simp only [eA,List.map_cons,List.mem_cons] at h
   simp only [ba,e6,List.mem_append]
   rcases h with h | h
   ·subst h
    obtain⟨e,he,av⟩:=fx.root p k
    exact .inl (kG.2 ⟨e,he,av⟩)
   ·exact .inr (b1 h)
theorem lr {b9:Type} {hp:a9 b9} {p:Nat} {k:b9} (h:pat hp p=some k):p∈eA hp:=by
 induction hp with
 | nil=>simp [pat] at h
 | cons x r b1=>
   simp only [pat] at h
   split at h
   ·rename_i e; simp [eA,e]
   ·simp only [eA,List.map_cons,List.mem_cons]; exact .inr (b1 h)
theorem tS {b9:Type} {hp:a9 b9} {p:Nat} {k:b9} :eA (dW hp p k)=eA hp:=by
 induction hp with
 | nil=>rfl
 | cons x r b1=>simp only [dW]; split <;> simp_all [eA]
theorem zb {b9:Type} {hp:a9 b9} {p q:Nat} {k:b9} :pat (dW hp p k) q=if p=q then(pat hp p).map (fun _=>k) else pat hp q:=by
 induction hp with
 | nil=>simp [dW,pat]
 | cons x r b1=>
   simp only [dW]
   by_cases e:x.1=p
   ·rw [if_pos e]
    by_cases h:p=q
    ·simp [pat,e,h]
    ·have: ¬ x.1=q:=fun cZ=>h (e ▸ cZ)
     simp [pat,e,h]
   ·rw [if_neg e]
    by_cases h:p=q
    ·subst h
     rw [if_pos rfl] at b1 ⊢
     simp [pat,e,b1]
    ·rw [if_neg h] at b1 ⊢
     simp [pat,b1]
section
variable {c:dh} {E:List (Nat × I)} {L:List aO} {ops:Array Oper} {Q:Exit→Act→World→Prop}
variable {d:Option Tmp} {ty:TypeId} {pos:String} {af:Array Edge} {g:Option (Nat × Bool)} {x y:Operand} {t t2:TypeId}
theorem Th {L ay:List aO} (p:L.Perm ay) {A:List Nat} (k:Nat):k∈aP L ++ A↔k∈aP ay ++ A:=by
 simp only [List.mem_append]; rw [(tQ p).mem_iff]
theorem m3 {L ay:List aO} (p:L.Perm ay) {A:List Nat} {W:World} :Ext (aP L ++ A) W (aP ay ++ A) W:= .drop fun k hm=>(Th p k).2 hm
theorem bc.perm {ay:List aO} {x:Operand} {τ:I} (p:L.Perm ay) (h:bc c E L x τ):bc c E ay x τ:=fun a W s=>
 τ.mono (m3 p) (h a W (s.perm p.symm))
theorem b7.perm {ay:List aO} {o:Oper} {τ:I} (p:L.Perm ay) (h:b7 c E L o τ):b7 c E ay o τ:=fun a W s=>by
 have:=h a W (s.perm p.symm)
 unfold gw at this ⊢
 exact Oper.wp_mono (fun ie W' ⟨v,aa,ae,aD⟩=>⟨v,aa,ae,τ.mono (m3 p) aD⟩) this
theorem aj.perm {l:List Oper} {ay:List aO} (p:L.Perm ay) (h:aj c ops Q l E L):aj c ops Q l E ay:=fun a W s=>h a W (s.perm p.symm)
theorem fQ {x:Operand} {r:Ref} {p:Nat} (aq:bc c E L x (.of r)) (h:r=some p):bc c E L x (.eq (.pointer (some ⟨p,0,none⟩))):=fun a W s=>by
 subst h
 exact wk.1 (aq a W s)
theorem r8:bc c E L (.const (.pointer none)) (.of (none:Ref)):=fun a W s=>wk.2 rfl
variable {b9:Type} [fx b9] {hp:a9 b9} {loc:List aO}
theorem gU {p n:Nat} {k:b9} {e:aO} (au:L.drop n=ba hp) (h:pat hp p=some k) (av:fx.im p k= [e]):e∈L:=by
 obtain⟨R,aa,_⟩:=vT h
 rw [av] at aa
 have:e∈L.drop n:=by rw [au]; exact aa.mem_iff.2 (by simp)
 exact List.mem_of_mem_drop this
theorem nj {ay:List aO} {e:aO} (au:∀ (i:Nat) (e:aO),L[i]? =some e→ay[i]? =some e) (h:e∈L):e∈ay:=by
 obtain⟨i,an⟩:=List.mem_iff_getElem?.1 h
 exact List.mem_of_getElem? (au i e an)
theorem h0 {x:Operand} {t:TypeId} {p o:Nat} {β γ:Type} [ai β] [ai γ] {b:β} (l:aL β γ) {r:γ} (eh:bA c.P t γ) (aq:bc c E L x (.eq (.pointer (some ⟨p,o,none⟩))))
 (hm:(⟨some p,.var b⟩:aO)∈L) (bp:o=l.off) (aQ:l.get b=r):b7 c E L ⟨d,.load t x,ty,pos,af,g⟩ (.of r):=by
 obtain⟨i,an⟩:=List.mem_iff_getElem?.1 hm
 exact fj (i:=i) l eh aq an bp aQ
theorem aj.T7 {x y:Operand} {t:TypeId} {rest:List Oper} {p o:Nat} {k k':b9} {β γ:Type} [ai β] [ai γ] {b b':β} {v:γ} (l:aL β γ) (eh:bA c.P t γ) (aq:bc c E (loc ++ ba hp) x (.eq (.pointer (some ⟨p,o,none⟩))))
 (a6:bc c E (loc ++ ba hp) y (.of v)) (hp':pat hp p=some k) (av:fx.im p k= [⟨some p,.var b⟩]) (j5:fx.im p k'= [⟨some p,.var b'⟩]) (bp:o=l.off) (hb:l.set b v=b')
 (pI:aj c ops Q rest E (loc ++ ba (dW hp p k'))):aj c ops Q (⟨none,.store t x y,ty,pos,af,none⟩ :: rest) E (loc ++ ba hp):=by
 obtain⟨R,aa,ae⟩:=vT hp'
 have ae:=ae k'
 rw [av] at aa
 rw [j5] at ae
 have dZ:∀ {z:β} {M:List aO},M.Perm ([⟨some p,.var z⟩] ++ R)→ (loc ++ M).Perm (⟨some p,.var z⟩ :: (loc ++ R)):=fun h=>(h.append_left loc).trans (by simp only [List.singleton_append]; exact List.perm_middle)
 exact aj.perm (dZ aa).symm (aj.store (i:=0) l eh (aq.perm (dZ aa)) (a6.perm (dZ aa)) rfl bp hb (aj.perm (dZ ae) pI))
theorem aj.pU {x y:Operand} {t:TypeId} {rest:List Oper} {p o:Nat} {k k':b9} {e9:a9 b9} {β γ:Type} [ai β] [ai γ] {b b':β} {v:γ} (n:Nat) (au:L.drop n=ba hp) (l:aL β γ) (eh:bA c.P t γ) (aq:bc c E L x (.eq (.pointer (some ⟨p,o,none⟩)))) (a6:bc c E L y (.of v)) (hp':pat hp p=some k) (av:fx.im p k= [⟨some p,.var b⟩]) (j5:fx.im p k'= [⟨some p,.var b'⟩]) (bp:o=l.off) (hb:l.set b v=b') (dI:dW hp p k'=e9) (pI:aj c ops Q rest E (L.take n ++ ba e9)):aj c ops Q (⟨none,.store t x y,ty,pos,af,none⟩ :: rest) E L:=by
 subst dI
 have e:L=L.take n ++ ba hp:=by rw [← au,List.take_append_drop]
 clear au
 generalize L.take n=loc at *
 subst e
 exact aj.T7 l eh aq a6 hp' av j5 bp hb pI
theorem bS.fresh {a:Act} {W:World} (s:bS c E (loc ++ ba hp) a W):W.heap.size ∉ eA hp:=fun h=>by
 have:=s.lt _ (by rw [e6]; exact List.mem_append.2 (.inr (MU h)))
 omega
theorem aj.WK {t:TypeId} {x:Operand} {rest:List Oper} {bb:Nat} {α:Type} [ai α] {z:α} (mk:b9) (av:∀ p,fx.im p mk= [⟨some p,.var z⟩]) (aq:bc c E (loc ++ ba hp) x (.of z)) (aR:Nat.blt bb c.n=true)
 (k:∀ p,p ∉ eA hp→aj c ops Q rest ((bb,.of (some p:Ref)) :: E) (loc ++ ba ((p,mk) :: hp))):aj c ops Q (⟨some bb,.box t x,ty,pos,af,none⟩ :: rest) E (loc ++ ba hp):=fun a W s=>by
 refine h6 rfl (R:=fun v W'=>v= .pointer (some ⟨W.heap.size,0,none⟩)∧W'=W.alloc (.cells (a.eval x).cells t)) (.l5 ?_ ⟨rfl,rfl⟩) fun v W' ⟨aX,hw⟩=> ?_
 ·simp [execOp,Instr.box,newVar,newRow]
 ·subst aX
  subst hw
  refine k _ s.fresh _ _ (bS.put ?_ (by simpa using aR) (wk.2 rfl))
  refine(s.alloc (cp:= .var z) ⟨_,t,rfl,(aq a W s).2⟩).perm ?_
  simp only [ba,av,List.singleton_append]
  exact List.perm_middle.symm
theorem aj.Ad {t:TypeId} {x:Operand} {rest:List Oper} {bb:Nat} {α:Type} [ai α] {z:α} (n:Nat) (au:L.drop n=ba hp) (mk:b9) (av:∀ p,fx.im p mk= [⟨some p,.var z⟩]) (aq:bc c E L x (.of z)) (aR:Nat.blt bb c.n=true) (k:∀ a:Nat × a9 b9,a.1 ∉ hp.map (·.1)∧a.2=(a.1,mk) :: hp→aj c ops Q rest ((bb,.of (some a.1:Ref)) :: E) (L.take n ++ ba a.2)):aj c ops Q (⟨some bb,.box t x,ty,pos,af,none⟩ :: rest) E L:=by
 have e:L=L.take n ++ ba hp:=by rw [← au,List.take_append_drop]
 clear au
 generalize L.take n=loc at *
 subst e
 exact aj.WK mk av aq aR fun p h=>k (p,(p,mk) :: hp) ⟨h,rfl⟩
theorem m4 {A B C:List aO} :((A ++ B) ++ C).Perm ((A ++ C) ++ B):=by
 rw [List.append_assoc,List.append_assoc]; exact List.perm_append_comm.append_left A
theorem aj.nR {rest:List Oper} {bb:Nat} {f:FuncId} {xs:List Operand} {ats:Array TypeId} {τs:List I} {Lin Lr:List aO} {δ:Type} {ρ:δ→I} {Lo:δ→List aO} {hq:δ→a9 b9} (ea:bT c.P f) (h:cy c.P f τs (Lin ++ ba hp) ρ (fun d=>Lo d ++ ba (hq d)))
 (aq:hA c E ((Lin ++ Lr) ++ ba hp) xs τs) (aR:Nat.blt bb c.n=true) (k:∀ q,aj c ops Q rest ((bb,ρ q) :: E) ((Lo q ++ Lr) ++ ba (hq q))):
 aj c ops Q (⟨some bb,.call ⟨.value (.func f),xs.toArray,ats⟩,ty,pos,af,none⟩ :: rest) E ((Lin ++ Lr) ++ ba hp):=fun a W s=>
 h6 rfl (yM (Lr:=Lr) ea h (s.perm m4) ((aq.holds a W s).mono (m3 m4))) fun v W' ⟨q,ca,aX⟩=>
  k q _ _ ((ca.perm m4).put (by simpa using aR) ((ρ q).mono (m3 m4) aX))
theorem aj.nS {rest:List Oper} {bb:Nat} {f:FuncId} {xs:List Operand} {ats:Array TypeId} {τs:List I} {Lin Lr:List aO} {δ:Type} {ρ:δ→I} {Lo:δ→List aO} {hq:δ→a9 b9} (n m:Nat) (au:L.drop n=ba hp) (ea:bT c.P f) (h:cy c.P f τs (Lin ++ ba hp) ρ (fun d=>Lo d ++ ba (hq d)))
 (aa:(L.take n).take m=Lin) (ae:(L.take n).drop m=Lr) (aq:hA c E L xs τs) (aR:Nat.blt bb c.n=true) (k:∀ q,aj c ops Q rest ((bb,ρ q) :: E) ((Lo q ++ Lr) ++ ba (hq q))):
 aj c ops Q (⟨some bb,.call ⟨.value (.func f),xs.toArray,ats⟩,ty,pos,af,none⟩ :: rest) E L:=by
 have e:L=(Lin ++ Lr) ++ ba hp:=by rw [← aa,← ae,List.take_append_drop,← au,List.take_append_drop]
 clear au aa ae
 subst e
 exact aj.nR ea h aq aR k
theorem hX.UN {f:FuncId} {xs:List Operand} {ats:Array TypeId} {τs:List I} {ρ:I} (ea:bT c.P f) (h:cy c.P f τs (ba hp) (fun _:Unit=>ρ) (fun _=>ba hp))
 (aq:hA c E (loc ++ ba hp) xs τs):hX c E (loc ++ ba hp) ⟨d,.call ⟨.value (.func f),xs.toArray,ats⟩,ty,pos,af,g⟩ ρ:=fun a W s=>by
 have dZ:(loc ++ ba hp).Perm (ba hp ++ loc):=List.perm_append_comm
 have bp:=yM (d:=d) (ty:=ty) (pos:=pos) (af:=af) (g:=g) (ats:=ats) (Lr:=loc) ea h (s.perm dZ) ((aq.holds a W s).mono (m3 dZ))
 unfold gw at bp ⊢
 exact Oper.wp_mono (fun ie W' ⟨v,aa,_,ae,aD⟩=>⟨v,aa,ae.perm dZ.symm,ρ.mono (m3 dZ.symm) aD⟩) bp
theorem hX.nR {f:FuncId} {xs:List Operand} {ats:Array TypeId} {τs:List I} {ρ:I} (n:Nat) (au:L.drop n=ba hp) (ea:bT c.P f) (h:cy c.P f τs (ba hp) (fun _:Unit=>ρ) (fun _=>ba hp)) (aq:hA c E L xs τs):hX c E L ⟨d,.call ⟨.value (.func f),xs.toArray,ats⟩,ty,pos,af,g⟩ ρ:=by
 have e:L=L.take n ++ ba hp:=by rw [← au,List.take_append_drop]
 clear au
 generalize L.take n=loc at *
 subst e
 exact hX.UN ea h aq
theorem Kn {P:Program} {e:TypeId} (W:World) (n:Nat) {t:TypeId} (a:Option Addr) (h:P.underlying t=some (.pointer e)):(Op.equalIn (n + 1) t (.pointer a) (.pointer none)).run P W= .ok a.isNone W:=by
 cases a <;> simp [Op.equalIn,run_underlying h]
theorem oV {r:Ref} {e:TypeId} (hu:c.P.underlying t=some (.pointer e)) (aq:bc c E L x (.of r)):b7 c E L ⟨d,.binOp .eql t x (.const (.pointer none)) t2,ty,pos,af,g⟩ (.of r.isNone):= .pure fun a W s=>by
 have aa:=wk.1 (aq a W s)
 refine⟨.bool r.isNone,?_,of_bool.2 rfl⟩
 have aR:a.eval (.const (.pointer none))= .pointer none:=rfl
 simp only [execOp,eqGuard,binOp,aa,aR,Op.equal,Op.maxDepth]
 have:=Kn (P:=c.P) W 9999 (r.map fun p=>⟨p,0,none⟩) hu
 simp only [Option.isNone_map] at this
 simp [this]
theorem FB {r:Ref} {e:TypeId} (hu:c.P.underlying t=some (.pointer e)) (aq:bc c E L x (.of r)):b7 c E L ⟨d,.binOp .neq t x (.const (.pointer none)) t2,ty,pos,af,g⟩ (.of r.isSome):= .pure fun a W s=>by
 have aa:=wk.1 (aq a W s)
 refine⟨.bool r.isSome,?_,of_bool.2 rfl⟩
 have aR:a.eval (.const (.pointer none))= .pointer none:=rfl
 simp only [execOp,eqGuard,binOp,aa,aR,Op.equal,Op.maxDepth]
 have:=Kn (P:=c.P) W 9999 (r.map fun p=>⟨p,0,none⟩) hu
 simp only [Option.isNone_map] at this
 simp [this]
end
section
variable {c:dh} {E:List (Nat × I)} {L:List aO} {ops:Array Oper} {Q:Exit→Act→World→Prop}
theorem aM.dd {α β:Type} {o:Option α} {k:α→aM β} {R:β→Prop} (h:aM.bind (aM.of o) k R):∃ r,o=some r∧k r R:=h
theorem R8 {F:Fence} {n:Nat} {P:Program} {body:Code} {σ ε:Type} (b:σ→aM (σ ⊕ ε)) (fB:σ→Act→World→Prop) (X:ε→Exit→Act→World→Prop)
 (ot:∀ s R,b s R→ ∀ a W,fB s a W→body.wpIn F n P (fun x a W=>(∃ ca,R (.inl ca)∧x= .normal∧fB ca a W)∨ ∃ e,R (.inr e)∧x≠ .normal∧X e x a W) a W)
 (Q:Exit→Act→World→Prop) (R:ε→Prop) (nN:∀ e x a W,R e→X e x a W→Q x a W) {cd:σ} {N:Nat} (ao:o4 N b cd R) {fM:Act} {iw:World} (bW:fB cd fM iw):
 (Code.loop body).wpIn F n P Q fM iw:=by
 intro dD k cs xa hb aQ
 have key:∀ N s,o4 N b s R→ ∀ a W,fB s a W→
  ∃ x ie W',Q x ie W'∧ArrivesIn (Machine.fenced P F) P (lone (dD.atR a (.code body :: .inLoop body :: k)) cs W) dD k cs x ie W':=by
  intro N
  induction N with
  | zero=>intro s h; exact h.elim
  | succ N b1=>
    intro s h a W kA
    obtain⟨x,wV,wW,hq,qc⟩:=ot s _ h a W kA dD (.inLoop body :: k) cs xa hb aQ
    rcases hq with⟨ca,aa,aq,Ig⟩ | ⟨e,aa,aq,Jq⟩
    ·subst aq
     obtain⟨HL,HM,HN,Hk,Gj⟩:=b1 ca aa wV wW Ig
     exact⟨HL,HM,HN,Hk,.of_steps (StepsIn.trans qc (.one (fenced_calm hb aQ rfl) stepR_inLoop)) Gj⟩
    ·exact⟨x,wV,wW,nN _ _ _ _ aa Jq,.pass (x:= .inLoop body) rfl (fun _ _=> .inl aq) qc⟩
 obtain⟨x,ie,W',hq,qc⟩:=key N cd ao fM iw bW
 exact⟨x,ie,W',hq,.of_steps (.one (fenced_calm hb aQ rfl) stepR_loop) qc⟩
def Es {σ ε γ δ:Type} (c:dh) (E:σ→γ→List (Nat × I)) (L:σ→γ→List aO) (xs:ε→Exit) (fJ:ε→δ→List (Nat × I)) (Lx:ε→δ→List aO) (R:σ ⊕ ε→Prop):Exit→Act→World→Prop:=fun x a W=>
 (∃ s,R (.inl s)∧x= .normal∧ ∃ g,bS c (E s g) (L s g) a W)∨ ∃ e,R (.inr e)∧x≠ .normal∧x=xs e∧ ∃ g,bS c (fJ e g) (Lx e g) a W
theorem ad.MI {σ ε γ δ:Type} {E':σ→γ→List (Nat × I)} {ay:σ→γ→List aO} {xs:ε→Exit} {fJ:ε→δ→List (Nat × I)} {Lx:ε→δ→List aO} {R:σ ⊕ ε→Prop} {s:σ} (iT:R (.inl s)) (g:γ) (n:Nat)
 (au:L.drop n=ay s g) (h:hv E (E' s g)):ad c (Es c E' ay xs fJ Lx R) .normal E L:=fun a W st=> .inl ⟨s,iT,rfl,g,by rw [← au]; exact(st.nX n).less h.look⟩
theorem ad.GB {σ ε γ δ:Type} {E':σ→γ→List (Nat × I)} {ay:σ→γ→List aO} {xs:ε→Exit} {fJ:ε→δ→List (Nat × I)} {Lx:ε→δ→List aO} {R:σ ⊕ ε→Prop} {e:ε} {x:Exit} (iT:R (.inr e)) (g:δ) (n:Nat)
 (aq:x=xs e) (aR:x≠ .normal) (au:L.drop n=Lx e g) (h:hv E (fJ e g)):ad c (Es c E' ay xs fJ Lx R) x E L:=fun a W st=> .inr ⟨e,iT,aR,aq,g,by rw [← au]; exact(st.nX n).less h.look⟩
theorem ah.o4 {σ ε γ δ:Type} {body:Code} {N:Nat} {b:σ→aM (σ ⊕ ε)} {cd:σ} {R:ε→Prop} (ao:Gv.o4 N b cd R)
 (E':σ→γ→List (Nat × I)) (ay:σ→γ→List aO) (xs:ε→Exit) (fJ:ε→δ→List (Nat × I)) (Lx:ε→δ→List aO) (g0:γ) (au:L=ay cd g0) (aH:hv E (E' cd g0))
 (q9:∀ s R,b s R→ ∀ g,ah c (Es c E' ay xs fJ Lx R) body (E' s g) (ay s g))
 (nN:∀ e,R e→ ∀ g,ad c Q (xs e) (fJ e g) (Lx e g)):ah c Q (.loop body) E L:=fun a W st=>by
 subst au
 exact R8 b (fun s a W=> ∃ g,bS c (E' s g) (ay s g) a W) (fun e x a W=>x=xs e∧ ∃ g,bS c (fJ e g) (Lx e g) a W)
  (fun s R hs a W ⟨g,kA⟩=>wpIn_mono (q9 s R hs g a W kA) (fun x a W h=>by
   rcases h with⟨ca,aa,ae,aD⟩ | ⟨e',aa,ae,aD,aV⟩
   ·exact .inl ⟨ca,aa,ae,aD⟩
   ·exact .inr ⟨e',aa,ae,aD,aV⟩)) Q R (fun e x a W iT ⟨aq,g,hs⟩=>by subst aq; exact nN e iT g a W hs) ao ⟨g0,st.less aH.look⟩
theorem sn {α:Type} {b:Bool} {m n:aM α} {R:α→Prop} (hb:b=true) (h:cond b m n R):m R:=by subst hb; exact h
theorem so {α:Type} {b:Bool} {m n:aM α} {R:α→Prop} (hb:b=false) (h:cond b m n R):n R:=by subst hb; exact h
theorem ah.zn {β γ ρ:Type} {mU:ρ→Prop} {x:Operand} {b:Bool} {y z:Code} {aS a3:aM β} {k:β→aM ρ} (h:aM.bind (bif b then aS else a3) k mU) (E':β→γ→List (Nat × I)) (ay:β→γ→List aO) (ao:bc c E L x (.of b))
 (th:∀ m g,k m mU→ad c Q .normal (E' m g) (ay m g))
 (cj:(∀ m g,k m mU→ad c Q .normal (E' m g) (ay m g))→b=true→aS (fun m=>k m mU)→ah c Q y E L) (a8:(∀ m g,k m mU→ad c Q .normal (E' m g) (ay m g))→b=false→a3 (fun m=>k m mU)→ah c Q z E L):ah c Q (.cond x y z) E L:=
 ah.cond ao (fun hb=>cj th hb (sn hb h)) (fun hb=>a8 th hb (so hb h))
theorem ah.MH {σ ε γ δ ρ:Type} {body:Code} {N:Nat} {b:σ→aM (σ ⊕ ε)} {cd:σ} {k:ε→aM ρ} {mU:ρ→Prop} (ao:aM.bind (Gv.o4 N b cd) k mU)
 (E':σ→γ→List (Nat × I)) (ay:σ→γ→List aO) (xs:ε→Exit) (fJ:ε→δ→List (Nat × I)) (Lx:ε→δ→List aO) (g0:γ) (au:L=ay cd g0) (aH:hv E (E' cd g0))
 (q9:∀ s R,b s R→ ∀ g,ah c (Es c E' ay xs fJ Lx R) body (E' s g) (ay s g))
 (nN:∀ e,k e mU→ ∀ g,ad c Q (xs e) (fJ e g) (Lx e g)):ah c Q (.loop body) E L:=
 ah.o4 (R:=fun e=>k e mU) ao E' ay xs fJ Lx g0 au aH q9 nN
def Av (s:ByteArray) (i:Int):Option (BitVec 8):=(if 0≤i then s[i.toNat]? else none).map fun b=>BitVec.ofNat 8 b.toNat
theorem TJ {d:Option Tmp} {ty:TypeId} {pos:String} {af:Array Edge} {g:Option (Nat × Bool)} {x y:Operand} {t:TypeId} {s:ByteArray} {i:BitVec 8} {r:BitVec 8} (hu:c.P.underlying t=some .string) (aq:bc c E L x (.of s)) (a6:bc c E L y (.of i)) (aQ:Av s (i.toNat:Int)=some r):
 b7 c E L ⟨d,.index t x y,ty,pos,af,g⟩ (.of r):= .pure fun a W st=>by
 have aa:=MN.1 (aq a W st)
 have ae:=DD.1 (a6 a W st)
 unfold Av at aQ
 cases hb:(if 0≤ (i.toNat:Int) then s[(i.toNat:Int).toNat]? else none) with
 | none=>rw [hb] at aQ; cases aQ
 | some b=>
   rw [hb] at aQ
   simp only [Option.map_some,Option.some.injEq] at aQ
   subst aQ
   have cw:b.toNat < 256:=b.toNat_lt
   refine⟨.int .u8 b.toNat,?_,DD.2 (by simp [BitVec.toNat_ofNat,Nat.mod_eq_of_lt cw])⟩
   have pt:=hb
   simp only [Int.natCast_nonneg,if_true,Int.toNat_natCast] at pt
   simp [execOp,Instr.index,aa,ae,asIntOf,run_underlying hu,pt]
end
end Gv
namespace Gv
open Go
set_option linter.unusedVariables false
set_option linter.unusedSimpArgs false
structure gF where
 p:Option Nat
 deriving DecidableEq,Inhabited
instance aad:ai gF:= .scalar (fun x=>Value.map x.p) fun _=>rfl
instance:bd gF:=⟨[.map none],fun _ _=>rfl⟩
theorem zc {A W v} {x:gF} :(I.of x).holds A W v↔v= .map x.p:=
 ⟨fun h=>nF h.1 h.2,fun h=>by subst h; exact⟨rfl,rfl⟩⟩
theorem oT {c:dh} {E:List (Nat × I)} {L:List aO} {x:Operand} {r:gF} {p:Nat} (aq:bc c E L x (.of r)) (h:r.p=some p):bc c E L x (.of (⟨some p⟩:gF)):=fun a W s=>by
 have:=zc.1 (aq a W s)
 rw [h] at this
 exact zc.2 this
inductive kT {α β:Type} [ai α] [ai β] (A:List Nat) (W:World):List MapEntry→List (α × β)→Prop
 | nil:kT A W [] []
 | cons {e k v es r} :(I.of k).holds A W e.key→ (I.of v).holds A W e.val→kT A W es r→kT A W (e :: es) ((k,v) :: r)
theorem kT.mono {α β:Type} [ai α] [ai β] {A W c7 W'} (h:Ext A W c7 W'):∀ {es:List MapEntry} {eB:List (α × β)},kT A W es eB→kT c7 W' es eB
 | _,_,.nil=> .nil
 | _,_,.cons aa ae r=> .cons (I.mono _ h aa) (I.mono _ h ae) (r.mono h)
def dM.map {α β:Type} [ai α] [ai β] (eB:List (α × β)):dM where
 holds A W o:= ∃ es clock,o= .map es clock∧kT A W es.toList eB∧ (∀ x∈es.toList,x.born < clock)∧ (es.toList.map MapEntry.born).Nodup
 nf:=False
 mono e h:=let⟨es,clock,aa,ae,aD⟩:=h; ⟨es,clock,aa,ae.mono e,aD⟩
def ep {α β:Type} [DecidableEq α]:List (α × β)→α→Option β
 | [],_=>none
 | (k,v) :: r,x=>if x=k then some v else ep r x
def gH {α β:Type} [DecidableEq α]:List (α × β)→α→β→List (α × β)
 | [],x,y=> [(x,y)]
 | (k,v) :: r,x,y=>if x=k then(x,y) :: r else(k,v) :: gH r x y
def w2 {α β:Type} [DecidableEq α]:List (α × β)→α→List (α × β)
 | [],_=> []
 | (k,v) :: r,x=>if x=k then r else(k,v) :: w2 r x
class kE (α:Type) [ai α]:Prop where
 uniq:∀ {A W cs c7 W' dK} {x:α},ai.rep A W cs x→ai.rep c7 W' dK x→cs=dK
 plain:∀ {A W cs} {x:α},ai.rep A W cs x→ ∀ v∈cs,∀ n,Instr.sameBits n v v=true
instance:kE Int:=⟨fun h cZ=>h.trans cZ.symm,fun h v aX n=>by subst h; rw [List.mem_singleton.1 aX]; simp [Instr.sameBits]⟩
instance:kE (BitVec 64):=⟨fun h cZ=>h.trans cZ.symm,fun h v aX n=>by subst h; rw [List.mem_singleton.1 aX]; simp [Instr.sameBits]⟩
instance:kE Bool:=⟨fun h cZ=>h.trans cZ.symm,fun h v aX n=>by subst h; rw [List.mem_singleton.1 aX]; simp [Instr.sameBits]⟩
instance {α:Type} [ai α] [Inhabited α] [kE α] {n:Nat} :kE (Vector α n):=⟨fun {A W cs c7 W' dK x} h cZ=>by
 have ti:cs.length=n * ai.size α:=ai.len h
 have EI:dK.length=n * ai.size α:=ai.len cZ
 have key:∀ m,m≤n→cs.take (m * ai.size α)=dK.take (m * ai.size α):=by
  intro m
  induction m with
  | zero=>intro _; simp
  | succ m b1=>
    intro hm
    have rG:m < n:=hm
    have aA:=(aL.idx (α:=α) n m rG).il h
    have aU:=(aL.idx (α:=α) n m rG).il cZ
    have cL:=kE.uniq aA aU
    rw [Nat.succ_mul,List.take_add,List.take_add,b1 (by omega)]
    congr 1
 have:=key n (Nat.le_refl _)
 rwa [← ti,List.take_length,ti,← EI,List.take_length] at this,
 fun {A W cs x} h v aX k=>by
  have ti:cs.length=n * ai.size α:=ai.len h
  obtain⟨i,an,rfl⟩:=List.getElem_of_mem aX
  by_cases hs:ai.size α=0
  ·rw [hs,Nat.mul_zero] at ti; omega
  have hq:i / ai.size α < n:=Nat.div_lt_of_lt_mul (by rw [ti,Nat.mul_comm] at an; exact an)
  have aA:=(aL.idx (α:=α) n (i / ai.size α) hq).il h
  refine kE.plain aA _ ?_ k
  have aQ:i % ai.size α < ai.size α:=Nat.mod_lt _ (by omega)
  have hd:=Nat.div_add_mod i (ai.size α)
  refine List.mem_iff_getElem?.2 ⟨i % ai.size α,?_⟩
  simp only [aL.idx]
  rw [List.getElem?_take,if_pos aQ,List.getElem?_drop,Nat.mul_comm,hd]
  exact List.getElem?_eq_getElem an⟩
theorem LC {cs dK:List Value} (o s:Nat) (h:(cs.drop o).take s=(dK.drop o).take s) (k:cs.drop (o + s)=dK.drop (o + s)):cs.drop o=dK.drop o:=by
 rw [← List.take_append_drop s (cs.drop o),← List.take_append_drop s (dK.drop o),h,List.drop_drop,List.drop_drop,k]
theorem T8 {cs dK:List Value} {n:Nat} (h:cs.length=n) (cZ:dK.length=n) (k:cs.drop 0=dK.drop 0):cs=dK:=by simpa using k
theorem T9 {cs dK:List Value} {n m:Nat} (h:cs.length=n) (cZ:dK.length=n) (k:n≤m):cs.drop m=dK.drop m:=by
 rw [List.drop_eq_nil_of_le (by omega),List.drop_eq_nil_of_le (by omega)]
theorem R9 {α:Type} [ai α] [kE α] {A W c7 W' u v} {x:α} (h:(I.of x).holds A W u) (cZ:(I.of x).holds c7 W' v):u=v:=by
 obtain⟨aa,ae⟩:=h
 obtain⟨aD,aV⟩:=cZ
 have a1:=kE.uniq ae aV
 by_cases bn:ai.agg α=true
 ·simp only [shaped,bn,if_true] at aa aD
  obtain⟨a,rfl⟩:=aa
  obtain⟨b,rfl⟩:=aD
  simp only [Value.cells] at a1
  congr 1
  exact Array.toList_inj.1 a1
 ·simp only [Bool.not_eq_true] at bn
  simp only [shaped,bn,Bool.false_eq_true,if_false] at aa aD
  rw [nG aa,nG aD] at a1
  simpa using a1
theorem LD {P:Value→Value→Bool} :∀ {cs:List Value},(∀ v∈cs,P v v=true)→ ((cs.zip cs).all fun(x,y)=>P x y)=true
 | [],_=>rfl
 | a :: r,h=>by
   simp only [List.zip_cons_cons,List.all_cons,Bool.and_eq_true]
   exact⟨h a (by simp),LD fun v aX=>h v (by simp [aX])⟩
theorem Sa {α:Type} [ai α] [kE α] {A W u} {x:α} (h:(I.of x).holds A W u) (n:Nat):Instr.sameBits (n + 1) u u=true:=by
 obtain⟨aa,ae⟩:=h
 by_cases bn:ai.agg α=true
 ·simp only [shaped,bn,if_true] at aa
  obtain⟨a,rfl⟩:=aa
  simp only [Value.cells] at ae
  simp only [Instr.sameBits,beq_self_eq_true,Bool.true_and]
  exact LD fun v aX=>kE.plain ae v aX n
 ·simp only [Bool.not_eq_true] at bn
  simp only [shaped,bn,Bool.false_eq_true,if_false] at aa
  rw [nG aa] at ae
  exact kE.plain ae u (by simp) _
theorem SJ {α:Type} [ai α] [kE α] {P:Program} {A W c7 W' u v} {x:α} (h:(I.of x).holds A W u) (cZ:(I.of x).holds c7 W' v) (iw:World):(Instr.keyThatStays u v).run P iw= .ok v iw:=by
 have:=R9 h cZ
 subst this
 simp [Instr.keyThatStays,Sa h 9999]
def qy (P:Program) (t:TypeId) (α:Type) [ai α] (n:Nat):Prop:= ∀ b d A W u (x:α),n≤d→ (I.of x).holds A W u→ (Instr.checkKey b d t u).run P W= .ok () W
theorem Ld {P:Program} {t:TypeId} {α:Type} [ai α] {D:TypeDesc} (h:P.underlying t=some D) (hd:(match (motive:=TypeDesc→Bool) D with | .interface _ | .array _ _ | .struct _=>false | _=>true)=true):qy P t α 1:=by
 intro b d A W u x aR aq
 obtain⟨d,rfl⟩:∃ e,d=e + 1:=⟨d - 1,by omega⟩
 simp only [Instr.checkKey,Sem.run_bind,run_underlying h,Result.andThen_ok]
 cases D <;> simp at hd <;> rfl
theorem Kj {P:Program} {W:World} {BI:Type} (f:BI→Sem Unit):∀ (l:List BI),(∀ i∈l,(f i).run P W= .ok () W)→
 (forIn (m:=Sem) l () (fun i _=>do f i; pure (ForInStep.yield ()))).run P W= .ok () W
 | [],_=>by simp
 | i :: r,h=>by
   have aa:=h i (by simp)
   have ae:=Kj (P:=P) (W:=W) f r (fun j aE=>h j (by simp [aE]))
   rw [List.forIn_cons]
   simp only [Sem.run_bind,aa,Result.andThen_ok,Sem.run_pure]
   rw [ae]
theorem Kd {P:Program} {W:World} {BI:Type} (f:BI→PUnit→Sem (ForInStep PUnit)):∀ (l:List BI),(∀ i∈l,(f i ()).run P W= .ok (.yield ()) W)→ (forIn (m:=Sem) l PUnit.unit f).run P W= .ok () W
 | [],_=>by simp
 | i :: r,h=>by
   have aa:=h i (by simp)
   have ae:=Kd (P:=P) (W:=W) f r (fun j aE=>h j (by simp [aE]))
   rw [List.forIn_cons]
   simp only [Sem.run_bind,aa,Result.andThen_ok]
   exact ae
theorem MV {P:Program} {t e n k:Nat} {α:Type} [ai α] [Inhabited α] (h:P.underlying t=some (.array n e)) (fC:bA P e α) (he:qy P e α k):qy P t (Vector α n) (k + 1):=by
 intro b d A W u x hd aq
 obtain⟨d,rfl⟩:∃ e,d=e + 1:=⟨d - 1,by omega⟩
 obtain⟨aa,ae⟩:=aq
 obtain⟨xs,rfl⟩:∃ cs,u= .agg cs:=by simpa [shaped,ai.agg] using aa
 simp only [Value.cells] at ae
 have uS:xs.toList.length=n * ai.size α:=ai.len ae
 have z4:∀ i∈List.range' 0 n,((do
  let z ← Go.sizeOf e
  let a ← part e xs (i * z)
  Instr.checkKey b d e a):Sem Unit).run P W= .ok () W:=by
  intro i an
  have jr:i < n:=by simpa using an
  have e3:i * ai.size α + ai.size α≤n * ai.size α:=(aL.idx (α:=α) n i jr).gl
  obtain⟨a,bn,uT⟩:=sh (A:=A) (P:=P) (W:=W) (cs:=xs) (off:=i * ai.size α) fC (by simp at uS; omega) ((aL.idx (α:=α) n i jr).il ae)
  simp only [Sem.run_bind,fC.sizeOf,bn,Result.andThen_ok]
  exact he b d A W a _ (by omega) uT
 have a8:=Kj (P:=P) (W:=W) _ _ z4
 simp only [Instr.checkKey,Sem.run_bind,run_underlying h,Result.andThen_ok,Std.Legacy.Range.forIn_eq_forIn_range']
 simp only [Std.Legacy.Range.size,Nat.sub_zero,Nat.add_one_sub_one,Nat.div_one] at a8 ⊢
 simp only [bind_assoc] at a8
 rw [a8]
 rfl
inductive Be (P:Program) (β:Type) [ai β] (k:Nat):List Field→Prop
 | nil:Be P β k []
 | cons {γ:Type} [ai γ] {f r} (l:aL β γ):l.off=f.offset→bA P f.type γ→qy P f.type γ k→Be P β k r→Be P β k (f :: r)
theorem SK {P:Program} {t k:Nat} {β:Type} [ai β] {fW:Array Field} (bn:ai.agg β=true) (h:P.underlying t=some (.struct fW)) (ar:Be P β k fW.toList):qy P t β (k + 1):=by
 intro b d A W u x hd aq
 obtain⟨d,rfl⟩:∃ e,d=e + 1:=⟨d - 1,by omega⟩
 obtain⟨aa,ae⟩:=aq
 obtain⟨xs,rfl⟩:∃ cs,u= .agg cs:=by simpa [shaped,bn] using aa
 simp only [Value.cells] at ae
 have uS:xs.toList.length=ai.size β:=ai.len ae
 have z4:∀ f∈fW.toList,((do
  if f.name≠ "_" then do
   let a ← part f.type xs f.offset
   Instr.checkKey b d f.type a):Sem Unit).run P W= .ok () W:=by
  have key:∀ l,Be P β k l→ ∀ f∈l,((do
   if f.name≠ "_" then do
    let a ← part f.type xs f.offset
    Instr.checkKey b d f.type a):Sem Unit).run P W= .ok () W:=by
   intro l ao
   induction ao with
   | nil=>simp
   | cons l bp fC av r b1=>
     rename_i f rS
     intro xv pz
     rcases List.mem_cons.1 pz with rfl | pz
     ·split
      ·obtain⟨a,bn,uT⟩:=sh (A:=A) (P:=P) (W:=W) (cs:=xs) (off:=l.off) fC (by have:=l.gl; simp at uS; omega) (l.il ae)
       rw [← bp]
       simp only [Sem.run_bind,bn,Result.andThen_ok]
       exact av b d A W a _ (by omega) uT
      ·rfl
     ·exact b1 xv pz
  exact key _ ar
 simp only [Instr.checkKey,Sem.run_bind,run_underlying h,Result.andThen_ok]
 rw [← Array.forIn_toList,Kd]
 ·rfl
 ·intro f a8
  have:=z4 f a8
  split
  ·rename_i aR
   rw [if_pos aR] at this
   simp only [Sem.run_bind] at this ⊢
   revert this
   generalize (part f.type xs f.offset).run P W=r
   cases r <;> simp only [Result.andThen] <;> intro h <;> first | rw [h]; rfl | cases h
  ·rfl
structure oP (P:Program) (t:TypeId) (α:Type) [ai α] [DecidableEq α]:Prop where
 check:∀ b A W u (x:α),(I.of x).holds A W u→ (Instr.checkKey b 10000 t u).run P W= .ok () W
 same:∀ A W u v (x y:α),(I.of x).holds A W u→ (I.of y).holds A W v→ (Op.equal t u v).run P W= .ok (decide (x=y)) W
 now:∃ D,P.underlying t=some D∧ ∀ A W u v (x y:α),(I.of x).holds A W u→ (I.of y).holds A W v→Instr.sameNow D u v=none∨Instr.sameNow D u v=some (decide (x=y))
def k7 {α β:Type} [DecidableEq α]:List (α × β)→α→Nat→Option (Nat × β)
 | [],_,_=>none
 | (k,v) :: r,x,i=>if x=k then some (i,v) else k7 r x (i + 1)
def Found {α β:Type} [ai α] [ai β] (A:List Nat) (W:World) (eB:List (α × β)):Option (Nat × Value)→Option (Nat × β)→Prop
 | none,none=>True
 | some (i,u),some (j,v)=>i=j∧ (I.of v).holds A W u
 | _,_=>False
theorem Ko {α β:Type} [ai α] [ai β] [DecidableEq α] {D:TypeDesc} {A:List Nat} {W:World} {u:Value} {x:α} (hu:(I.of x).holds A W u)
 (hs:∀ v (y:α),(I.of y).holds A W v→Instr.sameNow D u v=none∨Instr.sameNow D u v=some (decide (x=y))) (Bf:List (α × β)):∀ {es:List MapEntry} {eB:List (α × β)} (i:Nat),kT A W es eB→
 Instr.findNow D u es i=none∨ ∃ r,Instr.findNow D u es i=some r∧Found A W Bf r (k7 eB x i)
 | [],_,i,h=>by cases h; exact .inr ⟨none,rfl,trivial⟩
 | e :: es,_,i,h=>by
   cases h with
   | cons aa ae aD=>
     rename_i k v r
     rcases hs e.key k aa with aV | aV
     ·exact .inl (by simp [Instr.findNow,aV])
     ·by_cases av:x=k
      ·exact .inr ⟨some (i,e.val),by simp [Instr.findNow,aV,av],by simp only [k7,if_pos av]; exact⟨rfl,ae⟩⟩
      ·rcases Ko hu hs Bf (i + 1) aD with a1 | ⟨rS,a1,bo⟩
       ·exact .inl (by simp [Instr.findNow,aV,av,a1])
       ·exact .inr ⟨rS,by simp [Instr.findNow,aV,av,a1],by simp only [k7,if_neg av]; exact bo⟩
theorem Ka {α β:Type} [ai α] [ai β] [DecidableEq α] {P:Program} {t:TypeId} (lV:oP P t α) {A:List Nat} {W:World} {u:Value} {x:α} (hu:(I.of x).holds A W u) (Bf:List (α × β)):∀ {es:List MapEntry} {eB:List (α × β)} (i:Nat),kT A W es eB→
 ∃ r,(Instr.findAsking t u es i).run P W= .ok r W∧Found A W Bf r (k7 eB x i)
 | [],_,i,h=>by cases h; exact⟨none,rfl,trivial⟩
 | e :: es,_,i,h=>by
   cases h with
   | cons aa ae aD=>
     rename_i k v r
     have aV:=lV.same A W u e.key x k hu aa
     by_cases av:x=k
     ·exact⟨some (i,e.val),by simp [Instr.findAsking,Sem.run_bind,aV,av],by simp only [k7,if_pos av]; exact⟨rfl,ae⟩⟩
     ·obtain⟨rS,a1,bo⟩:=Ka lV hu Bf (i + 1) aD
      exact⟨rS,by simp [Instr.findAsking,Sem.run_bind,aV,av,a1],by simp only [k7,if_neg av]; exact bo⟩
theorem Kp {α β:Type} [ai α] [ai β] [DecidableEq α] {P:Program} {t:TypeId} (lV:oP P t α) {A:List Nat} {W:World} {u:Value} {x:α} (hu:(I.of x).holds A W u) {es:List MapEntry} {eB:List (α × β)} (h:kT A W es eB):
 ∃ r,(Instr.findKey t u es).run P W= .ok r W∧Found A W eB r (k7 eB x 0):=by
 obtain⟨D,kB,hs⟩:=lV.now
 rcases Ko hu (fun v y a6=>hs A W u v x y hu a6) eB 0 h with aa | ⟨r,aa,ae⟩
 ·obtain⟨r,aD,aV⟩:=Ka lV hu eB 0 h
  exact⟨r,by simp [Instr.findKey,Sem.run_bind,run_underlying kB,aa,aD],aV⟩
 ·exact⟨r,by simp [Instr.findKey,Sem.run_bind,run_underlying kB,aa],ae⟩
theorem LF {α β:Type} [ai α] [ai β] [DecidableEq α] {A:List Nat} {W:World} {x:α} :∀ {es:List MapEntry} {eB:List (α × β)} {j i:Nat} {v:β},kT A W es eB→k7 eB x j=some (i,v)→
 ∃ m e,i=j + m∧es[m]? =some e∧ (I.of x).holds A W e.key∧ (∀ (e':MapEntry) (y:β),(I.of x).holds A W e'.key→ (I.of y).holds A W e'.val→kT A W (es.set m e') (gH eB x y))∧kT A W (es.eraseIdx m) (w2 eB x)
 | [],_,j,i,v,h,a8=>by cases h; cases a8
 | e :: es,_,j,i,v,h,a8=>by
   cases h with
   | cons aa ae aD=>
     rename_i k vb r
     by_cases av:x=k
     ·subst av
      simp only [k7,if_pos] at a8
      simp only [Option.some.injEq,Prod.mk.injEq] at a8
      exact⟨0,e,by omega,rfl,aa,fun e' y az a5=>by simp only [gH,if_pos]; exact .cons az a5 aD,by simp only [w2,if_pos]; exact aD⟩
     ·simp only [k7,if_neg av] at a8
      obtain⟨m,e',az,a5,bu,cM,gO⟩:=LF aD a8
      exact⟨m + 1,e',by omega,by simpa using a5,bu,fun IU y aF cT=>by simp only [gH,if_neg av]; exact .cons aa ae (cM IU y aF cT),by simp only [w2,if_neg av]; exact .cons aa ae gO⟩
theorem KT {α β:Type} [ai α] [ai β] [DecidableEq α] {A:List Nat} {W:World} {x:α} :∀ {es:List MapEntry} {eB:List (α × β)} {j:Nat},kT A W es eB→k7 eB x j=none→
 (∀ (e':MapEntry) (y:β),(I.of x).holds A W e'.key→ (I.of y).holds A W e'.val→kT A W (es ++ [e']) (gH eB x y))∧w2 eB x=eB
 | [],_,j,h,_=>by cases h; exact⟨fun e' y aa ae=> .cons aa ae .nil,rfl⟩
 | e :: es,_,j,h,a8=>by
   cases h with
   | cons aa ae aD=>
     rename_i k vb r
     by_cases av:x=k
     ·simp [k7,av] at a8
     ·simp only [k7,if_neg av] at a8
      obtain⟨az,a5⟩:=KT aD a8
      exact⟨fun e' y aF cT=>by simp only [gH,if_neg av]; exact .cons aa ae (az e' y aF cT),by simp only [w2,if_neg av,a5]⟩
theorem kT.length {α β:Type} [ai α] [ai β] {A W} :∀ {es:List MapEntry} {eB:List (α × β)},kT A W es eB→es.length=eB.length
 | _,_,.nil=>rfl
 | _,_,.cons _ _ r=>by simp [r.length]
theorem KU {α β:Type} [DecidableEq α]:∀ (eB:List (α × β)) (x:α) (i:Nat),(k7 eB x i).map (·.2)=ep eB x
 | [],_,_=>rfl
 | (k,v) :: r,x,i=>by simp only [k7,ep]; split <;> simp [KU]
section
variable {c:dh} {E:List (Nat × I)} {L:List aO} {ops:Array Oper} {Q:Exit→Act→World→Prop}
variable {d:Option Tmp} {ty:TypeId} {pos:String} {af:Array Edge} {g:Option (Nat × Bool)} {x y z:Operand} {t t2:TypeId}
variable {b9:Type} [fx b9] {hp:a9 b9} {loc:List aO}
theorem aj.Ua {α β:Type} [ai α] [ai β] {rest:List Oper} {bb:Nat} (mk:b9) (av:∀ p,fx.im p mk= [⟨some p,.map ([]:List (α × β))⟩]) (aR:Nat.blt bb c.n=true)
 (k:∀ p,p ∉ eA hp→aj c ops Q rest ((bb,.of (⟨some p⟩:gF)) :: E) (loc ++ ba ((p,mk) :: hp))):aj c ops Q (⟨some bb,.makeMap t none,ty,pos,af,none⟩ :: rest) E (loc ++ ba hp):=fun a W s=>by
 refine h6 rfl (R:=fun v W'=>v= .map (some W.heap.size)∧W'=W.alloc (.map #[] 0)) (.l5 ?_ ⟨rfl,rfl⟩) fun v W' ⟨aX,hw⟩=> ?_
 ·simp only [execOp,Instr.makeMap,newObj,Sem.run_bind,Sem.run_pure]; rfl
 ·subst aX
  subst hw
  refine k _ s.fresh _ _ (bS.put ?_ (by simpa using aR) (zc.2 rfl))
  refine(s.alloc (cp:= .map ([]:List (α × β))) ⟨#[],0,rfl,.nil,by simp,by simp⟩).perm ?_
  simp only [ba,av,List.singleton_append]
  exact List.perm_middle.symm
theorem aj.Gy {α β:Type} [ai α] [ai β] {rest:List Oper} {bb:Nat} (n:Nat) (au:L.drop n=ba hp) (mk:b9) (av:∀ p,fx.im p mk= [⟨some p,.map ([]:List (α × β))⟩]) (aR:Nat.blt bb c.n=true) (k:∀ a:Nat × a9 b9,a.1 ∉ hp.map (·.1)∧a.2=(a.1,mk) :: hp→aj c ops Q rest ((bb,.of (⟨some a.1⟩:gF)) :: E) (L.take n ++ ba a.2)):aj c ops Q (⟨some bb,.makeMap t none,ty,pos,af,none⟩ :: rest) E L:=by
 have e:L=L.take n ++ ba hp:=by rw [← au,List.take_append_drop]
 clear au
 generalize L.take n=loc at *
 subst e
 exact aj.Ua (α:=α) (β:=β) mk av aR fun p h=>k (p,(p,mk) :: hp) ⟨h,rfl⟩
theorem bS.NW {a:Act} {W:World} (s:bS c E L a W) {p:Nat} {α β:Type} [ai α] [ai β] {eB:List (α × β)} (hm:(⟨some p,.map eB⟩:aO)∈L):
 ∃ es clock,W.heap[p]? =some (.map es clock)∧kT (aP L ++ c.b5) W es.toList eB∧ (∀ x∈es.toList,x.born < clock)∧ (es.toList.map MapEntry.born).Nodup:=by
 obtain⟨o,bp,es,clock,rfl,ae,aD,aV⟩:=s.own _ hm
 exact⟨es,clock,bp,ae,aD,aV⟩
theorem KV {a:Act} {W:World} (s:bS c E L a W) {p key elem:Nat} {α β:Type} [ai α] [ai β] [DecidableEq α] [Inhabited β] {eB:List (α × β)} {i:α} (hu:c.P.underlying t=some (.map key elem)) (lV:oP c.P key α) (gB:cQ c.P elem (default:β))
 (aq:bc c E L x (.of (⟨some p⟩:gF))) (a6:bc c E L y (.of i)) (hm:(⟨some p,.map eB⟩:aO)∈L):
 ∃ u,(I.of ((ep eB i).getD default)).holds (aP L ++ c.b5) W u∧ ∀ ok,(Instr.lookup t (a.eval x) (a.eval y) ok).run c.P W= .ok (if ok then .tuple #[u,.bool (ep eB i).isSome] else u) W:=by
 obtain⟨es,clock,bp,ae,aD,aV⟩:=s.NW hm
 have Bg:=zc.1 (aq a W s)
 have s7:=a6 a W s
 obtain⟨r,aQ,a8⟩:=Kp lV s7 ae
 obtain⟨gp,dX,ef,dI,IB⟩:=gB.zero
 have bP:(getObj p).run c.P W= .ok (.map es clock) W:=by simp [getObj,Sem.run,bp]
 have ar:=fun b=>lV.check b _ W _ i s7
 have xg:=KU eB i 0
 cases u3:k7 eB i 0 with
 | none=>
   rw [u3] at a8 xg
   cases r with
   | some q=>exact a8.elim
   | none=>
     refine⟨dX,by rw [← xg]; exact IB _ W,fun ok=> ?_⟩
     rw [← xg]
     simp [Instr.lookup,Sem.run_bind,run_underlying hu,Bg,bP,ar,aQ,zeroValue,typeInfo,ef,dI]
 | some q=>
   rw [u3] at a8 xg
   cases r with
   | none=>exact a8.elim
   | some dw=>
     refine⟨dw.2,by rw [← xg]; exact a8.2,fun ok=> ?_⟩
     rw [← xg]
     simp [Instr.lookup,Sem.run_bind,run_underlying hu,Bg,bP,ar,aQ]
theorem y4 {p key elem:Nat} {α β:Type} [ai α] [ai β] [DecidableEq α] [Inhabited β] {eB:List (α × β)} {i:α} {r:β} (hu:c.P.underlying t=some (.map key elem)) (lV:oP c.P key α) (gB:cQ c.P elem (default:β))
 (aq:bc c E L x (.of (⟨some p⟩:gF))) (a6:bc c E L y (.of i)) (hm:(⟨some p,.map eB⟩:aO)∈L) (aQ:(ep eB i).getD default=r):
 b7 c E L ⟨d,.lookup t x y false,ty,pos,af,g⟩ (.of r):= .pure fun a W s=>by
 subst aQ
 obtain⟨u,aa,ae⟩:=KV s hu lV gB aq a6 hm
 have aD:=ae false
 exact⟨u,by simp only [execOp,Sem.run_bind,aD,Result.andThen_ok]; rfl,aa⟩
theorem FR {p key elem:Nat} {α β:Type} [ai α] [ai β] [DecidableEq α] [Inhabited β] {eB:List (α × β)} {i:α} {r:Option β} (hu:c.P.underlying t=some (.map key elem)) (lV:oP c.P key α) (gB:cQ c.P elem (default:β))
 (aq:bc c E L x (.of (⟨some p⟩:gF))) (a6:bc c E L y (.of i)) (hm:(⟨some p,.map eB⟩:aO)∈L) (aQ:ep eB i=r):
 b7 c E L ⟨d,.lookup t x y true,ty,pos,af,g⟩ (.cN [.of (r.getD default),.of r.isSome]):= .pure fun a W s=>by
 subst aQ
 obtain⟨u,aa,ae⟩:=KV s hu lV gB aq a6 hm
 have aD:=ae true
 exact⟨_,by simp only [execOp,Sem.run_bind,aD,Result.andThen_ok]; rfl,_,rfl,.cons aa (.cons (of_bool.2 rfl) .nil)⟩
theorem Ti {es:List MapEntry} {m:Nat} {e e':MapEntry} (h:es[m]? =some e) (hb:e'.born=e.born):(es.set m e').map MapEntry.born=es.map MapEntry.born:=by
 apply List.ext_getElem?
 intro j
 simp only [List.getElem?_map,List.getElem?_set]
 split
 ·rename_i aE
  subst aE
  have:=(List.getElem?_eq_some_iff.1 h).1
  rw [if_pos this,h]
  simp [hb]
 ·rfl
theorem aj.UO {rest:List Oper} {op:Op} (xc:op= .mapUpdate t x y z∨op= .insert t x y z) {p key elem:Nat} {k k':b9} {α β:Type} [ai α] [ai β] [kE α] [DecidableEq α] {eB Bh:List (α × β)} {i:α} {v:β} (hu:c.P.underlying t=some (.map key elem)) (lV:oP c.P key α)
 (aq:bc c E (loc ++ ba hp) x (.of (⟨some p⟩:gF))) (a6:bc c E (loc ++ ba hp) y (.of i)) (dI:bc c E (loc ++ ba hp) z (.of v)) (hp':pat hp p=some k) (av:fx.im p k= [⟨some p,.map eB⟩]) (IV:gH eB i v=Bh) (j5:fx.im p k'= [⟨some p,.map Bh⟩])
 (pI:aj c ops Q rest E (loc ++ ba (dW hp p k'))):aj c ops Q (⟨none,op,ty,pos,af,none⟩ :: rest) E (loc ++ ba hp):=fun a W s=>by
 subst IV
 obtain⟨es,clock,bp,ae,aD,aV⟩:=s.NW (gU (n:=loc.length) (by simp) hp' av)
 have Bg:=zc.1 (aq a W s)
 have s7:=a6 a W s
 have O7:=dI a W s
 obtain⟨r,aQ,a8⟩:=Kp lV s7 ae
 have bP:(getObj p).run c.P W= .ok (.map es clock) W:=by simp [getObj,Sem.run,bp]
 have ar:=lV.check false _ W _ i s7
 have cw:p < W.heap.size:=(Array.getElem?_eq_some_iff.1 bp).1
 have lF:∀ o,(setObj p o).run c.P W= .ok () (W.putObj p o):=fun o=>by simp only [setObj,Sem.run,bp]; rfl
 have key:∃ s8 wm,(Instr.mapUpdate t (a.eval x) (a.eval y) (a.eval z)).run c.P W= .ok () (W.putObj p (.map s8 wm))∧kT (aP (loc ++ ba hp) ++ c.b5) W s8.toList (gH eB i v)∧ (∀ x∈s8.toList,x.born < wm)∧ (s8.toList.map MapEntry.born).Nodup:=by
  cases u3:k7 eB i 0 with
  | none=>
    rw [u3] at a8
    cases r with
    | some q=>exact a8.elim
    | none=>
      obtain⟨az,_⟩:=KT ae u3
      refine⟨es.push { key:=a.eval y,val:=a.eval z,born:=clock },clock + 1,by simp [Instr.mapUpdate,Sem.run_bind,run_underlying hu,Bg,bP,ar,aQ,lF],by simpa using az { key:=a.eval y,val:=a.eval z,born:=clock } v s7 O7,?_,?_⟩
      ·intro q hq
       simp only [Array.toList_push,List.mem_append,List.mem_singleton] at hq
       rcases hq with hq | rfl
       ·exact Nat.lt_succ_of_lt (aD q hq)
       ·exact Nat.lt_succ_self _
      ·simp only [Array.toList_push,List.map_append,List.map_cons,List.map_nil]
       refine List.nodup_append.2 ⟨aV,by simp,fun b hb b' pt=> ?_⟩
       simp only [List.mem_singleton] at pt
       subst pt
       obtain⟨q,hq,rfl⟩:=List.mem_map.1 hb
       exact Nat.ne_of_lt (aD q hq)
  | some q=>
    rw [u3] at a8
    cases r with
    | none=>exact a8.elim
    | some dw=>
      obtain⟨m,e,az,a5,bu,cM,_⟩:=LF ae u3
      have pB:dw.1=m:=by have:=a8.1; omega
      have hq:es[m]? =some e:=by simpa using a5
      have kQ:=SJ (P:=c.P) bu s7 W
      let e':MapEntry:= { e with key:=a.eval y,val:=a.eval z }
      have AB:(es.modify m fun e=> { e with key:=a.eval y,val:=a.eval z }).toList=es.toList.set m e':=by
       apply List.ext_getElem?
       intro j
       rw [Array.getElem?_toList,Array.getElem?_modify,List.getElem?_set,Array.getElem?_toList]
       by_cases aE:m=j
       ·subst aE
        rw [if_pos rfl,if_pos rfl,hq,if_pos (by simpa using (Array.getElem?_eq_some_iff.1 hq).1)]
        rfl
       ·rw [if_neg aE,if_neg aE]
      refine⟨es.modify m fun e=> { e with key:=a.eval y,val:=a.eval z },clock,by simp [Instr.mapUpdate,Sem.run_bind,run_underlying hu,Bg,bP,ar,aQ,lF,pB,hq,kQ],by rw [AB]; exact cM e' v s7 O7,?_,?_⟩
      ·rw [AB]
       intro w hw
       rcases List.mem_or_eq_of_mem_set hw with hw | rfl
       ·exact aD w hw
       ·exact aD e (List.mem_of_getElem? a5)
      ·rw [AB,Ti (e':=e') a5 rfl]; exact aV
 obtain⟨s8,wm,kK,aA,aU,cL⟩:=key
 obtain⟨R,aS,a3⟩:=vT hp'
 have a3:=a3 k'
 rw [av] at aS
 rw [j5] at a3
 have dZ:∀ {z:List (α × β)} {M:List aO},M.Perm ([⟨some p,.map z⟩] ++ R)→ (loc ++ M).Perm (⟨some p,.map z⟩ :: (loc ++ R)):=fun h=>(h.append_left loc).trans (by simp only [List.singleton_append]; exact List.perm_middle)
 have ca:=(s.perm (dZ aS)).rq (i:=0) (cp':= .map (gH eB i v)) rfl (o':= .map s8 wm) ⟨s8,wm,rfl,aA.mono (m3 (dZ aS)),aU,cL⟩
 refine h6 rfl (R:=fun v W'=>W'=W.putObj p (.map s8 wm)) (.v8 ?_ rfl) fun v W' hw=> ?_
 ·rcases xc with rfl | rfl <;> simp [execOp,kK]
 ·subst hw
  exact pI _ _ (ca.perm (dZ a3).symm)
theorem aj.G2 {rest:List Oper} {op:Op} (n:Nat) (au:L.drop n=ba hp) (xc:op= .mapUpdate t x y z∨op= .insert t x y z) {p key elem:Nat} {k k':b9} {e9:a9 b9} {α β:Type} [ai α] [ai β] [kE α] [DecidableEq α] {eB Bh:List (α × β)} {i:α} {v:β} (hu:c.P.underlying t=some (.map key elem)) (lV:oP c.P key α) (aq:bc c E L x (.of (⟨some p⟩:gF))) (a6:bc c E L y (.of i)) (dI:bc c E L z (.of v)) (hp':pat hp p=some k) (av:fx.im p k= [⟨some p,.map eB⟩]) (IV:gH eB i v=Bh) (j5:fx.im p k'= [⟨some p,.map Bh⟩]) (dI:dW hp p k'=e9) (pI:aj c ops Q rest E (L.take n ++ ba e9)):aj c ops Q (⟨none,op,ty,pos,af,none⟩ :: rest) E L:=by
 subst dI
 have e:L=L.take n ++ ba hp:=by rw [← au,List.take_append_drop]
 clear au
 generalize L.take n=loc at *
 subst e
 exact aj.UO xc hu lV aq a6 dI hp' av IV j5 pI
end
theorem UP {P:Program} {t:TypeId} (h:P.underlying t=some (.int .i64)):oP P t Int where
 check b A W u x aq:=Ld (α:=Int) h rfl b 10000 A W u x (by decide) aq
 same A W u v x y aq a6:=by
  have:=(Ma h).run 10000 (by decide) A W u v x y aq a6
  simpa [Op.equal,Op.maxDepth] using this
 now:=⟨_,h,fun A W u v x y aq a6=> .inr (by
  rw [of_int.1 aq,of_int.1 a6]
  simp only [Instr.sameNow,if_pos]
  rfl)⟩
theorem MW {P:Program} {t:TypeId} {α:Type} [ai α] [DecidableEq α] {D:TypeDesc} {n m:Nat} (h:P.underlying t=some D) (kB:(match (motive:=TypeDesc→Bool) D with | .array _ _ | .struct _=>true | _=>false)=true) (ZY:qy P t α n) (va:kR P t α m) (aR:Nat.ble n 10000=true) (hm:Nat.ble m 10000=true):oP P t α where
 check b A W u x aq:=ZY b 10000 A W u x (Nat.le_of_ble_eq_true aR) aq
 same A W u v x y aq a6:=by
  have:=va.run 10000 (Nat.le_of_ble_eq_true hm) A W u v x y aq a6
  simpa [Op.equal,Op.maxDepth] using this
 now:=⟨_,h,fun A W u v x y aq a6=> .inl (by cases D <;> simp at kB <;> rfl)⟩
end Gv
namespace Gv
open Go
set_option linter.unusedVariables false
set_option linter.unusedSimpArgs false
structure je (P:Program) (t:TypeId) (name:String) (f:FuncId):Prop where
 run:∀ v W args,(callMethod (.iface t v) name args).run P W= .ok (.enter f (#[v] ++ args)) W
theorem je.of {P:Program} {t:TypeId} {name:String} {f:FuncId} {i:TypeInfo} {D:TypeDesc} {m:Method} (an:P.info? t=some i) (hm:i.methods.find? (fun x=>x.name ==name)=some m) (hp:m.path= #[]) (a8:m.func=some (f,false)) (kB:P.underlying t=some D)
 (aR:(match (motive:=TypeDesc→Bool) D with | .pointer _=>false | _=>true)=true) (ea:bT P f):je P t name f where
 run v W args:=by
  have Zh:∀ args,(callFunc f args).run P W= .ok (.enter f args) W:=fun args=>ea.run ..
  have dJ:∀ n,(method (n + 1) t v name).run P W= .ok (f,v) W:=fun n=>by
   simp only [method,Sem.run_bind,typeInfo,run_program,Result.andThen_ok,an,Sem.run_pure,hm,hp,a8,follow,receiverAt,run_underlying kB]
   cases D <;> simp at aR <;> simp [Place.get]
  obtain⟨n,aR⟩:∃ n,P.types.size + Made.depth=n + 1:=⟨P.types.size + Made.depth - 1,by simp [Made.depth]⟩
  simp only [callMethod,Sem.run_bind,run_program,Result.andThen_ok,aR,dJ,Zh]
theorem je.rI {P:Program} {t:TypeId} {name:String} {f:FuncId} {D:TypeDesc} (hm:((P.info? t).bind fun i=>(i.methods.find? (fun x=>x.name ==name)).map fun m=>(m.path.size,m.func))=some (0,some (f,false))) (kB:P.underlying t=some D)
 (aR:(match (motive:=TypeDesc→Bool) D with | .pointer _=>false | _=>true)=true) (ea:bT P f):je P t name f:=by
 cases an:P.info? t with
 | none=>rw [an] at hm; cases hm
 | some i=>
   rw [an] at hm
   simp only [Option.bind_some] at hm
   cases ae:i.methods.find? (fun x=>x.name ==name) with
   | none=>rw [ae] at hm; cases hm
   | some m=>
     rw [ae] at hm
     simp only [Option.map_some,Option.some.injEq,Prod.mk.injEq] at hm
     exact je.of an ae (Array.eq_empty_of_size_eq_zero hm.1) hm.2 kB aR ea
theorem cy.map {P:Program} {f:FuncId} {τs:List I} {Lin:List aO} {δ IW:Type} {ρ:δ→I} {Lo:δ→List aO} {O8:IW→I} {O9:IW→List aO} (F:δ→IW) (aQ:∀ d,O8 (F d)=ρ d) (ao:∀ d,O9 (F d)=Lo d) (h:cy P f τs Lin ρ Lo):cy P f τs Lin O8 O9:=
 fun A W vs aa ae aD aV a1=>(h A W vs aa ae aD aV a1).mono fun e W' ⟨v,d,aF,cT,fs,iQ,ek,iR⟩=>⟨v,F d,aF,cT,by rw [ao]; exact fs,by rw [ao]; exact iQ,by rw [ao]; exact ek,by rw [ao,aQ]; exact iR⟩
structure lx (P:Program) (name:String) (τ:I) (τs:List I) (Lin:List aO) {δ:Type} (ρ:δ→I) (Lo:δ→List aO):Prop where
 go:∀ (A:List Nat) (W:World) (u:Value) (vs:List Value),(∀ k∈A,k < W.heap.size∧k ∉ aP Lin)→ (aP Lin).Nodup→ (∀ k∈aP Lin,k < W.heap.size)→ (∀ e∈Lin,e.ok (aP Lin ++ A) W)→gq (aP Lin ++ A) W (τ :: τs) (u :: vs)→
  ∃ f v,(∀ args,(callMethod u name args).run P W= .ok (.enter f (#[v] ++ args)) W)∧Calls P f (v :: vs).toArray W (jD (aP Lin) A W ρ Lo)
theorem lx.of {P:Program} {name:String} {t:TypeId} {f:FuncId} {τ σ:I} {τs:List I} {Lin:List aO} {δ:Type} {ρ:δ→I} {Lo:δ→List aO} (mt:je P t name f) (IX:∀ A W u,τ.holds A W u→ ∃ v,u= .iface t v∧σ.holds A W v)
 (h:cy P f (σ :: τs) Lin ρ Lo):lx P name τ τs Lin ρ Lo where
 go A W u vs aa ae aD aV a1:=by
  cases a1 with
  | cons bo cX=>
    obtain⟨v,rfl,eP⟩:=IX _ _ _ bo
    exact⟨f,v,fun args=>mt.run v W args,h A W (v :: vs) aa ae aD aV (.cons eP cX)⟩
section
variable {c:dh} {E:List (Nat × I)} {L:List aO} {ops:Array Oper} {Q:Exit→Act→World→Prop}
variable {d:Option Tmp} {ty:TypeId} {pos:String} {af:Array Edge} {g:Option (Nat × Bool)} {x y z:Operand} {t t2:TypeId}
theorem LG {a:Act} {W:World} {name:String} {xs:List Operand} {ats:Array TypeId} {τ:I} {τs:List I} {Lin Lr:List aO} {δ:Type} {ρ:δ→I} {Lo:δ→List aO} (h:lx c.P name τ τs Lin ρ Lo)
 (s:bS c E (Lin ++ Lr) a W) (aq:gq (aP (Lin ++ Lr) ++ c.b5) W (τ :: τs) ((x :: xs).map a.eval)):
 gw c.P ⟨d,.call ⟨.invoke x name,xs.toArray,ats⟩,ty,pos,af,g⟩ a W fun v W'=> ∃ bb,bS c E (Lo bb ++ Lr) a W'∧ (ρ bb).holds (aP (Lo bb ++ Lr) ++ c.b5) W' v:=by
 have lE:=s.nodup
 rw [e6] at lE
 obtain⟨mQ,qn,pw⟩:=List.nodup_append.1 lE
 have lF:Ext (aP (Lin ++ Lr) ++ c.b5) W (aP Lin ++ (aP Lr ++ c.b5)) W:=za
 have fV:∀ k∈aP Lr ++ c.b5,k < W.heap.size∧k ∉ aP Lin:=fun k hm=>by
  rcases List.mem_append.1 hm with hm | hm
  ·exact⟨s.lt k (by rw [e6]; exact List.mem_append.2 (.inr hm)),fun h=>pw k h k hm rfl⟩
  ·obtain⟨aa,ae⟩:=s.eU k hm
   exact⟨aa,fun h=>ae (by rw [e6]; exact List.mem_append.2 (.inl h))⟩
 have cw:∀ k∈aP Lin,k < W.heap.size:=fun k hm=>s.lt k (by rw [e6]; exact List.mem_append.2 (.inl hm))
 obtain⟨f,v,kK,ar⟩:=h.go (aP Lr ++ c.b5) W (a.eval x) (xs.map a.eval) fV mQ cw (fun e he=>aO.sr (s.own e (List.mem_append.2 (.inl he))) lF fun _ _=>rfl) (by simpa using aq.mono lF)
 refine .tN (f:=f) (args:=(v :: xs.map a.eval).toArray) (W':=W) ?_ (ar.mono fun e W' ⟨v,bb,he,a8,aa,ae,aD,aV⟩=> ?_)
 ·have:=kK (xs.map a.eval).toArray
  simp only [execOp,resolve,Sem.run_bind,Sem.run_pure,Result.andThen_ok,invoke]
  simp only [List.map_toArray] at this ⊢
  simp
  rw [List.take_of_length_le (by simp),this]
  simp
 ·refine⟨v,he,bb,s.after a8 aa ae aD,(ρ bb).mono F0 aV⟩
variable {b9:Type} [fx b9] {hp:a9 b9}
theorem aj.DR {rest:List Oper} {bb:Nat} {name:String} {xs:List Operand} {ats:Array TypeId} {τ:I} {τs:List I} {Lin Lr:List aO} {δ:Type} {ρ:δ→I} {Lo:δ→List aO} {hq:δ→a9 b9} (n m:Nat) (au:L.drop n=ba hp) (h:lx c.P name τ τs (Lin ++ ba hp) ρ (fun d=>Lo d ++ ba (hq d)))
 (aa:(L.take n).take m=Lin) (ae:(L.take n).drop m=Lr) (aq:hA c E L (x :: xs) (τ :: τs)) (aR:Nat.blt bb c.n=true) (k:∀ q,aj c ops Q rest ((bb,ρ q) :: E) ((Lo q ++ Lr) ++ ba (hq q))):
 aj c ops Q (⟨some bb,.call ⟨.invoke x name,xs.toArray,ats⟩,ty,pos,af,none⟩ :: rest) E L:=by
 have e:L=(Lin ++ Lr) ++ ba hp:=by rw [← aa,← ae,List.take_append_drop,← au,List.take_append_drop]
 clear au aa ae
 subst e
 exact fun a W s=>h6 rfl (LG (Lr:=Lr) h (s.perm m4) ((aq.holds a W s).mono (m3 m4))) fun v W' ⟨q,ca,aX⟩=>
  k q _ _ ((ca.perm m4).put (by simpa using aR) ((ρ q).mono (m3 m4) aX))
theorem hX.DR {name:String} {xs:List Operand} {ats:Array TypeId} {τ:I} {τs:List I} {ρ:I} (n:Nat) (au:L.drop n=ba hp) (h:lx c.P name τ τs (ba hp) (fun _:Unit=>ρ) (fun _=>ba hp))
 (aq:hA c E L (x :: xs) (τ :: τs)):hX c E L ⟨d,.call ⟨.invoke x name,xs.toArray,ats⟩,ty,pos,af,g⟩ ρ:=fun a W s=>by
 have e:L=L.take n ++ ba hp:=by rw [← au,List.take_append_drop]
 have dZ:L.Perm (ba hp ++ L.take n):=by
  conv=>lhs; rw [e]
  exact List.perm_append_comm
 have bp:=LG (d:=d) (ty:=ty) (pos:=pos) (af:=af) (g:=g) (ats:=ats) (Lr:=L.take n) h (s.perm dZ) ((aq.holds a W s).mono (m3 dZ))
 unfold gw at bp ⊢
 exact Oper.wp_mono (fun ie W' ⟨v,aa,_,ae,aD⟩=>⟨v,aa,ae.perm dZ.symm,ρ.mono (m3 dZ.symm) aD⟩) bp
theorem GL {D:TypeDesc} {σ τ:I} (hu:c.P.underlying t=some D) (kB:(match (motive:=TypeDesc→Bool) D with | .interface _=>false | _=>true)=true) (aq:bc c E L x σ) (IX:∀ A W v,σ.holds A W v→τ.holds A W (.iface t v)):
 b7 c E L ⟨d,.makeInterface t x,ty,pos,af,g⟩ τ:= .pure fun a W s=>
 ⟨.iface t (a.eval x),by
   simp only [execOp,Instr.makeInterface,Sem.run_bind,run_underlying hu,Result.andThen_ok]
   cases D <;> simp at kB <;> rfl,IX _ _ _ (aq a W s)⟩
end
end Gv
