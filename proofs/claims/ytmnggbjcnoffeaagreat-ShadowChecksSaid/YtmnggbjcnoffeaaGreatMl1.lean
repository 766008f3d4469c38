/-
  The library of the decompiler, as far as it is needed here. Conditions: none.
-/
import Derived.Lib.AppendZerosOnto
import Derived.Lib.Overlaps
import Derived.MapKept
import Derived.Test.YtmnggbjcnoffeaaGreatMl0
namespace Gv
open Go
set_option linter.unusedVariables false
set_option linter.unusedSimpArgs false
def jI:Value:= .slice none 0 0
def blank:List (Nat × Value)→List Value→List Value
 | [],cs=>cs
 | o :: r,cs=>blank r (cs.set o.1 jI)
theorem yv:∀ {os:List (Nat × Value)} {cs:List Value},(blank os cs).length=cs.length
 | [],_=>rfl
 | o :: r,cs=>by rw [blank,yv,List.length_set]
theorem pG:∀ {os:List (Nat × Value)} {cs:List Value} (i:Nat),(blank os cs)[i]? =if os.any (fun h=>Nat.beq h.1 i)=true then cs[i]?.map (fun _=>jI) else cs[i]?
 | [],_,i=>by simp [blank]
 | o :: r,cs,i=>by
   rw [blank,pG i,List.any_cons]
   by_cases h:o.1=i
   ·subst h
    simp only [Nat.beq_refl,Bool.true_or,if_true,List.getElem?_set]
    by_cases al:o.1 < cs.length
    ·simp [al]
    ·simp [al]
   ·have hb:Nat.beq o.1 i=false:=by
     cases hb:Nat.beq o.1 i
     ·rfl
     ·exact absurd (ep.1 hb) h
    rw [hb,Bool.false_or,List.getElem?_set_ne h]
def sk (os:List (Nat × Value)) (off n:Nat):Bool:=os.all fun h=>Nat.blt h.1 off || Nat.ble (off + n) h.1
theorem KH {os:List (Nat × Value)} {off n i:Nat} (h:sk os off n=true) (J:off≤i) (ab:i < off + n):os.any (fun h=>Nat.beq h.1 i)=false:=by
 rw [List.any_eq_false]
 intro x an hb
 have aE:=List.all_eq_true.1 h x an
 have aW:=ep.1 hb
 simp only [Bool.or_eq_true,Nat.blt_eq,Nat.ble_eq] at aE
 omega
theorem Tc {os:List (Nat × Value)} {off n:Nat} {cs:List Value} (h:sk os off n=true):((blank os cs).drop off).take n=(cs.drop off).take n:=by
 apply List.ext_getElem?
 intro i
 simp only [List.getElem?_take,List.getElem?_drop]
 split
 ·rw [pG,KH h (by omega) (by omega)]; rfl
 ·rfl
theorem tD {cs ds:List Value} {off:Nat} (h:off + ds.length≤cs.length) (i:Nat):(fK cs off ds)[i]? =if i < off then cs[i]? else if i < off + ds.length then ds[i - off]? else cs[i]? :=by
 have J:(cs.take off).length=off:=by rw [List.length_take]; omega
 unfold fK
 rw [List.append_assoc]
 by_cases aj:i < off
 ·rw [if_pos aj,List.getElem?_append_left (by omega),List.getElem?_take,if_pos aj]
 ·rw [if_neg aj,List.getElem?_append_right (by omega),J]
  by_cases ab:i < off + ds.length
  ·rw [if_pos ab,List.getElem?_append_left (by omega)]
  ·rw [if_neg ab,List.getElem?_append_right (by omega),List.getElem?_drop]
   congr 1; omega
theorem Sd {os:List (Nat × Value)} {off:Nat} {cs ds:List Value} (h:sk os off ds.length=true) (hs:off + ds.length≤cs.length):blank os (fK cs off ds)=fK (blank os cs) off ds:=by
 apply List.ext_getElem?
 intro i
 rw [pG,tD hs,tD (by rw [yv]; exact hs),pG]
 by_cases J:i < off
 ·simp only [if_pos J]
 ·simp only [if_neg J]
  by_cases ab:i < off + ds.length
  ·simp only [if_pos ab,KH h (Nat.not_lt.1 J) ab]; rfl
  ·simp only [if_neg ab]
def sg (os:List (Nat × Value)) (o:Nat) (u:Value):List (Nat × Value):=
 bif os.any (fun h=>Nat.beq h.1 o) then os.map (fun h=>bif Nat.beq h.1 o then(o,u) else h) else(o,u) :: os
theorem Sp {os:List (Nat × Value)} {o:Nat} {u:Value} {h:Nat × Value} (hm:h∈sg os o u):h=(o,u)∨ (h∈os∧h.1≠o):=by
 unfold sg at hm
 cases hb:os.any (fun h=>Nat.beq h.1 o)
 ·rw [hb] at hm
  simp only [cond_false] at hm
  rcases List.mem_cons.1 hm with hm | hm
  ·exact .inl hm
  ·refine .inr ⟨hm,fun e=> ?_⟩
   have:=List.any_eq_false.1 hb h hm
   exact this (ep.2 e)
 ·rw [hb] at hm
  simp only [cond_true] at hm
  obtain⟨x,an,he⟩:=List.mem_map.1 hm
  cases J:Nat.beq x.1 o
  ·rw [J] at he
   simp only [cond_false] at he
   subst he
   exact .inr ⟨an,fun e=>by rw [ep.2 e] at J; cases J⟩
  ·rw [J] at he
   exact .inl he.symm
theorem Sq {os:List (Nat × Value)} {o i:Nat} {u:Value} :(sg os o u).any (fun h=>Nat.beq h.1 i)=(Nat.beq o i || os.any (fun h=>Nat.beq h.1 i)):=by
 unfold sg
 cases hb:os.any (fun h=>Nat.beq h.1 o)
 ·simp only [cond_false,List.any_cons]
 ·simp only [cond_true,List.any_map]
  rw [Bool.eq_iff_iff,Bool.or_eq_true,List.any_eq_true,List.any_eq_true]
  constructor
  ·rintro ⟨x,an,he⟩
   simp only [Function.comp] at he
   cases J:Nat.beq x.1 o
   ·rw [J] at he
    exact .inr ⟨x,an,he⟩
   ·rw [J] at he
    exact .inl he
  ·rintro (h | ⟨x,an,he⟩)
   ·obtain⟨x,an,J⟩:=List.any_eq_true.1 hb
    exact⟨x,an,by simp only [Function.comp,J,cond_true]; exact h⟩
   ·refine⟨x,an,?_⟩
    simp only [Function.comp]
    cases J:Nat.beq x.1 o
    ·exact he
    ·have ay:=ep.1 J; have aS:=ep.1 he
     simp only [cond_true]; exact ep.2 (by omega)
def mS (os:List (Nat × Value)) (o:Nat):List (Nat × Value):=os.filter (fun h=> !Nat.beq h.1 o)
theorem Sr {os:List (Nat × Value)} {o i:Nat} :(mS os o).any (fun h=>Nat.beq h.1 i)=(!(Nat.beq o i) && os.any (fun h=>Nat.beq h.1 i)):=by
 rw [Bool.eq_iff_iff]
 simp only [List.any_eq_true,Bool.and_eq_true,Bool.not_eq_true',mS,List.mem_filter]
 constructor
 ·rintro ⟨x,⟨J,ab⟩,aE⟩
  refine⟨?_,x,J,aE⟩
  cases hb:Nat.beq o i
  ·rfl
  ·have:=ep.1 hb; have aW:=ep.1 aE
   rw [aW,← this,Nat.beq_refl] at ab; cases ab
 ·rintro ⟨bP,x,J,aE⟩
  refine⟨x,⟨J,?_⟩,aE⟩
  cases hb:Nat.beq x.1 o
  ·rfl
  ·have:=ep.1 hb; have aW:=ep.1 aE
   rw [← this,aW,Nat.beq_refl] at bP; cases bP
def kL {α:Type} [ah α] (A:List Nat) (W:World) (cs:List Value) (x:α) (os:List (Nat × Value)):Prop:=ah.rep A W (blank os cs) x∧ ∀ h∈os,cs[h.1]? =some h.2∧h.2.oneCell'=true
theorem kL.len {α:Type} [ah α] {A W} {cs:List Value} {x:α} {os:List (Nat × Value)} (h:kL A W cs x os):cs.length=ah.size α:=by rw [← yv (os:=os)]; exact ah.len h.1
theorem kL.mono {α:Type} [ah α] {A W c0 W'} {cs:List Value} {x:α} {os:List (Nat × Value)} (e:Ext A W c0 W') (h:kL A W cs x os):kL c0 W' cs x os:=⟨ah.mono e h.1,h.2⟩
theorem kL.one {α:Type} [ah α] {A W} {cs:List Value} {x:α} {os:List (Nat × Value)} (h:kL A W cs x os):∀ u∈cs,u.oneCell'=true:=by
 intro u hu
 obtain⟨i,aj⟩:=List.mem_iff_getElem?.1 hu
 by_cases hb:os.any (fun h=>Nat.beq h.1 i)=true
 ·obtain⟨o,bo,he⟩:=List.any_eq_true.1 hb
  have he:=ep.1 he
  obtain⟨J,ab⟩:=h.2 o bo
  rw [he,aj] at J
  cases J; exact ab
 ·have J:=pG (os:=os) (cs:=cs) i
  rw [if_neg hb,aj] at J
  exact ah.one h.1 u (List.mem_of_getElem? J)
def dB.cC {α:Type} [ah α] (x:α) (os:List (Nat × Value)):dB where
 holds A W o:= ∃ cs T,o= .cells cs T (0,0)∧kL A W cs.toList x os
 l1:=False
 mono e h:=let⟨cs,T,bo,aQ⟩:=h; ⟨cs,T,bo,aQ.mono e⟩
def I.Ii {α:Type} [ah α] (x:α) (os:List (Nat × Value)):I where
 holds A W v:=shaped (ah.agg α) v∧kL A W v.cells.toList x os
 mono e h:=⟨h.1,h.2.mono e⟩
structure fF where
 v:Value
instance:ah fF where
 size:=1
 agg:=false
 rep _ _ cs x:=cs= [x.v]∧x.v.oneCell'=true
 len h:=by rw [h.1]; rfl
 one h:=by rw [h.1]; intro u hu; rw [List.mem_singleton.1 hu]; exact h.2
 flat _:=rfl
 mono _ h:=h
theorem N8 {A W v} {u:Value} :(I.of (⟨u⟩:fF)).holds A W v↔v=u∧u.oneCell'=true:=by
 constructor
 ·rintro ⟨J,ab,aE⟩
  have J:v.oneCell'=true:=J
  exact⟨n5 J ab,aE⟩
 ·rintro ⟨rfl,h⟩
  exact⟨h,by show v.cells.toList= [v]∧_; rw [n6 h]; exact⟨rfl,h⟩⟩
theorem bA.ex {P:Program} {t:TypeId} {γ:Type} [ah γ] (h:bA P t (List γ)):bA P t fF:=⟨h.size,h.Pf⟩
theorem iu {key:Option Nat} {n cap:Nat} :(aZ key n cap).oneCell'=true:=by cases key <;> rfl
theorem Ux {A W} {γ:Type} [ah γ]:ah.rep A W [jI] ([]:List γ):=⟨jI,rfl,.inl ⟨rfl,rfl⟩⟩
theorem Lp {α γ:Type} [ah α] [ah γ] {A W} {cs ds:List Value} {x:α} {v:γ} {os:List (Nat × Value)} (l:aI α γ) (h:kL A W cs x os) (hd:ah.rep A W ds v) (a9:sk os l.off (ah.size γ)=true):kL A W (fK cs l.off ds) (l.set x v) os:=by
 have J:=h.len
 have eJ:=l.fR
 have al:=ah.len hd
 refine⟨?_,fun o hm=> ?_⟩
 ·have bk:=l.kG h.1 hd
  rw [Sd (by rw [al]; exact a9) (by rw [al]; omega)]
  simpa [fK,al] using bk
 ·refine⟨?_,(h.2 o hm).2⟩
  rw [tD (by rw [al]; omega)]
  have cV:=List.all_eq_true.1 a9 o hm
  simp only [Bool.or_eq_true,Nat.blt_eq,Nat.ble_eq] at cV
  rw [al]
  by_cases eS:o.1 < l.off
  ·rw [if_pos eS]; exact(h.2 o hm).1
  ·rw [if_neg eS,if_neg (by omega)]; exact(h.2 o hm).1
theorem K7 {α γ:Type} [ah α] [ah γ] {A W} {cs:List Value} {x:α} {u:Value} {os:List (Nat × Value)} (l:aI α (List γ)) (h:kL A W cs x os) (hu:u.oneCell'=true):kL A W (fK cs l.off [u]) (l.set x []) (sg os l.off u):=by
 have J:=h.len
 have eJ:l.off + 1≤ah.size α:=l.fR
 refine⟨?_,fun o hm=> ?_⟩
 ·have bk:ah.rep A W ((blank os cs).take l.off ++ [jI] ++ (blank os cs).drop (l.off + 1)) (l.set x []):=l.kG h.1 (Ux (γ:=γ))
  have e:blank (sg os l.off u) (fK cs l.off [u])=fK (blank os cs) l.off [jI]:=by
   apply List.ext_getElem?
   intro i
   rw [pG,tD (by simp; omega),tD (by rw [yv]; simp; omega),pG]
   rw [Sq]
   by_cases aj:l.off=i
   ·subst aj
    simp
   ·have hb:Nat.beq l.off i=false:=by
     cases hb:Nat.beq l.off i
     ·rfl
     ·exact absurd (ep.1 hb) aj
    rw [hb]
    simp only [Bool.false_or,List.length_singleton]
    by_cases ab:i < l.off
    ·simp only [if_pos ab]
    ·have fB: ¬ i < l.off + 1:=by omega
     simp only [if_neg ab,if_neg fB]
  rw [e]
  simpa [fK] using bk
 ·rw [tD (by simp; omega)]
  rcases Sp hm with rfl | ⟨aE,dk⟩
  ·exact⟨by simp,hu⟩
  ·
   simp only [List.length_singleton]
   refine⟨?_,(h.2 o aE).2⟩
   by_cases eS:o.1 < l.off
   ·rw [if_pos eS]; exact(h.2 o aE).1
   ·rw [if_neg eS,if_neg (by omega)]; exact(h.2 o aE).1
theorem K8 {α γ:Type} [ah α] [ah γ] {A W} {cs:List Value} {x:α} {u:Value} {xs:List γ} {os:List (Nat × Value)} (l:aI α (List γ)) (h:kL A W cs x os) (hm:(l.off,u)∈os) (hs:ng A W u xs):kL A W cs (l.set x xs) (mS os l.off):=by
 have J:=h.len
 have eJ:l.off + 1≤ah.size α:=l.fR
 have Zz:=(h.2 _ hm).1
 refine⟨?_,fun o bo=>h.2 o (List.mem_filter.1 bo).1⟩
 have bk:ah.rep A W ((blank os cs).take l.off ++ [u] ++ (blank os cs).drop (l.off + 1)) (l.set x xs):=l.kG h.1 (ds:= [u]) (g:=xs) ⟨u,rfl,hs⟩
 have e:blank (mS os l.off) cs=fK (blank os cs) l.off [u]:=by
  apply List.ext_getElem?
  intro i
  rw [pG,tD (by rw [yv]; simp; omega),pG,Sr]
  by_cases aj:l.off=i
  ·subst aj
   simp [Zz]
  ·have hb:Nat.beq l.off i=false:=by
    cases hb:Nat.beq l.off i
    ·rfl
    ·exact absurd (ep.1 hb) aj
   rw [hb]
   simp only [Bool.not_false,Bool.true_and,List.length_singleton]
   by_cases ab:i < l.off
   ·simp only [if_pos ab]
   ·have fB: ¬ i < l.off + 1:=by omega
    simp only [if_neg ab,if_neg fB]
 rw [e]
 simpa [fK] using bk
section
variable {c:c8} {E:List (Nat × I)} {L:List aN} {ops:Array Oper} {Q:Exit→Act→World→Prop}
variable {d:Option Tmp} {ty:TypeId} {pos:String} {af:Array Edge} {g:Option (Nat × Bool)} {x y:Operand} {t t2:TypeId}
theorem bG.wv {a:Act} {W:World} (s:bG c E L a W) {i:Nat} {key:Option Nat} {cp cp':dB} (av:L[i]? =some ⟨key,cp⟩) (h:∀ o,cp.holds (aP L ++ c.b2) W o→cp'.holds (aP L ++ c.b2) W o) (aO:cp.l1→cp'.l1):bG c E (L.set i ⟨key,cp'⟩) a W:=by
 have g1:aP (L.set i ⟨key,cp'⟩)=aP L:=wo (e:=⟨key,cp⟩) (cp:=cp') av
 exact
 {defers:=s.defers
  size:=s.size
  env:=fun t τ al=>by rw [g1]; exact s.env t τ al
  dw:=s.dw
  own:=fun e he=>by
   rw [g1]
   obtain⟨j,aF⟩:=List.mem_iff_getElem?.1 he
   rw [List.getElem?_set] at aF
   split at aF
   ·split at aF
    ·simp only [Option.some.injEq] at aF
     subst aF
     have bo:=s.own _ (List.mem_of_getElem? av)
     cases key with
     | none=>exact aO bo
     | some p=>obtain⟨o,J,ab⟩:=bo; exact⟨o,J,h _ ab⟩
    ·cases aF
   ·exact s.own e (List.mem_of_getElem? aF)
  nodup:=by rw [g1]; exact s.nodup
  lt:=by rw [g1]; exact s.lt
  fH:=by rw [g1]; exact s.fH
  eQ:=by rw [g1]; exact s.eQ }
theorem ak.nx {l:List Oper} {p:Nat} {β:Type} [ah β] {b:β} (i:Nat) (av:L[i]? =some ⟨some p,.cC b []⟩) (k:ak c ops Q l E (L.set i ⟨some p,.var b⟩)):ak c ops Q l E L:=fun a W s=>
 k a W (s.wv av (fun o ⟨cs,T,J,ab⟩=>⟨cs,T,J,ab.1⟩) id)
theorem ae.nx {z:Exit} {p:Nat} {β:Type} [ah β] {b:β} (i:Nat) (av:L[i]? =some ⟨some p,.cC b []⟩) (k:ae c Q z E (L.set i ⟨some p,.var b⟩)):ae c Q z E L:=fun a W s=>
 k a W (s.wv av (fun o ⟨cs,T,J,ab⟩=>⟨cs,T,J,ab.1⟩) id)
theorem ag.nx {z:Code} {p:Nat} {β:Type} [ah β] {b:β} (i:Nat) (av:L[i]? =some ⟨some p,.cC b []⟩) (k:ag c Q z E (L.set i ⟨some p,.var b⟩)):ag c Q z E L:=fun a W s=>
 k a W (s.wv av (fun o ⟨cs,T,J,ab⟩=>⟨cs,T,J,ab.1⟩) id)
def Gl:Option Value→Bool
 | some (.slice none 0 0)=>true
 | _=>false
theorem KI {v:Option Value} (h:Gl v=true):v=some jI:=by
 unfold Gl at h
 split at h
 ·rfl
 ·cases h
def jO (P:Program) (t:TypeId) (hs:List Nat):Prop:=((P.info? t).bind (·.zero)).any (fun v=>hs.all fun o=>Gl v.cells.toList[o]?)=true
theorem E7:∀ {os:List (Nat × Value)} {cs:List Value},(∀ h∈os,cs[h.1]? =some jI)→blank os cs=cs
 | [],_,_=>rfl
 | o :: r,cs,h=>by
   have J:=h o (by simp)
   have e:cs.set o.1 jI=cs:=by
    apply List.ext_getElem?
    intro i
    rw [List.getElem?_set]
    split
    ·rename_i he; subst he
     have:=(List.getElem?_eq_some_iff.1 J).1
     rw [if_pos this,J]
    ·rfl
   rw [blank,e]
   exact E7 fun x an=>h x (by simp [an])
theorem ak.oV {rest:List Oper} {bc:Nat} {α:Type} [ah α] {z:α} (hs:List Nat) (rJ:jO c.P t hs) (gl:cF c.P t z) (aO:Nat.blt bc c.n=true)
 (k:∀ p,ak c ops Q rest ((bc,.eq (.pointer (some ⟨p,0,none⟩))) :: E) (⟨some p,.cC z (hs.map fun o=>(o,jI))⟩ :: L)):ak c ops Q (⟨some bc,.alloc t,ty,pos,af,none⟩ :: rest) E L:=fun a W s=>by
 obtain⟨i,ec,J,ab,aE⟩:=gl.zero
 have cE:∀ o∈hs,ec.cells.toList[o]? =some jI:=fun o bo=>by
  unfold jO at rJ
  rw [J] at rJ
  simp only [Option.bind_some,ab,Option.any_some] at rJ
  exact KI (List.all_eq_true.1 rJ o bo)
 have Po:∀ h∈hs.map (fun o=>(o,jI)),ec.cells.toList[h.1]? =some h.2:=fun h hm=>by
  obtain⟨o,bo,rfl⟩:=List.mem_map.1 hm
  exact cE o bo
 refine ib rfl (R:=fun v W'=>v= .pointer (some ⟨W.heap.size,0,none⟩)∧W'=W.alloc (.cells ec.cells t)) (.mo ?_ ⟨rfl,rfl⟩) fun v W' ⟨a3,hw⟩=> ?_
 ·simp [execOp,Instr.alloc,zeroValue,typeInfo,J,ab,newVar,newRow]
 ·subst a3
  subst hw
  refine k _ _ _ ((s.alloc (cp:= .cC z (hs.map fun o=>(o,jI))) ⟨ec.cells,t,rfl,?_,fun h hm=>⟨Po h hm,by obtain⟨o,_,rfl⟩:=List.mem_map.1 hm; rfl⟩⟩).put (by simpa using aO) rfl)
  rw [E7 fun h hm=>by rw [Po h hm]; obtain⟨o,_,rfl⟩:=List.mem_map.1 hm; rfl]
  exact(aE _ _).2
theorem ak.X8 {rest:List Oper} {bc:Nat} {α:Type} [ah α] {z:α} {os:List (Nat × Value)} (an:bb c E L x (.Ii z os)) (aO:Nat.blt bc c.n=true)
 (k:∀ p,ak c ops Q rest ((bc,.eq (.pointer (some ⟨p,0,none⟩))) :: E) (⟨some p,.cC z os⟩ :: L)):ak c ops Q (⟨some bc,.box t x,ty,pos,af,none⟩ :: rest) E L:=fun a W s=>by
 refine ib rfl (R:=fun v W'=>v= .pointer (some ⟨W.heap.size,0,none⟩)∧W'=W.alloc (.cells (a.eval x).cells t)) (.mo ?_ ⟨rfl,rfl⟩) fun v W' ⟨a3,hw⟩=> ?_
 ·simp [execOp,Instr.box,newVar,newRow]
 ·subst a3
  subst hw
  obtain⟨J,ab⟩:=an a W s
  exact k _ _ _ ((s.alloc (cp:= .cC z os) ⟨_,t,rfl,ab⟩).put (by simpa using aO) rfl)
theorem FF {t:TypeId} {i p o:Nat} {β γ:Type} [ah β] [ah γ] {b:β} {os:List (Nat × Value)} (l:aI β γ) {r:γ} (en:bA c.P t γ) (an:bb c E L x (.eq (.pointer (some ⟨p,o,none⟩))))
 (av:L[i]? =some ⟨some p,.cC b os⟩) (bo:o=l.off) (aQ:l.get b=r) (a9:sk os l.off (ah.size γ)=true):b3 c E L ⟨d,.load t x,ty,pos,af,g⟩ (.of r):= .pure fun a W s=>by
 subst bo
 subst aQ
 obtain⟨jB,eA,cs,T,rfl,fy⟩:=s.own _ (List.mem_of_getElem? av)
 have J:cs.toList.length=ah.size β:=fy.len
 have aX:=l.h0 fy.1
 rw [Tc a9] at aX
 obtain⟨v,ab,aE⟩:=tr (A:=aP L ++ c.b2) en eA (by have:=l.fR; simp at J; omega) aX
 refine⟨v,?_,aE⟩
 have aW:a.eval x=_:=an a W s
 simp [execOp,Instr.loadAt,Instr.sureAddr,aW,ab]
theorem Uy {cs:List Value} {o:Nat} {u:Value} (h:cs[o]? =some u):(cs.drop o).take 1= [u]:=by
 apply List.ext_getElem?
 intro i
 rw [List.getElem?_take,List.getElem?_drop]
 cases i with
 | zero=>simpa using h
 | succ i=>simp
theorem iR {t:TypeId} {i p o q:Nat} {β γ:Type} [ah β] [ah γ] {b:β} {os:List (Nat × Value)} {u:Value} (en:bA c.P t (List γ)) (an:bb c E L x (.eq (.pointer (some ⟨p,o,none⟩))))
 (av:L[i]? =some ⟨some p,.cC b os⟩) (hq:os[q]? =some (o,u)):b3 c E L ⟨d,.load t x,ty,pos,af,g⟩ (.eq u):= .pure fun a W s=>by
 obtain⟨jB,eA,cs,T,rfl,fy,cE⟩:=s.own _ (List.mem_of_getElem? av)
 obtain⟨aX,hu⟩:=cE _ (List.mem_of_getElem? hq)
 have cv:o < cs.size:=by have:=(List.getElem?_eq_some_iff.1 aX).1; simpa using this
 obtain⟨v,ab,aE⟩:=tr (α:=fF) (x:=⟨u⟩) (A:=aP L ++ c.b2) en.ex eA (show o + 1≤cs.size by omega) ⟨Uy aX,hu⟩
 refine⟨v,?_,(N8.1 aE).1⟩
 have aW:a.eval x=_:=an a W s
 simp [execOp,Instr.loadAt,Instr.sureAddr,aW,ab]
theorem ak.sj {t:TypeId} {rest:List Oper} {i p o:Nat} {β γ:Type} [ah β] [ah γ] {b b':β} {v:γ} {os:List (Nat × Value)} (l:aI β γ) (en:bA c.P t γ) (an:bb c E L x (.eq (.pointer (some ⟨p,o,none⟩))))
 (a4:bb c E L y (.of v)) (av:L[i]? =some ⟨some p,.cC b os⟩) (bo:o=l.off) (hb:l.set b v=b') (a9:sk os l.off (ah.size γ)=true)
 (k:ak c ops Q rest E (L.set i ⟨some p,.cC b' os⟩)):ak c ops Q (⟨none,.store t x y,ty,pos,af,none⟩ :: rest) E L:=fun a W s=>by
 subst bo
 subst hb
 obtain⟨jB,eA,cs,T,rfl,fy⟩:=s.own _ (List.mem_of_getElem? av)
 have J:cs.toList.length=ah.size β:=fy.len
 have eJ:=l.fR
 have a3:=a4 a W s
 have ab:=yd (A:=aP L ++ c.b2) en eA (off:=l.off) (by simp at J; omega) a3
 have aW:a.eval x=_:=an a W s
 refine ib rfl (R:=fun v W'=>W'=W.setRow p (fK cs.toList l.off (a.eval y).cells.toList).toArray) (.wg ?_ rfl) fun v W' hw=> ?_
 ·simp [execOp,Instr.storeAt,Instr.sureAddr,aW,ab]
 ·subst hw
  exact k _ _ (s.store av eA ⟨_,T,rfl,by rw [List.toList_toArray]; exact Lp l fy a3.2 a9⟩)
theorem ak.jm {t:TypeId} {rest:List Oper} {i p o:Nat} {β γ:Type} [ah β] [ah γ] {b b':β} {u:Value} {os os':List (Nat × Value)} (l:aI β (List γ)) (en:bA c.P t (List γ)) (an:bb c E L x (.eq (.pointer (some ⟨p,o,none⟩))))
 (a4:bb c E L y (.eq u)) (hu:u.oneCell'=true) (av:L[i]? =some ⟨some p,.cC b os⟩) (bo:o=l.off) (hb:l.set b []=b') (j8:sg os o u=os')
 (k:ak c ops Q rest E (L.set i ⟨some p,.cC b' os'⟩)):ak c ops Q (⟨none,.store t x y,ty,pos,af,none⟩ :: rest) E L:=fun a W s=>by
 subst bo
 subst hb
 subst j8
 obtain⟨jB,eA,cs,T,rfl,fy⟩:=s.own _ (List.mem_of_getElem? av)
 have J:cs.toList.length=ah.size β:=fy.len
 have eJ:l.off + 1≤ah.size β:=l.fR
 have Pp:a.eval y=u:=a4 a W s
 have a3:(I.of (⟨u⟩:fF)).holds (aP L ++ c.b2) W (a.eval y):=N8.2 ⟨Pp,hu⟩
 have ab:=yd (A:=aP L ++ c.b2) en.ex eA (off:=l.off) (show l.off + 1≤cs.size by simp at J; omega) a3
 have aW:a.eval x=_:=an a W s
 have jL:(a.eval y).cells.toList= [u]:=by rw [Pp,n6 hu]
 rw [jL] at ab
 refine ib rfl (R:=fun v W'=>W'=W.setRow p (fK cs.toList l.off [u]).toArray) (.wg ?_ rfl) fun v W' hw=> ?_
 ·simp [execOp,Instr.storeAt,Instr.sureAddr,aW,ab]
 ·subst hw
  exact k _ _ (s.store av eA ⟨_,T,rfl,by rw [List.toList_toArray]; exact K7 l fy hu⟩)
theorem Rs {P:Program} {W:World} {b off:Nat} {cur:Array Value} {T t:TypeId} {α:Type} [ah α] {v:Value} (ty:bA P t α)
 (hb:W.heap[b]? =some (.cells cur T (0,0))) (hs:off + ah.size α≤cur.size) (al:v.cells.toList.length=ah.size α) (J:∀ u∈v.cells.toList,u.oneCell'=true):
 (storeVar t ⟨b,off,none⟩ v).run P W= .ok () (W.setRow b (fK cur.toList off v.cells.toList).toArray):=by
 have ab:=run_storeCells_at P b off T v.cells.toList 0 cur W hb (by rw [al]; omega) J
 have eF:v.cells.size=ah.size α:=by simpa using al
 simp only [Nat.add_zero] at ab
 simp only [storeVar,Sem.run_bind,ty.sizeOf,Result.andThen_ok,eF]
 simp only [ne_eq,not_true_eq_false,↓reduceIte,Sem.run_pure,Sem.run_bind,Result.andThen_ok]
 simpa [fK] using ab
theorem ak.qH {t:TypeId} {rest:List Oper} {i p:Nat} {β:Type} [ah β] {b b':β} {os os':List (Nat × Value)} (en:bA c.P t β) (an:bb c E L x (.eq (.pointer (some ⟨p,0,none⟩))))
 (a4:bb c E L y (.Ii b' os')) (av:L[i]? =some ⟨some p,.cC b os⟩)
 (k:ak c ops Q rest E (L.set i ⟨some p,.cC b' os'⟩)):ak c ops Q (⟨none,.store t x y,ty,pos,af,none⟩ :: rest) E L:=fun a W s=>by
 obtain⟨jB,eA,cs,T,rfl,fy⟩:=s.own _ (List.mem_of_getElem? av)
 have J:cs.toList.length=ah.size β:=fy.len
 obtain⟨au,aT⟩:=a4 a W s
 have al:=aT.len
 have ab:=Rs en eA (off:=0) (by simp at J; omega) al aT.one
 have aW:a.eval x=_:=an a W s
 have e:fK cs.toList 0 (a.eval y).cells.toList=(a.eval y).cells.toList:=by
  unfold fK
  rw [List.take_zero,List.nil_append,Nat.zero_add,al,← J,List.drop_length,List.append_nil]
 rw [e] at ab
 refine ib rfl (R:=fun v W'=>W'=W.setRow p (a.eval y).cells.toList.toArray) (.wg ?_ rfl) fun v W' hw=> ?_
 ·simp [execOp,Instr.storeAt,Instr.sureAddr,aW,ab]
 ·subst hw
  exact k _ _ (s.store av eA ⟨_,T,rfl,by rw [List.toList_toArray]; exact aT⟩)
theorem fV {p:Addr} (an:bb c E L x (.eq (.pointer (some p)))):b3 c E L ⟨d,.nilCheck x,ty,pos,af,g⟩ (.eq (.pointer (some p))):= .pure fun a W s=>by
 have aW:a.eval x=_:=an a W s
 exact⟨_,by simp [execOp,aW],rfl⟩
theorem y3 {γ:Type} [ah γ] {r:γ} (an:bb c E L x (.ptr r)):b3 c E L ⟨d,.nilCheck x,ty,pos,af,g⟩ (.ptr r):= .pure fun a W s=>by
 have hp:=an a W s
 obtain⟨b,off,cur,T,hl,aW,aX⟩:=hp
 exact⟨_,by simp [execOp,aW],b,off,cur,T,hl,rfl,aX⟩
theorem bG.iW {a:Act} {W:World} (s:bG c E L a W) {i j p cap T:Nat} {key:Option Nat} {β γ:Type} [ah β] [ah γ] {b b':β} {xs:List γ} {os os':List (Nat × Value)} (l:aI β (List γ)) (e9:i≠j) (av:L[i]? =some ⟨some p,.cC b os⟩) (kA:L[j]? =some ⟨key,.row T xs cap⟩)
 (q:Nat) (hq:os[q]? =some (l.off,aZ key xs.length cap)) (hb:l.set b xs=b') (j8:mS os l.off=os'):bG c E ((L.set j ⟨none,.dead⟩).set i ⟨some p,.cC b' os'⟩) a W:=by
 subst hb
 subst j8
 have aq:=s.kill j
 have aj:(L.set j ⟨none,.dead⟩)[i]? =some ⟨some p,.cC b os⟩:=by rw [List.getElem?_set_ne (fun e=>e9 e.symm)]; exact av
 have kJ:=vG (L:=L) (i:=j) (cp:= .dead)
 have lK:ng (aP (L.set j ⟨none,.dead⟩) ++ c.b2) W (aZ key xs.length cap) xs:=by
  have bo:=s.own _ (List.mem_of_getElem? kA)
  cases key with
  | none=>exact .inl ⟨rfl,bo.1⟩
  | some p=>
    obtain⟨o,eA,cs,rfl,eF,aO,oD,aQ⟩:=bo
    obtain⟨aE,aW⟩:=EZ eF aO aQ
    refine .inr ⟨p,0,cap,cs,T,(0,0),rfl,s.yK kA,eA,aO,by omega,aE,?_⟩
    exact aW.mono (.drop fun k hm=>by
     rcases List.mem_append.1 hm with hm | hm
     ·exact List.mem_append.2 (.inl (kJ.subset hm))
     ·exact List.mem_append.2 (.inr hm))
 exact aq.wv aj (fun o ⟨cs,T,J,ab⟩=>⟨cs,T,J,K8 l ab (List.mem_of_getElem? hq) lK⟩) id
theorem ak.iW {kf:List Oper} {p cap T:Nat} {key:Option Nat} {β γ:Type} [ah β] [ah γ] {b b':β} {xs:List γ} {os os':List (Nat × Value)} (l:aI β (List γ)) (i j q:Nat) (e9:Nat.beq i j=false) (av:L[i]? =some ⟨some p,.cC b os⟩) (kA:L[j]? =some ⟨key,.row T xs cap⟩)
 (hq:os[q]? =some (l.off,aZ key xs.length cap)) (hb:l.set b xs=b') (j8:mS os l.off=os') (k:ak c ops Q kf E ((L.set j ⟨none,.dead⟩).set i ⟨some p,.cC b' os'⟩)):ak c ops Q kf E L:=
 fun a W s=>k a W (s.iW l (fun e=>by rw [e,Nat.beq_refl] at e9; cases e9) av kA q hq hb j8)
theorem ae.iW {z:Exit} {p cap T:Nat} {key:Option Nat} {β γ:Type} [ah β] [ah γ] {b b':β} {xs:List γ} {os os':List (Nat × Value)} (l:aI β (List γ)) (i j q:Nat) (e9:Nat.beq i j=false) (av:L[i]? =some ⟨some p,.cC b os⟩) (kA:L[j]? =some ⟨key,.row T xs cap⟩)
 (hq:os[q]? =some (l.off,aZ key xs.length cap)) (hb:l.set b xs=b') (j8:mS os l.off=os') (k:ae c Q z E ((L.set j ⟨none,.dead⟩).set i ⟨some p,.cC b' os'⟩)):ae c Q z E L:=
 fun a W s=>k a W (s.iW l (fun e=>by rw [e,Nat.beq_refl] at e9; cases e9) av kA q hq hb j8)
theorem ag.iW {z:Code} {p cap T:Nat} {key:Option Nat} {β γ:Type} [ah β] [ah γ] {b b':β} {xs:List γ} {os os':List (Nat × Value)} (l:aI β (List γ)) (i j q:Nat) (e9:Nat.beq i j=false) (av:L[i]? =some ⟨some p,.cC b os⟩) (kA:L[j]? =some ⟨key,.row T xs cap⟩)
 (hq:os[q]? =some (l.off,aZ key xs.length cap)) (hb:l.set b xs=b') (j8:mS os l.off=os') (k:ag c Q z E ((L.set j ⟨none,.dead⟩).set i ⟨some p,.cC b' os'⟩)):ag c Q z E L:=
 fun a W s=>k a W (s.iW l (fun e=>by rw [e,Nat.beq_refl] at e9; cases e9) av kA q hq hb j8)
theorem bG.sx {a:Act} {W:World} (s:bG c E L a W) {i j p cap T fa:Nat} {key:Option Nat} {β γ:Type} [ah β] [ah γ] {b b':β} {xs:List γ} {os os':List (Nat × Value)} (l:aI β (List γ)) (e9:i≠j) (av:L[i]? =some ⟨some p,.cC b os⟩) (kA:L[j]? =some ⟨key,.row T xs cap⟩)
 (q:Nat) (hq:os[q]? =some (l.off,aZ key xs.length cap)) (hb:l.set b xs=b') (j8:mS os l.off=os') (lK:look E fa=some (.eq (aZ key xs.length cap))):bG c ((fa,.of xs) :: E) ((L.set j ⟨none,.dead⟩).set i ⟨some p,.cC b' os'⟩) a W:=by
 have J:=s.freeze lK kA
 subst hb
 subst j8
 have aj:(L.set j ⟨none,.dead⟩)[i]? =some ⟨some p,.cC b os⟩:=by rw [List.getElem?_set_ne (fun e=>e9 e.symm)]; exact av
 obtain⟨v,ab,aE⟩:=J.env fa (.of xs) (by simp [look,Nat.beq_refl])
 obtain⟨Eg,aW,aX⟩:=s.env fa _ lK
 rw [ab] at aW
 cases aW
 have aX:v=_:=aX
 subst aX
 exact J.wv aj (fun o ⟨cs,T,au,aT⟩=>⟨cs,T,au,K8 l aT (List.mem_of_getElem? hq) (mj.1 aE)⟩) id
theorem ak.sx {kf:List Oper} {p cap T:Nat} {key:Option Nat} {β γ:Type} [ah β] [ah γ] {b b':β} {xs:List γ} {os os':List (Nat × Value)} (l:aI β (List γ)) (i j q fa:Nat) (e9:Nat.beq i j=false) (av:L[i]? =some ⟨some p,.cC b os⟩) (kA:L[j]? =some ⟨key,.row T xs cap⟩)
 (hq:os[q]? =some (l.off,aZ key xs.length cap)) (hb:l.set b xs=b') (j8:mS os l.off=os') (lK:look E fa=some (.eq (aZ key xs.length cap))) (k:ak c ops Q kf ((fa,.of xs) :: E) ((L.set j ⟨none,.dead⟩).set i ⟨some p,.cC b' os'⟩)):ak c ops Q kf E L:=
 fun a W s=>k a W (s.sx l (fun e=>by rw [e,Nat.beq_refl] at e9; cases e9) av kA q hq hb j8 lK)
theorem ag.sx {z:Code} {p cap T:Nat} {key:Option Nat} {β γ:Type} [ah β] [ah γ] {b b':β} {xs:List γ} {os os':List (Nat × Value)} (l:aI β (List γ)) (i j q fa:Nat) (e9:Nat.beq i j=false) (av:L[i]? =some ⟨some p,.cC b os⟩) (kA:L[j]? =some ⟨key,.row T xs cap⟩)
 (hq:os[q]? =some (l.off,aZ key xs.length cap)) (hb:l.set b xs=b') (j8:mS os l.off=os') (lK:look E fa=some (.eq (aZ key xs.length cap))) (k:ag c Q z ((fa,.of xs) :: E) ((L.set j ⟨none,.dead⟩).set i ⟨some p,.cC b' os'⟩)):ag c Q z E L:=
 fun a W s=>k a W (s.sx l (fun e=>by rw [e,Nat.beq_refl] at e9; cases e9) av kA q hq hb j8 lK)
theorem ae.sx {z:Exit} {p cap T:Nat} {key:Option Nat} {β γ:Type} [ah β] [ah γ] {b b':β} {xs:List γ} {os os':List (Nat × Value)} (l:aI β (List γ)) (i j q fa:Nat) (e9:Nat.beq i j=false) (av:L[i]? =some ⟨some p,.cC b os⟩) (kA:L[j]? =some ⟨key,.row T xs cap⟩)
 (hq:os[q]? =some (l.off,aZ key xs.length cap)) (hb:l.set b xs=b') (j8:mS os l.off=os') (lK:look E fa=some (.eq (aZ key xs.length cap))) (k:ae c Q z ((fa,.of xs) :: E) ((L.set j ⟨none,.dead⟩).set i ⟨some p,.cC b' os'⟩)):ae c Q z E L:=
 fun a W s=>k a W (s.sx l (fun e=>by rw [e,Nat.beq_refl] at e9; cases e9) av kA q hq hb j8 lK)
inductive sl (c:c8) (E:List (Nat × I)) (L:List aN) (place:Nat→Option (Nat × Nat)) {β:Type} [ah β]:β→List (Nat × Value)→List (Nat × Operand)→β→List (Nat × Value)→Prop
 | nil {b os} :sl c E L place b os [] b os
 | cons {b e6 b':β} {os os':List (Nat × Value)} {γ:Type} [ah γ] {v:γ} {i:Nat} {x:Operand} {r:List (Nat × Operand)} (l:aI β γ):place i=some (l.off,ah.size γ)→bb c E L x (.of v)→l.set b v=e6→sk os l.off (ah.size γ)=true→sl c E L place e6 os r b' os'→sl c E L place b os ((i,x) :: r) b' os'
 | hole {b e6 b':β} {os Ij os':List (Nat × Value)} {γ:Type} [ah γ] {u:Value} {i:Nat} {x:Operand} {r:List (Nat × Operand)} (l:aI β (List γ)):place i=some (l.off,1)→bb c E L x (.eq u)→u.oneCell'=true→l.set b []=e6→sg os l.off u=Ij→sl c E L place e6 Ij r b' os'→sl c E L place b os ((i,x) :: r) b' os'
theorem sl.run {place:Nat→Option (Nat × Nat)} {β:Type} [ah β] {b b':β} {os os':List (Nat × Value)} {bs:List (Nat × Operand)} (h:sl c E L place b os bs b' os'):∀ a W,bG c E L a W→ ∀ cs:Array Value,kL (aP L ++ c.b2) W cs.toList b os→
 ∃ dK,Instr.fill place cs (bs.map fun(i,x)=>(i,a.eval x))=some dK∧kL (aP L ++ c.b2) W dK.toList b' os':=by
 induction h with
 | nil=>intro a W s cs aQ; exact⟨cs,rfl,aQ⟩
 | @cons b e6 b' os os' γ _ v i x r l J ab aE aW _ bO=>
   intro a W s cs aQ
   subst aE
   have a3:=ab a W s
   have eF:(a.eval x).cells.size=ah.size γ:=by have:=ah.len a3.2; simpa using this
   have al:cs.toList.length=ah.size β:=aQ.len
   have eJ:=l.fR
   rw [List.map_cons,Cl J eF (by simp at al; omega)]
   refine bO a W s _ ?_
   have:=Lp l aQ a3.2 aW
   simpa [fK,ah.len a3.2] using this
 | @hole b e6 b' os Ij os' γ _ u i x r l J ab aE aW aX _ bO=>
   intro a W s cs aQ
   subst aW
   subst aX
   have a3:a.eval x=u:=ab a W s
   have ao:(a.eval x).cells.toList= [u]:=by rw [a3,n6 aE]
   have eF:(a.eval x).cells.size=1:=by have:=congrArg List.length ao; simpa using this
   have al:cs.toList.length=ah.size β:=aQ.len
   have eJ:l.off + 1≤ah.size β:=l.fR
   rw [List.map_cons,Cl J eF (by simp at al; omega)]
   refine bO a W s _ ?_
   have:=K7 l aQ aE
   simpa [fK,ao] using this
theorem pH {β:Type} [ah β] {z b:β} {bs:List (Nat × Operand)} {pl:Array (Nat × Nat)} {os:List (Nat × Value)} (ja:List Nat) (rJ:jO c.P t ja) (a9:ah.agg β=true) (AW:ho c.P t pl) (gl:cF c.P t z)
 (a7:sl c E L (pl[·]?) z (ja.map fun o=>(o,jI)) bs b os):b3 c E L ⟨d,.build t bs.toArray,ty,pos,af,g⟩ (.Ii b os):= .pure fun a W s=>by
 obtain⟨fs,hu,hs,rfl⟩:=AW.at_
 obtain⟨i,ec,J,ab,aE⟩:=gl.zero
 have cE:∀ o∈ja,ec.cells.toList[o]? =some jI:=fun o bo=>by
  unfold jO at rJ
  rw [J] at rJ
  simp only [Option.bind_some,ab,Option.any_some] at rJ
  exact KI (List.all_eq_true.1 rJ o bo)
 obtain⟨dK,aW,aX⟩:=a7.run a W s ec.cells ⟨by
  rw [E7 fun h hm=>by obtain⟨o,bo,rfl⟩:=List.mem_map.1 hm; exact cE o bo]
  exact(aE _ _).2,fun h hm=>by obtain⟨o,bo,rfl⟩:=List.mem_map.1 hm; exact⟨cE o bo,rfl⟩⟩
 refine⟨.agg dK,?_,by simp [shaped,a9],by simpa [Value.cells] using aX⟩
 have hm:(bs.toArray.map fun(x:Nat × Operand)=>(x.1,a.eval x.2)).toList=bs.map fun(i,x)=>(i,a.eval x):=by simp
 simp only [execOp,Instr.build,Sem.run_bind,zeroValue,typeInfo,run_program,Result.andThen_ok,J,ab,Sem.run_pure,run_underlying hu,J4 fs hs]
 rw [hm,aW]
 rfl
def rm {α:Type} [Inhabited α] (bytes:Nat) (n:Int):Option (List α):=if 0≤n∧n≤140737488355328∧bytes * n≤140737488355328 then some (List.replicate n.toNat default) else none
theorem TM {α:Type} [Inhabited α] {bytes:Nat} {n:Int} {r:List α} (h:rm bytes n=some r):0≤n∧n≤140737488355328∧bytes * n≤140737488355328∧List.replicate n.toNat default=r:=by
 unfold rm at h
 split at h
 ·rename_i ao; exact⟨ao.1,ao.2.1,ao.2.2,aG h⟩
 ·cases h
theorem ak.DF {α:Type} [ah α] [Inhabited α] {rest:List Oper} {bc e bytes:Nat} {r:List α} {n:Int} (hu:c.P.underlying t=some (.slice e)) (ft:bA c.P e α) (gl:cF c.P e (default:α)) (hs:Nat.beq (ah.size α) 0=false) (hb:(c.P.info? e).map (·.bytes)=some bytes)
 (an:bb c E L x (.of n)) (a4:bb c E L y (.of n)) (hm:rm bytes n=some r) (jC:Nat.blt bc c.n=true) (k:∀ p,ak c ops Q rest ((bc,.eq (aZ p r.length r.length)) :: E) (⟨p,.row e r r.length⟩ :: L)):
 ak c ops Q (⟨some bc,.makeSlice t x y,ty,pos,af,none⟩ :: rest) E L:=fun a W s=>by
 obtain⟨bP,aO,aa8,rfl⟩:=TM hm
 obtain⟨m,rfl⟩:=Int.eq_ofNat_of_zero_le bP
 obtain⟨gd,ec,dW,dh,qa⟩:=gl.zero
 have mv:gd.size=ah.size α:=by
  obtain⟨i2,J,ab⟩:=ft.info
  rw [dW] at J; cases J; exact ab
 have uU:gd.bytes=bytes:=by rw [dW] at hb; simpa using hb
 have fe:ah.size α≠0:=fun h=>by rw [h] at hs; cases hs
 have pj:=yF (qa (aP L ++ c.b2) W) m fe
 have J:=of_int.1 (an a W s)
 have ab:=of_int.1 (a4 a W s)
 have hw:IntKind.i64.wrap (m:Int)=m:=by have:bm (m:Int)=m:=gC (by omega) (by omega); exact this
 have hp:(2:Int) ^ 48=281474976710656:=by decide
 simp only [Int.toNat_natCast,List.length_replicate] at k
 generalize kz:(Array.range (m * ah.size α)).map (ec.cells[· % ec.cells.size]!)=D at pj
 refine ib rfl (R:=fun v W'=>v= .slice (some ⟨W.heap.size,0,none⟩) m m∧W'=W.alloc (.cells D e)) (.mo (v:= .slice (some ⟨W.heap.size,0,none⟩) m m) (W':=W.alloc (.cells D e)) ?_ ⟨rfl,rfl⟩) fun v W' ⟨aE,aW⟩=> ?_
 ·have hz:((decide ((m:Int) < 0) || decide ((gd.bytes:Int) * m > 2 ^ 48)) || decide ((m:Int) < 0) || decide ((m:Int) > m))=false:=by
   rw [uU,hp]; simp; omega
  have DP:((Array.range (m * gd.size)).map fun i=>(if m * gd.size=0 then(#[]:Array Value) else ec.cells)[i % (if m * gd.size=0 then(#[]:Array Value) else ec.cells).size]!)=D:=by
   rw [← kz,mv]
   by_cases hJ:m * ah.size α=0
   ·rw [hJ]; simp
   ·simp only [if_neg hJ]
  have a9:(asInt (.int .i64 (m:Int)):Sem Int).run c.P W= .ok (m:Int) W:=by simp [asInt,asIntOf]
  simp only [execOp,Instr.makeSlice,Sem.run_bind,run_underlying hu,Result.andThen_ok,J,ab,a9,Sem.run_pure,typeInfo,run_program,dW,hw,hz,Bool.false_eq_true,if_false,run_askRoom,Go.sizeOf,Int.toNat_natCast]
  by_cases hJ:m * gd.size=0
  ·simp only [hJ,if_true,Sem.run_pure,Result.andThen_ok,Sem.run_bind,newRow] at DP ⊢
   rw [DP]
   simp
  ·simp only [hJ,if_false,Sem.run_pure,Result.andThen_ok,Sem.run_bind,newRow,zeroValue,typeInfo,run_program,dW,dh] at DP ⊢
   rw [DP]
   simp
 ·subst aE aW
  have zN:m≤maxLen:=by
   have:maxLen=9223372036854775807:=rfl
   omega
  have eF:D.size=m * ah.size α:=by have:=pj.1; simpa using this
  have b8:=s.alloc (o:= .cells D e) (cp:= .row e (List.replicate m (default:α)) m) ⟨D,rfl,eF,by simp,zN,by
   have bk:=pj.1
   rw [List.length_replicate] at bk ⊢
   rw [← bk,List.take_length]
   exact pj⟩
  exact k (some W.heap.size) _ _ (b8.put (τ:= .eq (aZ (some W.heap.size) m m)) (by simpa using jC) rfl)
theorem ae.oq {fn:Func} {δ:Type} {ρ:δ→I} {Lo:δ→List aN} (bc:δ) (hs:(Lo bc).Sublist L) (aQ:fn.results= #[]) (uW:ρ bc= .eI []) (h4:c.ds= []:=by rfl):ae c (bodyPost c.P fn (jV c.X c.b2 c.iD ρ Lo)) .ret E L:=fun a W s=>
 ⟨s.v7 h4,.tuple #[],by simp [vW,aQ],s.ends bc hs (by rw [uW]; exact⟨_,rfl,.nil⟩)⟩
end
end Gv
namespace Gv
open Go
set_option linter.unusedVariables false
set_option linter.unusedSimpArgs false
abbrev Hid:=Nat→Option Nat
def fI (l:List (Option Nat)):Hid:=fun i=>(l[i]?).getD none
structure ei where
 slot:Option Nat
 up:List Nat
 rd:List Nat
 wr:List Nat
 τ:(Nat→Hid)→I
 fl:(Nat→Hid)→Nat→aN
def g7 (up:List Nat) (i:Nat) (hd:Nat→Hid):Nat→Hid:=fun j=>bif Nat.beq j i || up.any (fun k=>Nat.beq k j) then hd j else fun _=>none
def lN (hd:Nat→Hid) (i:Nat) (x:Hid):Nat→Hid:=fun j=>bif Nat.beq j i then x else hd j
theorem Td {up:List Nat} {i:Nat} {hd hd':Nat→Hid} (h:hd i=hd' i) (cR:∀ k∈up,hd k=hd' k):g7 up i hd=g7 up i hd':=by
 funext j
 unfold g7
 cases J:Nat.beq j i
 ·cases ab:up.any (fun k=>Nat.beq k j)
  ·rfl
  ·obtain⟨k,aq,he⟩:=List.any_eq_true.1 ab
   have:=ep.1 he
   subst this
   simp only [Bool.false_or,cond_true]
   exact cR k aq
 ·have:=ep.1 J
  subst this
  simp only [Bool.true_or,cond_true]
  exact h
def mw:List aN→ (Nat→aN)→List Nat→List aN
 | L,_,[]=>L
 | L,f,j :: r=>mw (L.set j (f j)) f r
theorem Kt:∀ {L:List aN} {f:Nat→aN} {eV:List Nat},(mw L f eV).length=L.length
 | _,_,[]=>rfl
 | L,f,j :: r=>by rw [mw,Kt,List.length_set]
theorem Fs:∀ {L:List aN} {f:Nat→aN} {eV:List Nat} (i:Nat),(mw L f eV)[i]? =if eV.contains i=true then L[i]?.map (fun _=>f i) else L[i]?
 | _,_,[],i=>by simp [mw]
 | L,f,j :: r,i=>by
   rw [mw,Fs i]
   by_cases h:j=i
   ·subst h
    simp only [List.contains_cons,BEq.rfl,Bool.true_or,if_true,List.getElem?_set]
    by_cases al:j < L.length
    ·simp [al]
    ·simp [al]
   ·have hb:(i ==j)=false:=by simp; exact fun e=>h e.symm
    rw [List.contains_cons,hb,Bool.false_or,List.getElem?_set_ne h]
def im (ls:Nat→Bool) (hd:Nat→Hid):Nat→List ei→List aN→List aN
 | _,[],L=>L
 | k,h :: r,L=>im ls hd (k + 1) r (bif ls k then mw L (h.fl (g7 h.up k hd)) h.wr else L)
def jr (ls:Nat→Bool) (hd:Nat→Hid) (E:List (Nat × I)):Nat→List ei→List (Nat × I)
 | _,[]=>E
 | k,h :: r=>match ls k,h.slot with
   | true,some s=>(s,h.τ (g7 h.up k hd)) :: jr ls hd E (k + 1) r
   | _,_=>jr ls hd E (k + 1) r
def k5 (ls:Nat→Bool) (hd:Nat→Hid) (j:Nat):Nat→List ei→Option aN→Option aN
 | _,[],v=>v
 | k,h :: r,v=>k5 ls hd j (k + 1) r (bif ls k && h.wr.contains j then v.map (fun _=>h.fl (g7 h.up k hd) j) else v)
theorem CM {ls:Nat→Bool} {hd:Nat→Hid} (j:Nat):∀ {k:Nat} {hs:List ei} {L:List aN},(im ls hd k hs L)[j]? =k5 ls hd j k hs L[j]?
 | _,[],_=>rfl
 | k,h :: r,L=>by
   rw [im,k5,CM j]
   congr 1
   cases ls k
   ·rfl
   ·simp only [cond_true,Bool.true_and]
    rw [Fs]
    cases h.wr.contains j <;> rfl
theorem Fg {ls:Nat→Bool} {hd:Nat→Hid} {j:Nat} :∀ {k:Nat} {hs:List ei} {v:Option aN},(∀ m h,hs[m]? =some h→h.wr.contains j=true→ls (k + m)=false)→k5 ls hd j k hs v=v
 | _,[],_,_=>rfl
 | k,h :: r,v,aO=>by
   rw [k5,Fg fun m x hm an=>by have:=aO (m + 1) x (by simpa using hm) an; rw [← this]; congr 1; omega]
   cases hw:h.wr.contains j
   ·simp
   ·have:=aO 0 h rfl hw
    simp only [Nat.add_zero] at this
    rw [this]; rfl
theorem E0 {ls:Nat→Bool} {hd:Nat→Hid} {j:Nat} :∀ {k:Nat} {hs rs:List ei} {v:Option aN},k5 ls hd j k (hs ++ rs) v=k5 ls hd j (k + hs.length) rs (k5 ls hd j k hs v)
 | _,[],_,_=>rfl
 | k,h :: r,rs,v=>by
   rw [List.cons_append,k5,E0,k5,List.length_cons]
   congr 1; omega
theorem Cb {ls ls':Nat→Bool} {hd hd':Nat→Hid} {j:Nat} :∀ {k:Nat} {hs:List ei} {v:Option aN},(∀ m h,hs[m]? =some h→h.wr.contains j=true→ls (k + m)=ls' (k + m)∧ (ls (k + m)=true→g7 h.up (k + m) hd=g7 h.up (k + m) hd'))→k5 ls hd j k hs v=k5 ls' hd' j k hs v
 | _,[],_,_=>rfl
 | k,h :: r,v,aO=>by
   have bO:=Cb (ls:=ls) (ls':=ls') (hd:=hd) (hd':=hd') (j:=j) (k:=k + 1) (hs:=r) (v:=bif ls k && h.wr.contains j then v.map (fun _=>h.fl (g7 h.up k hd) j) else v) fun m x hm an=>by
    have:=aO (m + 1) x (by simpa using hm) an
    rw [show k + 1 + m=k + (m + 1) by omega]; exact this
   rw [k5,k5,bO]
   congr 1
   cases hw:h.wr.contains j
   ·simp
   ·have:=aO 0 h rfl hw
    simp only [Nat.add_zero] at this
    rw [← this.1]
    cases al:ls k
    ·rfl
    ·rw [this.2 al]
theorem Fh {ls:Nat→Bool} {hd:Nat→Hid} {E:List (Nat × I)} {t:Nat} :∀ {k:Nat} {hs:List ei},(∀ (m:Nat) (h:ei),hs[m]? =some h→ls (k + m)=true→h.slot≠some t)→look (jr ls hd E k hs) t=look E t
 | _,[],_=>rfl
 | k,h :: r,aO=>by
   have bO:=Fh (ls:=ls) (hd:=hd) (E:=E) (t:=t) (k:=k + 1) (hs:=r) fun m x hm al=>aO (m + 1) x (by simpa using hm) (by rw [← al]; congr 1; omega)
   unfold jr
   split
   ·rename_i s J ab
    have dk:Nat.beq s t=false:=by
     cases hb:Nat.beq s t
     ·rfl
     ·have:=ep.1 hb; subst this; exact absurd ab (aO 0 h rfl J)
    simp only [look,dk,cond_false]
    exact bO
   ·exact bO
theorem Ft {ls:Nat→Bool} {hd:Nat→Hid} {E:List (Nat × I)} {s:Nat} :∀ {k:Nat} {hs:List ei} {j:Nat} {h:ei},hs[j]? =some h→ls (k + j)=true→h.slot=some s→ (∀ m x,hs[m]? =some x→x.slot=some s→m=j)→look (jr ls hd E k hs) s=some (h.τ (g7 h.up (k + j) hd))
 | _,[],_,_,h,_,_,_=>by simp at h
 | k,x :: r,0,h,aF,al,hs,_=>by
   simp only [List.getElem?_cons_zero,Option.some.injEq] at aF
   subst aF
   simp only [Nat.add_zero] at al
   unfold jr
   rw [al,hs]
   simp [look,Nat.beq_refl]
 | k,x :: r,j + 1,h,aF,al,hs,hu=>by
   have bO:=Ft (ls:=ls) (hd:=hd) (E:=E) (s:=s) (k:=k + 1) (hs:=r) (j:=j) (h:=h) (by simpa using aF) (by rw [← al]; congr 1; omega) hs fun m y hm a4=>by
    have:=hu (m + 1) y (by simpa using hm) a4; omega
   rw [show k + 1 + j=k + (j + 1) by omega] at bO
   unfold jr
   split
   ·rename_i b8 J ab
    have dk:Nat.beq b8 s=false:=by
     cases hb:Nat.beq b8 s
     ·rfl
     ·have:=ep.1 hb; subst this
      have:=hu 0 x rfl ab; omega
    simp only [look,dk,cond_false]
    exact bO
   ·exact bO
theorem Lq {ls:Nat→Bool} {hd:Nat→Hid} {E:List (Nat × I)} {t:Nat} {τ:I} :∀ {k:Nat} {hs:List ei},look (jr ls hd E k hs) t=some τ→ (∃ (j:Nat) (h:ei),hs[j]? =some h∧ls (k + j)=true∧h.slot=some t∧τ=h.τ (g7 h.up (k + j) hd))∨ (look E t=some τ∧ ∀ (m:Nat) (h:ei),hs[m]? =some h→ls (k + m)=true→h.slot≠some t)
 | _,[],h=> .inr ⟨h,fun m h hm=>by simp at hm⟩
 | k,x :: r,h=>by
   unfold jr at h
   have go:(ls k=true→x.slot≠some t)→look (jr ls hd E (k + 1) r) t=some τ→ (∃ (j:Nat) (h:ei),(x :: r)[j]? =some h∧ls (k + j)=true∧h.slot=some t∧τ=h.τ (g7 h.up (k + j) hd))∨ (look E t=some τ∧ ∀ (m:Nat) (h:ei),(x :: r)[m]? =some h→ls (k + m)=true→h.slot≠some t):=fun an h=>by
    rcases Lq h with⟨j,y,J,ab,aE,aW⟩ | ⟨J,ab⟩
    ·exact .inl ⟨j + 1,y,by simpa using J,by rw [← ab]; congr 1; omega,aE,by rw [aW]; congr 2; omega⟩
    ·refine .inr ⟨J,fun m y hm al=> ?_⟩
     cases m with
     | zero=>simp only [List.getElem?_cons_zero,Option.some.injEq] at hm; subst hm; exact an al
     | succ m=>exact ab m y (by simpa using hm) (by rw [← al]; congr 1; omega)
   split at h
   ·rename_i s J ab
    simp only [look] at h
    by_cases e:Nat.beq s t=true
    ·rw [e] at h
     simp only [cond_true,Option.some.injEq] at h
     have:=ep.1 e
     subst this
     exact .inl ⟨0,x,rfl,J,ab,h.symm⟩
    ·rw [Bool.not_eq_true] at e
     rw [e] at h
     exact go (fun _ fe=>by rw [ab] at fe; cases fe; rw [Nat.beq_refl] at e; cases e) h
   ·rename_i fZ
    exact go (fun al fe=>fZ t al fe) h
def mc (hd:Nat→Hid) (hs:List ei) (E:List (Nat × I)):List Nat→List (Nat × I)
 | []=>E
 | j :: r=>match hs[j]? with
   | some h=>match h.slot with
     | some s=>(s,h.τ (g7 h.up j hd)) :: mc hd hs E r
     | none=>mc hd hs E r
   | none=>mc hd hs E r
theorem L9 {hd:Nat→Hid} {hs:List ei} {E:List (Nat × I)} {t:Nat} {τ:I} :∀ {ds:List Nat},look (mc hd hs E ds) t=some τ→ (∃ j∈ds,∃ h:ei,hs[j]? =some h∧h.slot=some t∧τ=h.τ (g7 h.up j hd))∨look E t=some τ
 | [],h=> .inr h
 | j :: r,h=>by
   have go:look (mc hd hs E r) t=some τ→ (∃ i∈j :: r,∃ h:ei,hs[i]? =some h∧h.slot=some t∧τ=h.τ (g7 h.up i hd))∨look E t=some τ:=fun h=>by
    rcases L9 h with⟨i,J,ab⟩ | J
    ·exact .inl ⟨i,by simp [J],ab⟩
    ·exact .inr J
   unfold mc at h
   split at h
   ·rename_i x an
    split at h
    ·rename_i s lK
     simp only [look] at h
     by_cases e:Nat.beq s t=true
     ·rw [e] at h
      simp only [cond_true,Option.some.injEq] at h
      have:=ep.1 e
      subst this
      exact .inl ⟨j,by simp,x,an,lK,h.symm⟩
     ·simp only [Bool.not_eq_true] at e
      rw [e] at h
      exact go h
    ·exact go h
   ·exact go h
def sA (E:List (Nat × I)) (v:Value):List Nat→Prop
 | []=>True
 | s :: r=>look E s=some (.eq v)∧sA E v r
theorem sA.get {E:List (Nat × I)} {v:Value} :∀ {gk:List Nat},sA E v gk→ ∀ s∈gk,look E s=some (.eq v)
 | _ :: _,h,s,hs=>by
   rcases List.mem_cons.1 hs with rfl | hs
   ·exact h.1
   ·exact sA.get h.2 s hs
def uX (τ:I) (E:List (Nat × I)):List Nat→List (Nat × I)
 | []=>E
 | s :: r=>(s,τ) :: uX τ E r
theorem Lt {τ:I} {E:List (Nat × I)} {t:Nat} {σ:I} :∀ {gk:List Nat},look (uX τ E gk) t=some σ→ (t∈gk∧σ=τ)∨look E t=some σ
 | [],h=> .inr h
 | s :: r,h=>by
   simp only [uX,look] at h
   by_cases e:Nat.beq s t=true
   ·rw [e] at h
    simp only [cond_true,Option.some.injEq] at h
    have:=ep.1 e
    subst this
    exact .inl ⟨by simp,h.symm⟩
   ·simp only [Bool.not_eq_true] at e
    rw [e] at h
    rcases Lt h with⟨J,ab⟩ | J
    ·exact .inl ⟨by simp [J],ab⟩
    ·exact .inr J
def uE {w:Nat} (a b:BitVec w):BitVec w:=if a≤b then a else b
def ra:Option Nat→I→List (Nat × I)→List (Nat × I)
 | some s,τ,E=>(s,τ) :: E
 | none,_,E=>E
section
variable {c:c8} {E:List (Nat × I)} {L:List aN} {ops:Array Oper} {Q:Exit→Act→World→Prop}
theorem bG.kF {a:Act} {W:World} {α:Type} [ah α] {i cap T:Nat} {gk:List Nat} {key:Option Nat} {xs:List α} (h:bG c E L a W) (al:sA E (aZ key xs.length cap) gk) (av:L[i]? =some ⟨key,.row T xs cap⟩):
 bG c (uX (.of xs) E gk) (L.set i ⟨none,.dead⟩) a W:=by
 have aq:=h.kill i
 refine { aq with env:=fun t τ ev=> ?_ }
 rcases Lt ev with⟨hm,rfl⟩ | J
 ·obtain⟨v,J,ab⟩:=h.env t _ (al.get t hm)
  refine⟨v,J,mj.2 ?_⟩
  have lj:v=aZ key xs.length cap:=ab
  subst lj
  have bo:=h.own _ (List.mem_of_getElem? av)
  cases key with
  | none=>exact .inl ⟨rfl,bo.1⟩
  | some p=>
    obtain⟨o,eA,cs,rfl,eF,aO,oD,aQ⟩:=bo
    obtain⟨aE,aW⟩:=EZ eF aO aQ
    refine .inr ⟨p,0,cap,cs,T,(0,0),rfl,h.yK av,eA,aO,by omega,aE,?_⟩
    have kJ:=vG (L:=L) (i:=i) (cp:= .dead)
    exact aW.mono (.drop fun k hm=>by
     rcases List.mem_append.1 hm with hm | hm
     ·exact List.mem_append.2 (.inl (kJ.subset hm))
     ·exact List.mem_append.2 (.inr hm))
 ·exact aq.env t τ J
theorem ak.kF {l:List Oper} {α:Type} [ah α] {key:Option Nat} {xs:List α} {cap T:Nat} (i:Nat) (gk:List Nat) (al:sA E (aZ key xs.length cap) gk) (av:L[i]? =some ⟨key,.row T xs cap⟩)
 (k:ak c ops Q l (uX (.of xs) E gk) (L.set i ⟨none,.dead⟩)):ak c ops Q l E L:=fun a W st=>k a W (st.kF al av)
theorem ae.kF {x:Exit} {α:Type} [ah α] {key:Option Nat} {xs:List α} {cap T:Nat} (i:Nat) (gk:List Nat) (al:sA E (aZ key xs.length cap) gk) (av:L[i]? =some ⟨key,.row T xs cap⟩)
 (k:ae c Q x (uX (.of xs) E gk) (L.set i ⟨none,.dead⟩)):ae c Q x E L:=fun a W st=>k a W (st.kF al av)
theorem ag.kF {code:Code} {α:Type} [ah α] {key:Option Nat} {xs:List α} {cap T:Nat} (i:Nat) (gk:List Nat) (al:sA E (aZ key xs.length cap) gk) (av:L[i]? =some ⟨key,.row T xs cap⟩)
 (k:ag c Q code (uX (.of xs) E gk) (L.set i ⟨none,.dead⟩)):ag c Q code E L:=fun a W st=>k a W (st.kF al av)
def fk (c:c8) (ops:Array Oper) (Q:Exit→Act→World→Prop) (hs:List ei) (E:List (Nat × I)) (L:List aN) (i:Nat) (o:Oper) (h:ei):Prop:=
 ∀ (hd:Nat→Hid) (E':List (Nat × I)) (aC:List aN),(∀ t τ,look (mc hd hs E h.up) t=some τ→look E' t=some τ)→
   (∀ j e,(im (fun _=>true) hd 0 (hs.take i) L)[j]? =some e→h.rd.contains j=true→aC[j]? =some e)→
   ak c ops (px (fun a W=> ∃ x,bG c (ra h.slot (h.τ (g7 h.up i (lN hd i x))) E') (mw aC (h.fl (g7 h.up i (lN hd i x))) h.wr) a W) Q) [o] E' aC
def sm (c:c8) (ops:Array Oper) (Q:Exit→Act→World→Prop) (hs:List ei) (E:List (Nat × I)) (L:List aN):Nat→List Oper→List ei→Prop
 | _,[],[]=>True
 | i,o :: os,h :: r=>fk c ops Q hs E L i o h∧sm c ops Q hs E L (i + 1) os r
 | _,_,_=>False
theorem sm.get {hs:List ei} :∀ {k:Nat} {os:List Oper} {rs:List ei},sm c ops Q hs E L k os rs→ ∀ i h o,rs[i]? =some h→os[i]? =some o→fk c ops Q hs E L (k + i) o h
 | k,[],[],_,i,h,o,aj,_=>by simp at aj
 | k,aao :: os,bP :: r,cE,i,h,o,aj,bo=>by
   cases i with
   | zero=>
     simp only [List.getElem?_cons_zero,Option.some.injEq] at aj bo
     subst aj; subst bo; exact cE.1
   | succ i=>
     have:=sm.get cE.2 i h o (by simpa using aj) (by simpa using bo)
     rw [show k + 1 + i=k + (i + 1) by omega] at this
     exact this
 | k,[],_ :: _,cE,_,_,_,_,_=>cE.elim
 | k,_ :: _,[],cE,_,_,_,_,_=>cE.elim
def kn (ops:Array Oper) (hs:List (Option Nat × List Nat × List Nat × List Nat)) (E:List Nat):Bool:=
 decide (hs.length=ops.size) && decide (hs.filterMap (·.1)).Nodup && ((List.range ops.size).all fun m=>match hs[m]? with | some (some s,up,_)=> !E.contains s || (List.range ops.size).all fun k=>decide (k=m) || up.contains k | _=>true) &&
 ((List.range ops.size).all fun i=>match hs[i]? with
   | none=>false
   | some (_,up,rd,wr)=>
     (((ops[i]?).map fun o=>(o.dst ==(hs[i]?).bind (·.1)) && o.after.all fun e=> !Region.binds .any e || decide (e.on < i)).getD false) &&
     (up.all fun k=>Region.waitsFor .any ops i k || (List.range i).any fun m=>Region.waitsFor .any ops i m && ((hs[m]?).map fun h=>h.2.1.contains k).getD false) &&
     ((List.range ops.size).all fun k=>match hs[k]? with
       | none=>true
       | some (_,ZA,_,Pq)=>
         (!(decide (k < i) && Pq.any rd.contains) || up.contains k) && (!(decide (i < k) && Pq.any fun j=>rd.contains j || wr.contains j) || ZA.contains i)))
theorem KJ {ls ls':Nat→Bool} {hd:Nat→Hid} :∀ {k:Nat} {hs:List ei},(∀ m,m < hs.length→ls (k + m)=ls' (k + m))→jr ls hd E k hs=jr ls' hd E k hs
 | _,[],_=>rfl
 | k,h :: r,aO=>by
   have bO:=KJ (ls:=ls) (ls':=ls') (hd:=hd) (k:=k + 1) (hs:=r) fun m hm=>by
    have:=aO (m + 1) (by simp; omega)
    rw [show k + 1 + m=k + (m + 1) by omega]; exact this
   have bP:=aO 0 (by simp)
   simp only [Nat.add_zero] at bP
   unfold jr
   rw [bP,bO]
theorem Lu {ls ls':Nat→Bool} {hd:Nat→Hid} :∀ {k:Nat} {hs:List ei} {L:List aN},(∀ m,m < hs.length→ls (k + m)=ls' (k + m))→im ls hd k hs L=im ls' hd k hs L
 | _,[],_,_=>rfl
 | k,h :: r,L,aO=>by
   have bP:=aO 0 (by simp)
   simp only [Nat.add_zero] at bP
   rw [im,im,bP]
   exact Lu fun m hm=>by
    have:=aO (m + 1) (by simp; omega)
    rw [show k + 1 + m=k + (m + 1) by omega]; exact this
def mE (hs:List ei):List (Option Nat × List Nat × List Nat × List Nat):=hs.map fun h=>(h.slot,h.up,h.rd,h.wr)
theorem FU {hs:List ei} {i:Nat} {h:ei} (aj:hs[i]? =some h):(mE hs)[i]? =some (h.slot,h.up,h.rd,h.wr):=by simp [mE,aj]
def Gm (c:c8) (ops:Array Oper) (Q:Exit→Act→World→Prop) (hs:List ei) (E:List (Nat × I)) (L:List aN) (np:Nat) (i:Nat) (o:Oper) (h:ei):Prop:=
 ∀ (hd:Nat→Hid) (E':List (Nat × I)) (aC:List aN),(∀ t τ,look (mc hd hs E h.up) t=some τ→look E' t=some τ)→
   (∀ j e,(im (fun _=>true) hd 0 (hs.take i) L)[j]? =some e→h.rd.contains j=true→aC[j]? =some e)→aC.drop np=L.drop np→
   ak c ops (px (fun a W=> ∃ x,bG c (ra h.slot (h.τ (g7 h.up i (lN hd i x))) E') (mw aC (h.fl (g7 h.up i (lN hd i x))) h.wr) a W) Q) [o] E' aC
def qF (c:c8) (ops:Array Oper) (Q:Exit→Act→World→Prop) (hs:List ei) (E:List (Nat × I)) (L:List aN) (np:Nat):Nat→List Oper→List ei→Prop
 | _,[],[]=>True
 | i,o :: os,h :: r=>Gm c ops Q hs E L np i o h∧qF c ops Q hs E L np (i + 1) os r
 | _,_,_=>False
theorem qF.get {hs:List ei} {np:Nat} :∀ {k:Nat} {os:List Oper} {rs:List ei},qF c ops Q hs E L np k os rs→ ∀ i h o,rs[i]? =some h→os[i]? =some o→Gm c ops Q hs E L np (k + i) o h
 | k,[],[],_,i,h,o,aj,_=>by simp at aj
 | k,aao :: os,bP :: r,cE,i,h,o,aj,bo=>by
   cases i with
   | zero=>
     simp only [List.getElem?_cons_zero,Option.some.injEq] at aj bo
     subst aj; subst bo; exact cE.1
   | succ i=>
     have:=qF.get cE.2 i h o (by simpa using aj) (by simpa using bo)
     rw [show k + 1 + i=k + (i + 1) by omega] at this
     exact this
 | k,[],_ :: _,cE,_,_,_,_,_=>cE.elim
 | k,_ :: _,[],cE,_,_,_,_,_=>cE.elim
theorem sm.Pr {hs:List ei} {np:Nat} :∀ {k:Nat} {os:List Oper} {rs:List ei},sm c ops Q hs E L k os rs→qF c ops Q hs E L np k os rs
 | _,[],[],_=>trivial
 | _,_ :: _,_ :: _,h=>⟨fun hd E' aC J ab _=>h.1 hd E' aC J ab,sm.Pr h.2⟩
 | _,[],_ :: _,h=>h.elim
 | _,_ :: _,[],h=>h.elim
theorem K9 {n:Nat} :∀ {L:List aN} {f:Nat→aN} {eV:List Nat},(∀ j∈eV,j < n∨L.length≤j)→ (mw L f eV).drop n=L.drop n
 | _,_,[],_=>rfl
 | L,f,j :: r,h=>by
   rw [mw,K9 (fun k aq=>by rw [List.length_set]; exact h k (by simp [aq]))]
   rcases h j (by simp) with J | J
   ·rw [List.drop_set_of_lt J]
   ·rw [List.set_eq_of_length_le J]
theorem FV {ls:Nat→Bool} {hd:Nat→Hid} {n:Nat} :∀ {k:Nat} {hs:List ei} {L:List aN},(∀ h∈hs,∀ j∈h.wr,j < n∨L.length≤j)→ (im ls hd k hs L).drop n=L.drop n
 | _,[],_,_=>rfl
 | k,h :: r,L,hw=>by
   rw [im]
   cases al:ls k
   ·exact FV fun x an=>hw x (by simp [an])
   ·simp only [cond_true]
    rw [FV (fun x an j aF=>by rw [Kt]; exact hw x (by simp [an]) j aF),K9 (hw h (by simp))]
theorem SH {hs:List ei} {np:Nat} (hw:∀ h∈hs,∀ j∈h.wr,j < np∨L.length≤j) (g2:kn ops (mE hs) (E.map (·.1))=true) (cE:qF c ops Q hs E L np 0 ops.toList hs)
 (cc:∀ hd,ae c Q .normal (jr (fun _=>true) hd E 0 hs) (im (fun _=>true) hd 0 hs L)):
 ∀ m (bl:Array Bool) (hd:Nat→Hid) (a:Act) (W:World),((List.range ops.size).filter fun i=> !bl.getD i true).length≤m→HeadInv .any ops ops.size bl→
   bG c (jr (fun i=>bl.getD i false) hd E 0 hs) (im (fun i=>bl.getD i false) hd 0 hs L) a W→wpAnyIn c.F 9 c.P .any ops Q m bl a W:=by
 simp only [kn,Bool.and_eq_true,decide_eq_true_eq] at g2
 obtain⟨⟨⟨Xh,hA⟩,OS⟩,ix⟩:=g2
 have hlen:hs.length=ops.size:=by simpa [mE] using Xh
 have pZ:∀ i,i < ops.size→ ∃ h o,hs[i]? =some h∧ops[i]? =some o:=fun i aj=>⟨hs[i]'(by omega),ops[i],by simp,by simp⟩
 have zt:∀ (i:Nat) (h:ei) (o:Oper),hs[i]? =some h→ops[i]? =some o→
  o.dst=h.slot∧ (∀ e∈o.after,Region.binds .any e=true→e.on < i)∧
  (∀ k∈h.up,Region.waitsFor .any ops i k=true∨ ∃ m,m < i∧Region.waitsFor .any ops i m=true∧ ∃ x,hs[m]? =some x∧k∈x.up)∧
  (∀ (k:Nat) (x:ei),hs[k]? =some x→ (k < i→ (∃ j∈x.wr,h.rd.contains j=true)→k∈h.up)∧ (i < k→ (∃ j∈x.wr,h.rd.contains j=true∨h.wr.contains j=true)→i∈x.up)):=by
  intro i h o aj bo
  have cv:i < ops.size:=(Array.getElem?_eq_some_iff.1 bo).1
  have J:=List.all_eq_true.1 ix i (List.mem_range.2 cv)
  rw [FU aj] at J
  simp only [Bool.and_eq_true] at J
  obtain⟨⟨ab,aE⟩,aW⟩:=J
  simp only [bo,Option.map_some,Option.getD_some,Bool.and_eq_true,Option.bind_some,beq_iff_eq] at ab
  refine⟨ab.1,fun e he hb=> ?_,fun k aq=> ?_,fun k x an=> ?_⟩
  ·have:=Array.all_eq_true_iff_forall_mem.1 ab.2 e he
   simp [hb] at this
   exact this
  ·have:=List.all_eq_true.1 aE k aq
   simp only [Bool.or_eq_true,List.any_eq_true,Bool.and_eq_true,List.mem_range] at this
   rcases this with aX | ⟨m,aX,bk,cV⟩
   ·exact .inl aX
   ·have hm:m < hs.length:=by omega
    rw [FU (List.getElem?_eq_getElem hm)] at cV
    exact .inr ⟨m,aX,bk,hs[m],List.getElem?_eq_getElem hm,by simpa using cV⟩
  ·have H3:k < ops.size:=by have:=(List.getElem?_eq_some_iff.1 an).1; omega
   have:=List.all_eq_true.1 aW k (List.mem_range.2 H3)
   rw [FU an] at this
   simp only [Bool.and_eq_true,Bool.or_eq_true,Bool.not_eq_true',Bool.and_eq_false_iff,decide_eq_false_iff_not,List.contains_iff_mem] at this
   refine⟨fun uY ⟨j,aF,aQ⟩=> ?_,fun e4 ⟨j,aF,aQ⟩=> ?_⟩
   ·rcases this.1 with(aX | aX) | aX
    ·exact absurd uY aX
    ·have:=List.any_eq_false.1 aX j aF
     exact absurd aQ this
    ·exact aX
   ·rcases this.2 with(aX | aX) | aX
    ·exact absurd e4 aX
    ·have:=List.any_eq_false.1 aX j aF
     simp only [Bool.or_eq_true] at this
     exact absurd aQ this
    ·exact aX
 have G8:∀ (i j s:Nat) (x y:ei),hs[i]? =some x→hs[j]? =some y→x.slot=some s→y.slot=some s→i=j:=by
  have key:∀ (l:List ei),((mE l).filterMap (·.1)).Nodup→ ∀ (i j s:Nat) (x y:ei),l[i]? =some x→l[j]? =some y→x.slot=some s→y.slot=some s→i=j:=by
   intro l
   induction l with
   | nil=>intro _ i j s x y h; simp at h
   | cons z r bO=>
     intro hA i j s x y aj aF an a4
     have aQ:((mE r).filterMap (·.1)).Nodup:=by
      cases dh:z.slot with
      | none=>simpa [mE,dh] using hA
      | some w=>
        simp only [mE,List.map_cons,List.filterMap_cons,dh] at hA
        exact(List.nodup_cons.1 hA).2
     have sI:z.slot=some s→ ∀ (q:Nat) (v:ei),r[q]? =some v→v.slot≠some s:=fun dh q v hq a3=>by
      simp only [mE,List.map_cons,List.filterMap_cons,dh] at hA
      exact(List.nodup_cons.1 hA).1 (List.mem_filterMap.2 ⟨_,List.mem_map.2 ⟨v,List.mem_of_getElem? hq,rfl⟩,a3⟩)
     cases i with
     | zero=>
       simp only [List.getElem?_cons_zero,Option.some.injEq] at aj
       subst aj
       cases j with
       | zero=>rfl
       | succ j=>simp only [List.getElem?_cons_succ] at aF; exact absurd a4 (sI an j y aF)
     | succ i=>
       simp only [List.getElem?_cons_succ] at aj
       cases j with
       | zero=>
         simp only [List.getElem?_cons_zero,Option.some.injEq] at aF
         subst aF
         exact absurd an (sI a4 i x aj)
       | succ j=>simp only [List.getElem?_cons_succ] at aF; rw [bO aQ i j s x y aj aF an a4]
  exact key hs hA
 have Xi:∀ (t:Nat) (τ:I),look E t=some τ→ ∀ (m:Nat) (h:ei),hs[m]? =some h→h.slot=some t→ ∀ k,k < ops.size→k≠m→k∈h.up:=by
  intro t τ al m h hm fe k aq An
  have pd:m < ops.size:=by have:=(List.getElem?_eq_some_iff.1 hm).1; omega
  have J:=List.all_eq_true.1 OS m (List.mem_range.2 pd)
  rw [show(mE hs)[m]? =some (h.slot,h.up,h.rd,h.wr) by simp [mE,hm],fe] at J
  have wX:t∈E.map (·.1):=by
   clear OS J cE cc hm fe
   induction E with
   | nil=>simp [look] at al
   | cons x r bO=>
     obtain⟨s,σ⟩:=x
     simp only [look] at al
     by_cases e:Nat.beq s t=true
     ·have:=ep.1 e; subst this; simp
     ·simp only [Bool.not_eq_true] at e
      rw [e] at al
      simp only [List.map_cons,List.mem_cons]
      exact .inr (bO al)
  replace J:(!(E.map (·.1)).contains t || (List.range ops.size).all fun k=>decide (k=m) || h.up.contains k)=true:=J
  rw [show(E.map (·.1)).contains t=true by simpa using wX] at J
  have ab:∀ x,x < ops.size→x=m∨x∈h.up:=by simpa using J
  exact(ab k aq).resolve_left An
 have DQ:∀ (bl:Array Bool),HeadInv .any ops ops.size bl→ ∀ (d i:Nat),i≤d→ ∀ (h:ei) (o:Oper),hs[i]? =some h→ops[i]? =some o→ (∀ e∈o.after,Region.binds .any e=true→bl.getD e.on false=true)→ ∀ k∈h.up,bl.getD k false=true:=by
  intro bl inv d
  induction d with
  | zero=>
    intro i aj h o eE uZ hw k aq
    rcases (zt i h o eE uZ).2.2.1 k aq with J | ⟨m,hm,_⟩
    ·obtain⟨nf,kP,e,he,hb,nN⟩:=Region.waitsFor_spec J
     rw [uZ] at kP; cases kP
     rw [← nN]; exact hw e he hb
    ·omega
  | succ d bO=>
    intro i aj h o eE uZ hw k aq
    rcases (zt i h o eE uZ).2.2.1 k aq with J | ⟨m,hm,J,x,an,ZB⟩
    ·obtain⟨nf,kP,e,he,hb,nN⟩:=Region.waitsFor_spec J
     rw [uZ] at kP; cases kP
     rw [← nN]; exact hw e he hb
    ·obtain⟨nf,kP,e,he,hb,nN⟩:=Region.waitsFor_spec J
     rw [uZ] at kP; cases kP
     have pd:=hw e he hb
     rw [nN] at pd
     obtain⟨aR,A0,aa9,Ao⟩:=pZ m (by have:=(Array.getElem?_eq_some_iff.1 uZ).1; omega)
     exact bO m (by omega) x A0 an Ao (fun e he hb=>inv.closed m A0 Ao pd e he hb) k ZB
 have nz:∀ (bl:Array Bool) (hd:Nat→Hid) (a:Act) (W:World),(∀ i,i < ops.size→bl.getD i true=true)→HeadInv .any ops ops.size bl→
  bG c (jr (fun i=>bl.getD i false) hd E 0 hs) (im (fun i=>bl.getD i false) hd 0 hs L) a W→Region.ready .any ops bl= []∧Q .normal a W:=by
  intro bl hd a W sB inv st
  refine⟨?_,?_⟩
  ·refine List.eq_nil_iff_forall_not_mem.2 fun i aj=> ?_
   obtain⟨J,o,bo,_⟩:=mem_ready.1 aj
   rw [sB i (Array.getElem?_eq_some_iff.1 bo).1] at J
   cases J
  ·have al:∀ m,m < hs.length→bl.getD (0 + m) false=true:=fun m hm=>by
    have J:=sB m (by omega)
    have ab:m < bl.size:=by rw [inv.size]; omega
    simpa [ab] using J
   rw [KJ (ls':=fun _=>true) al,Lu (ls':=fun _=>true) al] at st
   exact cc hd a W st
 intro m
 induction m with
 | zero=>
   intro bl hd a W hm inv st
   refine nz bl hd a W (fun i aj=> ?_) inv st
   cases h:bl.getD i true with
   | true=>rfl
   | false=>
     have:i∈ (List.range ops.size).filter fun i=> !bl.getD i true:=List.mem_filter.2 ⟨List.mem_range.2 aj,by rw [h]; rfl⟩
     rw [List.length_eq_zero_iff.1 (Nat.le_zero.1 hm)] at this
     cases this
 | succ m bO=>
   intro bl hd a W hm inv st
   refine⟨fun bP=> ?_,fun i aj=> ?_⟩
   ·refine(nz bl hd a W (fun i aj=> ?_) inv st).2
    have key:∀ d i,i≤d→i < ops.size→bl.getD i true=true:=by
     intro d
     induction d with
     | zero=>
       intro i Ac aj
       cases al:bl.getD i true with
       | true=>rfl
       | false=>
         obtain⟨h,o,eE,bo⟩:=pZ i aj
         have:i∈Region.ready .any ops bl:=mem_ready.2 ⟨al,o,bo,fun e he hb=>by have:=(zt i h o eE bo).2.1 e he hb; omega⟩
         rw [bP] at this; cases this
     | succ d Ik=>
       intro i Ac aj
       cases al:bl.getD i true with
       | true=>rfl
       | false=>
         obtain⟨h,o,eE,bo⟩:=pZ i aj
         have:i∈Region.ready .any ops bl:=mem_ready.2 ⟨al,o,bo,fun e he hb=>by
          have J:=(zt i h o eE bo).2.1 e he hb
          have ab:=Ik e.on (by omega) (by omega)
          have aE:e.on < bl.size:=by rw [inv.size]; omega
          simpa [aE] using ab⟩
         rw [bP] at this; cases this
    exact key i i (Nat.le_refl _) aj
   ·obtain⟨j6,o,bo,oc⟩:=mem_ready.1 aj
    have eJ:i < ops.size:=(Array.getElem?_eq_some_iff.1 bo).1
    obtain⟨h,_,eE,_⟩:=pZ i eJ
    have mu:bl.getD i false=false:=getD_both j6
    have sK:i < bl.size:=by rw [inv.size]; omega
    have q9:((List.range ops.size).filter fun j=> !(bl.setIfInBounds i true).getD j true).length≤m:=by
     have:((List.range ops.size).filter fun j=> !(bl.setIfInBounds i true).getD j true).length < ((List.range ops.size).filter fun j=> !bl.getD j true).length:=by
      refine Gi (fun j=> !bl.getD j true) (fun j=> !(bl.setIfInBounds i true).getD j true) i (by simp only [j6]; rfl) ?_ (fun j aF=> ?_) ops.size eJ
      ·simp [sK]
      ·by_cases e:i=j
       ·subst e; simp only [j6]; rfl
       ·rw [getD_set_ne true e] at aF; exact aF
     omega
    have uH:=inv.set aj eJ
    obtain⟨Dt,CL,aaP,zU⟩:=zt i h o eE bo
    have Dv:=DQ bl inv i i (Nat.le_refl _) h o eE bo oc
    have MU:∀ (k:Nat) (x:ei),hs[k]? =some x→i < k→ (∃ j∈x.wr,h.rd.contains j=true∨h.wr.contains j=true)→bl.getD k false=false:=fun k x an e4 aF=>by
     have J:=(zU k x an).2 e4 aF
     cases aq:bl.getD k false with
     | false=>rfl
     | true=>
       obtain⟨_,ok,_,hT⟩:=pZ k (by have:=(List.getElem?_eq_some_iff.1 an).1; omega)
       have:=DQ bl inv k k (Nat.le_refl _) x ok an hT (fun e he hb=>inv.closed k ok hT aq e he hb) i J
       rw [mu] at this; cases this
    have MV:hs=hs.take i ++ h :: hs.drop (i + 1):=by
     have Ap:i < hs.length:=by omega
     rw [List.getElem?_eq_getElem Ap] at eE
     cases eE
     rw [List.getElem_cons_drop]
     exact(List.take_append_drop i hs).symm
    have Ps:(hs.take i).length=i:=by rw [List.length_take]; omega
    have s6:∀ (t:Nat) (τ:I),look E t=some τ→ ∀ (m:Nat) (x:ei),hs[m]? =some x→bl.getD (0 + m) false=true→x.slot≠some t:=fun t τ al m x an DR fe=>by
     rw [Nat.zero_add] at DR
     have ZC:i≠m:=fun e=>by subst e; rw [mu] at DR; cases DR
     obtain⟨_,A0,_,Ao⟩:=pZ m (by have:=(List.getElem?_eq_some_iff.1 an).1; omega)
     have:=DQ bl inv m m (Nat.le_refl _) x A0 an Ao (fun e he hb=>inv.closed m A0 Ao DR e he hb) i (Xi t τ al m x an fe i eJ ZC)
     rw [mu] at this; cases this
    have N9:=(qF.get cE i h o eE (by rw [Array.getElem?_toList]; exact bo))
    rw [Nat.zero_add] at N9
    have Il:=N9 hd (jr (fun i=>bl.getD i false) hd E 0 hs) (im (fun i=>bl.getD i false) hd 0 hs L) (fun t τ al=> ?_) (fun j e aF aQ=> ?_) (FV hw)
    ·have hw:=BZ (K:=fun a W=> ∃ x,bG c (ra h.slot (h.τ (g7 h.up i (lN hd i x))) (jr (fun i=>bl.getD i false) hd E 0 hs)) (mw (im (fun i=>bl.getD i false) hd 0 hs L) (h.fl (g7 h.up i (lN hd i x))) h.wr) a W) bo (Il a W st)
     refine wpOpIn_mono (fun gI W' ⟨x,nR⟩=> ?_) hw
     have Pt:∀ j,j≠i→lN hd i x j=hd j:=fun j aF=>by
      have:Nat.beq j i=false:=by
       cases hb:Nat.beq j i
       ·rfl
       ·exact absurd (ep.1 hb) aF
      simp only [lN,this,cond_false]
     have Im:∀ (j:Nat) (y:ei),hs[j]? =some y→bl.getD j false=true→g7 y.up j (lN hd i x)=g7 y.up j hd:=fun j y a4 aF=>by
      obtain⟨_,nf,_,kP⟩:=pZ j (by have:=(List.getElem?_eq_some_iff.1 a4).1; omega)
      refine Td (Pt j fun e=>by subst e; rw [mu] at aF; cases aF) fun k aq=>Pt k fun e=> ?_
      have:=DQ bl inv j j (Nat.le_refl _) y nf a4 kP (fun e he hb=>inv.closed j nf kP aF e he hb) k aq
      subst e
      rw [mu] at this; cases this
     have DS:(bl.setIfInBounds i true).getD i false=true:=by simp [sK]
     have g6:∀ j,j≠i→ (bl.setIfInBounds i true).getD j false=bl.getD j false:=fun j aF=>getD_set_ne false (fun e=>aF e.symm)
     refine bO _ (lN hd i x) gI W' q9 uH ?_
     have YT:im (fun j=>(bl.setIfInBounds i true).getD j false) (lN hd i x) 0 hs L=mw (im (fun i=>bl.getD i false) hd 0 hs L) (h.fl (g7 h.up i (lN hd i x))) h.wr:=by
      apply List.ext_getElem?
      intro j
      rw [CM,Fs,CM]
      by_cases aF:h.wr.contains j=true
      ·rw [if_pos aF]
       have ay:∀ (ls:Nat→Bool) (g:Nat→Hid) (v:Option aN),(∀ k x,hs[k]? =some x→i < k→x.wr.contains j=true→ls k=false)→k5 ls g j 0 hs v=(bif ls i then(k5 ls g j 0 (hs.take i) v).map (fun _=>h.fl (g7 h.up i g) j) else k5 ls g j 0 (hs.take i) v):=fun ls g v Ih=>by
        conv=>lhs; rw [MV]
        rw [E0,Ps,Nat.zero_add,k5,aF,Bool.and_true,Fg]
        intro k x an hw
        rw [List.getElem?_drop] at an
        exact Ih (i + 1 + k) x an (by omega) hw
       have fZ:∀ k x,hs[k]? =some x→i < k→x.wr.contains j=true→bl.getD k false=false:=fun k x an e4 hw=>MU k x an e4 ⟨j,by simpa using hw,.inr aF⟩
       rw [ay (fun j=>(bl.setIfInBounds i true).getD j false) (lN hd i x) _ (fun k x an e4 hw=>by rw [g6 k (by omega)]; exact fZ k x an e4 hw),ay (fun j=>bl.getD j false) hd _ fZ]
       simp only [DS,mu,cond_true,cond_false]
       rw [Cb (ls':=fun j=>bl.getD j false) (hd':=hd) fun q x an _=>by
        have hq:q < i:=by have:=(List.getElem?_eq_some_iff.1 an).1; omega
        rw [List.getElem?_take,if_pos hq] at an
        rw [Nat.zero_add]
        exact⟨g6 q (by omega),fun al=>Im q x an (by rw [g6 q (by omega)] at al; exact al)⟩]
      ·rw [if_neg aF]
       refine Cb fun q x an hw=> ?_
       rw [Nat.zero_add]
       have hq:q≠i:=fun e=>by subst e; rw [eE] at an; cases an; exact aF hw
       exact⟨g6 q hq,fun al=>Im q x an (by rw [g6 q hq] at al; exact al)⟩
     rw [YT]
     refine nR.less fun t τ al=> ?_
     rcases Lq al with⟨j,y,J,ab,aE,aW⟩ | ⟨J,fZ⟩
     ·rw [Nat.zero_add] at ab aW
      by_cases jb:j=i
      ·subst jb
       rw [eE] at J
       cases J
       exact⟨τ,by rw [aE,aW]; simp [ra,look,Nat.beq_refl],fun _ _ _ h=>h⟩
      ·rw [g6 j jb] at ab
       rw [Im j y J ab] at aW
       have aX:=Ft (ls:=fun i=>bl.getD i false) (hd:=hd) (E:=E) (k:=0) J (by rw [Nat.zero_add]; exact ab) aE fun q z hq dh=>G8 q j t z y hq J dh aE
       rw [Nat.zero_add,← aW] at aX
       refine⟨τ,?_,fun _ _ _ h=>h⟩
       cases rq:h.slot with
       | none=>exact aX
       | some s=>
         have dk:Nat.beq s t=false:=by
          cases hb:Nat.beq s t
          ·rfl
          ·have:=ep.1 hb; subst this
           exact absurd (G8 j i s y h J eE aE rq) jb
         simp only [ra,look,dk,cond_false]
         exact aX
     ·have hb:=s6 t τ J
      have aX:=Fh (ls:=fun i=>bl.getD i false) (hd:=hd) (E:=E) (k:=0) hb
      refine⟨τ,?_,fun _ _ _ h=>h⟩
      cases rq:h.slot with
      | none=>simp only [ra]; rw [aX]; exact J
      | some s=>
        have dk:Nat.beq s t=false:=by
         cases mA:Nat.beq s t
         ·rfl
         ·have:=ep.1 mA; subst this
          exact absurd rq (fZ i h eE (by rw [Nat.zero_add]; exact DS))
        simp only [ra,look,dk,cond_false]
        rw [aX]; exact J
    ·rcases L9 al with⟨j,aF,y,J,ab,aE⟩ | J
     ·have aX:=Ft (ls:=fun i=>bl.getD i false) (hd:=hd) (E:=E) (k:=0) J (by rw [Nat.zero_add]; exact Dv j aF) ab fun q z hq dh=>G8 q j t z y hq J dh ab
      rw [Nat.zero_add,← aE] at aX
      exact aX
     ·rw [Fh (s6 t τ J)]; exact J
    ·rw [CM] at aF ⊢
     rw [← aF]
     conv=>lhs; rw [MV]
     rw [E0,Fg]
     ·refine Cb fun q x an hw=> ?_
      rw [Nat.zero_add]
      have hq:q < i:=by have:=(List.getElem?_eq_some_iff.1 an).1; omega
      rw [List.getElem?_take,if_pos hq] at an
      exact⟨Dv q ((zU q x an).1 hq ⟨j,by simpa using hw,aQ⟩),fun _=>rfl⟩
     ·intro q x an hw
      rw [Ps,Nat.zero_add]
      cases q with
      | zero=>exact mu
      | succ q=>
        simp only [List.getElem?_cons_succ] at an
        rw [List.getElem?_drop] at an
        exact MU (i + (q + 1)) x (by rw [← an]; congr 1; omega) (by omega) ⟨j,by simpa using hw,.inl aQ⟩
theorem ag.MW {np:Nat} {pf:Nat} {l:List Oper} (hm:c.P.follows .mixedOrders=true) (hs:List ei) (ds:List (Option Nat × List Nat × List Nat × List Nat)) (es:List Nat) (h4:mE hs=ds) (u0:E.map (·.1)=es) (g2:Gv.kn l.toArray ds es=true) (hw:∀ h∈hs,∀ j∈h.wr,j < np∨L.length≤j)
 (cE:qF c l.toArray Q hs E L np 0 l hs) (cc:∀ hd,ae c Q .normal (jr (fun _=>true) hd E 0 hs) (im (fun _=>true) hd 0 hs L)):ag c Q (.region pf l.toArray true) E L:=fun a W s=>by
 subst h4 u0
 refine wpIn_region_any hm ?_
 have Hy:HeadInv .any l.toArray l.toArray.size (Array.replicate l.toArray.size false):=
  {size:=by simp
   closed:=fun j nf _ al=>by rw [getD_replicate_false] at al; cases al
   tail:=fun t J ab=>by omega }
 refine SH hw (ops:=l.toArray) (Q:=Q) g2 (by simpa using cE) cc l.toArray.size (Array.replicate l.toArray.size false) (fun _ _=>none) a W.drew (Nat.le_trans (List.length_filter_le _ _) (by simp)) Hy ?_
 have J:∀ (hs:List ei) (k:Nat),jr (fun i=>(Array.replicate l.toArray.size false).getD i false) (fun _ _=>none) E k hs=E:=by
  intro hs
  induction hs with
  | nil=>intro k; rfl
  | cons h r bO=>
    intro k
    have ab:=bO (k + 1)
    simp only [getD_replicate_false] at ab
    unfold jr
    simp only [getD_replicate_false]
    exact ab
 have ab:∀ (hs:List ei) (k:Nat) (L:List aN),im (fun i=>(Array.replicate l.toArray.size false).getD i false) (fun _ _=>none) k hs L=L:=by
  intro hs
  induction hs with
  | nil=>intro k L; rfl
  | cons h r bO=>intro k L; rw [im,bO]; simp only [getD_replicate_false,cond_false]
 rw [J,ab]
 exact s.world (Fr.drew W)
theorem ag.kn {pf:Nat} {l:List Oper} (hm:c.P.follows .mixedOrders=true) (hs:List ei) (ds:List (Option Nat × List Nat × List Nat × List Nat)) (es:List Nat) (h4:mE hs=ds) (u0:E.map (·.1)=es) (g2:Gv.kn l.toArray ds es=true)
 (cE:sm c l.toArray Q hs E L 0 l hs) (cc:∀ hd,ae c Q .normal (jr (fun _=>true) hd E 0 hs) (im (fun _=>true) hd 0 hs L)):ag c Q (.region pf l.toArray true) E L:=
 ag.MW (np:=L.length) hm hs ds es h4 u0 g2 (fun _ _ j _=>by omega) cE.Pr cc
theorem Xj {hs:List ei} {ds:List (Option Nat × List Nat × List Nat × List Nat)} {np:Nat} (h4:mE hs=ds) (h:(ds.all fun d=>d.2.2.2.all fun j=>Nat.blt j np)=true):∀ h∈hs,∀ j∈h.wr,j < np∨L.length≤j:=fun x an j aF=>by
 subst h4
 have J:=List.all_eq_true.1 h (x.slot,x.up,x.rd,x.wr) (List.mem_map.2 ⟨x,an,rfl⟩)
 have ab:=List.all_eq_true.1 J j aF
 exact .inl (Nat.blt_eq.mp ab)
theorem ag.C1 {pf:Nat} {l:List Oper} (np:Nat) (hm:c.P.follows .mixedOrders=true) (hs:List ei) (ds:List (Option Nat × List Nat × List Nat × List Nat)) (es:List Nat) (h4:mE hs=ds) (u0:E.map (·.1)=es) (g2:Gv.kn l.toArray ds es=true) (hw:(ds.all fun d=>d.2.2.2.all fun j=>Nat.blt j np)=true)
 (cE:qF c l.toArray Q hs E L np 0 l hs) (cc:∀ hd,ae c Q .normal (jr (fun _=>true) hd E 0 hs) (im (fun _=>true) hd 0 hs L)):ag c Q (.region pf l.toArray true) E L:=
 ag.MW hm hs ds es h4 u0 g2 (Xj h4 hw) cE cc
theorem ae.fin {slot:Option Nat} {up wr:List Nat} {i:Nat} {hd:Nat→Hid} {τ:(Nat→Hid)→I} {fl:(Nat→Hid)→Nat→aN} {E' xh:List (Nat × I)} {aC L2:List aN} (x:Hid) (aL:xh=ra slot (τ (g7 up i (lN hd i x))) E') (av:L2=mw aC (fl (g7 up i (lN hd i x))) wr):
 ae c (px (fun a W=> ∃ x,bG c (ra slot (τ (g7 up i (lN hd i x))) E') (mw aC (fl (g7 up i (lN hd i x))) wr) a W) Q) .normal xh L2:=fun a W s=>by
 subst aL av
 exact⟨x,s⟩
theorem ae.place {z:Exit} {e:aN} (j:Nat) (aF:L[j]? =some ⟨none,.dead⟩) (k:ae c Q z E (L.set j e)):ae c Q z E (e :: L):=fun a W s=>by
 refine k a W (s.sub (fun x an=> ?_) ?_)
 ·rcases List.mem_or_eq_of_mem_set an with h | h
  ·exact List.mem_cons.2 (.inr h)
  ·exact List.mem_cons.2 (.inl h)
 ·have J:=r6 aF
  have ab:(L.set j e).Perm (e :: L.eraseIdx j):=by
   have aE:(L.set j e)[j]? =some e:=by rw [List.getElem?_set_self (List.getElem?_eq_some_iff.1 aF).1]
   have aW:=r6 aE
   rwa [List.eraseIdx_set_eq] at aW
  have aX:=tK (J.cons e)
  have bk:aP (e :: ⟨none,.dead⟩ :: L.eraseIdx j)=aP (e :: L.eraseIdx j):=by cases aq:e.key <;> simp [aP,aq]
  rw [bk] at aX
  exact(tK ab).nodup_iff.2 (aX.nodup_iff.1 s.nodup)
theorem ae.back {z:Exit} {e lS:aN} (j:Nat) (aF:L[j]? =some lS) (k:ae c Q z E (L.set j e)):ae c Q z E (e :: L.eraseIdx j):=fun a W s=>by
 have aE:(L.set j e)[j]? =some e:=by rw [List.getElem?_set_self (List.getElem?_eq_some_iff.1 aF).1]
 have aW:=r6 aE
 rw [List.eraseIdx_set_eq] at aW
 exact k a W (s.perm aW.symm)
theorem ag.q1 {z:Code} (n:Nat) (k:ag c Q z E (L ++ List.replicate n ⟨none,.dead⟩)):ag c Q z E L:=fun a W s=>by
 refine k a W ?_
 have aq:aP (L ++ List.replicate n ⟨none,.dead⟩)=aP L:=by
  rw [e0]
  have:∀ n,aP (List.replicate n (⟨none,.dead⟩:aN))= []:=fun n=>by
   induction n with
   | zero=>rfl
   | succ n bO=>rw [List.replicate_succ]; simp [aP,bO]
  rw [this,List.append_nil]
 exact
 {defers:=s.defers
  size:=s.size
  env:=fun t τ al=>by rw [aq]; exact s.env t τ al
  dw:=s.dw
  own:=fun e he=>by
   rw [aq]
   rcases List.mem_append.1 he with he | he
   ·exact s.own e he
   ·rw [(List.mem_replicate.1 he).2]; trivial
  nodup:=by rw [aq]; exact s.nodup
  lt:=by rw [aq]; exact s.lt
  fH:=by rw [aq]; exact s.fH
  eQ:=by rw [aq]; exact s.eQ }
theorem ag.WV {z:Code} (n m:Nat) (k:ag c Q z E (L.take m ++ (List.replicate n ⟨none,.dead⟩ ++ L.drop m))):ag c Q z E L:=by
 refine ag.q1 n fun a W s=>k a W (s.perm ?_)
 have e:L=L.take m ++ L.drop m:=(List.take_append_drop m L).symm
 conv=>lhs; rw [e]
 rw [List.append_assoc]
 exact List.perm_append_comm.append_left _
theorem ae.gu {z:Exit} {L2:List aN} (h:L=L2) (k:ae c Q z E L2):ae c Q z E L:=by subst h; exact k
theorem ae.gY {z:Exit} {key:Option Nat} {n m cap:Nat} (fa:Nat) (al:look E fa=some (.eq (aZ key n cap))) (aO:n=m) (k:ae c Q z ((fa,.eq (aZ key m cap)) :: E) L):ae c Q z E L:=fun a W s=>by
 subst aO
 refine k a W (s.less fun t τ h=> ?_)
 simp only [look] at h
 by_cases e:Nat.beq fa t=true
 ·rw [e] at h
  simp only [cond_true] at h
  have:=ep.1 e
  subst this
  exact⟨τ,by rw [al,h],fun _ _ _ h=>h⟩
 ·simp only [Bool.not_eq_true] at e
  rw [e] at h
  exact⟨τ,h,fun _ _ _ h=>h⟩
variable {hs:List ei} {i d:Nat} {up rd:List Nat} {fl:(Nat→Hid)→Nat→aN} {o:Oper}
theorem jH {τ:I} (bZ:o.guard=none) (hd:o.dst=some d) (aO:Nat.blt d c.n=true)
 (h:∀ (hd:Nat→Hid) (E':List (Nat × I)) (aC:List aN),(∀ t τ,look (mc hd hs E up) t=some τ→look E' t=some τ)→ (∀ j e,(im (fun _=>true) hd 0 (hs.take i) L)[j]? =some e→rd.contains j=true→aC[j]? =some e)→b3 c E' aC o τ):
 fk c ops Q hs E L i o ⟨some d,up,rd,[],fun _=>τ,fl⟩:=fun ZD E' aC aL av=>
 ak.v (h ZD E' aC aL av) bZ hd aO (ak.nil (ae.fin (fun _=>none) rfl rfl))
variable {ty t:TypeId} {pos:String} {af:Array Edge}
theorem ak.Oq {α:Type} [ah α] {rest:List Oper} {bc e n:Nat} {z:α} {r0 r:List α} {bs:List (Nat × Operand)} (hu:c.P.underlying t=some (.slice e)) (ft:bA c.P e α) (gl:cF c.P e z) (hs:Nat.beq (ah.size α) 0=false) (aO:Nat.ble (n * ah.size α) 16777216=true)
 (a7:mT c E L (List.replicate n z) bs r0) (aQ:r0=r) (jC:Nat.blt bc c.n=true) (k:∀ p,ak c ops Q rest ((bc,.eq (aZ p r.length n)) :: E) (⟨p,.row e r n⟩ :: L)):
 ak c ops Q (⟨some bc,.buildSlice t n bs.toArray,ty,pos,af,none⟩ :: rest) E L:=by subst aQ; exact ak.pV hu ft gl hs aO a7 jC k
variable {g:Option (Nat × Bool)} {x y:Operand}
theorem TD {a b:BitVec 64} {bc:Option Tmp} {ats:Array TypeId} (an:bb c E L x (.of a)) (a4:bb c E L y (.of b)):b3 c E L ⟨bc,.call ⟨.builtin .min,#[x,y],ats⟩,ty,pos,af,g⟩ (.of (uE a b)):= .pure fun A W s=>
 ⟨.int .u64 (uE a b).toNat,by
   simp [execOp,resolve,invoke,builtin,Builtin.min_,Builtin.min2,gX.1 (an A W s),gX.1 (a4 A W s)]
   unfold uE
   split <;> split <;> first | rfl | (rename_i J ab; simp only [BitVec.le_def] at *; omega),gX.2 rfl⟩
end
end Gv
namespace Gv
open Go
set_option linter.unusedVariables false
set_option linter.unusedSimpArgs false
section
variable {c:c8} {E:List (Nat × I)} {L:List aN} {ops:Array Oper} {Q:Exit→Act→World→Prop}
variable {d:Option Tmp} {ty:TypeId} {pos:String} {af:Array Edge} {g:Option (Nat × Bool)} {x y:Operand} {t t2:TypeId}
def Src (c:c8) (E:List (Nat × I)) (L:List aN) (y:Operand) (N:Nat) {α:Type} [ah α] (vs:List α):Prop:=
 ∀ a W,bG c E L a W→ (Builtin.lenOf (a.eval y)).run c.P W= .ok N W∧ ∃ cells:List Value,(Builtin.firstCells (ah.size α) vs.length (a.eval y)).run c.P W= .ok cells.toArray W∧gi (aP L ++ c.b2) W cells vs∧ ∀ v∈cells,v.oneCell'=true
theorem ak.Da {rest:List Oper} {i e p off bc dLen dCap N T:Nat} {cp cp':dB} {α:Type} [ah α] {vs:List α} (hu:c.P.underlying t=some (.slice e)) (ft:bA c.P e α)
 (an:bb c E L x (.eq (.slice (some ⟨p,off,none⟩) dLen dCap))) (a4:Src c E L y N vs) (Hx:Nat.min N dLen=vs.length) (av:L[i]? =some ⟨some p,cp⟩) (aO:Nat.blt bc c.n=true)
 (HU:∀ A W o cells,cp.holds A W o→gi A W cells vs→ ∃ cs,o= .cells cs T (0,0)∧off + cells.length≤cs.size∧cp'.holds A W (.cells (cs.toList.take off ++ cells ++ cs.toList.drop (off + cells.length)).toArray T (0,0)))
 (k:ak c ops Q rest ((bc,.of (vs.length:Int)) :: E) (L.set i ⟨some p,cp'⟩)):
 ak c ops Q (⟨some bc,.call ⟨.builtin .copy,#[x,y],#[t,t2]⟩,ty,pos,af,none⟩ :: rest) E L:=fun a W s=>by
 have jC:bc < c.n:=by simpa using aO
 have J:a.eval x=_:=an a W s
 obtain⟨al,cells,ao,aQ,DM⟩:=a4 a W s
 obtain⟨o,bo,cE⟩:=s.own _ (List.mem_of_getElem? av)
 obtain⟨cs,rfl,OQ,zR⟩:=HU _ _ _ _ cE aQ
 obtain⟨gd,dW,eF⟩:=ft.info
 have kQ:=run_storeCells_at (P:=c.P) p off T cells 0 cs W bo (by omega) DM
 simp only [Nat.add_zero] at kQ
 have kK:(execOp a.eval ⟨some bc,.call ⟨.builtin .copy,#[x,y],#[t,t2]⟩,ty,pos,af,none⟩).run c.P W= .ok (.value (goInt vs.length)) (W.setRow p (cs.toList.take off ++ cells ++ cs.toList.drop (off + cells.length)).toArray):=by
  simp [execOp,resolve,invoke,builtin,Builtin.copy_,J,run_underlying hu,al,Hx,Go.sizeOf,typeInfo,dW,eF,ao,kQ]
 refine ib rfl (R:=fun v hD=>v=goInt vs.length∧hD=W.setRow p (cs.toList.take off ++ cells ++ cs.toList.drop (off + cells.length)).toArray) (.mo kK ⟨rfl,rfl⟩) fun v hD ⟨a3,hw⟩=> ?_
 subst a3
 subst hw
 exact k _ _ ((s.store av bo zR).put jC (of_int.2 rfl))
theorem FM {i T cap lo N k:Nat} {key:Option Nat} {α:Type} [ah α] {xs:List α} (a4:bb c E L y (.eq (iw key lo N cap (ah.size α)))) (av:L[i]? =some ⟨key,.row T xs cap⟩) (aq:0 < k) (g6:lo + k≤xs.length):
 Src c E L y N ((xs.drop lo).take k):=fun a W s=>by
 obtain⟨p,cs,rfl,eA,au,aT,bq,cx⟩:=s.rowAt av (by omega)
 have J:a.eval y=_:=a4 a W s
 have jL:cap≠lo:=by omega
 have a3:a.eval y= .slice (some ⟨p,lo * ah.size α,none⟩) N (cap - lo):=by rw [J]; simp [iw,jL]
 have hlen:((xs.drop lo).take k).length=k:=by rw [List.length_take,List.length_drop]; omega
 have nO:cs.toList.length=cap * ah.size α:=by simpa using au
 have YU:(lo + k) * ah.size α≤xs.length * ah.size α:=Nat.mul_le_mul_right _ g6
 have Du:xs.length * ah.size α≤cap * ah.size α:=Nat.mul_le_mul_right _ aT
 rw [Nat.add_mul] at YU
 have OT:((cs.toList.drop (lo * ah.size α)).take (k * ah.size α)).length=k * ah.size α:=by rw [List.length_take,List.length_drop]; omega
 have fy:gi (aP L ++ c.b2) W ((cs.toList.drop (lo * ah.size α)).take (k * ah.size α)) ((xs.drop lo).take k):=by
  refine⟨by rw [OT,hlen],fun j aF=> ?_⟩
  rw [hlen] at aF
  have aX:=cx.2 (lo + j) (by omega)
  have eJ:=wu (s:=ah.size α) aF
  have aaU:=wu (s:=ah.size α) (show lo + j < xs.length by omega)
  rw [List.drop_take,List.take_take,Nat.min_eq_left (by omega)] at aX
  rw [List.drop_take,List.take_take,Nat.min_eq_left (by omega),List.drop_drop,← Nat.add_mul]
  simpa using aX
 have fB:=run_loadCells_list (P:=c.P) W ⟨p,lo * ah.size α,none⟩ ((cs.toList.drop (lo * ah.size α)).take (k * ah.size α)) fun j v a3=>by
  rw [jk,cell_of_row W p _ cs T (0,0) eA]
  rw [List.getElem?_take] at a3
  split at a3
  ·rw [List.getElem?_drop] at a3; simpa using a3
  ·cases a3
 rw [OT] at fB
 refine⟨by rw [a3]; rfl,(cs.toList.drop (lo * ah.size α)).take (k * ah.size α),?_,fy,fy.one⟩
 rw [a3]
 simp only [Builtin.firstCells]
 rw [hlen]
 exact fB
theorem FL {p lo n cap size:Nat} (h:cap≠lo):iw (some p) lo n cap size=Value.slice (some ⟨p,lo * size,none⟩) n (cap - lo):=by simp [iw,h]
theorem L3 {i T cap:Nat} {key:Option Nat} {α:Type} [ah α] {xs:List α} (a4:bb c E L y (.eq (aZ key xs.length cap))) (av:L[i]? =some ⟨key,.row T xs cap⟩) (an:0 < xs.length):Src c E L y xs.length xs:=by
 have:=FM (lo:=0) (k:=xs.length) (N:=xs.length) (by rw [yD]; exact a4) av an (by omega)
 simpa using this
theorem CH {key:Option Nat} {n cap size:Nat} (h:bb c E L x (.eq (iw key 0 n cap size))):bb c E L x (.eq (aZ key n cap)):=by rw [← yD (size:=size)]; exact h
theorem Gf {p lo n cap size:Nat} (ao:cap≠lo) (h:bb c E L x (.eq (iw (some p) lo n cap size))):bb c E L x (.eq (.slice (some ⟨p,lo * size,none⟩) n (cap - lo))):=by rw [← FL ao]; exact h
def dB.z8 {α:Type} [ah α] (T:TypeId) (xs:List α) (i m cap:Nat):dB where
 holds A W o:= ∃ cs,o= .cells cs T (0,0)∧cs.size=cap * ah.size α∧xs.length + m≤cap∧cap≤maxLen∧gi A W (cs.toList.take (i * ah.size α)) (xs.take i)∧
  gi A W ((cs.toList.drop ((i + m) * ah.size α)).take ((xs.length - i) * ah.size α)) (xs.drop i)
 l1:=False
 mono e h:=let⟨cs,J,ab,aE,aW,aX,bk⟩:=h; ⟨cs,J,ab,aE,aW,aX.mono e,bk.mono e⟩
theorem Uj {α:Type} [ah α] {T i m cap:Nat} {xs:List α} (aj:i≤xs.length) (hm:xs.length + m≤cap) {A W o cells} (h:(dB.row T xs cap).holds A W o) (ao:gi A W cells (xs.drop i)):
 ∃ cs,o= .cells cs T (0,0)∧ (i + m) * ah.size α + cells.length≤cs.size∧ (dB.z8 T xs i m cap).holds A W (.cells (cs.toList.take ((i + m) * ah.size α) ++ cells ++ cs.toList.drop ((i + m) * ah.size α + cells.length)).toArray T (0,0)):=by
 obtain⟨cs,rfl,au,aT,bq,cx⟩:=h
 have nO:cs.toList.length=cap * ah.size α:=by simpa using au
 have jL:cells.length=(xs.length - i) * ah.size α:=by rw [ao.1,List.length_drop]
 have ay:(i + m) * ah.size α + (xs.length - i) * ah.size α=(xs.length + m) * ah.size α:=by rw [← Nat.add_mul]; congr 1; omega
 have aS:(xs.length + m) * ah.size α≤cap * ah.size α:=Nat.mul_le_mul_right _ hm
 have cW:i * ah.size α≤ (i + m) * ah.size α:=Nat.mul_le_mul_right _ (by omega)
 have eh:i * ah.size α≤xs.length * ah.size α:=Nat.mul_le_mul_right _ aj
 have gS:(cs.toList.take ((i + m) * ah.size α)).length=(i + m) * ah.size α:=by rw [List.length_take]; omega
 refine⟨cs,rfl,by omega,_,rfl,?_,hm,bq,?_,?_⟩
 ·simp only [List.size_toArray,List.length_append,List.length_take,List.length_drop]; omega
 ·rw [List.toList_toArray,List.append_assoc,List.take_append_of_le_length (by rw [gS]; omega),List.take_take,Nat.min_eq_left cW]
  have:=Fq aj (⟨cs,rfl,au,aT,bq,cx⟩:(dB.row T xs cap).holds A W (.cells cs T (0,0)))
  obtain⟨ZE,J,_,_,_,aX⟩:=this
  cases J
  rwa [List.length_take,Nat.min_eq_left aj] at aX
 ·rw [List.toList_toArray,List.append_assoc,List.drop_left' gS,← jL,List.take_left]
  exact ao
theorem TC {α:Type} [ah α] {T i cap:Nat} {xs vs:List α} (aj:i≤xs.length) {A W o cells} (h:(dB.z8 T xs i vs.length cap).holds A W o) (ao:gi A W cells vs):
 ∃ cs,o= .cells cs T (0,0)∧i * ah.size α + cells.length≤cs.size∧ (dB.row T (xs.take i ++ vs ++ xs.drop i) cap).holds A W (.cells (cs.toList.take (i * ah.size α) ++ cells ++ cs.toList.drop (i * ah.size α + cells.length)).toArray T (0,0)):=by
 obtain⟨cs,rfl,au,aT,bq,cx,gT⟩:=h
 have nO:cs.toList.length=cap * ah.size α:=by simpa using au
 have jL:cells.length=vs.length * ah.size α:=ao.1
 have lS:i * ah.size α + vs.length * ah.size α=(i + vs.length) * ah.size α:=by rw [← Nat.add_mul]
 have ay:(i + vs.length) * ah.size α + (xs.length - i) * ah.size α=(xs.length + vs.length) * ah.size α:=by rw [← Nat.add_mul]; congr 1; omega
 have aS:(xs.length + vs.length) * ah.size α≤cap * ah.size α:=Nat.mul_le_mul_right _ aT
 have hlen:(xs.take i ++ vs ++ xs.drop i).length=xs.length + vs.length:=by simp; omega
 refine⟨cs,rfl,by omega,_,rfl,?_,by rw [hlen]; exact aT,bq,?_⟩
 ·simp only [List.size_toArray,List.length_append,List.length_take,List.length_drop]; omega
 ·rw [List.toList_toArray,hlen]
  have ix:=r4 (r4 cx ao) gT
  have gS:(cs.toList.take (i * ah.size α) ++ cells).length=(i + vs.length) * ah.size α:=by rw [List.length_append,List.length_take]; omega
  have hC:(cs.toList.take (i * ah.size α) ++ cells ++ cs.toList.drop (i * ah.size α + cells.length)).take ((xs.length + vs.length) * ah.size α)=cs.toList.take (i * ah.size α) ++ cells ++ (cs.toList.drop ((i + vs.length) * ah.size α)).take ((xs.length - i) * ah.size α):=by
   rw [List.take_append,gS,List.take_of_length_le (by omega),jL,lS]
   congr 2
   omega
  rw [hC]
  exact ix
theorem Ll {α:Type} [ah α] {T lo cap:Nat} {xs vs:List α} (aq:lo + vs.length≤xs.length) {A W o cells} (h:(dB.row T xs cap).holds A W o) (ao:gi A W cells vs):
 ∃ cs,o= .cells cs T (0,0)∧lo * ah.size α + cells.length≤cs.size∧ (dB.row T (xs.take lo ++ vs ++ xs.drop (lo + vs.length)) cap).holds A W (.cells (cs.toList.take (lo * ah.size α) ++ cells ++ cs.toList.drop (lo * ah.size α + cells.length)).toArray T (0,0)):=by
 obtain⟨cs,rfl,au,aT,bq,cx⟩:=h
 have nO:cs.toList.length=cap * ah.size α:=by simpa using au
 have jL:cells.length=vs.length * ah.size α:=ao.1
 have lS:lo * ah.size α + vs.length * ah.size α=(lo + vs.length) * ah.size α:=by rw [← Nat.add_mul]
 have ay:(lo + vs.length) * ah.size α≤xs.length * ah.size α:=Nat.mul_le_mul_right _ aq
 have aS:xs.length * ah.size α≤cap * ah.size α:=Nat.mul_le_mul_right _ aT
 have hlen:(xs.take lo ++ vs ++ xs.drop (lo + vs.length)).length=xs.length:=by simp; omega
 refine⟨cs,rfl,by omega,_,rfl,?_,by rw [hlen]; exact aT,bq,?_⟩
 ·simp only [List.size_toArray,List.length_append,List.length_take,List.length_drop]; omega
 ·rw [List.toList_toArray,hlen]
  have gT:=K6 (lo:=lo) cx ao aq
  have e:(cs.toList.take (lo * ah.size α) ++ cells ++ cs.toList.drop (lo * ah.size α + cells.length)).take (xs.length * ah.size α)=(cs.toList.take (xs.length * ah.size α)).take (lo * ah.size α) ++ cells ++ (cs.toList.take (xs.length * ah.size α)).drop (lo * ah.size α + cells.length):=by
   have cW:(cs.toList.take (lo * ah.size α) ++ cells).length=lo * ah.size α + cells.length:=by rw [List.length_append,List.length_take]; omega
   rw [List.take_append,cW,List.take_of_length_le (by omega),List.take_take,Nat.min_eq_left (by omega),List.drop_take]
  rw [e]
  exact gT
theorem U8 {p n cap e:Nat} (hu:c.P.underlying t=some (.slice e)) (an:bb c E L x (.eq (aZ (some p) n cap))):b3 c E L ⟨d,.call ⟨.builtin .cap,#[x],#[t]⟩,ty,pos,af,g⟩ (.of (cap:Int)):= .pure fun a W s=>by
 have J:a.eval x=_:=an a W s
 exact⟨.int .i64 cap,by simp [execOp,resolve,invoke,builtin,Builtin.cap_,J,aZ,run_underlying hu,goInt],of_int.2 rfl⟩
theorem sb {p n cap:Nat} {α:Type} [ah α] {e:TypeId} {lo aj:Option Operand} {m h:Nat} {AY AZ:Int} (hu:c.P.underlying t=some (.slice e)) (ft:bA c.P e α) (an:bb c E L x (.eq (aZ (some p) n cap)))
 (g6:tg c E L lo AY 0) (eE:tg c E L aj AZ n) (hm:AY=m) (aO:AZ=h) (cE:m≤h∧h≤cap):
 b3 c E L ⟨d,.slice t x lo aj none,ty,pos,af,g⟩ (.eq (iw (some p) m (h - m) cap (ah.size α))):= .pure fun a W s=>by
 subst hm; subst aO
 obtain⟨w8,m9⟩:=cE
 obtain⟨gd,dW,eF⟩:=ft.info
 have J:a.eval x=_:=an a W s
 refine⟨_,?_,rfl⟩
 simp only [iw]
 have av:∀ v,v=Value.int .i64 m→ (Instr.sliceBound v h .sliceB).run c.P W= .ok m W:=fun v a3=>pF w8 a3
 have jh:∀ v,v=Value.int .i64 h→ (Instr.sliceBound v cap .sliceAcap).run c.P W= .ok h W:=fun v a3=>pF (by omega) a3
 generalize eJ:(h:Int)=P0 at eE
 generalize Ag:(m:Int)=P1 at g6
 generalize Ah:(n:Int)=P2 at eE
 generalize Pj:(0:Int)=P3 at g6
 cases g6 with
 | none=>
   have hJ:m=0:=by omega
   cases eE with
   | none=>
     have m9:h=n:=by omega
     subst m9
     subst hJ
     simp [execOp,Instr.sliceAt,Instr.slice,Instr.sliceBounds,J,aZ,run_underlying hu,Go.sizeOf,typeInfo,dW,eF,jk]
   | some cE=>
     subst eJ
     subst hJ
     simp [execOp,Instr.sliceAt,Instr.slice,Instr.sliceBounds,J,aZ,run_underlying hu,Go.sizeOf,typeInfo,dW,eF,jk,jh _ (of_int.1 (cE a W s))]
 | some al=>
   subst Ag
   cases eE with
   | none=>
     have m9:h=n:=by omega
     subst m9
     simp [execOp,Instr.sliceAt,Instr.slice,Instr.sliceBounds,J,aZ,run_underlying hu,Go.sizeOf,typeInfo,dW,eF,jk,av _ (of_int.1 (al a W s))]
     split <;> rfl
   | some cE=>
     subst eJ
     simp [execOp,Instr.sliceAt,Instr.slice,Instr.sliceBounds,J,aZ,run_underlying hu,Go.sizeOf,typeInfo,dW,eF,jk,av _ (of_int.1 (al a W s)),jh _ (of_int.1 (cE a W s))]
     split <;> rfl
theorem WM {f:FuncId} {fn:Func} {p q T U cap cap' i j e tR py P8 hM jP P9 jB:Nat} {α:Type} [ah α] {xs vs:List α} (zW:Nat.beq (ah.size α) 0=false)
 (a7:c.P.funcs[f]? =some fn) (Xk:(fn.name == "runtime.NumGoroutine")=false) (hb:fn.body.isNone=true) (aO:Extern.findNext fn=none)
 (he:Extern.find fn=some (Extern.SlicesOverlaps.overlaps #[t,t] #[tR])) (hu:c.P.underlying t=some (.slice e)) (ft:bA c.P e α)
 (an:bb c E L x (.eq (.slice (some ⟨q,P9,none⟩) py P8))) (a4:bb c E L y (.eq (.slice (some ⟨p,jB,none⟩) hM jP)))
 (aj:L[i]? =some ⟨some p,.row T xs cap⟩) (aF:L[j]? =some ⟨some q,.row U vs cap'⟩) (DJ:p≠q) (zN:0 < cap):
 b3 c E L ⟨d,.call ⟨.value (.func f),#[x,y],#[t,t]⟩,ty,pos,af,g⟩ (.of false):= .pure fun a W s=>by
 obtain⟨o,bo,cs,rfl,au,aT,bq,cx⟩:=s.own _ (List.mem_of_getElem? aj)
 obtain⟨o',rn,dK,rfl,aV,bu,cb,du⟩:=s.own _ (List.mem_of_getElem? aF)
 obtain⟨gd,dW,eF⟩:=ft.info
 have J:a.eval x=_:=an a W s
 have ab:a.eval y=_:=a4 a W s
 have ja:ah.size α≠0:=fun h=>by rw [h] at zW; cases zW
 have dk:cs.size≠0:=by rw [au]; exact Nat.mul_ne_zero (by omega) ja
 have ZF:=Lib.run_overlaps_apart (P:=c.P) W t tR e hu (ah.size α) (fun w=>by simp [Go.sizeOf,typeInfo,dW,eF]) ⟨q,P9,none⟩ ⟨p,jB,none⟩ py P8 hM jP (fun h=>DJ h.symm) U T dK.size cs.size
  (by simp [World.shape?,rn]) (by simp [World.shape?,bo]) dk (by simp [World.frozen?,rn]) (by simp [World.frozen?,rn])
 refine⟨.bool false,?_,by exact of_bool.2 rfl⟩
 have bP:a.eval (.func f)= .func (.func f) #[] #[]:=rfl
 simp [execOp,resolve,Deferred.ofValue,bP,invoke,run_callFunc_extern a7 Xk hb aO he,J,ab,ZF]
theorem ak.Ym {α:Type} [ah α] {rest:List Oper} {bc i e bytes cap m k p T:Nat} {Qa:IntKind} {xs:List α} {z:α} (hu:c.P.underlying t=some (.slice e)) (j6:c.P.underlying t2=some (.int Qa)) (ft:bA c.P e α) (gl:cF c.P e z) (zW:Nat.beq (ah.size α) 0=false)
 (uU:(c.P.info? e).map (·.bytes)=some bytes) (an:bb c E L x (.eq (iw (some p) 0 m cap (ah.size α)))) (a4:bb c E L y (.of (k:Int))) (av:L[i]? =some ⟨some p,.row T xs cap⟩) (hm:m≤xs.length) (aq:0 < k) (bZ:cap < m + k)
 (uP:(m + k) * bytes≤140737488355328) (mA:m + k≤maxLen) (aO:Nat.blt bc c.n=true)
 (mH:∀ q cap',ak c ops Q rest ((bc,.eq (aZ (some q) (m + k) cap')) :: E) (⟨some q,.row e (xs.take m ++ List.replicate k z) cap'⟩ :: L)):
 ak c ops Q (⟨some bc,.call ⟨.builtin .append,#[x,y],#[t,t2]⟩,ty,pos,af,none⟩ :: rest) E L:=fun a W s=>by
 obtain⟨gd,ec,dW,dh,qa⟩:=gl.zero
 have mv:gd.size=ah.size α:=by
  obtain⟨i2,J,ab⟩:=ft.info
  rw [dW] at J; cases J; exact ab
 have Gk:gd.bytes=bytes:=by simpa [dW] using uU
 subst Gk
 have uV:ec.cells.size=ah.size α:=by have:=ah.len (qa [] W).2; simpa using this
 have ja:ah.size α≠0:=fun h=>by rw [h] at zW; cases zW
 have jC:bc < c.n:=by simpa using aO
 have J:a.eval x= .slice (some ⟨p,0,none⟩) m cap:=by
  have:=an a W s
  rw [yD] at this
  exact this
 obtain⟨o,bo,cs,rfl,au,aT,bq,cx⟩:=s.own _ (List.mem_of_getElem? av)
 have pd:maxLen=9223372036854775807:=rfl
 have ab:a.eval y= .int .i64 k:=of_int.1 (a4 a W s)
 have YV:=Fq hm (⟨cs,rfl,au,aT,bq,cx⟩:(dB.row T xs cap).holds (aP L ++ c.b2) W (.cells cs T (0,0)))
 obtain⟨ZE,ay,_,_,_,Io⟩:=YV
 cases ay
 have HA:(xs.take m).length=m:=by rw [List.length_take]; omega
 rw [HA] at Io
 have uq:∀ (j:Nat) u,(cs.toList.take (m * ah.size α))[j]? =some u→W.drew.cell? ((⟨p,0,none⟩:Addr).add j)=some u:=by
  intro j u nP
  rw [List.getElem?_take] at nP
  split at nP
  ·rw [jk,Nat.zero_add,cell_of_row W.drew p j cs T (0,0) bo]; simpa using nP
  ·cases nP
 have hold:=run_loadCells_list (P:=c.P) W.drew ⟨p,0,none⟩ _ uq
 rw [Io.1,HA] at hold
 have aQ:=Lib.run_append_grow_zeros (P:=c.P) W t t2 ty e gd ec .i64 Qa hu j6 dW dh (some ⟨p,0,none⟩) m cap _ (by simp only [Builtin.firstCells]; rw [mv]; exact hold) k aq (by omega) bZ (by omega)
  (by have:k * gd.bytes≤ (m + k) * gd.bytes:=Nat.mul_le_mul_right _ (by omega)
      omega) (growslice_fits bZ uP)
 have Ai:=grownCap_ge W (m + k) cap e
 have hle:=grownCap_le_maxLen W (m + k) cap e mA
 have DO:=qa (aP L ++ c.b2) W
 have pj:=yF DO k ja
 have Ig:Builtin.zeroCells ec.cells k=(Array.range (k * ah.size α)).map (ec.cells[· % ec.cells.size]!):=by rw [Builtin.zeroCells,uV]
 rw [← Ig] at pj
 have wW:=(r4 Io pj).mono (Ext.dw (Fr.drew W))
 have hlen:(xs.take m ++ List.replicate k z).length=m + k:=by rw [List.length_append,HA,List.length_replicate]
 have kQ:=(s.world (Fr.drew W)).alloc (o:= .cells ((cs.toList.take (m * ah.size α)).toArray ++ Builtin.zeroCells ec.cells k ++ Builtin.zeroCells ec.cells (grownCap W (m + k) cap e - (m + k))) e)
  (cp:= .row e (xs.take m ++ List.replicate k z) (grownCap W (m + k) cap e))
  (FT (T:=e) wW (ds:=(Builtin.zeroCells ec.cells (grownCap W (m + k) cap e - (m + k))).toList) (by rw [Array.length_toList,size_zeroCells,uV,hlen]) (by rw [hlen]; exact Ai) hle (by simp))
 refine ib rfl (R:=fun v hD=>v=aZ (some W.heap.size) (m + k) (grownCap W (m + k) cap e)∧hD=W.drew.alloc (.cells ((cs.toList.take (m * ah.size α)).toArray ++ Builtin.zeroCells ec.cells k ++ Builtin.zeroCells ec.cells (grownCap W (m + k) cap e - (m + k))) e)) (.mo ?_ ⟨rfl,rfl⟩) fun v hD ⟨a3,hw⟩=> ?_
 ·simp only [execOp,resolve,invoke,builtin,Sem.run_bind,Sem.run_pure,Result.andThen_ok]
  have ay:(#[x,y]:Array Operand).map a.eval= #[a.eval x,a.eval y]:=by simp
  rw [ay,J,ab,aQ]
  rfl
 ·subst a3
  subst hw
  exact mH _ _ _ _ (kQ.put jC rfl)
theorem ag.some {code:Code} {i T cap:Nat} {key:Option Nat} {α:Type} [ah α] {xs:List α} (av:L[i]? =Option.some ⟨key,.row T xs cap⟩) (an:0 < xs.length) (k:∀ p,key=Option.some p→xs.length≤cap→cap≤maxLen→ag c Q code E L):ag c Q code E L:=fun a W s=>by
 obtain⟨p,cs,rfl,eA,au,aT,bq,cx⟩:=s.rowAt av an
 exact k p rfl aT bq a W s
theorem ag.apart {code:Code} {p q:Nat} {cp cp':dB} {aC:List aN} (av:L=⟨Option.some p,cp⟩ :: ⟨Option.some q,cp'⟩ :: aC) (k:p≠q→ag c Q code E L):ag c Q code E L:=fun a W s=>by
 refine k (fun e=> ?_) a W s
 have:=s.nodup
 rw [av,e] at this
 simp [aP] at this
theorem Fu {α γ:Type} [ah α] [ah γ] {A W} {cs:List Value} {x:α} {os:List (Nat × Value)} {u:Value} (l:aI α (List γ)) (h:kL A W cs x os) (hq:(l.off,u)∈os):kL A W cs (l.set x []) os:=by
 refine⟨?_,h.2⟩
 have J:=l.kG (ds:= [jI]) (g:=([]:List γ)) h.1 (show ah.rep A W [jI] ([]:List γ) from by
  have:=(mj (A:=A) (W:=W) (v:=jI) (xs:=([]:List γ))).2 (.inl ⟨rfl,rfl⟩)
  exact this.2)
 have hb:(blank os cs)[l.off]? =some jI:=by
  rw [pG,if_pos (List.any_eq_true.2 ⟨_,hq,by simp⟩),(h.2 _ hq).1]; rfl
 have cv:l.off < (blank os cs).length:=(List.getElem?_eq_some_iff.1 hb).1
 have he:(blank os cs).take l.off ++ [jI] ++ (blank os cs).drop (l.off + ah.size (List γ))=blank os cs:=by
  show(blank os cs).take l.off ++ [jI] ++ (blank os cs).drop (l.off + 1)=blank os cs
  have ab:(blank os cs)[l.off]=jI:=(List.getElem?_eq_some_iff.1 hb).2
  rw [← ab,List.append_assoc,List.singleton_append,List.getElem_cons_drop,List.take_append_drop]
 rwa [he] at J
theorem ak.HN {kf:List Oper} {p:Nat} {β γ:Type} [ah β] [ah γ] {b b':β} {os:List (Nat × Value)} {u:Value} (l:aI β (List γ)) (i q:Nat) (av:L[i]? =some ⟨some p,.cC b os⟩) (hq:os[q]? =some (l.off,u)) (hb:l.set b []=b')
 (k:ak c ops Q kf E (L.set i ⟨some p,.cC b' os⟩)):ak c ops Q kf E L:=fun a W s=>
 k a W (s.again av (fun A W o ⟨cs,T,J,ab⟩=>⟨cs,T,J,hb ▸ Fu l ab (List.mem_of_getElem? hq)⟩) id)
theorem ae.HN {z:Exit} {p:Nat} {β γ:Type} [ah β] [ah γ] {b b':β} {os:List (Nat × Value)} {u:Value} (l:aI β (List γ)) (i q:Nat) (av:L[i]? =some ⟨some p,.cC b os⟩) (hq:os[q]? =some (l.off,u)) (hb:l.set b []=b')
 (k:ae c Q z E (L.set i ⟨some p,.cC b' os⟩)):ae c Q z E L:=fun a W s=>
 k a W (s.again av (fun A W o ⟨cs,T,J,ab⟩=>⟨cs,T,J,hb ▸ Fu l ab (List.mem_of_getElem? hq)⟩) id)
end
def zP {α:Type} (bytes:Nat) (xs:List α) (i:Int) (vs:List α):Option (List α):=
 if 0≤i∧i≤xs.length∧0 < vs.length∧ (xs.length + vs.length) * bytes≤140737488355328∧xs.length + vs.length≤maxLen then some (xs.take i.toNat ++ vs ++ xs.drop i.toNat) else none
theorem S1 {α:Type} {bytes:Nat} {xs vs r:List α} {i:Int} (h:zP bytes xs i vs=some r):
 ∃ k:Nat,i=k∧k≤xs.length∧0 < vs.length∧ (xs.length + vs.length) * bytes≤140737488355328∧xs.length + vs.length≤maxLen∧r=xs.take k ++ vs ++ xs.drop k:=by
 unfold zP at h
 split at h
 ·rename_i ao
  obtain⟨J,ab,aE,aW,aX⟩:=ao
  exact⟨i.toNat,by omega,by omega,aE,aW,aX,(by simp only [Option.some.injEq] at h; exact h.symm)⟩
 ·cases h
end Gv
namespace Gv
open Go
set_option linter.unusedVariables false
set_option linter.unusedSimpArgs false
section
variable {c:c8} {E:List (Nat × I)} {L:List aN} {ops:Array Oper} {Q:Exit→Act→World→Prop} {rest:List Oper} {o:Oper} {bc:Nat}
variable {ty:TypeId} {pos:String} {af:Array Edge} {x y:Operand} {t t2:TypeId}
theorem aA {id:Nat} {l:List Oper} {y:Code} (h:ak c l.toArray (Exit.then (c.wp y Q) Q) l E L):ag c Q (.seq (.region id l.toArray false) y) E L:= .seq (.b1 h)
theorem aJ {y:Code} (h:ag c Q y E L):ak c ops (Exit.then (c.wp y Q) Q) [] E L:= .nil (.next h)
theorem bx {y z:Code} (h:ag c (Exit.then (c.wp z Q) Q) y E L):ak c ops (Exit.then (c.wp (Code.seq y z) Q) Q) [] E L:= .nil (.next (.seq h))
theorem bE {id:Nat} {l:List Oper} {z:Code} (h:ak c l.toArray (Exit.then (c.wp z Q) Q) l E L):ak c ops (Exit.then (c.wp (Code.seq (.region id l.toArray false) z) Q) Q) [] E L:= .nil (.next (.seq (.b1 h)))
theorem cn {y:Code} (h:ag c Q y E L):ag c (Exit.then (c.wp y Q) Q) .skip E L:= .skip (.next h)
theorem ar {α β:Type} {m:Option α} {f:α→Option β} {r:β} (h:m.bind f=some r):∃ y,m=some y∧f y=some r:=bind_some h
theorem b0 {R:Type} {b:Bool} {A B:Option R} {r:R} {y z:Code} (h:cond b A B=some r) (cc:A=some r→ag c Q y E L) (a7:B=some r→ag c Q z E L)
 (al:bb c E L x (.of b):=by first | exact ad rfl | exact fN _):ag c Q (.cond x y z) E L:=
 .cond al (fun hb=>cc (gK hb h)) (fun hb=>a7 (gL hb h))
theorem bh {τ:I} (h:b3 c E L o τ) (k:ak c ops Q rest ((bc,τ) :: E) L) (bZ:o.guard=none:=by rfl) (hd:o.dst=some bc:=by rfl) (aO:Nat.blt bc c.n=true:=by rfl):ak c ops Q (o :: rest) E L:= .v h bZ hd aO k
theorem ax {τ:I} (k:ak c ops Q rest ((bc,τ) :: E) L) (an:bb c E L x τ:=by first | exact ad rfl | exact bF _ | exact fN _ | exact dC _) (aO:Nat.blt bc c.n=true:=by rfl):
 ak c ops Q (⟨some bc,.move x,ty,pos,af,none⟩ :: rest) E L:= .v (cN an) rfl rfl aO k
theorem aH {τ:I} (k:ak c ops Q rest ((bc,τ) :: E) L) (an:bb c E L x τ:=by first | exact ad rfl | exact bF _ | exact fN _ | exact dC _) (aO:Nat.blt bc c.n=true:=by rfl):
 ak c ops Q (⟨some bc,.assign x,ty,pos,af,none⟩ :: rest) E L:= .v (eC an) rfl rfl aO k
theorem aY {σ τ:I} (h:bb c E L x σ→b3 c E L o τ) (k:ak c ops Q rest ((bc,τ) :: E) L) (an:bb c E L x σ:=by first | exact ad rfl | exact bF _ | exact fN _ | exact dC _)
 (bZ:o.guard=none:=by rfl) (hd:o.dst=some bc:=by rfl) (aO:Nat.blt bc c.n=true:=by rfl):ak c ops Q (o :: rest) E L:= .v (h an) bZ hd aO k
theorem a5 {σ pn τ:I} (h:bb c E L x σ→bb c E L y pn→b3 c E L o τ) (k:ak c ops Q rest ((bc,τ) :: E) L) (an:bb c E L x σ:=by first | exact ad rfl | exact bF _ | exact fN _ | exact dC _)
 (a4:bb c E L y pn:=by first | exact ad rfl | exact bF _ | exact fN _ | exact dC _)
 (bZ:o.guard=none:=by rfl) (hd:o.dst=some bc:=by rfl) (aO:Nat.blt bc c.n=true:=by rfl):ak c ops Q (o :: rest) E L:= .v (h an a4) bZ hd aO k
theorem dm {α:Type} [ah α] {a b:α} (e:some a=some b) (h:b3 c E L o (.of a)) (k:ak c ops Q rest ((bc,.of b) :: E) L) (bZ:o.guard=none:=by rfl) (hd:o.dst=some bc:=by rfl) (aO:Nat.blt bc c.n=true:=by rfl):
 ak c ops Q (o :: rest) E L:= .v (h.as (aG e)) bZ hd aO k
theorem dG {i:Nat} {τs:List I} {τ:I} (k:ak c ops Q rest ((bc,τ) :: E) L) (an:bb c E L x (.eI τs):=by exact ad rfl) (aj:τs[i]? =some τ:=by rfl) (aO:Nat.blt bc c.n=true:=by rfl):
 ak c ops Q (⟨some bc,.extract x i,ty,pos,af,none⟩ :: rest) E L:= .v (oo an aj) rfl rfl aO k
theorem b5 {p o:Nat} {β γ:Type} [ah β] [ah γ] {b:β} (j:Nat) (l:aI β γ) (en:bA c.P t γ) (k:ak c ops Q rest ((bc,.of (l.get b)) :: E) L) (an:bb c E L x (.eq (.pointer (some ⟨p,o,none⟩))):=by exact ad rfl)
 (av:L[j]? =some ⟨some p,.var b⟩:=by rfl) (bo:o=l.off:=by rfl) (aO:Nat.blt bc c.n=true:=by rfl):ak c ops Q (⟨some bc,.load t x,ty,pos,af,none⟩ :: rest) E L:= .v (fb l en an av bo rfl) rfl rfl aO k
theorem bY {p:Nat} {β:Type} [ah β] {b:β} (j:Nat) (en:bA c.P t β) (k:ak c ops Q rest ((bc,.of b) :: E) L) (an:bb c E L x (.eq (.pointer (some ⟨p,0,none⟩))):=by exact ad rfl)
 (av:L[j]? =some ⟨some p,.var b⟩:=by rfl) (aO:Nat.blt bc c.n=true:=by rfl):ak c ops Q (⟨some bc,.load t x,ty,pos,af,none⟩ :: rest) E L:= .v (fb (aI.id β) en an av rfl rfl) rfl rfl aO k
theorem O6 {p o:Nat} {β γ:Type} [ah β] [ah γ] {b:β} {os:List (Nat × Value)} (j:Nat) (l:aI β γ) (en:bA c.P t γ) (k:ak c ops Q rest ((bc,.of (l.get b)) :: E) L) (an:bb c E L x (.eq (.pointer (some ⟨p,o,none⟩))):=by exact ad rfl)
 (av:L[j]? =some ⟨some p,.cC b os⟩:=by rfl) (bo:o=l.off:=by rfl) (a9:sk os l.off (ah.size γ)=true:=by rfl) (aO:Nat.blt bc c.n=true:=by rfl):ak c ops Q (⟨some bc,.load t x,ty,pos,af,none⟩ :: rest) E L:= .v (FF l en an av bo rfl a9) rfl rfl aO k
theorem uO {s f o:Nat} {β γ:Type} [ah β] [ah γ] {b:β} (l:aI β γ) (fd:cl c.P s f o) (k:ak c ops Q rest ((bc,.ptr (l.get b)) :: E) L) (an:bb c E L x (.ptr b):=by exact ad rfl) (bo:l.off=o:=by rfl) (aO:Nat.blt bc c.n=true:=by rfl):
 ak c ops Q (⟨some bc,.fieldAddr s x f,ty,pos,af,none⟩ :: rest) E L:= .v (zk l fd an bo rfl) rfl rfl aO k
theorem fq {α:Type} [ah α] [Inhabited α] {xs:List α} {e:TypeId} {i:Int} {j:Nat} (aq:idx xs.length i=some j) (hu:c.P.underlying t=some (.slice e)) (ft:bA c.P e α) (k:ak c ops Q rest ((bc,.ptr (aB xs j)) :: E) L)
 (an:bb c E L x (.of xs):=by exact ad rfl) (a4:bb c E L y (.of i):=by first | exact ad rfl | exact bF _) (aO:Nat.blt bc c.n=true:=by rfl):
 ak c ops Q (⟨some bc,.indexAddr t x y,ty,pos,af,none⟩ :: rest) E L:= .v (oZ hu ft an a4 (bC aq)) rfl rfl aO k
theorem pb {b e:Bool} {p:Prop} (k:ak c ops Q rest ((bc,.of (b || e)) :: E) L) (an:bb c E L x (.of b):=by exact ad rfl) (a4:bb c E L y (.cond p (.of e)):=by exact ad rfl) (hp:b=false→p:=by exact fun h=>h) (aO:Nat.blt bc c.n=true:=by rfl):
 ak c ops Q (⟨some bc,.pick x (.const (.bool true)) y,ty,pos,af,none⟩ :: rest) E L:= .v (sF an a4 hp) rfl rfl aO k
theorem j4 {b e:Bool} {p:Prop} (k:ak c ops Q rest ((bc,.of (b && e)) :: E) L) (an:bb c E L x (.of b):=by exact ad rfl) (a4:bb c E L y (.cond p (.of e)):=by exact ad rfl) (hp:b=true→p:=by exact fun h=>h) (aO:Nat.blt bc c.n=true:=by rfl):
 ak c ops Q (⟨some bc,.pick x y (.const (.bool false)),ty,pos,af,none⟩ :: rest) E L:= .v (oh an a4 hp) rfl rfl aO k
theorem eN {τ:I} {j g:Nat} {b want:Bool} (h:b=want→b3 c E L o τ) (k:ak c ops Q rest ((bc,.cond (b=want) τ) :: E) L) (bZ:o.guard=some (j,want):=by rfl) (aF:(ops[j]?).bind (·.dst)=some g:=by rfl) (al:look E g=some (.of b):=by rfl)
 (hd:o.dst=some bc:=by rfl) (aO:Nat.blt bc c.n=true:=by rfl):ak c ops Q (o :: rest) E L:= .g h bZ aF al hd aO k
theorem eg {σ τ:I} {j g:Nat} {b want:Bool} (h:bb c E L x σ→b3 c E L o τ) (k:ak c ops Q rest ((bc,.cond (b=want) τ) :: E) L)
 (an:b=want→bb c E L x σ:=by first | exact fun hb=>ct rfl hb | exact fun _=>ad rfl | exact fun _=>bF _ | exact fun _=>fN _)
 (bZ:o.guard=some (j,want):=by rfl) (aF:(ops[j]?).bind (·.dst)=some g:=by rfl) (al:look E g=some (.of b):=by rfl)
 (hd:o.dst=some bc:=by rfl) (aO:Nat.blt bc c.n=true:=by rfl):ak c ops Q (o :: rest) E L:= .g (fun hb=>h (an hb)) bZ aF al hd aO k
theorem k7 {σ pn τ:I} {j g:Nat} {b want:Bool} (h:bb c E L x σ→bb c E L y pn→b3 c E L o τ) (k:ak c ops Q rest ((bc,.cond (b=want) τ) :: E) L)
 (an:b=want→bb c E L x σ:=by first | exact fun hb=>ct rfl hb | exact fun _=>ad rfl | exact fun _=>bF _ | exact fun _=>fN _)
 (a4:b=want→bb c E L y pn:=by first | exact fun hb=>ct rfl hb | exact fun _=>ad rfl | exact fun _=>bF _ | exact fun _=>fN _)
 (bZ:o.guard=some (j,want):=by rfl) (aF:(ops[j]?).bind (·.dst)=some g:=by rfl) (al:look E g=some (.of b):=by rfl)
 (hd:o.dst=some bc:=by rfl) (aO:Nat.blt bc c.n=true:=by rfl):ak c ops Q (o :: rest) E L:= .g (fun hb=>h (an hb) (a4 hb)) bZ aF al hd aO k
theorem ch {α:Type} [ah α] {z:α} (gl:cF c.P t z) (k:∀ p,ak c ops Q rest ((bc,.eq (.pointer (some ⟨p,0,none⟩))) :: E) (⟨some p,.var z⟩ :: L)) (aO:Nat.blt bc c.n=true:=by rfl):
 ak c ops Q (⟨some bc,.alloc t,ty,pos,af,none⟩ :: rest) E L:= .alloc gl aO k
theorem ca {α:Type} [ah α] {z:α} (k:∀ p,ak c ops Q rest ((bc,.eq (.pointer (some ⟨p,0,none⟩))) :: E) (⟨some p,.var z⟩ :: L)) (an:bb c E L x (.of z):=by first | exact ad rfl | exact bF _ | exact fN _) (aO:Nat.blt bc c.n=true:=by rfl):
 ak c ops Q (⟨some bc,.box t x,ty,pos,af,none⟩ :: rest) E L:= .box an aO k
theorem jt {p o:Nat} {β γ:Type} [ah β] [ah γ] {b:β} {v:γ} (i:Nat) (l:aI β γ) (en:bA c.P t γ) (k:ak c ops Q rest E (L.set i ⟨some p,.var (l.set b v)⟩)) (an:bb c E L x (.eq (.pointer (some ⟨p,o,none⟩))):=by exact ad rfl)
 (a4:bb c E L y (.of v):=by first | exact ad rfl | exact bF _ | exact fN _ | exact look_nil | exact dC _) (av:L[i]? =some ⟨some p,.var b⟩:=by rfl) (bo:o=l.off:=by rfl):
 ak c ops Q (⟨none,.store t x y,ty,pos,af,none⟩ :: rest) E L:= .store l en an a4 av bo rfl k
theorem bS {p:Nat} {β:Type} [ah β] {b v:β} (i:Nat) (en:bA c.P t β) (k:ak c ops Q rest E (L.set i ⟨some p,.var v⟩)) (an:bb c E L x (.eq (.pointer (some ⟨p,0,none⟩))):=by exact ad rfl)
 (a4:bb c E L y (.of v):=by first | exact ad rfl | exact bF _ | exact fN _ | exact look_nil | exact dC _) (av:L[i]? =some ⟨some p,.var b⟩:=by rfl):
 ak c ops Q (⟨none,.store t x y,ty,pos,af,none⟩ :: rest) E L:= .store (aI.id β) en an a4 av rfl rfl k
theorem sP {p o:Nat} {β γ:Type} [ah β] [ah γ] {b b':β} {v:γ} (i:Nat) (l:aI β γ) (en:bA c.P t γ) (k:ak c ops Q rest E (L.set i ⟨some p,.var b'⟩)) (an:bb c E L x (.eq (.pointer (some ⟨p,o,none⟩))):=by exact ad rfl)
 (a4:bb c E L y (.of v):=by first | exact ad rfl | exact bF _ | exact fN _ | exact look_nil | exact dC _) (av:L[i]? =some ⟨some p,.var b⟩:=by rfl) (bo:o=l.off:=by rfl) (hb:some (l.set b v)=some b'):
 ak c ops Q (⟨none,.store t x y,ty,pos,af,none⟩ :: rest) E L:= .store l en an a4 av bo (aG hb) k
theorem cH {f:FuncId} {xs:List Operand} {ats:Array TypeId} {τs:List I} {ρ:I} (eo:bH c.P f) (h:bn c.P f τs ρ) (k:ak c ops Q rest ((bc,ρ) :: E) L)
 (an:hO c E L xs τs:=by repeat (first | exact trivial | refine⟨ad rfl,?_⟩ | refine⟨bF _,?_⟩ | refine⟨fN _,?_⟩ | refine⟨look_nil,?_⟩ | refine⟨dC _,?_⟩)) (aO:Nat.blt bc c.n=true:=by rfl):
 ak c ops Q (⟨some bc,.call ⟨.value (.func f),xs.toArray,ats⟩,ty,pos,af,none⟩ :: rest) E L:= .v (h1 eo h an) rfl rfl aO k
theorem eT {f:FuncId} {xs:List Operand} {ats:Array TypeId} {τs:List I} {δ:Type} {ρ:δ→I} {Lo:δ→List aN} (n:Nat) (eo:bH c.P f) (h:cG c.P f τs (L.take n) ρ Lo)
 (k:∀ q,ak c ops Q rest ((bc,ρ q) :: E) (Lo q ++ L.drop n)) (an:hO c E L xs τs:=by repeat (first | exact trivial | refine⟨ad rfl,?_⟩ | refine⟨bF _,?_⟩ | refine⟨fN _,?_⟩ | refine⟨look_nil,?_⟩ | refine⟨pI,?_⟩ | refine⟨dC _,?_⟩)) (aO:Nat.blt bc c.n=true:=by rfl):
 ak c ops Q (⟨some bc,.call ⟨.value (.func f),xs.toArray,ats⟩,ty,pos,af,none⟩ :: rest) E L:=by
 have e:=List.take_append_drop n L
 have:=ak.lX (ty:=ty) (pos:=pos) (af:=af) (ats:=ats) (xs:=xs) (Lin:=L.take n) (Lr:=L.drop n) (E:=E) (Q:=Q) (ops:=ops) eo h (by rw [e]; exact an) aO k
 rwa [e] at this
theorem jv {α:Type} [ah α] {e bytes cap:Nat} {key:Option Nat} {xs ys r:List α} {z:α} (j:Nat) (hu:c.P.underlying t=some (.slice e)) (ft:bA c.P e α) (gl:cF c.P e z) (h:fP bytes xs ys=some r)
 (k:∀ o7 cap',ak c ops Q rest ((bc,.eq (aZ o7 r.length cap')) :: E) (L.set j ⟨o7,.row e r cap'⟩)) (uU:(c.P.info? e).map (·.bytes)=some bytes:=by kernel_rfl)
 (hs:bb c E L x (.eq (aZ key xs.length cap)):=by first | exact ad rfl | exact pI) (av:L[j]? =some ⟨key,.row e xs cap⟩:=by rfl) (a4:bb c E L y (.of ys):=by exact ad rfl) (aO:Nat.blt bc c.n=true:=by rfl):
 ak c ops Q (⟨some bc,.call ⟨.builtin .append,#[x,y],#[t,t]⟩,ty,pos,af,none⟩ :: rest) E L:= .app hu ft gl uU hs av a4 h aO k
theorem iY {place:Nat→Option (Nat × Nat)} {β:Type} [ah β] {b b':β} {γ:Type} [ah γ] {v:γ} {i:Nat} {r:List (Nat × Operand)} (l:aI β γ) (k:pS c E L place (l.set b v) r b')
 (hp:place i=some (l.off,ah.size γ):=by rfl) (an:bb c E L x (.of v):=by first | exact ad rfl | exact bF _ | exact fN _ | exact look_nil | exact dC _):pS c E L place b ((i,x) :: r) b':= .cons l hp an rfl k
theorem hH {β:Type} [ah β] {z b:β} {bs:List (Nat × Operand)} {pl:Array (Nat × Nat)} (AW:ho c.P t pl) (gl:cF c.P t z) (Qb:β) (a7:pS c E L (pl[·]?) z bs b) (k:ak c ops Q rest ((bc,.of Qb) :: E) L) (a9:ah.agg β=true:=by rfl) (hb:b=Qb:=by rfl) (aO:Nat.blt bc c.n=true:=by rfl):
 ak c ops Q (⟨some bc,.build t bs.toArray,ty,pos,af,none⟩ :: rest) E L:= .v ((cU a9 AW gl a7).as hb) rfl rfl aO k
theorem fQ {α:Type} [ah α] {e n:Nat} {z:α} {bs:List (Nat × Operand)} (r:List α) (hu:c.P.underlying t=some (.slice e)) (ft:bA c.P e α) (gl:cF c.P e z) (k:ak c ops Q rest ((bc,.of r) :: E) L)
 (a7:mT c E L (List.replicate n z) bs r:=by repeat (first | exact mT.nil | refine mT.cons (by simp) (ad rfl) ?_ | refine mT.cons (by simp) (bF _) ?_ | refine mT.cons (by simp) (fN _) ?_ | refine mT.cons (by simp) (dC _) ?_))
 (hs:Nat.beq (ah.size α) 0=false:=by rfl) (ph:Nat.ble (n * ah.size α) 16777216=true:=by rfl) (aO:Nat.blt bc c.n=true:=by rfl):
 ak c ops Q (⟨some bc,.buildSlice t n bs.toArray,ty,pos,af,none⟩ :: rest) E L:= .v (jU hu ft gl hs ph a7) rfl rfl aO k
inductive lT (E:List (Nat × I)):List Nat→List (Nat × I)→Prop
 | nil:lT E [] []
 | cons {t:Nat} {g8:List Nat} {τ:I} {xh:List (Nat × I)} :look E t=some τ→lT E g8 xh→lT E (t :: g8) ((t,τ) :: xh)
theorem lT.le:∀ {g8:List Nat} {iN:List (Nat × I)},lT E g8 iN→hn E iN
 | _,_,.nil=> .nil
 | _,_,.cons h k=> .same h k.le
theorem lI {code:Code} {iN:List (Nat × I)} (g8:List Nat) (k:ag c Q code iN L) (aL:lT E g8 iN:=by repeat (first | exact lT.nil | (apply lT.cons; rfl))):ag c Q code E L:= .le aL.le k
theorem l8 {z:Exit} {iN:List (Nat × I)} (g8:List Nat) (k:ae c Q z iN L) (aL:lT E g8 iN:=by repeat (first | exact lT.nil | (apply lT.cons; rfl))):ae c Q z E L:= .le aL.le k
theorem dj {z:Exit} {E':List (Nat × I)} {aC:List aN} (n:Nat) (k:ae c Q z E' aC) (av:L.drop n=aC:=by rfl) (h:hn E E':=by repeat (first | exact hn.nil | refine hn.same rfl ?_)):ae c Q z E L:= .meet n av h k
theorem dO {σ ε γ δ:Type} {E':σ→γ→List (Nat × I)} {aC:σ→γ→List aN} {xs:ε→Exit} {fF:ε→δ→List (Nat × I)} {Lx:ε→δ→List aN} {s:σ} (g:γ) (n:Nat) (av:L.drop n=aC s g:=by rfl)
 (h:hn E (E' s g):=by repeat (first | exact hn.nil | refine hn.same rfl ?_)):ae c (w9 c E' aC xs fF Lx (.inl s)) .normal E L:= .Vk g n av h
theorem c6 {σ ε γ δ:Type} {E':σ→γ→List (Nat × I)} {aC:σ→γ→List aN} {xs:ε→Exit} {fF:ε→δ→List (Nat × I)} {Lx:ε→δ→List aN} {e:ε} {z:Exit} (g:δ) (n:Nat) (an:z=xs e:=by rfl) (aO:z≠ .normal:=by simp) (av:L.drop n=Lx e g:=by rfl)
 (h:hn E (fF e g):=by repeat (first | exact hn.nil | refine hn.same rfl ?_)):ae c (w9 c E' aC xs fF Lx (.inr e)) z E L:= .Vl g n an aO av h
theorem dF {t:Nat} {p:Nat} {α:Type} [ah α] {v:α} (i:Nat) (en:bA c.P ty α) (h:look E t=some (.eq (.pointer (some ⟨p,0,none⟩))):=by rfl) (av:L[i]? =some ⟨some p,.var v⟩:=by rfl):rH c E L (.cell t ty) (.of v):=YM en h av
theorem c3 {fn:Func} {t:Nat} {τ:I} (aQ:fn.results= #[.tmp t]:=by rfl) (h:look E t=some τ:=by rfl) (h4:c.ds= []:=by rfl):ae c (bodyPost c.P fn (uI c τ)) .ret E L:= .gh aQ (fw h) h4
theorem pa {fn:Func} {t u:Nat} {τ pg:I} (aQ:fn.results= #[.tmp t,.tmp u]:=by rfl) (h:look E t=some τ:=by rfl) (ab:look E u=some pg:=by rfl) (h4:c.ds= []:=by rfl):ae c (bodyPost c.P fn (uI c (.eI [τ,pg]))) .ret E L:= .mr aQ (fw h) (fw ab) h4
theorem k6 {fn:Func} {t:Nat} {τ:I} {δ:Type} {ρ:δ→I} {Lo:δ→List aN} (bc:δ) (hs:(Lo bc).Sublist L:=by repeat (first | exact List.nil_sublist _ | refine List.Sublist.cons_cons _ ?_)) (aQ:fn.results= #[.tmp t]:=by rfl) (h:look E t=some τ:=by rfl) (uW:ρ bc=τ:=by rfl) (h4:c.ds= []:=by rfl):
 ae c (bodyPost c.P fn (jV c.X c.b2 c.iD ρ Lo)) .ret E L:= .ha bc hs aQ uW (gf h) h4
def oA:List aN→List (Nat × aN)→List aN
 | L,[]=>L
 | L,(i,e) :: r=>oA (L.set i e) r
inductive pz:List aN→List aN→Prop
 | nil:pz [] []
 | cons {e:aN} {r s:List aN} :pz r s→pz (e :: r) (e :: s)
theorem pz.eq:∀ {l m:List aN},pz l m→l=m
 | _,_,.nil=>rfl
 | _,_,.cons h=>by rw [h.eq]
theorem eD {σ ε γ δ:Type} {body:Code} {N:Nat} {b:σ→Option (σ ⊕ ε)} {cf:σ} {e:ε} {iN:List (Nat × I)} {gU:List aN} (al:dn N b cf=some e) (g8:List Nat) (u:σ→γ→List (Nat × I)) (ul:σ→γ→List (Nat × aN)) (xs:ε→Exit)
 (Jf:ε→δ→List (Nat × I)) (Ip:ε→δ→List (Nat × aN)) (g0:γ)
 (qZ:∀ s r,b s=some r→ ∀ g,ag c (w9 c (fun s g=>u s g ++ iN) (fun s g=>oA gU (ul s g)) xs (fun e d=>Jf e d ++ iN) (fun e d=>oA gU (Ip e d)) r) body (u s g ++ iN) (oA gU (ul s g)))
 (nw:∀ g,ae c Q (xs e) (Jf e g ++ iN) (oA gU (Ip e g)))
 (uR:pz L gU:=by repeat (first | exact pz.nil | apply pz.cons))
 (ZG:lT E g8 iN:=by repeat (first | exact lT.nil | (apply lT.cons; rfl))) (aL:hn E (u cf g0 ++ iN):=by repeat (first | exact hn.nil | refine hn.same rfl ?_)) (av:gU=oA gU (ul cf g0):=by rfl):ag c Q (.loop body) E L:=
 ag.zp al (fun s g=>u s g ++ iN) (fun s g=>oA gU (ul s g)) xs (fun e d=>Jf e d ++ iN) (fun e d=>oA gU (Ip e d)) g0 (uR.eq.trans av) aL qZ nw
theorem hQ {γ:Type} {b:Bool} {y z:Code} {iN:List (Nat × I)} {gU:List aN} (g8:List Nat) (u:γ→List (Nat × I)) (ul:γ→List (Nat × aN)) (th:∀ g,ae c Q .normal (u g ++ iN) (oA gU (ul g)))
 (cc:(∀ g,ae c Q .normal (u g ++ iN) (oA gU (ul g)))→b=true→ag c Q y E gU) (a7:(∀ g,ae c Q .normal (u g ++ iN) (oA gU (ul g)))→b=false→ag c Q z E gU)
 (uR:pz L gU:=by repeat (first | exact pz.nil | apply pz.cons))
 (ZG:lT E g8 iN:=by repeat (first | exact lT.nil | (apply lT.cons; rfl))) (al:bb c E gU x (.of b):=by first | exact ad rfl | exact fN _):ag c Q (.cond x y z) E L:=by
 cases uR.eq
 exact ag.cX (fun g=>u g ++ iN) (fun g=>oA L (ul g)) al th cc a7
section
variable {all:List e5} {w:Nat→Bool}
theorem df {τ:I} {hyp:List aN→Prop} (h:∀ aC,hyp aC→b3 c E aC o τ) (bZ:o.guard=none:=by rfl):∀ aC,hyp aC→ke c ops E aC o τ:=fun aC av=> .v (h aC av) bZ
theorem cw {τ:I} {hyp:List aN→Prop} (an:∀ aC,bb c E aC x τ:=by first | exact fun _=>ad rfl | exact fun _=>bF _ | exact fun _=>fN _ | exact fun _=>dC _):∀ aC,hyp aC→ke c ops E aC ⟨some bc,.move x,ty,pos,af,none⟩ τ:=fun aC _=> .v (cN (an aC)) rfl
theorem I2 {τ:I} {hyp:List aN→Prop} (an:∀ aC,bb c E aC x τ:=by first | exact fun _=>ad rfl | exact fun _=>bF _ | exact fun _=>fN _ | exact fun _=>dC _):∀ aC,hyp aC→ke c ops E aC ⟨some bc,.assign x,ty,pos,af,none⟩ τ:=fun aC _=> .v (eC (an aC)) rfl
theorem H1 {σ τ:I} {hyp:List aN→Prop} (h:∀ {aC},bb c E aC x σ→b3 c E aC o τ) (bZ:o.guard=none:=by rfl) (an:∀ aC,bb c E aC x σ:=by first | exact fun _=>ad rfl | exact fun _=>bF _ | exact fun _=>fN _ | exact fun _=>dC _):
 ∀ aC,hyp aC→ke c ops E aC o τ:=fun aC _=> .v (h (an aC)) bZ
theorem lq {σ pn τ:I} {hyp:List aN→Prop} (h:∀ {aC},bb c E aC x σ→bb c E aC y pn→b3 c E aC o τ) (bZ:o.guard=none:=by rfl) (an:∀ aC,bb c E aC x σ:=by first | exact fun _=>ad rfl | exact fun _=>bF _ | exact fun _=>fN _ | exact fun _=>dC _)
 (a4:∀ aC,bb c E aC y pn:=by first | exact fun _=>ad rfl | exact fun _=>bF _ | exact fun _=>fN _ | exact fun _=>dC _):∀ aC,hyp aC→ke c ops E aC o τ:=fun aC _=> .v (h (an aC) (a4 aC)) bZ
theorem dN {p o:Nat} {β γ:Type} [ah β] [ah γ] {b:β} (i:Nat) (l:aI β γ) (en:bA c.P t γ) (an:∀ aC,bb c E aC x (.eq (.pointer (some ⟨p,o,none⟩))):=by exact fun _=>ad rfl) (av:L[i]? =some ⟨some p,.var b⟩:=by rfl) (bo:o=l.off:=by rfl)
 (hu:ow w i 0 all=true:=by first | rfl | kernel_rfl):∀ aC:List aN,(∀ (j:Nat) (e:aN),L[j]? =some e→ow w j 0 all=true→aC[j]? =some e)→ke c ops E aC ⟨some bc,.load t x,ty,pos,af,none⟩ (.of (l.get b)):=
 fun aC p9=> .v (fb l en (an aC) (p9 _ _ av hu) bo rfl) rfl
theorem fz {p:Nat} {β:Type} [ah β] {b:β} (i:Nat) (en:bA c.P t β) (an:∀ aC,bb c E aC x (.eq (.pointer (some ⟨p,0,none⟩))):=by exact fun _=>ad rfl) (av:L[i]? =some ⟨some p,.var b⟩:=by rfl)
 (hu:ow w i 0 all=true:=by first | rfl | kernel_rfl):∀ aC:List aN,(∀ (j:Nat) (e:aN),L[j]? =some e→ow w j 0 all=true→aC[j]? =some e)→ke c ops E aC ⟨some bc,.load t x,ty,pos,af,none⟩ (.of b):=
 fun aC p9=> .v (fb (aI.id β) en (an aC) (p9 _ _ av hu) rfl rfl) rfl
theorem fc {f:FuncId} {xs:List Operand} {ats:Array TypeId} {τs:List I} {ρ:I} {hyp:List aN→Prop} (eo:bH c.P f) (h:bn c.P f τs ρ)
 (an:∀ aC,hO c E aC xs τs:=by intro aC; repeat (first | exact trivial | refine⟨ad rfl,?_⟩ | refine⟨bF _,?_⟩ | refine⟨fN _,?_⟩ | refine⟨look_nil,?_⟩ | refine⟨dC _,?_⟩)):
 ∀ aC,hyp aC→ke c ops E aC ⟨some bc,.call ⟨.value (.func f),xs.toArray,ats⟩,ty,pos,af,none⟩ ρ:=fun aC _=> .v (h1 eo h (an aC)) rfl
theorem j0 {α:Type} [ah α] [Inhabited α] {xs:List α} {e:TypeId} {i:Int} {j:Nat} {hyp:List aN→Prop} (aq:idx xs.length i=some j) (hu:c.P.underlying t=some (.slice e)) (ft:bA c.P e α)
 (an:∀ aC,bb c E aC x (.of xs):=by exact fun _=>ad rfl) (a4:∀ aC,bb c E aC y (.of i):=by first | exact fun _=>ad rfl | exact fun _=>bF _):
 ∀ aC,hyp aC→ke c ops E aC ⟨some bc,.indexAddr t x y,ty,pos,af,none⟩ (.ptr (aB xs j)):=fun aC _=> .v (oZ hu ft (an aC) (a4 aC) (bC aq)) rfl
theorem m7 {s f o:Nat} {β γ:Type} [ah β] [ah γ] {b:β} {hyp:List aN→Prop} (l:aI β γ) (fd:cl c.P s f o) (an:∀ aC,bb c E aC x (.ptr b):=by exact fun _=>ad rfl) (bo:l.off=o:=by rfl):
 ∀ aC,hyp aC→ke c ops E aC ⟨some bc,.fieldAddr s x f,ty,pos,af,none⟩ (.ptr (l.get b)):=fun aC _=> .v (zk l fd (an aC) bo rfl) rfl
theorem AS {α:Type} [ah α] {a b:α} {hyp:List aN→Prop} (e:some a=some b) (h:∀ aC,hyp aC→b3 c E aC o (.of a)) (bZ:o.guard=none:=by rfl):∀ aC,hyp aC→ke c ops E aC o (.of b):=fun aC av=> .v ((h aC av).as (aG e)) bZ
theorem sS {i:Nat} {τs:List I} {τ:I} {hyp:List aN→Prop} (an:∀ aC,bb c E aC x (.eI τs):=by exact fun _=>ad rfl) (aj:τs[i]? =some τ:=by rfl):∀ aC,hyp aC→ke c ops E aC ⟨some bc,.extract x i,ty,pos,af,none⟩ τ:=fun aC _=> .v (oo (an aC) aj) rfl
theorem ew {τ:I} {j g:Nat} {b want:Bool} {hyp:List aN→Prop} (h:∀ aC,hyp aC→b=want→b3 c E aC o τ) (bZ:o.guard=some (j,want):=by rfl) (aF:(ops[j]?).bind (·.dst)=some g:=by rfl) (al:look E g=some (.of b):=by rfl):
 ∀ aC,hyp aC→ke c ops E aC o (.cond (b=want) τ):=fun aC av=> .g (h aC av) bZ aF al
end
def bt (s:Nat) (up rd:List Nat) (τ:I):ei:=⟨some s,up,rd,[],fun _=>τ,fun _ _=>⟨none,.dead⟩⟩
section
variable {hs:List ei} {i:Nat} {up rd:List Nat}
theorem gb {τ:I} (an:∀ (hd:Nat→Hid) (E':List (Nat × I)) (aC:List aN),(∀ t τ,look (mc hd hs E up) t=some τ→look E' t=some τ)→bb c E' aC x τ:=by first | exact fun _ _ _ aL=>ad (aL _ _ rfl) | exact fun _ _ _ _=>bF _ | exact fun _ _ _ _=>fN _ | exact fun _ _ _ _=>dC _)
 (aO:Nat.blt bc c.n=true:=by rfl):fk c ops Q hs E L i ⟨some bc,.move x,ty,pos,af,none⟩ (bt bc up rd τ):=jH rfl rfl aO fun hd E' aC aL _=>cN (an hd E' aC aL)
theorem ga {σ τ:I} (h:∀ {E' aC},bb c E' aC x σ→b3 c E' aC o τ) (bZ:o.guard=none:=by rfl) (hd:o.dst=some bc:=by rfl)
 (an:∀ (hd:Nat→Hid) (E':List (Nat × I)) (aC:List aN),(∀ t τ,look (mc hd hs E up) t=some τ→look E' t=some τ)→bb c E' aC x σ:=by first | exact fun _ _ _ aL=>ad (aL _ _ rfl) | exact fun _ _ _ _=>bF _ | exact fun _ _ _ _=>fN _ | exact fun _ _ _ _=>dC _)
 (aO:Nat.blt bc c.n=true:=by rfl):fk c ops Q hs E L i o (bt bc up rd τ):=jH bZ hd aO fun hd E' aC aL _=>h (an hd E' aC aL)
theorem xf {σ pn τ:I} (h:∀ {E' aC},bb c E' aC x σ→bb c E' aC y pn→b3 c E' aC o τ) (bZ:o.guard=none:=by rfl) (hd:o.dst=some bc:=by rfl)
 (an:∀ (hd:Nat→Hid) (E':List (Nat × I)) (aC:List aN),(∀ t τ,look (mc hd hs E up) t=some τ→look E' t=some τ)→bb c E' aC x σ:=by first | exact fun _ _ _ aL=>ad (aL _ _ rfl) | exact fun _ _ _ _=>bF _ | exact fun _ _ _ _=>fN _ | exact fun _ _ _ _=>dC _)
 (a4:∀ (hd:Nat→Hid) (E':List (Nat × I)) (aC:List aN),(∀ t τ,look (mc hd hs E up) t=some τ→look E' t=some τ)→bb c E' aC y pn:=by first | exact fun _ _ _ aL=>ad (aL _ _ rfl) | exact fun _ _ _ _=>bF _ | exact fun _ _ _ _=>fN _ | exact fun _ _ _ _=>dC _)
 (aO:Nat.blt bc c.n=true:=by rfl):fk c ops Q hs E L i o (bt bc up rd τ):=jH bZ hd aO fun hd E' aC aL _=>h (an hd E' aC aL) (a4 hd E' aC aL)
theorem p5 {p o:Nat} {β γ:Type} [ah β] [ah γ] {b:β} (k:Nat) (l:aI β γ) (en:bA c.P t γ)
 (an:∀ (hd:Nat→Hid) (E':List (Nat × I)) (aC:List aN),(∀ t τ,look (mc hd hs E up) t=some τ→look E' t=some τ)→bb c E' aC x (.eq (.pointer (some ⟨p,o,none⟩))):=by exact fun _ _ _ aL=>ad (aL _ _ rfl))
 (av:∀ hd:Nat→Hid,(im (fun _=>true) hd 0 (hs.take i) L)[k]? =some ⟨some p,.var b⟩:=by exact fun _=>rfl) (aQ:rd.contains k=true:=by rfl) (bo:o=l.off:=by rfl)
 (aO:Nat.blt bc c.n=true:=by rfl):fk c ops Q hs E L i ⟨some bc,.load t x,ty,pos,af,none⟩ (bt bc up rd (.of (l.get b))):=jH rfl rfl aO fun hd E' aC aL p9=>fb l en (an hd E' aC aL) (p9 _ _ (av hd) aQ) bo rfl
theorem p3 {p:Nat} {β:Type} [ah β] {b:β} (k:Nat) (en:bA c.P t β)
 (an:∀ (hd:Nat→Hid) (E':List (Nat × I)) (aC:List aN),(∀ t τ,look (mc hd hs E up) t=some τ→look E' t=some τ)→bb c E' aC x (.eq (.pointer (some ⟨p,0,none⟩))):=by exact fun _ _ _ aL=>ad (aL _ _ rfl))
 (av:∀ hd:Nat→Hid,(im (fun _=>true) hd 0 (hs.take i) L)[k]? =some ⟨some p,.var b⟩:=by exact fun _=>rfl) (aQ:rd.contains k=true:=by rfl)
 (aO:Nat.blt bc c.n=true:=by rfl):fk c ops Q hs E L i ⟨some bc,.load t x,ty,pos,af,none⟩ (bt bc up rd (.of b)):=jH rfl rfl aO fun hd E' aC aL p9=>fb (aI.id β) en (an hd E' aC aL) (p9 _ _ (av hd) aQ) rfl rfl
theorem c2 {τ:I} (h:∀ (hd:Nat→Hid) (E':List (Nat × I)) (aC:List aN),(∀ t τ,look (mc hd hs E up) t=some τ→look E' t=some τ)→ (∀ j e,(im (fun _=>true) hd 0 (hs.take i) L)[j]? =some e→rd.contains j=true→aC[j]? =some e)→b3 c E' aC o τ)
 (bZ:o.guard=none:=by rfl) (hd:o.dst=some bc:=by rfl) (aO:Nat.blt bc c.n=true:=by rfl):fk c ops Q hs E L i o (bt bc up rd τ):=jH bZ hd aO h
end
end
end Gv
namespace Gv
open Go
set_option linter.unusedVariables false
set_option linter.unusedSimpArgs false
theorem Cg {F:Fence} {n Jg:Nat} {P:Program} {code:Code} {Q:Exit→Act→World→Prop} {a:Act} {W:World} (hd:F.depth=none) (h:code.wpIn F n P Q a W):code.wpIn F Jg P Q a W:=
 fun b k cs w6 hb _=>h b k cs w6 hb (fun d hd'=>by rw [hd] at hd'; cases hd')
def dB.is (o:Obj):dB where
 holds _ _ x:=x=o
 l1:=False
 mono _ h:=h
abbrev dB.dI:dB:= .is (.deferred (some []))
def I.hy (f:FuncId) (τs:List I):I where
 holds A W v:= ∃ hM:List Value,v= .func (.func f) #[] hM.toArray∧gW A W τs hM
 mono e h:=let⟨hM,J,ab⟩:=h; ⟨hM,J,ab.mono e⟩
theorem bG.rb {c E L a W} (h:bG c E L a W) {i p:Nat} {cp cp':dB} (aj:L[i]? =some ⟨some p,cp⟩) {o':Obj} (ao:cp'.holds (aP L ++ c.b2) W o'):
 bG c E (L.set i ⟨some p,cp'⟩) a (W.putObj p o'):=by
 have g1:aP (L.set i ⟨some p,cp'⟩)=aP L:=wo (cp:=cp') aj
 have hp:p∈aP L:=kH.2 ⟨_,List.mem_of_getElem? aj,rfl⟩
 have gZ:Ext (aP L ++ c.b2) W (aP L ++ c.b2) (W.putObj p o'):=
  ⟨by simp,fun k _ a9=>World.putObj_heap_other (fun e=>a9 (e ▸ List.mem_append.2 (.inl hp))),fun _ h _=>h⟩
 exact
 {defers:=h.defers
  size:=h.size
  env:=fun t τ al=>by rw [g1]; exact let⟨v,J,ab⟩:=h.env t τ al; ⟨v,J,τ.mono gZ ab⟩
  dw:=⟨h.dw.os,h.dw.tape,h.dw.output,by simpa using h.dw.size,fun k aq an=>by
   rw [World.putObj_heap_other (fun e:k=p=>an (by subst e; exact h.fH _ hp aq))]
   exact h.dw.block k aq an⟩
  own:=fun e he=>by
   rw [g1]
   obtain⟨j,aF⟩:=List.mem_iff_getElem?.1 he
   rw [List.getElem?_set] at aF
   split at aF
   ·rename_i e9
    subst e9
    split at aF
    ·simp only [Option.some.injEq] at aF
     subst aF
     exact⟨_,World.putObj_heap_same (h.lt p hp),cp'.mono gZ ao⟩
    ·cases aF
   ·rename_i e9
    have J:=h.own e (List.mem_of_getElem? aF)
    unfold aN.ok at *
    split at J
    ·rename_i q hq
     obtain⟨o',rn,cE⟩:=J
     have dk:q≠p:=fun e'=>e9 (Gh h.nodup aj aF rfl (e' ▸ hq))
     exact⟨o',by rw [World.putObj_heap_other dk]; exact rn,dB.mono _ gZ cE⟩
    ·exact J
  nodup:=by rw [g1]; exact h.nodup
  lt:=by rw [g1]; simpa using h.lt
  fH:=by rw [g1]; exact h.fH
  eQ:=by rw [g1]; simpa using h.eQ }
theorem Ni {c:c8} {E:List (Nat × I)} {L:List aN} {d:Option Tmp} {ty:TypeId} {pos:String} {af:Array Edge} {g:Option (Nat × Bool)} {f:FuncId} {xs:List Operand} {τs:List I} (an:hO c E L xs τs):
 b3 c E L ⟨d,.makeFunc (.func f) #[] xs.toArray,ty,pos,af,g⟩ (.hy f τs):= .pure fun a W s=>
 ⟨.func (.func f) #[] (xs.map a.eval).toArray,by simp [execOp,Instr.makeFunc],_,rfl,an.holds a W s⟩
structure wZ (A:List Nat) (W:World) (L:List aN):Prop where
 eQ:∀ k∈A,k < W.heap.size∧k ∉ aP L
 nodup:(aP L).Nodup
 lt:∀ k∈aP L,k < W.heap.size
 ok:∀ e∈L,e.ok (aP L ++ A) W
def u1 (P:Program) (u:Value) {α σ ε γ:Type} (τ:α→I) (Ls:σ→γ→List aN) (Lx:ε→γ→List aN) (step:α→σ→Option (σ ⊕ ε)) (R:List Nat→World→Prop):Prop:=
 ∃ l,u= .func (.yield l) #[] #[]∧ ∀ x s r,step x s=some r→ ∀ g A W v,R (aP (Ls s g) ++ A) W→wZ A W (Ls s g)→ (τ x).holds (aP (Ls s g) ++ A) W v→
   YieldAt Fence.wide 8 P l #[v] W (match r with
    | .inl b8=>jV (aP (Ls s g)) A W (fun _:γ=>I.of true) (fun g=>Ls b8 g)
    | .inr q=>jV (aP (Ls s g)) A W (fun _:γ=>I.of false) (fun g=>Lx q g))
def Lr {σ ε γ:Type} (Ls:σ→γ→List aN) (Lx:ε→γ→List aN):σ ⊕ ε→γ→List aN
 | .inl s,g=>Ls s g
 | .inr q,g=>Lx q g
structure y8 (P:Program) (f:FuncId) (τs:List I) (Lin:List aN) {α:Type} (τ:α→I) (run:∀ {σ ε:Type},(α→σ→Option (σ ⊕ ε))→σ→Option (σ ⊕ ε)):Prop where
 go:∀ {σ ε γ:Type} (Ls:σ→γ→List aN) (Lx:ε→γ→List aN) (step:α→σ→Option (σ ⊕ ε)) (cf:σ) (g0:γ) (r:σ ⊕ ε),run step cf=some r→
  ∀ (A:List Nat) (W:World) (u:Value) (vs:List Value),wZ A W (Lin ++ Ls cf g0)→gW (aP (Lin ++ Ls cf g0) ++ A) W τs vs→
    u1 P u τ Ls Lx step (fun c0 W'=>Ext (aP (Lin ++ Ls cf g0) ++ A) W c0 W')→
    Calls P f (u :: vs).toArray W (jV (aP (Lin ++ Ls cf g0)) A W (fun _:γ=> .eI []) (fun g=>Lin ++ Lr Ls Lx r g))
theorem y8.of {P:Program} {f:FuncId} {fn:Func} {code:Code} {n:Nat} {τs:List I} {Lin:List aN} {α:Type} {τ:α→I} {run:∀ {σ ε:Type},(α→σ→Option (σ ⊕ ε))→σ→Option (σ ⊕ ε)}
 (a7:P.funcs[f]? =some fn) (hb:fn.body=some code) (aO:fn.ntmps=n) (hlen:Nat.ble (τs.length + 1) n=true)
 (h:∀ {σ ε γ:Type} (Ls:σ→γ→List aN) (Lx:ε→γ→List aN) (step:α→σ→Option (σ ⊕ ε)) (cf:σ) (g0:γ) (r:σ ⊕ ε),run step cf=some r→
  ∀ W A u,u1 P u τ Ls Lx step (fun c0 W'=>Ext (aP (Lin ++ Ls cf g0) ++ A) W c0 W')→
    ag ⟨P,n,W,aP (Lin ++ Ls cf g0),A,none,[]⟩ (bodyPost P fn (jV (aP (Lin ++ Ls cf g0)) A W (fun _:γ=> .eI []) (fun g=>Lin ++ Lr Ls Lx r g))) code (params 0 (.eq u :: τs)) (Lin ++ Ls cf g0)):y8 P f τs Lin τ run:=by
 refine⟨?_⟩
 intro σ ε γ Ls Lx step cf g0 r aQ A W u vs al a3 a4
 refine calls_of_wp a7 hb (wpIn_wide.1 (h Ls Lx step cf g0 r aQ W A u a4 _ _ ?_))
 have oF:gW (aP (Lin ++ Ls cf g0) ++ A) W (.eq u :: τs) (u :: vs):= .cons rfl a3
 have lg:=oF.length
 have hle:τs.length + 1≤n:=Nat.le_of_ble_eq_true hlen
 exact
 {defers:=rfl
  size:=by simp at lg; simp [aO,lg]; omega
  env:=fun t τ ev=>by
   obtain⟨_,v,ab,aE⟩:=tB oF 0 t τ ev
   refine⟨v,?_,aE⟩
   have cv:t < (u :: vs).length:=(List.getElem?_eq_some_iff.1 ab).1
   rw [Array.getElem?_append_left (by simpa using cv)]
   simpa using ab
  dw:= .refl _ _
  own:=al.ok
  nodup:=al.nodup
  lt:=al.lt
  fH:=fun k aq _=>aq
  eQ:=al.eQ }
section
variable {c:c8} {E:List (Nat × I)} {L:List aN} {ops:Array Oper} {Q:Exit→Act→World→Prop}
variable {d:Option Tmp} {ty:TypeId} {pos:String} {af:Array Edge} {g:Option (Nat × Bool)} {x y:Operand} {t t2:TypeId}
theorem bG.Oa {a:Act} {W:World} (s:bG c E L a W):Ext (c.X ++ c.b2) c.iD (aP L ++ c.b2) W:=
 ⟨s.dw.size,fun k aq a9=>s.dw.block k aq fun an=>a9 (List.mem_append.2 (.inl an)),fun k hm cv=>by
   rcases List.mem_append.1 hm with hm | hm
   ·exact List.mem_append.2 (.inl (s.fH k hm cv))
   ·exact List.mem_append.2 (.inr hm)⟩
theorem bG.Dw {a:Act} {W:World} {Lin Lr:List aN} (s:bG c E (Lin ++ Lr) a W):wZ (aP Lr ++ c.b2) W Lin:=by
 have lH:=s.nodup
 rw [e0] at lH
 obtain⟨mD,nQ,pk⟩:=List.nodup_append.1 lH
 exact
 {eQ:=fun k hm=>by
   rcases List.mem_append.1 hm with hm | hm
   ·exact⟨s.lt k (by rw [e0]; exact List.mem_append.2 (.inr hm)),fun h=>pk k h k hm rfl⟩
   ·obtain⟨J,ab⟩:=s.eQ k hm
    exact⟨J,fun h=>ab (by rw [e0]; exact List.mem_append.2 (.inl h))⟩
  nodup:=mD
  lt:=fun k hm=>s.lt k (by rw [e0]; exact List.mem_append.2 (.inl hm))
  ok:=fun e he=>aN.sf (s.own e (List.mem_append.2 (.inl he))) (.drop fun k hm=>by
   rw [e0]
   simp only [List.mem_append] at hm ⊢
   rcases hm with hm | hm | hm
   ·exact .inl (.inl hm)
   ·exact .inl (.inr hm)
   ·exact .inr hm) fun _ _=>rfl }
theorem yX {Lin Lr:List aN} {A:List Nat} {W:World} :Ext (aP (Lin ++ Lr) ++ A) W (aP Lin ++ (aP Lr ++ A)) W:= .drop fun k hm=>by
 rw [e0]
 simp only [List.mem_append] at hm ⊢
 rcases hm with hm | hm | hm
 ·exact .inl (.inl hm)
 ·exact .inl (.inr hm)
 ·exact .inr hm
theorem Fv {Lin Lr:List aN} {A:List Nat} {W:World} :Ext (aP Lin ++ (aP Lr ++ A)) W (aP (Lin ++ Lr) ++ A) W:= .drop fun k hm=>by
 rw [e0] at hm
 simp only [List.mem_append] at hm ⊢
 rcases hm with(hm | hm) | hm
 ·exact .inl hm
 ·exact .inr (.inl hm)
 ·exact .inr (.inr hm)
theorem ak.yield {rest:List Oper} {bc kB:Nat} {ats:Array TypeId} {u:Value} {α σ ε γ:Type} {τ:α→I} {Ls:σ→γ→List aN} {Lx:ε→γ→List aN} {step:α→σ→Option (σ ⊕ ε)} {Lin:List aN} {x:Operand} {v:α} {s:σ} {gg:γ} {r:σ ⊕ ε}
 (ao:c.rd=none) (a4:u1 c.P u τ Ls Lx step (fun c0 W'=>Ext (c.X ++ c.b2) c.iD c0 W')) (a7:look E kB=some (.eq u)) (an:bb c E (Lin ++ Ls s gg) x (τ v)) (aQ:step v s=some r) (aO:Nat.blt bc c.n=true)
 (aV:∀ b8,r= .inl b8→ ∀ fh,ak c ops Q rest ((bc,.of true) :: E) (Lin ++ Ls b8 fh)) (bu:∀ q,r= .inr q→ ∀ fh,ak c ops Q rest ((bc,.of false) :: E) (Lin ++ Lx q fh)):
 ak c ops Q (⟨some bc,.call ⟨.value (.tmp kB),#[x],ats⟩,ty,pos,af,none⟩ :: rest) E (Lin ++ Ls s gg):=fun a W st=>by
 obtain⟨l,rfl,a4⟩:=a4
 obtain⟨Jh,J,ab⟩:=st.env kB _ a7
 have hu:Jh= .func (.yield l) #[] #[]:=ab
 subst hu
 have nR:bG c E (Ls s gg ++ Lin) a W:=st.perm List.perm_append_comm
 have a3:=an a W st
 have oF:(τ v).holds (aP (Ls s gg) ++ (aP Lin ++ c.b2)) W (a.eval x):=(τ v).mono (.drop fun k hm=>by
  rw [e0]
  simp only [List.mem_append] at hm ⊢
  rcases hm with hm | hm | hm
  ·exact .inl (.inr hm)
  ·exact .inl (.inl hm)
  ·exact .inr hm) a3
 obtain⟨fn,tmps,assign,body,kK,fJ⟩:=a4 v s r aQ gg (aP Lin ++ c.b2) W (a.eval x) (nR.Oa.trans yX) nR.Dw oF
 have G9:(execOp a.eval ⟨some bc,.call ⟨.value (.tmp kB),#[x],ats⟩,ty,pos,af,none⟩).run c.P W= .ok (.round l fn tmps assign body) W:=by
  rw [← kK]
  simp [execOp,resolve,Deferred.ofValue,Act.eval,J,invoke,Sem.run_bind,Sem.run_pure,Result.andThen]
 refine wpListIn_plain rfl fun K tf=> ?_
 refine⟨fun _ _=>trivial,?_⟩
 rw [Oper.semAt_eq _ _ _ (fun _ h=>by cases h),G9,Oper.uponIn_round]
 refine⟨fun h=>by simp at h,?_⟩
 have Iq:RoundIn c.F (9 - 1) c.P l fn tmps assign body W _:=fJ
 refine Iq.mono fun e W' he=> ?_
 cases r with
 | inl b8=>
   obtain⟨w,fh,rfl,po,aE,aW,aX,bk⟩:=he
   obtain rfl:=of_bool.1 bk
   refine tf _ _ (aV b8 rfl fh _ _ ?_)
   exact(((nR.after po aE aW aX).perm List.perm_append_comm).put (by simpa using aO) (of_bool.2 rfl))
 | inr q=>
   obtain⟨w,fh,rfl,po,aE,aW,aX,bk⟩:=he
   obtain rfl:=of_bool.1 bk
   refine tf _ _ (bu q rfl fh _ _ ?_)
   exact(((nR.after po aE aW aX).perm List.perm_append_comm).put (by simpa using aO) (of_bool.2 rfl))
theorem ak.U5 {rest:List Oper} {bc kB j gt:Nat} {b:Bool} {ats:Array TypeId} {u:Value} {α σ ε γ:Type} {τ:α→I} {Ls:σ→γ→List aN} {Lx:ε→γ→List aN} {step:α→σ→Option (σ ⊕ ε)} {Lin:List aN} {x:Operand} {v:α} {s:σ} {gg:γ} {r:σ ⊕ ε}
 (ao:c.rd=none) (a4:u1 c.P u τ Ls Lx step (fun c0 W'=>Ext (c.X ++ c.b2) c.iD c0 W')) (hb:b=true) (aF:(ops[j]?).bind (·.dst)=some gt) (al:look E gt=some (.of b)) (a7:look E kB=some (.cond (b=true) (.eq u))) (an:bb c E (Lin ++ Ls s gg) x (τ v)) (aQ:step v s=some r) (aO:Nat.blt bc c.n=true)
 (aV:∀ b8,r= .inl b8→ ∀ fh,ak c ops Q rest ((bc,.cond (b=true) (.of true)) :: E) (Lin ++ Ls b8 fh)) (bu:∀ q,r= .inr q→ ∀ fh,ak c ops Q rest ((bc,.cond (b=true) (.of false)) :: E) (Lin ++ Lx q fh)):
 ak c ops Q (⟨some bc,.call ⟨.value (.tmp kB),#[x],ats⟩,ty,pos,af,some (j,true)⟩ :: rest) E (Lin ++ Ls s gg):=fun a W st=>by
 have aL:look ((kB,.eq u) :: E) kB=some (.eq u):=by simp [look,Nat.beq_refl]
 have Ir:bG c ((kB,.eq u) :: E) (Lin ++ Ls s gg) a W:=st.less fun t ma h=>by
  simp only [look] at h
  by_cases e:Nat.beq kB t=true
  ·rw [e] at h
   simp only [cond_true,Option.some.injEq] at h
   subst h
   rw [← ep.1 e]
   exact⟨_,a7,fun A W v a3=>a3.1 hb⟩
  ·simp only [Bool.not_eq_true] at e
   rw [e] at h
   exact⟨_,h,fun _ _ _ h=>h⟩
 have key:=ak.yield (c:=c) (ops:=ops) (Q:=Q) (E:=(kB,.eq u) :: E) (rest:=rest) (ty:=ty) (pos:=pos) (af:=af) (ats:=ats) ao a4 aL (fun a W s=>an a W (s.less fun t ma h=>by
  by_cases e:Nat.beq kB t=true
  ·have:=ep.1 e
   subst this
   rw [a7] at h
   cases h
   refine⟨_,aL,fun A W v a3=>⟨fun _=>a3,fun h=>absurd hb h⟩⟩
  ·simp only [Bool.not_eq_true] at e
   exact⟨ma,by simp only [look]; rw [e]; exact h,fun _ _ _ h=>h⟩)) aQ aO
  (fun b8 e fh a W st=>aV b8 e fh a W (st.less fun t ma h=>by
   simp only [look] at h ⊢
   by_cases e:Nat.beq bc t=true
   ·rw [e] at h ⊢
    simp only [cond_true,Option.some.injEq] at h ⊢
    exact⟨_,rfl,fun A W v a3=>by subst h; exact⟨fun _=>a3,fun h=>absurd hb h⟩⟩
   ·simp only [Bool.not_eq_true] at e
    rw [e] at h ⊢
    simp only [cond_false] at h ⊢
    by_cases aS:Nat.beq kB t=true
    ·have:=ep.1 aS
     subst this
     rw [a7] at h
     cases h
     rw [aS]
     exact⟨_,rfl,fun A W v a3=>⟨fun _=>a3,fun h=>absurd hb h⟩⟩
    ·simp only [Bool.not_eq_true] at aS
     rw [aS]
     exact⟨ma,h,fun _ _ _ h=>h⟩))
  (fun b8 e fh a W st=>bu b8 e fh a W (st.less fun t ma h=>by
   simp only [look] at h ⊢
   by_cases e:Nat.beq bc t=true
   ·rw [e] at h ⊢
    simp only [cond_true,Option.some.injEq] at h ⊢
    exact⟨_,rfl,fun A W v a3=>by subst h; exact⟨fun _=>a3,fun h=>absurd hb h⟩⟩
   ·simp only [Bool.not_eq_true] at e
    rw [e] at h ⊢
    simp only [cond_false] at h ⊢
    by_cases aS:Nat.beq kB t=true
    ·have:=ep.1 aS
     subst this
     rw [a7] at h
     cases h
     rw [aS]
     exact⟨_,rfl,fun A W v a3=>⟨fun _=>a3,fun h=>absurd hb h⟩⟩
    ·simp only [Bool.not_eq_true] at aS
     rw [aS]
     exact⟨ma,h,fun _ _ _ h=>h⟩))
 have:=key a W Ir
 unfold c8.p6 wpListIn at this ⊢
 rw [if_pos (by simp [Region.wanted])] at this
 rw [if_pos (by simp [Region.wanted,B7 aF al st,hb])]
 exact this
theorem ak.gu {l:List Oper} {L2:List aN} (h:L=L2) (k:ak c ops Q l E L2):ak c ops Q l E L:=by subst h; exact k
theorem ak.cases {l:List Oper} (b:Bool) (J:b=true→ak c ops Q l E L) (ab:b=false→ak c ops Q l E L):ak c ops Q l E L:=by
 cases b
 ·exact ab rfl
 ·exact J rfl
theorem ak.Wu {o:Oper} {rest:List Oper} {bc j gt:Nat} {b:Bool} (τ:I) (hb:b=false) (bZ:o.guard=some (j,true)) (hd:o.dst=some bc) (aF:(ops[j]?).bind (·.dst)=some gt) (al:look E gt=some (.of b)) (aO:Nat.blt bc c.n=true)
 (k:ak c ops Q rest ((bc,.cond (b=true) τ) :: E) L):ak c ops Q (o :: rest) E L:=fun a W s=>by
 unfold c8.p6 wpListIn
 rw [if_neg (by simp [Region.wanted,bZ,B7 aF al s,hb]),hd]
 exact⟨fun _ _=>trivial,k _ _ (s.put (by simpa using aO) ⟨fun h=>(by rw [hb] at h; cases h),fun _=>rfl⟩)⟩
theorem ag.GU {x:Operand} {b:Bool} {y z:Code} (al:bb c E L x (.of b)) (hb:b=true) (k:ag c Q y E L):ag c Q (.cond x y z) E L:= .cond al (fun _=>k) fun h=>by rw [hb] at h; cases h
theorem ag.wG {x:Operand} {b:Bool} {y z:Code} (al:bb c E L x (.of b)) (hb:b=false) (k:ag c Q z E L):ag c Q (.cond x y z) E L:= .cond al (fun h=>by rw [hb] at h; cases h) fun _=>k
def za:Code→Exit
 | .ret=> .ret
 | .exit id=> .exit id
 | .goto t=> .goto t
 | _=> .normal
def tZ:Code→Bool
 | .ret | .exit _ | .goto _=>true
 | _=>false
def A1 {σ ε γ:Type} (c:c8) (eV:ε→Code) (l D:Nat) (rec:Loop) (Ls:σ→γ→List aN) (Lx:ε→γ→List aN):σ ⊕ ε→Exit→Act→World→Prop
 | .inl b8,x,a,W=>x= .normal∧ ∃ g,bG c [] (⟨some l,.is (.loop rec)⟩ :: ⟨some D,.dI⟩ :: Ls b8 g) a W
 | .inr q,x,a,W=>tZ (eV q)=true∧x=za (eV q)∧ ∃ g,bG c [] (⟨some l,.is (.loop rec)⟩ :: ⟨some D,.dI⟩ :: Lx q g) a W
def A2 (c:c8) (l:Nat) (body:Code) (Q:Exit→Act→World→Prop) (a:Act) (W:World):Prop:=
 ∃ nh,(Instr.beginRound l).run c.P W= .ok () nh∧c.wp body Q a nh
theorem ae.begin {l:Nat} {body:Code} {rG:Exit→Act→World→Prop} (i:Nat) {r:Loop} (av:L[i]? =some ⟨some l,.is (.loop r)⟩) (aQ:r.state= .ready)
 (k:ag c Q body E (L.set i ⟨some l,.is (.loop { r with state:= .busy })⟩)):ae c (Exit.then (A2 c l body Q) rG) .normal E L:=fun a W s=>by
 obtain⟨o,J,ab⟩:=s.own _ (List.mem_of_getElem? av)
 have lj:o= .loop r:=ab
 subst lj
 exact⟨_,run_beginRound J aQ,k _ _ (s.rb av rfl)⟩
theorem ae.O7 {σ ε γ:Type} {eV:ε→Code} {l D:Nat} {rec:Loop} {Ls:σ→γ→List aN} {Lx:ε→γ→List aN} {b8:σ} (g:γ) (n:Nat) (av:L.drop n=⟨some l,.is (.loop rec)⟩ :: ⟨some D,.dI⟩ :: Ls b8 g):
 ae c (A1 c eV l D rec Ls Lx (.inl b8)) .normal E L:=fun a W s=>⟨rfl,g,by rw [← av]; exact(s.ox n).less (fun t τ h=>by simp [look] at h)⟩
theorem ae.U4 {σ ε γ:Type} {eV:ε→Code} {l D:Nat} {rec:Loop} {Ls:σ→γ→List aN} {Lx:ε→γ→List aN} {q:ε} {x:Exit} (g:γ) (n:Nat) (aF:tZ (eV q)=true) (an:x=za (eV q)) (av:L.drop n=⟨some l,.is (.loop rec)⟩ :: ⟨some D,.dI⟩ :: Lx q g):
 ae c (A1 c eV l D rec Ls Lx (.inr q)) x E L:=fun a W s=>⟨aF,an,g,by rw [← av]; exact(s.ox n).less (fun t τ h=>by simp [look] at h)⟩
theorem ag.jump {j:Code} (aF:tZ j=true) (k:ae c Q (za j) E L):ag c Q j E L:=by
 cases j <;> simp only [tZ] at aF <;> first | cases aF | skip
 all_goals first | exact .exit k | exact .ret k | exact fun a W s=>wpIn_goto (k a W s)
theorem J5 {P:Program} {l:Nat} {R:Ending→World→Prop} {j:Code} {a:Act} {W W':World} {v:Value} (aF:tZ j=true) (bk:(Instr.endRound l (some j)).run P W= .ok v W') (fJ:R (.returned v) W'):
 roundPost P l R (za j) a W:=by
 cases j <;> simp only [tZ] at aF <;> first | exact⟨_,_,bk,fJ⟩ | cases aF
theorem bG.mark {a:Act} {W:World} (s:bG c E L a W) (D:Nat):bG { c with ds:=D :: c.ds } E L { a with defers:=Dn D :: a.defers } W:=
 {defers:=by simp [s.defers],size:=s.size,env:=s.env,dw:=s.dw,own:=s.own,nodup:=s.nodup,lt:=s.lt,fH:=s.fH,eQ:=s.eQ }
def Is (P:Program) (f:FuncId) (τs:List I) (Lin:List aN) {α σ ε γ:Type} (τ:α→I) (run:(α→σ→Option (σ ⊕ ε))→σ→Option (σ ⊕ ε)) (Ls:σ→γ→List aN) (Lx:ε→γ→List aN):Prop:=
 ∀ (step:α→σ→Option (σ ⊕ ε)) (cf:σ) (g0:γ) (r:σ ⊕ ε),run step cf=some r→
   ∀ (A:List Nat) (W:World) (u:Value) (vs:List Value),wZ A W (Lin ++ Ls cf g0)→gW (aP (Lin ++ Ls cf g0) ++ A) W τs vs→
     u1 P u τ Ls Lx step (fun c0 W'=>Ext (aP (Lin ++ Ls cf g0) ++ A) W c0 W')→
     Calls P f (u :: vs).toArray W (jV (aP (Lin ++ Ls cf g0)) A W (fun _:γ=> .eI []) (fun g=>Lin ++ Lr Ls Lx r g))
theorem La {gt p:Nat} {assign body:Code} {f:FuncId} {l7:List I} {Lin:List aN} {α σ ε γ:Type} {τ:α→I} {run:(α→σ→Option (σ ⊕ ε))→σ→Option (σ ⊕ ε)}
 {Ls:σ→γ→List aN} {Lx:ε→γ→List aN} {step:α→σ→Option (σ ⊕ ε)} {cf:σ} {g0:γ} {r:σ ⊕ ε} (eV:ε→Code)
 (ao:c.rd=none) (eo:bH c.P f) (bZ:look E gt=some (.hy f l7)) (ky:∀ ay aS me,Is c.P f l7 Lin τ run (fun s g=>ay :: aS :: Ls s g) me) (aQ:run step cf=some r) (av:L=Lin ++ Ls cf g0) (hp:Nat.blt p c.n=true)
 (oe:∀ x s r,step x s=some r→ ∀ g (ld:World) (lu lf:List Nat) (l D:Nat) (rec:Loop),rec.state= .ready→
  ag ⟨c.P,c.n,ld,lu,lf,some l,[]⟩ (Exit.then (A2 ⟨c.P,c.n,ld,lu,lf,some l,[]⟩ l body (A1 ⟨c.P,c.n,ld,lu,lf,some l,[]⟩ eV l D { rec with state:= .busy } Ls Lx r)) (fun _ _ _=>False)) assign ((p,τ x) :: E) (⟨some l,.is (.loop rec)⟩ :: ⟨some D,.dI⟩ :: Ls s g))
 (nz:∀ b8,r= .inl b8→ ∀ g D,ae { c with ds:=D :: c.ds } Q .normal E (⟨some D,.dI⟩ :: (Lin ++ Ls b8 g)))
 (uu:∀ q,r= .inr q→ ∀ g D,ag { c with ds:=D :: c.ds } Q (eV q) E (⟨some D,.dI⟩ :: (Lin ++ Lx q g))):
 ag c Q (.rangeFunc (.tmp gt) #[p] assign body) E L:=fun a W st=>by
 subst av
 refine wpIn_rangeFunc fun fn ZH=> ?_
 show ∃ l mark YW d Xl xm args YX,(Instr.enterLoop fn a.tmps #[p] assign body c.rd).run c.P W=_∧_
 rw [ao]
 obtain⟨rec,jZ⟩:∃ rec:Loop,rec= { state:= .ready,pending:=none,fn,tmps:=a.tmps,params:= #[p],assign,body,defers:=W.heap.size } :=⟨_,rfl⟩
 obtain⟨v,Aq,hM,u2,ZI⟩:=st.env gt _ bZ
 obtain⟨hD,Ar⟩:∃ hD,(W.alloc (.deferred (some []))).alloc (.loop rec)=hD:=⟨_,rfl⟩
 have s1:=(st.alloc (o:= .deferred (some [])) (cp:= .dI) rfl).alloc (o:= .loop rec) (cp:= .is (.loop rec)) rfl
 rw [Ar,World.size_alloc] at s1
 obtain⟨D,kz⟩:∃ D,D=W.heap.size:=⟨_,rfl⟩
 obtain⟨l,al⟩:∃ l,l=W.heap.size + 1:=⟨_,rfl⟩
 have As:=run_enterLoop_outer (P:=c.P) (w:=W) fn a.tmps #[p] assign body
 rw [← jZ,Ar,← al,← kz] at As
 rw [← al,← kz] at s1
 obtain⟨kR,pq⟩:∃ kR:σ→γ→List aN,kR=fun s g=>⟨some l,.is (.loop rec)⟩ :: ⟨some D,.dI⟩ :: Ls s g:=⟨_,rfl⟩
 obtain⟨me,At⟩:∃ me:ε→γ→List aN,me=fun q g=>⟨some l,.is (.loop { rec with state:= .done,pending:=some (eV q) })⟩ :: ⟨some D,.dI⟩ :: Lx q g:=⟨_,rfl⟩
 have s2:bG c E (Lin ++ kR cf g0) a hD:=s1.perm (by
  rw [pq]
  exact(List.perm_middle.trans (List.perm_middle.cons _)).symm)
 have It:gW (aP (Lin ++ kR cf g0) ++ c.b2) hD l7 hM:=by
  have J:(I.hy f l7).holds (aP (Lin ++ kR cf g0) ++ c.b2) hD v:=by
   obtain⟨Eg,J,ab⟩:=s2.env gt _ bZ
   rw [Aq] at J
   cases J
   exact ab
  obtain⟨Iu,ay,aS⟩:=J
  rw [u2] at ay
  have:Iu=hM:=by injection ay with _ _ ay; injection ay with ay; exact ay.symm
  rw [← this]; exact aS
 have Au:bG c E ((Lin ++ kR cf g0) ++ []) a hD:=by rw [List.append_nil]; exact s2
 have zu:=Au.Dw
 simp only [aP,List.nil_append] at zu
 have HB:u1 c.P (.func (.yield l) #[] #[]) τ kR me step (fun c0 W'=>Ext (aP (Lin ++ kR cf g0) ++ c.b2) hD c0 W'):=by
  refine⟨l,rfl,fun x s rK hs g A nh v2 gZ hle a3=> ?_⟩
  have zX:=hle
  rw [pq] at zX
  obtain⟨o,fY,hI⟩:=zX.ok ⟨some l,.is (.loop rec)⟩ (by simp)
  have o8:o= .loop rec:=hI
  subst o8
  have a4:=run_yield (P:=c.P) (args:= #[v2]) fY (by rw [jZ]; rfl)
  refine⟨_,_,_,_,a4,roundIn_of_wpIn trivial ?_⟩
  have ay:rec.assign=assign:=by rw [jZ]
  have aS:rec.body=body:=by rw [jZ]
  have cW:rec.params= #[p]:=by rw [jZ]
  have eh:rec.tmps=a.tmps:=by rw [jZ]
  rw [ay,aS,cW,eh]
  refine Cg (n:=9) rfl ?_
  have Ha:((#[p]:Array Tmp).zip #[v2]).foldl (fun tmps (t,a)=>tmps.setIfInBounds t a) a.tmps=a.tmps.setIfInBounds p v2:=by simp
  rw [Ha]
  subst pq At
  refine wpIn_mono ((oe x s rK hs g nh (aP (⟨some l,.is (.loop rec)⟩ :: ⟨some D,.dI⟩ :: Ls s g)) A l D rec (by rw [jZ])) { tmps:=a.tmps.setIfInBounds p v2,defers:= [] } nh ?_) ?_
  ·have mf:p < c.n:=by simpa using hp
   exact
   {defers:=rfl
    size:=by simp [s2.size]
    env:=fun t ma ev=>by
     simp only [look] at ev
     by_cases e:Nat.beq p t=true
     ·rw [e] at ev
      simp only [cond_true,Option.some.injEq] at ev
      subst ev
      have:=ep.1 e
      subst this
      exact⟨v2,by simp [s2.size,mf],a3⟩
     ·simp only [Bool.not_eq_true] at e
      rw [e] at ev
      simp only [cond_false] at ev
      obtain⟨u,J,ab⟩:=s2.env t ma ev
      have dk:p≠t:=fun h=>by rw [ep.2 h] at e; cases e
      exact⟨u,by rw [Array.getElem?_setIfInBounds_ne dk]; exact J,ma.mono gZ ab⟩
    dw:= .refl _ _
    own:=hle.ok
    nodup:=hle.nodup
    lt:=hle.lt
    fH:=fun k aq _=>aq
    eQ:=hle.eQ }
  ·intro e kd aap hq
   cases e with
   | normal=>
     obtain⟨Ji,Iv,hb⟩:=hq
     refine⟨Ji,Iv,Cg (n:=9) rfl (wpIn_mono hb ?_)⟩
     intro e rL A3 DT
     have fin:∀ (jump:Option Code) {Lr:List aN},bG ⟨c.P,c.n,nh,aP (⟨some l,.is (.loop rec)⟩ :: ⟨some D,.dI⟩ :: Ls s g),A,some l,[]⟩ [] (⟨some l,.is (.loop { rec with state:= .busy })⟩ :: ⟨some D,.dI⟩ :: Lr) rL A3→
      ∃ nY,(Instr.endRound l jump).run c.P A3= .ok (.bool jump.isNone) nY∧bG ⟨c.P,c.n,nh,aP (⟨some l,.is (.loop rec)⟩ :: ⟨some D,.dI⟩ :: Ls s g),A,some l,[]⟩ [] (⟨some l,.is (.loop { rec with state:=if jump.isNone then .ready else .done,pending:=jump })⟩ :: ⟨some D,.dI⟩ :: Lr) rL nY:=fun jump Lr hL=>by
      obtain⟨o,J,ab⟩:=hL.own ⟨some l,.is (.loop { rec with state:= .busy })⟩ (by simp)
      have lj:o= .loop { rec with state:= .busy } :=ab
      subst lj
      exact⟨_,run_endRound jump J,hL.rb (i:=0) rfl rfl⟩
     cases rK with
     | inl b8=>
       obtain⟨rfl,fh,hL⟩:=DT
       obtain⟨nY,bk,il⟩:=fin none hL
       refine⟨_,nY,bk,?_⟩
       have Iw:({ rec with state:=if (none:Option Code).isNone then .ready else .done,pending:=none } :Loop)=rec:=by rw [jZ]; rfl
       rw [Iw] at il
       exact il.ends (ρ:=fun _:γ=>I.of true) (Lo:=fun g=>⟨some l,.is (.loop rec)⟩ :: ⟨some D,.dI⟩ :: Ls b8 g) fh (List.Sublist.refl _) (of_bool.2 rfl)
     | inr q=>
       obtain⟨aF,rfl,fh,hL⟩:=DT
       obtain⟨nY,bk,il⟩:=fin (some (eV q)) hL
       have key:jV (aP (⟨some l,.is (.loop rec)⟩ :: ⟨some D,.dI⟩ :: Ls s g)) A nh (fun _:γ=>I.of false) (fun g=>⟨some l,.is (.loop { rec with state:= .done,pending:=some (eV q) })⟩ :: ⟨some D,.dI⟩ :: Lx q g) (.returned (.bool false)) nY:=
        il.ends (ρ:=fun _:γ=>I.of false) (Lo:=fun g=>⟨some l,.is (.loop { rec with state:= .done,pending:=some (eV q) })⟩ :: ⟨some D,.dI⟩ :: Lx q g) fh (List.Sublist.refl _) (of_bool.2 rfl)
       exact J5 aF bk key
   | exit id=>exact hq.elim
   | goto t=>exact hq.elim
   | ret=>exact hq.elim
   | panic I5=>exact hq.elim
   | outgrown=>exact hq.elim
 have ZJ:Is c.P f l7 Lin τ run kR me:=by rw [pq]; exact ky _ _ me
 have zv:=ZJ step cf g0 r aQ c.b2 hD (.func (.yield l) #[] #[]) hM zu It HB
 have jL:a.eval (.tmp gt)= .func (.func f) #[] hM.toArray:=by simp [Act.eval,Aq,u2]
 refine⟨l,[Dn D],hD,{ target:= .fn (.func f) hM.toArray,args:= #[.func (.yield l) #[] #[]] },hD,f,#[.func (.yield l) #[] #[]] ++ hM.toArray,hD,As,?_,fun _ _=>trivial,?_,fun h=>by simp at h,?_⟩
 ·simp only [resolve,jL]
  simp [go_sem]
 ·simp [invoke,go_sem,eo.run]
 ·refine CallsIn.FN ?_
  have Hb:(#[.func (.yield l) #[] #[]] ++ hM.toArray:Array Value)=(.func (.yield l) #[] #[] :: hM).toArray:=by simp
  rw [Hb]
  refine zv.mono fun e Jj ⟨aaq,fh,he,a7,aE,aW,aX,bk⟩=> ?_
  subst he
  have nZ:=Au.after a7 aE (by simpa [aP] using aW) (by simpa [aP] using aX)
  rw [List.append_nil] at nZ
  cases r with
  | inl b8=>
    simp only [Lr] at nZ
    subst pq
    have A4:bG c E (⟨some l,.is (.loop rec)⟩ :: ⟨some D,.dI⟩ :: (Lin ++ Ls b8 fh)) a Jj:=nZ.perm (by
     exact List.perm_middle.trans (List.perm_middle.cons _))
    obtain⟨o,fY,hI⟩:=A4.own ⟨some l,.is (.loop rec)⟩ (by simp)
    have o8:o= .loop rec:=hI
    subst o8
    have m6:=run_endLoop (P:=c.P) fY (by rw [jZ]; simp)
    have mf:rec.pending=none:=by rw [jZ]
    rw [mf] at m6
    refine⟨none,_,m6,?_⟩
    have rM:=(A4.rb (i:=0) (cp':= .is (.loop { rec with state:= .exhausted })) (o':= .loop { rec with state:= .exhausted }) rfl rfl).ox 1
    rw [mf] at rM
    exact nz b8 rfl fh D _ _ (rM.mark D)
  | inr q=>
    simp only [Lr] at nZ
    subst At
    have A4:bG c E (⟨some l,.is (.loop { rec with state:= .done,pending:=some (eV q) })⟩ :: ⟨some D,.dI⟩ :: (Lin ++ Lx q fh)) a Jj:=nZ.perm (by
     exact List.perm_middle.trans (List.perm_middle.cons _))
    obtain⟨o,fY,hI⟩:=A4.own ⟨some l,.is (.loop { rec with state:= .done,pending:=some (eV q) })⟩ (by simp)
    have o8:o= .loop { rec with state:= .done,pending:=some (eV q) } :=hI
    subst o8
    have m6:=run_endLoop (P:=c.P) fY (by simp)
    refine⟨some (eV q),_,m6,?_⟩
    have rM:=(A4.rb (i:=0) (cp':= .is (.loop { rec with state:= .exhausted,pending:=some (eV q) })) (o':= .loop { rec with state:= .exhausted,pending:=some (eV q) }) rfl rfl).ox 1
    exact uu q rfl fh D _ _ (rM.mark D)
theorem TB {gt p:Nat} {assign body:Code} {f:FuncId} {l7:List I} {Lin:List aN} {α σ ε γ:Type} {τ:α→I} {run:∀ {σ ε:Type},(α→σ→Option (σ ⊕ ε))→σ→Option (σ ⊕ ε)}
 {Ls:σ→γ→List aN} {Lx:ε→γ→List aN} {step:α→σ→Option (σ ⊕ ε)} {cf:σ} {g0:γ} {r:σ ⊕ ε} (eV:ε→Code)
 (ao:c.rd=none) (eo:bH c.P f) (bZ:look E gt=some (.hy f l7)) (ky:y8 c.P f l7 Lin τ run) (aQ:run step cf=some r) (av:L=Lin ++ Ls cf g0) (hp:Nat.blt p c.n=true)
 (oe:∀ x s r,step x s=some r→ ∀ g (ld:World) (lu lf:List Nat) (l D:Nat) (rec:Loop),rec.state= .ready→
  ag ⟨c.P,c.n,ld,lu,lf,some l,[]⟩ (Exit.then (A2 ⟨c.P,c.n,ld,lu,lf,some l,[]⟩ l body (A1 ⟨c.P,c.n,ld,lu,lf,some l,[]⟩ eV l D { rec with state:= .busy } Ls Lx r)) (fun _ _ _=>False)) assign ((p,τ x) :: E) (⟨some l,.is (.loop rec)⟩ :: ⟨some D,.dI⟩ :: Ls s g))
 (nz:∀ b8,r= .inl b8→ ∀ g D,ae { c with ds:=D :: c.ds } Q .normal E (⟨some D,.dI⟩ :: (Lin ++ Ls b8 g)))
 (uu:∀ q,r= .inr q→ ∀ g D,ag { c with ds:=D :: c.ds } Q (eV q) E (⟨some D,.dI⟩ :: (Lin ++ Lx q g))):
 ag c Q (.rangeFunc (.tmp gt) #[p] assign body) E L:=
 La (run:=run) eV ao eo bZ (fun ay aS me=>ky.go (fun s g=>ay :: aS :: Ls s g) me) aQ av hp oe nz uu
theorem Se {P:Program} {fn:Func} {R:Ending→World→Prop} {a:Act} {W:World} (h:bodyPost P fn R .ret a W):bodyPostM Fence.wide 9 P fn R .ret a W:=by
 obtain⟨J,v,ab,aE⟩:=h
 show LeavesInM Fence.wide 9 P fn a.tmps R a.defers .returning W
 rw [J]
 exact⟨v,ab,aE⟩
theorem ae.q5 {P:Program} {fn:Func} {R:Ending→World→Prop} (k:ae c (bodyPost P fn R) .ret E L):ae c (bodyPost P fn R) .normal E L:=fun a W s=>k a W s
theorem ae.zM {fn:Func} {R:Ending→World→Prop} (k:ae c (bodyPost c.P fn R) .ret E L):ae c (bodyPostM Fence.wide 9 c.P fn R) .ret E L:=fun a W s=>Se (k a W s)
theorem ae.Dl {fn:Func} {R:Ending→World→Prop} {D:Nat} (i:Nat) (av:L[i]? =some ⟨some D,.dI⟩) (h4:c.ds= [D]) (k:ae { c with ds:= [] } (bodyPost c.P fn R) .ret E (L.set i ⟨some D,.is (.deferred none)⟩)):
 ae c (bodyPostM Fence.wide 9 c.P fn R) .ret E L:=fun a W s=>by
 obtain⟨o,J,ab⟩:=s.own _ (List.mem_of_getElem? av)
 have lj:o= .deferred (some []):=ab
 subst lj
 have s2:=s.rb av (cp':= .is (.deferred none)) (o':= .deferred none) rfl
 have kT:bG { c with ds:= [] } E (L.set i ⟨some D,.is (.deferred none)⟩) { a with defers:= [] } (W.putObj D (.deferred none)):=
  {defers:=rfl,size:=s2.size,env:=s2.env,dw:=s2.dw,own:=s2.own,nodup:=s2.nodup,lt:=s2.lt,fH:=s2.fH,eQ:=s2.eQ }
 obtain⟨_,v,aE,aW⟩:=k _ _ kT
 show LeavesInM Fence.wide 9 c.P fn a.tmps R a.defers .returning W
 rw [s.defers,h4]
 exact⟨by simp,.inl ⟨D,_,rfl,run_takeDeferred J,v,aE,aW⟩⟩
end
theorem bn.Vm {P:Program} {f:FuncId} {fn:Func} {code:Code} {n:Nat} {τs:List I} {ρ:I} (a7:P.funcs[f]? =some fn) (hb:fn.body=some code) (aO:fn.ntmps=n) (hlen:Nat.ble τs.length n=true)
 (h:∀ W A,ag ⟨P,n,W,[],A,none,[]⟩ (bodyPostM Fence.wide 9 P fn fun e W'=> ∃ v,e= .returned v∧Fr [] W W'∧ρ.holds A W' v) code (params 0 τs) []):bn P f τs ρ:=by
 intro A W vs fL a3
 refine(callsIn_wide (n:=9)).1 (callsIn_of_wp_marks a7 hb trivial (h W A _ _ ?_))
 have al:=a3.length
 have hle:τs.length≤n:=Nat.le_of_ble_eq_true hlen
 exact
 {defers:=rfl
  size:=by simp [aO,al]; omega
  env:=fun t τ lg=>by
   obtain⟨_,v,ab,aE⟩:=tB a3 0 t τ lg
   refine⟨v,?_,aE⟩
   have cv:t < vs.length:=(List.getElem?_eq_some_iff.1 ab).1
   rw [Array.getElem?_append_left (by simpa using cv)]
   simpa using ab
  dw:= .refl _ _
  own:=by simp
  nodup:=by simp [aP]
  lt:=by simp [aP]
  fH:=by simp [aP]
  eQ:=fun k aq=>⟨fL k aq,by simp [aP]⟩ }
theorem bn.ofM {P:Program} {f:FuncId} {fn:Func} {code:Code} {n:Nat} {τs:List I} {ρ:I} (a7:P.funcs[f]? =some fn) (hb:fn.body=some code) (aO:fn.ntmps=n) (hlen:Nat.ble τs.length n=true)
 (h:∀ W A,ag ⟨P,n,W,[],A,none,[]⟩ (bodyPostM Fence.wide 9 P fn (uI ⟨P,n,W,[],A,none,[]⟩ ρ)) code (params 0 τs) []):bn P f τs ρ:=bn.Vm a7 hb aO hlen h
theorem cG.ofM {P:Program} {f:FuncId} {fn:Func} {code:Code} {n:Nat} {τs:List I} {Lin:List aN} {δ:Type} {ρ:δ→I} {Lo:δ→List aN} (a7:P.funcs[f]? =some fn) (hb:fn.body=some code) (aO:fn.ntmps=n) (hlen:Nat.ble τs.length n=true)
 (h:∀ W A,ag ⟨P,n,W,aP Lin,A,none,[]⟩ (bodyPostM Fence.wide 9 P fn (jV (aP Lin) A W ρ Lo)) code (params 0 τs) Lin):cG P f τs Lin ρ Lo:=by
 intro A W vs fL hA cv hT a3
 refine(callsIn_wide (n:=9)).1 (callsIn_of_wp_marks a7 hb trivial (h W A _ _ ?_))
 have al:=a3.length
 have hle:τs.length≤n:=Nat.le_of_ble_eq_true hlen
 exact
 {defers:=rfl
  size:=by simp [aO,al]; omega
  env:=fun t τ lg=>by
   obtain⟨_,v,ab,aE⟩:=tB a3 0 t τ lg
   refine⟨v,?_,aE⟩
   have cv:t < vs.length:=(List.getElem?_eq_some_iff.1 ab).1
   rw [Array.getElem?_append_left (by simpa using cv)]
   simpa using ab
  dw:= .refl _ _
  own:=hT
  nodup:=hA
  lt:=cv
  fH:=fun k aq _=>aq
  eQ:=fL }
end Gv
namespace Gv
open Go
set_option linter.unusedVariables false
set_option linter.unusedSimpArgs false
theorem Fb {τ σ:I} (h:τ.Flat) (k:σ.Flat):(I.eI [τ,σ]).Flat:=fun A W c0 W' v ⟨vs,J,ab⟩=>by
 refine⟨vs,J,?_⟩
 generalize vs.toList=l at ab
 cases ab with
 | cons a r=>cases r with
   | cons b r=>cases r; exact .cons (h _ _ _ _ _ a) (.cons (k _ _ _ _ _ b) .nil)
section
variable {c:c8} {E:List (Nat × I)} {L:List aN} {ops:Array Oper} {Q:Exit→Act→World→Prop}
variable {d:Option Tmp} {ty:TypeId} {pos:String} {af:Array Edge} {g:Option (Nat × Bool)} {x y:Operand} {t t2:TypeId}
theorem b3.via {o:Oper} {τ:I} {E':List (Nat × I)} {aC:List aN} (a7:τ.Flat) (hs:∀ a W,bG c E L a W→bG c E' aC a W) (h:b3 c E' aC o τ):b3 c E L o τ:=fun a W st=>by
 have:=h a W (hs a W st)
 unfold gj at this ⊢
 exact Oper.wp_mono (fun gI W' ⟨v,J,ab,aE⟩=>⟨v,J,ab,a7 _ _ _ _ _ aE⟩) this
theorem bG.tell {a:Act} {W:World} (s:bG c E L a W) {fa:Nat} {σ τ:I} (al:look E fa=some σ) (h:∀ v,σ.holds (aP L ++ c.b2) W v→τ.holds (aP L ++ c.b2) W v):bG c ((fa,τ) :: E) L a W:=by
 refine { s with env:=fun t ma ev=> ?_ }
 simp only [look] at ev
 by_cases e:Nat.beq fa t=true
 ·rw [e] at ev
  simp only [cond_true,Option.some.injEq] at ev
  subst ev
  have:=ep.1 e
  subst this
  obtain⟨v,J,ab⟩:=s.env fa _ al
  exact⟨v,J,h v ab⟩
 ·simp only [Bool.not_eq_true] at e
  rw [e] at ev
  exact s.env t ma ev
theorem bG.Ob {a:Act} {W:World} (s:bG c E L a W) {i p:Nat} {α:Type} [ah α] {z:α} (av:L[i]? =some ⟨some p,.var z⟩):
 (I.ptr z).holds (aP (L.set i ⟨none,.dead⟩) ++ c.b2) W (.pointer (some ⟨p,0,none⟩)):=by
 obtain⟨o,eA,cs,T,rfl,aQ⟩:=s.own _ (List.mem_of_getElem? av)
 have hlen:cs.toList.length=ah.size α:=ah.len aQ
 refine⟨p,0,cs,T,(0,0),rfl,s.yK av,eA,by simp at hlen; omega,?_⟩
 rw [List.drop_zero,← hlen,List.take_length]
 have kJ:=vG (L:=L) (i:=i) (cp:= .dead)
 exact ah.mono (.drop fun k hm=>by
  rcases List.mem_append.1 hm with hm | hm
  ·exact List.mem_append.2 (.inl (kJ.subset hm))
  ·exact List.mem_append.2 (.inr hm)) aQ
abbrev Av (f p:Nat):Value:= .func (.func f) #[.pointer (some ⟨p,0,none⟩)] #[]
theorem WQ {f p:Nat} (an:bb c E L x (.eq (.pointer (some ⟨p,0,none⟩)))):b3 c E L ⟨d,.makeFunc (.func f) #[x] #[],ty,pos,af,g⟩ (.eq (Av f p)):= .pure fun a W s=>by
 have h:=an a W s
 refine⟨_,?_,rfl⟩
 have cR:a.eval x= .pointer (some ⟨p,0,none⟩):=h
 simp [execOp,Instr.makeFunc,cR,Av]
theorem Uz {f p:Nat} {α β γ δ:Type} [ah α] [ah β] [ah γ] [ah δ] {z:δ} {F:α→β→Option γ} {P:Program} (eo:bH P f) (h:∀ x y r,F x y=some r→bn P f [.ptr z,.of x,.of y] (.of r)) {A:List Nat} {W:World}
 (hp:(I.ptr z).holds A W (.pointer (some ⟨p,0,none⟩))):(I.rk P F).holds A W (Av f p):=
 ⟨f,_,#[],rfl,eo,fun c0 W' e fL x y r nW xj nX a3 u2=>by simpa using h x y r nX c0 W' [_,nW,xj] fL (.cons (I.mono _ e hp) (.cons a3 (.cons u2 .nil)))⟩
theorem b3.N5 {o:Oper} {τ σ:I} {p:Nat} {α:Type} [ah α] {z:α} (i fa:Nat) (al:look E fa=some σ) (a3:∀ A W v,σ.holds A W v→v= .pointer (some ⟨p,0,none⟩)) (av:L[i]? =some ⟨some p,.var z⟩) (a7:τ.Flat)
 (h:b3 c ((fa,.ptr z) :: E) (L.set i ⟨none,.dead⟩) o τ):b3 c E L o τ:=
 .via a7 (fun a W s=>(s.kill i).tell (σ:=σ) al (fun v cE=>by rw [a3 _ _ _ cE]; exact s.Ob av)) h
theorem b3.Va {o:Oper} {τ:I} {p f:Nat} {α β γ δ:Type} [ah α] [ah β] [ah γ] [ah δ] {z:δ} {F:α→β→Option γ} (i fa:Nat) (al:look E fa=some (.eq (Av f p))) (av:L[i]? =some ⟨some p,.var z⟩) (eo:bH c.P f)
 (nX:∀ x y r,F x y=some r→bn c.P f [.ptr z,.of x,.of y] (.of r)) (a7:τ.Flat) (h:b3 c ((fa,.rk c.P F) :: E) (L.set i ⟨none,.dead⟩) o τ):b3 c E L o τ:=
 .via a7 (fun a W s=>(s.kill i).tell al (fun v cE=>by have ZK:v=Av f p:=cE; rw [ZK]; exact Uz eo nX (s.Ob av))) h
theorem b3.WN {o:Oper} {τ:I} {p cap T:Nat} {key:Option Nat} {β γ:Type} [ah β] [ah γ] {b b':β} {xs:List γ} {os os':List (Nat × Value)} (l:aI β (List γ)) (i j q:Nat) (e9:Nat.beq i j=false) (av:L[i]? =some ⟨some p,.cC b os⟩) (kA:L[j]? =some ⟨key,.row T xs cap⟩)
 (hq:os[q]? =some (l.off,aZ key xs.length cap)) (hb:l.set b xs=b') (j8:mS os l.off=os') (a7:τ.Flat) (h:b3 c E ((L.set j ⟨none,.dead⟩).set i ⟨some p,.cC b' os'⟩) o τ):b3 c E L o τ:=
 .via a7 (fun a W s=>s.iW l (fun e=>by rw [e,Nat.beq_refl] at e9; cases e9) av kA q hq hb j8) h
theorem b3.U9 {o:Oper} {τ:I} {p cap T:Nat} {key:Option Nat} {β γ:Type} [ah β] [ah γ] {b b':β} {xs:List γ} {os os':List (Nat × Value)} (l:aI β (List γ)) (i j q fa:Nat) (e9:Nat.beq i j=false) (av:L[i]? =some ⟨some p,.cC b os⟩) (kA:L[j]? =some ⟨key,.row T xs cap⟩)
 (hq:os[q]? =some (l.off,aZ key xs.length cap)) (hb:l.set b xs=b') (j8:mS os l.off=os') (lK:look E fa=some (.eq (aZ key xs.length cap))) (a7:τ.Flat) (h:b3 c ((fa,.of xs) :: E) ((L.set j ⟨none,.dead⟩).set i ⟨some p,.cC b' os'⟩) o τ):b3 c E L o τ:=
 .via a7 (fun a W s=>s.sx l (fun e=>by rw [e,Nat.beq_refl] at e9; cases e9) av kA q hq hb j8 lK) h
theorem b3.N4 {o:Oper} {τ:I} {p:Nat} {β:Type} [ah β] {b:β} (i:Nat) (av:L[i]? =some ⟨some p,.cC b []⟩) (a7:τ.Flat) (h:b3 c E (L.set i ⟨some p,.var b⟩) o τ):b3 c E L o τ:=
 .via a7 (fun a W s=>s.wv (cp':= .var b) av (fun o ⟨cs,T,J,ab⟩=>⟨cs,T,J,ab.1⟩) id) h
theorem KK {P:Program} {T:TypeId} {e:TypeId} (h:P.underlying T=some (.pointer e)) (p:Addr) (W:World) (n:Nat):(Op.equalIn (n + 1) T (.pointer (some p)) (.pointer none)).run P W= .ok false W:=by
 simp [Op.equalIn,run_underlying h]
theorem ME {p:Addr} {e:TypeId} (hu:c.P.underlying t=some (.pointer e)) (an:bb c E L x (.eq (.pointer (some p)))):b3 c E L ⟨d,.binOp .eql t x (.const (.pointer none)) t2,ty,pos,af,g⟩ (.of false):= .pure fun a W s=>by
 have aO:a.eval (.const (.pointer none))= .pointer none:=rfl
 have J:a.eval x= .pointer (some p):=an a W s
 refine⟨.bool false,?_,of_bool.2 rfl⟩
 simp only [execOp,eqGuard,binOp,J,aO,Op.equal,Op.maxDepth]
 simp [KK hu p W 9999]
theorem Ue {γ:Type} [ah γ] {r:γ} {e:TypeId} (hu:c.P.underlying t=some (.pointer e)) (an:bb c E L x (.ptr r)):b3 c E L ⟨d,.binOp .eql t x (.const (.pointer none)) t2,ty,pos,af,g⟩ (.of false):= .pure fun a W s=>by
 have aO:a.eval (.const (.pointer none))= .pointer none:=rfl
 obtain⟨b,off,cur,T,hl,J,_⟩:=an a W s
 refine⟨.bool false,?_,of_bool.2 rfl⟩
 simp only [execOp,eqGuard,binOp,J,aO,Op.equal,Op.maxDepth]
 simp [KK hu _ W 9999]
theorem ag.cd {code:Code} (i:Nat) {e:aN} (h:L[i]? =Option.some e) (k:ag c Q code E (e :: L.eraseIdx i)):ag c Q code E L:=fun a W s=>k a W (s.cd h)
theorem ag.HN {z:Code} {p:Nat} {β γ:Type} [ah β] [ah γ] {b b':β} {os:List (Nat × Value)} {u:Value} (l:aI β (List γ)) (i q:Nat) (av:L[i]? =Option.some ⟨Option.some p,.cC b os⟩) (hq:os[q]? =Option.some (l.off,u)) (hb:l.set b []=b')
 (k:ag c Q z E (L.set i ⟨Option.some p,.cC b' os⟩)):ag c Q z E L:=fun a W s=>
 k a W (s.again (cp':= .cC b' os) av (fun A W o ⟨cs,T,J,ab⟩=>⟨cs,T,J,hb ▸ Fu l ab (List.mem_of_getElem? hq)⟩) id)
def jx (c:c8) (E:List (Nat × I)) (L:List aN) (o:Oper) (τ:I):Prop:=
 ∀ a W,bG c E L a W→gj c.P o a W fun v W'=>bG c E L a W'∧τ.holds (aP L ++ c.b2) W' v
theorem ak.qd {o:Oper} {rest:List Oper} {d:Nat} {τ:I} (h:jx c E L o τ) (bZ:o.guard=none) (hd:o.dst=some d) (aO:Nat.blt d c.n=true)
 (k:ak c ops Q rest ((d,τ) :: E) L):ak c ops Q (o :: rest) E L:=fun a W s=>
 ib bZ (h a W s) fun v W' ⟨f,a3⟩=>by
  rw [hd]
  exact k _ _ (f.put (by simpa using aO) a3)
def oB (L:List aN):List Nat→List aN→Prop
 | [],[]=>True
 | i :: is,e :: es=>L[i]? =some e∧oB L is es
 | _,_=>False
theorem Km {L:List aN} {i j:Nat} (h:i≠j):(L.eraseIdx i)[if j < i then j else j - 1]? =L[j]? :=by
 rw [List.getElem?_eraseIdx]
 by_cases J:j < i
 ·simp [J]
 ·have: ¬ (j - 1 < i):=by omega
  simp only [J,if_false,this]
  congr 1; omega
theorem oB.shift {L:List aN} {i:Nat} :∀ {is:List Nat} {es:List aN},oB L is es→i ∉ is→oB (L.eraseIdx i) (is.map fun j=>if j < i then j else j - 1) es
 | [],[],_,_=>trivial
 | j :: is,e :: es,⟨J,ab⟩,aO=>by
   simp only [List.mem_cons,not_or] at aO
   exact⟨by rw [Km aO.1]; exact J,oB.shift ab aO.2⟩
theorem Ku {i:Nat} :∀ {is:List Nat},is.Nodup→i ∉ is→ (is.map fun j=>if j < i then j else j - 1).Nodup
 | [],_,_=>by simp
 | j :: is,h,aO=>by
   simp only [List.mem_cons,not_or] at aO
   obtain⟨J,ab⟩:=List.nodup_cons.1 h
   refine List.nodup_cons.2 ⟨fun hm=> ?_,Ku ab aO.2⟩
   obtain⟨k,aq,he⟩:=List.mem_map.1 hm
   have uY:k≠i:=fun e=>aO.2 (e ▸ aq)
   have aba:k≠j:=fun e=>J (e ▸ aq)
   have jb:j≠i:=fun e=>aO.1 e.symm
   have DL:(if k < i then k else k - 1)=(if j < i then j else j - 1):=he
   split at DL <;> split at DL <;> omega
theorem oB.perm:∀ {is:List Nat} {es L:List aN},oB L is es→is.Nodup→ ∃ R,L.Perm (es ++ R)
 | [],[],L,_,_=>⟨L,List.Perm.refl _⟩
 | i :: is,e :: es,L,⟨J,ab⟩,aO=>by
   obtain⟨mD,nQ⟩:=List.nodup_cons.1 aO
   obtain⟨R,fJ⟩:=(ab.shift mD).perm (Ku nQ mD)
   exact⟨R,(r6 J).trans (fJ.cons e)⟩
 termination_by is=>is.length
 decreasing_by simp
theorem jx.call {f:FuncId} {xs:List Operand} {ats:Array TypeId} {τs:List I} {Lin:List aN} {ρ:Unit→I} {Lo:Unit→List aN} (is:List Nat) (eo:bH c.P f) (h:cG c.P f τs Lin ρ Lo)
 (an:hO c E L xs τs) (aO:decide is.Nodup=true) (hp:oB L is Lin) (al:Lo ()=Lin):jx c E L ⟨d,.call ⟨.value (.func f),xs.toArray,ats⟩,ty,pos,af,g⟩ (ρ ()):=fun a W s=>by
 obtain⟨R,fJ⟩:=hp.perm (of_decide_eq_true aO)
 have b8:=s.perm fJ
 have Ix:=tK fJ
 have DU:∀ k,k∈aP L ++ c.b2↔k∈aP (Lin ++ R) ++ c.b2:=fun k=>by
  simp only [List.mem_append]; rw [Ix.mem_iff]
 have cE:gW (aP (Lin ++ R) ++ c.b2) W τs (xs.map a.eval):=(an.MT s).mono (.drop fun k hm=>(DU k).2 hm)
 have bo:=yB (d:=d) (ty:=ty) (pos:=pos) (af:=af) (g:=g) (ats:=ats) eo h b8 cE
 unfold gj at bo ⊢
 refine Oper.wp_mono (fun gI W' ⟨v,J,bc,ab,aE⟩=>⟨v,J,?_,?_⟩) bo
 ·cases bc; rw [al] at ab; exact ab.perm fJ.symm
 ·cases bc
  rw [al] at aE
  exact I.mono _ (.drop fun k hm=>(DU k).1 hm) aE
theorem oB.set {L:List aN} {i j:Nat} {x y ay aS:aN} (e9:i≠j) (aj:L[i]? =some ay) (aF:L[j]? =some aS):∃ R,L.Perm (ay :: aS :: R)∧ ((L.set i x).set j y).Perm (x :: y :: R):=by
 have HZ:oB L [i,j] [ay,aS]:=⟨aj,aF,trivial⟩
 have hle:∀ M:List aN,∀ u v:aN,M[i]? =some u→M[j]? =some v→M.Perm (u :: v :: (M.eraseIdx i).eraseIdx (if j < i then j else j - 1)):=fun M u v J ab=>
  (r6 J).trans ((r6 (by rw [Km e9]; exact ab)).cons u)
 refine⟨_,hle L ay aS aj aF,?_⟩
 have hZ:=(List.getElem?_eq_some_iff.1 aj).1
 have Iy:=(List.getElem?_eq_some_iff.1 aF).1
 have J:=hle ((L.set i x).set j y) x y (by rw [List.getElem?_set_ne (Ne.symm e9),List.getElem?_set_self hZ]) (by rw [List.getElem?_set_self (by simpa using Iy)])
 have ab:((L.set i x).set j y).eraseIdx i=(L.eraseIdx i).set (if j < i then j else j - 1) y:=by
  apply List.ext_getElem?
  intro k
  simp only [List.getElem?_eraseIdx,List.getElem?_set,List.length_set,List.length_eraseIdx,hZ,if_true]
  by_cases aq:k < i <;> by_cases jb:j < i <;> simp only [aq,jb,if_true,if_false] <;> (repeat' split) <;> first | rfl | omega | skip
 rw [ab,List.eraseIdx_set_eq] at J
 exact J
theorem ak.Vb {rest:List Oper} {bc:Nat} {f:FuncId} {xs:List Operand} {ats:Array TypeId} {τs:List I} {ay aS:aN} {δ:Type} {ρ:δ→I} {Lo:δ→List aN} (lo:δ→aN) (i j:Nat) (eo:bH c.P f) (h:cG c.P f τs [ay,aS] ρ Lo)
 (an:hO c E L xs τs) (e9:Nat.beq i j=false) (aj:L[i]? =some ay) (aF:L[j]? =some aS) (g6:∀ q,Lo q= [lo q]) (aO:Nat.blt bc c.n=true) (k:∀ q,ak c ops Q rest ((bc,ρ q) :: E) ((L.set i (lo q)).set j ⟨none,.dead⟩)):
 ak c ops Q (⟨some bc,.call ⟨.value (.func f),xs.toArray,ats⟩,ty,pos,af,none⟩ :: rest) E L:=fun a W s=>by
 have dk:i≠j:=fun e=>by rw [e,Nat.beq_refl] at e9; cases e9
 obtain⟨R,fJ,_⟩:=oB.set (x:=ay) (y:=aS) dk aj aF
 have b8:=s.perm fJ
 have Ix:=tK fJ
 have DU:∀ k,k∈aP L ++ c.b2↔k∈aP ([ay,aS] ++ R) ++ c.b2:=fun k=>by
  simp only [List.mem_append]; rw [Ix.mem_iff]; simp [e0]
 have cE:gW (aP ([ay,aS] ++ R) ++ c.b2) W τs (xs.map a.eval):=(an.MT s).mono (.drop fun k hm=>(DU k).2 hm)
 refine ib rfl (yB (Lin:= [ay,aS]) eo h b8 cE) fun v W' ⟨q,ab,aE⟩=> ?_
 refine k q _ _ ?_
 obtain⟨Eh,ZL,Pu⟩:=oB.set (x:=lo q) (y:=⟨none,.dead⟩) dk aj aF
 have Iz:(ay :: aS :: R).Perm (ay :: aS :: Eh):=fJ.symm.trans ZL
 have OU:R.Perm Eh:=(Iz.cons_inv).cons_inv
 rw [g6] at ab aE
 have aW:bG c E (lo q :: ⟨none,.dead⟩ :: R) a W':= { ab with
  own:=fun e he=>by
   simp only [List.mem_cons] at he
   rcases he with rfl | rfl | he
   ·exact ab.own _ (by simp)
   ·trivial
   ·exact ab.own _ (by simp [he]) }
 have aX:bG c E ((L.set i (lo q)).set j ⟨none,.dead⟩) a W':=aW.perm (((OU.cons _).cons _).trans Pu.symm)
 have bk:(aP ((L.set i (lo q)).set j ⟨none,.dead⟩)).Perm (aP (lo q :: R)):=by
  have:=tK (Pu.trans ((OU.symm.cons _).cons _))
  simpa [aP] using this
 refine aX.put (by simpa using aO) (I.mono _ (.drop fun k hm=> ?_) aE)
 rcases List.mem_append.1 hm with hm | hm
 ·exact List.mem_append.2 (.inl (bk.mem_iff.1 hm))
 ·exact List.mem_append.2 (.inr hm)
theorem HS {L:List aN} {i:Nat} {x e:aN} (h:L[i]? =some x):(L.set i e)[i]? =some e:=by
 rw [List.getElem?_set_self (List.getElem?_eq_some_iff.1 h).1]
theorem O9 {L:List aN} {i j:Nat} {r:Option aN} {e:aN} (aO:Nat.beq j i=false) (h:L[i]? =r):(L.set j e)[i]? =r:=by
 rw [List.getElem?_set_ne (fun e=>by rw [e,Nat.beq_refl] at aO; cases aO)]; exact h
theorem ae.again {z:Exit} {key:Option Nat} {cp:dB} (cp':dB) (i:Nat) (av:L[i]? =some ⟨key,cp⟩) (h:∀ A W o,cp.holds A W o→cp'.holds A W o) (aO:cp.l1→cp'.l1) (k:ae c Q z E (L.set i ⟨key,cp'⟩)):ae c Q z E L:=fun a W s=>
 k a W (s.again av h aO)
end
end Gv
namespace Gv
open Go
set_option linter.unusedVariables false
set_option linter.unusedSimpArgs false
abbrev aK (α:Type):=(α→Prop)→Prop
def aK.of {α:Type} (o:Option α):aK α:=fun Q=> ∃ r,o=some r∧Q r
def aK.bind {α β:Type} (m:aK α) (k:α→aK β):aK β:=fun Q=>m fun r=>k r Q
def aK.ret {α:Type} (x:α):aK α:=fun Q=>Q x
def o1 {σ ε:Type} :Nat→ (σ→aK (σ ⊕ ε))→σ→aK ε
 | 0,_,_=>fun _=>False
 | n + 1,b,s=>fun Q=>b s fun r=>match r with
   | .inl b8=>o1 n b b8 Q
   | .inr e=>Q e
abbrev bg (b6:Type):=List (Nat × b6)
abbrev Ref:=Option Nat
instance aaM:ah Ref:= .scalar (fun x=>Value.pointer (x.map fun p=>⟨p,0,none⟩)) fun _=>rfl
theorem wx {A W v} {x:Ref} :(I.of x).holds A W v↔v= .pointer (x.map fun p=>⟨p,0,none⟩):=
 ⟨fun h=>n5 h.1 h.2,fun h=>by subst h; exact⟨rfl,rfl⟩⟩
instance:ba Ref:=⟨[.pointer none],fun _ _=>rfl⟩
def aK.mk {b6:Type} (hp:bg b6) (k:b6):aK (Nat × bg b6):=fun Q=> ∀ a:Nat × bg b6,a.1 ∉ hp.map (·.1)∧a.2=(a.1,k) :: hp→Q a
theorem aK.se {b6 α:Type} {hp:bg b6} {c:b6} {k:Nat × bg b6→aK α} {R:α→Prop} (h:aK.bind (aK.mk hp c) k R) (a:Nat × bg b6) (a9:a.1 ∉ hp.map (·.1)∧a.2=(a.1,c) :: hp):k a R:=h a a9
class fi (b6:Type) where
 ih:Nat→b6→List aN
 root:∀ p k,∃ e∈ih p k,e.key=some p
def bz {b6:Type} [fi b6]:bg b6→List aN
 | []=> []
 | (p,k) :: r=>fi.ih p k ++ bz r
def pat {b6:Type} :bg b6→Nat→Option b6
 | [],_=>none
 | (q,k) :: r,p=>if q=p then some k else pat r p
def ea {b6:Type} :bg b6→Nat→b6→bg b6
 | [],_,_=> []
 | (q,k) :: r,p,k'=>if q=p then(q,k') :: r else(q,k) :: ea r p k'
def eG {b6:Type} (hp:bg b6):List Nat:=hp.map (·.1)
theorem vY {b6:Type} [fi b6]:∀ {hp:bg b6} {p:Nat} {k:b6},pat hp p=some k→ ∃ R,(bz hp).Perm (fi.ih p k ++ R)∧ ∀ k',(bz (ea hp p k')).Perm (fi.ih p k' ++ R)
 | [],_,_,h=>by simp [pat] at h
 | (q,Jk) :: r,p,k,h=>by
   simp only [pat] at h
   split at h
   ·rename_i e
    subst e
    simp only [Option.some.injEq] at h
    subst h
    exact⟨bz r,.refl _,fun k'=>by simp only [ea,if_pos]; exact .refl _⟩
   ·rename_i e
    obtain⟨R,J,ab⟩:=vY h
    refine⟨fi.ih q Jk ++ R,?_,fun k'=> ?_⟩
    ·exact(J.append_left (fi.ih q Jk)).trans (by rw [← List.append_assoc,← List.append_assoc]; exact List.perm_append_comm.append_right R)
    ·simp only [ea,if_neg e]
     exact((ab k').append_left (fi.ih q Jk)).trans (by rw [← List.append_assoc,← List.append_assoc]; exact List.perm_append_comm.append_right R)
theorem MX {b6:Type} [fi b6] {hp:bg b6} {p:Nat} (h:p∈eG hp):p∈aP (bz hp):=by
 induction hp with
 | nil=>simp [eG] at h
 | cons x r bO=>
   obtain⟨q,k⟩:=x
   simp only [eG,List.map_cons,List.mem_cons] at h
   simp only [bz,e0,List.mem_append]
   rcases h with h | h
   ·subst h
    obtain⟨e,he,aq⟩:=fi.root p k
    exact .inl (kH.2 ⟨e,he,aq⟩)
   ·exact .inr (bO h)
theorem lC {b6:Type} {hp:bg b6} {p:Nat} {k:b6} (h:pat hp p=some k):p∈eG hp:=by
 induction hp with
 | nil=>simp [pat] at h
 | cons x r bO=>
   simp only [pat] at h
   split at h
   ·rename_i e; simp [eG,e]
   ·simp only [eG,List.map_cons,List.mem_cons]; exact .inr (bO h)
theorem tL {b6:Type} {hp:bg b6} {p:Nat} {k:b6} :eG (ea hp p k)=eG hp:=by
 induction hp with
 | nil=>rfl
 | cons x r bO=>simp only [ea]; split <;> simp_all [eG]
theorem yY {b6:Type} {hp:bg b6} {p q:Nat} {k:b6} :pat (ea hp p k) q=if p=q then(pat hp p).map (fun _=>k) else pat hp q:=by
 induction hp with
 | nil=>simp [ea,pat]
 | cons x r bO=>
   simp only [ea]
   by_cases e:x.1=p
   ·rw [if_pos e]
    by_cases h:p=q
    ·simp [pat,e,h]
    ·have: ¬ x.1=q:=fun cR=>h (e ▸ cR)
     simp [pat,e,h]
   ·rw [if_neg e]
    by_cases h:p=q
    ·subst h
     rw [if_pos rfl] at bO ⊢
     simp [pat,e,bO]
    ·rw [if_neg h] at bO ⊢
     simp [pat,bO]
section
variable {c:c8} {E:List (Nat × I)} {L:List aN} {ops:Array Oper} {Q:Exit→Act→World→Prop}
variable {d:Option Tmp} {ty:TypeId} {pos:String} {af:Array Edge} {g:Option (Nat × Bool)} {x y:Operand} {t t2:TypeId}
theorem TN {L aC:List aN} (p:L.Perm aC) {A:List Nat} (k:Nat):k∈aP L ++ A↔k∈aP aC ++ A:=by
 simp only [List.mem_append]; rw [(tK p).mem_iff]
theorem mO {L aC:List aN} (p:L.Perm aC) {A:List Nat} {W:World} :Ext (aP L ++ A) W (aP aC ++ A) W:= .drop fun k hm=>(TN p k).2 hm
theorem bb.perm {aC:List aN} {x:Operand} {τ:I} (p:L.Perm aC) (h:bb c E L x τ):bb c E aC x τ:=fun a W s=>
 τ.mono (mO p) (h a W (s.perm p.symm))
theorem b3.perm {aC:List aN} {o:Oper} {τ:I} (p:L.Perm aC) (h:b3 c E L o τ):b3 c E aC o τ:=fun a W s=>by
 have:=h a W (s.perm p.symm)
 unfold gj at this ⊢
 exact Oper.wp_mono (fun gI W' ⟨v,J,ab,aE⟩=>⟨v,J,ab,τ.mono (mO p) aE⟩) this
theorem ak.perm {l:List Oper} {aC:List aN} (p:L.Perm aC) (h:ak c ops Q l E L):ak c ops Q l E aC:=fun a W s=>h a W (s.perm p.symm)
theorem ht {x:Operand} {r:Ref} {p:Nat} (an:bb c E L x (.of r)) (h:r=some p):bb c E L x (.eq (.pointer (some ⟨p,0,none⟩))):=fun a W s=>by
 subst h
 exact wx.1 (an a W s)
theorem r2:bb c E L (.const (.pointer none)) (.of (none:Ref)):=fun a W s=>wx.2 rfl
variable {b6:Type} [fi b6] {hp:bg b6} {loc:List aN}
theorem iH {p n:Nat} {k:b6} {e:aN} (av:L.drop n=bz hp) (h:pat hp p=some k) (aq:fi.ih p k= [e]):e∈L:=by
 obtain⟨R,J,_⟩:=vY h
 rw [aq] at J
 have:e∈L.drop n:=by rw [av]; exact J.mem_iff.2 (by simp)
 exact List.mem_of_mem_drop this
theorem oz {aC:List aN} {e:aN} (av:∀ (i:Nat) (e:aN),L[i]? =some e→aC[i]? =some e) (h:e∈L):e∈aC:=by
 obtain⟨i,aj⟩:=List.mem_iff_getElem?.1 h
 exact List.mem_of_getElem? (av i e aj)
theorem kk {x:Operand} {t:TypeId} {p o:Nat} {β γ:Type} [ah β] [ah γ] {b:β} (l:aI β γ) {r:γ} (en:bA c.P t γ) (an:bb c E L x (.eq (.pointer (some ⟨p,o,none⟩))))
 (hm:(⟨some p,.var b⟩:aN)∈L) (bo:o=l.off) (aQ:l.get b=r):b3 c E L ⟨d,.load t x,ty,pos,af,g⟩ (.of r):=by
 obtain⟨i,aj⟩:=List.mem_iff_getElem?.1 hm
 exact fb (i:=i) l en an aj bo aQ
theorem ak.UA {x y:Operand} {t:TypeId} {rest:List Oper} {p o:Nat} {k k':b6} {β γ:Type} [ah β] [ah γ] {b b':β} {v:γ} (l:aI β γ) (en:bA c.P t γ) (an:bb c E (loc ++ bz hp) x (.eq (.pointer (some ⟨p,o,none⟩))))
 (a4:bb c E (loc ++ bz hp) y (.of v)) (hp':pat hp p=some k) (aq:fi.ih p k= [⟨some p,.var b⟩]) (j5:fi.ih p k'= [⟨some p,.var b'⟩]) (bo:o=l.off) (hb:l.set b v=b')
 (mH:ak c ops Q rest E (loc ++ bz (ea hp p k'))):ak c ops Q (⟨none,.store t x y,ty,pos,af,none⟩ :: rest) E (loc ++ bz hp):=by
 obtain⟨R,J,ab⟩:=vY hp'
 have ab:=ab k'
 rw [aq] at J
 rw [j5] at ab
 have fp:∀ {z:β} {M:List aN},M.Perm ([⟨some p,.var z⟩] ++ R)→ (loc ++ M).Perm (⟨some p,.var z⟩ :: (loc ++ R)):=fun h=>(h.append_left loc).trans (by simp only [List.singleton_append]; exact List.perm_middle)
 exact ak.perm (fp J).symm (ak.store (i:=0) l en (an.perm (fp J)) (a4.perm (fp J)) rfl bo hb (ak.perm (fp ab) mH))
theorem ak.pN {x y:Operand} {t:TypeId} {rest:List Oper} {p o:Nat} {k k':b6} {e1:bg b6} {β γ:Type} [ah β] [ah γ] {b b':β} {v:γ} (n:Nat) (av:L.drop n=bz hp) (l:aI β γ) (en:bA c.P t γ) (an:bb c E L x (.eq (.pointer (some ⟨p,o,none⟩)))) (a4:bb c E L y (.of v)) (hp':pat hp p=some k) (aq:fi.ih p k= [⟨some p,.var b⟩]) (j5:fi.ih p k'= [⟨some p,.var b'⟩]) (bo:o=l.off) (hb:l.set b v=b') (dh:ea hp p k'=e1) (mH:ak c ops Q rest E (L.take n ++ bz e1)):ak c ops Q (⟨none,.store t x y,ty,pos,af,none⟩ :: rest) E L:=by
 subst dh
 have e:L=L.take n ++ bz hp:=by rw [← av,List.take_append_drop]
 clear av
 generalize L.take n=loc at *
 subst e
 exact ak.UA l en an a4 hp' aq j5 bo hb mH
theorem bG.fresh {a:Act} {W:World} (s:bG c E (loc ++ bz hp) a W):W.heap.size ∉ eG hp:=fun h=>by
 have:=s.lt _ (by rw [e0]; exact List.mem_append.2 (.inr (MX h)))
 omega
theorem ak.Xm {t:TypeId} {x:Operand} {rest:List Oper} {bc:Nat} {α:Type} [ah α] {z:α} (mk:b6) (aq:∀ p,fi.ih p mk= [⟨some p,.var z⟩]) (an:bb c E (loc ++ bz hp) x (.of z)) (aO:Nat.blt bc c.n=true)
 (k:∀ p,p ∉ eG hp→ak c ops Q rest ((bc,.of (some p:Ref)) :: E) (loc ++ bz ((p,mk) :: hp))):ak c ops Q (⟨some bc,.box t x,ty,pos,af,none⟩ :: rest) E (loc ++ bz hp):=fun a W s=>by
 refine ib rfl (R:=fun v W'=>v= .pointer (some ⟨W.heap.size,0,none⟩)∧W'=W.alloc (.cells (a.eval x).cells t)) (.mo ?_ ⟨rfl,rfl⟩) fun v W' ⟨a3,hw⟩=> ?_
 ·simp [execOp,Instr.box,newVar,newRow]
 ·subst a3
  subst hw
  refine k _ s.fresh _ _ (bG.put ?_ (by simpa using aO) (wx.2 rfl))
  refine(s.alloc (cp:= .var z) ⟨_,t,rfl,(an a W s).2⟩).perm ?_
  simp only [bz,aq,List.singleton_append]
  exact List.perm_middle.symm
theorem ak.zz {t:TypeId} {x:Operand} {rest:List Oper} {bc:Nat} {α:Type} [ah α] {z:α} (n:Nat) (av:L.drop n=bz hp) (mk:b6) (aq:∀ p,fi.ih p mk= [⟨some p,.var z⟩]) (an:bb c E L x (.of z)) (aO:Nat.blt bc c.n=true) (k:∀ a:Nat × bg b6,a.1 ∉ hp.map (·.1)∧a.2=(a.1,mk) :: hp→ak c ops Q rest ((bc,.of (some a.1:Ref)) :: E) (L.take n ++ bz a.2)):ak c ops Q (⟨some bc,.box t x,ty,pos,af,none⟩ :: rest) E L:=by
 have e:L=L.take n ++ bz hp:=by rw [← av,List.take_append_drop]
 clear av
 generalize L.take n=loc at *
 subst e
 exact ak.Xm mk aq an aO fun p h=>k (p,(p,mk) :: hp) ⟨h,rfl⟩
theorem n8 {A B C:List aN} :((A ++ B) ++ C).Perm ((A ++ C) ++ B):=by
 rw [List.append_assoc,List.append_assoc]; exact List.perm_append_comm.append_left A
theorem ak.sv {rest:List Oper} {bc:Nat} {f:FuncId} {xs:List Operand} {ats:Array TypeId} {τs:List I} {Lin Lr:List aN} {δ:Type} {ρ:δ→I} {Lo:δ→List aN} {hq:δ→bg b6} (eo:bH c.P f) (h:cG c.P f τs (Lin ++ bz hp) ρ (fun d=>Lo d ++ bz (hq d)))
 (an:hO c E ((Lin ++ Lr) ++ bz hp) xs τs) (aO:Nat.blt bc c.n=true) (k:∀ q,ak c ops Q rest ((bc,ρ q) :: E) ((Lo q ++ Lr) ++ bz (hq q))):
 ak c ops Q (⟨some bc,.call ⟨.value (.func f),xs.toArray,ats⟩,ty,pos,af,none⟩ :: rest) E ((Lin ++ Lr) ++ bz hp):=fun a W s=>
 ib rfl (yB (Lr:=Lr) eo h (s.perm n8) ((an.holds a W s).mono (mO n8))) fun v W' ⟨q,b8,a3⟩=>
  k q _ _ ((b8.perm n8).put (by simpa using aO) ((ρ q).mono (mO n8) a3))
theorem ak.sw {rest:List Oper} {bc:Nat} {f:FuncId} {xs:List Operand} {ats:Array TypeId} {τs:List I} {Lin Lr:List aN} {δ:Type} {ρ:δ→I} {Lo:δ→List aN} {hq:δ→bg b6} (n m:Nat) (av:L.drop n=bz hp) (eo:bH c.P f) (h:cG c.P f τs (Lin ++ bz hp) ρ (fun d=>Lo d ++ bz (hq d)))
 (J:(L.take n).take m=Lin) (ab:(L.take n).drop m=Lr) (an:hO c E L xs τs) (aO:Nat.blt bc c.n=true) (k:∀ q,ak c ops Q rest ((bc,ρ q) :: E) ((Lo q ++ Lr) ++ bz (hq q))):
 ak c ops Q (⟨some bc,.call ⟨.value (.func f),xs.toArray,ats⟩,ty,pos,af,none⟩ :: rest) E L:=by
 have e:L=(Lin ++ Lr) ++ bz hp:=by rw [← J,← ab,List.take_append_drop,← av,List.take_append_drop]
 clear av J ab
 subst e
 exact ak.sv eo h an aO k
theorem jx.Vn {f:FuncId} {xs:List Operand} {ats:Array TypeId} {τs:List I} {ρ:I} (eo:bH c.P f) (h:cG c.P f τs (bz hp) (fun _:Unit=>ρ) (fun _=>bz hp))
 (an:hO c E (loc ++ bz hp) xs τs):jx c E (loc ++ bz hp) ⟨d,.call ⟨.value (.func f),xs.toArray,ats⟩,ty,pos,af,g⟩ ρ:=fun a W s=>by
 have fp:(loc ++ bz hp).Perm (bz hp ++ loc):=List.perm_append_comm
 have bo:=yB (d:=d) (ty:=ty) (pos:=pos) (af:=af) (g:=g) (ats:=ats) (Lr:=loc) eo h (s.perm fp) ((an.holds a W s).mono (mO fp))
 unfold gj at bo ⊢
 exact Oper.wp_mono (fun gI W' ⟨v,J,_,ab,aE⟩=>⟨v,J,ab.perm fp.symm,ρ.mono (mO fp.symm) aE⟩) bo
theorem jx.sv {f:FuncId} {xs:List Operand} {ats:Array TypeId} {τs:List I} {ρ:I} (n:Nat) (av:L.drop n=bz hp) (eo:bH c.P f) (h:cG c.P f τs (bz hp) (fun _:Unit=>ρ) (fun _=>bz hp)) (an:hO c E L xs τs):jx c E L ⟨d,.call ⟨.value (.func f),xs.toArray,ats⟩,ty,pos,af,g⟩ ρ:=by
 have e:L=L.take n ++ bz hp:=by rw [← av,List.take_append_drop]
 clear av
 generalize L.take n=loc at *
 subst e
 exact jx.Vn eo h an
theorem Ke {P:Program} {e:TypeId} (W:World) (n:Nat) {t:TypeId} (a:Option Addr) (h:P.underlying t=some (.pointer e)):(Op.equalIn (n + 1) t (.pointer a) (.pointer none)).run P W= .ok a.isNone W:=by
 cases a <;> simp [Op.equalIn,run_underlying h]
theorem sa {r:Ref} {e:TypeId} (hu:c.P.underlying t=some (.pointer e)) (an:bb c E L x (.of r)):b3 c E L ⟨d,.binOp .eql t x (.const (.pointer none)) t2,ty,pos,af,g⟩ (.of r.isNone):= .pure fun a W s=>by
 have J:=wx.1 (an a W s)
 refine⟨.bool r.isNone,?_,of_bool.2 rfl⟩
 have aO:a.eval (.const (.pointer none))= .pointer none:=rfl
 simp only [execOp,eqGuard,binOp,J,aO,Op.equal,Op.maxDepth]
 have:=Ke (P:=c.P) W 9999 (r.map fun p=>⟨p,0,none⟩) hu
 simp only [Option.isNone_map] at this
 simp [this]
theorem KV {r:Ref} {e:TypeId} (hu:c.P.underlying t=some (.pointer e)) (an:bb c E L x (.of r)):b3 c E L ⟨d,.binOp .neq t x (.const (.pointer none)) t2,ty,pos,af,g⟩ (.of r.isSome):= .pure fun a W s=>by
 have J:=wx.1 (an a W s)
 refine⟨.bool r.isSome,?_,of_bool.2 rfl⟩
 have aO:a.eval (.const (.pointer none))= .pointer none:=rfl
 simp only [execOp,eqGuard,binOp,J,aO,Op.equal,Op.maxDepth]
 have:=Ke (P:=c.P) W 9999 (r.map fun p=>⟨p,0,none⟩) hu
 simp only [Option.isNone_map] at this
 simp [this]
end
section
variable {c:c8} {E:List (Nat × I)} {L:List aN} {ops:Array Oper} {Q:Exit→Act→World→Prop}
theorem aK.c4 {α β:Type} {o:Option α} {k:α→aK β} {R:β→Prop} (h:aK.bind (aK.of o) k R):∃ r,o=some r∧k r R:=h
theorem SI {F:Fence} {n:Nat} {P:Program} {body:Code} {σ ε:Type} (b:σ→aK (σ ⊕ ε)) (fr:σ→Act→World→Prop) (X:ε→Exit→Act→World→Prop)
 (oe:∀ s R,b s R→ ∀ a W,fr s a W→body.wpIn F n P (fun x a W=>(∃ b8,R (.inl b8)∧x= .normal∧fr b8 a W)∨ ∃ e,R (.inr e)∧x≠ .normal∧X e x a W) a W)
 (Q:Exit→Act→World→Prop) (R:ε→Prop) (nw:∀ e x a W,R e→X e x a W→Q x a W) {cf:σ} {N:Nat} (al:o1 N b cf R) {fT:Act} {iD:World} (bP:fr cf fT iD):
 (Code.loop body).wpIn F n P Q fT iD:=by
 intro dw k cs w6 hb aQ
 have key:∀ N s,o1 N b s R→ ∀ a W,fr s a W→
  ∃ x gI W',Q x gI W'∧ArrivesIn (Machine.fenced P F) P (lone (dw.atR a (.code body :: .inLoop body :: k)) cs W) dw k cs x gI W':=by
  intro N
  induction N with
  | zero=>intro s h; exact h.elim
  | succ N bO=>
    intro s h a W ky
    obtain⟨x,wT,wU,hq,pY⟩:=oe s _ h a W ky dw (.inLoop body :: k) cs w6 hb aQ
    rcases hq with⟨b8,J,an,HT⟩ | ⟨e,J,an,I6⟩
    ·subst an
     obtain⟨Hu,Hv,Hw,G4,FO⟩:=bO b8 J wT wU HT
     exact⟨Hu,Hv,Hw,G4,.of_steps (StepsIn.trans pY (.one (fenced_calm hb aQ rfl) stepR_inLoop)) FO⟩
    ·exact⟨x,wT,wU,nw _ _ _ _ J I6,.pass (x:= .inLoop body) rfl (fun _ _=> .inl an) pY⟩
 obtain⟨x,gI,W',hq,pY⟩:=key N cf al fT iD bP
 exact⟨x,gI,W',hq,.of_steps (.one (fenced_calm hb aQ rfl) stepR_loop) pY⟩
def DV {σ ε γ δ:Type} (c:c8) (E:σ→γ→List (Nat × I)) (L:σ→γ→List aN) (xs:ε→Exit) (fF:ε→δ→List (Nat × I)) (Lx:ε→δ→List aN) (R:σ ⊕ ε→Prop):Exit→Act→World→Prop:=fun x a W=>
 (∃ s,R (.inl s)∧x= .normal∧ ∃ g,bG c (E s g) (L s g) a W)∨ ∃ e,R (.inr e)∧x≠ .normal∧x=xs e∧ ∃ g,bG c (fF e g) (Lx e g) a W
theorem ae.MB {σ ε γ δ:Type} {E':σ→γ→List (Nat × I)} {aC:σ→γ→List aN} {xs:ε→Exit} {fF:ε→δ→List (Nat × I)} {Lx:ε→δ→List aN} {R:σ ⊕ ε→Prop} {s:σ} (fJ:R (.inl s)) (g:γ) (n:Nat)
 (av:L.drop n=aC s g) (h:hn E (E' s g)):ae c (DV c E' aC xs fF Lx R) .normal E L:=fun a W st=> .inl ⟨s,fJ,rfl,g,by rw [← av]; exact(st.ox n).less h.look⟩
theorem ae.Ge {σ ε γ δ:Type} {E':σ→γ→List (Nat × I)} {aC:σ→γ→List aN} {xs:ε→Exit} {fF:ε→δ→List (Nat × I)} {Lx:ε→δ→List aN} {R:σ ⊕ ε→Prop} {e:ε} {x:Exit} (fJ:R (.inr e)) (g:δ) (n:Nat)
 (an:x=xs e) (aO:x≠ .normal) (av:L.drop n=Lx e g) (h:hn E (fF e g)):ae c (DV c E' aC xs fF Lx R) x E L:=fun a W st=> .inr ⟨e,fJ,aO,an,g,by rw [← av]; exact(st.ox n).less h.look⟩
theorem ag.o1 {σ ε γ δ:Type} {body:Code} {N:Nat} {b:σ→aK (σ ⊕ ε)} {cf:σ} {R:ε→Prop} (al:Gv.o1 N b cf R)
 (E':σ→γ→List (Nat × I)) (aC:σ→γ→List aN) (xs:ε→Exit) (fF:ε→δ→List (Nat × I)) (Lx:ε→δ→List aN) (g0:γ) (av:L=aC cf g0) (aL:hn E (E' cf g0))
 (qZ:∀ s R,b s R→ ∀ g,ag c (DV c E' aC xs fF Lx R) body (E' s g) (aC s g))
 (nw:∀ e,R e→ ∀ g,ae c Q (xs e) (fF e g) (Lx e g)):ag c Q (.loop body) E L:=fun a W st=>by
 subst av
 exact SI b (fun s a W=> ∃ g,bG c (E' s g) (aC s g) a W) (fun e x a W=>x=xs e∧ ∃ g,bG c (fF e g) (Lx e g) a W)
  (fun s R hs a W ⟨g,ky⟩=>wpIn_mono (qZ s R hs g a W ky) (fun x a W h=>by
   rcases h with⟨b8,J,ab,aE⟩ | ⟨e',J,ab,aE,aW⟩
   ·exact .inl ⟨b8,J,ab,aE⟩
   ·exact .inr ⟨e',J,ab,aE,aW⟩)) Q R (fun e x a W fJ ⟨an,g,hs⟩=>by subst an; exact nw e fJ g a W hs) al ⟨g0,st.less aL.look⟩
theorem qD {α:Type} {b:Bool} {m n:aK α} {R:α→Prop} (hb:b=true) (h:cond b m n R):m R:=by subst hb; exact h
theorem qE {α:Type} {b:Bool} {m n:aK α} {R:α→Prop} (hb:b=false) (h:cond b m n R):n R:=by subst hb; exact h
theorem ag.y9 {β γ ρ:Type} {mI:ρ→Prop} {x:Operand} {b:Bool} {y z:Code} {bf bw:aK β} {k:β→aK ρ} (h:aK.bind (bif b then bf else bw) k mI) (E':β→γ→List (Nat × I)) (aC:β→γ→List aN) (al:bb c E L x (.of b))
 (th:∀ m g,k m mI→ae c Q .normal (E' m g) (aC m g))
 (cc:(∀ m g,k m mI→ae c Q .normal (E' m g) (aC m g))→b=true→bf (fun m=>k m mI)→ag c Q y E L) (a7:(∀ m g,k m mI→ae c Q .normal (E' m g) (aC m g))→b=false→bw (fun m=>k m mI)→ag c Q z E L):ag c Q (.cond x y z) E L:=
 ag.cond al (fun hb=>cc th hb (qD hb h)) (fun hb=>a7 th hb (qE hb h))
theorem ag.MA {σ ε γ δ ρ:Type} {body:Code} {N:Nat} {b:σ→aK (σ ⊕ ε)} {cf:σ} {k:ε→aK ρ} {mI:ρ→Prop} (al:aK.bind (Gv.o1 N b cf) k mI)
 (E':σ→γ→List (Nat × I)) (aC:σ→γ→List aN) (xs:ε→Exit) (fF:ε→δ→List (Nat × I)) (Lx:ε→δ→List aN) (g0:γ) (av:L=aC cf g0) (aL:hn E (E' cf g0))
 (qZ:∀ s R,b s R→ ∀ g,ag c (DV c E' aC xs fF Lx R) body (E' s g) (aC s g))
 (nw:∀ e,k e mI→ ∀ g,ae c Q (xs e) (fF e g) (Lx e g)):ag c Q (.loop body) E L:=
 ag.o1 (R:=fun e=>k e mI) al E' aC xs fF Lx g0 av aL qZ nw
end
end Gv
namespace Gv
open Go
set_option linter.unusedVariables false
set_option linter.unusedSimpArgs false
structure gp where
 p:Option Nat
 deriving DecidableEq,Inhabited
instance aaL:ah gp:= .scalar (fun x=>Value.map x.p) fun _=>rfl
instance:ba gp:=⟨[.map none],fun _ _=>rfl⟩
theorem yZ {A W v} {x:gp} :(I.of x).holds A W v↔v= .map x.p:=
 ⟨fun h=>n5 h.1 h.2,fun h=>by subst h; exact⟨rfl,rfl⟩⟩
theorem qx {c:c8} {E:List (Nat × I)} {L:List aN} {x:Operand} {r:gp} {p:Nat} (an:bb c E L x (.of r)) (h:r.p=some p):bb c E L x (.of (⟨some p⟩:gp)):=fun a W s=>by
 have:=yZ.1 (an a W s)
 rw [h] at this
 exact yZ.2 this
inductive j9 {α β:Type} [ah α] [ah β] (A:List Nat) (W:World):List MapEntry→List (α × β)→Prop
 | nil:j9 A W [] []
 | cons {e k v es r} :(I.of k).holds A W e.key→ (I.of v).holds A W e.val→j9 A W es r→j9 A W (e :: es) ((k,v) :: r)
theorem j9.mono {α β:Type} [ah α] [ah β] {A W c0 W'} (h:Ext A W c0 W'):∀ {es:List MapEntry} {ez:List (α × β)},j9 A W es ez→j9 c0 W' es ez
 | _,_,.nil=> .nil
 | _,_,.cons J ab r=> .cons (I.mono _ h J) (I.mono _ h ab) (r.mono h)
def dB.map {α β:Type} [ah α] [ah β] (ez:List (α × β)):dB where
 holds A W o:= ∃ es clock,o= .map es clock∧j9 A W es.toList ez∧ (∀ x∈es.toList,x.born < clock)∧ (es.toList.map MapEntry.born).Nodup
 l1:=False
 mono e h:=let⟨es,clock,J,ab,aE⟩:=h; ⟨es,clock,J,ab.mono e,aE⟩
def e3 {α β:Type} [DecidableEq α]:List (α × β)→α→Option β
 | [],_=>none
 | (k,v) :: r,x=>if x=k then some v else e3 r x
def gr {α β:Type} [DecidableEq α]:List (α × β)→α→β→List (α × β)
 | [],x,y=> [(x,y)]
 | (k,v) :: r,x,y=>if x=k then(x,y) :: r else(k,v) :: gr r x y
def w0 {α β:Type} [DecidableEq α]:List (α × β)→α→List (α × β)
 | [],_=> []
 | (k,v) :: r,x=>if x=k then r else(k,v) :: w0 r x
class kC (α:Type) [ah α]:Prop where
 uniq:∀ {A W cs c0 W' dK} {x:α},ah.rep A W cs x→ah.rep c0 W' dK x→cs=dK
 plain:∀ {A W cs} {x:α},ah.rep A W cs x→ ∀ v∈cs,∀ n,Instr.sameBits n v v=true
instance:kC Int:=⟨fun h cR=>h.trans cR.symm,fun h v a3 n=>by subst h; rw [List.mem_singleton.1 a3]; simp [Instr.sameBits]⟩
instance:kC (BitVec 64):=⟨fun h cR=>h.trans cR.symm,fun h v a3 n=>by subst h; rw [List.mem_singleton.1 a3]; simp [Instr.sameBits]⟩
instance:kC Bool:=⟨fun h cR=>h.trans cR.symm,fun h v a3 n=>by subst h; rw [List.mem_singleton.1 a3]; simp [Instr.sameBits]⟩
instance {α:Type} [ah α] [Inhabited α] [kC α] {n:Nat} :kC (Vector α n):=⟨fun {A W cs c0 W' dK x} h cR=>by
 have xn:cs.length=n * ah.size α:=ah.len h
 have Qc:dK.length=n * ah.size α:=ah.len cR
 have key:∀ m,m≤n→cs.take (m * ah.size α)=dK.take (m * ah.size α):=by
  intro m
  induction m with
  | zero=>intro _; simp
  | succ m bO=>
    intro hm
    have rz:m < n:=hm
    have ay:=(aI.idx (α:=α) n m rz).h0 h
    have aS:=(aI.idx (α:=α) n m rz).h0 cR
    have cW:=kC.uniq ay aS
    rw [Nat.succ_mul,List.take_add,List.take_add,bO (by omega)]
    congr 1
 have:=key n (Nat.le_refl _)
 rwa [← xn,List.take_length,xn,← Qc,List.take_length] at this,
 fun {A W cs x} h v a3 k=>by
  have xn:cs.length=n * ah.size α:=ah.len h
  obtain⟨i,aj,rfl⟩:=List.getElem_of_mem a3
  by_cases hs:ah.size α=0
  ·rw [hs,Nat.mul_zero] at xn; omega
  have hq:i / ah.size α < n:=Nat.div_lt_of_lt_mul (by rw [xn,Nat.mul_comm] at aj; exact aj)
  have ay:=(aI.idx (α:=α) n (i / ah.size α) hq).h0 h
  refine kC.plain ay _ ?_ k
  have aQ:i % ah.size α < ah.size α:=Nat.mod_lt _ (by omega)
  have hd:=Nat.div_add_mod i (ah.size α)
  refine List.mem_iff_getElem?.2 ⟨i % ah.size α,?_⟩
  simp only [aI.idx]
  rw [List.getElem?_take,if_pos aQ,List.getElem?_drop,Nat.mul_comm,hd]
  exact List.getElem?_eq_getElem aj⟩
theorem Lv {cs dK:List Value} (o s:Nat) (h:(cs.drop o).take s=(dK.drop o).take s) (k:cs.drop (o + s)=dK.drop (o + s)):cs.drop o=dK.drop o:=by
 rw [← List.take_append_drop s (cs.drop o),← List.take_append_drop s (dK.drop o),h,List.drop_drop,List.drop_drop,k]
theorem UB {cs dK:List Value} {n:Nat} (h:cs.length=n) (cR:dK.length=n) (k:cs.drop 0=dK.drop 0):cs=dK:=by simpa using k
theorem UC {cs dK:List Value} {n m:Nat} (h:cs.length=n) (cR:dK.length=n) (k:n≤m):cs.drop m=dK.drop m:=by
 rw [List.drop_eq_nil_of_le (by omega),List.drop_eq_nil_of_le (by omega)]
theorem SJ {α:Type} [ah α] [kC α] {A W c0 W' u v} {x:α} (h:(I.of x).holds A W u) (cR:(I.of x).holds c0 W' v):u=v:=by
 obtain⟨J,ab⟩:=h
 obtain⟨aE,aW⟩:=cR
 have aX:=kC.uniq ab aW
 by_cases a9:ah.agg α=true
 ·simp only [shaped,a9,if_true] at J aE
  obtain⟨a,rfl⟩:=J
  obtain⟨b,rfl⟩:=aE
  simp only [Value.cells] at aX
  congr 1
  exact Array.toList_inj.1 aX
 ·simp only [Bool.not_eq_true] at a9
  simp only [shaped,a9,Bool.false_eq_true,if_false] at J aE
  rw [n6 J,n6 aE] at aX
  simpa using aX
theorem Lw {P:Value→Value→Bool} :∀ {cs:List Value},(∀ v∈cs,P v v=true)→ ((cs.zip cs).all fun(x,y)=>P x y)=true
 | [],_=>rfl
 | a :: r,h=>by
   simp only [List.zip_cons_cons,List.all_cons,Bool.and_eq_true]
   exact⟨h a (by simp),Lw fun v a3=>h v (by simp [a3])⟩
theorem SK {α:Type} [ah α] [kC α] {A W u} {x:α} (h:(I.of x).holds A W u) (n:Nat):Instr.sameBits (n + 1) u u=true:=by
 obtain⟨J,ab⟩:=h
 by_cases a9:ah.agg α=true
 ·simp only [shaped,a9,if_true] at J
  obtain⟨a,rfl⟩:=J
  simp only [Value.cells] at ab
  simp only [Instr.sameBits,beq_self_eq_true,Bool.true_and]
  exact Lw fun v a3=>kC.plain ab v a3 n
 ·simp only [Bool.not_eq_true] at a9
  simp only [shaped,a9,Bool.false_eq_true,if_false] at J
  rw [n6 J] at ab
  exact kC.plain ab u (by simp) _
theorem Te {α:Type} [ah α] [kC α] {P:Program} {A W c0 W' u v} {x:α} (h:(I.of x).holds A W u) (cR:(I.of x).holds c0 W' v) (iD:World):(Instr.keyThatStays u v).run P iD= .ok v iD:=by
 have:=SJ h cR
 subst this
 simp [Instr.keyThatStays,SK h 9999]
def qi (P:Program) (t:TypeId) (α:Type) [ah α] (n:Nat):Prop:= ∀ b d A W u (x:α),n≤d→ (I.of x).holds A W u→ (Instr.checkKey b d t u).run P W= .ok () W
theorem Lb {P:Program} {t:TypeId} {α:Type} [ah α] {D:TypeDesc} (h:P.underlying t=some D) (hd:(match (motive:=TypeDesc→Bool) D with | .interface _ | .array _ _ | .struct _=>false | _=>true)=true):qi P t α 1:=by
 intro b d A W u x aO an
 obtain⟨d,rfl⟩:∃ e,d=e + 1:=⟨d - 1,by omega⟩
 simp only [Instr.checkKey,Sem.run_bind,run_underlying h,Result.andThen_ok]
 cases D <;> simp at hd <;> rfl
theorem J6 {P:Program} {W:World} {A5:Type} (f:A5→Sem Unit):∀ (l:List A5),(∀ i∈l,(f i).run P W= .ok () W)→
 (forIn (m:=Sem) l () (fun i _=>do f i; pure (ForInStep.yield ()))).run P W= .ok () W
 | [],_=>by simp
 | i :: r,h=>by
   have J:=h i (by simp)
   have ab:=J6 (P:=P) (W:=W) f r (fun j aF=>h j (by simp [aF]))
   rw [List.forIn_cons]
   simp only [Sem.run_bind,J,Result.andThen_ok,Sem.run_pure]
   rw [ab]
theorem JY {P:Program} {W:World} {A5:Type} (f:A5→PUnit→Sem (ForInStep PUnit)):∀ (l:List A5),(∀ i∈l,(f i ()).run P W= .ok (.yield ()) W)→ (forIn (m:=Sem) l PUnit.unit f).run P W= .ok () W
 | [],_=>by simp
 | i :: r,h=>by
   have J:=h i (by simp)
   have ab:=JY (P:=P) (W:=W) f r (fun j aF=>h j (by simp [aF]))
   rw [List.forIn_cons]
   simp only [Sem.run_bind,J,Result.andThen_ok]
   exact ab
theorem MY {P:Program} {t e n k:Nat} {α:Type} [ah α] [Inhabited α] (h:P.underlying t=some (.array n e)) (ft:bA P e α) (he:qi P e α k):qi P t (Vector α n) (k + 1):=by
 intro b d A W u x hd an
 obtain⟨d,rfl⟩:∃ e,d=e + 1:=⟨d - 1,by omega⟩
 obtain⟨J,ab⟩:=an
 obtain⟨xs,rfl⟩:∃ cs,u= .agg cs:=by simpa [shaped,ah.agg] using J
 simp only [Value.cells] at ab
 have uS:xs.toList.length=n * ah.size α:=ah.len ab
 have ur:∀ i∈List.range' 0 n,((do
  let z ← Go.sizeOf e
  let a ← part e xs (i * z)
  Instr.checkKey b d e a):Sem Unit).run P W= .ok () W:=by
  intro i aj
  have hZ:i < n:=by simpa using aj
  have eJ:i * ah.size α + ah.size α≤n * ah.size α:=(aI.idx (α:=α) n i hZ).fR
  obtain⟨a,a9,uT⟩:=sc (A:=A) (P:=P) (W:=W) (cs:=xs) (off:=i * ah.size α) ft (by simp at uS; omega) ((aI.idx (α:=α) n i hZ).h0 ab)
  simp only [Sem.run_bind,ft.sizeOf,a9,Result.andThen_ok]
  exact he b d A W a _ (by omega) uT
 have a7:=J6 (P:=P) (W:=W) _ _ ur
 simp only [Instr.checkKey,Sem.run_bind,run_underlying h,Result.andThen_ok,Std.Legacy.Range.forIn_eq_forIn_range']
 simp only [Std.Legacy.Range.size,Nat.sub_zero,Nat.add_one_sub_one,Nat.div_one] at a7 ⊢
 simp only [bind_assoc] at a7
 rw [a7]
 rfl
inductive Aw (P:Program) (β:Type) [ah β] (k:Nat):List Field→Prop
 | nil:Aw P β k []
 | cons {γ:Type} [ah γ] {f r} (l:aI β γ):l.off=f.offset→bA P f.type γ→qi P f.type γ k→Aw P β k r→Aw P β k (f :: r)
theorem Tf {P:Program} {t k:Nat} {β:Type} [ah β] {fs:Array Field} (a9:ah.agg β=true) (h:P.underlying t=some (.struct fs)) (ao:Aw P β k fs.toList):qi P t β (k + 1):=by
 intro b d A W u x hd an
 obtain⟨d,rfl⟩:∃ e,d=e + 1:=⟨d - 1,by omega⟩
 obtain⟨J,ab⟩:=an
 obtain⟨xs,rfl⟩:∃ cs,u= .agg cs:=by simpa [shaped,a9] using J
 simp only [Value.cells] at ab
 have uS:xs.toList.length=ah.size β:=ah.len ab
 have ur:∀ f∈fs.toList,((do
  if f.name≠ "_" then do
   let a ← part f.type xs f.offset
   Instr.checkKey b d f.type a):Sem Unit).run P W= .ok () W:=by
  have key:∀ l,Aw P β k l→ ∀ f∈l,((do
   if f.name≠ "_" then do
    let a ← part f.type xs f.offset
    Instr.checkKey b d f.type a):Sem Unit).run P W= .ok () W:=by
   intro l al
   induction al with
   | nil=>simp
   | cons l bo ft aq r bO=>
     rename_i f rK
     intro xm po
     rcases List.mem_cons.1 po with rfl | po
     ·split
      ·obtain⟨a,a9,uT⟩:=sc (A:=A) (P:=P) (W:=W) (cs:=xs) (off:=l.off) ft (by have:=l.fR; simp at uS; omega) (l.h0 ab)
       rw [← bo]
       simp only [Sem.run_bind,a9,Result.andThen_ok]
       exact aq b d A W a _ (by omega) uT
      ·rfl
     ·exact bO xm po
  exact key _ ao
 simp only [Instr.checkKey,Sem.run_bind,run_underlying h,Result.andThen_ok]
 rw [← Array.forIn_toList,JY]
 ·rfl
 ·intro f a7
  have:=ur f a7
  split
  ·rename_i aO
   rw [if_pos aO] at this
   simp only [Sem.run_bind] at this ⊢
   revert this
   generalize (part f.type xs f.offset).run P W=r
   cases r <;> simp only [Result.andThen] <;> intro h <;> first | rw [h]; rfl | cases h
  ·rfl
structure oK (P:Program) (t:TypeId) (α:Type) [ah α] [DecidableEq α]:Prop where
 check:∀ b A W u (x:α),(I.of x).holds A W u→ (Instr.checkKey b 10000 t u).run P W= .ok () W
 same:∀ A W u v (x y:α),(I.of x).holds A W u→ (I.of y).holds A W v→ (Op.equal t u v).run P W= .ok (decide (x=y)) W
 now:∃ D,P.underlying t=some D∧ ∀ A W u v (x y:α),(I.of x).holds A W u→ (I.of y).holds A W v→Instr.sameNow D u v=none∨Instr.sameNow D u v=some (decide (x=y))
def k0 {α β:Type} [DecidableEq α]:List (α × β)→α→Nat→Option (Nat × β)
 | [],_,_=>none
 | (k,v) :: r,x,i=>if x=k then some (i,v) else k0 r x (i + 1)
def Found {α β:Type} [ah α] [ah β] (A:List Nat) (W:World) (ez:List (α × β)):Option (Nat × Value)→Option (Nat × β)→Prop
 | none,none=>True
 | some (i,u),some (j,v)=>i=j∧ (I.of v).holds A W u
 | _,_=>False
theorem Kf {α β:Type} [ah α] [ah β] [DecidableEq α] {D:TypeDesc} {A:List Nat} {W:World} {u:Value} {x:α} (hu:(I.of x).holds A W u)
 (hs:∀ v (y:α),(I.of y).holds A W v→Instr.sameNow D u v=none∨Instr.sameNow D u v=some (decide (x=y))) (Ax:List (α × β)):∀ {es:List MapEntry} {ez:List (α × β)} (i:Nat),j9 A W es ez→
 Instr.findNow D u es i=none∨ ∃ r,Instr.findNow D u es i=some r∧Found A W Ax r (k0 ez x i)
 | [],_,i,h=>by cases h; exact .inr ⟨none,rfl,trivial⟩
 | e :: es,_,i,h=>by
   cases h with
   | cons J ab aE=>
     rename_i k v r
     rcases hs e.key k J with aW | aW
     ·exact .inl (by simp [Instr.findNow,aW])
     ·by_cases aq:x=k
      ·exact .inr ⟨some (i,e.val),by simp [Instr.findNow,aW,aq],by simp only [k0,if_pos aq]; exact⟨rfl,ab⟩⟩
      ·rcases Kf hu hs Ax (i + 1) aE with aX | ⟨rK,aX,bk⟩
       ·exact .inl (by simp [Instr.findNow,aW,aq,aX])
       ·exact .inr ⟨rK,by simp [Instr.findNow,aW,aq,aX],by simp only [k0,if_neg aq]; exact bk⟩
theorem JQ {α β:Type} [ah α] [ah β] [DecidableEq α] {P:Program} {t:TypeId} (lU:oK P t α) {A:List Nat} {W:World} {u:Value} {x:α} (hu:(I.of x).holds A W u) (Ax:List (α × β)):∀ {es:List MapEntry} {ez:List (α × β)} (i:Nat),j9 A W es ez→
 ∃ r,(Instr.findAsking t u es i).run P W= .ok r W∧Found A W Ax r (k0 ez x i)
 | [],_,i,h=>by cases h; exact⟨none,rfl,trivial⟩
 | e :: es,_,i,h=>by
   cases h with
   | cons J ab aE=>
     rename_i k v r
     have aW:=lU.same A W u e.key x k hu J
     by_cases aq:x=k
     ·exact⟨some (i,e.val),by simp [Instr.findAsking,Sem.run_bind,aW,aq],by simp only [k0,if_pos aq]; exact⟨rfl,ab⟩⟩
     ·obtain⟨rK,aX,bk⟩:=JQ lU hu Ax (i + 1) aE
      exact⟨rK,by simp [Instr.findAsking,Sem.run_bind,aW,aq,aX],by simp only [k0,if_neg aq]; exact bk⟩
theorem Kg {α β:Type} [ah α] [ah β] [DecidableEq α] {P:Program} {t:TypeId} (lU:oK P t α) {A:List Nat} {W:World} {u:Value} {x:α} (hu:(I.of x).holds A W u) {es:List MapEntry} {ez:List (α × β)} (h:j9 A W es ez):
 ∃ r,(Instr.findKey t u es).run P W= .ok r W∧Found A W ez r (k0 ez x 0):=by
 obtain⟨D,kz,hs⟩:=lU.now
 rcases Kf hu (fun v y a4=>hs A W u v x y hu a4) ez 0 h with J | ⟨r,J,ab⟩
 ·obtain⟨r,aE,aW⟩:=JQ lU hu ez 0 h
  exact⟨r,by simp [Instr.findKey,Sem.run_bind,run_underlying kz,J,aE],aW⟩
 ·exact⟨r,by simp [Instr.findKey,Sem.run_bind,run_underlying kz,J],ab⟩
theorem Ly {α β:Type} [ah α] [ah β] [DecidableEq α] {A:List Nat} {W:World} {x:α} :∀ {es:List MapEntry} {ez:List (α × β)} {j i:Nat} {v:β},j9 A W es ez→k0 ez x j=some (i,v)→
 ∃ m e,i=j + m∧es[m]? =some e∧ (I.of x).holds A W e.key∧ (∀ (e':MapEntry) (y:β),(I.of x).holds A W e'.key→ (I.of y).holds A W e'.val→j9 A W (es.set m e') (gr ez x y))∧j9 A W (es.eraseIdx m) (w0 ez x)
 | [],_,j,i,v,h,a7=>by cases h; cases a7
 | e :: es,_,j,i,v,h,a7=>by
   cases h with
   | cons J ab aE=>
     rename_i k Eg r
     by_cases aq:x=k
     ·subst aq
      simp only [k0,if_pos] at a7
      simp only [Option.some.injEq,Prod.mk.injEq] at a7
      exact⟨0,e,by omega,rfl,J,fun e' y au aT=>by simp only [gr,if_pos]; exact .cons au aT aE,by simp only [w0,if_pos]; exact aE⟩
     ·simp only [k0,if_neg aq] at a7
      obtain⟨m,e',au,aT,bq,cx,gT⟩:=Ly aE a7
      exact⟨m + 1,e',by omega,by simpa using aT,bq,fun IA y az ck=>by simp only [gr,if_neg aq]; exact .cons J ab (cx IA y az ck),by simp only [w0,if_neg aq]; exact .cons J ab gT⟩
theorem KL {α β:Type} [ah α] [ah β] [DecidableEq α] {A:List Nat} {W:World} {x:α} :∀ {es:List MapEntry} {ez:List (α × β)} {j:Nat},j9 A W es ez→k0 ez x j=none→
 (∀ (e':MapEntry) (y:β),(I.of x).holds A W e'.key→ (I.of y).holds A W e'.val→j9 A W (es ++ [e']) (gr ez x y))∧w0 ez x=ez
 | [],_,j,h,_=>by cases h; exact⟨fun e' y J ab=> .cons J ab .nil,rfl⟩
 | e :: es,_,j,h,a7=>by
   cases h with
   | cons J ab aE=>
     rename_i k Eg r
     by_cases aq:x=k
     ·simp [k0,aq] at a7
     ·simp only [k0,if_neg aq] at a7
      obtain⟨au,aT⟩:=KL aE a7
      exact⟨fun e' y az ck=>by simp only [gr,if_neg aq]; exact .cons J ab (au e' y az ck),by simp only [w0,if_neg aq,aT]⟩
theorem j9.length {α β:Type} [ah α] [ah β] {A W} :∀ {es:List MapEntry} {ez:List (α × β)},j9 A W es ez→es.length=ez.length
 | _,_,.nil=>rfl
 | _,_,.cons _ _ r=>by simp [r.length]
theorem KM {α β:Type} [DecidableEq α]:∀ (ez:List (α × β)) (x:α) (i:Nat),(k0 ez x i).map (·.2)=e3 ez x
 | [],_,_=>rfl
 | (k,v) :: r,x,i=>by simp only [k0,e3]; split <;> simp [KM]
section
variable {c:c8} {E:List (Nat × I)} {L:List aN} {ops:Array Oper} {Q:Exit→Act→World→Prop}
variable {d:Option Tmp} {ty:TypeId} {pos:String} {af:Array Edge} {g:Option (Nat × Bool)} {x y z:Operand} {t t2:TypeId}
variable {b6:Type} [fi b6] {hp:bg b6} {loc:List aN}
theorem ak.UD {α β:Type} [ah α] [ah β] {rest:List Oper} {bc:Nat} (mk:b6) (aq:∀ p,fi.ih p mk= [⟨some p,.map ([]:List (α × β))⟩]) (aO:Nat.blt bc c.n=true)
 (k:∀ p,p ∉ eG hp→ak c ops Q rest ((bc,.of (⟨some p⟩:gp)) :: E) (loc ++ bz ((p,mk) :: hp))):ak c ops Q (⟨some bc,.makeMap t none,ty,pos,af,none⟩ :: rest) E (loc ++ bz hp):=fun a W s=>by
 refine ib rfl (R:=fun v W'=>v= .map (some W.heap.size)∧W'=W.alloc (.map #[] 0)) (.mo ?_ ⟨rfl,rfl⟩) fun v W' ⟨a3,hw⟩=> ?_
 ·simp only [execOp,Instr.makeMap,newObj,Sem.run_bind,Sem.run_pure]; rfl
 ·subst a3
  subst hw
  refine k _ s.fresh _ _ (bG.put ?_ (by simpa using aO) (yZ.2 rfl))
  refine(s.alloc (cp:= .map ([]:List (α × β))) ⟨#[],0,rfl,.nil,by simp,by simp⟩).perm ?_
  simp only [bz,aq,List.singleton_append]
  exact List.perm_middle.symm
theorem ak.F5 {α β:Type} [ah α] [ah β] {rest:List Oper} {bc:Nat} (n:Nat) (av:L.drop n=bz hp) (mk:b6) (aq:∀ p,fi.ih p mk= [⟨some p,.map ([]:List (α × β))⟩]) (aO:Nat.blt bc c.n=true) (k:∀ a:Nat × bg b6,a.1 ∉ hp.map (·.1)∧a.2=(a.1,mk) :: hp→ak c ops Q rest ((bc,.of (⟨some a.1⟩:gp)) :: E) (L.take n ++ bz a.2)):ak c ops Q (⟨some bc,.makeMap t none,ty,pos,af,none⟩ :: rest) E L:=by
 have e:L=L.take n ++ bz hp:=by rw [← av,List.take_append_drop]
 clear av
 generalize L.take n=loc at *
 subst e
 exact ak.UD (α:=α) (β:=β) mk aq aO fun p h=>k (p,(p,mk) :: hp) ⟨h,rfl⟩
theorem bG.Oc {a:Act} {W:World} (s:bG c E L a W) {p:Nat} {α β:Type} [ah α] [ah β] {ez:List (α × β)} (hm:(⟨some p,.map ez⟩:aN)∈L):
 ∃ es clock,W.heap[p]? =some (.map es clock)∧j9 (aP L ++ c.b2) W es.toList ez∧ (∀ x∈es.toList,x.born < clock)∧ (es.toList.map MapEntry.born).Nodup:=by
 obtain⟨o,bo,es,clock,rfl,ab,aE,aW⟩:=s.own _ hm
 exact⟨es,clock,bo,ab,aE,aW⟩
theorem KN {a:Act} {W:World} (s:bG c E L a W) {p key elem:Nat} {α β:Type} [ah α] [ah β] [DecidableEq α] [Inhabited β] {ez:List (α × β)} {i:α} (hu:c.P.underlying t=some (.map key elem)) (lU:oK c.P key α) (gl:cF c.P elem (default:β))
 (an:bb c E L x (.of (⟨some p⟩:gp))) (a4:bb c E L y (.of i)) (hm:(⟨some p,.map ez⟩:aN)∈L):
 ∃ u,(I.of ((e3 ez i).getD default)).holds (aP L ++ c.b2) W u∧ ∀ ok,(Instr.lookup t (a.eval x) (a.eval y) ok).run c.P W= .ok (if ok then .tuple #[u,.bool (e3 ez i).isSome] else u) W:=by
 obtain⟨es,clock,bo,ab,aE,aW⟩:=s.Oc hm
 have Ay:=yZ.1 (an a W s)
 have s8:=a4 a W s
 obtain⟨r,aQ,a7⟩:=Kg lU s8 ab
 obtain⟨gd,ec,dW,dh,Ie⟩:=gl.zero
 have bZ:(getObj p).run c.P W= .ok (.map es clock) W:=by simp [getObj,Sem.run,bo]
 have ao:=fun b=>lU.check b _ W _ i s8
 have xb:=KM ez i 0
 cases u3:k0 ez i 0 with
 | none=>
   rw [u3] at a7 xb
   cases r with
   | some q=>exact a7.elim
   | none=>
     refine⟨ec,by rw [← xb]; exact Ie _ W,fun ok=> ?_⟩
     rw [← xb]
     simp [Instr.lookup,Sem.run_bind,run_underlying hu,Ay,bZ,ao,aQ,zeroValue,typeInfo,dW,dh]
 | some q=>
   rw [u3] at a7 xb
   cases r with
   | none=>exact a7.elim
   | some ed=>
     refine⟨ed.2,by rw [← xb]; exact a7.2,fun ok=> ?_⟩
     rw [← xb]
     simp [Instr.lookup,Sem.run_bind,run_underlying hu,Ay,bZ,ao,aQ]
theorem FK {p key elem:Nat} {α β:Type} [ah α] [ah β] [DecidableEq α] [Inhabited β] {ez:List (α × β)} {i:α} {r:β} (hu:c.P.underlying t=some (.map key elem)) (lU:oK c.P key α) (gl:cF c.P elem (default:β))
 (an:bb c E L x (.of (⟨some p⟩:gp))) (a4:bb c E L y (.of i)) (hm:(⟨some p,.map ez⟩:aN)∈L) (aQ:(e3 ez i).getD default=r):
 b3 c E L ⟨d,.lookup t x y false,ty,pos,af,g⟩ (.of r):= .pure fun a W s=>by
 subst aQ
 obtain⟨u,J,ab⟩:=KN s hu lU gl an a4 hm
 have aE:=ab false
 exact⟨u,by simp only [execOp,Sem.run_bind,aE,Result.andThen_ok]; rfl,J⟩
theorem Fl {p key elem:Nat} {α β:Type} [ah α] [ah β] [DecidableEq α] [Inhabited β] {ez:List (α × β)} {i:α} {r:Option β} (hu:c.P.underlying t=some (.map key elem)) (lU:oK c.P key α) (gl:cF c.P elem (default:β))
 (an:bb c E L x (.of (⟨some p⟩:gp))) (a4:bb c E L y (.of i)) (hm:(⟨some p,.map ez⟩:aN)∈L) (aQ:e3 ez i=r):
 b3 c E L ⟨d,.lookup t x y true,ty,pos,af,g⟩ (.eI [.of (r.getD default),.of r.isSome]):= .pure fun a W s=>by
 subst aQ
 obtain⟨u,J,ab⟩:=KN s hu lU gl an a4 hm
 have aE:=ab true
 exact⟨_,by simp only [execOp,Sem.run_bind,aE,Result.andThen_ok]; rfl,_,rfl,.cons J (.cons (of_bool.2 rfl) .nil)⟩
theorem TO {es:List MapEntry} {m:Nat} {e e':MapEntry} (h:es[m]? =some e) (hb:e'.born=e.born):(es.set m e').map MapEntry.born=es.map MapEntry.born:=by
 apply List.ext_getElem?
 intro j
 simp only [List.getElem?_map,List.getElem?_set]
 split
 ·rename_i aF
  subst aF
  have:=(List.getElem?_eq_some_iff.1 h).1
  rw [if_pos this,h]
  simp [hb]
 ·rfl
theorem ak.Vo {rest:List Oper} {op:Op} (rr:op= .mapUpdate t x y z∨op= .insert t x y z) {p key elem:Nat} {k k':b6} {α β:Type} [ah α] [ah β] [kC α] [DecidableEq α] {ez Az:List (α × β)} {i:α} {v:β} (hu:c.P.underlying t=some (.map key elem)) (lU:oK c.P key α)
 (an:bb c E (loc ++ bz hp) x (.of (⟨some p⟩:gp))) (a4:bb c E (loc ++ bz hp) y (.of i)) (dh:bb c E (loc ++ bz hp) z (.of v)) (hp':pat hp p=some k) (aq:fi.ih p k= [⟨some p,.map ez⟩]) (IB:gr ez i v=Az) (j5:fi.ih p k'= [⟨some p,.map Az⟩])
 (mH:ak c ops Q rest E (loc ++ bz (ea hp p k'))):ak c ops Q (⟨none,op,ty,pos,af,none⟩ :: rest) E (loc ++ bz hp):=fun a W s=>by
 subst IB
 obtain⟨es,clock,bo,ab,aE,aW⟩:=s.Oc (iH (n:=loc.length) (by simp) hp' aq)
 have Ay:=yZ.1 (an a W s)
 have s8:=a4 a W s
 have Pv:=dh a W s
 obtain⟨r,aQ,a7⟩:=Kg lU s8 ab
 have bZ:(getObj p).run c.P W= .ok (.map es clock) W:=by simp [getObj,Sem.run,bo]
 have ao:=lU.check false _ W _ i s8
 have cv:p < W.heap.size:=(Array.getElem?_eq_some_iff.1 bo).1
 have jY:∀ o,(setObj p o).run c.P W= .ok () (W.putObj p o):=fun o=>by simp only [setObj,Sem.run,bo]; rfl
 have key:∃ s9 wy,(Instr.mapUpdate t (a.eval x) (a.eval y) (a.eval z)).run c.P W= .ok () (W.putObj p (.map s9 wy))∧j9 (aP (loc ++ bz hp) ++ c.b2) W s9.toList (gr ez i v)∧ (∀ x∈s9.toList,x.born < wy)∧ (s9.toList.map MapEntry.born).Nodup:=by
  cases u3:k0 ez i 0 with
  | none=>
    rw [u3] at a7
    cases r with
    | some q=>exact a7.elim
    | none=>
      obtain⟨au,_⟩:=KL ab u3
      refine⟨es.push { key:=a.eval y,val:=a.eval z,born:=clock },clock + 1,by simp [Instr.mapUpdate,Sem.run_bind,run_underlying hu,Ay,bZ,ao,aQ,jY],by simpa using au { key:=a.eval y,val:=a.eval z,born:=clock } v s8 Pv,?_,?_⟩
      ·intro q hq
       simp only [Array.toList_push,List.mem_append,List.mem_singleton] at hq
       rcases hq with hq | rfl
       ·exact Nat.lt_succ_of_lt (aE q hq)
       ·exact Nat.lt_succ_self _
      ·simp only [Array.toList_push,List.map_append,List.map_cons,List.map_nil]
       refine List.nodup_append.2 ⟨aW,by simp,fun b hb b' p8=> ?_⟩
       simp only [List.mem_singleton] at p8
       subst p8
       obtain⟨q,hq,rfl⟩:=List.mem_map.1 hb
       exact Nat.ne_of_lt (aE q hq)
  | some q=>
    rw [u3] at a7
    cases r with
    | none=>exact a7.elim
    | some ed=>
      obtain⟨m,e,au,aT,bq,cx,_⟩:=Ly ab u3
      have pr:ed.1=m:=by have:=a7.1; omega
      have hq:es[m]? =some e:=by simpa using aT
      have kQ:=Te (P:=c.P) bq s8 W
      let e':MapEntry:= { e with key:=a.eval y,val:=a.eval z }
      have zV:(es.modify m fun e=> { e with key:=a.eval y,val:=a.eval z }).toList=es.toList.set m e':=by
       apply List.ext_getElem?
       intro j
       rw [Array.getElem?_toList,Array.getElem?_modify,List.getElem?_set,Array.getElem?_toList]
       by_cases aF:m=j
       ·subst aF
        rw [if_pos rfl,if_pos rfl,hq,if_pos (by simpa using (Array.getElem?_eq_some_iff.1 hq).1)]
        rfl
       ·rw [if_neg aF,if_neg aF]
      refine⟨es.modify m fun e=> { e with key:=a.eval y,val:=a.eval z },clock,by simp [Instr.mapUpdate,Sem.run_bind,run_underlying hu,Ay,bZ,ao,aQ,jY,pr,hq,kQ],by rw [zV]; exact cx e' v s8 Pv,?_,?_⟩
      ·rw [zV]
       intro w hw
       rcases List.mem_or_eq_of_mem_set hw with hw | rfl
       ·exact aE w hw
       ·exact aE e (List.mem_of_getElem? aT)
      ·rw [zV,TO (e':=e') aT rfl]; exact aW
 obtain⟨s9,wy,kK,ay,aS,cW⟩:=key
 obtain⟨R,bf,bw⟩:=vY hp'
 have bw:=bw k'
 rw [aq] at bf
 rw [j5] at bw
 have fp:∀ {z:List (α × β)} {M:List aN},M.Perm ([⟨some p,.map z⟩] ++ R)→ (loc ++ M).Perm (⟨some p,.map z⟩ :: (loc ++ R)):=fun h=>(h.append_left loc).trans (by simp only [List.singleton_append]; exact List.perm_middle)
 have b8:=(s.perm (fp bf)).rb (i:=0) (cp':= .map (gr ez i v)) rfl (o':= .map s9 wy) ⟨s9,wy,rfl,ay.mono (mO (fp bf)),aS,cW⟩
 refine ib rfl (R:=fun v W'=>W'=W.putObj p (.map s9 wy)) (.wg ?_ rfl) fun v W' hw=> ?_
 ·rcases rr with rfl | rfl <;> simp [execOp,kK]
 ·subst hw
  exact mH _ _ (b8.perm (fp bw).symm)
theorem ak.GL {rest:List Oper} {op:Op} (n:Nat) (av:L.drop n=bz hp) (rr:op= .mapUpdate t x y z∨op= .insert t x y z) {p key elem:Nat} {k k':b6} {e1:bg b6} {α β:Type} [ah α] [ah β] [kC α] [DecidableEq α] {ez Az:List (α × β)} {i:α} {v:β} (hu:c.P.underlying t=some (.map key elem)) (lU:oK c.P key α) (an:bb c E L x (.of (⟨some p⟩:gp))) (a4:bb c E L y (.of i)) (dh:bb c E L z (.of v)) (hp':pat hp p=some k) (aq:fi.ih p k= [⟨some p,.map ez⟩]) (IB:gr ez i v=Az) (j5:fi.ih p k'= [⟨some p,.map Az⟩]) (dh:ea hp p k'=e1) (mH:ak c ops Q rest E (L.take n ++ bz e1)):ak c ops Q (⟨none,op,ty,pos,af,none⟩ :: rest) E L:=by
 subst dh
 have e:L=L.take n ++ bz hp:=by rw [← av,List.take_append_drop]
 clear av
 generalize L.take n=loc at *
 subst e
 exact ak.Vo rr hu lU an a4 dh hp' aq IB j5 mH
end
theorem Vp {P:Program} {t:TypeId} (h:P.underlying t=some (.int .i64)):oK P t Int where
 check b A W u x an:=Lb (α:=Int) h rfl b 10000 A W u x (by decide) an
 same A W u v x y an a4:=by
  have:=(FQ h).run 10000 (by decide) A W u v x y an a4
  simpa [Op.equal,Op.maxDepth] using this
 now:=⟨_,h,fun A W u v x y an a4=> .inr (by
  rw [of_int.1 an,of_int.1 a4]
  simp only [Instr.sameNow,if_pos]
  rfl)⟩
theorem MZ {P:Program} {t:TypeId} {α:Type} [ah α] [DecidableEq α] {D:TypeDesc} {n m:Nat} (h:P.underlying t=some D) (kz:(match (motive:=TypeDesc→Bool) D with | .array _ _ | .struct _=>true | _=>false)=true) (aar:qi P t α n) (vb:j7 P t α m) (aO:Nat.ble n 10000=true) (hm:Nat.ble m 10000=true):oK P t α where
 check b A W u x an:=aar b 10000 A W u x (Nat.le_of_ble_eq_true aO) an
 same A W u v x y an a4:=by
  have:=vb.run 10000 (Nat.le_of_ble_eq_true hm) A W u v x y an a4
  simpa [Op.equal,Op.maxDepth] using this
 now:=⟨_,h,fun A W u v x y an a4=> .inl (by cases D <;> simp at kz <;> rfl)⟩
end Gv
namespace Gv
open Go
set_option linter.unusedVariables false
set_option linter.unusedSimpArgs false
structure lv (P:Program) (t:TypeId) (name:String) (f:FuncId):Prop where
 run:∀ v W args,(callMethod (.iface t v) name args).run P W= .ok (.enter f (#[v] ++ args)) W
theorem lv.of {P:Program} {t:TypeId} {name:String} {f:FuncId} {i:TypeInfo} {D:TypeDesc} {m:Method} (aj:P.info? t=some i) (hm:i.methods.find? (fun x=>x.name ==name)=some m) (hp:m.path= #[]) (a7:m.func=some (f,false)) (kz:P.underlying t=some D)
 (aO:(match (motive:=TypeDesc→Bool) D with | .pointer _=>false | _=>true)=true) (eo:bH P f):lv P t name f where
 run v W args:=by
  have ZM:∀ args,(callFunc f args).run P W= .ok (.enter f args) W:=fun args=>eo.run ..
  have dE:∀ n,(method (n + 1) t v name).run P W= .ok (f,v) W:=fun n=>by
   simp only [method,Sem.run_bind,typeInfo,run_program,Result.andThen_ok,aj,Sem.run_pure,hm,hp,a7,follow,receiverAt,run_underlying kz]
   cases D <;> simp at aO <;> simp [Place.get]
  obtain⟨n,aO⟩:∃ n,P.types.size + Made.depth=n + 1:=⟨P.types.size + Made.depth - 1,by simp [Made.depth]⟩
  simp only [callMethod,Sem.run_bind,run_program,Result.andThen_ok,aO,dE,ZM]
theorem lv.xc {P:Program} {t:TypeId} {name:String} {f:FuncId} {D:TypeDesc} (hm:((P.info? t).bind fun i=>(i.methods.find? (fun x=>x.name ==name)).map fun m=>(m.path.size,m.func))=some (0,some (f,false))) (kz:P.underlying t=some D)
 (aO:(match (motive:=TypeDesc→Bool) D with | .pointer _=>false | _=>true)=true) (eo:bH P f):lv P t name f:=by
 cases aj:P.info? t with
 | none=>rw [aj] at hm; cases hm
 | some i=>
   rw [aj] at hm
   simp only [Option.bind_some] at hm
   cases ab:i.methods.find? (fun x=>x.name ==name) with
   | none=>rw [ab] at hm; cases hm
   | some m=>
     rw [ab] at hm
     simp only [Option.map_some,Option.some.injEq,Prod.mk.injEq] at hm
     exact lv.of aj ab (Array.eq_empty_of_size_eq_zero hm.1) hm.2 kz aO eo
theorem cG.map {P:Program} {f:FuncId} {τs:List I} {Lin:List aN} {δ IC:Type} {ρ:δ→I} {Lo:δ→List aN} {Pw:IC→I} {Px:IC→List aN} (F:δ→IC) (aQ:∀ d,Pw (F d)=ρ d) (al:∀ d,Px (F d)=Lo d) (h:cG P f τs Lin ρ Lo):cG P f τs Lin Pw Px:=
 fun A W vs J ab aE aW aX=>(h A W vs J ab aE aW aX).mono fun e W' ⟨v,d,az,ck,fS,je,ey,jf⟩=>⟨v,F d,az,ck,by rw [al]; exact fS,by rw [al]; exact je,by rw [al]; exact ey,by rw [al,aQ]; exact jf⟩
structure nu (P:Program) (name:String) (τ:I) (τs:List I) (Lin:List aN) {δ:Type} (ρ:δ→I) (Lo:δ→List aN):Prop where
 go:∀ (A:List Nat) (W:World) (u:Value) (vs:List Value),(∀ k∈A,k < W.heap.size∧k ∉ aP Lin)→ (aP Lin).Nodup→ (∀ k∈aP Lin,k < W.heap.size)→ (∀ e∈Lin,e.ok (aP Lin ++ A) W)→gW (aP Lin ++ A) W (τ :: τs) (u :: vs)→
  ∃ f v,(∀ args,(callMethod u name args).run P W= .ok (.enter f (#[v] ++ args)) W)∧Calls P f (v :: vs).toArray W (jV (aP Lin) A W ρ Lo)
theorem nu.of {P:Program} {name:String} {t:TypeId} {f:FuncId} {τ σ:I} {τs:List I} {Lin:List aN} {δ:Type} {ρ:δ→I} {Lo:δ→List aN} (mt:lv P t name f) (ID:∀ A W u,τ.holds A W u→ ∃ v,u= .iface t v∧σ.holds A W v)
 (h:cG P f (σ :: τs) Lin ρ Lo):nu P name τ τs Lin ρ Lo where
 go A W u vs J ab aE aW aX:=by
  cases aX with
  | cons bk cV=>
    obtain⟨v,rfl,eS⟩:=ID _ _ _ bk
    exact⟨f,v,fun args=>mt.run v W args,h A W (v :: vs) J ab aE aW (.cons eS cV)⟩
section
variable {c:c8} {E:List (Nat × I)} {L:List aN} {ops:Array Oper} {Q:Exit→Act→World→Prop}
variable {d:Option Tmp} {ty:TypeId} {pos:String} {af:Array Edge} {g:Option (Nat × Bool)} {x y z:Operand} {t t2:TypeId}
theorem Lz {a:Act} {W:World} {name:String} {xs:List Operand} {ats:Array TypeId} {τ:I} {τs:List I} {Lin Lr:List aN} {δ:Type} {ρ:δ→I} {Lo:δ→List aN} (h:nu c.P name τ τs Lin ρ Lo)
 (s:bG c E (Lin ++ Lr) a W) (an:gW (aP (Lin ++ Lr) ++ c.b2) W (τ :: τs) ((x :: xs).map a.eval)):
 gj c.P ⟨d,.call ⟨.invoke x name,xs.toArray,ats⟩,ty,pos,af,g⟩ a W fun v W'=> ∃ bc,bG c E (Lo bc ++ Lr) a W'∧ (ρ bc).holds (aP (Lo bc ++ Lr) ++ c.b2) W' v:=by
 have lH:=s.nodup
 rw [e0] at lH
 obtain⟨mD,nQ,pk⟩:=List.nodup_append.1 lH
 have jY:Ext (aP (Lin ++ Lr) ++ c.b2) W (aP Lin ++ (aP Lr ++ c.b2)) W:=yX
 have fL:∀ k∈aP Lr ++ c.b2,k < W.heap.size∧k ∉ aP Lin:=fun k hm=>by
  rcases List.mem_append.1 hm with hm | hm
  ·exact⟨s.lt k (by rw [e0]; exact List.mem_append.2 (.inr hm)),fun h=>pk k h k hm rfl⟩
  ·obtain⟨J,ab⟩:=s.eQ k hm
   exact⟨J,fun h=>ab (by rw [e0]; exact List.mem_append.2 (.inl h))⟩
 have cv:∀ k∈aP Lin,k < W.heap.size:=fun k hm=>s.lt k (by rw [e0]; exact List.mem_append.2 (.inl hm))
 obtain⟨f,v,kK,ao⟩:=h.go (aP Lr ++ c.b2) W (a.eval x) (xs.map a.eval) fL mD cv (fun e he=>aN.sf (s.own e (List.mem_append.2 (.inl he))) jY fun _ _=>rfl) (by simpa using an.mono jY)
 refine .tH (f:=f) (args:=(v :: xs.map a.eval).toArray) (W':=W) ?_ (ao.mono fun e W' ⟨v,bc,he,a7,J,ab,aE,aW⟩=> ?_)
 ·have:=kK (xs.map a.eval).toArray
  simp only [execOp,resolve,Sem.run_bind,Sem.run_pure,Result.andThen_ok,invoke]
  simp only [List.map_toArray] at this ⊢
  simp
  rw [List.take_of_length_le (by simp),this]
  simp
 ·refine⟨v,he,bc,s.after a7 J ab aE,(ρ bc).mono Fv aW⟩
variable {b6:Type} [fi b6] {hp:bg b6}
theorem ak.Hs {rest:List Oper} {bc:Nat} {name:String} {xs:List Operand} {ats:Array TypeId} {τ:I} {τs:List I} {Lin Lr:List aN} {δ:Type} {ρ:δ→I} {Lo:δ→List aN} {hq:δ→bg b6} (n m:Nat) (av:L.drop n=bz hp) (h:nu c.P name τ τs (Lin ++ bz hp) ρ (fun d=>Lo d ++ bz (hq d)))
 (J:(L.take n).take m=Lin) (ab:(L.take n).drop m=Lr) (an:hO c E L (x :: xs) (τ :: τs)) (aO:Nat.blt bc c.n=true) (k:∀ q,ak c ops Q rest ((bc,ρ q) :: E) ((Lo q ++ Lr) ++ bz (hq q))):
 ak c ops Q (⟨some bc,.call ⟨.invoke x name,xs.toArray,ats⟩,ty,pos,af,none⟩ :: rest) E L:=by
 have e:L=(Lin ++ Lr) ++ bz hp:=by rw [← J,← ab,List.take_append_drop,← av,List.take_append_drop]
 clear av J ab
 subst e
 exact fun a W s=>ib rfl (Lz (Lr:=Lr) h (s.perm n8) ((an.holds a W s).mono (mO n8))) fun v W' ⟨q,b8,a3⟩=>
  k q _ _ ((b8.perm n8).put (by simpa using aO) ((ρ q).mono (mO n8) a3))
theorem jx.Hs {name:String} {xs:List Operand} {ats:Array TypeId} {τ:I} {τs:List I} {ρ:I} (n:Nat) (av:L.drop n=bz hp) (h:nu c.P name τ τs (bz hp) (fun _:Unit=>ρ) (fun _=>bz hp))
 (an:hO c E L (x :: xs) (τ :: τs)):jx c E L ⟨d,.call ⟨.invoke x name,xs.toArray,ats⟩,ty,pos,af,g⟩ ρ:=fun a W s=>by
 have e:L=L.take n ++ bz hp:=by rw [← av,List.take_append_drop]
 have fp:L.Perm (bz hp ++ L.take n):=by
  conv=>lhs; rw [e]
  exact List.perm_append_comm
 have bo:=Lz (d:=d) (ty:=ty) (pos:=pos) (af:=af) (g:=g) (ats:=ats) (Lr:=L.take n) h (s.perm fp) ((an.holds a W s).mono (mO fp))
 unfold gj at bo ⊢
 exact Oper.wp_mono (fun gI W' ⟨v,J,_,ab,aE⟩=>⟨v,J,ab.perm fp.symm,ρ.mono (mO fp.symm) aE⟩) bo
theorem Gg {D:TypeDesc} {σ τ:I} (hu:c.P.underlying t=some D) (kz:(match (motive:=TypeDesc→Bool) D with | .interface _=>false | _=>true)=true) (an:bb c E L x σ) (ID:∀ A W v,σ.holds A W v→τ.holds A W (.iface t v)):
 b3 c E L ⟨d,.makeInterface t x,ty,pos,af,g⟩ τ:= .pure fun a W s=>
 ⟨.iface t (a.eval x),by
   simp only [execOp,Instr.makeInterface,Sem.run_bind,run_underlying hu,Result.andThen_ok]
   cases D <;> simp at kz <;> rfl,ID _ _ _ (an a W s)⟩
end
end Gv
namespace Gv
open Go
set_option linter.unusedVariables false
set_option linter.unusedSimpArgs false
def Dx (P:Program) (u:Value) {α σ ε γ:Type} (τ:α→I) (Ls:σ→γ→List aN) (Lx:ε→γ→List aN) (step:α→σ→aK (σ ⊕ ε)) (aas:List Nat→World→Prop):Prop:=
 ∃ l,u= .func (.yield l) #[] #[]∧ ∀ x s R,step x s R→ ∀ g A W v,aas (aP (Ls s g) ++ A) W→wZ A W (Ls s g)→ (τ x).holds (aP (Ls s g) ++ A) W v→
   YieldAt Fence.wide 8 P l #[v] W (fun e W'=>(∃ b8,R (.inl b8)∧jV (aP (Ls s g)) A W (fun _:γ=>I.of true) (fun g=>Ls b8 g) e W')∨ ∃ q,R (.inr q)∧jV (aP (Ls s g)) A W (fun _:γ=>I.of false) (fun g=>Lx q g) e W')
structure y5 (P:Program) (f:FuncId) (τs:List I) {b6:Type} [fi b6] {α:Type} (τ:α→I) (run:∀ {σ ε:Type},(σ→bg b6)→ (α→σ→aK (σ ⊕ ε))→σ→aK (σ ⊕ ε)):Prop where
 go:∀ {σ ε γ:Type} (Ls:σ→γ→List aN) (Lx:ε→γ→List aN) (hq:σ→bg b6) (jz:σ→γ→List aN),(∀ s g,Ls s g=jz s g ++ bz (hq s))→ ∀ (step:α→σ→aK (σ ⊕ ε)) (cf:σ) (g0:γ) (R:σ ⊕ ε→Prop),run hq step cf R→
  ∀ (A:List Nat) (W:World) (u:Value) (vs:List Value),wZ A W (Ls cf g0)→gW (aP (Ls cf g0) ++ A) W τs vs→
    Dx P u τ Ls Lx step (fun c0 W'=>Ext (aP (Ls cf g0) ++ A) W c0 W')→
    Calls P f (u :: vs).toArray W (jV (aP (Ls cf g0)) A W (δ:= {r // R r} × γ) (fun _=> .eI []) (fun d=>Lr Ls Lx d.1.1 d.2))
theorem y5.of {P:Program} {f:FuncId} {fn:Func} {code:Code} {n:Nat} {τs:List I} {b6:Type} [fi b6] {α:Type} {τ:α→I} {run:∀ {σ ε:Type},(σ→bg b6)→ (α→σ→aK (σ ⊕ ε))→σ→aK (σ ⊕ ε)}
 (a7:P.funcs[f]? =some fn) (hb:fn.body=some code) (aO:fn.ntmps=n) (hlen:Nat.ble (τs.length + 1) n=true)
 (h:∀ {σ ε γ:Type} (Ls:σ→γ→List aN) (Lx:ε→γ→List aN) (hq:σ→bg b6) (jz:σ→γ→List aN),(∀ s g,Ls s g=jz s g ++ bz (hq s))→ ∀ (step:α→σ→aK (σ ⊕ ε)) (cf:σ) (g0:γ) (R:σ ⊕ ε→Prop),run hq step cf R→
  ∀ W A u,Dx P u τ Ls Lx step (fun c0 W'=>Ext (aP (Ls cf g0) ++ A) W c0 W')→
    ag ⟨P,n,W,aP (Ls cf g0),A,none,[]⟩ (bodyPost P fn (jV (aP (Ls cf g0)) A W (δ:= {r // R r} × γ) (fun _=> .eI []) (fun d=>Lr Ls Lx d.1.1 d.2))) code (params 0 (.eq u :: τs)) (Ls cf g0)):y5 P f τs τ run:=by
 refine⟨?_⟩
 intro σ ε γ Ls Lx hq jz my step cf g0 R aQ A W u vs al a3 a4
 refine calls_of_wp a7 hb (wpIn_wide.1 (h Ls Lx hq jz my step cf g0 R aQ W A u a4 _ _ ?_))
 have oF:gW (aP (Ls cf g0) ++ A) W (.eq u :: τs) (u :: vs):= .cons rfl a3
 have lg:=oF.length
 have hle:τs.length + 1≤n:=Nat.le_of_ble_eq_true hlen
 exact
 {defers:=rfl
  size:=by simp at lg; simp [aO,lg]; omega
  env:=fun t τ ev=>by
   obtain⟨_,v,ab,aE⟩:=tB oF 0 t τ ev
   refine⟨v,?_,aE⟩
   have cv:t < (u :: vs).length:=(List.getElem?_eq_some_iff.1 ab).1
   rw [Array.getElem?_append_left (by simpa using cv)]
   simpa using ab
  dw:= .refl _ _
  own:=al.ok
  nodup:=al.nodup
  lt:=al.lt
  fH:=fun k aq _=>aq
  eQ:=al.eQ }
section
variable {c:c8} {E:List (Nat × I)} {L:List aN} {ops:Array Oper} {Q:Exit→Act→World→Prop}
variable {d:Option Tmp} {ty:TypeId} {pos:String} {af:Array Edge} {g:Option (Nat × Bool)} {x y:Operand} {t t2:TypeId}
theorem NA {b6:Type} [fi b6] {σ γ:Type} {Ls jz:σ→γ→List aN} {hq:σ→bg b6} {s:σ} {g:γ} {p:Nat} {k:b6} {e:aN} (n:Nat) (av:L.drop n=Ls s g) (my:∀ s g,Ls s g=jz s g ++ bz (hq s)) (h:pat (hq s) p=some k) (aq:fi.ih p k= [e]):e∈L:=by
 obtain⟨R,J,_⟩:=vY h
 rw [aq] at J
 have:e∈L.drop n:=by rw [av,my]; exact List.mem_append.2 (.inr (J.mem_iff.2 (by simp)))
 exact List.mem_of_mem_drop this
theorem ak.U3 {rest:List Oper} {bc kB:Nat} {ats:Array TypeId} {u:Value} {α σ ε γ:Type} {τ:α→I} {Ls:σ→γ→List aN} {Lx:ε→γ→List aN} {step:α→σ→aK (σ ⊕ ε)} {Lin:List aN} {x:Operand} {v:α} {s:σ} {gg:γ} {R:σ ⊕ ε→Prop}
 (ao:c.rd=none) (a4:Dx c.P u τ Ls Lx step (fun c0 W'=>Ext (c.X ++ c.b2) c.iD c0 W')) (a7:look E kB=some (.eq u)) (an:bb c E (Lin ++ Ls s gg) x (τ v)) (aQ:step v s R) (aO:Nat.blt bc c.n=true)
 (aV:∀ b8,R (.inl b8)→ ∀ fh,ak c ops Q rest ((bc,.of true) :: E) (Lin ++ Ls b8 fh)) (bu:∀ q,R (.inr q)→ ∀ fh,ak c ops Q rest ((bc,.of false) :: E) (Lin ++ Lx q fh)):
 ak c ops Q (⟨some bc,.call ⟨.value (.tmp kB),#[x],ats⟩,ty,pos,af,none⟩ :: rest) E (Lin ++ Ls s gg):=fun a W st=>by
 obtain⟨l,rfl,a4⟩:=a4
 obtain⟨Jh,J,ab⟩:=st.env kB _ a7
 have hu:Jh= .func (.yield l) #[] #[]:=ab
 subst hu
 have nR:bG c E (Ls s gg ++ Lin) a W:=st.perm List.perm_append_comm
 have a3:=an a W st
 have oF:(τ v).holds (aP (Ls s gg) ++ (aP Lin ++ c.b2)) W (a.eval x):=(τ v).mono (.drop fun k hm=>by
  rw [e0]
  simp only [List.mem_append] at hm ⊢
  rcases hm with hm | hm | hm
  ·exact .inl (.inr hm)
  ·exact .inl (.inl hm)
  ·exact .inr hm) a3
 obtain⟨fn,tmps,assign,body,kK,fJ⟩:=a4 v s R aQ gg (aP Lin ++ c.b2) W (a.eval x) (nR.Oa.trans yX) nR.Dw oF
 have G9:(execOp a.eval ⟨some bc,.call ⟨.value (.tmp kB),#[x],ats⟩,ty,pos,af,none⟩).run c.P W= .ok (.round l fn tmps assign body) W:=by
  rw [← kK]
  simp [execOp,resolve,Deferred.ofValue,Act.eval,J,invoke,Sem.run_bind,Sem.run_pure,Result.andThen]
 refine wpListIn_plain rfl fun K tf=> ?_
 refine⟨fun _ _=>trivial,?_⟩
 rw [Oper.semAt_eq _ _ _ (fun _ h=>by cases h),G9,Oper.uponIn_round]
 refine⟨fun h=>by simp at h,?_⟩
 have Iq:RoundIn c.F (9 - 1) c.P l fn tmps assign body W _:=fJ
 refine Iq.mono fun e W' he=> ?_
 rcases he with⟨b8,hs,w,fh,rfl,po,aE,aW,aX,bk⟩ | ⟨q,hs,w,fh,rfl,po,aE,aW,aX,bk⟩
 ·obtain rfl:=of_bool.1 bk
  refine tf _ _ (aV b8 hs fh _ _ ?_)
  exact(((nR.after po aE aW aX).perm List.perm_append_comm).put (by simpa using aO) (of_bool.2 rfl))
 ·obtain rfl:=of_bool.1 bk
  refine tf _ _ (bu q hs fh _ _ ?_)
  exact(((nR.after po aE aW aX).perm List.perm_append_comm).put (by simpa using aO) (of_bool.2 rfl))
def Py {σ ε γ:Type} (c:c8) (eV:ε→Code) (l D:Nat) (rec:Loop) (Ls:σ→γ→List aN) (Lx:ε→γ→List aN) (R:σ ⊕ ε→Prop):Exit→Act→World→Prop:=fun x a W=>
 (∃ b8,R (.inl b8)∧x= .normal∧ ∃ g,bG c [] (⟨some l,.is (.loop rec)⟩ :: ⟨some D,.dI⟩ :: Ls b8 g) a W)∨
 ∃ q,R (.inr q)∧tZ (eV q)=true∧x=za (eV q)∧ ∃ g,bG c [] (⟨some l,.is (.loop rec)⟩ :: ⟨some D,.dI⟩ :: Lx q g) a W
theorem ae.Ye {σ ε γ:Type} {eV:ε→Code} {l D:Nat} {rec:Loop} {Ls:σ→γ→List aN} {Lx:ε→γ→List aN} {R:σ ⊕ ε→Prop} {b8:σ} (fJ:R (.inl b8)) (g:γ) (n:Nat) (av:L.drop n=⟨some l,.is (.loop rec)⟩ :: ⟨some D,.dI⟩ :: Ls b8 g):
 ae c (Py c eV l D rec Ls Lx R) .normal E L:=fun a W s=> .inl ⟨b8,fJ,rfl,g,by rw [← av]; exact(s.ox n).less (fun t τ h=>by simp [look] at h)⟩
theorem S0 {gt p:Nat} {assign body:Code} {f:FuncId} {l7:List I} {b6:Type} [fi b6] {α σ ε γ ρ:Type} {τ:α→I} {run:∀ {σ ε:Type},(σ→bg b6)→ (α→σ→aK (σ ⊕ ε))→σ→aK (σ ⊕ ε)}
 {Ls:σ→γ→List aN} {Lx:ε→γ→List aN} {hq:σ→bg b6} {step:α→σ→aK (σ ⊕ ε)} {cf:σ} {g0:γ} {k:σ ⊕ ε→aK ρ} {mI:ρ→Prop} (jz:σ→γ→List aN) (eV:ε→Code)
 (ao:c.rd=none) (eo:bH c.P f) (bZ:look E gt=some (.hy f l7)) (ky:y5 c.P f l7 τ run) (aQ:aK.bind (run hq step cf) k mI) (my:∀ s g,Ls s g=jz s g ++ bz (hq s)) (av:L=Ls cf g0) (hp:Nat.blt p c.n=true)
 (oe:∀ x s R,step x s R→ ∀ g (ld:World) (lu lf:List Nat) (l D:Nat) (rec:Loop),rec.state= .ready→
  ag ⟨c.P,c.n,ld,lu,lf,some l,[]⟩ (Exit.then (A2 ⟨c.P,c.n,ld,lu,lf,some l,[]⟩ l body (Py ⟨c.P,c.n,ld,lu,lf,some l,[]⟩ eV l D { rec with state:= .busy } Ls Lx R)) (fun _ _ _=>False)) assign ((p,τ x) :: E) (⟨some l,.is (.loop rec)⟩ :: ⟨some D,.dI⟩ :: Ls s g))
 (nz:∀ b8,k (.inl b8) mI→ ∀ g D,ae { c with ds:=D :: c.ds } Q .normal E (⟨some D,.dI⟩ :: Ls b8 g))
 (uu:∀ q,k (.inr q) mI→ ∀ g D,ag { c with ds:=D :: c.ds } Q (eV q) E (⟨some D,.dI⟩ :: Lx q g)):
 ag c Q (.rangeFunc (.tmp gt) #[p] assign body) E L:=fun a W st=>by
 subst av
 refine wpIn_rangeFunc fun fn ZH=> ?_
 show ∃ l mark YW d Xl xm args YX,(Instr.enterLoop fn a.tmps #[p] assign body c.rd).run c.P W=_∧_
 rw [ao]
 obtain⟨rec,jZ⟩:∃ rec:Loop,rec= { state:= .ready,pending:=none,fn,tmps:=a.tmps,params:= #[p],assign,body,defers:=W.heap.size } :=⟨_,rfl⟩
 obtain⟨v,Aq,hM,u2,ZI⟩:=st.env gt _ bZ
 obtain⟨hD,Ar⟩:∃ hD,(W.alloc (.deferred (some []))).alloc (.loop rec)=hD:=⟨_,rfl⟩
 have s1:=(st.alloc (o:= .deferred (some [])) (cp:= .dI) rfl).alloc (o:= .loop rec) (cp:= .is (.loop rec)) rfl
 rw [Ar,World.size_alloc] at s1
 obtain⟨D,kz⟩:∃ D,D=W.heap.size:=⟨_,rfl⟩
 obtain⟨l,al⟩:∃ l,l=W.heap.size + 1:=⟨_,rfl⟩
 have As:=run_enterLoop_outer (P:=c.P) (w:=W) fn a.tmps #[p] assign body
 rw [← jZ,Ar,← al,← kz] at As
 rw [← al,← kz] at s1
 obtain⟨kR,pq⟩:∃ kR:σ→γ→List aN,kR=fun s g=>⟨some l,.is (.loop rec)⟩ :: ⟨some D,.dI⟩ :: Ls s g:=⟨_,rfl⟩
 obtain⟨me,At⟩:∃ me:ε→γ→List aN,me=fun q g=>⟨some l,.is (.loop { rec with state:= .done,pending:=some (eV q) })⟩ :: ⟨some D,.dI⟩ :: Lx q g:=⟨_,rfl⟩
 have s2:bG c E (kR cf g0) a hD:=by rw [pq]; exact s1
 have It:gW (aP (kR cf g0) ++ c.b2) hD l7 hM:=by
  have J:(I.hy f l7).holds (aP (kR cf g0) ++ c.b2) hD v:=by
   obtain⟨Eg,J,ab⟩:=s2.env gt _ bZ
   rw [Aq] at J
   cases J
   exact ab
  obtain⟨Iu,ay,aS⟩:=J
  rw [u2] at ay
  have:Iu=hM:=by injection ay with _ _ ay; injection ay with ay; exact ay.symm
  rw [← this]; exact aS
 have Au:bG c E ((kR cf g0) ++ []) a hD:=by rw [List.append_nil]; exact s2
 have zu:=Au.Dw
 simp only [aP,List.nil_append] at zu
 have HB:Dx c.P (.func (.yield l) #[] #[]) τ kR me step (fun c0 W'=>Ext (aP (kR cf g0) ++ c.b2) hD c0 W'):=by
  refine⟨l,rfl,fun x s Eh hs g A nh v2 gZ hle a3=> ?_⟩
  have zX:=hle
  rw [pq] at zX
  obtain⟨o,fY,hI⟩:=zX.ok ⟨some l,.is (.loop rec)⟩ (by simp)
  have o8:o= .loop rec:=hI
  subst o8
  have a4:=run_yield (P:=c.P) (args:= #[v2]) fY (by rw [jZ]; rfl)
  refine⟨_,_,_,_,a4,roundIn_of_wpIn trivial ?_⟩
  have ay:rec.assign=assign:=by rw [jZ]
  have aS:rec.body=body:=by rw [jZ]
  have cW:rec.params= #[p]:=by rw [jZ]
  have eh:rec.tmps=a.tmps:=by rw [jZ]
  rw [ay,aS,cW,eh]
  refine Cg (n:=9) rfl ?_
  have Ha:((#[p]:Array Tmp).zip #[v2]).foldl (fun tmps (t,a)=>tmps.setIfInBounds t a) a.tmps=a.tmps.setIfInBounds p v2:=by simp
  rw [Ha]
  subst pq At
  refine wpIn_mono ((oe x s Eh hs g nh (aP (⟨some l,.is (.loop rec)⟩ :: ⟨some D,.dI⟩ :: Ls s g)) A l D rec (by rw [jZ])) { tmps:=a.tmps.setIfInBounds p v2,defers:= [] } nh ?_) ?_
  ·have mf:p < c.n:=by simpa using hp
   exact
   {defers:=rfl
    size:=by simp [s2.size]
    env:=fun t ma ev=>by
     simp only [look] at ev
     by_cases e:Nat.beq p t=true
     ·rw [e] at ev
      simp only [cond_true,Option.some.injEq] at ev
      subst ev
      have:=ep.1 e
      subst this
      exact⟨v2,by simp [s2.size,mf],a3⟩
     ·simp only [Bool.not_eq_true] at e
      rw [e] at ev
      simp only [cond_false] at ev
      obtain⟨u,J,ab⟩:=s2.env t ma ev
      have dk:p≠t:=fun h=>by rw [ep.2 h] at e; cases e
      exact⟨u,by rw [Array.getElem?_setIfInBounds_ne dk]; exact J,ma.mono gZ ab⟩
    dw:= .refl _ _
    own:=hle.ok
    nodup:=hle.nodup
    lt:=hle.lt
    fH:=fun k aq _=>aq
    eQ:=hle.eQ }
  ·intro e kd aap hq
   cases e with
   | normal=>
     obtain⟨Ji,Iv,hb⟩:=hq
     refine⟨Ji,Iv,Cg (n:=9) rfl (wpIn_mono hb ?_)⟩
     intro e rL A3 DT
     have fin:∀ (jump:Option Code) {Lr:List aN},bG ⟨c.P,c.n,nh,aP (⟨some l,.is (.loop rec)⟩ :: ⟨some D,.dI⟩ :: Ls s g),A,some l,[]⟩ [] (⟨some l,.is (.loop { rec with state:= .busy })⟩ :: ⟨some D,.dI⟩ :: Lr) rL A3→
      ∃ nY,(Instr.endRound l jump).run c.P A3= .ok (.bool jump.isNone) nY∧bG ⟨c.P,c.n,nh,aP (⟨some l,.is (.loop rec)⟩ :: ⟨some D,.dI⟩ :: Ls s g),A,some l,[]⟩ [] (⟨some l,.is (.loop { rec with state:=if jump.isNone then .ready else .done,pending:=jump })⟩ :: ⟨some D,.dI⟩ :: Lr) rL nY:=fun jump Lr hL=>by
      obtain⟨o,J,ab⟩:=hL.own ⟨some l,.is (.loop { rec with state:= .busy })⟩ (by simp)
      have lj:o= .loop { rec with state:= .busy } :=ab
      subst lj
      exact⟨_,run_endRound jump J,hL.rb (i:=0) rfl rfl⟩
     rcases DT with⟨b8,fe,rfl,fh,hL⟩ | ⟨q,fe,aF,rfl,fh,hL⟩
     ·obtain⟨nY,bk,il⟩:=fin none hL
      refine⟨_,nY,bk,.inl ⟨b8,fe,?_⟩⟩
      have Iw:({ rec with state:=if (none:Option Code).isNone then .ready else .done,pending:=none } :Loop)=rec:=by rw [jZ]; rfl
      rw [Iw] at il
      exact il.ends (ρ:=fun _:γ=>I.of true) (Lo:=fun g=>⟨some l,.is (.loop rec)⟩ :: ⟨some D,.dI⟩ :: Ls b8 g) fh (List.Sublist.refl _) (of_bool.2 rfl)
     ·obtain⟨nY,bk,il⟩:=fin (some (eV q)) hL
      have key:jV (aP (⟨some l,.is (.loop rec)⟩ :: ⟨some D,.dI⟩ :: Ls s g)) A nh (fun _:γ=>I.of false) (fun g=>⟨some l,.is (.loop { rec with state:= .done,pending:=some (eV q) })⟩ :: ⟨some D,.dI⟩ :: Lx q g) (.returned (.bool false)) nY:=
       il.ends (ρ:=fun _:γ=>I.of false) (Lo:=fun g=>⟨some l,.is (.loop { rec with state:= .done,pending:=some (eV q) })⟩ :: ⟨some D,.dI⟩ :: Lx q g) fh (List.Sublist.refl _) (of_bool.2 rfl)
      exact J5 aF bk (.inr ⟨q,fe,key⟩)
   | exit id=>exact hq.elim
   | goto t=>exact hq.elim
   | ret=>exact hq.elim
   | panic I5=>exact hq.elim
   | outgrown=>exact hq.elim
 have zv:=ky.go kR me hq (fun s g=>⟨some l,.is (.loop rec)⟩ :: ⟨some D,.dI⟩ :: jz s g) (fun s g=>by rw [pq]; simp only [my,List.cons_append]) step cf g0 (fun r=>k r mI) aQ c.b2 hD (.func (.yield l) #[] #[]) hM zu It HB
 have jL:a.eval (.tmp gt)= .func (.func f) #[] hM.toArray:=by simp [Act.eval,Aq,u2]
 refine⟨l,[Dn D],hD,{ target:= .fn (.func f) hM.toArray,args:= #[.func (.yield l) #[] #[]] },hD,f,#[.func (.yield l) #[] #[]] ++ hM.toArray,hD,As,?_,fun _ _=>trivial,?_,fun h=>by simp at h,?_⟩
 ·simp only [resolve,jL]
  simp [go_sem]
 ·simp [invoke,go_sem,eo.run]
 ·refine CallsIn.FN ?_
  have Hb:(#[.func (.yield l) #[] #[]] ++ hM.toArray:Array Value)=(.func (.yield l) #[] #[] :: hM).toArray:=by simp
  rw [Hb]
  refine zv.mono fun e Jj ⟨aaq,⟨⟨r,Pz⟩,fh⟩,he,a7,aE,aW,aX,bk⟩=> ?_
  subst he
  have nZ:=Au.after a7 aE (by simpa [aP] using aW) (by simpa [aP] using aX)
  rw [List.append_nil] at nZ
  cases r with
  | inl b8=>
    simp only [Lr] at nZ
    subst pq
    obtain⟨o,fY,hI⟩:=nZ.own ⟨some l,.is (.loop rec)⟩ (by simp)
    have o8:o= .loop rec:=hI
    subst o8
    have m6:=run_endLoop (P:=c.P) fY (by rw [jZ]; simp)
    have mf:rec.pending=none:=by rw [jZ]
    rw [mf] at m6
    refine⟨none,_,m6,?_⟩
    have rM:=(nZ.rb (i:=0) (cp':= .is (.loop { rec with state:= .exhausted })) (o':= .loop { rec with state:= .exhausted }) rfl rfl).ox 1
    rw [mf] at rM
    exact nz b8 Pz fh D _ _ (rM.mark D)
  | inr q=>
    simp only [Lr] at nZ
    subst At
    obtain⟨o,fY,hI⟩:=nZ.own ⟨some l,.is (.loop { rec with state:= .done,pending:=some (eV q) })⟩ (by simp)
    have o8:o= .loop { rec with state:= .done,pending:=some (eV q) } :=hI
    subst o8
    have m6:=run_endLoop (P:=c.P) fY (by simp)
    refine⟨some (eV q),_,m6,?_⟩
    have rM:=(nZ.rb (i:=0) (cp':= .is (.loop { rec with state:= .exhausted,pending:=some (eV q) })) (o':= .loop { rec with state:= .exhausted,pending:=some (eV q) }) rfl rfl).ox 1
    exact uu q Pz fh D _ _ (rM.mark D)
end
end Gv
