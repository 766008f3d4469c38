/-
  The library of the decompiler, as far as it is needed here. Conditions: none.
-/
import Derived.Lib.AppendZerosOnto
import Derived.Lib.Overlaps
import Derived.MapKept
import Derived.Test.YthkfkliknjiecaaGreatMl0
set_option linter.unusedVariables false
set_option linter.unusedSimpArgs false
namespace Gv
open Go
def j8:Value:= .slice none 0 0
def blank:List (Nat × Value)→List Value→List Value
 | [],cs=>cs
 | o :: r,cs=>blank r (cs.set o.1 j8)
theorem y7:∀ {os:List (Nat × Value)} {cs:List Value},(blank os cs).length=cs.length
 | [],_=>rfl
 | o :: r,cs=>by rw [blank,y7,List.length_set]
theorem qz:∀ {os:List (Nat × Value)} {cs:List Value} (i:Nat),(blank os cs)[i]? =if os.any (fun h=>Nat.beq h.1 i)=true then cs[i]?.map (fun _=>j8) else cs[i]?
 | [],_,i=>by simp [blank]
 | o :: r,cs,i=>by
   rw [blank,qz i,List.any_cons]
   by_cases h:o.1=i
   ·subst h
    simp only [Nat.beq_refl,Bool.true_or,if_true,List.getElem?_set]
    by_cases an:o.1 < cs.length
    ·simp [an]
    ·simp [an]
   ·have hb:Nat.beq o.1 i=false:=by
     cases hb:Nat.beq o.1 i
     ·rfl
     ·exact absurd (ec.1 hb) h
    rw [hb,Bool.false_or,List.getElem?_set_ne h]
def tB (os:List (Nat × Value)) (off n:Nat):Bool:=os.all fun h=>Nat.blt h.1 off || Nat.ble (off + n) h.1
theorem KL {os:List (Nat × Value)} {off n i:Nat} (h:tB os off n=true) (J:off≤i) (aa:i < off + n):os.any (fun h=>Nat.beq h.1 i)=false:=by
 rw [List.any_eq_false]
 intro x ai hb
 have av:=List.all_eq_true.1 h x ai
 have aO:=ec.1 hb
 simp only [Bool.or_eq_true,Nat.blt_eq,Nat.ble_eq] at av
 omega
theorem Sr {os:List (Nat × Value)} {off n:Nat} {cs:List Value} (h:tB os off n=true):((blank os cs).drop off).take n=(cs.drop off).take n:=by
 apply List.ext_getElem?
 intro i
 simp only [List.getElem?_take,List.getElem?_drop]
 split
 ·rw [qz,KL h (by omega) (by omega)]; rfl
 ·rfl
theorem uY {cs ds:List Value} {off:Nat} (h:off + ds.length≤cs.length) (i:Nat):(fR cs off ds)[i]? =if i < off then cs[i]? else if i < off + ds.length then ds[i - off]? else cs[i]? :=by
 have J:(cs.take off).length=off:=by rw [List.length_take]; omega
 unfold fR
 rw [List.append_assoc]
 by_cases ao:i < off
 ·rw [if_pos ao,List.getElem?_append_left (by omega),List.getElem?_take,if_pos ao]
 ·rw [if_neg ao,List.getElem?_append_right (by omega),J]
  by_cases aa:i < off + ds.length
  ·rw [if_pos aa,List.getElem?_append_left (by omega)]
  ·rw [if_neg aa,List.getElem?_append_right (by omega),List.getElem?_drop]
   congr 1; omega
theorem Rl {os:List (Nat × Value)} {off:Nat} {cs ds:List Value} (h:tB os off ds.length=true) (hs:off + ds.length≤cs.length):blank os (fR cs off ds)=fR (blank os cs) off ds:=by
 apply List.ext_getElem?
 intro i
 rw [qz,uY hs,uY (by rw [y7]; exact hs),qz]
 by_cases J:i < off
 ·simp only [if_pos J]
 ·simp only [if_neg J]
  by_cases aa:i < off + ds.length
  ·simp only [if_pos aa,KL h (Nat.not_lt.1 J) aa]; rfl
  ·simp only [if_neg aa]
def tw (os:List (Nat × Value)) (o:Nat) (u:Value):List (Nat × Value):=
 bif os.any (fun h=>Nat.beq h.1 o) then os.map (fun h=>bif Nat.beq h.1 o then(o,u) else h) else(o,u) :: os
theorem Ry {os:List (Nat × Value)} {o:Nat} {u:Value} {h:Nat × Value} (hm:h∈tw os o u):h=(o,u)∨ (h∈os∧h.1≠o):=by
 unfold tw at hm
 cases hb:os.any (fun h=>Nat.beq h.1 o)
 ·rw [hb] at hm
  simp only [cond_false] at hm
  rcases List.mem_cons.1 hm with hm | hm
  ·exact .inl hm
  ·refine .inr ⟨hm,fun e=> ?_⟩
   have:=List.any_eq_false.1 hb h hm
   exact this (ec.2 e)
 ·rw [hb] at hm
  simp only [cond_true] at hm
  obtain⟨x,ai,he⟩:=List.mem_map.1 hm
  cases J:Nat.beq x.1 o
  ·rw [J] at he
   simp only [cond_false] at he
   subst he
   exact .inr ⟨ai,fun e=>by rw [ec.2 e] at J; cases J⟩
  ·rw [J] at he
   exact .inl he.symm
theorem Rz {os:List (Nat × Value)} {o i:Nat} {u:Value} :(tw os o u).any (fun h=>Nat.beq h.1 i)=(Nat.beq o i || os.any (fun h=>Nat.beq h.1 i)):=by
 unfold tw
 cases hb:os.any (fun h=>Nat.beq h.1 o)
 ·simp only [cond_false,List.any_cons]
 ·simp only [cond_true,List.any_map]
  rw [Bool.eq_iff_iff,Bool.or_eq_true,List.any_eq_true,List.any_eq_true]
  constructor
  ·rintro ⟨x,ai,he⟩
   simp only [Function.comp] at he
   cases J:Nat.beq x.1 o
   ·rw [J] at he
    exact .inr ⟨x,ai,he⟩
   ·rw [J] at he
    exact .inl he
  ·rintro (h | ⟨x,ai,he⟩)
   ·obtain⟨x,ai,J⟩:=List.any_eq_true.1 hb
    exact⟨x,ai,by simp only [Function.comp,J,cond_true]; exact h⟩
   ·refine⟨x,ai,?_⟩
    simp only [Function.comp]
    cases J:Nat.beq x.1 o
    ·exact he
    ·have az:=ec.1 J; have aX:=ec.1 he
     simp only [cond_true]; exact ec.2 (by omega)
def nK (os:List (Nat × Value)) (o:Nat):List (Nat × Value):=os.filter (fun h=> !Nat.beq h.1 o)
theorem RA {os:List (Nat × Value)} {o i:Nat} :(nK os o).any (fun h=>Nat.beq h.1 i)=(!(Nat.beq o i) && os.any (fun h=>Nat.beq h.1 i)):=by
 rw [Bool.eq_iff_iff]
 simp only [List.any_eq_true,Bool.and_eq_true,Bool.not_eq_true',nK,List.mem_filter]
 constructor
 ·rintro ⟨x,⟨J,aa⟩,av⟩
  refine⟨?_,x,J,av⟩
  cases hb:Nat.beq o i
  ·rfl
  ·have:=ec.1 hb; have aO:=ec.1 av
   rw [aO,← this,Nat.beq_refl] at aa; cases aa
 ·rintro ⟨bA,x,J,av⟩
  refine⟨x,⟨J,?_⟩,av⟩
  cases hb:Nat.beq x.1 o
  ·rfl
  ·have:=ec.1 hb; have aO:=ec.1 av
   rw [← this,aO,Nat.beq_refl] at bA; cases bA
def lg {α:Type} [ae α] (A:List Nat) (W:World) (cs:List Value) (x:α) (os:List (Nat × Value)):Prop:=ae.rep A W (blank os cs) x∧ ∀ h∈os,cs[h.1]? =some h.2∧h.2.oneCell'=true
theorem lg.len {α:Type} [ae α] {A W} {cs:List Value} {x:α} {os:List (Nat × Value)} (h:lg A W cs x os):cs.length=ae.size α:=by rw [← y7 (os:=os)]; exact ae.len h.1
theorem lg.mono {α:Type} [ae α] {A W c1 W'} {cs:List Value} {x:α} {os:List (Nat × Value)} (e:Ext A W c1 W') (h:lg A W cs x os):lg c1 W' cs x os:=⟨ae.mono e h.1,h.2⟩
theorem lg.one {α:Type} [ae α] {A W} {cs:List Value} {x:α} {os:List (Nat × Value)} (h:lg A W cs x os):∀ u∈cs,u.oneCell'=true:=by
 intro u hu
 obtain⟨i,ao⟩:=List.mem_iff_getElem?.1 hu
 by_cases hb:os.any (fun h=>Nat.beq h.1 i)=true
 ·obtain⟨o,a6,he⟩:=List.any_eq_true.1 hb
  have he:=ec.1 he
  obtain⟨J,aa⟩:=h.2 o a6
  rw [he,ao] at J
  cases J; exact aa
 ·have J:=qz (os:=os) (cs:=cs) i
  rw [if_neg hb,ao] at J
  exact ae.one h.1 u (List.mem_of_getElem? J)
def dF.bZ {α:Type} [ae α] (x:α) (os:List (Nat × Value)):dF where
 holds A W o:= ∃ cs T,o= .cells cs T (0,0)∧lg A W cs.toList x os
 mG:=False
 mono e h:=let⟨cs,T,a6,aD⟩:=h; ⟨cs,T,a6,aD.mono e⟩
def I.Ew {α:Type} [ae α] (x:α) (os:List (Nat × Value)):I where
 holds A W v:=shaped (ae.agg α) v∧lg A W v.cells.toList x os
 mono e h:=⟨h.1,h.2.mono e⟩
structure fJ where
 v:Value
instance:ae fJ where
 size:=1
 agg:=false
 rep _ _ cs x:=cs= [x.v]∧x.v.oneCell'=true
 len h:=by rw [h.1]; rfl
 one h:=by rw [h.1]; intro u hu; rw [List.mem_singleton.1 hu]; exact h.2
 flat _:=rfl
 mono _ h:=h
theorem NO {A W v} {u:Value} :(I.of (⟨u⟩:fJ)).holds A W v↔v=u∧u.oneCell'=true:=by
 constructor
 ·rintro ⟨J,aa,av⟩
  have J:v.oneCell'=true:=J
  exact⟨od J aa,av⟩
 ·rintro ⟨rfl,h⟩
  exact⟨h,by show v.cells.toList= [v]∧_; rw [oe h]; exact⟨rfl,h⟩⟩
theorem bs.ex {P:Program} {t:TypeId} {γ:Type} [ae γ] (h:bs P t (List γ)):bs P t fJ:=⟨h.size,h.OW⟩
theorem jy {key:Option Nat} {n cap:Nat} :(bf key n cap).oneCell'=true:=by cases key <;> rfl
theorem TE {A W} {γ:Type} [ae γ]:ae.rep A W [j8] ([]:List γ):=⟨j8,rfl,.inl ⟨rfl,rfl⟩⟩
theorem Lw {α γ:Type} [ae α] [ae γ] {A W} {cs ds:List Value} {x:α} {v:γ} {os:List (Nat × Value)} (l:aP α γ) (h:lg A W cs x os) (hd:ae.rep A W ds v) (a9:tB os l.off (ae.size γ)=true):lg A W (fR cs l.off ds) (l.set x v) os:=by
 have J:=h.len
 have dQ:=l.fZ
 have an:=ae.len hd
 refine⟨?_,fun o hm=> ?_⟩
 ·have aY:=l.k6 h.1 hd
  rw [Rl (by rw [an]; exact a9) (by rw [an]; omega)]
  simpa [fR,an] using aY
 ·refine⟨?_,(h.2 o hm).2⟩
  rw [uY (by rw [an]; omega)]
  have b7:=List.all_eq_true.1 a9 o hm
  simp only [Bool.or_eq_true,Nat.blt_eq,Nat.ble_eq] at b7
  rw [an]
  by_cases dV:o.1 < l.off
  ·rw [if_pos dV]; exact(h.2 o hm).1
  ·rw [if_neg dV,if_neg (by omega)]; exact(h.2 o hm).1
theorem K8 {α γ:Type} [ae α] [ae γ] {A W} {cs:List Value} {x:α} {u:Value} {os:List (Nat × Value)} (l:aP α (List γ)) (h:lg A W cs x os) (hu:u.oneCell'=true):lg A W (fR cs l.off [u]) (l.set x []) (tw os l.off u):=by
 have J:=h.len
 have dQ:l.off + 1≤ae.size α:=l.fZ
 refine⟨?_,fun o hm=> ?_⟩
 ·have aY:ae.rep A W ((blank os cs).take l.off ++ [j8] ++ (blank os cs).drop (l.off + 1)) (l.set x []):=l.k6 h.1 (TE (γ:=γ))
  have e:blank (tw os l.off u) (fR cs l.off [u])=fR (blank os cs) l.off [j8]:=by
   apply List.ext_getElem?
   intro i
   rw [qz,uY (by simp; omega),uY (by rw [y7]; simp; omega),qz]
   rw [Rz]
   by_cases ao:l.off=i
   ·subst ao
    simp
   ·have hb:Nat.beq l.off i=false:=by
     cases hb:Nat.beq l.off i
     ·rfl
     ·exact absurd (ec.1 hb) ao
    rw [hb]
    simp only [Bool.false_or,List.length_singleton]
    by_cases aa:i < l.off
    ·simp only [if_pos aa]
    ·have eQ: ¬ i < l.off + 1:=by omega
     simp only [if_neg aa,if_neg eQ]
  rw [e]
  simpa [fR] using aY
 ·rw [uY (by simp; omega)]
  rcases Ry hm with rfl | ⟨av,cN⟩
  ·exact⟨by simp,hu⟩
  ·
   simp only [List.length_singleton]
   refine⟨?_,(h.2 o av).2⟩
   by_cases dV:o.1 < l.off
   ·rw [if_pos dV]; exact(h.2 o av).1
   ·rw [if_neg dV,if_neg (by omega)]; exact(h.2 o av).1
theorem K9 {α γ:Type} [ae α] [ae γ] {A W} {cs:List Value} {x:α} {u:Value} {xs:List γ} {os:List (Nat × Value)} (l:aP α (List γ)) (h:lg A W cs x os) (hm:(l.off,u)∈os) (hs:n6 A W u xs):lg A W cs (l.set x xs) (nK os l.off):=by
 have J:=h.len
 have dQ:l.off + 1≤ae.size α:=l.fZ
 have Zl:=(h.2 _ hm).1
 refine⟨?_,fun o a6=>h.2 o (List.mem_filter.1 a6).1⟩
 have aY:ae.rep A W ((blank os cs).take l.off ++ [u] ++ (blank os cs).drop (l.off + 1)) (l.set x xs):=l.k6 h.1 (ds:= [u]) (g:=xs) ⟨u,rfl,hs⟩
 have e:blank (nK os l.off) cs=fR (blank os cs) l.off [u]:=by
  apply List.ext_getElem?
  intro i
  rw [qz,uY (by rw [y7]; simp; omega),qz,RA]
  by_cases ao:l.off=i
  ·subst ao
   simp [Zl]
  ·have hb:Nat.beq l.off i=false:=by
    cases hb:Nat.beq l.off i
    ·rfl
    ·exact absurd (ec.1 hb) ao
   rw [hb]
   simp only [Bool.not_false,Bool.true_and,List.length_singleton]
   by_cases aa:i < l.off
   ·simp only [if_pos aa]
   ·have eQ: ¬ i < l.off + 1:=by omega
    simp only [if_neg aa,if_neg eQ]
 rw [e]
 simpa [fR] using aY
section
variable {c:cY} {E:List (Nat × I)} {L:List aI} {ops:Array Oper} {Q:Exit→Act→World→Prop}
variable {d:Option Tmp} {ty:TypeId} {pos:String} {af:Array Edge} {g:Option (Nat × Bool)} {x y:Operand} {t t2:TypeId}
theorem bC.vk {a:Act} {W:World} (s:bC c E L a W) {i:Nat} {key:Option Nat} {cp cp':dF} (aq:L[i]? =some ⟨key,cp⟩) (h:∀ o,cp.holds (aK L ++ c.bL) W o→cp'.holds (aK L ++ c.bL) W o) (aF:cp.mG→cp'.mG):bC c E (L.set i ⟨key,cp'⟩) a W:=by
 have g1:aK (L.set i ⟨key,cp'⟩)=aK L:=xz (e:=⟨key,cp⟩) (cp:=cp') aq
 exact
 {defers:=s.defers
  size:=s.size
  env:=fun t τ an=>by rw [g1]; exact s.env t τ an
  dw:=s.dw
  own:=fun e he=>by
   rw [g1]
   obtain⟨j,aB⟩:=List.mem_iff_getElem?.1 he
   rw [List.getElem?_set] at aB
   split at aB
   ·split at aB
    ·simp only [Option.some.injEq] at aB
     subst aB
     have a6:=s.own _ (List.mem_of_getElem? aq)
     cases key with
     | none=>exact aF a6
     | some p=>obtain⟨o,J,aa⟩:=a6; exact⟨o,J,h _ aa⟩
    ·cases aB
   ·exact s.own e (List.mem_of_getElem? aB)
  nodup:=by rw [g1]; exact s.nodup
  lt:=by rw [g1]; exact s.lt
  fK:=by rw [g1]; exact s.fK
  ew:=by rw [g1]; exact s.ew }
theorem ah.YZ {l:List Oper} {p:Nat} {β:Type} [ae β] {b:β} (i:Nat) (aq:L[i]? =some ⟨some p,.var b⟩) (k:ah c ops Q l E (L.set i ⟨some p,.bZ b []⟩)):ah c ops Q l E L:=fun a W s=>
 k a W (s.vk aq (fun o ⟨cs,T,J,aa⟩=>⟨cs,T,J,aa,fun _ h=>by cases h⟩) id)
theorem ah.ov {l:List Oper} {p:Nat} {β:Type} [ae β] {b:β} (i:Nat) (aq:L[i]? =some ⟨some p,.bZ b []⟩) (k:ah c ops Q l E (L.set i ⟨some p,.var b⟩)):ah c ops Q l E L:=fun a W s=>
 k a W (s.vk aq (fun o ⟨cs,T,J,aa⟩=>⟨cs,T,J,aa.1⟩) id)
theorem aj.ov {z:Exit} {p:Nat} {β:Type} [ae β] {b:β} (i:Nat) (aq:L[i]? =some ⟨some p,.bZ b []⟩) (k:aj c Q z E (L.set i ⟨some p,.var b⟩)):aj c Q z E L:=fun a W s=>
 k a W (s.vk aq (fun o ⟨cs,T,J,aa⟩=>⟨cs,T,J,aa.1⟩) id)
theorem ak.ov {z:Code} {p:Nat} {β:Type} [ae β] {b:β} (i:Nat) (aq:L[i]? =some ⟨some p,.bZ b []⟩) (k:ak c Q z E (L.set i ⟨some p,.var b⟩)):ak c Q z E L:=fun a W s=>
 k a W (s.vk aq (fun o ⟨cs,T,J,aa⟩=>⟨cs,T,J,aa.1⟩) id)
def G4:Option Value→Bool
 | some (.slice none 0 0)=>true
 | _=>false
theorem KM {v:Option Value} (h:G4 v=true):v=some j8:=by
 unfold G4 at h
 split at h
 ·rfl
 ·cases h
def jG (P:Program) (t:TypeId) (hs:List Nat):Prop:=((P.info? t).bind (·.zero)).any (fun v=>hs.all fun o=>G4 v.cells.toList[o]?)=true
theorem FM:∀ {os:List (Nat × Value)} {cs:List Value},(∀ h∈os,cs[h.1]? =some j8)→blank os cs=cs
 | [],_,_=>rfl
 | o :: r,cs,h=>by
   have J:=h o (by simp)
   have e:cs.set o.1 j8=cs:=by
    apply List.ext_getElem?
    intro i
    rw [List.getElem?_set]
    split
    ·rename_i he; subst he
     have:=(List.getElem?_eq_some_iff.1 J).1
     rw [if_pos this,J]
    ·rfl
   rw [blank,e]
   exact FM fun x ai=>h x (by simp [ai])
theorem ah.o9 {rest:List Oper} {a7:Nat} {α:Type} [ae α] {z:α} (hs:List Nat) (sR:jG c.P t hs) (gC:cz c.P t z) (aF:Nat.blt a7 c.n=true)
 (k:∀ p,ah c ops Q rest ((a7,.eq (.pointer (some ⟨p,0,none⟩))) :: E) (⟨some p,.bZ z (hs.map fun o=>(o,j8))⟩ :: L)):ah c ops Q (⟨some a7,.alloc t,ty,pos,af,none⟩ :: rest) E L:=fun a W s=>by
 obtain⟨i,dK,J,aa,av⟩:=gC.zero
 have bS:∀ o∈hs,dK.cells.toList[o]? =some j8:=fun o a6=>by
  unfold jG at sR
  rw [J] at sR
  simp only [Option.bind_some,aa,Option.any_some] at sR
  exact KM (List.all_eq_true.1 sR o a6)
 have O1:∀ h∈hs.map (fun o=>(o,j8)),dK.cells.toList[h.1]? =some h.2:=fun h hm=>by
  obtain⟨o,a6,rfl⟩:=List.mem_map.1 hm
  exact bS o a6
 refine hO rfl (R:=fun v W'=>v= .pointer (some ⟨W.heap.size,0,none⟩)∧W'=W.alloc (.cells dK.cells t)) (.lx ?_ ⟨rfl,rfl⟩) fun v W' ⟨a3,hw⟩=> ?_
 ·simp [execOp,Instr.alloc,zeroValue,typeInfo,J,aa,newVar,newRow]
 ·subst a3
  subst hw
  refine k _ _ _ ((s.alloc (cp:= .bZ z (hs.map fun o=>(o,j8))) ⟨dK.cells,t,rfl,?_,fun h hm=>⟨O1 h hm,by obtain⟨o,_,rfl⟩:=List.mem_map.1 hm; rfl⟩⟩).put (by simpa using aF) rfl)
  rw [FM fun h hm=>by rw [O1 h hm]; obtain⟨o,_,rfl⟩:=List.mem_map.1 hm; rfl]
  exact(av _ _).2
theorem ah.XC {rest:List Oper} {a7:Nat} {α:Type} [ae α] {z:α} {os:List (Nat × Value)} (ai:a8 c E L x (.Ew z os)) (aF:Nat.blt a7 c.n=true)
 (k:∀ p,ah c ops Q rest ((a7,.eq (.pointer (some ⟨p,0,none⟩))) :: E) (⟨some p,.bZ z os⟩ :: L)):ah c ops Q (⟨some a7,.box t x,ty,pos,af,none⟩ :: rest) E L:=fun a W s=>by
 refine hO rfl (R:=fun v W'=>v= .pointer (some ⟨W.heap.size,0,none⟩)∧W'=W.alloc (.cells (a.eval x).cells t)) (.lx ?_ ⟨rfl,rfl⟩) fun v W' ⟨a3,hw⟩=> ?_
 ·simp [execOp,Instr.box,newVar,newRow]
 ·subst a3
  subst hw
  obtain⟨J,aa⟩:=ai a W s
  exact k _ _ _ ((s.alloc (cp:= .bZ z os) ⟨_,t,rfl,aa⟩).put (by simpa using aF) rfl)
theorem C6 {t:TypeId} {i p o:Nat} {β γ:Type} [ae β] [ae γ] {b:β} {os:List (Nat × Value)} (l:aP β γ) {r:γ} (ep:bs c.P t γ) (ai:a8 c E L x (.eq (.pointer (some ⟨p,o,none⟩))))
 (aq:L[i]? =some ⟨some p,.bZ b os⟩) (a6:o=l.off) (aD:l.get b=r) (a9:tB os l.off (ae.size γ)=true):bO c E L ⟨d,.load t x,ty,pos,af,g⟩ (.of r):= .pure fun a W s=>by
 subst a6
 subst aD
 obtain⟨j0,eD,cs,T,rfl,fL⟩:=s.own _ (List.mem_of_getElem? aq)
 have J:cs.toList.length=ae.size β:=fL.len
 have aS:=l.h3 fL.1
 rw [Sr a9] at aS
 obtain⟨v,aa,av⟩:=uS (A:=aK L ++ c.bL) ep eD (by have:=l.fZ; simp at J; omega) aS
 refine⟨v,?_,av⟩
 have aO:a.eval x=_:=ai a W s
 simp [execOp,Instr.loadAt,Instr.sureAddr,aO,aa]
theorem TF {cs:List Value} {o:Nat} {u:Value} (h:cs[o]? =some u):(cs.drop o).take 1= [u]:=by
 apply List.ext_getElem?
 intro i
 rw [List.getElem?_take,List.getElem?_drop]
 cases i with
 | zero=>simpa using h
 | succ i=>simp
theorem il {t:TypeId} {i p o q:Nat} {β γ:Type} [ae β] [ae γ] {b:β} {os:List (Nat × Value)} {u:Value} (ep:bs c.P t (List γ)) (ai:a8 c E L x (.eq (.pointer (some ⟨p,o,none⟩))))
 (aq:L[i]? =some ⟨some p,.bZ b os⟩) (hq:os[q]? =some (o,u)):bO c E L ⟨d,.load t x,ty,pos,af,g⟩ (.eq u):= .pure fun a W s=>by
 obtain⟨j0,eD,cs,T,rfl,fL,bS⟩:=s.own _ (List.mem_of_getElem? aq)
 obtain⟨aS,hu⟩:=bS _ (List.mem_of_getElem? hq)
 have bY:o < cs.size:=by have:=(List.getElem?_eq_some_iff.1 aS).1; simpa using this
 obtain⟨v,aa,av⟩:=uS (α:=fJ) (x:=⟨u⟩) (A:=aK L ++ c.bL) ep.ex eD (show o + 1≤cs.size by omega) ⟨TF aS,hu⟩
 refine⟨v,?_,(NO.1 av).1⟩
 have aO:a.eval x=_:=ai a W s
 simp [execOp,Instr.loadAt,Instr.sureAddr,aO,aa]
theorem ah.xx {t:TypeId} {rest:List Oper} {i p o:Nat} {β γ:Type} [ae β] [ae γ] {b b':β} {v:γ} {os:List (Nat × Value)} (l:aP β γ) (ep:bs c.P t γ) (ai:a8 c E L x (.eq (.pointer (some ⟨p,o,none⟩))))
 (a4:a8 c E L y (.of v)) (aq:L[i]? =some ⟨some p,.bZ b os⟩) (a6:o=l.off) (hb:l.set b v=b') (a9:tB os l.off (ae.size γ)=true)
 (k:ah c ops Q rest E (L.set i ⟨some p,.bZ b' os⟩)):ah c ops Q (⟨none,.store t x y,ty,pos,af,none⟩ :: rest) E L:=fun a W s=>by
 subst a6
 subst hb
 obtain⟨j0,eD,cs,T,rfl,fL⟩:=s.own _ (List.mem_of_getElem? aq)
 have J:cs.toList.length=ae.size β:=fL.len
 have dQ:=l.fZ
 have a3:=a4 a W s
 have aa:=yZ (A:=aK L ++ c.bL) ep eD (off:=l.off) (by simp at J; omega) a3
 have aO:a.eval x=_:=ai a W s
 refine hO rfl (R:=fun v W'=>W'=W.setRow p (fR cs.toList l.off (a.eval y).cells.toList).toArray) (.xr ?_ rfl) fun v W' hw=> ?_
 ·simp [execOp,Instr.storeAt,Instr.sureAddr,aO,aa]
 ·subst hw
  exact k _ _ (s.store aq eD ⟨_,T,rfl,by rw [List.toList_toArray]; exact Lw l fL a3.2 a9⟩)
theorem ah.kq {t:TypeId} {rest:List Oper} {i p o:Nat} {β γ:Type} [ae β] [ae γ] {b b':β} {u:Value} {os os':List (Nat × Value)} (l:aP β (List γ)) (ep:bs c.P t (List γ)) (ai:a8 c E L x (.eq (.pointer (some ⟨p,o,none⟩))))
 (a4:a8 c E L y (.eq u)) (hu:u.oneCell'=true) (aq:L[i]? =some ⟨some p,.bZ b os⟩) (a6:o=l.off) (hb:l.set b []=b') (kE:tw os o u=os')
 (k:ah c ops Q rest E (L.set i ⟨some p,.bZ b' os'⟩)):ah c ops Q (⟨none,.store t x y,ty,pos,af,none⟩ :: rest) E L:=fun a W s=>by
 subst a6
 subst hb
 subst kE
 obtain⟨j0,eD,cs,T,rfl,fL⟩:=s.own _ (List.mem_of_getElem? aq)
 have J:cs.toList.length=ae.size β:=fL.len
 have dQ:l.off + 1≤ae.size β:=l.fZ
 have O2:a.eval y=u:=a4 a W s
 have a3:(I.of (⟨u⟩:fJ)).holds (aK L ++ c.bL) W (a.eval y):=NO.2 ⟨O2,hu⟩
 have aa:=yZ (A:=aK L ++ c.bL) ep.ex eD (off:=l.off) (show l.off + 1≤cs.size by simp at J; omega) a3
 have aO:a.eval x=_:=ai a W s
 have mg:(a.eval y).cells.toList= [u]:=by rw [O2,oe hu]
 rw [mg] at aa
 refine hO rfl (R:=fun v W'=>W'=W.setRow p (fR cs.toList l.off [u]).toArray) (.xr ?_ rfl) fun v W' hw=> ?_
 ·simp [execOp,Instr.storeAt,Instr.sureAddr,aO,aa]
 ·subst hw
  exact k _ _ (s.store aq eD ⟨_,T,rfl,by rw [List.toList_toArray]; exact K8 l fL hu⟩)
theorem QW {P:Program} {W:World} {b off:Nat} {cur:Array Value} {T t:TypeId} {α:Type} [ae α] {v:Value} (ty:bs P t α)
 (hb:W.heap[b]? =some (.cells cur T (0,0))) (hs:off + ae.size α≤cur.size) (an:v.cells.toList.length=ae.size α) (J:∀ u∈v.cells.toList,u.oneCell'=true):
 (storeVar t ⟨b,off,none⟩ v).run P W= .ok () (W.setRow b (fR cur.toList off v.cells.toList).toArray):=by
 have aa:=run_storeCells_at P b off T v.cells.toList 0 cur W hb (by rw [an]; omega) J
 have eB:v.cells.size=ae.size α:=by simpa using an
 simp only [Nat.add_zero] at aa
 simp only [storeVar,Sem.run_bind,ty.sizeOf,Result.andThen_ok,eB]
 simp only [ne_eq,not_true_eq_false,↓reduceIte,Sem.run_pure,Sem.run_bind,Result.andThen_ok]
 simpa [fR] using aa
theorem ah.rS {t:TypeId} {rest:List Oper} {i p:Nat} {β:Type} [ae β] {b b':β} {os os':List (Nat × Value)} (ep:bs c.P t β) (ai:a8 c E L x (.eq (.pointer (some ⟨p,0,none⟩))))
 (a4:a8 c E L y (.Ew b' os')) (aq:L[i]? =some ⟨some p,.bZ b os⟩)
 (k:ah c ops Q rest E (L.set i ⟨some p,.bZ b' os'⟩)):ah c ops Q (⟨none,.store t x y,ty,pos,af,none⟩ :: rest) E L:=fun a W s=>by
 obtain⟨j0,eD,cs,T,rfl,fL⟩:=s.own _ (List.mem_of_getElem? aq)
 have J:cs.toList.length=ae.size β:=fL.len
 obtain⟨ax,a5⟩:=a4 a W s
 have an:=a5.len
 have aa:=QW ep eD (off:=0) (by simp at J; omega) an a5.one
 have aO:a.eval x=_:=ai a W s
 have e:fR cs.toList 0 (a.eval y).cells.toList=(a.eval y).cells.toList:=by
  unfold fR
  rw [List.take_zero,List.nil_append,Nat.zero_add,an,← J,List.drop_length,List.append_nil]
 rw [e] at aa
 refine hO rfl (R:=fun v W'=>W'=W.setRow p (a.eval y).cells.toList.toArray) (.xr ?_ rfl) fun v W' hw=> ?_
 ·simp [execOp,Instr.storeAt,Instr.sureAddr,aO,aa]
 ·subst hw
  exact k _ _ (s.store aq eD ⟨_,T,rfl,by rw [List.toList_toArray]; exact a5⟩)
theorem dv {p:Addr} (ai:a8 c E L x (.eq (.pointer (some p)))):bO c E L ⟨d,.nilCheck x,ty,pos,af,g⟩ (.eq (.pointer (some p))):= .pure fun a W s=>by
 have aO:a.eval x=_:=ai a W s
 exact⟨_,by simp [execOp,aO],rfl⟩
theorem GU {γ:Type} [ae γ] {r:γ} (ai:a8 c E L x (.ptr r)):bO c E L ⟨d,.nilCheck x,ty,pos,af,g⟩ (.ptr r):= .pure fun a W s=>by
 have hp:=ai a W s
 obtain⟨b,off,cur,T,gQ,aO,aS⟩:=hp
 exact⟨_,by simp [execOp,aO],b,off,cur,T,gQ,rfl,aS⟩
theorem bC.l6 {a:Act} {W:World} (s:bC c E L a W) {i j p cap T:Nat} {key:Option Nat} {β γ:Type} [ae β] [ae γ] {b b':β} {xs:List γ} {os os':List (Nat × Value)} (l:aP β (List γ)) (fo:i≠j) (aq:L[i]? =some ⟨some p,.bZ b os⟩) (k2:L[j]? =some ⟨key,.row T xs cap⟩)
 (q:Nat) (hq:os[q]? =some (l.off,bf key xs.length cap)) (hb:l.set b xs=b') (kE:nK os l.off=os'):bC c E ((L.set j ⟨none,.dead⟩).set i ⟨some p,.bZ b' os'⟩) a W:=by
 subst hb
 subst kE
 have ar:=s.kill j
 have ao:(L.set j ⟨none,.dead⟩)[i]? =some ⟨some p,.bZ b os⟩:=by rw [List.getElem?_set_ne (fun e=>fo e.symm)]; exact aq
 have kR:=xg (L:=L) (i:=j) (cp:= .dead)
 have me:n6 (aK (L.set j ⟨none,.dead⟩) ++ c.bL) W (bf key xs.length cap) xs:=by
  have a6:=s.own _ (List.mem_of_getElem? k2)
  cases key with
  | none=>exact .inl ⟨rfl,a6.1⟩
  | some p=>
    obtain⟨o,eD,cs,rfl,eB,aF,wc,aD⟩:=a6
    obtain⟨av,aO⟩:=FE eB aF aD
    refine .inr ⟨p,0,cap,cs,T,(0,0),rfl,s.zq k2,eD,aF,by omega,av,?_⟩
    exact aO.mono (.drop fun k hm=>by
     rcases List.mem_append.1 hm with hm | hm
     ·exact List.mem_append.2 (.inl (kR.subset hm))
     ·exact List.mem_append.2 (.inr hm))
 exact ar.vk ao (fun o ⟨cs,T,J,aa⟩=>⟨cs,T,J,K9 l aa (List.mem_of_getElem? hq) me⟩) id
theorem ah.l6 {uw:List Oper} {p cap T:Nat} {key:Option Nat} {β γ:Type} [ae β] [ae γ] {b b':β} {xs:List γ} {os os':List (Nat × Value)} (l:aP β (List γ)) (i j q:Nat) (fo:Nat.beq i j=false) (aq:L[i]? =some ⟨some p,.bZ b os⟩) (k2:L[j]? =some ⟨key,.row T xs cap⟩)
 (hq:os[q]? =some (l.off,bf key xs.length cap)) (hb:l.set b xs=b') (kE:nK os l.off=os') (k:ah c ops Q uw E ((L.set j ⟨none,.dead⟩).set i ⟨some p,.bZ b' os'⟩)):ah c ops Q uw E L:=
 fun a W s=>k a W (s.l6 l (fun e=>by rw [e,Nat.beq_refl] at fo; cases fo) aq k2 q hq hb kE)
theorem aj.l6 {z:Exit} {p cap T:Nat} {key:Option Nat} {β γ:Type} [ae β] [ae γ] {b b':β} {xs:List γ} {os os':List (Nat × Value)} (l:aP β (List γ)) (i j q:Nat) (fo:Nat.beq i j=false) (aq:L[i]? =some ⟨some p,.bZ b os⟩) (k2:L[j]? =some ⟨key,.row T xs cap⟩)
 (hq:os[q]? =some (l.off,bf key xs.length cap)) (hb:l.set b xs=b') (kE:nK os l.off=os') (k:aj c Q z E ((L.set j ⟨none,.dead⟩).set i ⟨some p,.bZ b' os'⟩)):aj c Q z E L:=
 fun a W s=>k a W (s.l6 l (fun e=>by rw [e,Nat.beq_refl] at fo; cases fo) aq k2 q hq hb kE)
theorem ak.l6 {z:Code} {p cap T:Nat} {key:Option Nat} {β γ:Type} [ae β] [ae γ] {b b':β} {xs:List γ} {os os':List (Nat × Value)} (l:aP β (List γ)) (i j q:Nat) (fo:Nat.beq i j=false) (aq:L[i]? =some ⟨some p,.bZ b os⟩) (k2:L[j]? =some ⟨key,.row T xs cap⟩)
 (hq:os[q]? =some (l.off,bf key xs.length cap)) (hb:l.set b xs=b') (kE:nK os l.off=os') (k:ak c Q z E ((L.set j ⟨none,.dead⟩).set i ⟨some p,.bZ b' os'⟩)):ak c Q z E L:=
 fun a W s=>k a W (s.l6 l (fun e=>by rw [e,Nat.beq_refl] at fo; cases fo) aq k2 q hq hb kE)
theorem bC.tM {a:Act} {W:World} (s:bC c E L a W) {i j p cap T ff:Nat} {key:Option Nat} {β γ:Type} [ae β] [ae γ] {b b':β} {xs:List γ} {os os':List (Nat × Value)} (l:aP β (List γ)) (fo:i≠j) (aq:L[i]? =some ⟨some p,.bZ b os⟩) (k2:L[j]? =some ⟨key,.row T xs cap⟩)
 (q:Nat) (hq:os[q]? =some (l.off,bf key xs.length cap)) (hb:l.set b xs=b') (kE:nK os l.off=os') (me:look E ff=some (.eq (bf key xs.length cap))):bC c ((ff,.of xs) :: E) ((L.set j ⟨none,.dead⟩).set i ⟨some p,.bZ b' os'⟩) a W:=by
 have J:=s.freeze me k2
 subst hb
 subst kE
 have ao:(L.set j ⟨none,.dead⟩)[i]? =some ⟨some p,.bZ b os⟩:=by rw [List.getElem?_set_ne (fun e=>fo e.symm)]; exact aq
 obtain⟨v,aa,av⟩:=J.env ff (.of xs) (by simp [look,Nat.beq_refl])
 obtain⟨rh,aO,aS⟩:=s.env ff _ me
 rw [aa] at aO
 cases aO
 have aS:v=_:=aS
 subst aS
 exact J.vk ao (fun o ⟨cs,T,ax,a5⟩=>⟨cs,T,ax,K9 l a5 (List.mem_of_getElem? hq) (m9.1 av)⟩) id
theorem ah.tM {uw:List Oper} {p cap T:Nat} {key:Option Nat} {β γ:Type} [ae β] [ae γ] {b b':β} {xs:List γ} {os os':List (Nat × Value)} (l:aP β (List γ)) (i j q ff:Nat) (fo:Nat.beq i j=false) (aq:L[i]? =some ⟨some p,.bZ b os⟩) (k2:L[j]? =some ⟨key,.row T xs cap⟩)
 (hq:os[q]? =some (l.off,bf key xs.length cap)) (hb:l.set b xs=b') (kE:nK os l.off=os') (me:look E ff=some (.eq (bf key xs.length cap))) (k:ah c ops Q uw ((ff,.of xs) :: E) ((L.set j ⟨none,.dead⟩).set i ⟨some p,.bZ b' os'⟩)):ah c ops Q uw E L:=
 fun a W s=>k a W (s.tM l (fun e=>by rw [e,Nat.beq_refl] at fo; cases fo) aq k2 q hq hb kE me)
theorem ak.tM {z:Code} {p cap T:Nat} {key:Option Nat} {β γ:Type} [ae β] [ae γ] {b b':β} {xs:List γ} {os os':List (Nat × Value)} (l:aP β (List γ)) (i j q ff:Nat) (fo:Nat.beq i j=false) (aq:L[i]? =some ⟨some p,.bZ b os⟩) (k2:L[j]? =some ⟨key,.row T xs cap⟩)
 (hq:os[q]? =some (l.off,bf key xs.length cap)) (hb:l.set b xs=b') (kE:nK os l.off=os') (me:look E ff=some (.eq (bf key xs.length cap))) (k:ak c Q z ((ff,.of xs) :: E) ((L.set j ⟨none,.dead⟩).set i ⟨some p,.bZ b' os'⟩)):ak c Q z E L:=
 fun a W s=>k a W (s.tM l (fun e=>by rw [e,Nat.beq_refl] at fo; cases fo) aq k2 q hq hb kE me)
theorem aj.tM {z:Exit} {p cap T:Nat} {key:Option Nat} {β γ:Type} [ae β] [ae γ] {b b':β} {xs:List γ} {os os':List (Nat × Value)} (l:aP β (List γ)) (i j q ff:Nat) (fo:Nat.beq i j=false) (aq:L[i]? =some ⟨some p,.bZ b os⟩) (k2:L[j]? =some ⟨key,.row T xs cap⟩)
 (hq:os[q]? =some (l.off,bf key xs.length cap)) (hb:l.set b xs=b') (kE:nK os l.off=os') (me:look E ff=some (.eq (bf key xs.length cap))) (k:aj c Q z ((ff,.of xs) :: E) ((L.set j ⟨none,.dead⟩).set i ⟨some p,.bZ b' os'⟩)):aj c Q z E L:=
 fun a W s=>k a W (s.tM l (fun e=>by rw [e,Nat.beq_refl] at fo; cases fo) aq k2 q hq hb kE me)
inductive tC (c:cY) (E:List (Nat × I)) (L:List aI) (place:Nat→Option (Nat × Nat)) {β:Type} [ae β]:β→List (Nat × Value)→List (Nat × Operand)→β→List (Nat × Value)→Prop
 | nil {b os} :tC c E L place b os [] b os
 | cons {b c4 b':β} {os os':List (Nat × Value)} {γ:Type} [ae γ] {v:γ} {i:Nat} {x:Operand} {r:List (Nat × Operand)} (l:aP β γ):place i=some (l.off,ae.size γ)→a8 c E L x (.of v)→l.set b v=c4→tB os l.off (ae.size γ)=true→tC c E L place c4 os r b' os'→tC c E L place b os ((i,x) :: r) b' os'
 | hole {b c4 b':β} {os IC os':List (Nat × Value)} {γ:Type} [ae γ] {u:Value} {i:Nat} {x:Operand} {r:List (Nat × Operand)} (l:aP β (List γ)):place i=some (l.off,1)→a8 c E L x (.eq u)→u.oneCell'=true→l.set b []=c4→tw os l.off u=IC→tC c E L place c4 IC r b' os'→tC c E L place b os ((i,x) :: r) b' os'
theorem tC.run {place:Nat→Option (Nat × Nat)} {β:Type} [ae β] {b b':β} {os os':List (Nat × Value)} {bo:List (Nat × Operand)} (h:tC c E L place b os bo b' os'):∀ a W,bC c E L a W→ ∀ cs:Array Value,lg (aK L ++ c.bL) W cs.toList b os→
 ∃ dM,Instr.fill place cs (bo.map fun(i,x)=>(i,a.eval x))=some dM∧lg (aK L ++ c.bL) W dM.toList b' os':=by
 induction h with
 | nil=>intro a W s cs aD; exact⟨cs,rfl,aD⟩
 | @cons b c4 b' os os' γ _ v i x r l J aa av aO _ bD=>
   intro a W s cs aD
   subst av
   have a3:=aa a W s
   have eB:(a.eval x).cells.size=ae.size γ:=by have:=ae.len a3.2; simpa using this
   have an:cs.toList.length=ae.size β:=aD.len
   have dQ:=l.fZ
   rw [List.map_cons,CP J eB (by simp at an; omega)]
   refine bD a W s _ ?_
   have:=Lw l aD a3.2 aO
   simpa [fR,ae.len a3.2] using this
 | @hole b c4 b' os IC os' γ _ u i x r l J aa av aO aS _ bD=>
   intro a W s cs aD
   subst aO
   subst aS
   have a3:a.eval x=u:=aa a W s
   have ag:(a.eval x).cells.toList= [u]:=by rw [a3,oe av]
   have eB:(a.eval x).cells.size=1:=by have:=congrArg List.length ag; simpa using this
   have an:cs.toList.length=ae.size β:=aD.len
   have dQ:l.off + 1≤ae.size β:=l.fZ
   rw [List.map_cons,CP J eB (by simp at an; omega)]
   refine bD a W s _ ?_
   have:=K8 l aD av
   simpa [fR,ag] using this
theorem rG {β:Type} [ae β] {z b:β} {bo:List (Nat × Operand)} {pl:Array (Nat × Nat)} {os:List (Nat × Value)} (kD:List Nat) (sR:jG c.P t kD) (a9:ae.agg β=true) (BD:hB c.P t pl) (gC:cz c.P t z)
 (aV:tC c E L (pl[·]?) z (kD.map fun o=>(o,j8)) bo b os):bO c E L ⟨d,.build t bo.toArray,ty,pos,af,g⟩ (.Ew b os):= .pure fun a W s=>by
 obtain⟨fs,hu,hs,rfl⟩:=BD.at_
 obtain⟨i,dK,J,aa,av⟩:=gC.zero
 have bS:∀ o∈kD,dK.cells.toList[o]? =some j8:=fun o a6=>by
  unfold jG at sR
  rw [J] at sR
  simp only [Option.bind_some,aa,Option.any_some] at sR
  exact KM (List.all_eq_true.1 sR o a6)
 obtain⟨dM,aO,aS⟩:=aV.run a W s dK.cells ⟨by
  rw [FM fun h hm=>by obtain⟨o,a6,rfl⟩:=List.mem_map.1 hm; exact bS o a6]
  exact(av _ _).2,fun h hm=>by obtain⟨o,a6,rfl⟩:=List.mem_map.1 hm; exact⟨bS o a6,rfl⟩⟩
 refine⟨.agg dM,?_,by simp [shaped,a9],by simpa [Value.cells] using aS⟩
 have hm:(bo.toArray.map fun(x:Nat × Operand)=>(x.1,a.eval x.2)).toList=bo.map fun(i,x)=>(i,a.eval x):=by simp
 simp only [execOp,Instr.build,Sem.run_bind,zeroValue,typeInfo,run_program,Result.andThen_ok,J,aa,Sem.run_pure,run_underlying hu,Kj fs hs]
 rw [hm,aO]
 rfl
def wk {α:Type} [Inhabited α] (bytes:Nat) (n:Int):Option (List α):=if 0≤n∧n≤140737488355328∧bytes * n≤140737488355328 then some (List.replicate n.toNat default) else none
theorem SY {α:Type} [Inhabited α] {bytes:Nat} {n:Int} {r:List α} (h:wk bytes n=some r):0≤n∧n≤140737488355328∧bytes * n≤140737488355328∧List.replicate n.toNat default=r:=by
 unfold wk at h
 split at h
 ·rename_i ag; exact⟨ag.1,ag.2.1,ag.2.2,aT h⟩
 ·cases h
theorem ah.OK {α:Type} [ae α] [Inhabited α] {rest:List Oper} {a7 e bytes:Nat} {r:List α} {n:Int} (hu:c.P.underlying t=some (.slice e)) (eG:bs c.P e α) (gC:cz c.P e (default:α)) (hs:Nat.beq (ae.size α) 0=false) (hb:(c.P.info? e).map (·.bytes)=some bytes)
 (ai:a8 c E L x (.of n)) (a4:a8 c E L y (.of n)) (hm:wk bytes n=some r) (jn:Nat.blt a7 c.n=true) (k:∀ p,ah c ops Q rest ((a7,.eq (bf p r.length r.length)) :: E) (⟨p,.row e r r.length⟩ :: L)):
 ah c ops Q (⟨some a7,.makeSlice t x y,ty,pos,af,none⟩ :: rest) E L:=fun a W s=>by
 obtain⟨bA,aF,aaV,rfl⟩:=SY hm
 obtain⟨m,rfl⟩:=Int.eq_ofNat_of_zero_le bA
 obtain⟨fU,dK,ef,dc,q6⟩:=gC.zero
 have nd:fU.size=ae.size α:=by
  obtain⟨i2,J,aa⟩:=eG.info
  rw [ef] at J; cases J; exact aa
 have wy:fU.bytes=bytes:=by rw [ef] at hb; simpa using hb
 have ej:ae.size α≠0:=fun h=>by rw [h] at hs; cases hs
 have p3:=zm (q6 (aK L ++ c.bL) W) m ej
 have J:=of_int.1 (ai a W s)
 have aa:=of_int.1 (a4 a W s)
 have hw:IntKind.i64.wrap (m:Int)=m:=by have:bE (m:Int)=m:=hr (by omega) (by omega); exact this
 have hp:(2:Int) ^ 48=281474976710656:=by decide
 simp only [Int.toNat_natCast,List.length_replicate] at k
 generalize k1:(Array.range (m * ae.size α)).map (dK.cells[· % dK.cells.size]!)=D at p3
 refine hO rfl (R:=fun v W'=>v= .slice (some ⟨W.heap.size,0,none⟩) m m∧W'=W.alloc (.cells D e)) (.lx (v:= .slice (some ⟨W.heap.size,0,none⟩) m m) (W':=W.alloc (.cells D e)) ?_ ⟨rfl,rfl⟩) fun v W' ⟨av,aO⟩=> ?_
 ·have di:((decide ((m:Int) < 0) || decide ((fU.bytes:Int) * m > 2 ^ 48)) || decide ((m:Int) < 0) || decide ((m:Int) > m))=false:=by
   rw [wy,hp]; simp; omega
  have Ex:((Array.range (m * fU.size)).map fun i=>(if m * fU.size=0 then(#[]:Array Value) else dK.cells)[i % (if m * fU.size=0 then(#[]:Array Value) else dK.cells).size]!)=D:=by
   rw [← k1,nd]
   by_cases fi:m * ae.size α=0
   ·rw [fi]; simp
   ·simp only [if_neg fi]
  have a9:(asInt (.int .i64 (m:Int)):Sem Int).run c.P W= .ok (m:Int) W:=by simp [asInt,asIntOf]
  simp only [execOp,Instr.makeSlice,Sem.run_bind,run_underlying hu,Result.andThen_ok,J,aa,a9,Sem.run_pure,typeInfo,run_program,ef,hw,di,Bool.false_eq_true,if_false,run_askRoom,Go.sizeOf,Int.toNat_natCast]
  by_cases fi:m * fU.size=0
  ·simp only [fi,if_true,Sem.run_pure,Result.andThen_ok,Sem.run_bind,newRow] at Ex ⊢
   rw [Ex]
   simp
  ·simp only [fi,if_false,Sem.run_pure,Result.andThen_ok,Sem.run_bind,newRow,zeroValue,typeInfo,run_program,ef,dc] at Ex ⊢
   rw [Ex]
   simp
 ·subst av aO
  have tV:m≤maxLen:=by
   have:maxLen=9223372036854775807:=rfl
   omega
  have eB:D.size=m * ae.size α:=by have:=p3.1; simpa using this
  have bR:=s.alloc (o:= .cells D e) (cp:= .row e (List.replicate m (default:α)) m) ⟨D,rfl,eB,by simp,tV,by
   have aY:=p3.1
   rw [List.length_replicate] at aY ⊢
   rw [← aY,List.take_length]
   exact p3⟩
  exact k (some W.heap.size) _ _ (bR.put (τ:= .eq (bf (some W.heap.size) m m)) (by simpa using jn) rfl)
theorem aj.lY {fn:Func} {δ:Type} {ρ:δ→I} {Lo:δ→List aI} (a7:δ) (hs:(Lo a7).Sublist L) (aD:fn.results= #[]) (sC:ρ a7= .eA []) (hx:c.ds= []:=by rfl):aj c (bodyPost c.P fn (j6 c.X c.bL c.iL ρ Lo)) .ret E L:=fun a W s=>
 ⟨s.u5 hx,.tuple #[],by simp [uX,aD],s.ends a7 hs (by rw [sC]; exact⟨_,rfl,.nil⟩)⟩
end
abbrev Hid:=Nat→Option Nat
def ek (l:List (Option Nat)):Hid:=fun i=>(l[i]?).getD none
structure dk where
 slot:Option Nat
 up:List Nat
 rd:List Nat
 wr:List Nat
 τ:(Nat→Hid)→I
 dA:(Nat→Hid)→Nat→aI
def gl (up:List Nat) (i:Nat) (hd:Nat→Hid):Nat→Hid:=fun j=>bif Nat.beq j i || up.any (fun k=>Nat.beq k j) then hd j else fun _=>none
def iV (hd:Nat→Hid) (i:Nat) (x:Hid):Nat→Hid:=fun j=>bif Nat.beq j i then x else hd j
theorem La {up:List Nat} {i:Nat} {hd hd':Nat→Hid} (h:hd i=hd' i) (cS:∀ k∈up,hd k=hd' k):gl up i hd=gl up i hd':=by
 funext j
 unfold gl
 cases J:Nat.beq j i
 ·cases aa:up.any (fun k=>Nat.beq k j)
  ·rfl
  ·obtain⟨k,ar,he⟩:=List.any_eq_true.1 aa
   have:=ec.1 he
   subst this
   simp only [Bool.false_or,cond_true]
   exact cS k ar
 ·have:=ec.1 J
  subst this
  simp only [Bool.true_or,cond_true]
  exact h
def l8:List aI→ (Nat→aI)→List Nat→List aI
 | L,_,[]=>L
 | L,f,j :: r=>l8 (L.set j (f j)) f r
theorem Kz:∀ {L:List aI} {f:Nat→aI} {eV:List Nat},(l8 L f eV).length=L.length
 | _,_,[]=>rfl
 | L,f,j :: r=>by rw [l8,Kz,List.length_set]
theorem CQ:∀ {L:List aI} {f:Nat→aI} {eV:List Nat} (i:Nat),(l8 L f eV)[i]? =if eV.contains i=true then L[i]?.map (fun _=>f i) else L[i]?
 | _,_,[],i=>by simp [l8]
 | L,f,j :: r,i=>by
   rw [l8,CQ i]
   by_cases h:j=i
   ·subst h
    simp only [List.contains_cons,BEq.rfl,Bool.true_or,if_true,List.getElem?_set]
    by_cases an:j < L.length
    ·simp [an]
    ·simp [an]
   ·have hb:(i ==j)=false:=by simp; exact fun e=>h e.symm
    rw [List.contains_cons,hb,Bool.false_or,List.getElem?_set_ne h]
def gR (ls:Nat→Bool) (hd:Nat→Hid):Nat→List dk→List aI→List aI
 | _,[],L=>L
 | k,h :: r,L=>gR ls hd (k + 1) r (bif ls k then l8 L (h.dA (gl h.up k hd)) h.wr else L)
def hG (ls:Nat→Bool) (hd:Nat→Hid) (E:List (Nat × I)):Nat→List dk→List (Nat × I)
 | _,[]=>E
 | k,h :: r=>match ls k,h.slot with
   | true,some s=>(s,h.τ (gl h.up k hd)) :: hG ls hd E (k + 1) r
   | _,_=>hG ls hd E (k + 1) r
def j9 (ls:Nat→Bool) (hd:Nat→Hid) (j:Nat):Nat→List dk→Option aI→Option aI
 | _,[],v=>v
 | k,h :: r,v=>j9 ls hd j (k + 1) r (bif ls k && h.wr.contains j then v.map (fun _=>h.dA (gl h.up k hd) j) else v)
theorem vl {ls:Nat→Bool} {hd:Nat→Hid} (j:Nat):∀ {k:Nat} {hs:List dk} {L:List aI},(gR ls hd k hs L)[j]? =j9 ls hd j k hs L[j]?
 | _,[],_=>rfl
 | k,h :: r,L=>by
   rw [gR,j9,vl j]
   congr 1
   cases ls k
   ·rfl
   ·simp only [cond_true,Bool.true_and]
    rw [CQ]
    cases h.wr.contains j <;> rfl
theorem zn {ls:Nat→Bool} {hd:Nat→Hid} {j:Nat} :∀ {k:Nat} {hs:List dk} {v:Option aI},(∀ m h,hs[m]? =some h→h.wr.contains j=true→ls (k + m)=false)→j9 ls hd j k hs v=v
 | _,[],_,_=>rfl
 | k,h :: r,v,aF=>by
   rw [j9,zn fun m x hm ai=>by have:=aF (m + 1) x (by simpa using hm) ai; rw [← this]; congr 1; omega]
   cases hw:h.wr.contains j
   ·simp
   ·have:=aF 0 h rfl hw
    simp only [Nat.add_zero] at this
    rw [this]; rfl
theorem za {ls:Nat→Bool} {hd:Nat→Hid} {j:Nat} :∀ {k:Nat} {hs rs:List dk} {v:Option aI},j9 ls hd j k (hs ++ rs) v=j9 ls hd j (k + hs.length) rs (j9 ls hd j k hs v)
 | _,[],_,_=>rfl
 | k,h :: r,rs,v=>by
   rw [List.cons_append,j9,za,j9,List.length_cons]
   congr 1; omega
theorem uZ {ls ls':Nat→Bool} {hd hd':Nat→Hid} {j:Nat} :∀ {k:Nat} {hs:List dk} {v:Option aI},(∀ m h,hs[m]? =some h→h.wr.contains j=true→ls (k + m)=ls' (k + m)∧ (ls (k + m)=true→gl h.up (k + m) hd=gl h.up (k + m) hd'))→j9 ls hd j k hs v=j9 ls' hd' j k hs v
 | _,[],_,_=>rfl
 | k,h :: r,v,aF=>by
   have bD:=uZ (ls:=ls) (ls':=ls') (hd:=hd) (hd':=hd') (j:=j) (k:=k + 1) (hs:=r) (v:=bif ls k && h.wr.contains j then v.map (fun _=>h.dA (gl h.up k hd) j) else v) fun m x hm ai=>by
    have:=aF (m + 1) x (by simpa using hm) ai
    rw [show k + 1 + m=k + (m + 1) by omega]; exact this
   rw [j9,j9,bD]
   congr 1
   cases hw:h.wr.contains j
   ·simp
   ·have:=aF 0 h rfl hw
    simp only [Nat.add_zero] at this
    rw [← this.1]
    cases an:ls k
    ·rfl
    ·rw [this.2 an]
theorem zo {ls:Nat→Bool} {hd:Nat→Hid} {E:List (Nat × I)} {t:Nat} :∀ {k:Nat} {hs:List dk},(∀ (m:Nat) (h:dk),hs[m]? =some h→ls (k + m)=true→h.slot≠some t)→look (hG ls hd E k hs) t=look E t
 | _,[],_=>rfl
 | k,h :: r,aF=>by
   have bD:=zo (ls:=ls) (hd:=hd) (E:=E) (t:=t) (k:=k + 1) (hs:=r) fun m x hm an=>aF (m + 1) x (by simpa using hm) (by rw [← an]; congr 1; omega)
   unfold hG
   split
   ·rename_i s J aa
    have cN:Nat.beq s t=false:=by
     cases hb:Nat.beq s t
     ·rfl
     ·have:=ec.1 hb; subst this; exact absurd aa (aF 0 h rfl J)
    simp only [look,cN,cond_false]
    exact bD
   ·exact bD
theorem zt {ls:Nat→Bool} {hd:Nat→Hid} {E:List (Nat × I)} {s:Nat} :∀ {k:Nat} {hs:List dk} {j:Nat} {h:dk},hs[j]? =some h→ls (k + j)=true→h.slot=some s→ (∀ m x,hs[m]? =some x→x.slot=some s→m=j)→look (hG ls hd E k hs) s=some (h.τ (gl h.up (k + j) hd))
 | _,[],_,_,h,_,_,_=>by simp at h
 | k,x :: r,0,h,aB,an,hs,_=>by
   simp only [List.getElem?_cons_zero,Option.some.injEq] at aB
   subst aB
   simp only [Nat.add_zero] at an
   unfold hG
   rw [an,hs]
   simp [look,Nat.beq_refl]
 | k,x :: r,j + 1,h,aB,an,hs,hu=>by
   have bD:=zt (ls:=ls) (hd:=hd) (E:=E) (s:=s) (k:=k + 1) (hs:=r) (j:=j) (h:=h) (by simpa using aB) (by rw [← an]; congr 1; omega) hs fun m y hm a4=>by
    have:=hu (m + 1) y (by simpa using hm) a4; omega
   rw [show k + 1 + j=k + (j + 1) by omega] at bD
   unfold hG
   split
   ·rename_i bR J aa
    have cN:Nat.beq bR s=false:=by
     cases hb:Nat.beq bR s
     ·rfl
     ·have:=ec.1 hb; subst this
      have:=hu 0 x rfl aa; omega
    simp only [look,cN,cond_false]
    exact bD
   ·exact bD
theorem F7 {ls:Nat→Bool} {hd:Nat→Hid} {E:List (Nat × I)} {t:Nat} {τ:I} :∀ {k:Nat} {hs:List dk},look (hG ls hd E k hs) t=some τ→ (∃ (j:Nat) (h:dk),hs[j]? =some h∧ls (k + j)=true∧h.slot=some t∧τ=h.τ (gl h.up (k + j) hd))∨ (look E t=some τ∧ ∀ (m:Nat) (h:dk),hs[m]? =some h→ls (k + m)=true→h.slot≠some t)
 | _,[],h=> .inr ⟨h,fun m h hm=>by simp at hm⟩
 | k,x :: r,h=>by
   unfold hG at h
   have go:(ls k=true→x.slot≠some t)→look (hG ls hd E (k + 1) r) t=some τ→ (∃ (j:Nat) (h:dk),(x :: r)[j]? =some h∧ls (k + j)=true∧h.slot=some t∧τ=h.τ (gl h.up (k + j) hd))∨ (look E t=some τ∧ ∀ (m:Nat) (h:dk),(x :: r)[m]? =some h→ls (k + m)=true→h.slot≠some t):=fun ai h=>by
    rcases F7 h with⟨j,y,J,aa,av,aO⟩ | ⟨J,aa⟩
    ·exact .inl ⟨j + 1,y,by simpa using J,by rw [← aa]; congr 1; omega,av,by rw [aO]; congr 2; omega⟩
    ·refine .inr ⟨J,fun m y hm an=> ?_⟩
     cases m with
     | zero=>simp only [List.getElem?_cons_zero,Option.some.injEq] at hm; subst hm; exact ai an
     | succ m=>exact aa m y (by simpa using hm) (by rw [← an]; congr 1; omega)
   split at h
   ·rename_i s J aa
    simp only [look] at h
    by_cases e:Nat.beq s t=true
    ·rw [e] at h
     simp only [cond_true,Option.some.injEq] at h
     have:=ec.1 e
     subst this
     exact .inl ⟨0,x,rfl,J,aa,h.symm⟩
    ·rw [Bool.not_eq_true] at e
     rw [e] at h
     exact go (fun _ ej=>by rw [aa] at ej; cases ej; rw [Nat.beq_refl] at e; cases e) h
   ·rename_i dN
    exact go (fun an ej=>dN t an ej) h
def mU (hd:Nat→Hid) (hs:List dk) (E:List (Nat × I)):List Nat→List (Nat × I)
 | []=>E
 | j :: r=>match hs[j]? with
   | some h=>match h.slot with
     | some s=>(s,h.τ (gl h.up j hd)) :: mU hd hs E r
     | none=>mU hd hs E r
   | none=>mU hd hs E r
theorem GA {hd:Nat→Hid} {hs:List dk} {E:List (Nat × I)} {t:Nat} {τ:I} :∀ {ds:List Nat},look (mU hd hs E ds) t=some τ→ (∃ j∈ds,∃ h:dk,hs[j]? =some h∧h.slot=some t∧τ=h.τ (gl h.up j hd))∨look E t=some τ
 | [],h=> .inr h
 | j :: r,h=>by
   have go:look (mU hd hs E r) t=some τ→ (∃ i∈j :: r,∃ h:dk,hs[i]? =some h∧h.slot=some t∧τ=h.τ (gl h.up i hd))∨look E t=some τ:=fun h=>by
    rcases GA h with⟨i,J,aa⟩ | J
    ·exact .inl ⟨i,by simp [J],aa⟩
    ·exact .inr J
   unfold mU at h
   split at h
   ·rename_i x ai
    split at h
    ·rename_i s me
     simp only [look] at h
     by_cases e:Nat.beq s t=true
     ·rw [e] at h
      simp only [cond_true,Option.some.injEq] at h
      have:=ec.1 e
      subst this
      exact .inl ⟨j,by simp,x,ai,me,h.symm⟩
     ·simp only [Bool.not_eq_true] at e
      rw [e] at h
      exact go h
    ·exact go h
   ·exact go h
def tP (E:List (Nat × I)) (v:Value):List Nat→Prop
 | []=>True
 | s :: r=>look E s=some (.eq v)∧tP E v r
theorem tP.get {E:List (Nat × I)} {v:Value} :∀ {gB:List Nat},tP E v gB→ ∀ s∈gB,look E s=some (.eq v)
 | _ :: _,h,s,hs=>by
   rcases List.mem_cons.1 hs with rfl | hs
   ·exact h.1
   ·exact tP.get h.2 s hs
def wB (τ:I) (E:List (Nat × I)):List Nat→List (Nat × I)
 | []=>E
 | s :: r=>(s,τ) :: wB τ E r
theorem Ly {τ:I} {E:List (Nat × I)} {t:Nat} {σ:I} :∀ {gB:List Nat},look (wB τ E gB) t=some σ→ (t∈gB∧σ=τ)∨look E t=some σ
 | [],h=> .inr h
 | s :: r,h=>by
   simp only [wB,look] at h
   by_cases e:Nat.beq s t=true
   ·rw [e] at h
    simp only [cond_true,Option.some.injEq] at h
    have:=ec.1 e
    subst this
    exact .inl ⟨by simp,h.symm⟩
   ·simp only [Bool.not_eq_true] at e
    rw [e] at h
    rcases Ly h with⟨J,aa⟩ | J
    ·exact .inl ⟨by simp [J],aa⟩
    ·exact .inr J
def nX:Option Nat→I→List (Nat × I)→List (Nat × I)
 | some s,τ,E=>(s,τ) :: E
 | none,_,E=>E
section
variable {c:cY} {E:List (Nat × I)} {L:List aI} {ops:Array Oper} {Q:Exit→Act→World→Prop}
theorem bC.oh {a:Act} {W:World} {α:Type} [ae α] {i cap T:Nat} {gB:List Nat} {key:Option Nat} {xs:List α} (h:bC c E L a W) (an:tP E (bf key xs.length cap) gB) (aq:L[i]? =some ⟨key,.row T xs cap⟩):
 bC c (wB (.of xs) E gB) (L.set i ⟨none,.dead⟩) a W:=by
 have ar:=h.kill i
 refine { ar with env:=fun t τ eT=> ?_ }
 rcases Ly eT with⟨hm,rfl⟩ | J
 ·obtain⟨v,J,aa⟩:=h.env t _ (an.get t hm)
  refine⟨v,J,m9.2 ?_⟩
  have ji:v=bf key xs.length cap:=aa
  subst ji
  have a6:=h.own _ (List.mem_of_getElem? aq)
  cases key with
  | none=>exact .inl ⟨rfl,a6.1⟩
  | some p=>
    obtain⟨o,eD,cs,rfl,eB,aF,wc,aD⟩:=a6
    obtain⟨av,aO⟩:=FE eB aF aD
    refine .inr ⟨p,0,cap,cs,T,(0,0),rfl,h.zq aq,eD,aF,by omega,av,?_⟩
    have kR:=xg (L:=L) (i:=i) (cp:= .dead)
    exact aO.mono (.drop fun k hm=>by
     rcases List.mem_append.1 hm with hm | hm
     ·exact List.mem_append.2 (.inl (kR.subset hm))
     ·exact List.mem_append.2 (.inr hm))
 ·exact ar.env t τ J
theorem ah.oh {l:List Oper} {α:Type} [ae α] {key:Option Nat} {xs:List α} {cap T:Nat} (i:Nat) (gB:List Nat) (an:tP E (bf key xs.length cap) gB) (aq:L[i]? =some ⟨key,.row T xs cap⟩)
 (k:ah c ops Q l (wB (.of xs) E gB) (L.set i ⟨none,.dead⟩)):ah c ops Q l E L:=fun a W st=>k a W (st.oh an aq)
theorem aj.oh {x:Exit} {α:Type} [ae α] {key:Option Nat} {xs:List α} {cap T:Nat} (i:Nat) (gB:List Nat) (an:tP E (bf key xs.length cap) gB) (aq:L[i]? =some ⟨key,.row T xs cap⟩)
 (k:aj c Q x (wB (.of xs) E gB) (L.set i ⟨none,.dead⟩)):aj c Q x E L:=fun a W st=>k a W (st.oh an aq)
theorem ak.oh {code:Code} {α:Type} [ae α] {key:Option Nat} {xs:List α} {cap T:Nat} (i:Nat) (gB:List Nat) (an:tP E (bf key xs.length cap) gB) (aq:L[i]? =some ⟨key,.row T xs cap⟩)
 (k:ak c Q code (wB (.of xs) E gB) (L.set i ⟨none,.dead⟩)):ak c Q code E L:=fun a W st=>k a W (st.oh an aq)
def b8 (c:cY) (ops:Array Oper) (Q:Exit→Act→World→Prop) (hs:List dk) (E:List (Nat × I)) (L:List aI) (i:Nat) (o:Oper) (h:dk):Prop:=
 ∀ (hd:Nat→Hid) (E':List (Nat × I)) (L':List aI),(∀ t τ,look (mU hd hs E h.up) t=some τ→look E' t=some τ)→
   (∀ j e,(gR (fun _=>true) hd 0 (hs.take i) L)[j]? =some e→h.rd.contains j=true→L'[j]? =some e)→
   ah c ops (sQ (fun a W=> ∃ x,bC c (nX h.slot (h.τ (gl h.up i (iV hd i x))) E') (l8 L' (h.dA (gl h.up i (iV hd i x))) h.wr) a W) Q) [o] E' L'
def tD (c:cY) (ops:Array Oper) (Q:Exit→Act→World→Prop) (hs:List dk) (E:List (Nat × I)) (L:List aI):Nat→List Oper→List dk→Prop
 | _,[],[]=>True
 | i,o :: os,h :: r=>b8 c ops Q hs E L i o h∧tD c ops Q hs E L (i + 1) os r
 | _,_,_=>False
theorem tD.get {hs:List dk} :∀ {k:Nat} {os:List Oper} {rs:List dk},tD c ops Q hs E L k os rs→ ∀ i h o,rs[i]? =some h→os[i]? =some o→b8 c ops Q hs E L (k + i) o h
 | k,[],[],_,i,h,o,ao,_=>by simp at ao
 | k,aag :: os,bA :: r,bS,i,h,o,ao,a6=>by
   cases i with
   | zero=>
     simp only [List.getElem?_cons_zero,Option.some.injEq] at ao a6
     subst ao; subst a6; exact bS.1
   | succ i=>
     have:=tD.get bS.2 i h o (by simpa using ao) (by simpa using a6)
     rw [show k + 1 + i=k + (i + 1) by omega] at this
     exact this
 | k,[],_ :: _,bS,_,_,_,_,_=>bS.elim
 | k,_ :: _,[],bS,_,_,_,_,_=>bS.elim
def mE (ops:Array Oper) (hs:List (Option Nat × List Nat × List Nat × List Nat)) (E:List Nat):Bool:=
 decide (hs.length=ops.size) && decide (hs.filterMap (·.1)).Nodup && ((List.range ops.size).all fun m=>match hs[m]? with | some (some s,up,_)=> !E.contains s || (List.range ops.size).all fun k=>decide (k=m) || up.contains k | _=>true) &&
 ((List.range ops.size).all fun i=>match hs[i]? with
   | none=>false
   | some (_,up,rd,wr)=>
     (((ops[i]?).map fun o=>(o.dst ==(hs[i]?).bind (·.1)) && o.after.all fun e=> !Region.binds .any e || decide (e.on < i)).getD false) &&
     (up.all fun k=>Region.waitsFor .any ops i k || (List.range i).any fun m=>Region.waitsFor .any ops i m && ((hs[m]?).map fun h=>h.2.1.contains k).getD false) &&
     ((List.range ops.size).all fun k=>match hs[k]? with
       | none=>true
       | some (_,ID,_,A7)=>
         (!(decide (k < i) && A7.any rd.contains) || up.contains k) && (!(decide (i < k) && A7.any fun j=>rd.contains j || wr.contains j) || ID.contains i)))
theorem FN {ls ls':Nat→Bool} {hd:Nat→Hid} :∀ {k:Nat} {hs:List dk},(∀ m,m < hs.length→ls (k + m)=ls' (k + m))→hG ls hd E k hs=hG ls' hd E k hs
 | _,[],_=>rfl
 | k,h :: r,aF=>by
   have bD:=FN (ls:=ls) (ls':=ls') (hd:=hd) (k:=k + 1) (hs:=r) fun m hm=>by
    have:=aF (m + 1) (by simp; omega)
    rw [show k + 1 + m=k + (m + 1) by omega]; exact this
   have bA:=aF 0 (by simp)
   simp only [Nat.add_zero] at bA
   unfold hG
   rw [bA,bD]
theorem F8 {ls ls':Nat→Bool} {hd:Nat→Hid} :∀ {k:Nat} {hs:List dk} {L:List aI},(∀ m,m < hs.length→ls (k + m)=ls' (k + m))→gR ls hd k hs L=gR ls' hd k hs L
 | _,[],_,_=>rfl
 | k,h :: r,L,aF=>by
   have bA:=aF 0 (by simp)
   simp only [Nat.add_zero] at bA
   rw [gR,gR,bA]
   exact F8 fun m hm=>by
    have:=aF (m + 1) (by simp; omega)
    rw [show k + 1 + m=k + (m + 1) by omega]; exact this
def jj (hs:List dk):List (Option Nat × List Nat × List Nat × List Nat):=hs.map fun h=>(h.slot,h.up,h.rd,h.wr)
theorem xt {hs:List dk} {i:Nat} {h:dk} (ao:hs[i]? =some h):(jj hs)[i]? =some (h.slot,h.up,h.rd,h.wr):=by simp [jj,ao]
def G5 (c:cY) (ops:Array Oper) (Q:Exit→Act→World→Prop) (hs:List dk) (E:List (Nat × I)) (L:List aI) (np:Nat) (i:Nat) (o:Oper) (h:dk):Prop:=
 ∀ (hd:Nat→Hid) (E':List (Nat × I)) (L':List aI),(∀ t τ,look (mU hd hs E h.up) t=some τ→look E' t=some τ)→
   (∀ j e,(gR (fun _=>true) hd 0 (hs.take i) L)[j]? =some e→h.rd.contains j=true→L'[j]? =some e)→L'.drop np=L.drop np→
   ah c ops (sQ (fun a W=> ∃ x,bC c (nX h.slot (h.τ (gl h.up i (iV hd i x))) E') (l8 L' (h.dA (gl h.up i (iV hd i x))) h.wr) a W) Q) [o] E' L'
def o4 (c:cY) (ops:Array Oper) (Q:Exit→Act→World→Prop) (hs:List dk) (E:List (Nat × I)) (L:List aI) (np:Nat):Nat→List Oper→List dk→Prop
 | _,[],[]=>True
 | i,o :: os,h :: r=>G5 c ops Q hs E L np i o h∧o4 c ops Q hs E L np (i + 1) os r
 | _,_,_=>False
theorem o4.get {hs:List dk} {np:Nat} :∀ {k:Nat} {os:List Oper} {rs:List dk},o4 c ops Q hs E L np k os rs→ ∀ i h o,rs[i]? =some h→os[i]? =some o→G5 c ops Q hs E L np (k + i) o h
 | k,[],[],_,i,h,o,ao,_=>by simp at ao
 | k,aag :: os,bA :: r,bS,i,h,o,ao,a6=>by
   cases i with
   | zero=>
     simp only [List.getElem?_cons_zero,Option.some.injEq] at ao a6
     subst ao; subst a6; exact bS.1
   | succ i=>
     have:=o4.get bS.2 i h o (by simpa using ao) (by simpa using a6)
     rw [show k + 1 + i=k + (i + 1) by omega] at this
     exact this
 | k,[],_ :: _,bS,_,_,_,_,_=>bS.elim
 | k,_ :: _,[],bS,_,_,_,_,_=>bS.elim
theorem tD.O3 {hs:List dk} {np:Nat} :∀ {k:Nat} {os:List Oper} {rs:List dk},tD c ops Q hs E L k os rs→o4 c ops Q hs E L np k os rs
 | _,[],[],_=>trivial
 | _,_ :: _,_ :: _,h=>⟨fun hd E' L' J aa _=>h.1 hd E' L' J aa,tD.O3 h.2⟩
 | _,[],_ :: _,h=>h.elim
 | _,_ :: _,[],h=>h.elim
theorem Lb {n:Nat} :∀ {L:List aI} {f:Nat→aI} {eV:List Nat},(∀ j∈eV,j < n∨L.length≤j)→ (l8 L f eV).drop n=L.drop n
 | _,_,[],_=>rfl
 | L,f,j :: r,h=>by
   rw [l8,Lb (fun k ar=>by rw [List.length_set]; exact h k (by simp [ar]))]
   rcases h j (by simp) with J | J
   ·rw [List.drop_set_of_lt J]
   ·rw [List.set_eq_of_length_le J]
theorem Da {ls:Nat→Bool} {hd:Nat→Hid} {n:Nat} :∀ {k:Nat} {hs:List dk} {L:List aI},(∀ h∈hs,∀ j∈h.wr,j < n∨L.length≤j)→ (gR ls hd k hs L).drop n=L.drop n
 | _,[],_,_=>rfl
 | k,h :: r,L,hw=>by
   rw [gR]
   cases an:ls k
   ·exact Da fun x ai=>hw x (by simp [ai])
   ·simp only [cond_true]
    rw [Da (fun x ai j aB=>by rw [Kz]; exact hw x (by simp [ai]) j aB),Lb (hw h (by simp))]
theorem RM {hs:List dk} {np:Nat} (hw:∀ h∈hs,∀ j∈h.wr,j < np∨L.length≤j) (hA:mE ops (jj hs) (E.map (·.1))=true) (bS:o4 c ops Q hs E L np 0 ops.toList hs)
 (bl:∀ hd,aj c Q .normal (hG (fun _=>true) hd E 0 hs) (gR (fun _=>true) hd 0 hs L)):
 ∀ m (a1:Array Bool) (hd:Nat→Hid) (a:Act) (W:World),((List.range ops.size).filter fun i=> !a1.getD i true).length≤m→HeadInv .any ops ops.size a1→
   bC c (hG (fun i=>a1.getD i false) hd E 0 hs) (gR (fun i=>a1.getD i false) hd 0 hs L) a W→wpAnyIn c.F 9 c.P .any ops Q m a1 a W:=by
 simp only [mE,Bool.and_eq_true,decide_eq_true_eq] at hA
 obtain⟨⟨⟨HA,gk⟩,AE⟩,kx⟩:=hA
 have hlen:hs.length=ops.size:=by simpa [jj] using HA
 have lB:∀ i,i < ops.size→ ∃ h o,hs[i]? =some h∧ops[i]? =some o:=fun i ao=>⟨hs[i]'(by omega),ops[i],by simp,by simp⟩
 have pJ:∀ (i:Nat) (h:dk) (o:Oper),hs[i]? =some h→ops[i]? =some o→
  o.dst=h.slot∧ (∀ e∈o.after,Region.binds .any e=true→e.on < i)∧
  (∀ k∈h.up,Region.waitsFor .any ops i k=true∨ ∃ m,m < i∧Region.waitsFor .any ops i m=true∧ ∃ x,hs[m]? =some x∧k∈x.up)∧
  (∀ (k:Nat) (x:dk),hs[k]? =some x→ (k < i→ (∃ j∈x.wr,h.rd.contains j=true)→k∈h.up)∧ (i < k→ (∃ j∈x.wr,h.rd.contains j=true∨h.wr.contains j=true)→i∈x.up)):=by
  intro i h o ao a6
  have bY:i < ops.size:=(Array.getElem?_eq_some_iff.1 a6).1
  have J:=List.all_eq_true.1 kx i (List.mem_range.2 bY)
  rw [xt ao] at J
  simp only [Bool.and_eq_true] at J
  obtain⟨⟨aa,av⟩,aO⟩:=J
  simp only [a6,Option.map_some,Option.getD_some,Bool.and_eq_true,Option.bind_some,beq_iff_eq] at aa
  refine⟨aa.1,fun e he hb=> ?_,fun k ar=> ?_,fun k x ai=> ?_⟩
  ·have:=Array.all_eq_true_iff_forall_mem.1 aa.2 e he
   simp [hb] at this
   exact this
  ·have:=List.all_eq_true.1 av k ar
   simp only [Bool.or_eq_true,List.any_eq_true,Bool.and_eq_true,List.mem_range] at this
   rcases this with aS | ⟨m,aS,aY,b7⟩
   ·exact .inl aS
   ·have hm:m < hs.length:=by omega
    rw [xt (List.getElem?_eq_getElem hm)] at b7
    exact .inr ⟨m,aS,aY,hs[m],List.getElem?_eq_getElem hm,by simpa using b7⟩
  ·have sw:k < ops.size:=by have:=(List.getElem?_eq_some_iff.1 ai).1; omega
   have:=List.all_eq_true.1 aO k (List.mem_range.2 sw)
   rw [xt ai] at this
   simp only [Bool.and_eq_true,Bool.or_eq_true,Bool.not_eq_true',Bool.and_eq_false_iff,decide_eq_false_iff_not,List.contains_iff_mem] at this
   refine⟨fun jC ⟨j,aB,aD⟩=> ?_,fun ln ⟨j,aB,aD⟩=> ?_⟩
   ·rcases this.1 with(aS | aS) | aS
    ·exact absurd jC aS
    ·have:=List.any_eq_false.1 aS j aB
     exact absurd aD this
    ·exact aS
   ·rcases this.2 with(aS | aS) | aS
    ·exact absurd ln aS
    ·have:=List.any_eq_false.1 aS j aB
     simp only [Bool.or_eq_true] at this
     exact absurd aD this
    ·exact aS
 have vE:∀ (i j s:Nat) (x y:dk),hs[i]? =some x→hs[j]? =some y→x.slot=some s→y.slot=some s→i=j:=by
  have key:∀ (l:List dk),((jj l).filterMap (·.1)).Nodup→ ∀ (i j s:Nat) (x y:dk),l[i]? =some x→l[j]? =some y→x.slot=some s→y.slot=some s→i=j:=by
   intro l
   induction l with
   | nil=>intro _ i j s x y h; simp at h
   | cons z r bD=>
     intro gk i j s x y ao aB ai a4
     have aD:((jj r).filterMap (·.1)).Nodup:=by
      cases dc:z.slot with
      | none=>simpa [jj,dc] using gk
      | some w=>
        simp only [jj,List.map_cons,List.filterMap_cons,dc] at gk
        exact(List.nodup_cons.1 gk).2
     have pN:z.slot=some s→ ∀ (q:Nat) (v:dk),r[q]? =some v→v.slot≠some s:=fun dc q v hq a3=>by
      simp only [jj,List.map_cons,List.filterMap_cons,dc] at gk
      exact(List.nodup_cons.1 gk).1 (List.mem_filterMap.2 ⟨_,List.mem_map.2 ⟨v,List.mem_of_getElem? hq,rfl⟩,a3⟩)
     cases i with
     | zero=>
       simp only [List.getElem?_cons_zero,Option.some.injEq] at ao
       subst ao
       cases j with
       | zero=>rfl
       | succ j=>simp only [List.getElem?_cons_succ] at aB; exact absurd a4 (pN ai j y aB)
     | succ i=>
       simp only [List.getElem?_cons_succ] at ao
       cases j with
       | zero=>
         simp only [List.getElem?_cons_zero,Option.some.injEq] at aB
         subst aB
         exact absurd ai (pN a4 i x ao)
       | succ j=>simp only [List.getElem?_cons_succ] at aB; rw [bD aD i j s x y ao aB ai a4]
  exact key hs gk
 have HB:∀ (t:Nat) (τ:I),look E t=some τ→ ∀ (m:Nat) (h:dk),hs[m]? =some h→h.slot=some t→ ∀ k,k < ops.size→k≠m→k∈h.up:=by
  intro t τ an m h hm ej k ar sD
  have mc:m < ops.size:=by have:=(List.getElem?_eq_some_iff.1 hm).1; omega
  have J:=List.all_eq_true.1 AE m (List.mem_range.2 mc)
  rw [show(jj hs)[m]? =some (h.slot,h.up,h.rd,h.wr) by simp [jj,hm],ej] at J
  have ub:t∈E.map (·.1):=by
   clear AE J bS bl hm ej
   induction E with
   | nil=>simp [look] at an
   | cons x r bD=>
     obtain⟨s,σ⟩:=x
     simp only [look] at an
     by_cases e:Nat.beq s t=true
     ·have:=ec.1 e; subst this; simp
     ·simp only [Bool.not_eq_true] at e
      rw [e] at an
      simp only [List.map_cons,List.mem_cons]
      exact .inr (bD an)
  replace J:(!(E.map (·.1)).contains t || (List.range ops.size).all fun k=>decide (k=m) || h.up.contains k)=true:=J
  rw [show(E.map (·.1)).contains t=true by simpa using ub] at J
  have aa:∀ x,x < ops.size→x=m∨x∈h.up:=by simpa using J
  exact(aa k ar).resolve_left sD
 have sE:∀ (a1:Array Bool),HeadInv .any ops ops.size a1→ ∀ (d i:Nat),i≤d→ ∀ (h:dk) (o:Oper),hs[i]? =some h→ops[i]? =some o→ (∀ e∈o.after,Region.binds .any e=true→a1.getD e.on false=true)→ ∀ k∈h.up,a1.getD k false=true:=by
  intro a1 inv d
  induction d with
  | zero=>
    intro i ao h o df n2 hw k ar
    rcases (pJ i h o df n2).2.2.1 k ar with J | ⟨m,hm,_⟩
    ·obtain⟨kG,hI,e,he,hb,lp⟩:=Region.waitsFor_spec J
     rw [n2] at hI; cases hI
     rw [← lp]; exact hw e he hb
    ·omega
  | succ d bD=>
    intro i ao h o df n2 hw k ar
    rcases (pJ i h o df n2).2.2.1 k ar with J | ⟨m,hm,J,x,ai,IE⟩
    ·obtain⟨kG,hI,e,he,hb,lp⟩:=Region.waitsFor_spec J
     rw [n2] at hI; cases hI
     rw [← lp]; exact hw e he hb
    ·obtain⟨kG,hI,e,he,hb,lp⟩:=Region.waitsFor_spec J
     rw [n2] at hI; cases hI
     have mc:=hw e he hb
     rw [lp] at mc
     obtain⟨aU,qj,Zm,p6⟩:=lB m (by have:=(Array.getElem?_eq_some_iff.1 n2).1; omega)
     exact bD m (by omega) x qj ai p6 (fun e he hb=>inv.closed m qj p6 mc e he hb) k IE
 have mI:∀ (a1:Array Bool) (hd:Nat→Hid) (a:Act) (W:World),(∀ i,i < ops.size→a1.getD i true=true)→HeadInv .any ops ops.size a1→
  bC c (hG (fun i=>a1.getD i false) hd E 0 hs) (gR (fun i=>a1.getD i false) hd 0 hs L) a W→Region.ready .any ops a1= []∧Q .normal a W:=by
  intro a1 hd a W pK inv st
  refine⟨?_,?_⟩
  ·refine List.eq_nil_iff_forall_not_mem.2 fun i ao=> ?_
   obtain⟨J,o,a6,_⟩:=mem_ready.1 ao
   rw [pK i (Array.getElem?_eq_some_iff.1 a6).1] at J
   cases J
  ·have an:∀ m,m < hs.length→a1.getD (0 + m) false=true:=fun m hm=>by
    have J:=pK m (by omega)
    have aa:m < a1.size:=by rw [inv.size]; omega
    simpa [aa] using J
   rw [FN (ls':=fun _=>true) an,F8 (ls':=fun _=>true) an] at st
   exact bl hd a W st
 intro m
 induction m with
 | zero=>
   intro a1 hd a W hm inv st
   refine mI a1 hd a W (fun i ao=> ?_) inv st
   cases h:a1.getD i true with
   | true=>rfl
   | false=>
     have:i∈ (List.range ops.size).filter fun i=> !a1.getD i true:=List.mem_filter.2 ⟨List.mem_range.2 ao,by rw [h]; rfl⟩
     rw [List.length_eq_zero_iff.1 (Nat.le_zero.1 hm)] at this
     cases this
 | succ m bD=>
   intro a1 hd a W hm inv st
   refine⟨fun bA=> ?_,fun i ao=> ?_⟩
   ·refine(mI a1 hd a W (fun i ao=> ?_) inv st).2
    have key:∀ d i,i≤d→i < ops.size→a1.getD i true=true:=by
     intro d
     induction d with
     | zero=>
       intro i wo ao
       cases an:a1.getD i true with
       | true=>rfl
       | false=>
         obtain⟨h,o,df,a6⟩:=lB i ao
         have:i∈Region.ready .any ops a1:=mem_ready.2 ⟨an,o,a6,fun e he hb=>by have:=(pJ i h o df a6).2.1 e he hb; omega⟩
         rw [bA] at this; cases this
     | succ d A8=>
       intro i wo ao
       cases an:a1.getD i true with
       | true=>rfl
       | false=>
         obtain⟨h,o,df,a6⟩:=lB i ao
         have:i∈Region.ready .any ops a1:=mem_ready.2 ⟨an,o,a6,fun e he hb=>by
          have J:=(pJ i h o df a6).2.1 e he hb
          have aa:=A8 e.on (by omega) (by omega)
          have av:e.on < a1.size:=by rw [inv.size]; omega
          simpa [av] using aa⟩
         rw [bA] at this; cases this
    exact key i i (Nat.le_refl _) ao
   ·obtain⟨ic,o,a6,nJ⟩:=mem_ready.1 ao
    have dQ:i < ops.size:=(Array.getElem?_eq_some_iff.1 a6).1
    obtain⟨h,_,df,_⟩:=lB i dQ
    have jO:a1.getD i false=false:=getD_both ic
    have pQ:i < a1.size:=by rw [inv.size]; omega
    have pP:((List.range ops.size).filter fun j=> !(a1.setIfInBounds i true).getD j true).length≤m:=by
     have:((List.range ops.size).filter fun j=> !(a1.setIfInBounds i true).getD j true).length < ((List.range ops.size).filter fun j=> !a1.getD j true).length:=by
      refine Dw (fun j=> !a1.getD j true) (fun j=> !(a1.setIfInBounds i true).getD j true) i (by simp only [ic]; rfl) ?_ (fun j aB=> ?_) ops.size dQ
      ·simp [pQ]
      ·by_cases e:i=j
       ·subst e; simp only [ic]; rfl
       ·rw [getD_set_ne true e] at aB; exact aB
     omega
    have sc:=inv.set ao dQ
    obtain⟨AA,zN,WI,ua⟩:=pJ i h o df a6
    have vY:=sE a1 inv i i (Nat.le_refl _) h o df a6 nJ
    have zO:∀ (k:Nat) (x:dk),hs[k]? =some x→i < k→ (∃ j∈x.wr,h.rd.contains j=true∨h.wr.contains j=true)→a1.getD k false=false:=fun k x ai ln aB=>by
     have J:=(ua k x ai).2 ln aB
     cases ar:a1.getD k false with
     | false=>rfl
     | true=>
       obtain⟨_,ok,_,ie⟩:=lB k (by have:=(List.getElem?_eq_some_iff.1 ai).1; omega)
       have:=sE a1 inv k k (Nat.le_refl _) x ok ai ie (fun e he hb=>inv.closed k ok ie ar e he hb) i J
       rw [jO] at this; cases this
    have zP:hs=hs.take i ++ h :: hs.drop (i + 1):=by
     have IF:i < hs.length:=by omega
     rw [List.getElem?_eq_getElem IF] at df
     cases df
     rw [List.getElem_cons_drop]
     exact(List.take_append_drop i hs).symm
    have A9:(hs.take i).length=i:=by rw [List.length_take]; omega
    have p4:∀ (t:Nat) (τ:I),look E t=some τ→ ∀ (m:Nat) (x:dk),hs[m]? =some x→a1.getD (0 + m) false=true→x.slot≠some t:=fun t τ an m x ai sF ej=>by
     rw [Nat.zero_add] at sF
     have Ba:i≠m:=fun e=>by subst e; rw [jO] at sF; cases sF
     obtain⟨_,qj,_,p6⟩:=lB m (by have:=(List.getElem?_eq_some_iff.1 ai).1; omega)
     have:=sE a1 inv m m (Nat.le_refl _) x qj ai p6 (fun e he hb=>inv.closed m qj p6 sF e he hb) i (HB t τ an m x ai ej i dQ Ba)
     rw [jO] at this; cases this
    have z7:=(o4.get bS i h o df (by rw [Array.getElem?_toList]; exact a6))
    rw [Nat.zero_add] at z7
    have Bb:=z7 hd (hG (fun i=>a1.getD i false) hd E 0 hs) (gR (fun i=>a1.getD i false) hd 0 hs L) (fun t τ an=> ?_) (fun j e aB aD=> ?_) (Da hw)
    ·have hw:=y6 (K:=fun a W=> ∃ x,bC c (nX h.slot (h.τ (gl h.up i (iV hd i x))) (hG (fun i=>a1.getD i false) hd E 0 hs)) (l8 (gR (fun i=>a1.getD i false) hd 0 hs L) (h.dA (gl h.up i (iV hd i x))) h.wr) a W) a6 (Bb a W st)
     refine wpOpIn_mono (fun gn W' ⟨x,nr⟩=> ?_) hw
     have Bc:∀ j,j≠i→iV hd i x j=hd j:=fun j aB=>by
      have:Nat.beq j i=false:=by
       cases hb:Nat.beq j i
       ·rfl
       ·exact absurd (ec.1 hb) aB
      simp only [iV,this,cond_false]
     have wC:∀ (j:Nat) (y:dk),hs[j]? =some y→a1.getD j false=true→gl y.up j (iV hd i x)=gl y.up j hd:=fun j y a4 aB=>by
      obtain⟨_,kG,_,hI⟩:=lB j (by have:=(List.getElem?_eq_some_iff.1 a4).1; omega)
      refine La (Bc j fun e=>by subst e; rw [jO] at aB; cases aB) fun k ar=>Bc k fun e=> ?_
      have:=sE a1 inv j j (Nat.le_refl _) y kG a4 hI (fun e he hb=>inv.closed j kG hI aB e he hb) k ar
      subst e
      rw [jO] at this; cases this
     have wD:(a1.setIfInBounds i true).getD i false=true:=by simp [pQ]
     have fA:∀ j,j≠i→ (a1.setIfInBounds i true).getD j false=a1.getD j false:=fun j aB=>getD_set_ne false (fun e=>aB e.symm)
     refine bD _ (iV hd i x) gn W' pP sc ?_
     have H5:gR (fun j=>(a1.setIfInBounds i true).getD j false) (iV hd i x) 0 hs L=l8 (gR (fun i=>a1.getD i false) hd 0 hs L) (h.dA (gl h.up i (iV hd i x))) h.wr:=by
      apply List.ext_getElem?
      intro j
      rw [vl,CQ,vl]
      by_cases aB:h.wr.contains j=true
      ·rw [if_pos aB]
       have az:∀ (ls:Nat→Bool) (g:Nat→Hid) (v:Option aI),(∀ k x,hs[k]? =some x→i < k→x.wr.contains j=true→ls k=false)→j9 ls g j 0 hs v=(bif ls i then(j9 ls g j 0 (hs.take i) v).map (fun _=>h.dA (gl h.up i g) j) else j9 ls g j 0 (hs.take i) v):=fun ls g v A6=>by
        conv=>lhs; rw [zP]
        rw [za,A9,Nat.zero_add,j9,aB,Bool.and_true,zn]
        intro k x ai hw
        rw [List.getElem?_drop] at ai
        exact A6 (i + 1 + k) x ai (by omega) hw
       have dN:∀ k x,hs[k]? =some x→i < k→x.wr.contains j=true→a1.getD k false=false:=fun k x ai ln hw=>zO k x ai ln ⟨j,by simpa using hw,.inr aB⟩
       rw [az (fun j=>(a1.setIfInBounds i true).getD j false) (iV hd i x) _ (fun k x ai ln hw=>by rw [fA k (by omega)]; exact dN k x ai ln hw),az (fun j=>a1.getD j false) hd _ dN]
       simp only [wD,jO,cond_true,cond_false]
       rw [uZ (ls':=fun j=>a1.getD j false) (hd':=hd) fun q x ai _=>by
        have hq:q < i:=by have:=(List.getElem?_eq_some_iff.1 ai).1; omega
        rw [List.getElem?_take,if_pos hq] at ai
        rw [Nat.zero_add]
        exact⟨fA q (by omega),fun an=>wC q x ai (by rw [fA q (by omega)] at an; exact an)⟩]
      ·rw [if_neg aB]
       refine uZ fun q x ai hw=> ?_
       rw [Nat.zero_add]
       have hq:q≠i:=fun e=>by subst e; rw [df] at ai; cases ai; exact aB hw
       exact⟨fA q hq,fun an=>wC q x ai (by rw [fA q hq] at an; exact an)⟩
     rw [H5]
     refine nr.less fun t τ an=> ?_
     rcases F7 an with⟨j,y,J,aa,av,aO⟩ | ⟨J,dN⟩
     ·rw [Nat.zero_add] at aa aO
      by_cases eX:j=i
      ·subst eX
       rw [df] at J
       cases J
       exact⟨τ,by rw [av,aO]; simp [nX,look,Nat.beq_refl],fun _ _ _ h=>h⟩
      ·rw [fA j eX] at aa
       rw [wC j y J aa] at aO
       have aS:=zt (ls:=fun i=>a1.getD i false) (hd:=hd) (E:=E) (k:=0) J (by rw [Nat.zero_add]; exact aa) av fun q z hq dc=>vE q j t z y hq J dc av
       rw [Nat.zero_add,← aO] at aS
       refine⟨τ,?_,fun _ _ _ h=>h⟩
       cases oJ:h.slot with
       | none=>exact aS
       | some s=>
         have cN:Nat.beq s t=false:=by
          cases hb:Nat.beq s t
          ·rfl
          ·have:=ec.1 hb; subst this
           exact absurd (vE j i s y h J df av oJ) eX
         simp only [nX,look,cN,cond_false]
         exact aS
     ·have hb:=p4 t τ J
      have aS:=zo (ls:=fun i=>a1.getD i false) (hd:=hd) (E:=E) (k:=0) hb
      refine⟨τ,?_,fun _ _ _ h=>h⟩
      cases oJ:h.slot with
      | none=>simp only [nX]; rw [aS]; exact J
      | some s=>
        have cN:Nat.beq s t=false:=by
         cases ni:Nat.beq s t
         ·rfl
         ·have:=ec.1 ni; subst this
          exact absurd oJ (dN i h df (by rw [Nat.zero_add]; exact wD))
        simp only [nX,look,cN,cond_false]
        rw [aS]; exact J
    ·rcases GA an with⟨j,aB,y,J,aa,av⟩ | J
     ·have aS:=zt (ls:=fun i=>a1.getD i false) (hd:=hd) (E:=E) (k:=0) J (by rw [Nat.zero_add]; exact vY j aB) aa fun q z hq dc=>vE q j t z y hq J dc aa
      rw [Nat.zero_add,← av] at aS
      exact aS
     ·rw [zo (p4 t τ J)]; exact J
    ·rw [vl] at aB ⊢
     rw [← aB]
     conv=>lhs; rw [zP]
     rw [za,zn]
     ·refine uZ fun q x ai hw=> ?_
      rw [Nat.zero_add]
      have hq:q < i:=by have:=(List.getElem?_eq_some_iff.1 ai).1; omega
      rw [List.getElem?_take,if_pos hq] at ai
      exact⟨vY q ((ua q x ai).1 hq ⟨j,by simpa using hw,aD⟩),fun _=>rfl⟩
     ·intro q x ai hw
      rw [A9,Nat.zero_add]
      cases q with
      | zero=>exact jO
      | succ q=>
        simp only [List.getElem?_cons_succ] at ai
        rw [List.getElem?_drop] at ai
        exact zO (i + (q + 1)) x (by rw [← ai]; congr 1; omega) (by omega) ⟨j,by simpa using hw,.inl aD⟩
theorem ak.MG {np:Nat} {oL:Nat} {l:List Oper} (hm:c.P.follows .mixedOrders=true) (hs:List dk) (ds:List (Option Nat × List Nat × List Nat × List Nat)) (es:List Nat) (hx:jj hs=ds) (sG:E.map (·.1)=es) (hA:Gv.mE l.toArray ds es=true) (hw:∀ h∈hs,∀ j∈h.wr,j < np∨L.length≤j)
 (bS:o4 c l.toArray Q hs E L np 0 l hs) (bl:∀ hd,aj c Q .normal (hG (fun _=>true) hd E 0 hs) (gR (fun _=>true) hd 0 hs L)):ak c Q (.region oL l.toArray true) E L:=fun a W s=>by
 subst hx sG
 refine wpIn_region_any hm ?_
 have AB:HeadInv .any l.toArray l.toArray.size (Array.replicate l.toArray.size false):=
  {size:=by simp
   closed:=fun j kG _ an=>by rw [getD_replicate_false] at an; cases an
   tail:=fun t J aa=>by omega }
 refine RM hw (ops:=l.toArray) (Q:=Q) hA (by simpa using bS) bl l.toArray.size (Array.replicate l.toArray.size false) (fun _ _=>none) a W.drew (Nat.le_trans (List.length_filter_le _ _) (by simp)) AB ?_
 have J:∀ (hs:List dk) (k:Nat),hG (fun i=>(Array.replicate l.toArray.size false).getD i false) (fun _ _=>none) E k hs=E:=by
  intro hs
  induction hs with
  | nil=>intro k; rfl
  | cons h r bD=>
    intro k
    have aa:=bD (k + 1)
    simp only [getD_replicate_false] at aa
    unfold hG
    simp only [getD_replicate_false]
    exact aa
 have aa:∀ (hs:List dk) (k:Nat) (L:List aI),gR (fun i=>(Array.replicate l.toArray.size false).getD i false) (fun _ _=>none) k hs L=L:=by
  intro hs
  induction hs with
  | nil=>intro k L; rfl
  | cons h r bD=>intro k L; rw [gR,bD]; simp only [getD_replicate_false,cond_false]
 rw [J,aa]
 exact s.world (Fr.drew W)
theorem ak.mE {oL:Nat} {l:List Oper} (hm:c.P.follows .mixedOrders=true) (hs:List dk) (ds:List (Option Nat × List Nat × List Nat × List Nat)) (es:List Nat) (hx:jj hs=ds) (sG:E.map (·.1)=es) (hA:Gv.mE l.toArray ds es=true)
 (bS:tD c l.toArray Q hs E L 0 l hs) (bl:∀ hd,aj c Q .normal (hG (fun _=>true) hd E 0 hs) (gR (fun _=>true) hd 0 hs L)):ak c Q (.region oL l.toArray true) E L:=
 ak.MG (np:=L.length) hm hs ds es hx sG hA (fun _ _ j _=>by omega) bS.O3 bl
theorem NP {hs:List dk} {ds:List (Option Nat × List Nat × List Nat × List Nat)} {np:Nat} (hx:jj hs=ds) (h:(ds.all fun d=>d.2.2.2.all fun j=>Nat.blt j np)=true):∀ h∈hs,∀ j∈h.wr,j < np∨L.length≤j:=fun x ai j aB=>by
 subst hx
 have J:=List.all_eq_true.1 h (x.slot,x.up,x.rd,x.wr) (List.mem_map.2 ⟨x,ai,rfl⟩)
 have aa:=List.all_eq_true.1 J j aB
 exact .inl (Nat.blt_eq.mp aa)
theorem ak.pG {oL:Nat} {l:List Oper} (np:Nat) (hm:c.P.follows .mixedOrders=true) (hs:List dk) (ds:List (Option Nat × List Nat × List Nat × List Nat)) (es:List Nat) (hx:jj hs=ds) (sG:E.map (·.1)=es) (hA:Gv.mE l.toArray ds es=true) (hw:(ds.all fun d=>d.2.2.2.all fun j=>Nat.blt j np)=true)
 (bS:o4 c l.toArray Q hs E L np 0 l hs) (bl:∀ hd,aj c Q .normal (hG (fun _=>true) hd E 0 hs) (gR (fun _=>true) hd 0 hs L)):ak c Q (.region oL l.toArray true) E L:=
 ak.MG hm hs ds es hx sG hA (NP hx hw) bS bl
theorem aj.fin {slot:Option Nat} {up wr:List Nat} {i:Nat} {hd:Nat→Hid} {τ:(Nat→Hid)→I} {dA:(Nat→Hid)→Nat→aI} {E' yp:List (Nat × I)} {L' L2:List aI} (x:Hid) (ay:yp=nX slot (τ (gl up i (iV hd i x))) E') (aq:L2=l8 L' (dA (gl up i (iV hd i x))) wr):
 aj c (sQ (fun a W=> ∃ x,bC c (nX slot (τ (gl up i (iV hd i x))) E') (l8 L' (dA (gl up i (iV hd i x))) wr) a W) Q) .normal yp L2:=fun a W s=>by
 subst ay aq
 exact⟨x,s⟩
theorem aj.place {z:Exit} {e:aI} (j:Nat) (aB:L[j]? =some ⟨none,.dead⟩) (k:aj c Q z E (L.set j e)):aj c Q z E (e :: L):=fun a W s=>by
 refine k a W (s.sub (fun x ai=> ?_) ?_)
 ·rcases List.mem_or_eq_of_mem_set ai with h | h
  ·exact List.mem_cons.2 (.inr h)
  ·exact List.mem_cons.2 (.inl h)
 ·have J:=tn aB
  have aa:(L.set j e).Perm (e :: L.eraseIdx j):=by
   have av:(L.set j e)[j]? =some e:=by rw [List.getElem?_set_self (List.getElem?_eq_some_iff.1 aB).1]
   have aO:=tn av
   rwa [List.eraseIdx_set_eq] at aO
  have aS:=ve (J.cons e)
  have aY:aK (e :: ⟨none,.dead⟩ :: L.eraseIdx j)=aK (e :: L.eraseIdx j):=by cases ar:e.key <;> simp [aK,ar]
  rw [aY] at aS
  exact(ve aa).nodup_iff.2 (aS.nodup_iff.1 s.nodup)
theorem aj.back {z:Exit} {e jF:aI} (j:Nat) (aB:L[j]? =some jF) (k:aj c Q z E (L.set j e)):aj c Q z E (e :: L.eraseIdx j):=fun a W s=>by
 have av:(L.set j e)[j]? =some e:=by rw [List.getElem?_set_self (List.getElem?_eq_some_iff.1 aB).1]
 have aO:=tn av
 rw [List.eraseIdx_set_eq] at aO
 exact k a W (s.perm aO.symm)
theorem ak.nW {z:Code} (n:Nat) (k:ak c Q z E (L ++ List.replicate n ⟨none,.dead⟩)):ak c Q z E L:=fun a W s=>by
 refine k a W ?_
 have ar:aK (L ++ List.replicate n ⟨none,.dead⟩)=aK L:=by
  rw [e4]
  have:∀ n,aK (List.replicate n (⟨none,.dead⟩:aI))= []:=fun n=>by
   induction n with
   | zero=>rfl
   | succ n bD=>rw [List.replicate_succ]; simp [aK,bD]
  rw [this,List.append_nil]
 exact
 {defers:=s.defers
  size:=s.size
  env:=fun t τ an=>by rw [ar]; exact s.env t τ an
  dw:=s.dw
  own:=fun e he=>by
   rw [ar]
   rcases List.mem_append.1 he with he | he
   ·exact s.own e he
   ·rw [(List.mem_replicate.1 he).2]; trivial
  nodup:=by rw [ar]; exact s.nodup
  lt:=by rw [ar]; exact s.lt
  fK:=by rw [ar]; exact s.fK
  ew:=by rw [ar]; exact s.ew }
theorem ak.Wz {z:Code} (n m:Nat) (k:ak c Q z E (L.take m ++ (List.replicate n ⟨none,.dead⟩ ++ L.drop m))):ak c Q z E L:=by
 refine ak.nW n fun a W s=>k a W (s.perm ?_)
 have e:L=L.take m ++ L.drop m:=(List.take_append_drop m L).symm
 conv=>lhs; rw [e]
 rw [List.append_assoc]
 exact List.perm_append_comm.append_left _
theorem aj.eH {z:Exit} {L2:List aI} (h:L=L2) (k:aj c Q z E L2):aj c Q z E L:=by subst h; exact k
theorem aj.nQ {z:Exit} {key:Option Nat} {n m cap:Nat} (ff:Nat) (an:look E ff=some (.eq (bf key n cap))) (aF:n=m) (k:aj c Q z ((ff,.eq (bf key m cap)) :: E) L):aj c Q z E L:=fun a W s=>by
 subst aF
 refine k a W (s.less fun t τ h=> ?_)
 simp only [look] at h
 by_cases e:Nat.beq ff t=true
 ·rw [e] at h
  simp only [cond_true] at h
  have:=ec.1 e
  subst this
  exact⟨τ,by rw [an,h],fun _ _ _ h=>h⟩
 ·simp only [Bool.not_eq_true] at e
  rw [e] at h
  exact⟨τ,h,fun _ _ _ h=>h⟩
variable {hs:List dk} {i d:Nat} {up rd:List Nat} {dA:(Nat→Hid)→Nat→aI} {o:Oper}
theorem h7 {τ:I} (bg:o.guard=none) (hd:o.dst=some d) (aF:Nat.blt d c.n=true)
 (h:∀ (hd:Nat→Hid) (E':List (Nat × I)) (L':List aI),(∀ t τ,look (mU hd hs E up) t=some τ→look E' t=some τ)→ (∀ j e,(gR (fun _=>true) hd 0 (hs.take i) L)[j]? =some e→rd.contains j=true→L'[j]? =some e)→bO c E' L' o τ):
 b8 c ops Q hs E L i o ⟨some d,up,rd,[],fun _=>τ,dA⟩:=fun Zn E' L' ay aq=>
 ah.v (h Zn E' L' ay aq) bg hd aF (ah.nil (aj.fin (fun _=>none) rfl rfl))
variable {ty t:TypeId} {pos:String} {af:Array Edge}
theorem ah.Oa {α:Type} [ae α] {rest:List Oper} {a7 e n:Nat} {z:α} {r0 r:List α} {bo:List (Nat × Operand)} (hu:c.P.underlying t=some (.slice e)) (eG:bs c.P e α) (gC:cz c.P e z) (hs:Nat.beq (ae.size α) 0=false) (aF:Nat.ble (n * ae.size α) 16777216=true)
 (aV:nN c E L (List.replicate n z) bo r0) (aD:r0=r) (jn:Nat.blt a7 c.n=true) (k:∀ p,ah c ops Q rest ((a7,.eq (bf p r.length n)) :: E) (⟨p,.row e r n⟩ :: L)):
 ah c ops Q (⟨some a7,.buildSlice t n bo.toArray,ty,pos,af,none⟩ :: rest) E L:=by subst aD; exact ah.pM hu eG gC hs aF aV jn k
variable {g:Option (Nat × Bool)} {x y:Operand}
end
section
variable {c:cY} {E:List (Nat × I)} {L:List aI} {ops:Array Oper} {Q:Exit→Act→World→Prop}
variable {d:Option Tmp} {ty:TypeId} {pos:String} {af:Array Edge} {g:Option (Nat × Bool)} {x y:Operand} {t t2:TypeId}
def Src (c:cY) (E:List (Nat × I)) (L:List aI) (y:Operand) (N:Nat) {α:Type} [ae α] (vs:List α):Prop:=
 ∀ a W,bC c E L a W→ (Builtin.lenOf (a.eval y)).run c.P W= .ok N W∧ ∃ cells:List Value,(Builtin.firstCells (ae.size α) vs.length (a.eval y)).run c.P W= .ok cells.toArray W∧gw (aK L ++ c.bL) W cells vs∧ ∀ v∈cells,v.oneCell'=true
theorem ah.DQ {rest:List Oper} {i e p off a7 dLen dCap N T:Nat} {cp cp':dF} {α:Type} [ae α] {vs:List α} (hu:c.P.underlying t=some (.slice e)) (eG:bs c.P e α)
 (ai:a8 c E L x (.eq (.slice (some ⟨p,off,none⟩) dLen dCap))) (a4:Src c E L y N vs) (H3:Nat.min N dLen=vs.length) (aq:L[i]? =some ⟨some p,cp⟩) (aF:Nat.blt a7 c.n=true)
 (Is:∀ A W o cells,cp.holds A W o→gw A W cells vs→ ∃ cs,o= .cells cs T (0,0)∧off + cells.length≤cs.size∧cp'.holds A W (.cells (cs.toList.take off ++ cells ++ cs.toList.drop (off + cells.length)).toArray T (0,0)))
 (k:ah c ops Q rest ((a7,.of (vs.length:Int)) :: E) (L.set i ⟨some p,cp'⟩)):
 ah c ops Q (⟨some a7,.call ⟨.builtin .copy,#[x,y],#[t,t2]⟩,ty,pos,af,none⟩ :: rest) E L:=fun a W s=>by
 have jn:a7 < c.n:=by simpa using aF
 have J:a.eval x=_:=ai a W s
 obtain⟨an,cells,ag,aD,yf⟩:=a4 a W s
 obtain⟨o,a6,bS⟩:=s.own _ (List.mem_of_getElem? aq)
 obtain⟨cs,rfl,D8,vW⟩:=Is _ _ _ _ bS aD
 obtain⟨fU,ef,eB⟩:=eG.info
 have kf:=run_storeCells_at (P:=c.P) p off T cells 0 cs W a6 (by omega) yf
 simp only [Nat.add_zero] at kf
 have jP:(execOp a.eval ⟨some a7,.call ⟨.builtin .copy,#[x,y],#[t,t2]⟩,ty,pos,af,none⟩).run c.P W= .ok (.value (goInt vs.length)) (W.setRow p (cs.toList.take off ++ cells ++ cs.toList.drop (off + cells.length)).toArray):=by
  simp [execOp,resolve,invoke,builtin,Builtin.copy_,J,run_underlying hu,an,H3,Go.sizeOf,typeInfo,ef,eB,ag,kf]
 refine hO rfl (R:=fun v g2=>v=goInt vs.length∧g2=W.setRow p (cs.toList.take off ++ cells ++ cs.toList.drop (off + cells.length)).toArray) (.lx jP ⟨rfl,rfl⟩) fun v g2 ⟨a3,hw⟩=> ?_
 subst a3
 subst hw
 exact k _ _ ((s.store aq a6 vW).put jn (of_int.2 rfl))
theorem C8 {i T cap lo N k:Nat} {key:Option Nat} {α:Type} [ae α] {xs:List α} (a4:a8 c E L y (.eq (hF key lo N cap (ae.size α)))) (aq:L[i]? =some ⟨key,.row T xs cap⟩) (ar:0 < k) (fA:lo + k≤xs.length):
 Src c E L y N ((xs.drop lo).take k):=fun a W s=>by
 obtain⟨p,cs,rfl,eD,ax,a5,bH,c9⟩:=s.rowAt aq (by omega)
 have J:a.eval y=_:=a4 a W s
 have mg:cap≠lo:=by omega
 have a3:a.eval y= .slice (some ⟨p,lo * ae.size α,none⟩) N (cap - lo):=by rw [J]; simp [hF,mg]
 have hlen:((xs.drop lo).take k).length=k:=by rw [List.length_take,List.length_drop]; omega
 have p2:cs.toList.length=cap * ae.size α:=by simpa using ax
 have Yo:(lo + k) * ae.size α≤xs.length * ae.size α:=Nat.mul_le_mul_right _ fA
 have D7:xs.length * ae.size α≤cap * ae.size α:=Nat.mul_le_mul_right _ a5
 rw [Nat.add_mul] at Yo
 have OB:((cs.toList.drop (lo * ae.size α)).take (k * ae.size α)).length=k * ae.size α:=by rw [List.length_take,List.length_drop]; omega
 have fL:gw (aK L ++ c.bL) W ((cs.toList.drop (lo * ae.size α)).take (k * ae.size α)) ((xs.drop lo).take k):=by
  refine⟨by rw [OB,hlen],fun j aB=> ?_⟩
  rw [hlen] at aB
  have aS:=c9.2 (lo + j) (by omega)
  have dQ:=xA (s:=ae.size α) aB
  have aaF:=xA (s:=ae.size α) (show lo + j < xs.length by omega)
  rw [List.drop_take,List.take_take,Nat.min_eq_left (by omega)] at aS
  rw [List.drop_take,List.take_take,Nat.min_eq_left (by omega),List.drop_drop,← Nat.add_mul]
  simpa using aS
 have eQ:=run_loadCells_list (P:=c.P) W ⟨p,lo * ae.size α,none⟩ ((cs.toList.drop (lo * ae.size α)).take (k * ae.size α)) fun j v a3=>by
  rw [jc,cell_of_row W p _ cs T (0,0) eD]
  rw [List.getElem?_take] at a3
  split at a3
  ·rw [List.getElem?_drop] at a3; simpa using a3
  ·cases a3
 rw [OB] at eQ
 refine⟨by rw [a3]; rfl,(cs.toList.drop (lo * ae.size α)).take (k * ae.size α),?_,fL,fL.one⟩
 rw [a3]
 simp only [Builtin.firstCells]
 rw [hlen]
 exact eQ
theorem Gt {p lo n cap size:Nat} (h:cap≠lo):hF (some p) lo n cap size=Value.slice (some ⟨p,lo * size,none⟩) n (cap - lo):=by simp [hF,h]
theorem L4 {i T cap:Nat} {key:Option Nat} {α:Type} [ae α] {xs:List α} (a4:a8 c E L y (.eq (bf key xs.length cap))) (aq:L[i]? =some ⟨key,.row T xs cap⟩) (ai:0 < xs.length):Src c E L y xs.length xs:=by
 have:=C8 (lo:=0) (k:=xs.length) (N:=xs.length) (by rw [zk]; exact a4) aq ai (by omega)
 simpa using this
theorem Du {key:Option Nat} {n cap size:Nat} (h:a8 c E L x (.eq (hF key 0 n cap size))):a8 c E L x (.eq (bf key n cap)):=by rw [← zk (size:=size)]; exact h
theorem GY {p lo n cap size:Nat} (ag:cap≠lo) (h:a8 c E L x (.eq (hF (some p) lo n cap size))):a8 c E L x (.eq (.slice (some ⟨p,lo * size,none⟩) n (cap - lo))):=by rw [← Gt ag]; exact h
def dF.AN {α:Type} [ae α] (T:TypeId) (xs:List α) (i m cap:Nat):dF where
 holds A W o:= ∃ cs,o= .cells cs T (0,0)∧cs.size=cap * ae.size α∧xs.length + m≤cap∧cap≤maxLen∧gw A W (cs.toList.take (i * ae.size α)) (xs.take i)∧
  gw A W ((cs.toList.drop ((i + m) * ae.size α)).take ((xs.length - i) * ae.size α)) (xs.drop i)
 mG:=False
 mono e h:=let⟨cs,J,aa,av,aO,aS,aY⟩:=h; ⟨cs,J,aa,av,aO,aS.mono e,aY.mono e⟩
theorem Tr {α:Type} [ae α] {T i m cap:Nat} {xs:List α} (ao:i≤xs.length) (hm:xs.length + m≤cap) {A W o cells} (h:(dF.row T xs cap).holds A W o) (ag:gw A W cells (xs.drop i)):
 ∃ cs,o= .cells cs T (0,0)∧ (i + m) * ae.size α + cells.length≤cs.size∧ (dF.AN T xs i m cap).holds A W (.cells (cs.toList.take ((i + m) * ae.size α) ++ cells ++ cs.toList.drop ((i + m) * ae.size α + cells.length)).toArray T (0,0)):=by
 obtain⟨cs,rfl,ax,a5,bH,c9⟩:=h
 have p2:cs.toList.length=cap * ae.size α:=by simpa using ax
 have mg:cells.length=(xs.length - i) * ae.size α:=by rw [ag.1,List.length_drop]
 have az:(i + m) * ae.size α + (xs.length - i) * ae.size α=(xs.length + m) * ae.size α:=by rw [← Nat.add_mul]; congr 1; omega
 have aX:(xs.length + m) * ae.size α≤cap * ae.size α:=Nat.mul_le_mul_right _ hm
 have dS:i * ae.size α≤ (i + m) * ae.size α:=Nat.mul_le_mul_right _ (by omega)
 have gP:i * ae.size α≤xs.length * ae.size α:=Nat.mul_le_mul_right _ ao
 have pw:(cs.toList.take ((i + m) * ae.size α)).length=(i + m) * ae.size α:=by rw [List.length_take]; omega
 refine⟨cs,rfl,by omega,_,rfl,?_,hm,bH,?_,?_⟩
 ·simp only [List.size_toArray,List.length_append,List.length_take,List.length_drop]; omega
 ·rw [List.toList_toArray,List.append_assoc,List.take_append_of_le_length (by rw [pw]; omega),List.take_take,Nat.min_eq_left dS]
  have:=F1 ao (⟨cs,rfl,ax,a5,bH,c9⟩:(dF.row T xs cap).holds A W (.cells cs T (0,0)))
  obtain⟨Zo,J,_,_,_,aS⟩:=this
  cases J
  rwa [List.length_take,Nat.min_eq_left ao] at aS
 ·rw [List.toList_toArray,List.append_assoc,List.drop_left' pw,← mg,List.take_left]
  exact ag
theorem SM {α:Type} [ae α] {T i cap:Nat} {xs vs:List α} (ao:i≤xs.length) {A W o cells} (h:(dF.AN T xs i vs.length cap).holds A W o) (ag:gw A W cells vs):
 ∃ cs,o= .cells cs T (0,0)∧i * ae.size α + cells.length≤cs.size∧ (dF.row T (xs.take i ++ vs ++ xs.drop i) cap).holds A W (.cells (cs.toList.take (i * ae.size α) ++ cells ++ cs.toList.drop (i * ae.size α + cells.length)).toArray T (0,0)):=by
 obtain⟨cs,rfl,ax,a5,bH,c9,kj⟩:=h
 have p2:cs.toList.length=cap * ae.size α:=by simpa using ax
 have mg:cells.length=vs.length * ae.size α:=ag.1
 have jF:i * ae.size α + vs.length * ae.size α=(i + vs.length) * ae.size α:=by rw [← Nat.add_mul]
 have az:(i + vs.length) * ae.size α + (xs.length - i) * ae.size α=(xs.length + vs.length) * ae.size α:=by rw [← Nat.add_mul]; congr 1; omega
 have aX:(xs.length + vs.length) * ae.size α≤cap * ae.size α:=Nat.mul_le_mul_right _ a5
 have hlen:(xs.take i ++ vs ++ xs.drop i).length=xs.length + vs.length:=by simp; omega
 refine⟨cs,rfl,by omega,_,rfl,?_,by rw [hlen]; exact a5,bH,?_⟩
 ·simp only [List.size_toArray,List.length_append,List.length_take,List.length_drop]; omega
 ·rw [List.toList_toArray,hlen]
  have kx:=tk (tk c9 ag) kj
  have pw:(cs.toList.take (i * ae.size α) ++ cells).length=(i + vs.length) * ae.size α:=by rw [List.length_append,List.length_take]; omega
  have Jx:(cs.toList.take (i * ae.size α) ++ cells ++ cs.toList.drop (i * ae.size α + cells.length)).take ((xs.length + vs.length) * ae.size α)=cs.toList.take (i * ae.size α) ++ cells ++ (cs.toList.drop ((i + vs.length) * ae.size α)).take ((xs.length - i) * ae.size α):=by
   rw [List.take_append,pw,List.take_of_length_le (by omega),mg,jF]
   congr 2
   omega
  rw [Jx]
  exact kx
theorem F3 {α:Type} [ae α] {T lo cap:Nat} {xs vs:List α} (ar:lo + vs.length≤xs.length) {A W o cells} (h:(dF.row T xs cap).holds A W o) (ag:gw A W cells vs):
 ∃ cs,o= .cells cs T (0,0)∧lo * ae.size α + cells.length≤cs.size∧ (dF.row T (xs.take lo ++ vs ++ xs.drop (lo + vs.length)) cap).holds A W (.cells (cs.toList.take (lo * ae.size α) ++ cells ++ cs.toList.drop (lo * ae.size α + cells.length)).toArray T (0,0)):=by
 obtain⟨cs,rfl,ax,a5,bH,c9⟩:=h
 have p2:cs.toList.length=cap * ae.size α:=by simpa using ax
 have mg:cells.length=vs.length * ae.size α:=ag.1
 have jF:lo * ae.size α + vs.length * ae.size α=(lo + vs.length) * ae.size α:=by rw [← Nat.add_mul]
 have az:(lo + vs.length) * ae.size α≤xs.length * ae.size α:=Nat.mul_le_mul_right _ ar
 have aX:xs.length * ae.size α≤cap * ae.size α:=Nat.mul_le_mul_right _ a5
 have hlen:(xs.take lo ++ vs ++ xs.drop (lo + vs.length)).length=xs.length:=by simp; omega
 refine⟨cs,rfl,by omega,_,rfl,?_,by rw [hlen]; exact a5,bH,?_⟩
 ·simp only [List.size_toArray,List.length_append,List.length_take,List.length_drop]; omega
 ·rw [List.toList_toArray,hlen]
  have kj:=K7 (lo:=lo) c9 ag ar
  have e:(cs.toList.take (lo * ae.size α) ++ cells ++ cs.toList.drop (lo * ae.size α + cells.length)).take (xs.length * ae.size α)=(cs.toList.take (xs.length * ae.size α)).take (lo * ae.size α) ++ cells ++ (cs.toList.take (xs.length * ae.size α)).drop (lo * ae.size α + cells.length):=by
   have dS:(cs.toList.take (lo * ae.size α) ++ cells).length=lo * ae.size α + cells.length:=by rw [List.length_append,List.length_take]; omega
   rw [List.take_append,dS,List.take_of_length_le (by omega),List.take_take,Nat.min_eq_left (by omega),List.drop_take]
  rw [e]
  exact kj
theorem Uq {p n cap e:Nat} (hu:c.P.underlying t=some (.slice e)) (ai:a8 c E L x (.eq (bf (some p) n cap))):bO c E L ⟨d,.call ⟨.builtin .cap,#[x],#[t]⟩,ty,pos,af,g⟩ (.of (cap:Int)):= .pure fun a W s=>by
 have J:a.eval x=_:=ai a W s
 exact⟨.int .i64 cap,by simp [execOp,resolve,invoke,builtin,Builtin.cap_,J,bf,run_underlying hu,goInt],of_int.2 rfl⟩
theorem rH {p n cap:Nat} {α:Type} [ae α] {e:TypeId} {lo ao:Option Operand} {m h:Nat} {BF BG:Int} (hu:c.P.underlying t=some (.slice e)) (eG:bs c.P e α) (ai:a8 c E L x (.eq (bf (some p) n cap)))
 (fA:uv c E L lo BF 0) (df:uv c E L ao BG n) (hm:BF=m) (aF:BG=h) (bS:m≤h∧h≤cap):
 bO c E L ⟨d,.slice t x lo ao none,ty,pos,af,g⟩ (.eq (hF (some p) m (h - m) cap (ae.size α))):= .pure fun a W s=>by
 subst hm; subst aF
 obtain⟨qZ,lI⟩:=bS
 obtain⟨fU,ef,eB⟩:=eG.info
 have J:a.eval x=_:=ai a W s
 refine⟨_,?_,rfl⟩
 simp only [hF]
 have aq:∀ v,v=Value.int .i64 m→ (Instr.sliceBound v h .sliceB).run c.P W= .ok m W:=fun v a3=>o0 qZ a3
 have jE:∀ v,v=Value.int .i64 h→ (Instr.sliceBound v cap .sliceAcap).run c.P W= .ok h W:=fun v a3=>o0 (by omega) a3
 generalize dQ:(h:Int)=Pv at df
 generalize A2:(m:Int)=Pw at fA
 generalize wx:(n:Int)=Px at df
 generalize OX:(0:Int)=Py at fA
 cases fA with
 | none=>
   have fi:m=0:=by omega
   cases df with
   | none=>
     have lI:h=n:=by omega
     subst lI
     subst fi
     simp [execOp,Instr.sliceAt,Instr.slice,Instr.sliceBounds,J,bf,run_underlying hu,Go.sizeOf,typeInfo,ef,eB,jc]
   | some bS=>
     subst dQ
     subst fi
     simp [execOp,Instr.sliceAt,Instr.slice,Instr.sliceBounds,J,bf,run_underlying hu,Go.sizeOf,typeInfo,ef,eB,jc,jE _ (of_int.1 (bS a W s))]
 | some an=>
   subst A2
   cases df with
   | none=>
     have lI:h=n:=by omega
     subst lI
     simp [execOp,Instr.sliceAt,Instr.slice,Instr.sliceBounds,J,bf,run_underlying hu,Go.sizeOf,typeInfo,ef,eB,jc,aq _ (of_int.1 (an a W s))]
     split <;> rfl
   | some bS=>
     subst dQ
     simp [execOp,Instr.sliceAt,Instr.slice,Instr.sliceBounds,J,bf,run_underlying hu,Go.sizeOf,typeInfo,ef,eB,jc,aq _ (of_int.1 (an a W s)),jE _ (of_int.1 (bS a W s))]
     split <;> rfl
theorem Wf {f:FuncId} {fn:Func} {p q T U cap cap' i j e tR qk PC hK PD PE j0:Nat} {α:Type} [ae α] {xs vs:List α} (AF:Nat.beq (ae.size α) 0=false)
 (aV:c.P.funcs[f]? =some fn) (WJ:(fn.name == "runtime.NumGoroutine")=false) (hb:fn.body.isNone=true) (aF:Extern.findNext fn=none)
 (he:Extern.find fn=some (Extern.SlicesOverlaps.overlaps #[t,t] #[tR])) (hu:c.P.underlying t=some (.slice e)) (eG:bs c.P e α)
 (ai:a8 c E L x (.eq (.slice (some ⟨q,PE,none⟩) qk PC))) (a4:a8 c E L y (.eq (.slice (some ⟨p,j0,none⟩) hK PD)))
 (ao:L[i]? =some ⟨some p,.row T xs cap⟩) (aB:L[j]? =some ⟨some q,.row U vs cap'⟩) (Eo:p≠q) (tV:0 < cap):
 bO c E L ⟨d,.call ⟨.value (.func f),#[x,y],#[t,t]⟩,ty,pos,af,g⟩ (.of false):= .pure fun a W s=>by
 obtain⟨o,a6,cs,rfl,ax,a5,bH,c9⟩:=s.own _ (List.mem_of_getElem? ao)
 obtain⟨o',sr,dM,rfl,bn,c3,eI,jD⟩:=s.own _ (List.mem_of_getElem? aB)
 obtain⟨fU,ef,eB⟩:=eG.info
 have J:a.eval x=_:=ai a W s
 have aa:a.eval y=_:=a4 a W s
 have kD:ae.size α≠0:=fun h=>by rw [h] at AF; cases AF
 have cN:cs.size≠0:=by rw [ax]; exact Nat.mul_ne_zero (by omega) kD
 have Zp:=Lib.run_overlaps_apart (P:=c.P) W t tR e hu (ae.size α) (fun w=>by simp [Go.sizeOf,typeInfo,ef,eB]) ⟨q,PE,none⟩ ⟨p,j0,none⟩ qk PC hK PD (fun h=>Eo h.symm) U T dM.size cs.size
  (by simp [World.shape?,sr]) (by simp [World.shape?,a6]) cN (by simp [World.frozen?,sr]) (by simp [World.frozen?,sr])
 refine⟨.bool false,?_,by exact of_bool.2 rfl⟩
 have bA:a.eval (.func f)= .func (.func f) #[] #[]:=rfl
 simp [execOp,resolve,Deferred.ofValue,bA,invoke,run_callFunc_extern aV WJ hb aF he,J,aa,Zp]
theorem ah.XU {α:Type} [ae α] {rest:List Oper} {a7 i e bytes cap m k p T:Nat} {EU:IntKind} {xs:List α} {z:α} (hu:c.P.underlying t=some (.slice e)) (ic:c.P.underlying t2=some (.int EU)) (eG:bs c.P e α) (gC:cz c.P e z) (AF:Nat.beq (ae.size α) 0=false)
 (wy:(c.P.info? e).map (·.bytes)=some bytes) (ai:a8 c E L x (.eq (hF (some p) 0 m cap (ae.size α)))) (a4:a8 c E L y (.of (k:Int))) (aq:L[i]? =some ⟨some p,.row T xs cap⟩) (hm:m≤xs.length) (ar:0 < k) (bg:cap < m + k)
 (wi:(m + k) * bytes≤140737488355328) (ni:m + k≤maxLen) (aF:Nat.blt a7 c.n=true)
 (m0:∀ q cap',ah c ops Q rest ((a7,.eq (bf (some q) (m + k) cap')) :: E) (⟨some q,.row e (xs.take m ++ List.replicate k z) cap'⟩ :: L)):
 ah c ops Q (⟨some a7,.call ⟨.builtin .append,#[x,y],#[t,t2]⟩,ty,pos,af,none⟩ :: rest) E L:=fun a W s=>by
 obtain⟨fU,dK,ef,dc,q6⟩:=gC.zero
 have nd:fU.size=ae.size α:=by
  obtain⟨i2,J,aa⟩:=eG.info
  rw [ef] at J; cases J; exact aa
 have G3:fU.bytes=bytes:=by simpa [ef] using wy
 subst G3
 have wz:dK.cells.size=ae.size α:=by have:=ae.len (q6 [] W).2; simpa using this
 have kD:ae.size α≠0:=fun h=>by rw [h] at AF; cases AF
 have jn:a7 < c.n:=by simpa using aF
 have J:a.eval x= .slice (some ⟨p,0,none⟩) m cap:=by
  have:=ai a W s
  rw [zk] at this
  exact this
 obtain⟨o,a6,cs,rfl,ax,a5,bH,c9⟩:=s.own _ (List.mem_of_getElem? aq)
 have mc:maxLen=9223372036854775807:=rfl
 have aa:a.eval y= .int .i64 k:=of_int.1 (a4 a W s)
 have Yp:=F1 hm (⟨cs,rfl,ax,a5,bH,c9⟩:(dF.row T xs cap).holds (aK L ++ c.bL) W (.cells cs T (0,0)))
 obtain⟨Zo,az,_,_,_,IG⟩:=Yp
 cases az
 have H6:(xs.take m).length=m:=by rw [List.length_take]; omega
 rw [H6] at IG
 have r7:∀ (j:Nat) u,(cs.toList.take (m * ae.size α))[j]? =some u→W.drew.cell? ((⟨p,0,none⟩:Addr).add j)=some u:=by
  intro j u mh
  rw [List.getElem?_take] at mh
  split at mh
  ·rw [jc,Nat.zero_add,cell_of_row W.drew p j cs T (0,0) a6]; simpa using mh
  ·cases mh
 have hold:=run_loadCells_list (P:=c.P) W.drew ⟨p,0,none⟩ _ r7
 rw [IG.1,H6] at hold
 have aD:=Lib.run_append_grow_zeros (P:=c.P) W t t2 ty e fU dK .i64 EU hu ic ef dc (some ⟨p,0,none⟩) m cap _ (by simp only [Builtin.firstCells]; rw [nd]; exact hold) k ar (by omega) bg (by omega)
  (by have:k * fU.bytes≤ (m + k) * fU.bytes:=Nat.mul_le_mul_right _ (by omega)
      omega) (growslice_fits bg wi)
 have nn:=grownCap_ge W (m + k) cap e
 have hle:=grownCap_le_maxLen W (m + k) cap e ni
 have Ev:=q6 (aK L ++ c.bL) W
 have p3:=zm Ev k kD
 have IB:Builtin.zeroCells dK.cells k=(Array.range (k * ae.size α)).map (dK.cells[· % dK.cells.size]!):=by rw [Builtin.zeroCells,wz]
 rw [← IB] at p3
 have xY:=(tk IG p3).mono (Ext.dw (Fr.drew W))
 have hlen:(xs.take m ++ List.replicate k z).length=m + k:=by rw [List.length_append,H6,List.length_replicate]
 have kf:=(s.world (Fr.drew W)).alloc (o:= .cells ((cs.toList.take (m * ae.size α)).toArray ++ Builtin.zeroCells dK.cells k ++ Builtin.zeroCells dK.cells (grownCap W (m + k) cap e - (m + k))) e)
  (cp:= .row e (xs.take m ++ List.replicate k z) (grownCap W (m + k) cap e))
  (Gz (T:=e) xY (ds:=(Builtin.zeroCells dK.cells (grownCap W (m + k) cap e - (m + k))).toList) (by rw [Array.length_toList,size_zeroCells,wz,hlen]) (by rw [hlen]; exact nn) hle (by simp))
 refine hO rfl (R:=fun v g2=>v=bf (some W.heap.size) (m + k) (grownCap W (m + k) cap e)∧g2=W.drew.alloc (.cells ((cs.toList.take (m * ae.size α)).toArray ++ Builtin.zeroCells dK.cells k ++ Builtin.zeroCells dK.cells (grownCap W (m + k) cap e - (m + k))) e)) (.lx ?_ ⟨rfl,rfl⟩) fun v g2 ⟨a3,hw⟩=> ?_
 ·simp only [execOp,resolve,invoke,builtin,Sem.run_bind,Sem.run_pure,Result.andThen_ok]
  have az:(#[x,y]:Array Operand).map a.eval= #[a.eval x,a.eval y]:=by simp
  rw [az,J,aa,aD]
  rfl
 ·subst a3
  subst hw
  exact m0 _ _ _ _ (kf.put jn rfl)
def I.uo (τ:I):I where
 holds A W v:= ∃ b cur T gQ u,v= .pointer (some ⟨b,0,none⟩)∧b ∉ A∧W.heap[b]? =some (.cells cur T gQ)∧cur[0]? =some u∧u.oneCell'=true∧τ.holds A W u
 mono e h:=by
  obtain⟨b,cur,T,gQ,u,rfl,hb,bS,hs,J,aD⟩:=h
  have bY:b < _:=(Array.getElem?_eq_some_iff.1 bS).1
  exact⟨b,cur,T,gQ,u,rfl,fun hm=>hb (e.new b hm bY),by rw [e.block b bY hb]; exact bS,hs,J,τ.mono e aD⟩
theorem ah.XB {rest:List Oper} {a7:Nat} {τ:I} (ai:a8 c E L x τ) (J:∀ A W v,τ.holds A W v→v.oneCell'=true) (aF:Nat.blt a7 c.n=true)
 (k:ah c ops Q rest ((a7,.uo τ) :: E) L):ah c ops Q (⟨some a7,.box t x,ty,pos,af,none⟩ :: rest) E L:=fun a W s=>by
 have a3:=ai a W s
 have a6:=J _ _ _ a3
 refine hO rfl (R:=fun v W'=>v= .pointer (some ⟨W.heap.size,0,none⟩)∧W'=W.alloc (.cells (a.eval x).cells t)) (.lx ?_ ⟨rfl,rfl⟩) fun v W' ⟨lJ,hw⟩=> ?_
 ·simp [execOp,Instr.box,newVar,newRow]
 ·subst lJ
  subst hw
  have s1:=((s.alloc (o:= .cells (a.eval x).cells t) (cp:= .dead) trivial).kill 0).oy 1
  refine k _ _ (bC.put s1 (by simpa using aF) ?_)
  refine⟨W.heap.size,(a.eval x).cells,t,(0,0),a.eval x,rfl,fun hm=> ?_,G0 W _,by rw [oe a6]; rfl,a6,τ.mono (A:=aK L ++ c.bL) (W:=W) ⟨by simp,fun k ar _=>zL W _ k ar,fun k h _=>h⟩ a3⟩
  rcases List.mem_append.1 hm with hm | hm
  ·exact Nat.lt_irrefl _ (s.lt _ hm)
  ·exact Nat.lt_irrefl _ (s.ew _ hm).1
theorem L3 {τ:I} {D:TypeDesc} (hu:c.P.underlying t=some D) (hd:(match (motive:=TypeDesc→Bool) D with | .struct _ | .array _ _=>true | _=>false)=false) (ai:a8 c E L x (.uo τ)):bO c E L ⟨d,.load t x,ty,pos,af,g⟩ τ:= .pure fun a W s=>by
 obtain⟨b,cur,T,gQ,u,J,hb,bS,hs,aa,aD⟩:=ai a W s
 have Zq:(isAgg t).run c.P W= .ok false W:=by
  unfold Go.isAgg
  rw [Sem.run_bind,run_underlying hu W]
  simp only [Result.andThen_ok]
  cases D <;> simp_all
 have r7:W.cell? ⟨b,0,none⟩=some u:=by rw [cell_of_row W b 0 cur T gQ bS]; exact hs
 refine⟨u,?_,aD⟩
 simp [execOp,Instr.loadAt,Instr.sureAddr,J,loadVar,Sem.run_bind,Zq,r7]
theorem ak.some {code:Code} {i T cap:Nat} {key:Option Nat} {α:Type} [ae α] {xs:List α} (aq:L[i]? =Option.some ⟨key,.row T xs cap⟩) (ai:0 < xs.length) (k:∀ p,key=Option.some p→xs.length≤cap→cap≤maxLen→ak c Q code E L):ak c Q code E L:=fun a W s=>by
 obtain⟨p,cs,rfl,eD,ax,a5,bH,c9⟩:=s.rowAt aq ai
 exact k p rfl a5 bH a W s
theorem ak.apart {code:Code} {p q:Nat} {cp cp':dF} {L':List aI} (aq:L=⟨Option.some p,cp⟩ :: ⟨Option.some q,cp'⟩ :: L') (k:p≠q→ak c Q code E L):ak c Q code E L:=fun a W s=>by
 refine k (fun e=> ?_) a W s
 have:=s.nodup
 rw [aq,e] at this
 simp [aK] at this
theorem F9 {α γ:Type} [ae α] [ae γ] {A W} {cs:List Value} {x:α} {os:List (Nat × Value)} {u:Value} (l:aP α (List γ)) (h:lg A W cs x os) (hq:(l.off,u)∈os):lg A W cs (l.set x []) os:=by
 refine⟨?_,h.2⟩
 have J:=l.k6 (ds:= [j8]) (g:=([]:List γ)) h.1 (show ae.rep A W [j8] ([]:List γ) from by
  have:=(m9 (A:=A) (W:=W) (v:=j8) (xs:=([]:List γ))).2 (.inl ⟨rfl,rfl⟩)
  exact this.2)
 have hb:(blank os cs)[l.off]? =some j8:=by
  rw [qz,if_pos (List.any_eq_true.2 ⟨_,hq,by simp⟩),(h.2 _ hq).1]; rfl
 have bY:l.off < (blank os cs).length:=(List.getElem?_eq_some_iff.1 hb).1
 have he:(blank os cs).take l.off ++ [j8] ++ (blank os cs).drop (l.off + ae.size (List γ))=blank os cs:=by
  show(blank os cs).take l.off ++ [j8] ++ (blank os cs).drop (l.off + 1)=blank os cs
  have aa:(blank os cs)[l.off]=j8:=(List.getElem?_eq_some_iff.1 hb).2
  rw [← aa,List.append_assoc,List.singleton_append,List.getElem_cons_drop,List.take_append_drop]
 rwa [he] at J
theorem ah.Eh {uw:List Oper} {p:Nat} {β γ:Type} [ae β] [ae γ] {b b':β} {os:List (Nat × Value)} {u:Value} (l:aP β (List γ)) (i q:Nat) (aq:L[i]? =some ⟨some p,.bZ b os⟩) (hq:os[q]? =some (l.off,u)) (hb:l.set b []=b')
 (k:ah c ops Q uw E (L.set i ⟨some p,.bZ b' os⟩)):ah c ops Q uw E L:=fun a W s=>
 k a W (s.again aq (fun A W o ⟨cs,T,J,aa⟩=>⟨cs,T,J,hb ▸ F9 l aa (List.mem_of_getElem? hq)⟩) id)
theorem aj.Eh {z:Exit} {p:Nat} {β γ:Type} [ae β] [ae γ] {b b':β} {os:List (Nat × Value)} {u:Value} (l:aP β (List γ)) (i q:Nat) (aq:L[i]? =some ⟨some p,.bZ b os⟩) (hq:os[q]? =some (l.off,u)) (hb:l.set b []=b')
 (k:aj c Q z E (L.set i ⟨some p,.bZ b' os⟩)):aj c Q z E L:=fun a W s=>
 k a W (s.again aq (fun A W o ⟨cs,T,J,aa⟩=>⟨cs,T,J,hb ▸ F9 l aa (List.mem_of_getElem? hq)⟩) id)
end
def vU {α:Type} (bytes:Nat) (xs:List α) (i:Int) (vs:List α):Option (List α):=
 if 0≤i∧i≤xs.length∧0 < vs.length∧ (xs.length + vs.length) * bytes≤140737488355328∧xs.length + vs.length≤maxLen then some (xs.take i.toNat ++ vs ++ xs.drop i.toNat) else none
theorem R9 {α:Type} {bytes:Nat} {xs vs r:List α} {i:Int} (h:vU bytes xs i vs=some r):
 ∃ k:Nat,i=k∧k≤xs.length∧0 < vs.length∧ (xs.length + vs.length) * bytes≤140737488355328∧xs.length + vs.length≤maxLen∧r=xs.take k ++ vs ++ xs.drop k:=by
 unfold vU at h
 split at h
 ·rename_i ag
  obtain⟨J,aa,av,aO,aS⟩:=ag
  exact⟨i.toNat,by omega,by omega,av,aO,aS,(by simp only [Option.some.injEq] at h; exact h.symm)⟩
 ·cases h
section
variable {c:cY} {E:List (Nat × I)} {L:List aI} {ops:Array Oper} {Q:Exit→Act→World→Prop} {rest:List Oper} {o:Oper} {a7:Nat}
variable {ty:TypeId} {pos:String} {af:Array Edge} {x y:Operand} {t t2:TypeId}
theorem aM {id:Nat} {l:List Oper} {y:Code} (h:ah c l.toArray (Exit.then (c.wp y Q) Q) l E L):ak c Q (.seq (.region id l.toArray false) y) E L:= .seq (.cU h)
theorem a0 {y:Code} (h:ak c Q y E L):ah c ops (Exit.then (c.wp y Q) Q) [] E L:= .nil (.next h)
theorem cm {y z:Code} (h:ak c (Exit.then (c.wp z Q) Q) y E L):ah c ops (Exit.then (c.wp (Code.seq y z) Q) Q) [] E L:= .nil (.next (.seq h))
theorem cc {id:Nat} {l:List Oper} {z:Code} (h:ah c l.toArray (Exit.then (c.wp z Q) Q) l E L):ah c ops (Exit.then (c.wp (Code.seq (.region id l.toArray false) z) Q) Q) [] E L:= .nil (.next (.seq (.cU h)))
theorem dT {y:Code} (h:ak c Q y E L):ak c (Exit.then (c.wp y Q) Q) .skip E L:= .skip (.next h)
theorem aC {α β:Type} {m:Option α} {f:α→Option β} {r:β} (h:m.bind f=some r):∃ y,m=some y∧f y=some r:=bind_some h
theorem dz {R:Type} {b:Bool} {A B:Option R} {r:R} {y z:Code} (h:cond b A B=some r) (bl:A=some r→ak c Q y E L) (aV:B=some r→ak c Q z E L)
 (an:a8 c E L x (.of b):=by first | exact ad rfl | exact fQ _):ak c Q (.cond x y z) E L:=
 .cond an (fun hb=>bl (hC hb h)) (fun hb=>aV (hD hb h))
theorem bp {τ:I} (h:bO c E L o τ) (k:ah c ops Q rest ((a7,τ) :: E) L) (bg:o.guard=none:=by rfl) (hd:o.dst=some a7:=by rfl) (aF:Nat.blt a7 c.n=true:=by rfl):ah c ops Q (o :: rest) E L:= .v h bg hd aF k
theorem aL {τ:I} (k:ah c ops Q rest ((a7,τ) :: E) L) (ai:a8 c E L x τ:=by first | exact ad rfl | exact bG _ | exact fQ _ | exact dy _) (aF:Nat.blt a7 c.n=true:=by rfl):
 ah c ops Q (⟨some a7,.move x,ty,pos,af,none⟩ :: rest) E L:= .v (cZ ai) rfl rfl aF k
theorem aW {τ:I} (k:ah c ops Q rest ((a7,τ) :: E) L) (ai:a8 c E L x τ:=by first | exact ad rfl | exact bG _ | exact fQ _ | exact dy _) (aF:Nat.blt a7 c.n=true:=by rfl):
 ah c ops Q (⟨some a7,.assign x,ty,pos,af,none⟩ :: rest) E L:= .v (e5 ai) rfl rfl aF k
theorem bj {σ τ:I} (h:a8 c E L x σ→bO c E L o τ) (k:ah c ops Q rest ((a7,τ) :: E) L) (ai:a8 c E L x σ:=by first | exact ad rfl | exact bG _ | exact fQ _ | exact dy _)
 (bg:o.guard=none:=by rfl) (hd:o.dst=some a7:=by rfl) (aF:Nat.blt a7 c.n=true:=by rfl):ah c ops Q (o :: rest) E L:= .v (h ai) bg hd aF k
theorem bQ {σ p7 τ:I} (h:a8 c E L x σ→a8 c E L y p7→bO c E L o τ) (k:ah c ops Q rest ((a7,τ) :: E) L) (ai:a8 c E L x σ:=by first | exact ad rfl | exact bG _ | exact fQ _ | exact dy _)
 (a4:a8 c E L y p7:=by first | exact ad rfl | exact bG _ | exact fQ _ | exact dy _)
 (bg:o.guard=none:=by rfl) (hd:o.dst=some a7:=by rfl) (aF:Nat.blt a7 c.n=true:=by rfl):ah c ops Q (o :: rest) E L:= .v (h ai a4) bg hd aF k
theorem dU {α:Type} [ae α] {a b:α} (e:some a=some b) (h:bO c E L o (.of a)) (k:ah c ops Q rest ((a7,.of b) :: E) L) (bg:o.guard=none:=by rfl) (hd:o.dst=some a7:=by rfl) (aF:Nat.blt a7 c.n=true:=by rfl):
 ah c ops Q (o :: rest) E L:= .v (h.as (aT e)) bg hd aF k
theorem gZ {i:Nat} {τs:List I} {τ:I} (k:ah c ops Q rest ((a7,τ) :: E) L) (ai:a8 c E L x (.eA τs):=by exact ad rfl) (ao:τs[i]? =some τ:=by rfl) (aF:Nat.blt a7 c.n=true:=by rfl):
 ah c ops Q (⟨some a7,.extract x i,ty,pos,af,none⟩ :: rest) E L:= .v (lb ai ao) rfl rfl aF k
theorem dg {p o:Nat} {β γ:Type} [ae β] [ae γ] {b:β} (j:Nat) (l:aP β γ) (ep:bs c.P t γ) (k:ah c ops Q rest ((a7,.of (l.get b)) :: E) L) (ai:a8 c E L x (.eq (.pointer (some ⟨p,o,none⟩))):=by exact ad rfl)
 (aq:L[j]? =some ⟨some p,.var b⟩:=by rfl) (a6:o=l.off:=by rfl) (aF:Nat.blt a7 c.n=true:=by rfl):ah c ops Q (⟨some a7,.load t x,ty,pos,af,none⟩ :: rest) E L:= .v (fl l ep ai aq a6 rfl) rfl rfl aF k
theorem cV {p:Nat} {β:Type} [ae β] {b:β} (j:Nat) (ep:bs c.P t β) (k:ah c ops Q rest ((a7,.of b) :: E) L) (ai:a8 c E L x (.eq (.pointer (some ⟨p,0,none⟩))):=by exact ad rfl)
 (aq:L[j]? =some ⟨some p,.var b⟩:=by rfl) (aF:Nat.blt a7 c.n=true:=by rfl):ah c ops Q (⟨some a7,.load t x,ty,pos,af,none⟩ :: rest) E L:= .v (fl (aP.id β) ep ai aq rfl rfl) rfl rfl aF k
theorem YS {p o:Nat} {β γ:Type} [ae β] [ae γ] {b:β} {os:List (Nat × Value)} (j:Nat) (l:aP β γ) (ep:bs c.P t γ) (k:ah c ops Q rest ((a7,.of (l.get b)) :: E) L) (ai:a8 c E L x (.eq (.pointer (some ⟨p,o,none⟩))):=by exact ad rfl)
 (aq:L[j]? =some ⟨some p,.bZ b os⟩:=by rfl) (a6:o=l.off:=by rfl) (a9:tB os l.off (ae.size γ)=true:=by rfl) (aF:Nat.blt a7 c.n=true:=by rfl):ah c ops Q (⟨some a7,.load t x,ty,pos,af,none⟩ :: rest) E L:= .v (C6 l ep ai aq a6 rfl a9) rfl rfl aF k
theorem Ej {s f o:Nat} {β γ:Type} [ae β] [ae γ] {b:β} (l:aP β γ) (fd:cC c.P s f o) (k:ah c ops Q rest ((a7,.ptr (l.get b)) :: E) L) (ai:a8 c E L x (.ptr b):=by exact ad rfl) (a6:l.off=o:=by rfl) (aF:Nat.blt a7 c.n=true:=by rfl):
 ah c ops Q (⟨some a7,.fieldAddr s x f,ty,pos,af,none⟩ :: rest) E L:= .v (DM l fd ai a6 rfl) rfl rfl aF k
theorem lh {α:Type} [ae α] [Inhabited α] {xs:List α} {e:TypeId} {i:Int} {j:Nat} (ar:idx xs.length i=some j) (hu:c.P.underlying t=some (.slice e)) (eG:bs c.P e α) (k:ah c ops Q rest ((a7,.ptr (aJ xs j)) :: E) L)
 (ai:a8 c E L x (.of xs):=by exact ad rfl) (a4:a8 c E L y (.of i):=by first | exact ad rfl | exact bG _) (aF:Nat.blt a7 c.n=true:=by rfl):
 ah c ops Q (⟨some a7,.indexAddr t x y,ty,pos,af,none⟩ :: rest) E L:= .v (r1 hu eG ai a4 (eh ar)) rfl rfl aF k
theorem AL {b e:Bool} {p:Prop} (k:ah c ops Q rest ((a7,.of (b || e)) :: E) L) (ai:a8 c E L x (.of b):=by exact ad rfl) (a4:a8 c E L y (.cond p (.of e)):=by exact ad rfl) (hp:b=false→p:=by exact fun h=>h) (aF:Nat.blt a7 c.n=true:=by rfl):
 ah c ops Q (⟨some a7,.pick x (.const (.bool true)) y,ty,pos,af,none⟩ :: rest) E L:= .v (tT ai a4 hp) rfl rfl aF k
theorem lE {b e:Bool} {p:Prop} (k:ah c ops Q rest ((a7,.of (b && e)) :: E) L) (ai:a8 c E L x (.of b):=by exact ad rfl) (a4:a8 c E L y (.cond p (.of e)):=by exact ad rfl) (hp:b=true→p:=by exact fun h=>h) (aF:Nat.blt a7 c.n=true:=by rfl):
 ah c ops Q (⟨some a7,.pick x y (.const (.bool false)),ty,pos,af,none⟩ :: rest) E L:= .v (tG ai a4 hp) rfl rfl aF k
theorem fB {τ:I} {j g:Nat} {b want:Bool} (h:b=want→bO c E L o τ) (k:ah c ops Q rest ((a7,.cond (b=want) τ) :: E) L) (bg:o.guard=some (j,want):=by rfl) (aB:(ops[j]?).bind (·.dst)=some g:=by rfl) (an:look E g=some (.of b):=by rfl)
 (hd:o.dst=some a7:=by rfl) (aF:Nat.blt a7 c.n=true:=by rfl):ah c ops Q (o :: rest) E L:= .g h bg aB an hd aF k
theorem gH {σ τ:I} {j g:Nat} {b want:Bool} (h:a8 c E L x σ→bO c E L o τ) (k:ah c ops Q rest ((a7,.cond (b=want) τ) :: E) L)
 (ai:b=want→a8 c E L x σ:=by first | exact fun hb=>cy rfl hb | exact fun _=>ad rfl | exact fun _=>bG _ | exact fun _=>fQ _)
 (bg:o.guard=some (j,want):=by rfl) (aB:(ops[j]?).bind (·.dst)=some g:=by rfl) (an:look E g=some (.of b):=by rfl)
 (hd:o.dst=some a7:=by rfl) (aF:Nat.blt a7 c.n=true:=by rfl):ah c ops Q (o :: rest) E L:= .g (fun hb=>h (ai hb)) bg aB an hd aF k
theorem mP {σ p7 τ:I} {j g:Nat} {b want:Bool} (h:a8 c E L x σ→a8 c E L y p7→bO c E L o τ) (k:ah c ops Q rest ((a7,.cond (b=want) τ) :: E) L)
 (ai:b=want→a8 c E L x σ:=by first | exact fun hb=>cy rfl hb | exact fun _=>ad rfl | exact fun _=>bG _ | exact fun _=>fQ _)
 (a4:b=want→a8 c E L y p7:=by first | exact fun hb=>cy rfl hb | exact fun _=>ad rfl | exact fun _=>bG _ | exact fun _=>fQ _)
 (bg:o.guard=some (j,want):=by rfl) (aB:(ops[j]?).bind (·.dst)=some g:=by rfl) (an:look E g=some (.of b):=by rfl)
 (hd:o.dst=some a7:=by rfl) (aF:Nat.blt a7 c.n=true:=by rfl):ah c ops Q (o :: rest) E L:= .g (fun hb=>h (ai hb) (a4 hb)) bg aB an hd aF k
theorem dL {α:Type} [ae α] {z:α} (gC:cz c.P t z) (k:∀ p,ah c ops Q rest ((a7,.eq (.pointer (some ⟨p,0,none⟩))) :: E) (⟨some p,.var z⟩ :: L)) (aF:Nat.blt a7 c.n=true:=by rfl):
 ah c ops Q (⟨some a7,.alloc t,ty,pos,af,none⟩ :: rest) E L:= .alloc gC aF k
theorem cM {α:Type} [ae α] {z:α} (k:∀ p,ah c ops Q rest ((a7,.eq (.pointer (some ⟨p,0,none⟩))) :: E) (⟨some p,.var z⟩ :: L)) (ai:a8 c E L x (.of z):=by first | exact ad rfl | exact bG _ | exact fQ _) (aF:Nat.blt a7 c.n=true:=by rfl):
 ah c ops Q (⟨some a7,.box t x,ty,pos,af,none⟩ :: rest) E L:= .box ai aF k
theorem si {p o:Nat} {β γ:Type} [ae β] [ae γ] {b:β} {v:γ} (i:Nat) (l:aP β γ) (ep:bs c.P t γ) (k:ah c ops Q rest E (L.set i ⟨some p,.var (l.set b v)⟩)) (ai:a8 c E L x (.eq (.pointer (some ⟨p,o,none⟩))):=by exact ad rfl)
 (a4:a8 c E L y (.of v):=by first | exact ad rfl | exact bG _ | exact fQ _ | exact look_nil | exact dy _) (aq:L[i]? =some ⟨some p,.var b⟩:=by rfl) (a6:o=l.off:=by rfl):
 ah c ops Q (⟨none,.store t x y,ty,pos,af,none⟩ :: rest) E L:= .store l ep ai a4 aq a6 rfl k
theorem dh {p:Nat} {β:Type} [ae β] {b v:β} (i:Nat) (ep:bs c.P t β) (k:ah c ops Q rest E (L.set i ⟨some p,.var v⟩)) (ai:a8 c E L x (.eq (.pointer (some ⟨p,0,none⟩))):=by exact ad rfl)
 (a4:a8 c E L y (.of v):=by first | exact ad rfl | exact bG _ | exact fQ _ | exact look_nil | exact dy _) (aq:L[i]? =some ⟨some p,.var b⟩:=by rfl):
 ah c ops Q (⟨none,.store t x y,ty,pos,af,none⟩ :: rest) E L:= .store (aP.id β) ep ai a4 aq rfl rfl k
theorem YT {p o:Nat} {β γ:Type} [ae β] [ae γ] {b b':β} {v:γ} (i:Nat) (l:aP β γ) (ep:bs c.P t γ) (k:ah c ops Q rest E (L.set i ⟨some p,.var b'⟩)) (ai:a8 c E L x (.eq (.pointer (some ⟨p,o,none⟩))):=by exact ad rfl)
 (a4:a8 c E L y (.of v):=by first | exact ad rfl | exact bG _ | exact fQ _ | exact look_nil | exact dy _) (aq:L[i]? =some ⟨some p,.var b⟩:=by rfl) (a6:o=l.off:=by rfl) (hb:some (l.set b v)=some b'):
 ah c ops Q (⟨none,.store t x y,ty,pos,af,none⟩ :: rest) E L:= .store l ep ai a4 aq a6 (aT hb) k
theorem gY {f:FuncId} {xs:List Operand} {ats:Array TypeId} {τs:List I} {ρ:I} (er:bV c.P f) (h:cl c.P f τs ρ) (k:ah c ops Q rest ((a7,ρ) :: E) L)
 (ai:ht c E L xs τs:=by repeat (first | exact trivial | refine⟨ad rfl,?_⟩ | refine⟨bG _,?_⟩ | refine⟨fQ _,?_⟩ | refine⟨look_nil,?_⟩ | refine⟨dy _,?_⟩)) (aF:Nat.blt a7 c.n=true:=by rfl):
 ah c ops Q (⟨some a7,.call ⟨.value (.func f),xs.toArray,ats⟩,ty,pos,af,none⟩ :: rest) E L:= .v (k7 er h ai) rfl rfl aF k
theorem gz {f:FuncId} {xs:List Operand} {ats:Array TypeId} {τs:List I} {δ:Type} {ρ:δ→I} {Lo:δ→List aI} (n:Nat) (er:bV c.P f) (h:bN c.P f τs (L.take n) ρ Lo)
 (k:∀ q,ah c ops Q rest ((a7,ρ q) :: E) (Lo q ++ L.drop n)) (ai:ht c E L xs τs:=by repeat (first | exact trivial | refine⟨ad rfl,?_⟩ | refine⟨bG _,?_⟩ | refine⟨fQ _,?_⟩ | refine⟨look_nil,?_⟩ | refine⟨xn,?_⟩ | refine⟨dy _,?_⟩)) (aF:Nat.blt a7 c.n=true:=by rfl):
 ah c ops Q (⟨some a7,.call ⟨.value (.func f),xs.toArray,ats⟩,ty,pos,af,none⟩ :: rest) E L:=by
 have e:=List.take_append_drop n L
 have:=ah.pH (ty:=ty) (pos:=pos) (af:=af) (ats:=ats) (xs:=xs) (Lin:=L.take n) (Lr:=L.drop n) (E:=E) (Q:=Q) (ops:=ops) er h (by rw [e]; exact ai) aF k
 rwa [e] at this
theorem oE {α:Type} [ae α] {e bytes cap:Nat} {key:Option Nat} {xs ys r:List α} {z:α} (j:Nat) (hu:c.P.underlying t=some (.slice e)) (eG:bs c.P e α) (gC:cz c.P e z) (h:iI bytes xs ys=some r)
 (k:∀ pR cap',ah c ops Q rest ((a7,.eq (bf pR r.length cap')) :: E) (L.set j ⟨pR,.row e r cap'⟩)) (wy:(c.P.info? e).map (·.bytes)=some bytes:=by kernel_rfl)
 (hs:a8 c E L x (.eq (bf key xs.length cap)):=by first | exact ad rfl | exact xn) (aq:L[j]? =some ⟨key,.row e xs cap⟩:=by rfl) (a4:a8 c E L y (.of ys):=by exact ad rfl) (aF:Nat.blt a7 c.n=true:=by rfl):
 ah c ops Q (⟨some a7,.call ⟨.builtin .append,#[x,y],#[t,t]⟩,ty,pos,af,none⟩ :: rest) E L:= .app hu eG gC wy hs aq a4 h aF k
theorem kT {place:Nat→Option (Nat × Nat)} {β:Type} [ae β] {b b':β} {γ:Type} [ae γ] {v:γ} {i:Nat} {r:List (Nat × Operand)} (l:aP β γ) (k:qQ c E L place (l.set b v) r b')
 (hp:place i=some (l.off,ae.size γ):=by rfl) (ai:a8 c E L x (.of v):=by first | exact ad rfl | exact bG _ | exact fQ _ | exact look_nil | exact dy _):qQ c E L place b ((i,x) :: r) b':= .cons l hp ai rfl k
theorem jQ {β:Type} [ae β] {z b:β} {bo:List (Nat × Operand)} {pl:Array (Nat × Nat)} (BD:hB c.P t pl) (gC:cz c.P t z) (PF:β) (aV:qQ c E L (pl[·]?) z bo b) (k:ah c ops Q rest ((a7,.of PF) :: E) L) (a9:ae.agg β=true:=by rfl) (hb:b=PF:=by rfl) (aF:Nat.blt a7 c.n=true:=by rfl):
 ah c ops Q (⟨some a7,.build t bo.toArray,ty,pos,af,none⟩ :: rest) E L:= .v ((c2 a9 BD gC aV).as hb) rfl rfl aF k
theorem ia {α:Type} [ae α] {e n:Nat} {z:α} {bo:List (Nat × Operand)} (r:List α) (hu:c.P.underlying t=some (.slice e)) (eG:bs c.P e α) (gC:cz c.P e z) (k:ah c ops Q rest ((a7,.of r) :: E) L)
 (aV:nN c E L (List.replicate n z) bo r:=by repeat (first | exact nN.nil | refine nN.cons (by simp) (ad rfl) ?_ | refine nN.cons (by simp) (bG _) ?_ | refine nN.cons (by simp) (fQ _) ?_ | refine nN.cons (by simp) (dy _) ?_))
 (hs:Nat.beq (ae.size α) 0=false:=by rfl) (sA:Nat.ble (n * ae.size α) 16777216=true:=by rfl) (aF:Nat.blt a7 c.n=true:=by rfl):
 ah c ops Q (⟨some a7,.buildSlice t n bo.toArray,ty,pos,af,none⟩ :: rest) E L:= .v (j5 hu eG gC hs sA aV) rfl rfl aF k
inductive mq (E:List (Nat × I)):List Nat→List (Nat × I)→Prop
 | nil:mq E [] []
 | cons {t:Nat} {g9:List Nat} {τ:I} {yp:List (Nat × I)} :look E t=some τ→mq E g9 yp→mq E (t :: g9) ((t,τ) :: yp)
theorem mq.le:∀ {g9:List Nat} {jo:List (Nat × I)},mq E g9 jo→hl E jo
 | _,_,.nil=> .nil
 | _,_,.cons h k=> .same h k.le
theorem kc {code:Code} {jo:List (Nat × I)} (g9:List Nat) (k:ak c Q code jo L) (ay:mq E g9 jo:=by repeat (first | exact mq.nil | (apply mq.cons; rfl))):ak c Q code E L:= .le ay.le k
theorem lF {z:Exit} {jo:List (Nat × I)} (g9:List Nat) (k:aj c Q z jo L) (ay:mq E g9 jo:=by repeat (first | exact mq.nil | (apply mq.cons; rfl))):aj c Q z E L:= .le ay.le k
theorem dI {z:Exit} {E':List (Nat × I)} {L':List aI} (n:Nat) (k:aj c Q z E' L') (aq:L.drop n=L':=by rfl) (h:hl E E':=by repeat (first | exact hl.nil | refine hl.same rfl ?_)):aj c Q z E L:= .meet n aq h k
theorem kb {σ ε γ δ:Type} {E':σ→γ→List (Nat × I)} {L':σ→γ→List aI} {xs:ε→Exit} {fJ:ε→δ→List (Nat × I)} {Lx:ε→δ→List aI} {s:σ} (g:γ) (n:Nat) (aq:L.drop n=L' s g:=by rfl)
 (h:hl E (E' s g):=by repeat (first | exact hl.nil | refine hl.same rfl ?_)):aj c (yg c E' L' xs fJ Lx (.inl s)) .normal E L:= .UD g n aq h
theorem hg {σ ε γ δ:Type} {E':σ→γ→List (Nat × I)} {L':σ→γ→List aI} {xs:ε→Exit} {fJ:ε→δ→List (Nat × I)} {Lx:ε→δ→List aI} {e:ε} {z:Exit} (g:δ) (n:Nat) (ai:z=xs e:=by rfl) (aF:z≠ .normal:=by simp) (aq:L.drop n=Lx e g:=by rfl)
 (h:hl E (fJ e g):=by repeat (first | exact hl.nil | refine hl.same rfl ?_)):aj c (yg c E' L' xs fJ Lx (.inr e)) z E L:= .UE g n ai aF aq h
theorem jR {t:Nat} {p:Nat} {α:Type} [ae α] {v:α} (i:Nat) (ep:bs c.P ty α) (h:look E t=some (.eq (.pointer (some ⟨p,0,none⟩))):=by rfl) (aq:L[i]? =some ⟨some p,.var v⟩:=by rfl):sO c E L (.cell t ty) (.of v):=Yh ep h aq
theorem ez {fn:Func} {t:Nat} {τ:I} (aD:fn.results= #[.tmp t]:=by rfl) (h:look E t=some τ:=by rfl) (hx:c.ds= []:=by rfl):aj c (bodyPost c.P fn (vX c τ)) .ret E L:= .mL aD (vK h) hx
theorem OJ {fn:Func} {t u:Nat} {τ n1:I} (aD:fn.results= #[.tmp t,.tmp u]:=by rfl) (h:look E t=some τ:=by rfl) (aa:look E u=some n1:=by rfl) (hx:c.ds= []:=by rfl):aj c (bodyPost c.P fn (vX c (.eA [τ,n1]))) .ret E L:= .DX aD (vK h) (vK aa) hx
theorem l9 {fn:Func} {t:Nat} {τ:I} {δ:Type} {ρ:δ→I} {Lo:δ→List aI} (a7:δ) (hs:(Lo a7).Sublist L:=by repeat (first | exact List.nil_sublist _ | refine List.Sublist.cons_cons _ ?_)) (aD:fn.results= #[.tmp t]:=by rfl) (h:look E t=some τ:=by rfl) (sC:ρ a7=τ:=by rfl) (hx:c.ds= []:=by rfl):
 aj c (bodyPost c.P fn (j6 c.X c.bL c.iL ρ Lo)) .ret E L:= .gF a7 hs aD sC (dG h) hx
def pf:List aI→List (Nat × aI)→List aI
 | L,[]=>L
 | L,(i,e) :: r=>pf (L.set i e) r
inductive ql:List aI→List aI→Prop
 | nil:ql [] []
 | cons {e:aI} {r s:List aI} :ql r s→ql (e :: r) (e :: s)
theorem ql.eq:∀ {l m:List aI},ql l m→l=m
 | _,_,.nil=>rfl
 | _,_,.cons h=>by rw [h.eq]
theorem nZ {σ ε γ δ:Type} {body:Code} {N:Nat} {b:σ→Option (σ ⊕ ε)} {bX:σ} {e:ε} {jo:List (Nat × I)} {gU:List aI} (an:gG N b bX=some e) (g9:List Nat) (u:σ→γ→List (Nat × I)) (ul:σ→γ→List (Nat × aI)) (xs:ε→Exit)
 (Jy:ε→δ→List (Nat × I)) (IH:ε→δ→List (Nat × aI)) (g0:γ)
 (r6:∀ s r,b s=some r→ ∀ g,ak c (yg c (fun s g=>u s g ++ jo) (fun s g=>pf gU (ul s g)) xs (fun e d=>Jy e d ++ jo) (fun e d=>pf gU (IH e d)) r) body (u s g ++ jo) (pf gU (ul s g)))
 (ot:∀ g,aj c Q (xs e) (Jy e g ++ jo) (pf gU (IH e g)))
 (wv:ql L gU:=by repeat (first | exact ql.nil | apply ql.cons))
 (Zr:mq E g9 jo:=by repeat (first | exact mq.nil | (apply mq.cons; rfl))) (ay:hl E (u bX g0 ++ jo):=by repeat (first | exact hl.nil | refine hl.same rfl ?_)) (aq:gU=pf gU (ul bX g0):=by rfl):ak c Q (.loop body) E L:=
 ak.tL an (fun s g=>u s g ++ jo) (fun s g=>pf gU (ul s g)) xs (fun e d=>Jy e d ++ jo) (fun e d=>pf gU (IH e d)) g0 (wv.eq.trans aq) ay r6 ot
theorem lj {γ:Type} {b:Bool} {y z:Code} {jo:List (Nat × I)} {gU:List aI} (g9:List Nat) (u:γ→List (Nat × I)) (ul:γ→List (Nat × aI)) (wY:∀ g,aj c Q .normal (u g ++ jo) (pf gU (ul g)))
 (bl:(∀ g,aj c Q .normal (u g ++ jo) (pf gU (ul g)))→b=true→ak c Q y E gU) (aV:(∀ g,aj c Q .normal (u g ++ jo) (pf gU (ul g)))→b=false→ak c Q z E gU)
 (wv:ql L gU:=by repeat (first | exact ql.nil | apply ql.cons))
 (Zr:mq E g9 jo:=by repeat (first | exact mq.nil | (apply mq.cons; rfl))) (an:a8 c E gU x (.of b):=by first | exact ad rfl | exact fQ _):ak c Q (.cond x y z) E L:=by
 cases wv.eq
 exact ak.cb (fun g=>u g ++ jo) (fun g=>pf L (ul g)) an wY bl aV
section
variable {all:List fb} {w:Nat→Bool}
theorem e7 {τ:I} {hyp:List aI→Prop} (h:∀ L',hyp L'→bO c E L' o τ) (bg:o.guard=none:=by rfl):∀ L',hyp L'→kF c ops E L' o τ:=fun L' aq=> .v (h L' aq) bg
theorem eE {τ:I} {hyp:List aI→Prop} (ai:∀ L',a8 c E L' x τ:=by first | exact fun _=>ad rfl | exact fun _=>bG _ | exact fun _=>fQ _ | exact fun _=>dy _):∀ L',hyp L'→kF c ops E L' ⟨some a7,.move x,ty,pos,af,none⟩ τ:=fun L' _=> .v (cZ (ai L')) rfl
theorem wS {τ:I} {hyp:List aI→Prop} (ai:∀ L',a8 c E L' x τ:=by first | exact fun _=>ad rfl | exact fun _=>bG _ | exact fun _=>fQ _ | exact fun _=>dy _):∀ L',hyp L'→kF c ops E L' ⟨some a7,.assign x,ty,pos,af,none⟩ τ:=fun L' _=> .v (e5 (ai L')) rfl
theorem H1 {σ τ:I} {hyp:List aI→Prop} (h:∀ {L'},a8 c E L' x σ→bO c E L' o τ) (bg:o.guard=none:=by rfl) (ai:∀ L',a8 c E L' x σ:=by first | exact fun _=>ad rfl | exact fun _=>bG _ | exact fun _=>fQ _ | exact fun _=>dy _):
 ∀ L',hyp L'→kF c ops E L' o τ:=fun L' _=> .v (h (ai L')) bg
theorem mo {σ p7 τ:I} {hyp:List aI→Prop} (h:∀ {L'},a8 c E L' x σ→a8 c E L' y p7→bO c E L' o τ) (bg:o.guard=none:=by rfl) (ai:∀ L',a8 c E L' x σ:=by first | exact fun _=>ad rfl | exact fun _=>bG _ | exact fun _=>fQ _ | exact fun _=>dy _)
 (a4:∀ L',a8 c E L' y p7:=by first | exact fun _=>ad rfl | exact fun _=>bG _ | exact fun _=>fQ _ | exact fun _=>dy _):∀ L',hyp L'→kF c ops E L' o τ:=fun L' _=> .v (h (ai L') (a4 L')) bg
theorem hT {p o:Nat} {β γ:Type} [ae β] [ae γ] {b:β} (i:Nat) (l:aP β γ) (ep:bs c.P t γ) (ai:∀ L',a8 c E L' x (.eq (.pointer (some ⟨p,o,none⟩))):=by exact fun _=>ad rfl) (aq:L[i]? =some ⟨some p,.var b⟩:=by rfl) (a6:o=l.off:=by rfl)
 (hu:pc w i 0 all=true:=by first | rfl | kernel_rfl):∀ L':List aI,(∀ (j:Nat) (e:aI),L[j]? =some e→pc w j 0 all=true→L'[j]? =some e)→kF c ops E L' ⟨some a7,.load t x,ty,pos,af,none⟩ (.of (l.get b)):=
 fun L' q4=> .v (fl l ep (ai L') (q4 _ _ aq hu) a6 rfl) rfl
theorem fY {p:Nat} {β:Type} [ae β] {b:β} (i:Nat) (ep:bs c.P t β) (ai:∀ L',a8 c E L' x (.eq (.pointer (some ⟨p,0,none⟩))):=by exact fun _=>ad rfl) (aq:L[i]? =some ⟨some p,.var b⟩:=by rfl)
 (hu:pc w i 0 all=true:=by first | rfl | kernel_rfl):∀ L':List aI,(∀ (j:Nat) (e:aI),L[j]? =some e→pc w j 0 all=true→L'[j]? =some e)→kF c ops E L' ⟨some a7,.load t x,ty,pos,af,none⟩ (.of b):=
 fun L' q4=> .v (fl (aP.id β) ep (ai L') (q4 _ _ aq hu) rfl rfl) rfl
theorem jg {f:FuncId} {xs:List Operand} {ats:Array TypeId} {τs:List I} {ρ:I} {hyp:List aI→Prop} (er:bV c.P f) (h:cl c.P f τs ρ)
 (ai:∀ L',ht c E L' xs τs:=by intro L'; repeat (first | exact trivial | refine⟨ad rfl,?_⟩ | refine⟨bG _,?_⟩ | refine⟨fQ _,?_⟩ | refine⟨look_nil,?_⟩ | refine⟨dy _,?_⟩)):
 ∀ L',hyp L'→kF c ops E L' ⟨some a7,.call ⟨.value (.func f),xs.toArray,ats⟩,ty,pos,af,none⟩ ρ:=fun L' _=> .v (k7 er h (ai L')) rfl
theorem x6 {α:Type} [ae α] [Inhabited α] {xs:List α} {e:TypeId} {i:Int} {j:Nat} {hyp:List aI→Prop} (ar:idx xs.length i=some j) (hu:c.P.underlying t=some (.slice e)) (eG:bs c.P e α)
 (ai:∀ L',a8 c E L' x (.of xs):=by exact fun _=>ad rfl) (a4:∀ L',a8 c E L' y (.of i):=by first | exact fun _=>ad rfl | exact fun _=>bG _):
 ∀ L',hyp L'→kF c ops E L' ⟨some a7,.indexAddr t x y,ty,pos,af,none⟩ (.ptr (aJ xs j)):=fun L' _=> .v (r1 hu eG (ai L') (a4 L') (eh ar)) rfl
theorem Ei {s f o:Nat} {β γ:Type} [ae β] [ae γ] {b:β} {hyp:List aI→Prop} (l:aP β γ) (fd:cC c.P s f o) (ai:∀ L',a8 c E L' x (.ptr b):=by exact fun _=>ad rfl) (a6:l.off=o:=by rfl):
 ∀ L',hyp L'→kF c ops E L' ⟨some a7,.fieldAddr s x f,ty,pos,af,none⟩ (.ptr (l.get b)):=fun L' _=> .v (DM l fd (ai L') a6 rfl) rfl
theorem Pq {α:Type} [ae α] {a b:α} {hyp:List aI→Prop} (e:some a=some b) (h:∀ L',hyp L'→bO c E L' o (.of a)) (bg:o.guard=none:=by rfl):∀ L',hyp L'→kF c ops E L' o (.of b):=fun L' aq=> .v ((h L' aq).as (aT e)) bg
theorem x5 {i:Nat} {τs:List I} {τ:I} {hyp:List aI→Prop} (ai:∀ L',a8 c E L' x (.eA τs):=by exact fun _=>ad rfl) (ao:τs[i]? =some τ:=by rfl):∀ L',hyp L'→kF c ops E L' ⟨some a7,.extract x i,ty,pos,af,none⟩ τ:=fun L' _=> .v (lb (ai L') ao) rfl
theorem e8 {τ:I} {j g:Nat} {b want:Bool} {hyp:List aI→Prop} (h:∀ L',hyp L'→b=want→bO c E L' o τ) (bg:o.guard=some (j,want):=by rfl) (aB:(ops[j]?).bind (·.dst)=some g:=by rfl) (an:look E g=some (.of b):=by rfl):
 ∀ L',hyp L'→kF c ops E L' o (.cond (b=want) τ):=fun L' aq=> .g (h L' aq) bg aB an
end
def bk (s:Nat) (up rd:List Nat) (τ:I):dk:=⟨some s,up,rd,[],fun _=>τ,fun _ _=>⟨none,.dead⟩⟩
section
variable {hs:List dk} {i:Nat} {up rd:List Nat}
theorem gb {τ:I} (ai:∀ (hd:Nat→Hid) (E':List (Nat × I)) (L':List aI),(∀ t τ,look (mU hd hs E up) t=some τ→look E' t=some τ)→a8 c E' L' x τ:=by first | exact fun _ _ _ ay=>ad (ay _ _ rfl) | exact fun _ _ _ _=>bG _ | exact fun _ _ _ _=>fQ _ | exact fun _ _ _ _=>dy _)
 (aF:Nat.blt a7 c.n=true:=by rfl):b8 c ops Q hs E L i ⟨some a7,.move x,ty,pos,af,none⟩ (bk a7 up rd τ):=h7 rfl rfl aF fun hd E' L' ay _=>cZ (ai hd E' L' ay)
theorem g8 {σ τ:I} (h:∀ {E' L'},a8 c E' L' x σ→bO c E' L' o τ) (bg:o.guard=none:=by rfl) (hd:o.dst=some a7:=by rfl)
 (ai:∀ (hd:Nat→Hid) (E':List (Nat × I)) (L':List aI),(∀ t τ,look (mU hd hs E up) t=some τ→look E' t=some τ)→a8 c E' L' x σ:=by first | exact fun _ _ _ ay=>ad (ay _ _ rfl) | exact fun _ _ _ _=>bG _ | exact fun _ _ _ _=>fQ _ | exact fun _ _ _ _=>dy _)
 (aF:Nat.blt a7 c.n=true:=by rfl):b8 c ops Q hs E L i o (bk a7 up rd τ):=h7 bg hd aF fun hd E' L' ay _=>h (ai hd E' L' ay)
theorem ym {σ p7 τ:I} (h:∀ {E' L'},a8 c E' L' x σ→a8 c E' L' y p7→bO c E' L' o τ) (bg:o.guard=none:=by rfl) (hd:o.dst=some a7:=by rfl)
 (ai:∀ (hd:Nat→Hid) (E':List (Nat × I)) (L':List aI),(∀ t τ,look (mU hd hs E up) t=some τ→look E' t=some τ)→a8 c E' L' x σ:=by first | exact fun _ _ _ ay=>ad (ay _ _ rfl) | exact fun _ _ _ _=>bG _ | exact fun _ _ _ _=>fQ _ | exact fun _ _ _ _=>dy _)
 (a4:∀ (hd:Nat→Hid) (E':List (Nat × I)) (L':List aI),(∀ t τ,look (mU hd hs E up) t=some τ→look E' t=some τ)→a8 c E' L' y p7:=by first | exact fun _ _ _ ay=>ad (ay _ _ rfl) | exact fun _ _ _ _=>bG _ | exact fun _ _ _ _=>fQ _ | exact fun _ _ _ _=>dy _)
 (aF:Nat.blt a7 c.n=true:=by rfl):b8 c ops Q hs E L i o (bk a7 up rd τ):=h7 bg hd aF fun hd E' L' ay _=>h (ai hd E' L' ay) (a4 hd E' L' ay)
theorem uf {p o:Nat} {β γ:Type} [ae β] [ae γ] {b:β} (k:Nat) (l:aP β γ) (ep:bs c.P t γ)
 (ai:∀ (hd:Nat→Hid) (E':List (Nat × I)) (L':List aI),(∀ t τ,look (mU hd hs E up) t=some τ→look E' t=some τ)→a8 c E' L' x (.eq (.pointer (some ⟨p,o,none⟩))):=by exact fun _ _ _ ay=>ad (ay _ _ rfl))
 (aq:∀ hd:Nat→Hid,(gR (fun _=>true) hd 0 (hs.take i) L)[k]? =some ⟨some p,.var b⟩:=by exact fun _=>rfl) (aD:rd.contains k=true:=by rfl) (a6:o=l.off:=by rfl)
 (aF:Nat.blt a7 c.n=true:=by rfl):b8 c ops Q hs E L i ⟨some a7,.load t x,ty,pos,af,none⟩ (bk a7 up rd (.of (l.get b))):=h7 rfl rfl aF fun hd E' L' ay q4=>fl l ep (ai hd E' L' ay) (q4 _ _ (aq hd) aD) a6 rfl
theorem mO {p:Nat} {β:Type} [ae β] {b:β} (k:Nat) (ep:bs c.P t β)
 (ai:∀ (hd:Nat→Hid) (E':List (Nat × I)) (L':List aI),(∀ t τ,look (mU hd hs E up) t=some τ→look E' t=some τ)→a8 c E' L' x (.eq (.pointer (some ⟨p,0,none⟩))):=by exact fun _ _ _ ay=>ad (ay _ _ rfl))
 (aq:∀ hd:Nat→Hid,(gR (fun _=>true) hd 0 (hs.take i) L)[k]? =some ⟨some p,.var b⟩:=by exact fun _=>rfl) (aD:rd.contains k=true:=by rfl)
 (aF:Nat.blt a7 c.n=true:=by rfl):b8 c ops Q hs E L i ⟨some a7,.load t x,ty,pos,af,none⟩ (bk a7 up rd (.of b)):=h7 rfl rfl aF fun hd E' L' ay q4=>fl (aP.id β) ep (ai hd E' L' ay) (q4 _ _ (aq hd) aD) rfl rfl
theorem cr {τ:I} (h:∀ (hd:Nat→Hid) (E':List (Nat × I)) (L':List aI),(∀ t τ,look (mU hd hs E up) t=some τ→look E' t=some τ)→ (∀ j e,(gR (fun _=>true) hd 0 (hs.take i) L)[j]? =some e→rd.contains j=true→L'[j]? =some e)→bO c E' L' o τ)
 (bg:o.guard=none:=by rfl) (hd:o.dst=some a7:=by rfl) (aF:Nat.blt a7 c.n=true:=by rfl):b8 c ops Q hs E L i o (bk a7 up rd τ):=h7 bg hd aF h
end
end
theorem CG {F:Fence} {n ny:Nat} {P:Program} {code:Code} {Q:Exit→Act→World→Prop} {a:Act} {W:World} (hd:F.depth=none) (h:code.wpIn F n P Q a W):code.wpIn F ny P Q a W:=
 fun b k cs yb hb _=>h b k cs yb hb (fun d hd'=>by rw [hd] at hd'; cases hd')
def dF.is (o:Obj):dF where
 holds _ _ x:=x=o
 mG:=False
 mono _ h:=h
abbrev dF.db:dF:= .is (.deferred (some []))
def I.gy (f:FuncId) (τs:List I):I where
 holds A W v:= ∃ hK:List Value,v= .func (.func f) #[] hK.toArray∧gu A W τs hK
 mono e h:=let⟨hK,J,aa⟩:=h; ⟨hK,J,aa.mono e⟩
theorem bC.qW {c E L a W} (h:bC c E L a W) {i p:Nat} {cp cp':dF} (ao:L[i]? =some ⟨some p,cp⟩) {o':Obj} (ag:cp'.holds (aK L ++ c.bL) W o'):
 bC c E (L.set i ⟨some p,cp'⟩) a (W.putObj p o'):=by
 have g1:aK (L.set i ⟨some p,cp'⟩)=aK L:=xz (cp:=cp') ao
 have hp:p∈aK L:=k8.2 ⟨_,List.mem_of_getElem? ao,rfl⟩
 have gX:Ext (aK L ++ c.bL) W (aK L ++ c.bL) (W.putObj p o'):=
  ⟨by simp,fun k _ a9=>World.putObj_heap_other (fun e=>a9 (e ▸ List.mem_append.2 (.inl hp))),fun _ h _=>h⟩
 exact
 {defers:=h.defers
  size:=h.size
  env:=fun t τ an=>by rw [g1]; exact let⟨v,J,aa⟩:=h.env t τ an; ⟨v,J,τ.mono gX aa⟩
  dw:=⟨h.dw.os,h.dw.tape,h.dw.output,by simpa using h.dw.size,fun k ar ai=>by
   rw [World.putObj_heap_other (fun e:k=p=>ai (by subst e; exact h.fK _ hp ar))]
   exact h.dw.block k ar ai⟩
  own:=fun e he=>by
   rw [g1]
   obtain⟨j,aB⟩:=List.mem_iff_getElem?.1 he
   rw [List.getElem?_set] at aB
   split at aB
   ·rename_i fo
    subst fo
    split at aB
    ·simp only [Option.some.injEq] at aB
     subst aB
     exact⟨_,World.putObj_heap_same (h.lt p hp),cp'.mono gX ag⟩
    ·cases aB
   ·rename_i fo
    have J:=h.own e (List.mem_of_getElem? aB)
    unfold aI.ok at *
    split at J
    ·rename_i q hq
     obtain⟨o',sr,bS⟩:=J
     have cN:q≠p:=fun e'=>fo (G1 h.nodup ao aB rfl (e' ▸ hq))
     exact⟨o',by rw [World.putObj_heap_other cN]; exact sr,dF.mono _ gX bS⟩
    ·exact J
  nodup:=by rw [g1]; exact h.nodup
  lt:=by rw [g1]; simpa using h.lt
  fK:=by rw [g1]; exact h.fK
  ew:=by rw [g1]; simpa using h.ew }
theorem MY {c:cY} {E:List (Nat × I)} {L:List aI} {d:Option Tmp} {ty:TypeId} {pos:String} {af:Array Edge} {g:Option (Nat × Bool)} {f:FuncId} {xs:List Operand} {τs:List I} (ai:ht c E L xs τs):
 bO c E L ⟨d,.makeFunc (.func f) #[] xs.toArray,ty,pos,af,g⟩ (.gy f τs):= .pure fun a W s=>
 ⟨.func (.func f) #[] (xs.map a.eval).toArray,by simp [execOp,Instr.makeFunc],_,rfl,ai.holds a W s⟩
structure x0 (A:List Nat) (W:World) (L:List aI):Prop where
 ew:∀ k∈A,k < W.heap.size∧k ∉ aK L
 nodup:(aK L).Nodup
 lt:∀ k∈aK L,k < W.heap.size
 ok:∀ e∈L,e.ok (aK L ++ A) W
def wE (P:Program) (u:Value) {α σ ε γ:Type} (τ:α→I) (Ls:σ→γ→List aI) (Lx:ε→γ→List aI) (step:α→σ→Option (σ ⊕ ε)) (R:List Nat→World→Prop):Prop:=
 ∃ l,u= .func (.yield l) #[] #[]∧ ∀ x s r,step x s=some r→ ∀ g A W v,R (aK (Ls s g) ++ A) W→x0 A W (Ls s g)→ (τ x).holds (aK (Ls s g) ++ A) W v→
   YieldAt Fence.wide 8 P l #[v] W (match r with
    | .inl bR=>j6 (aK (Ls s g)) A W (fun _:γ=>I.of true) (fun g=>Ls bR g)
    | .inr q=>j6 (aK (Ls s g)) A W (fun _:γ=>I.of false) (fun g=>Lx q g))
def Lr {σ ε γ:Type} (Ls:σ→γ→List aI) (Lx:ε→γ→List aI):σ ⊕ ε→γ→List aI
 | .inl s,g=>Ls s g
 | .inr q,g=>Lx q g
structure zK (P:Program) (f:FuncId) (τs:List I) (Lin:List aI) {α:Type} (τ:α→I) (run:∀ {σ ε:Type},(α→σ→Option (σ ⊕ ε))→σ→Option (σ ⊕ ε)):Prop where
 go:∀ {σ ε γ:Type} (Ls:σ→γ→List aI) (Lx:ε→γ→List aI) (step:α→σ→Option (σ ⊕ ε)) (bX:σ) (g0:γ) (r:σ ⊕ ε),run step bX=some r→
  ∀ (A:List Nat) (W:World) (u:Value) (vs:List Value),x0 A W (Lin ++ Ls bX g0)→gu (aK (Lin ++ Ls bX g0) ++ A) W τs vs→
    wE P u τ Ls Lx step (fun c1 W'=>Ext (aK (Lin ++ Ls bX g0) ++ A) W c1 W')→
    Calls P f (u :: vs).toArray W (j6 (aK (Lin ++ Ls bX g0)) A W (fun _:γ=> .eA []) (fun g=>Lin ++ Lr Ls Lx r g))
theorem zK.of {P:Program} {f:FuncId} {fn:Func} {code:Code} {n:Nat} {τs:List I} {Lin:List aI} {α:Type} {τ:α→I} {run:∀ {σ ε:Type},(α→σ→Option (σ ⊕ ε))→σ→Option (σ ⊕ ε)}
 (aV:P.funcs[f]? =some fn) (hb:fn.body=some code) (aF:fn.ntmps=n) (hlen:Nat.ble (τs.length + 1) n=true)
 (h:∀ {σ ε γ:Type} (Ls:σ→γ→List aI) (Lx:ε→γ→List aI) (step:α→σ→Option (σ ⊕ ε)) (bX:σ) (g0:γ) (r:σ ⊕ ε),run step bX=some r→
  ∀ W A u,wE P u τ Ls Lx step (fun c1 W'=>Ext (aK (Lin ++ Ls bX g0) ++ A) W c1 W')→
    ak ⟨P,n,W,aK (Lin ++ Ls bX g0),A,none,[]⟩ (bodyPost P fn (j6 (aK (Lin ++ Ls bX g0)) A W (fun _:γ=> .eA []) (fun g=>Lin ++ Lr Ls Lx r g))) code (params 0 (.eq u :: τs)) (Lin ++ Ls bX g0)):zK P f τs Lin τ run:=by
 refine⟨?_⟩
 intro σ ε γ Ls Lx step bX g0 r aD A W u vs an a3 a4
 refine calls_of_wp aV hb (wpIn_wide.1 (h Ls Lx step bX g0 r aD W A u a4 _ _ ?_))
 have lJ:gu (aK (Lin ++ Ls bX g0) ++ A) W (.eq u :: τs) (u :: vs):= .cons rfl a3
 have kX:=lJ.length
 have hle:τs.length + 1≤n:=Nat.le_of_ble_eq_true hlen
 exact
 {defers:=rfl
  size:=by simp at kX; simp [aF,kX]; omega
  env:=fun t τ eT=>by
   obtain⟨_,v,aa,av⟩:=uW lJ 0 t τ eT
   refine⟨v,?_,av⟩
   have bY:t < (u :: vs).length:=(List.getElem?_eq_some_iff.1 aa).1
   rw [Array.getElem?_append_left (by simpa using bY)]
   simpa using aa
  dw:= .refl _ _
  own:=an.ok
  nodup:=an.nodup
  lt:=an.lt
  fK:=fun k ar _=>ar
  ew:=an.ew }
section
variable {c:cY} {E:List (Nat × I)} {L:List aI} {ops:Array Oper} {Q:Exit→Act→World→Prop}
variable {d:Option Tmp} {ty:TypeId} {pos:String} {af:Array Edge} {g:Option (Nat × Bool)} {x y:Operand} {t t2:TypeId}
theorem bC.NQ {a:Act} {W:World} (s:bC c E L a W):Ext (c.X ++ c.bL) c.iL (aK L ++ c.bL) W:=
 ⟨s.dw.size,fun k ar a9=>s.dw.block k ar fun ai=>a9 (List.mem_append.2 (.inl ai)),fun k hm bY=>by
   rcases List.mem_append.1 hm with hm | hm
   ·exact List.mem_append.2 (.inl (s.fK k hm bY))
   ·exact List.mem_append.2 (.inr hm)⟩
theorem bC.D9 {a:Act} {W:World} {Lin Lr:List aI} (s:bC c E (Lin ++ Lr) a W):x0 (aK Lr ++ c.bL) W Lin:=by
 have l7:=s.nodup
 rw [e4] at l7
 obtain⟨nq,oN,p5⟩:=List.nodup_append.1 l7
 exact
 {ew:=fun k hm=>by
   rcases List.mem_append.1 hm with hm | hm
   ·exact⟨s.lt k (by rw [e4]; exact List.mem_append.2 (.inr hm)),fun h=>p5 k h k hm rfl⟩
   ·obtain⟨J,aa⟩:=s.ew k hm
    exact⟨J,fun h=>aa (by rw [e4]; exact List.mem_append.2 (.inl h))⟩
  nodup:=nq
  lt:=fun k hm=>s.lt k (by rw [e4]; exact List.mem_append.2 (.inl hm))
  ok:=fun e he=>aI.tv (s.own e (List.mem_append.2 (.inl he))) (.drop fun k hm=>by
   rw [e4]
   simp only [List.mem_append] at hm ⊢
   rcases hm with hm | hm | hm
   ·exact .inl (.inl hm)
   ·exact .inl (.inr hm)
   ·exact .inr hm) fun _ _=>rfl }
theorem zz {Lin Lr:List aI} {A:List Nat} {W:World} :Ext (aK (Lin ++ Lr) ++ A) W (aK Lin ++ (aK Lr ++ A)) W:= .drop fun k hm=>by
 rw [e4]
 simp only [List.mem_append] at hm ⊢
 rcases hm with hm | hm | hm
 ·exact .inl (.inl hm)
 ·exact .inl (.inr hm)
 ·exact .inr hm
theorem Ga {Lin Lr:List aI} {A:List Nat} {W:World} :Ext (aK Lin ++ (aK Lr ++ A)) W (aK (Lin ++ Lr) ++ A) W:= .drop fun k hm=>by
 rw [e4] at hm
 simp only [List.mem_append] at hm ⊢
 rcases hm with(hm | hm) | hm
 ·exact .inl hm
 ·exact .inr (.inl hm)
 ·exact .inr (.inr hm)
theorem ah.yield {rest:List Oper} {a7 k3:Nat} {ats:Array TypeId} {u:Value} {α σ ε γ:Type} {τ:α→I} {Ls:σ→γ→List aI} {Lx:ε→γ→List aI} {step:α→σ→Option (σ ⊕ ε)} {Lin:List aI} {x:Operand} {v:α} {s:σ} {gg:γ} {r:σ ⊕ ε}
 (ag:c.rd=none) (a4:wE c.P u τ Ls Lx step (fun c1 W'=>Ext (c.X ++ c.bL) c.iL c1 W')) (aV:look E k3=some (.eq u)) (ai:a8 c E (Lin ++ Ls s gg) x (τ v)) (aD:step v s=some r) (aF:Nat.blt a7 c.n=true)
 (bn:∀ bR,r= .inl bR→ ∀ de,ah c ops Q rest ((a7,.of true) :: E) (Lin ++ Ls bR de)) (c3:∀ q,r= .inr q→ ∀ de,ah c ops Q rest ((a7,.of false) :: E) (Lin ++ Lx q de)):
 ah c ops Q (⟨some a7,.call ⟨.value (.tmp k3),#[x],ats⟩,ty,pos,af,none⟩ :: rest) E (Lin ++ Ls s gg):=fun a W st=>by
 obtain⟨l,rfl,a4⟩:=a4
 obtain⟨Jz,J,aa⟩:=st.env k3 _ aV
 have hu:Jz= .func (.yield l) #[] #[]:=aa
 subst hu
 have nr:bC c E (Ls s gg ++ Lin) a W:=st.perm List.perm_append_comm
 have a3:=ai a W st
 have lJ:(τ v).holds (aK (Ls s gg) ++ (aK Lin ++ c.bL)) W (a.eval x):=(τ v).mono (.drop fun k hm=>by
  rw [e4]
  simp only [List.mem_append] at hm ⊢
  rcases hm with hm | hm | hm
  ·exact .inl (.inr hm)
  ·exact .inl (.inl hm)
  ·exact .inr hm) a3
 obtain⟨fn,tmps,assign,body,jP,jq⟩:=a4 v s r aD gg (aK Lin ++ c.bL) W (a.eval x) (nr.NQ.trans zz) nr.D9 lJ
 have HC:(execOp a.eval ⟨some a7,.call ⟨.value (.tmp k3),#[x],ats⟩,ty,pos,af,none⟩).run c.P W= .ok (.round l fn tmps assign body) W:=by
  rw [← jP]
  simp [execOp,resolve,Deferred.ofValue,Act.eval,J,invoke,Sem.run_bind,Sem.run_pure,Result.andThen]
 refine wpListIn_plain rfl fun K sN=> ?_
 refine⟨fun _ _=>trivial,?_⟩
 rw [Oper.semAt_eq _ _ _ (fun _ h=>by cases h),HC,Oper.uponIn_round]
 refine⟨fun h=>by simp at h,?_⟩
 have II:RoundIn c.F (9 - 1) c.P l fn tmps assign body W _:=jq
 refine II.mono fun e W' he=> ?_
 cases r with
 | inl bR=>
   obtain⟨w,de,rfl,p8,av,aO,aS,aY⟩:=he
   obtain rfl:=of_bool.1 aY
   refine sN _ _ (bn bR rfl de _ _ ?_)
   exact(((nr.after p8 av aO aS).perm List.perm_append_comm).put (by simpa using aF) (of_bool.2 rfl))
 | inr q=>
   obtain⟨w,de,rfl,p8,av,aO,aS,aY⟩:=he
   obtain rfl:=of_bool.1 aY
   refine sN _ _ (c3 q rfl de _ _ ?_)
   exact(((nr.after p8 av aO aS).perm List.perm_append_comm).put (by simpa using aF) (of_bool.2 rfl))
theorem ah.Up {rest:List Oper} {a7 k3 j gt:Nat} {b:Bool} {ats:Array TypeId} {u:Value} {α σ ε γ:Type} {τ:α→I} {Ls:σ→γ→List aI} {Lx:ε→γ→List aI} {step:α→σ→Option (σ ⊕ ε)} {Lin:List aI} {x:Operand} {v:α} {s:σ} {gg:γ} {r:σ ⊕ ε}
 (ag:c.rd=none) (a4:wE c.P u τ Ls Lx step (fun c1 W'=>Ext (c.X ++ c.bL) c.iL c1 W')) (hb:b=true) (aB:(ops[j]?).bind (·.dst)=some gt) (an:look E gt=some (.of b)) (aV:look E k3=some (.cond (b=true) (.eq u))) (ai:a8 c E (Lin ++ Ls s gg) x (τ v)) (aD:step v s=some r) (aF:Nat.blt a7 c.n=true)
 (bn:∀ bR,r= .inl bR→ ∀ de,ah c ops Q rest ((a7,.cond (b=true) (.of true)) :: E) (Lin ++ Ls bR de)) (c3:∀ q,r= .inr q→ ∀ de,ah c ops Q rest ((a7,.cond (b=true) (.of false)) :: E) (Lin ++ Lx q de)):
 ah c ops Q (⟨some a7,.call ⟨.value (.tmp k3),#[x],ats⟩,ty,pos,af,some (j,true)⟩ :: rest) E (Lin ++ Ls s gg):=fun a W st=>by
 have ay:look ((k3,.eq u) :: E) k3=some (.eq u):=by simp [look,Nat.beq_refl]
 have IJ:bC c ((k3,.eq u) :: E) (Lin ++ Ls s gg) a W:=st.less fun t mS h=>by
  simp only [look] at h
  by_cases e:Nat.beq k3 t=true
  ·rw [e] at h
   simp only [cond_true,Option.some.injEq] at h
   subst h
   rw [← ec.1 e]
   exact⟨_,aV,fun A W v a3=>a3.1 hb⟩
  ·simp only [Bool.not_eq_true] at e
   rw [e] at h
   exact⟨_,h,fun _ _ _ h=>h⟩
 have key:=ah.yield (c:=c) (ops:=ops) (Q:=Q) (E:=(k3,.eq u) :: E) (rest:=rest) (ty:=ty) (pos:=pos) (af:=af) (ats:=ats) ag a4 ay (fun a W s=>ai a W (s.less fun t mS h=>by
  by_cases e:Nat.beq k3 t=true
  ·have:=ec.1 e
   subst this
   rw [aV] at h
   cases h
   refine⟨_,ay,fun A W v a3=>⟨fun _=>a3,fun h=>absurd hb h⟩⟩
  ·simp only [Bool.not_eq_true] at e
   exact⟨mS,by simp only [look]; rw [e]; exact h,fun _ _ _ h=>h⟩)) aD aF
  (fun bR e de a W st=>bn bR e de a W (st.less fun t mS h=>by
   simp only [look] at h ⊢
   by_cases e:Nat.beq a7 t=true
   ·rw [e] at h ⊢
    simp only [cond_true,Option.some.injEq] at h ⊢
    exact⟨_,rfl,fun A W v a3=>by subst h; exact⟨fun _=>a3,fun h=>absurd hb h⟩⟩
   ·simp only [Bool.not_eq_true] at e
    rw [e] at h ⊢
    simp only [cond_false] at h ⊢
    by_cases aX:Nat.beq k3 t=true
    ·have:=ec.1 aX
     subst this
     rw [aV] at h
     cases h
     rw [aX]
     exact⟨_,rfl,fun A W v a3=>⟨fun _=>a3,fun h=>absurd hb h⟩⟩
    ·simp only [Bool.not_eq_true] at aX
     rw [aX]
     exact⟨mS,h,fun _ _ _ h=>h⟩))
  (fun bR e de a W st=>c3 bR e de a W (st.less fun t mS h=>by
   simp only [look] at h ⊢
   by_cases e:Nat.beq a7 t=true
   ·rw [e] at h ⊢
    simp only [cond_true,Option.some.injEq] at h ⊢
    exact⟨_,rfl,fun A W v a3=>by subst h; exact⟨fun _=>a3,fun h=>absurd hb h⟩⟩
   ·simp only [Bool.not_eq_true] at e
    rw [e] at h ⊢
    simp only [cond_false] at h ⊢
    by_cases aX:Nat.beq k3 t=true
    ·have:=ec.1 aX
     subst this
     rw [aV] at h
     cases h
     rw [aX]
     exact⟨_,rfl,fun A W v a3=>⟨fun _=>a3,fun h=>absurd hb h⟩⟩
    ·simp only [Bool.not_eq_true] at aX
     rw [aX]
     exact⟨mS,h,fun _ _ _ h=>h⟩))
 have:=key a W IJ
 unfold cY.pn wpListIn at this ⊢
 rw [if_pos (by simp [Region.wanted])] at this
 rw [if_pos (by simp [Region.wanted,xm aB an st,hb])]
 exact this
theorem ah.eH {l:List Oper} {L2:List aI} (h:L=L2) (k:ah c ops Q l E L2):ah c ops Q l E L:=by subst h; exact k
theorem ah.cases {l:List Oper} (b:Bool) (J:b=true→ah c ops Q l E L) (aa:b=false→ah c ops Q l E L):ah c ops Q l E L:=by
 cases b
 ·exact aa rfl
 ·exact J rfl
theorem ah.Wd {o:Oper} {rest:List Oper} {a7 j gt:Nat} {b:Bool} (τ:I) (hb:b=false) (bg:o.guard=some (j,true)) (hd:o.dst=some a7) (aB:(ops[j]?).bind (·.dst)=some gt) (an:look E gt=some (.of b)) (aF:Nat.blt a7 c.n=true)
 (k:ah c ops Q rest ((a7,.cond (b=true) τ) :: E) L):ah c ops Q (o :: rest) E L:=fun a W s=>by
 unfold cY.pn wpListIn
 rw [if_neg (by simp [Region.wanted,bg,xm aB an s,hb]),hd]
 exact⟨fun _ _=>trivial,k _ _ (s.put (by simpa using aF) ⟨fun h=>(by rw [hb] at h; cases h),fun _=>rfl⟩)⟩
theorem ak.Hq {x:Operand} {b:Bool} {y z:Code} (an:a8 c E L x (.of b)) (hb:b=true) (k:ak c Q y E L):ak c Q (.cond x y z) E L:= .cond an (fun _=>k) fun h=>by rw [hb] at h; cases h
theorem ak.tI {x:Operand} {b:Bool} {y z:Code} (an:a8 c E L x (.of b)) (hb:b=false) (k:ak c Q z E L):ak c Q (.cond x y z) E L:= .cond an (fun h=>by rw [hb] at h; cases h) fun _=>k
def zQ:Code→Exit
 | .ret=> .ret
 | .exit id=> .exit id
 | .goto t=> .goto t
 | _=> .normal
def vm:Code→Bool
 | .ret | .exit _ | .goto _=>true
 | _=>false
def BH {σ ε γ:Type} (c:cY) (eV:ε→Code) (l D:Nat) (rec:Loop) (Ls:σ→γ→List aI) (Lx:ε→γ→List aI):σ ⊕ ε→Exit→Act→World→Prop
 | .inl bR,x,a,W=>x= .normal∧ ∃ g,bC c [] (⟨some l,.is (.loop rec)⟩ :: ⟨some D,.db⟩ :: Ls bR g) a W
 | .inr q,x,a,W=>vm (eV q)=true∧x=zQ (eV q)∧ ∃ g,bC c [] (⟨some l,.is (.loop rec)⟩ :: ⟨some D,.db⟩ :: Lx q g) a W
def BI (c:cY) (l:Nat) (body:Code) (Q:Exit→Act→World→Prop) (a:Act) (W:World):Prop:=
 ∃ n8,(Instr.beginRound l).run c.P W= .ok () n8∧c.wp body Q a n8
theorem aj.begin {l:Nat} {body:Code} {sM:Exit→Act→World→Prop} (i:Nat) {r:Loop} (aq:L[i]? =some ⟨some l,.is (.loop r)⟩) (aD:r.state= .ready)
 (k:ak c Q body E (L.set i ⟨some l,.is (.loop { r with state:= .busy })⟩)):aj c (Exit.then (BI c l body Q) sM) .normal E L:=fun a W s=>by
 obtain⟨o,J,aa⟩:=s.own _ (List.mem_of_getElem? aq)
 have ji:o= .loop r:=aa
 subst ji
 exact⟨_,run_beginRound J aD,k _ _ (s.qW aq rfl)⟩
theorem aj.Io {σ ε γ:Type} {eV:ε→Code} {l D:Nat} {rec:Loop} {Ls:σ→γ→List aI} {Lx:ε→γ→List aI} {bR:σ} (g:γ) (n:Nat) (aq:L.drop n=⟨some l,.is (.loop rec)⟩ :: ⟨some D,.db⟩ :: Ls bR g):
 aj c (BH c eV l D rec Ls Lx (.inl bR)) .normal E L:=fun a W s=>⟨rfl,g,by rw [← aq]; exact(s.oy n).less (fun t τ h=>by simp [look] at h)⟩
theorem aj.GX {σ ε γ:Type} {eV:ε→Code} {l D:Nat} {rec:Loop} {Ls:σ→γ→List aI} {Lx:ε→γ→List aI} {q:ε} {x:Exit} (g:γ) (n:Nat) (aB:vm (eV q)=true) (ai:x=zQ (eV q)) (aq:L.drop n=⟨some l,.is (.loop rec)⟩ :: ⟨some D,.db⟩ :: Lx q g):
 aj c (BH c eV l D rec Ls Lx (.inr q)) x E L:=fun a W s=>⟨aB,ai,g,by rw [← aq]; exact(s.oy n).less (fun t τ h=>by simp [look] at h)⟩
theorem ak.jump {j:Code} (aB:vm j=true) (k:aj c Q (zQ j) E L):ak c Q j E L:=by
 cases j <;> simp only [vm] at aB <;> first | cases aB | skip
 all_goals first | exact .exit k | exact .ret k | exact fun a W s=>wpIn_goto (k a W s)
theorem Kk {P:Program} {l:Nat} {R:Ending→World→Prop} {j:Code} {a:Act} {W W':World} {v:Value} (aB:vm j=true) (aY:(Instr.endRound l (some j)).run P W= .ok v W') (jq:R (.returned v) W'):
 roundPost P l R (zQ j) a W:=by
 cases j <;> simp only [vm] at aB <;> first | exact⟨_,_,aY,jq⟩ | cases aB
theorem bC.mark {a:Act} {W:World} (s:bC c E L a W) (D:Nat):bC { c with ds:=D :: c.ds } E L { a with defers:=D2 D :: a.defers } W:=
 {defers:=by simp [s.defers],size:=s.size,env:=s.env,dw:=s.dw,own:=s.own,nodup:=s.nodup,lt:=s.lt,fK:=s.fK,ew:=s.ew }
def IK (P:Program) (f:FuncId) (τs:List I) (Lin:List aI) {α σ ε γ:Type} (τ:α→I) (run:(α→σ→Option (σ ⊕ ε))→σ→Option (σ ⊕ ε)) (Ls:σ→γ→List aI) (Lx:ε→γ→List aI):Prop:=
 ∀ (step:α→σ→Option (σ ⊕ ε)) (bX:σ) (g0:γ) (r:σ ⊕ ε),run step bX=some r→
   ∀ (A:List Nat) (W:World) (u:Value) (vs:List Value),x0 A W (Lin ++ Ls bX g0)→gu (aK (Lin ++ Ls bX g0) ++ A) W τs vs→
     wE P u τ Ls Lx step (fun c1 W'=>Ext (aK (Lin ++ Ls bX g0) ++ A) W c1 W')→
     Calls P f (u :: vs).toArray W (j6 (aK (Lin ++ Ls bX g0)) A W (fun _:γ=> .eA []) (fun g=>Lin ++ Lr Ls Lx r g))
theorem Lc {gt p:Nat} {assign body:Code} {f:FuncId} {mN:List I} {Lin:List aI} {α σ ε γ:Type} {τ:α→I} {run:(α→σ→Option (σ ⊕ ε))→σ→Option (σ ⊕ ε)}
 {Ls:σ→γ→List aI} {Lx:ε→γ→List aI} {step:α→σ→Option (σ ⊕ ε)} {bX:σ} {g0:γ} {r:σ ⊕ ε} (eV:ε→Code)
 (ag:c.rd=none) (er:bV c.P f) (bg:look E gt=some (.gy f mN)) (kk:∀ az aX mV,IK c.P f mN Lin τ run (fun s g=>az :: aX :: Ls s g) mV) (aD:run step bX=some r) (aq:L=Lin ++ Ls bX g0) (hp:Nat.blt p c.n=true)
 (pb:∀ x s r,step x s=some r→ ∀ g (kV:World) (kZ kW:List Nat) (l D:Nat) (rec:Loop),rec.state= .ready→
  ak ⟨c.P,c.n,kV,kZ,kW,some l,[]⟩ (Exit.then (BI ⟨c.P,c.n,kV,kZ,kW,some l,[]⟩ l body (BH ⟨c.P,c.n,kV,kZ,kW,some l,[]⟩ eV l D { rec with state:= .busy } Ls Lx r)) (fun _ _ _=>False)) assign ((p,τ x) :: E) (⟨some l,.is (.loop rec)⟩ :: ⟨some D,.db⟩ :: Ls s g))
 (mI:∀ bR,r= .inl bR→ ∀ g D,aj { c with ds:=D :: c.ds } Q .normal E (⟨some D,.db⟩ :: (Lin ++ Ls bR g)))
 (vF:∀ q,r= .inr q→ ∀ g D,ak { c with ds:=D :: c.ds } Q (eV q) E (⟨some D,.db⟩ :: (Lin ++ Lx q g))):
 ak c Q (.rangeFunc (.tmp gt) #[p] assign body) E L:=fun a W st=>by
 subst aq
 refine wpIn_rangeFunc fun fn Zs=> ?_
 show ∃ l mark Yq d WK yv args Yr,(Instr.enterLoop fn a.tmps #[p] assign body c.rd).run c.P W=_∧_
 rw [ag]
 obtain⟨rec,ky⟩:∃ rec:Loop,rec= { state:= .ready,pending:=none,fn,tmps:=a.tmps,params:= #[p],assign,body,defers:=W.heap.size } :=⟨_,rfl⟩
 obtain⟨v,Bd,hK,wF,Zt⟩:=st.env gt _ bg
 obtain⟨g2,Be⟩:∃ g2,(W.alloc (.deferred (some []))).alloc (.loop rec)=g2:=⟨_,rfl⟩
 have s1:=(st.alloc (o:= .deferred (some [])) (cp:= .db) rfl).alloc (o:= .loop rec) (cp:= .is (.loop rec)) rfl
 rw [Be,World.size_alloc] at s1
 obtain⟨D,k1⟩:∃ D,D=W.heap.size:=⟨_,rfl⟩
 obtain⟨l,an⟩:∃ l,l=W.heap.size + 1:=⟨_,rfl⟩
 have Bf:=run_enterLoop_outer (P:=c.P) (w:=W) fn a.tmps #[p] assign body
 rw [← ky,Be,← an,← k1] at Bf
 rw [← an,← k1] at s1
 obtain⟨lq,p9⟩:∃ lq:σ→γ→List aI,lq=fun s g=>⟨some l,.is (.loop rec)⟩ :: ⟨some D,.db⟩ :: Ls s g:=⟨_,rfl⟩
 obtain⟨mV,Bg⟩:∃ mV:ε→γ→List aI,mV=fun q g=>⟨some l,.is (.loop { rec with state:= .done,pending:=some (eV q) })⟩ :: ⟨some D,.db⟩ :: Lx q g:=⟨_,rfl⟩
 have s2:bC c E (Lin ++ lq bX g0) a g2:=s1.perm (by
  rw [p9]
  exact(List.perm_middle.trans (List.perm_middle.cons _)).symm)
 have IL:gu (aK (Lin ++ lq bX g0) ++ c.bL) g2 mN hK:=by
  have J:(I.gy f mN).holds (aK (Lin ++ lq bX g0) ++ c.bL) g2 v:=by
   obtain⟨rh,J,aa⟩:=s2.env gt _ bg
   rw [Bd] at J
   cases J
   exact aa
  obtain⟨IM,az,aX⟩:=J
  rw [wF] at az
  have:IM=hK:=by injection az with _ _ az; injection az with az; exact az.symm
  rw [← this]; exact aX
 have Bh:bC c E ((Lin ++ lq bX g0) ++ []) a g2:=by rw [List.append_nil]; exact s2
 have z8:=Bh.D9
 simp only [aK,List.nil_append] at z8
 have H7:wE c.P (.func (.yield l) #[] #[]) τ lq mV step (fun c1 W'=>Ext (aK (Lin ++ lq bX g0) ++ c.bL) g2 c1 W'):=by
  refine⟨l,rfl,fun x s jr hs g A n8 v2 gX hle a3=> ?_⟩
  have AG:=hle
  rw [p9] at AG
  obtain⟨o,c7,eS⟩:=AG.ok ⟨some l,.is (.loop rec)⟩ (by simp)
  have pS:o= .loop rec:=eS
  subst pS
  have a4:=run_yield (P:=c.P) (args:= #[v2]) c7 (by rw [ky]; rfl)
  refine⟨_,_,_,_,a4,roundIn_of_wpIn trivial ?_⟩
  have az:rec.assign=assign:=by rw [ky]
  have aX:rec.body=body:=by rw [ky]
  have dS:rec.params= #[p]:=by rw [ky]
  have gP:rec.tmps=a.tmps:=by rw [ky]
  rw [az,aX,dS,gP]
  refine CG (n:=9) rfl ?_
  have HD:((#[p]:Array Tmp).zip #[v2]).foldl (fun tmps (t,a)=>tmps.setIfInBounds t a) a.tmps=a.tmps.setIfInBounds p v2:=by simp
  rw [HD]
  subst p9 Bg
  refine wpIn_mono ((pb x s jr hs g n8 (aK (⟨some l,.is (.loop rec)⟩ :: ⟨some D,.db⟩ :: Ls s g)) A l D rec (by rw [ky])) { tmps:=a.tmps.setIfInBounds p v2,defers:= [] } n8 ?_) ?_
  ·have ig:p < c.n:=by simpa using hp
   exact
   {defers:=rfl
    size:=by simp [s2.size]
    env:=fun t mS eT=>by
     simp only [look] at eT
     by_cases e:Nat.beq p t=true
     ·rw [e] at eT
      simp only [cond_true,Option.some.injEq] at eT
      subst eT
      have:=ec.1 e
      subst this
      exact⟨v2,by simp [s2.size,ig],a3⟩
     ·simp only [Bool.not_eq_true] at e
      rw [e] at eT
      simp only [cond_false] at eT
      obtain⟨u,J,aa⟩:=s2.env t mS eT
      have cN:p≠t:=fun h=>by rw [ec.2 h] at e; cases e
      exact⟨u,by rw [Array.getElem?_setIfInBounds_ne cN]; exact J,mS.mono gX aa⟩
    dw:= .refl _ _
    own:=hle.ok
    nodup:=hle.nodup
    lt:=hle.lt
    fK:=fun k ar _=>ar
    ew:=hle.ew }
  ·intro e eM aah hq
   cases e with
   | normal=>
     obtain⟨JA,IN,hb⟩:=hq
     refine⟨JA,IN,CG (n:=9) rfl (wpIn_mono hb ?_)⟩
     intro e lu BJ Ey
     have fin:∀ (jump:Option Code) {Lr:List aI},bC ⟨c.P,c.n,n8,aK (⟨some l,.is (.loop rec)⟩ :: ⟨some D,.db⟩ :: Ls s g),A,some l,[]⟩ [] (⟨some l,.is (.loop { rec with state:= .busy })⟩ :: ⟨some D,.db⟩ :: Lr) lu BJ→
      ∃ oU,(Instr.endRound l jump).run c.P BJ= .ok (.bool jump.isNone) oU∧bC ⟨c.P,c.n,n8,aK (⟨some l,.is (.loop rec)⟩ :: ⟨some D,.db⟩ :: Ls s g),A,some l,[]⟩ [] (⟨some l,.is (.loop { rec with state:=if jump.isNone then .ready else .done,pending:=jump })⟩ :: ⟨some D,.db⟩ :: Lr) lu oU:=fun jump Lr oV=>by
      obtain⟨o,J,aa⟩:=oV.own ⟨some l,.is (.loop { rec with state:= .busy })⟩ (by simp)
      have ji:o= .loop { rec with state:= .busy } :=aa
      subst ji
      exact⟨_,run_endRound jump J,oV.qW (i:=0) rfl rfl⟩
     cases jr with
     | inl bR=>
       obtain⟨rfl,de,oV⟩:=Ey
       obtain⟨oU,aY,sS⟩:=fin none oV
       refine⟨_,oU,aY,?_⟩
       have IP:({ rec with state:=if (none:Option Code).isNone then .ready else .done,pending:=none } :Loop)=rec:=by rw [ky]; rfl
       rw [IP] at sS
       exact sS.ends (ρ:=fun _:γ=>I.of true) (Lo:=fun g=>⟨some l,.is (.loop rec)⟩ :: ⟨some D,.db⟩ :: Ls bR g) de (List.Sublist.refl _) (of_bool.2 rfl)
     | inr q=>
       obtain⟨aB,rfl,de,oV⟩:=Ey
       obtain⟨oU,aY,sS⟩:=fin (some (eV q)) oV
       have key:j6 (aK (⟨some l,.is (.loop rec)⟩ :: ⟨some D,.db⟩ :: Ls s g)) A n8 (fun _:γ=>I.of false) (fun g=>⟨some l,.is (.loop { rec with state:= .done,pending:=some (eV q) })⟩ :: ⟨some D,.db⟩ :: Lx q g) (.returned (.bool false)) oU:=
        sS.ends (ρ:=fun _:γ=>I.of false) (Lo:=fun g=>⟨some l,.is (.loop { rec with state:= .done,pending:=some (eV q) })⟩ :: ⟨some D,.db⟩ :: Lx q g) de (List.Sublist.refl _) (of_bool.2 rfl)
       exact Kk aB aY key
   | exit id=>exact hq.elim
   | goto t=>exact hq.elim
   | ret=>exact hq.elim
   | panic Jo=>exact hq.elim
   | outgrown=>exact hq.elim
 have Bi:IK c.P f mN Lin τ run lq mV:=by rw [p9]; exact kk _ _ mV
 have z9:=Bi step bX g0 r aD c.bL g2 (.func (.yield l) #[] #[]) hK z8 IL H7
 have mg:a.eval (.tmp gt)= .func (.func f) #[] hK.toArray:=by simp [Act.eval,Bd,wF]
 refine⟨l,[D2 D],g2,{ target:= .fn (.func f) hK.toArray,args:= #[.func (.yield l) #[] #[]] },g2,f,#[.func (.yield l) #[] #[]] ++ hK.toArray,g2,Bf,?_,fun _ _=>trivial,?_,fun h=>by simp at h,?_⟩
 ·simp only [resolve,mg]
  simp [go_sem]
 ·simp [invoke,go_sem,er.run]
 ·refine CallsIn.Gw ?_
  have HE:(#[.func (.yield l) #[] #[]] ++ hK.toArray:Array Value)=(.func (.yield l) #[] #[] :: hK).toArray:=by simp
  rw [HE]
  refine z9.mono fun e JB ⟨aai,de,he,aV,av,aO,aS,aY⟩=> ?_
  subst he
  have oW:=Bh.after aV av (by simpa [aK] using aO) (by simpa [aK] using aS)
  rw [List.append_nil] at oW
  cases r with
  | inl bR=>
    simp only [Lr] at oW
    subst p9
    have BK:bC c E (⟨some l,.is (.loop rec)⟩ :: ⟨some D,.db⟩ :: (Lin ++ Ls bR de)) a JB:=oW.perm (by
     exact List.perm_middle.trans (List.perm_middle.cons _))
    obtain⟨o,c7,eS⟩:=BK.own ⟨some l,.is (.loop rec)⟩ (by simp)
    have pS:o= .loop rec:=eS
    subst pS
    have nY:=run_endLoop (P:=c.P) c7 (by rw [ky]; simp)
    have ig:rec.pending=none:=by rw [ky]
    rw [ig] at nY
    refine⟨none,_,nY,?_⟩
    have sT:=(BK.qW (i:=0) (cp':= .is (.loop { rec with state:= .exhausted })) (o':= .loop { rec with state:= .exhausted }) rfl rfl).oy 1
    rw [ig] at sT
    exact mI bR rfl de D _ _ (sT.mark D)
  | inr q=>
    simp only [Lr] at oW
    subst Bg
    have BK:bC c E (⟨some l,.is (.loop { rec with state:= .done,pending:=some (eV q) })⟩ :: ⟨some D,.db⟩ :: (Lin ++ Lx q de)) a JB:=oW.perm (by
     exact List.perm_middle.trans (List.perm_middle.cons _))
    obtain⟨o,c7,eS⟩:=BK.own ⟨some l,.is (.loop { rec with state:= .done,pending:=some (eV q) })⟩ (by simp)
    have pS:o= .loop { rec with state:= .done,pending:=some (eV q) } :=eS
    subst pS
    have nY:=run_endLoop (P:=c.P) c7 (by simp)
    refine⟨some (eV q),_,nY,?_⟩
    have sT:=(BK.qW (i:=0) (cp':= .is (.loop { rec with state:= .exhausted,pending:=some (eV q) })) (o':= .loop { rec with state:= .exhausted,pending:=some (eV q) }) rfl rfl).oy 1
    exact vF q rfl de D _ _ (sT.mark D)
theorem SN {gt p:Nat} {assign body:Code} {f:FuncId} {mN:List I} {Lin:List aI} {α σ ε γ:Type} {τ:α→I} {run:∀ {σ ε:Type},(α→σ→Option (σ ⊕ ε))→σ→Option (σ ⊕ ε)}
 {Ls:σ→γ→List aI} {Lx:ε→γ→List aI} {step:α→σ→Option (σ ⊕ ε)} {bX:σ} {g0:γ} {r:σ ⊕ ε} (eV:ε→Code)
 (ag:c.rd=none) (er:bV c.P f) (bg:look E gt=some (.gy f mN)) (kk:zK c.P f mN Lin τ run) (aD:run step bX=some r) (aq:L=Lin ++ Ls bX g0) (hp:Nat.blt p c.n=true)
 (pb:∀ x s r,step x s=some r→ ∀ g (kV:World) (kZ kW:List Nat) (l D:Nat) (rec:Loop),rec.state= .ready→
  ak ⟨c.P,c.n,kV,kZ,kW,some l,[]⟩ (Exit.then (BI ⟨c.P,c.n,kV,kZ,kW,some l,[]⟩ l body (BH ⟨c.P,c.n,kV,kZ,kW,some l,[]⟩ eV l D { rec with state:= .busy } Ls Lx r)) (fun _ _ _=>False)) assign ((p,τ x) :: E) (⟨some l,.is (.loop rec)⟩ :: ⟨some D,.db⟩ :: Ls s g))
 (mI:∀ bR,r= .inl bR→ ∀ g D,aj { c with ds:=D :: c.ds } Q .normal E (⟨some D,.db⟩ :: (Lin ++ Ls bR g)))
 (vF:∀ q,r= .inr q→ ∀ g D,ak { c with ds:=D :: c.ds } Q (eV q) E (⟨some D,.db⟩ :: (Lin ++ Lx q g))):
 ak c Q (.rangeFunc (.tmp gt) #[p] assign body) E L:=
 Lc (run:=run) eV ag er bg (fun az aX mV=>kk.go (fun s g=>az :: aX :: Ls s g) mV) aD aq hp pb mI vF
theorem Rm {P:Program} {fn:Func} {R:Ending→World→Prop} {a:Act} {W:World} (h:bodyPost P fn R .ret a W):bodyPostM Fence.wide 9 P fn R .ret a W:=by
 obtain⟨J,v,aa,av⟩:=h
 show LeavesInM Fence.wide 9 P fn a.tmps R a.defers .returning W
 rw [J]
 exact⟨v,aa,av⟩
theorem aj.oz {P:Program} {fn:Func} {R:Ending→World→Prop} (k:aj c (bodyPost P fn R) .ret E L):aj c (bodyPost P fn R) .normal E L:=fun a W s=>k a W s
theorem aj.At {fn:Func} {R:Ending→World→Prop} (k:aj c (bodyPost c.P fn R) .ret E L):aj c (bodyPostM Fence.wide 9 c.P fn R) .ret E L:=fun a W s=>Rm (k a W s)
theorem aj.tW {fn:Func} {R:Ending→World→Prop} {D:Nat} (i:Nat) (aq:L[i]? =some ⟨some D,.db⟩) (hx:c.ds= [D]) (k:aj { c with ds:= [] } (bodyPost c.P fn R) .ret E (L.set i ⟨some D,.is (.deferred none)⟩)):
 aj c (bodyPostM Fence.wide 9 c.P fn R) .ret E L:=fun a W s=>by
 obtain⟨o,J,aa⟩:=s.own _ (List.mem_of_getElem? aq)
 have ji:o= .deferred (some []):=aa
 subst ji
 have s2:=s.qW aq (cp':= .is (.deferred none)) (o':= .deferred none) rfl
 have k0:bC { c with ds:= [] } E (L.set i ⟨some D,.is (.deferred none)⟩) { a with defers:= [] } (W.putObj D (.deferred none)):=
  {defers:=rfl,size:=s2.size,env:=s2.env,dw:=s2.dw,own:=s2.own,nodup:=s2.nodup,lt:=s2.lt,fK:=s2.fK,ew:=s2.ew }
 obtain⟨_,v,av,aO⟩:=k _ _ k0
 show LeavesInM Fence.wide 9 c.P fn a.tmps R a.defers .returning W
 rw [s.defers,hx]
 exact⟨by simp,.inl ⟨D,_,rfl,run_takeDeferred J,v,av,aO⟩⟩
end
theorem cl.UF {P:Program} {f:FuncId} {fn:Func} {code:Code} {n:Nat} {τs:List I} {ρ:I} (aV:P.funcs[f]? =some fn) (hb:fn.body=some code) (aF:fn.ntmps=n) (hlen:Nat.ble τs.length n=true)
 (h:∀ W A,ak ⟨P,n,W,[],A,none,[]⟩ (bodyPostM Fence.wide 9 P fn fun e W'=> ∃ v,e= .returned v∧Fr [] W W'∧ρ.holds A W' v) code (params 0 τs) []):cl P f τs ρ:=by
 intro A W vs gK a3
 refine(callsIn_wide (n:=9)).1 (callsIn_of_wp_marks aV hb trivial (h W A _ _ ?_))
 have an:=a3.length
 have hle:τs.length≤n:=Nat.le_of_ble_eq_true hlen
 exact
 {defers:=rfl
  size:=by simp [aF,an]; omega
  env:=fun t τ kX=>by
   obtain⟨_,v,aa,av⟩:=uW a3 0 t τ kX
   refine⟨v,?_,av⟩
   have bY:t < vs.length:=(List.getElem?_eq_some_iff.1 aa).1
   rw [Array.getElem?_append_left (by simpa using bY)]
   simpa using aa
  dw:= .refl _ _
  own:=by simp
  nodup:=by simp [aK]
  lt:=by simp [aK]
  fK:=by simp [aK]
  ew:=fun k ar=>⟨gK k ar,by simp [aK]⟩ }
theorem cl.ofM {P:Program} {f:FuncId} {fn:Func} {code:Code} {n:Nat} {τs:List I} {ρ:I} (aV:P.funcs[f]? =some fn) (hb:fn.body=some code) (aF:fn.ntmps=n) (hlen:Nat.ble τs.length n=true)
 (h:∀ W A,ak ⟨P,n,W,[],A,none,[]⟩ (bodyPostM Fence.wide 9 P fn (vX ⟨P,n,W,[],A,none,[]⟩ ρ)) code (params 0 τs) []):cl P f τs ρ:=cl.UF aV hb aF hlen h
theorem bN.ofM {P:Program} {f:FuncId} {fn:Func} {code:Code} {n:Nat} {τs:List I} {Lin:List aI} {δ:Type} {ρ:δ→I} {Lo:δ→List aI} (aV:P.funcs[f]? =some fn) (hb:fn.body=some code) (aF:fn.ntmps=n) (hlen:Nat.ble τs.length n=true)
 (h:∀ W A,ak ⟨P,n,W,aK Lin,A,none,[]⟩ (bodyPostM Fence.wide 9 P fn (j6 (aK Lin) A W ρ Lo)) code (params 0 τs) Lin):bN P f τs Lin ρ Lo:=by
 intro A W vs gK gk bY ie a3
 refine(callsIn_wide (n:=9)).1 (callsIn_of_wp_marks aV hb trivial (h W A _ _ ?_))
 have an:=a3.length
 have hle:τs.length≤n:=Nat.le_of_ble_eq_true hlen
 exact
 {defers:=rfl
  size:=by simp [aF,an]; omega
  env:=fun t τ kX=>by
   obtain⟨_,v,aa,av⟩:=uW a3 0 t τ kX
   refine⟨v,?_,av⟩
   have bY:t < vs.length:=(List.getElem?_eq_some_iff.1 aa).1
   rw [Array.getElem?_append_left (by simpa using bY)]
   simpa using aa
  dw:= .refl _ _
  own:=ie
  nodup:=gk
  lt:=bY
  fK:=fun k ar _=>ar
  ew:=gK }
theorem FT {τ σ:I} (h:τ.Flat) (k:σ.Flat):(I.eA [τ,σ]).Flat:=fun A W c1 W' v ⟨vs,J,aa⟩=>by
 refine⟨vs,J,?_⟩
 generalize vs.toList=l at aa
 cases aa with
 | cons a r=>cases r with
   | cons b r=>cases r; exact .cons (h _ _ _ _ _ a) (.cons (k _ _ _ _ _ b) .nil)
section
variable {c:cY} {E:List (Nat × I)} {L:List aI} {ops:Array Oper} {Q:Exit→Act→World→Prop}
variable {d:Option Tmp} {ty:TypeId} {pos:String} {af:Array Edge} {g:Option (Nat × Bool)} {x y:Operand} {t t2:TypeId}
theorem bO.via {o:Oper} {τ:I} {E':List (Nat × I)} {L':List aI} (aV:τ.Flat) (hs:∀ a W,bC c E L a W→bC c E' L' a W) (h:bO c E' L' o τ):bO c E L o τ:=fun a W st=>by
 have:=h a W (hs a W st)
 unfold gx at this ⊢
 exact Oper.wp_mono (fun gn W' ⟨v,J,aa,av⟩=>⟨v,J,aa,aV _ _ _ _ _ av⟩) this
theorem bC.tell {a:Act} {W:World} (s:bC c E L a W) {ff:Nat} {σ τ:I} (an:look E ff=some σ) (h:∀ v,σ.holds (aK L ++ c.bL) W v→τ.holds (aK L ++ c.bL) W v):bC c ((ff,τ) :: E) L a W:=by
 refine { s with env:=fun t mS eT=> ?_ }
 simp only [look] at eT
 by_cases e:Nat.beq ff t=true
 ·rw [e] at eT
  simp only [cond_true,Option.some.injEq] at eT
  subst eT
  have:=ec.1 e
  subst this
  obtain⟨v,J,aa⟩:=s.env ff _ an
  exact⟨v,J,h v aa⟩
 ·simp only [Bool.not_eq_true] at e
  rw [e] at eT
  exact s.env t mS eT
theorem bC.NR {a:Act} {W:World} (s:bC c E L a W) {i p:Nat} {α:Type} [ae α] {z:α} (aq:L[i]? =some ⟨some p,.var z⟩):
 (I.ptr z).holds (aK (L.set i ⟨none,.dead⟩) ++ c.bL) W (.pointer (some ⟨p,0,none⟩)):=by
 obtain⟨o,eD,cs,T,rfl,aD⟩:=s.own _ (List.mem_of_getElem? aq)
 have hlen:cs.toList.length=ae.size α:=ae.len aD
 refine⟨p,0,cs,T,(0,0),rfl,s.zq aq,eD,by simp at hlen; omega,?_⟩
 rw [List.drop_zero,← hlen,List.take_length]
 have kR:=xg (L:=L) (i:=i) (cp:= .dead)
 exact ae.mono (.drop fun k hm=>by
  rcases List.mem_append.1 hm with hm | hm
  ·exact List.mem_append.2 (.inl (kR.subset hm))
  ·exact List.mem_append.2 (.inr hm)) aD
abbrev Bj (f p:Nat):Value:= .func (.func f) #[.pointer (some ⟨p,0,none⟩)] #[]
theorem Wi {f p:Nat} (ai:a8 c E L x (.eq (.pointer (some ⟨p,0,none⟩)))):bO c E L ⟨d,.makeFunc (.func f) #[x] #[],ty,pos,af,g⟩ (.eq (Bj f p)):= .pure fun a W s=>by
 have h:=ai a W s
 refine⟨_,?_,rfl⟩
 have cS:a.eval x= .pointer (some ⟨p,0,none⟩):=h
 simp [execOp,Instr.makeFunc,cS,Bj]
theorem TG {f p:Nat} {α β γ δ:Type} [ae α] [ae β] [ae γ] [ae δ] {z:δ} {F:α→β→Option γ} {P:Program} (er:bV P f) (h:∀ x y r,F x y=some r→cl P f [.ptr z,.of x,.of y] (.of r)) {A:List Nat} {W:World}
 (hp:(I.ptr z).holds A W (.pointer (some ⟨p,0,none⟩))):(I.Ek P F).holds A W (Bj f p):=
 ⟨f,_,#[],rfl,er,fun c1 W' e gK x y r qi ET oT a3 wF=>by simpa using h x y r oT c1 W' [_,qi,ET] gK (.cons (I.mono _ e hp) (.cons a3 (.cons wF .nil)))⟩
theorem bO.Wh {o:Oper} {τ σ:I} {p:Nat} {α:Type} [ae α] {z:α} (i ff:Nat) (an:look E ff=some σ) (a3:∀ A W v,σ.holds A W v→v= .pointer (some ⟨p,0,none⟩)) (aq:L[i]? =some ⟨some p,.var z⟩) (aV:τ.Flat)
 (h:bO c ((ff,.ptr z) :: E) (L.set i ⟨none,.dead⟩) o τ):bO c E L o τ:=
 .via aV (fun a W s=>(s.kill i).tell (σ:=σ) an (fun v bS=>by rw [a3 _ _ _ bS]; exact s.NR aq)) h
theorem bO.Us {o:Oper} {τ:I} {p f:Nat} {α β γ δ:Type} [ae α] [ae β] [ae γ] [ae δ] {z:δ} {F:α→β→Option γ} (i ff:Nat) (an:look E ff=some (.eq (Bj f p))) (aq:L[i]? =some ⟨some p,.var z⟩) (er:bV c.P f)
 (oT:∀ x y r,F x y=some r→cl c.P f [.ptr z,.of x,.of y] (.of r)) (aV:τ.Flat) (h:bO c ((ff,.Ek c.P F) :: E) (L.set i ⟨none,.dead⟩) o τ):bO c E L o τ:=
 .via aV (fun a W s=>(s.kill i).tell an (fun v bS=>by have Zu:v=Bj f p:=bS; rw [Zu]; exact TG er oT (s.NR aq))) h
theorem bO.Wg {o:Oper} {τ:I} {p cap T:Nat} {key:Option Nat} {β γ:Type} [ae β] [ae γ] {b b':β} {xs:List γ} {os os':List (Nat × Value)} (l:aP β (List γ)) (i j q:Nat) (fo:Nat.beq i j=false) (aq:L[i]? =some ⟨some p,.bZ b os⟩) (k2:L[j]? =some ⟨key,.row T xs cap⟩)
 (hq:os[q]? =some (l.off,bf key xs.length cap)) (hb:l.set b xs=b') (kE:nK os l.off=os') (aV:τ.Flat) (h:bO c E ((L.set j ⟨none,.dead⟩).set i ⟨some p,.bZ b' os'⟩) o τ):bO c E L o τ:=
 .via aV (fun a W s=>s.l6 l (fun e=>by rw [e,Nat.beq_refl] at fo; cases fo) aq k2 q hq hb kE) h
theorem bO.Ur {o:Oper} {τ:I} {p cap T:Nat} {key:Option Nat} {β γ:Type} [ae β] [ae γ] {b b':β} {xs:List γ} {os os':List (Nat × Value)} (l:aP β (List γ)) (i j q ff:Nat) (fo:Nat.beq i j=false) (aq:L[i]? =some ⟨some p,.bZ b os⟩) (k2:L[j]? =some ⟨key,.row T xs cap⟩)
 (hq:os[q]? =some (l.off,bf key xs.length cap)) (hb:l.set b xs=b') (kE:nK os l.off=os') (me:look E ff=some (.eq (bf key xs.length cap))) (aV:τ.Flat) (h:bO c ((ff,.of xs) :: E) ((L.set j ⟨none,.dead⟩).set i ⟨some p,.bZ b' os'⟩) o τ):bO c E L o τ:=
 .via aV (fun a W s=>s.tM l (fun e=>by rw [e,Nat.beq_refl] at fo; cases fo) aq k2 q hq hb kE me) h
theorem bO.Ns {o:Oper} {τ:I} {p:Nat} {β:Type} [ae β] {b:β} (i:Nat) (aq:L[i]? =some ⟨some p,.bZ b []⟩) (aV:τ.Flat) (h:bO c E (L.set i ⟨some p,.var b⟩) o τ):bO c E L o τ:=
 .via aV (fun a W s=>s.vk (cp':= .var b) aq (fun o ⟨cs,T,J,aa⟩=>⟨cs,T,J,aa.1⟩) id) h
theorem KN {P:Program} {T:TypeId} {e:TypeId} (h:P.underlying T=some (.pointer e)) (p:Addr) (W:World) (n:Nat):(Op.equalIn (n + 1) T (.pointer (some p)) (.pointer none)).run P W= .ok false W:=by
 simp [Op.equalIn,run_underlying h]
theorem Ds {p:Addr} {e:TypeId} (hu:c.P.underlying t=some (.pointer e)) (ai:a8 c E L x (.eq (.pointer (some p)))):bO c E L ⟨d,.binOp .eql t x (.const (.pointer none)) t2,ty,pos,af,g⟩ (.of false):= .pure fun a W s=>by
 have aF:a.eval (.const (.pointer none))= .pointer none:=rfl
 have J:a.eval x= .pointer (some p):=ai a W s
 refine⟨.bool false,?_,of_bool.2 rfl⟩
 simp only [execOp,eqGuard,binOp,J,aF,Op.equal,Op.maxDepth]
 simp [KN hu p W 9999]
theorem Tp {γ:Type} [ae γ] {r:γ} {e:TypeId} (hu:c.P.underlying t=some (.pointer e)) (ai:a8 c E L x (.ptr r)):bO c E L ⟨d,.binOp .eql t x (.const (.pointer none)) t2,ty,pos,af,g⟩ (.of false):= .pure fun a W s=>by
 have aF:a.eval (.const (.pointer none))= .pointer none:=rfl
 obtain⟨b,off,cur,T,gQ,J,_⟩:=ai a W s
 refine⟨.bool false,?_,of_bool.2 rfl⟩
 simp only [execOp,eqGuard,binOp,J,aF,Op.equal,Op.maxDepth]
 simp [KN hu _ W 9999]
theorem ak.b2 {code:Code} (i:Nat) {e:aI} (h:L[i]? =Option.some e) (k:ak c Q code E (e :: L.eraseIdx i)):ak c Q code E L:=fun a W s=>k a W (s.b2 h)
theorem ak.Eh {z:Code} {p:Nat} {β γ:Type} [ae β] [ae γ] {b b':β} {os:List (Nat × Value)} {u:Value} (l:aP β (List γ)) (i q:Nat) (aq:L[i]? =Option.some ⟨Option.some p,.bZ b os⟩) (hq:os[q]? =Option.some (l.off,u)) (hb:l.set b []=b')
 (k:ak c Q z E (L.set i ⟨Option.some p,.bZ b' os⟩)):ak c Q z E L:=fun a W s=>
 k a W (s.again (cp':= .bZ b' os) aq (fun A W o ⟨cs,T,J,aa⟩=>⟨cs,T,J,hb ▸ F9 l aa (List.mem_of_getElem? hq)⟩) id)
theorem Ti {p:Option Addr} :∀ A W v,(I.eq (.pointer p)).holds A W v→v.oneCell'=true:=fun A W v h=>by
 have cS:v= .pointer p:=h
 rw [cS]; rfl
def fr (c:cY) (E:List (Nat × I)) (L:List aI) (o:Oper) (τ:I):Prop:=
 ∀ a W,bC c E L a W→gx c.P o a W fun v W'=>bC c E L a W'∧τ.holds (aK L ++ c.bL) W' v
theorem ah.iK {o:Oper} {rest:List Oper} {d:Nat} {τ:I} (h:fr c E L o τ) (bg:o.guard=none) (hd:o.dst=some d) (aF:Nat.blt d c.n=true)
 (k:ah c ops Q rest ((d,τ) :: E) L):ah c ops Q (o :: rest) E L:=fun a W s=>
 hO bg (h a W s) fun v W' ⟨f,a3⟩=>by
  rw [hd]
  exact k _ _ (f.put (by simpa using aF) a3)
theorem ah.yn {o:Oper} {rest:List Oper} {d j g:Nat} {b want:Bool} {τ:I} (h:b=want→fr c E L o τ) (bg:o.guard=some (j,want)) (aB:(ops[j]?).bind (·.dst)=some g)
 (an:look E g=some (.of b)) (hd:o.dst=some d) (aF:Nat.blt d c.n=true)
 (k:ah c ops Q rest ((d,.cond (b=want) τ) :: E) L):ah c ops Q (o :: rest) E L:=fun a W s=>by
 have a4:=xm aB an s
 unfold cY.pn wpListIn
 by_cases hb:b=want
 ·rw [if_pos (by simp [Region.wanted,bg,a4,hb])]
  refine((h hb a W s).wpIn fun v W' ⟨f,a3⟩=> ?_)
  rw [hd]
  exact k _ _ (f.put (by simpa using aF) ⟨fun _=>a3,fun h=>absurd hb h⟩)
 ·rw [if_neg (by simp [Region.wanted,bg,a4,hb])]
  rw [hd]
  exact⟨fun _ _=>trivial,k _ _ (s.put (by simpa using aF) ⟨fun h=>absurd h hb,fun _=>rfl⟩)⟩
def pg (L:List aI):List Nat→List aI→Prop
 | [],[]=>True
 | i :: is,e :: es=>L[i]? =some e∧pg L is es
 | _,_=>False
theorem Kv {L:List aI} {i j:Nat} (h:i≠j):(L.eraseIdx i)[if j < i then j else j - 1]? =L[j]? :=by
 rw [List.getElem?_eraseIdx]
 by_cases J:j < i
 ·simp [J]
 ·have: ¬ (j - 1 < i):=by omega
  simp only [J,if_false,this]
  congr 1; omega
theorem pg.shift {L:List aI} {i:Nat} :∀ {is:List Nat} {es:List aI},pg L is es→i ∉ is→pg (L.eraseIdx i) (is.map fun j=>if j < i then j else j - 1) es
 | [],[],_,_=>trivial
 | j :: is,e :: es,⟨J,aa⟩,aF=>by
   simp only [List.mem_cons,not_or] at aF
   exact⟨by rw [Kv aF.1]; exact J,pg.shift aa aF.2⟩
theorem KA {i:Nat} :∀ {is:List Nat},is.Nodup→i ∉ is→ (is.map fun j=>if j < i then j else j - 1).Nodup
 | [],_,_=>by simp
 | j :: is,h,aF=>by
   simp only [List.mem_cons,not_or] at aF
   obtain⟨J,aa⟩:=List.nodup_cons.1 h
   refine List.nodup_cons.2 ⟨fun hm=> ?_,KA aa aF.2⟩
   obtain⟨k,ar,he⟩:=List.mem_map.1 hm
   have jC:k≠i:=fun e=>aF.2 (e ▸ ar)
   have aaW:k≠j:=fun e=>J (e ▸ ar)
   have eX:j≠i:=fun e=>aF.1 e.symm
   have Et:(if k < i then k else k - 1)=(if j < i then j else j - 1):=he
   split at Et <;> split at Et <;> omega
theorem pg.perm:∀ {is:List Nat} {es L:List aI},pg L is es→is.Nodup→ ∃ R,L.Perm (es ++ R)
 | [],[],L,_,_=>⟨L,List.Perm.refl _⟩
 | i :: is,e :: es,L,⟨J,aa⟩,aF=>by
   obtain⟨nq,oN⟩:=List.nodup_cons.1 aF
   obtain⟨R,jq⟩:=(aa.shift nq).perm (KA oN nq)
   exact⟨R,(tn J).trans (jq.cons e)⟩
 termination_by is=>is.length
 decreasing_by simp
theorem fr.call {f:FuncId} {xs:List Operand} {ats:Array TypeId} {τs:List I} {Lin:List aI} {ρ:Unit→I} {Lo:Unit→List aI} (is:List Nat) (er:bV c.P f) (h:bN c.P f τs Lin ρ Lo)
 (ai:ht c E L xs τs) (aF:decide is.Nodup=true) (hp:pg L is Lin) (an:Lo ()=Lin):fr c E L ⟨d,.call ⟨.value (.func f),xs.toArray,ats⟩,ty,pos,af,g⟩ (ρ ()):=fun a W s=>by
 obtain⟨R,jq⟩:=hp.perm (of_decide_eq_true aF)
 have bR:=s.perm jq
 have IQ:=ve jq
 have Ez:∀ k,k∈aK L ++ c.bL↔k∈aK (Lin ++ R) ++ c.bL:=fun k=>by
  simp only [List.mem_append]; rw [IQ.mem_iff]
 have bS:gu (aK (Lin ++ R) ++ c.bL) W τs (xs.map a.eval):=(ai.MF s).mono (.drop fun k hm=>(Ez k).2 hm)
 have a6:=zg (d:=d) (ty:=ty) (pos:=pos) (af:=af) (g:=g) (ats:=ats) er h bR bS
 unfold gx at a6 ⊢
 refine Oper.wp_mono (fun gn W' ⟨v,J,a7,aa,av⟩=>⟨v,J,?_,?_⟩) a6
 ·cases a7; rw [an] at aa; exact aa.perm jq.symm
 ·cases a7
  rw [an] at av
  exact I.mono _ (.drop fun k hm=>(Ez k).1 hm) av
theorem pg.set {L:List aI} {i j:Nat} {x y az aX:aI} (fo:i≠j) (ao:L[i]? =some az) (aB:L[j]? =some aX):∃ R,L.Perm (az :: aX :: R)∧ ((L.set i x).set j y).Perm (x :: y :: R):=by
 have Iv:pg L [i,j] [az,aX]:=⟨ao,aB,trivial⟩
 have hle:∀ M:List aI,∀ u v:aI,M[i]? =some u→M[j]? =some v→M.Perm (u :: v :: (M.eraseIdx i).eraseIdx (if j < i then j else j - 1)):=fun M u v J aa=>
  (tn J).trans ((tn (by rw [Kv fo]; exact aa)).cons u)
 refine⟨_,hle L az aX ao aB,?_⟩
 have fO:=(List.getElem?_eq_some_iff.1 ao).1
 have EA:=(List.getElem?_eq_some_iff.1 aB).1
 have J:=hle ((L.set i x).set j y) x y (by rw [List.getElem?_set_ne (Ne.symm fo),List.getElem?_set_self fO]) (by rw [List.getElem?_set_self (by simpa using EA)])
 have aa:((L.set i x).set j y).eraseIdx i=(L.eraseIdx i).set (if j < i then j else j - 1) y:=by
  apply List.ext_getElem?
  intro k
  simp only [List.getElem?_eraseIdx,List.getElem?_set,List.length_set,List.length_eraseIdx,fO,if_true]
  by_cases ar:k < i <;> by_cases eX:j < i <;> simp only [ar,eX,if_true,if_false] <;> (repeat' split) <;> first | rfl | omega | skip
 rw [aa,List.eraseIdx_set_eq] at J
 exact J
theorem ah.Ut {rest:List Oper} {a7:Nat} {f:FuncId} {xs:List Operand} {ats:Array TypeId} {τs:List I} {az aX:aI} {δ:Type} {ρ:δ→I} {Lo:δ→List aI} (lo:δ→aI) (i j:Nat) (er:bV c.P f) (h:bN c.P f τs [az,aX] ρ Lo)
 (ai:ht c E L xs τs) (fo:Nat.beq i j=false) (ao:L[i]? =some az) (aB:L[j]? =some aX) (fA:∀ q,Lo q= [lo q]) (aF:Nat.blt a7 c.n=true) (k:∀ q,ah c ops Q rest ((a7,ρ q) :: E) ((L.set i (lo q)).set j ⟨none,.dead⟩)):
 ah c ops Q (⟨some a7,.call ⟨.value (.func f),xs.toArray,ats⟩,ty,pos,af,none⟩ :: rest) E L:=fun a W s=>by
 have cN:i≠j:=fun e=>by rw [e,Nat.beq_refl] at fo; cases fo
 obtain⟨R,jq,_⟩:=pg.set (x:=az) (y:=aX) cN ao aB
 have bR:=s.perm jq
 have IQ:=ve jq
 have Ez:∀ k,k∈aK L ++ c.bL↔k∈aK ([az,aX] ++ R) ++ c.bL:=fun k=>by
  simp only [List.mem_append]; rw [IQ.mem_iff]; simp [e4]
 have bS:gu (aK ([az,aX] ++ R) ++ c.bL) W τs (xs.map a.eval):=(ai.MF s).mono (.drop fun k hm=>(Ez k).2 hm)
 refine hO rfl (zg (Lin:= [az,aX]) er h bR bS) fun v W' ⟨q,aa,av⟩=> ?_
 refine k q _ _ ?_
 obtain⟨EV,Zv,O4⟩:=pg.set (x:=lo q) (y:=⟨none,.dead⟩) cN ao aB
 have Zw:(az :: aX :: R).Perm (az :: aX :: EV):=jq.symm.trans Zv
 have OC:R.Perm EV:=(Zw.cons_inv).cons_inv
 rw [fA] at aa av
 have aO:bC c E (lo q :: ⟨none,.dead⟩ :: R) a W':= { aa with
  own:=fun e he=>by
   simp only [List.mem_cons] at he
   rcases he with rfl | rfl | he
   ·exact aa.own _ (by simp)
   ·trivial
   ·exact aa.own _ (by simp [he]) }
 have aS:bC c E ((L.set i (lo q)).set j ⟨none,.dead⟩) a W':=aO.perm (((OC.cons _).cons _).trans O4.symm)
 have aY:(aK ((L.set i (lo q)).set j ⟨none,.dead⟩)).Perm (aK (lo q :: R)):=by
  have:=ve (O4.trans ((OC.symm.cons _).cons _))
  simpa [aK] using this
 refine aS.put (by simpa using aF) (I.mono _ (.drop fun k hm=> ?_) av)
 rcases List.mem_append.1 hm with hm | hm
 ·exact List.mem_append.2 (.inl (aY.mem_iff.1 hm))
 ·exact List.mem_append.2 (.inr hm)
theorem Ip {L:List aI} {i:Nat} {x e:aI} (h:L[i]? =some x):(L.set i e)[i]? =some e:=by
 rw [List.getElem?_set_self (List.getElem?_eq_some_iff.1 h).1]
theorem OO {L:List aI} {i j:Nat} {r:Option aI} {e:aI} (aF:Nat.beq j i=false) (h:L[i]? =r):(L.set j e)[i]? =r:=by
 rw [List.getElem?_set_ne (fun e=>by rw [e,Nat.beq_refl] at aF; cases aF)]; exact h
theorem SZ {p lo cap:Nat} {α:Type} [ae α] (a4:a8 c E L y (.eq (hF (some p) lo 0 cap (ae.size α)))):Src c E L y 0 ([]:List α):=fun a W s=>by
 have J:a.eval y=_:=a4 a W s
 have ag:=run_loadCells_list (P:=c.P) W (if cap=lo then(⟨p,0,none⟩:Addr) else⟨p,lo * ae.size α,none⟩) [] (fun j v a3=>by simp at a3)
 refine⟨by rw [J]; rfl,[],?_,⟨by simp,fun i ao=>by simp at ao⟩,by simp⟩
 rw [J]
 simp only [hF,Builtin.firstCells,List.length_nil,Nat.zero_mul]
 exact ag
theorem ah.NS {rest:List Oper} {i e p a7 m N cap T:Nat} {α:Type} [ae α] {xs vs r:List α} (hu:c.P.underlying t=some (.slice e)) (eG:bs c.P e α)
 (ai:a8 c E L x (.eq (bf (some p) m cap))) (a4:Src c E L y N vs) (jn:vs.length=N) (aq:L[i]? =some ⟨some p,.row T xs cap⟩) (hm:m + N≤xs.length) (aD:xs.take m ++ vs ++ xs.drop (m + N)=r) (aF:Nat.blt a7 c.n=true)
 (k:ah c ops Q rest ((a7,.eq (bf (some p) (m + N) cap)) :: E) (L.set i ⟨some p,.row T r cap⟩)):
 ah c ops Q (⟨some a7,.call ⟨.builtin .append,#[x,y],#[t,t]⟩,ty,pos,af,none⟩ :: rest) E L:=fun a W s=>by
 subst jn
 subst aD
 have J:a.eval x=_:=ai a W s
 obtain⟨an,cells,ag,oK,yf⟩:=a4 a W s
 obtain⟨o,a6,bS⟩:=s.own _ (List.mem_of_getElem? aq)
 have Zx:=bS
 obtain⟨q8,rfl,ax,a5,bH,c9⟩:=bS
 obtain⟨cs,eS,D8,vW⟩:=F3 (lo:=m) hm Zx oK
 have p2:cs=q8:=by injection eS with h _; exact h.symm
 subst p2
 obtain⟨fU,ef,eB⟩:=eG.info
 have kf:=run_storeCells_at (P:=c.P) p (m * ae.size α) T cells 0 cs W a6 D8 yf
 simp only [Nat.add_zero] at kf
 have WL:m + vs.length≤cap:=by omega
 have jP:(execOp a.eval ⟨some a7,.call ⟨.builtin .append,#[x,y],#[t,t]⟩,ty,pos,af,none⟩).run c.P W= .ok (.value (bf (some p) (m + vs.length) cap)) (W.setRow p (cs.toList.take (m * ae.size α) ++ cells ++ cs.toList.drop (m * ae.size α + cells.length)).toArray):=by
  simp [execOp,resolve,invoke,builtin,Builtin.append_,J,bf,run_underlying hu,an,Go.sizeOf,typeInfo,ef,eB,WL,ag,jc,kf]
 refine hO rfl (R:=fun v g2=>v=bf (some p) (m + vs.length) cap∧g2=W.setRow p (cs.toList.take (m * ae.size α) ++ cells ++ cs.toList.drop (m * ae.size α + cells.length)).toArray) (.lx jP ⟨rfl,rfl⟩) fun v g2 ⟨a3,hw⟩=> ?_
 subst a3
 subst hw
 exact k _ _ ((s.store aq a6 vW).put (by simpa using aF) rfl)
theorem SK {i T cap:Nat} {key:Option Nat} {α:Type} [ae α] {xs:List α} {e:TypeId} {lo ao JC:Operand} {m n k:Nat} (hu:c.P.underlying t=some (.slice e)) (eG:bs c.P e α) (ai:a8 c E L x (.eq (bf key xs.length cap)))
 (aq:L[i]? =some ⟨key,.row T xs cap⟩) (fA:a8 c E L lo (.of (m:Int))) (df:a8 c E L ao (.of (n:Int))) (Zy:a8 c E L JC (.of (k:Int))) (h:m≤n∧n≤k∧k≤xs.length):
 bO c E L ⟨d,.slice t x (some lo) (some ao) (some JC),ty,pos,af,g⟩ .any:= .pure fun a W s=>by
 obtain⟨aa,av,aO⟩:=h
 obtain⟨fU,ef,eB⟩:=eG.info
 have J:a.eval x=_:=ai a W s
 have az:=of_int.1 (fA a W s)
 have aX:=of_int.1 (df a W s)
 have dS:=of_int.1 (Zy a W s)
 have tV:∃ aaj ny,bf key xs.length cap= .slice aaj ny cap∨ (bf key xs.length cap= .slice none 0 0∧k=0):=by
  cases key with
  | some p=>exact⟨_,_,.inl rfl⟩
  | none=>
    have a6:=s.own _ (List.mem_of_getElem? aq)
    have g7:xs= []:=a6.1
    subst g7
    exact⟨none,0,.inr ⟨rfl,by simpa using aO⟩⟩
 have Zz:xs.length≤cap∨key=none:=by
  cases key with
  | none=>exact .inr rfl
  | some p=>
    obtain⟨o,a6,cs,rfl,ax,a5,_⟩:=s.own _ (List.mem_of_getElem? aq)
    exact .inl a5
 cases key with
 | none=>
   have a6:=s.own _ (List.mem_of_getElem? aq)
   have g7:xs= []:=a6.1
   subst g7
   have IS:k=0:=by simpa using aO
   subst IS
   have q5:n=0:=by omega
   subst q5
   have fi:m=0:=by omega
   subst fi
   have hb:∀ (code:BoundsCode),(Instr.sliceBound (.int .i64 0) 0 code).run c.P W= .ok 0 W:=fun code=>o0 (n:=0) (m:=0) (Nat.le_refl _) rfl
   have ZA:a.eval lo= .int .i64 0:=az
   have ZB:a.eval ao= .int .i64 0:=aX
   have ZC:a.eval JC= .int .i64 0:=dS
   refine⟨.slice none 0 0,?_,trivial⟩
   simp [execOp,Instr.sliceAt,Instr.slice,Instr.sliceBounds,J,bf,run_underlying hu,Go.sizeOf,typeInfo,ef,ZA,ZB,ZC,hb]
 | some p=>
   have Ys:k≤cap:=by
    rcases Zz with h | h
    ·omega
    ·cases h
   refine⟨.slice (some (if k=m then⟨p,0,none⟩ else⟨p,m * ae.size α,none⟩)) (n - m) (k - m),?_,trivial⟩
   have hb:∀ (a b:Nat) (code:BoundsCode),a≤b→ (Instr.sliceBound (.int .i64 (a:Int)) b code).run c.P W= .ok a W:=fun a b code h=>o0 h rfl
   simp [execOp,Instr.sliceAt,Instr.slice,Instr.sliceBounds,J,bf,run_underlying hu,Go.sizeOf,typeInfo,ef,eB,az,aX,dS,hb k cap _ Ys,hb n k _ av,hb m n _ aa,jc]
   split <;> rfl
theorem Ue {p n cap e:Nat} (hu:c.P.underlying t=some (.slice e)) (ai:a8 c E L x (.eq (bf (some p) n cap))):bO c E L ⟨d,.call ⟨.builtin .len,#[x],#[t]⟩,ty,pos,af,g⟩ (.of (n:Int)):= .pure fun a W s=>by
 have J:a.eval x=_:=ai a W s
 refine⟨.int .i64 n,?_,of_int.2 rfl⟩
 simp [execOp,resolve,invoke,builtin,Builtin.len_,J,bf,run_underlying hu,goInt]
theorem ah.Ud {rest:List Oper} {i e p a7 m n cap T:Nat} {α:Type} [ae α] {xs:List α} (hu:c.P.underlying t=some (.slice e)) (eG:bs c.P e α)
 (ai:a8 c E L x (.eq (hF (some p) 0 (m - 0) cap (ae.size α)))) (a4:a8 c E L y (.eq (hF (some p) n (xs.length - n) cap (ae.size α)))) (aq:L[i]? =some ⟨some p,.row T xs cap⟩) (qZ:m < n) (aF:n≤xs.length) (hd:Nat.blt a7 c.n=true)
 (k:ah c ops Q rest ((a7,.eq (bf (some p) (m + (xs.length - n)) cap)) :: E) (L.set i ⟨some p,.row T (xs.take m ++ xs.drop n ++ xs.drop (m + (xs.length - n))) cap⟩)):
 ah c ops Q (⟨some a7,.call ⟨.builtin .append,#[x,y],#[t,t]⟩,ty,pos,af,none⟩ :: rest) E L:=by
 have oO:a8 c E L x (.eq (bf (some p) m cap)):=by
  rw [zk,Nat.sub_zero] at ai; exact ai
 rcases Nat.lt_or_ge n xs.length with q7 | q7
 ·have hs:=C8 (k:=xs.length - n) a4 aq (by omega) (by omega)
  rw [show(xs.drop n).take (xs.length - n)=xs.drop n by rw [List.take_of_length_le (by simp)]] at hs
  exact ah.NS hu eG oO hs (by simp) aq (by omega) rfl hd k
 ·have bA:xs.length - n=0:=by omega
  rw [bA] at a4 k
  have hs:=SZ (α:=α) a4
  rw [show([]:List α)=xs.drop n by rw [List.drop_of_length_le q7]] at hs
  exact ah.NS hu eG oO hs (by simp; omega) aq (by omega) rfl hd k
theorem aj.again {z:Exit} {key:Option Nat} {cp:dF} (cp':dF) (i:Nat) (aq:L[i]? =some ⟨key,cp⟩) (h:∀ A W o,cp.holds A W o→cp'.holds A W o) (aF:cp.mG→cp'.mG) (k:aj c Q z E (L.set i ⟨key,cp'⟩)):aj c Q z E L:=fun a W s=>
 k a W (s.again aq h aF)
end
def vV {α:Type} (xs:List α) (i j:Int):Option (List α):=if 0≤i∧i≤j∧j≤xs.length then some (xs.take i.toNat ++ xs.drop j.toNat) else none
theorem R8 {α:Type} {xs r:List α} {i j:Int} (h:vV xs i j=some r):∃ m n:Nat,i=m∧j=n∧m≤n∧n≤xs.length∧r=xs.take m ++ xs.drop n:=by
 unfold vV at h
 split at h
 ·rename_i ag
  refine⟨i.toNat,j.toNat,by omega,by omega,by omega,by omega,?_⟩
  cases h; rfl
 ·cases h
abbrev au (α:Type):=(α→Prop)→Prop
def au.of {α:Type} (o:Option α):au α:=fun Q=> ∃ r,o=some r∧Q r
def au.bind {α β:Type} (m:au α) (k:α→au β):au β:=fun Q=>m fun r=>k r Q
def au.ret {α:Type} (x:α):au α:=fun Q=>Q x
def ox {σ ε:Type} :Nat→ (σ→au (σ ⊕ ε))→σ→au ε
 | 0,_,_=>fun _=>False
 | n + 1,b,s=>fun Q=>b s fun r=>match r with
   | .inl bR=>ox n b bR Q
   | .inr e=>Q e
abbrev aH (bM:Type):=List (Nat × bM)
abbrev Ref:=Option Nat
instance aaw:ae Ref:= .scalar (fun x=>Value.pointer (x.map fun p=>⟨p,0,none⟩)) fun _=>rfl
theorem tE {A W v} {x:Ref} :(I.of x).holds A W v↔v= .pointer (x.map fun p=>⟨p,0,none⟩):=
 ⟨fun h=>od h.1 h.2,fun h=>by subst h; exact⟨rfl,rfl⟩⟩
instance:bb Ref:=⟨[.pointer none],fun _ _=>rfl⟩
def au.mk {bM:Type} (hp:aH bM) (k:bM):au (Nat × aH bM):=fun Q=> ∀ a:Nat × aH bM,a.1 ∉ hp.map (·.1)∧a.2=(a.1,k) :: hp→Q a
theorem au.ts {bM α:Type} {hp:aH bM} {c:bM} {k:Nat × aH bM→au α} {R:α→Prop} (h:au.bind (au.mk hp c) k R) (a:Nat × aH bM) (a9:a.1 ∉ hp.map (·.1)∧a.2=(a.1,c) :: hp):k a R:=h a a9
class e0 (bM:Type) where
 hH:Nat→bM→List aI
 root:∀ p k,∃ e∈hH p k,e.key=some p
def aZ {bM:Type} [e0 bM]:aH bM→List aI
 | []=> []
 | (p,k) :: r=>e0.hH p k ++ aZ r
def pat {bM:Type} :aH bM→Nat→Option bM
 | [],_=>none
 | (q,k) :: r,p=>if q=p then some k else pat r p
def ch {bM:Type} :aH bM→Nat→bM→aH bM
 | [],_,_=> []
 | (q,k) :: r,p,k'=>if q=p then(q,k') :: r else(q,k) :: ch r p k'
def cX {bM:Type} (hp:aH bM):List Nat:=hp.map (·.1)
theorem u0 {bM:Type} [e0 bM]:∀ {hp:aH bM} {p:Nat} {k:bM},pat hp p=some k→ ∃ R,(aZ hp).Perm (e0.hH p k ++ R)∧ ∀ k',(aZ (ch hp p k')).Perm (e0.hH p k' ++ R)
 | [],_,_,h=>by simp [pat] at h
 | (q,JD) :: r,p,k,h=>by
   simp only [pat] at h
   split at h
   ·rename_i e
    subst e
    simp only [Option.some.injEq] at h
    subst h
    exact⟨aZ r,.refl _,fun k'=>by simp only [ch,if_pos]; exact .refl _⟩
   ·rename_i e
    obtain⟨R,J,aa⟩:=u0 h
    refine⟨e0.hH q JD ++ R,?_,fun k'=> ?_⟩
    ·exact(J.append_left (e0.hH q JD)).trans (by rw [← List.append_assoc,← List.append_assoc]; exact List.perm_append_comm.append_right R)
    ·simp only [ch,if_neg e]
     exact((aa k').append_left (e0.hH q JD)).trans (by rw [← List.append_assoc,← List.append_assoc]; exact List.perm_append_comm.append_right R)
theorem MH {bM:Type} [e0 bM] {hp:aH bM} {p:Nat} (h:p∈cX hp):p∈aK (aZ hp):=by
 induction hp with
 | nil=>simp [cX] at h
 | cons x r bD=>
   obtain⟨q,k⟩:=x
   simp only [cX,List.map_cons,List.mem_cons] at h
   simp only [aZ,e4,List.mem_append]
   rcases h with h | h
   ·subst h
    obtain⟨e,he,ar⟩:=e0.root p k
    exact .inl (k8.2 ⟨e,he,ar⟩)
   ·exact .inr (bD h)
theorem gS {bM:Type} {hp:aH bM} {p:Nat} {k:bM} (h:pat hp p=some k):p∈cX hp:=by
 induction hp with
 | nil=>simp [pat] at h
 | cons x r bD=>
   simp only [pat] at h
   split at h
   ·rename_i e; simp [cX,e]
   ·simp only [cX,List.map_cons,List.mem_cons]; exact .inr (bD h)
theorem o5 {bM:Type} {hp:aH bM} {p:Nat} {k:bM} :cX (ch hp p k)=cX hp:=by
 induction hp with
 | nil=>rfl
 | cons x r bD=>simp only [ch]; split <;> simp_all [cX]
theorem vf {bM:Type} {hp:aH bM} {p q:Nat} {k:bM} :pat (ch hp p k) q=if p=q then(pat hp p).map (fun _=>k) else pat hp q:=by
 induction hp with
 | nil=>simp [ch,pat]
 | cons x r bD=>
   simp only [ch]
   by_cases e:x.1=p
   ·rw [if_pos e]
    by_cases h:p=q
    ·simp [pat,e,h]
    ·have: ¬ x.1=q:=fun cS=>h (e ▸ cS)
     simp [pat,e,h]
   ·rw [if_neg e]
    by_cases h:p=q
    ·subst h
     rw [if_pos rfl] at bD ⊢
     simp [pat,e,bD]
    ·rw [if_neg h] at bD ⊢
     simp [pat,bD]
section
variable {c:cY} {E:List (Nat × I)} {L:List aI} {ops:Array Oper} {Q:Exit→Act→World→Prop}
variable {d:Option Tmp} {ty:TypeId} {pos:String} {af:Array Edge} {g:Option (Nat × Bool)} {x y:Operand} {t t2:TypeId}
theorem S0 {L L':List aI} (p:L.Perm L') {A:List Nat} (k:Nat):k∈aK L ++ A↔k∈aK L' ++ A:=by
 simp only [List.mem_append]; rw [(ve p).mem_iff]
theorem m7 {L L':List aI} (p:L.Perm L') {A:List Nat} {W:World} :Ext (aK L ++ A) W (aK L' ++ A) W:= .drop fun k hm=>(S0 p k).2 hm
theorem a8.perm {L':List aI} {x:Operand} {τ:I} (p:L.Perm L') (h:a8 c E L x τ):a8 c E L' x τ:=fun a W s=>
 τ.mono (m7 p) (h a W (s.perm p.symm))
theorem bO.perm {L':List aI} {o:Oper} {τ:I} (p:L.Perm L') (h:bO c E L o τ):bO c E L' o τ:=fun a W s=>by
 have:=h a W (s.perm p.symm)
 unfold gx at this ⊢
 exact Oper.wp_mono (fun gn W' ⟨v,J,aa,av⟩=>⟨v,J,aa,τ.mono (m7 p) av⟩) this
theorem ah.perm {l:List Oper} {L':List aI} (p:L.Perm L') (h:ah c ops Q l E L):ah c ops Q l E L':=fun a W s=>h a W (s.perm p.symm)
theorem eb {x:Operand} {r:Ref} {p:Nat} (ai:a8 c E L x (.of r)) (h:r=some p):a8 c E L x (.eq (.pointer (some ⟨p,0,none⟩))):=fun a W s=>by
 subst h
 exact tE.1 (ai a W s)
theorem rC:a8 c E L (.const (.pointer none)) (.of (none:Ref)):=fun a W s=>tE.2 rfl
variable {bM:Type} [e0 bM] {hp:aH bM} {loc:List aI}
theorem eK {p n:Nat} {k:bM} {e:aI} (aq:L.drop n=aZ hp) (h:pat hp p=some k) (ar:e0.hH p k= [e]):e∈L:=by
 obtain⟨R,J,_⟩:=u0 h
 rw [ar] at J
 have:e∈L.drop n:=by rw [aq]; exact J.mem_iff.2 (by simp)
 exact List.mem_of_mem_drop this
theorem j7 {L':List aI} {e:aI} (aq:∀ (i:Nat) (e:aI),L[i]? =some e→L'[i]? =some e) (h:e∈L):e∈L':=by
 obtain⟨i,ao⟩:=List.mem_iff_getElem?.1 h
 exact List.mem_of_getElem? (aq i e ao)
theorem fv {x:Operand} {t:TypeId} {p o:Nat} {β γ:Type} [ae β] [ae γ] {b:β} (l:aP β γ) {r:γ} (ep:bs c.P t γ) (ai:a8 c E L x (.eq (.pointer (some ⟨p,o,none⟩))))
 (hm:(⟨some p,.var b⟩:aI)∈L) (a6:o=l.off) (aD:l.get b=r):bO c E L ⟨d,.load t x,ty,pos,af,g⟩ (.of r):=by
 obtain⟨i,ao⟩:=List.mem_iff_getElem?.1 hm
 exact fl (i:=i) l ep ai ao a6 aD
theorem ah.TH {x y:Operand} {t:TypeId} {rest:List Oper} {p o:Nat} {k k':bM} {β γ:Type} [ae β] [ae γ] {b b':β} {v:γ} (l:aP β γ) (ep:bs c.P t γ) (ai:a8 c E (loc ++ aZ hp) x (.eq (.pointer (some ⟨p,o,none⟩))))
 (a4:a8 c E (loc ++ aZ hp) y (.of v)) (hp':pat hp p=some k) (ar:e0.hH p k= [⟨some p,.var b⟩]) (jB:e0.hH p k'= [⟨some p,.var b'⟩]) (a6:o=l.off) (hb:l.set b v=b')
 (m0:ah c ops Q rest E (loc ++ aZ (ch hp p k'))):ah c ops Q (⟨none,.store t x y,ty,pos,af,none⟩ :: rest) E (loc ++ aZ hp):=by
 obtain⟨R,J,aa⟩:=u0 hp'
 have aa:=aa k'
 rw [ar] at J
 rw [jB] at aa
 have ck:∀ {z:β} {M:List aI},M.Perm ([⟨some p,.var z⟩] ++ R)→ (loc ++ M).Perm (⟨some p,.var z⟩ :: (loc ++ R)):=fun h=>(h.append_left loc).trans (by simp only [List.singleton_append]; exact List.perm_middle)
 exact ah.perm (ck J).symm (ah.store (i:=0) l ep (ai.perm (ck J)) (a4.perm (ck J)) rfl a6 hb (ah.perm (ck aa) m0))
theorem ah.nL {x y:Operand} {t:TypeId} {rest:List Oper} {p o:Nat} {k k':bM} {bI:aH bM} {β γ:Type} [ae β] [ae γ] {b b':β} {v:γ} (n:Nat) (aq:L.drop n=aZ hp) (l:aP β γ) (ep:bs c.P t γ) (ai:a8 c E L x (.eq (.pointer (some ⟨p,o,none⟩)))) (a4:a8 c E L y (.of v)) (hp':pat hp p=some k) (ar:e0.hH p k= [⟨some p,.var b⟩]) (jB:e0.hH p k'= [⟨some p,.var b'⟩]) (a6:o=l.off) (hb:l.set b v=b') (dc:ch hp p k'=bI) (m0:ah c ops Q rest E (L.take n ++ aZ bI)):ah c ops Q (⟨none,.store t x y,ty,pos,af,none⟩ :: rest) E L:=by
 subst dc
 have e:L=L.take n ++ aZ hp:=by rw [← aq,List.take_append_drop]
 clear aq
 generalize L.take n=loc at *
 subst e
 exact ah.TH l ep ai a4 hp' ar jB a6 hb m0
theorem bC.fresh {a:Act} {W:World} (s:bC c E (loc ++ aZ hp) a W):W.heap.size ∉ cX hp:=fun h=>by
 have:=s.lt _ (by rw [e4]; exact List.mem_append.2 (.inr (MH h)))
 omega
theorem ah.WM {t:TypeId} {x:Operand} {rest:List Oper} {a7:Nat} {α:Type} [ae α] {z:α} (mk:bM) (ar:∀ p,e0.hH p mk= [⟨some p,.var z⟩]) (ai:a8 c E (loc ++ aZ hp) x (.of z)) (aF:Nat.blt a7 c.n=true)
 (k:∀ p,p ∉ cX hp→ah c ops Q rest ((a7,.of (some p:Ref)) :: E) (loc ++ aZ ((p,mk) :: hp))):ah c ops Q (⟨some a7,.box t x,ty,pos,af,none⟩ :: rest) E (loc ++ aZ hp):=fun a W s=>by
 refine hO rfl (R:=fun v W'=>v= .pointer (some ⟨W.heap.size,0,none⟩)∧W'=W.alloc (.cells (a.eval x).cells t)) (.lx ?_ ⟨rfl,rfl⟩) fun v W' ⟨a3,hw⟩=> ?_
 ·simp [execOp,Instr.box,newVar,newRow]
 ·subst a3
  subst hw
  refine k _ s.fresh _ _ (bC.put ?_ (by simpa using aF) (tE.2 rfl))
  refine(s.alloc (cp:= .var z) ⟨_,t,rfl,(ai a W s).2⟩).perm ?_
  simp only [aZ,ar,List.singleton_append]
  exact List.perm_middle.symm
theorem ah.Ah {t:TypeId} {x:Operand} {rest:List Oper} {a7:Nat} {α:Type} [ae α] {z:α} (n:Nat) (aq:L.drop n=aZ hp) (mk:bM) (ar:∀ p,e0.hH p mk= [⟨some p,.var z⟩]) (ai:a8 c E L x (.of z)) (aF:Nat.blt a7 c.n=true) (k:∀ a:Nat × aH bM,a.1 ∉ hp.map (·.1)∧a.2=(a.1,mk) :: hp→ah c ops Q rest ((a7,.of (some a.1:Ref)) :: E) (L.take n ++ aZ a.2)):ah c ops Q (⟨some a7,.box t x,ty,pos,af,none⟩ :: rest) E L:=by
 have e:L=L.take n ++ aZ hp:=by rw [← aq,List.take_append_drop]
 clear aq
 generalize L.take n=loc at *
 subst e
 exact ah.WM mk ar ai aF fun p h=>k (p,(p,mk) :: hp) ⟨h,rfl⟩
theorem nG {A B C:List aI} :((A ++ B) ++ C).Perm ((A ++ C) ++ B):=by
 rw [List.append_assoc,List.append_assoc]; exact List.perm_append_comm.append_left A
theorem ah.iG {rest:List Oper} {a7:Nat} {f:FuncId} {xs:List Operand} {ats:Array TypeId} {τs:List I} {Lin Lr:List aI} {δ:Type} {ρ:δ→I} {Lo:δ→List aI} {hq:δ→aH bM} (er:bV c.P f) (h:bN c.P f τs (Lin ++ aZ hp) ρ (fun d=>Lo d ++ aZ (hq d)))
 (ai:ht c E ((Lin ++ Lr) ++ aZ hp) xs τs) (aF:Nat.blt a7 c.n=true) (k:∀ q,ah c ops Q rest ((a7,ρ q) :: E) ((Lo q ++ Lr) ++ aZ (hq q))):
 ah c ops Q (⟨some a7,.call ⟨.value (.func f),xs.toArray,ats⟩,ty,pos,af,none⟩ :: rest) E ((Lin ++ Lr) ++ aZ hp):=fun a W s=>
 hO rfl (zg (Lr:=Lr) er h (s.perm nG) ((ai.holds a W s).mono (m7 nG))) fun v W' ⟨q,bR,a3⟩=>
  k q _ _ ((bR.perm nG).put (by simpa using aF) ((ρ q).mono (m7 nG) a3))
theorem ah.kM {rest:List Oper} {a7:Nat} {f:FuncId} {xs:List Operand} {ats:Array TypeId} {τs:List I} {Lin Lr:List aI} {δ:Type} {ρ:δ→I} {Lo:δ→List aI} {hq:δ→aH bM} (n m:Nat) (aq:L.drop n=aZ hp) (er:bV c.P f) (h:bN c.P f τs (Lin ++ aZ hp) ρ (fun d=>Lo d ++ aZ (hq d)))
 (J:(L.take n).take m=Lin) (aa:(L.take n).drop m=Lr) (ai:ht c E L xs τs) (aF:Nat.blt a7 c.n=true) (k:∀ q,ah c ops Q rest ((a7,ρ q) :: E) ((Lo q ++ Lr) ++ aZ (hq q))):
 ah c ops Q (⟨some a7,.call ⟨.value (.func f),xs.toArray,ats⟩,ty,pos,af,none⟩ :: rest) E L:=by
 have e:L=(Lin ++ Lr) ++ aZ hp:=by rw [← J,← aa,List.take_append_drop,← aq,List.take_append_drop]
 clear aq J aa
 subst e
 exact ah.iG er h ai aF k
theorem fr.UG {f:FuncId} {xs:List Operand} {ats:Array TypeId} {τs:List I} {ρ:I} (er:bV c.P f) (h:bN c.P f τs (aZ hp) (fun _:Unit=>ρ) (fun _=>aZ hp))
 (ai:ht c E (loc ++ aZ hp) xs τs):fr c E (loc ++ aZ hp) ⟨d,.call ⟨.value (.func f),xs.toArray,ats⟩,ty,pos,af,g⟩ ρ:=fun a W s=>by
 have ck:(loc ++ aZ hp).Perm (aZ hp ++ loc):=List.perm_append_comm
 have a6:=zg (d:=d) (ty:=ty) (pos:=pos) (af:=af) (g:=g) (ats:=ats) (Lr:=loc) er h (s.perm ck) ((ai.holds a W s).mono (m7 ck))
 unfold gx at a6 ⊢
 exact Oper.wp_mono (fun gn W' ⟨v,J,_,aa,av⟩=>⟨v,J,aa.perm ck.symm,ρ.mono (m7 ck.symm) av⟩) a6
theorem fr.iG {f:FuncId} {xs:List Operand} {ats:Array TypeId} {τs:List I} {ρ:I} (n:Nat) (aq:L.drop n=aZ hp) (er:bV c.P f) (h:bN c.P f τs (aZ hp) (fun _:Unit=>ρ) (fun _=>aZ hp)) (ai:ht c E L xs τs):fr c E L ⟨d,.call ⟨.value (.func f),xs.toArray,ats⟩,ty,pos,af,g⟩ ρ:=by
 have e:L=L.take n ++ aZ hp:=by rw [← aq,List.take_append_drop]
 clear aq
 generalize L.take n=loc at *
 subst e
 exact fr.UG er h ai
theorem FA {P:Program} {e:TypeId} (W:World) (n:Nat) {t:TypeId} (a:Option Addr) (h:P.underlying t=some (.pointer e)):(Op.equalIn (n + 1) t (.pointer a) (.pointer none)).run P W= .ok a.isNone W:=by
 cases a <;> simp [Op.equalIn,run_underlying h]
theorem mz {r:Ref} {e:TypeId} (hu:c.P.underlying t=some (.pointer e)) (ai:a8 c E L x (.of r)):bO c E L ⟨d,.binOp .eql t x (.const (.pointer none)) t2,ty,pos,af,g⟩ (.of r.isNone):= .pure fun a W s=>by
 have J:=tE.1 (ai a W s)
 refine⟨.bool r.isNone,?_,of_bool.2 rfl⟩
 have aF:a.eval (.const (.pointer none))= .pointer none:=rfl
 simp only [execOp,eqGuard,binOp,J,aF,Op.equal,Op.maxDepth]
 have:=FA (P:=c.P) W 9999 (r.map fun p=>⟨p,0,none⟩) hu
 simp only [Option.isNone_map] at this
 simp [this]
theorem CB {r:Ref} {e:TypeId} (hu:c.P.underlying t=some (.pointer e)) (ai:a8 c E L x (.of r)):bO c E L ⟨d,.binOp .neq t x (.const (.pointer none)) t2,ty,pos,af,g⟩ (.of r.isSome):= .pure fun a W s=>by
 have J:=tE.1 (ai a W s)
 refine⟨.bool r.isSome,?_,of_bool.2 rfl⟩
 have aF:a.eval (.const (.pointer none))= .pointer none:=rfl
 simp only [execOp,eqGuard,binOp,J,aF,Op.equal,Op.maxDepth]
 have:=FA (P:=c.P) W 9999 (r.map fun p=>⟨p,0,none⟩) hu
 simp only [Option.isNone_map] at this
 simp [this]
end
theorem RN {P:Program} {t e el:TypeId} {n:Nat} (h:P.underlying t=some (.array n e)) (eG:bs P e Ref) (hu:P.underlying e=some (.pointer el)) {A:List Nat} {W:World} {u v:Value} {x y:Vector Ref n} (ai:(I.of x).holds A W u) (a4:(I.of y).holds A W v)
 (aF:∀ i,i < n→bB y i=none) (d:Nat) (hd:2≤d):(Op.equalIn d t u v).run P W= .ok (decide (x=y)) W:=by
 obtain⟨d,rfl⟩:∃ e,d=e + 1:=⟨d - 1,by omega⟩
 obtain⟨J,aa⟩:=ai
 obtain⟨av,aO⟩:=a4
 obtain⟨xs,rfl⟩:∃ cs,u= .agg cs:=by simpa [shaped,ae.agg] using J
 obtain⟨ys,rfl⟩:∃ cs,v= .agg cs:=by simpa [shaped,ae.agg] using av
 simp only [Value.cells] at aa aO
 have sx:xs.toList.length=n * ae.size Ref:=ae.len aa
 have AZ:ys.toList.length=n * ae.size Ref:=ae.len aO
 have pd:∀ i∈List.range' 0 n,((do
  let a ← part e xs (i * ae.size Ref)
  let b ← part e ys (i * ae.size Ref)
  Op.equalIn d e a b):Sem Bool).run P W= .ok (decide (bB x i=bB y i)) W:=by
  intro i ao
  have fO:i < n:=by simpa using ao
  have dQ:i * ae.size Ref + ae.size Ref≤n * ae.size Ref:=(aP.idx (α:=Ref) n i fO).fZ
  obtain⟨a,a9,sy⟩:=qC (A:=A) (P:=P) (W:=W) (cs:=xs) (off:=i * ae.size Ref) eG (by simp at sx; omega) ((aP.idx (α:=Ref) n i fO).h3 aa)
  obtain⟨b,hb,A0⟩:=qC (A:=A) (P:=P) (W:=W) (cs:=ys) (off:=i * ae.size Ref) eG (by simp at AZ; omega) ((aP.idx (α:=Ref) n i fO).h3 aO)
  simp only [Sem.run_bind,a9,hb,Result.andThen_ok]
  obtain⟨d,rfl⟩:∃ e,d=e + 1:=⟨d - 1,by omega⟩
  have az:=tE.1 sy
  have aX:=tE.1 A0
  subst az; subst aX
  have ZD:(aP.idx (α:=Ref) n i fO).get y=none:=aF i fO
  rw [ZD,Option.map_none,FA W d _ hu]
  have dS:bB y i=none:=aF i fO
  rw [dS]
  show Result.ok ((bB x i).map _).isNone W=_
  congr 1
  cases bB x i <;> rfl
 have aV:=Fz (P:=P) (W:=W) _ _ _ pd
 have kx:(List.range' 0 n).all (fun i=>decide (bB x i=bB y i))=decide (x=y):=by
  rw [Bool.eq_iff_iff,List.all_eq_true,decide_eq_true_eq]
  constructor
  ·intro h
   apply Vector.ext
   intro i ao
   have:=h i (by simpa using ao)
   simpa [bB,ao] using this
  ·rintro rfl i _
   simp
 rw [kx] at aV
 simp only [Op.equalIn,Sem.run_bind,run_underlying h,Result.andThen_ok,eG.sizeOf,Std.Legacy.Range.forIn_eq_forIn_range']
 simp only [Std.Legacy.Range.size,Nat.sub_zero,Nat.add_one_sub_one,Nat.div_one] at aV ⊢
 simp only [bind_assoc] at aV
 rw [aV]
 by_cases A1:x=y
 ·simp [A1]
 ·simp [A1]
theorem SJ {c:cY} {E:List (Nat × I)} {L:List aI} {d:Option Tmp} {ty:TypeId} {pos:String} {af:Array Edge} {g:Option (Nat × Bool)} {x y:Operand} {t t2 e el:TypeId} {n:Nat} {a b:Vector Ref n} (h:c.P.underlying t=some (.array n e)) (eG:bs c.P e Ref) (hu:c.P.underlying e=some (.pointer el)) (bg:c.P.eqGuardType c.P.depth t=false)
 (ai:a8 c E L x (.of a)) (a4:a8 c E L y (.of b)) (aF:∀ i,i < n→bB b i=none):bO c E L ⟨d,.binOp .eql t x y t2,ty,pos,af,g⟩ (.of (decide (a=b))):= .pure fun A W s=>by
 have J:=ai A W s
 have aa:=a4 A W s
 obtain⟨xs,g7⟩:∃ cs,A.eval x= .agg cs:=by simpa [shaped,ae.agg] using J.1
 obtain⟨ys,uj⟩:∃ cs,A.eval y= .agg cs:=by simpa [shaped,ae.agg] using aa.1
 have av:=RN h eG hu J aa aF 10000 (by decide)
 rw [g7,uj] at av
 refine⟨.bool (decide (a=b)),?_,of_bool.2 rfl⟩
 simp only [execOp,g7,uj,Sem.run_bind,run_eqGuard_agg W .eql t x y xs ys bg,Result.andThen_ok,run_eql_struct,av,Sem.run_pure]
section
variable {c:cY} {E:List (Nat × I)} {L:List aI} {ops:Array Oper} {Q:Exit→Act→World→Prop}
theorem au.cu {α β:Type} {o:Option α} {k:α→au β} {R:β→Prop} (h:au.bind (au.of o) k R):∃ r,o=some r∧k r R:=h
theorem RO {F:Fence} {n:Nat} {P:Program} {body:Code} {σ ε:Type} (b:σ→au (σ ⊕ ε)) (eF:σ→Act→World→Prop) (X:ε→Exit→Act→World→Prop)
 (pb:∀ s R,b s R→ ∀ a W,eF s a W→body.wpIn F n P (fun x a W=>(∃ bR,R (.inl bR)∧x= .normal∧eF bR a W)∨ ∃ e,R (.inr e)∧x≠ .normal∧X e x a W) a W)
 (Q:Exit→Act→World→Prop) (R:ε→Prop) (ot:∀ e x a W,R e→X e x a W→Q x a W) {bX:σ} {N:Nat} (an:ox N b bX R) {hy:Act} {iL:World} (bA:eF bX hy iL):
 (Code.loop body).wpIn F n P Q hy iL:=by
 intro dw k cs yb hb aD
 have key:∀ N s,ox N b s R→ ∀ a W,eF s a W→
  ∃ x gn W',Q x gn W'∧ArrivesIn (Machine.fenced P F) P (lone (dw.atR a (.code body :: .inLoop body :: k)) cs W) dw k cs x gn W':=by
  intro N
  induction N with
  | zero=>intro s h; exact h.elim
  | succ N bD=>
    intro s h a W kk
    obtain⟨x,xV,xW,hq,qV⟩:=pb s _ h a W kk dw (.inLoop body :: k) cs yb hb aD
    rcases hq with⟨bR,J,ai,Ir⟩ | ⟨e,J,ai,Jp⟩
    ·subst ai
     obtain⟨HZ,H0,H2,Hx,Gx⟩:=bD bR J xV xW Ir
     exact⟨HZ,H0,H2,Hx,.of_steps (StepsIn.trans qV (.one (fenced_calm hb aD rfl) stepR_inLoop)) Gx⟩
    ·exact⟨x,xV,xW,ot _ _ _ _ J Jp,.pass (x:= .inLoop body) rfl (fun _ _=> .inl ai) qV⟩
 obtain⟨x,gn,W',hq,qV⟩:=key N bX an hy iL bA
 exact⟨x,gn,W',hq,.of_steps (.one (fenced_calm hb aD rfl) stepR_loop) qV⟩
def EB {σ ε γ δ:Type} (c:cY) (E:σ→γ→List (Nat × I)) (L:σ→γ→List aI) (xs:ε→Exit) (fJ:ε→δ→List (Nat × I)) (Lx:ε→δ→List aI) (R:σ ⊕ ε→Prop):Exit→Act→World→Prop:=fun x a W=>
 (∃ s,R (.inl s)∧x= .normal∧ ∃ g,bC c (E s g) (L s g) a W)∨ ∃ e,R (.inr e)∧x≠ .normal∧x=xs e∧ ∃ g,bC c (fJ e g) (Lx e g) a W
theorem aj.GW {σ ε γ δ:Type} {E':σ→γ→List (Nat × I)} {L':σ→γ→List aI} {xs:ε→Exit} {fJ:ε→δ→List (Nat × I)} {Lx:ε→δ→List aI} {R:σ ⊕ ε→Prop} {s:σ} (jq:R (.inl s)) (g:γ) (n:Nat)
 (aq:L.drop n=L' s g) (h:hl E (E' s g)):aj c (EB c E' L' xs fJ Lx R) .normal E L:=fun a W st=> .inl ⟨s,jq,rfl,g,by rw [← aq]; exact(st.oy n).less h.look⟩
theorem aj.Dt {σ ε γ δ:Type} {E':σ→γ→List (Nat × I)} {L':σ→γ→List aI} {xs:ε→Exit} {fJ:ε→δ→List (Nat × I)} {Lx:ε→δ→List aI} {R:σ ⊕ ε→Prop} {e:ε} {x:Exit} (jq:R (.inr e)) (g:δ) (n:Nat)
 (ai:x=xs e) (aF:x≠ .normal) (aq:L.drop n=Lx e g) (h:hl E (fJ e g)):aj c (EB c E' L' xs fJ Lx R) x E L:=fun a W st=> .inr ⟨e,jq,aF,ai,g,by rw [← aq]; exact(st.oy n).less h.look⟩
theorem ak.ox {σ ε γ δ:Type} {body:Code} {N:Nat} {b:σ→au (σ ⊕ ε)} {bX:σ} {R:ε→Prop} (an:Gv.ox N b bX R)
 (E':σ→γ→List (Nat × I)) (L':σ→γ→List aI) (xs:ε→Exit) (fJ:ε→δ→List (Nat × I)) (Lx:ε→δ→List aI) (g0:γ) (aq:L=L' bX g0) (ay:hl E (E' bX g0))
 (r6:∀ s R,b s R→ ∀ g,ak c (EB c E' L' xs fJ Lx R) body (E' s g) (L' s g))
 (ot:∀ e,R e→ ∀ g,aj c Q (xs e) (fJ e g) (Lx e g)):ak c Q (.loop body) E L:=fun a W st=>by
 subst aq
 exact RO b (fun s a W=> ∃ g,bC c (E' s g) (L' s g) a W) (fun e x a W=>x=xs e∧ ∃ g,bC c (fJ e g) (Lx e g) a W)
  (fun s R hs a W ⟨g,kk⟩=>wpIn_mono (r6 s R hs g a W kk) (fun x a W h=>by
   rcases h with⟨bR,J,aa,av⟩ | ⟨e',J,aa,av,aO⟩
   ·exact .inl ⟨bR,J,aa,av⟩
   ·exact .inr ⟨e',J,aa,av,aO⟩)) Q R (fun e x a W jq ⟨ai,g,hs⟩=>by subst ai; exact ot e jq g a W hs) an ⟨g0,st.less ay.look⟩
theorem rI {α:Type} {b:Bool} {m n:au α} {R:α→Prop} (hb:b=true) (h:cond b m n R):m R:=by subst hb; exact h
theorem rJ {α:Type} {b:Bool} {m n:au α} {R:α→Prop} (hb:b=false) (h:cond b m n R):n R:=by subst hb; exact h
theorem ak.vi {β γ ρ:Type} {nz:ρ→Prop} {x:Operand} {b:Bool} {y z:Code} {ba bh:au β} {k:β→au ρ} (h:au.bind (bif b then ba else bh) k nz) (E':β→γ→List (Nat × I)) (L':β→γ→List aI) (an:a8 c E L x (.of b))
 (wY:∀ m g,k m nz→aj c Q .normal (E' m g) (L' m g))
 (bl:(∀ m g,k m nz→aj c Q .normal (E' m g) (L' m g))→b=true→ba (fun m=>k m nz)→ak c Q y E L) (aV:(∀ m g,k m nz→aj c Q .normal (E' m g) (L' m g))→b=false→bh (fun m=>k m nz)→ak c Q z E L):ak c Q (.cond x y z) E L:=
 ak.cond an (fun hb=>bl wY hb (rI hb h)) (fun hb=>aV wY hb (rJ hb h))
theorem ak.GV {σ ε γ δ ρ:Type} {body:Code} {N:Nat} {b:σ→au (σ ⊕ ε)} {bX:σ} {k:ε→au ρ} {nz:ρ→Prop} (an:au.bind (Gv.ox N b bX) k nz)
 (E':σ→γ→List (Nat × I)) (L':σ→γ→List aI) (xs:ε→Exit) (fJ:ε→δ→List (Nat × I)) (Lx:ε→δ→List aI) (g0:γ) (aq:L=L' bX g0) (ay:hl E (E' bX g0))
 (r6:∀ s R,b s R→ ∀ g,ak c (EB c E' L' xs fJ Lx R) body (E' s g) (L' s g))
 (ot:∀ e,k e nz→ ∀ g,aj c Q (xs e) (fJ e g) (Lx e g)):ak c Q (.loop body) E L:=
 ak.ox (R:=fun e=>k e nz) an E' L' xs fJ Lx g0 aq ay r6 ot
theorem VI {n:Nat} :∀ i,i < n→bB (default:Vector Ref n) i=none:=fun i ao=>by
 have:(default:Vector Ref n)=Vector.replicate n none:=rfl
 rw [this]
 simp [bB,ao]
def Ax (s:ByteArray) (i:Int):Option (BitVec 8):=(if 0≤i then s[i.toNat]? else none).map fun b=>BitVec.ofNat 8 b.toNat
theorem Tn {d:Option Tmp} {ty:TypeId} {pos:String} {af:Array Edge} {g:Option (Nat × Bool)} {x y:Operand} {t:TypeId} {s:ByteArray} {i:BitVec 8} {r:BitVec 8} (hu:c.P.underlying t=some .string) (ai:a8 c E L x (.of s)) (a4:a8 c E L y (.of i)) (aD:Ax s (i.toNat:Int)=some r):
 bO c E L ⟨d,.index t x y,ty,pos,af,g⟩ (.of r):= .pure fun a W st=>by
 have J:=MD.1 (ai a W st)
 have aa:=pI.1 (a4 a W st)
 unfold Ax at aD
 cases hb:(if 0≤ (i.toNat:Int) then s[(i.toNat:Int).toNat]? else none) with
 | none=>rw [hb] at aD; cases aD
 | some b=>
   rw [hb] at aD
   simp only [Option.map_some,Option.some.injEq] at aD
   subst aD
   have bY:b.toNat < 256:=b.toNat_lt
   refine⟨.int .u8 b.toNat,?_,pI.2 (by simp [BitVec.toNat_ofNat,Nat.mod_eq_of_lt bY])⟩
   have wq:=hb
   simp only [Int.natCast_nonneg,if_true,Int.toNat_natCast] at wq
   simp [execOp,Instr.index,J,aa,asIntOf,run_underlying hu,wq]
end
structure fT where
 p:Option Nat
 deriving DecidableEq,Inhabited
instance aav:ae fT:= .scalar (fun x=>Value.map x.p) fun _=>rfl
instance:bb fT:=⟨[.map none],fun _ _=>rfl⟩
theorem vg {A W v} {x:fT} :(I.of x).holds A W v↔v= .map x.p:=
 ⟨fun h=>od h.1 h.2,fun h=>by subst h; exact⟨rfl,rfl⟩⟩
theorem lQ {c:cY} {E:List (Nat × I)} {L:List aI} {x:Operand} {r:fT} {p:Nat} (ai:a8 c E L x (.of r)) (h:r.p=some p):a8 c E L x (.of (⟨some p⟩:fT)):=fun a W s=>by
 have:=vg.1 (ai a W s)
 rw [h] at this
 exact vg.2 this
inductive kg {α β:Type} [ae α] [ae β] (A:List Nat) (W:World):List MapEntry→List (α × β)→Prop
 | nil:kg A W [] []
 | cons {e k v es r} :(I.of k).holds A W e.key→ (I.of v).holds A W e.val→kg A W es r→kg A W (e :: es) ((k,v) :: r)
theorem kg.mono {α β:Type} [ae α] [ae β] {A W c1 W'} (h:Ext A W c1 W'):∀ {es:List MapEntry} {dx:List (α × β)},kg A W es dx→kg c1 W' es dx
 | _,_,.nil=> .nil
 | _,_,.cons J aa r=> .cons (I.mono _ h J) (I.mono _ h aa) (r.mono h)
def dF.map {α β:Type} [ae α] [ae β] (dx:List (α × β)):dF where
 holds A W o:= ∃ es clock,o= .map es clock∧kg A W es.toList dx∧ (∀ x∈es.toList,x.born < clock)∧ (es.toList.map MapEntry.born).Nodup
 mG:=False
 mono e h:=let⟨es,clock,J,aa,av⟩:=h; ⟨es,clock,J,aa.mono e,av⟩
def cK {α β:Type} [DecidableEq α]:List (α × β)→α→Option β
 | [],_=>none
 | (k,v) :: r,x=>if x=k then some v else cK r x
def fc {α β:Type} [DecidableEq α]:List (α × β)→α→β→List (α × β)
 | [],x,y=> [(x,y)]
 | (k,v) :: r,x,y=>if x=k then(x,y) :: r else(k,v) :: fc r x y
def gW {α β:Type} [DecidableEq α]:List (α × β)→α→List (α × β)
 | [],_=> []
 | (k,v) :: r,x=>if x=k then r else(k,v) :: gW r x
class k4 (α:Type) [ae α]:Prop where
 uniq:∀ {A W cs c1 W' dM} {x:α},ae.rep A W cs x→ae.rep c1 W' dM x→cs=dM
 plain:∀ {A W cs} {x:α},ae.rep A W cs x→ ∀ v∈cs,∀ n,Instr.sameBits n v v=true
instance:k4 Int:=⟨fun h cS=>h.trans cS.symm,fun h v a3 n=>by subst h; rw [List.mem_singleton.1 a3]; simp [Instr.sameBits]⟩
instance:k4 (BitVec 64):=⟨fun h cS=>h.trans cS.symm,fun h v a3 n=>by subst h; rw [List.mem_singleton.1 a3]; simp [Instr.sameBits]⟩
instance:k4 Bool:=⟨fun h cS=>h.trans cS.symm,fun h v a3 n=>by subst h; rw [List.mem_singleton.1 a3]; simp [Instr.sameBits]⟩
instance {α:Type} [ae α] [Inhabited α] [k4 α] {n:Nat} :k4 (Vector α n):=⟨fun {A W cs c1 W' dM x} h cS=>by
 have BL:cs.length=n * ae.size α:=ae.len h
 have aak:dM.length=n * ae.size α:=ae.len cS
 have key:∀ m,m≤n→cs.take (m * ae.size α)=dM.take (m * ae.size α):=by
  intro m
  induction m with
  | zero=>intro _; simp
  | succ m bD=>
    intro hm
    have ye:m < n:=hm
    have az:=(aP.idx (α:=α) n m ye).h3 h
    have aX:=(aP.idx (α:=α) n m ye).h3 cS
    have dS:=k4.uniq az aX
    rw [Nat.succ_mul,List.take_add,List.take_add,bD (by omega)]
    congr 1
 have:=key n (Nat.le_refl _)
 rwa [← BL,List.take_length,BL,← aak,List.take_length] at this,
 fun {A W cs x} h v a3 k=>by
  have BL:cs.length=n * ae.size α:=ae.len h
  obtain⟨i,ao,rfl⟩:=List.getElem_of_mem a3
  by_cases hs:ae.size α=0
  ·rw [hs,Nat.mul_zero] at BL; omega
  have hq:i / ae.size α < n:=Nat.div_lt_of_lt_mul (by rw [BL,Nat.mul_comm] at ao; exact ao)
  have az:=(aP.idx (α:=α) n (i / ae.size α) hq).h3 h
  refine k4.plain az _ ?_ k
  have aD:i % ae.size α < ae.size α:=Nat.mod_lt _ (by omega)
  have hd:=Nat.div_add_mod i (ae.size α)
  refine List.mem_iff_getElem?.2 ⟨i % ae.size α,?_⟩
  simp only [aP.idx]
  rw [List.getElem?_take,if_pos aD,List.getElem?_drop,Nat.mul_comm,hd]
  exact List.getElem?_eq_getElem ao⟩
theorem Lz {cs dM:List Value} (o s:Nat) (h:(cs.drop o).take s=(dM.drop o).take s) (k:cs.drop (o + s)=dM.drop (o + s)):cs.drop o=dM.drop o:=by
 rw [← List.take_append_drop s (cs.drop o),← List.take_append_drop s (dM.drop o),h,List.drop_drop,List.drop_drop,k]
theorem TI {cs dM:List Value} {n:Nat} (h:cs.length=n) (cS:dM.length=n) (k:cs.drop 0=dM.drop 0):cs=dM:=by simpa using k
theorem TJ {cs dM:List Value} {n m:Nat} (h:cs.length=n) (cS:dM.length=n) (k:n≤m):cs.drop m=dM.drop m:=by
 rw [List.drop_eq_nil_of_le (by omega),List.drop_eq_nil_of_le (by omega)]
theorem RP {α:Type} [ae α] [k4 α] {A W c1 W' u v} {x:α} (h:(I.of x).holds A W u) (cS:(I.of x).holds c1 W' v):u=v:=by
 obtain⟨J,aa⟩:=h
 obtain⟨av,aO⟩:=cS
 have aS:=k4.uniq aa aO
 by_cases a9:ae.agg α=true
 ·simp only [shaped,a9,if_true] at J av
  obtain⟨a,rfl⟩:=J
  obtain⟨b,rfl⟩:=av
  simp only [Value.cells] at aS
  congr 1
  exact Array.toList_inj.1 aS
 ·simp only [Bool.not_eq_true] at a9
  simp only [shaped,a9,Bool.false_eq_true,if_false] at J av
  rw [oe J,oe av] at aS
  simpa using aS
theorem LA {P:Value→Value→Bool} :∀ {cs:List Value},(∀ v∈cs,P v v=true)→ ((cs.zip cs).all fun(x,y)=>P x y)=true
 | [],_=>rfl
 | a :: r,h=>by
   simp only [List.zip_cons_cons,List.all_cons,Bool.and_eq_true]
   exact⟨h a (by simp),LA fun v a3=>h v (by simp [a3])⟩
theorem RQ {α:Type} [ae α] [k4 α] {A W u} {x:α} (h:(I.of x).holds A W u) (n:Nat):Instr.sameBits (n + 1) u u=true:=by
 obtain⟨J,aa⟩:=h
 by_cases a9:ae.agg α=true
 ·simp only [shaped,a9,if_true] at J
  obtain⟨a,rfl⟩:=J
  simp only [Value.cells] at aa
  simp only [Instr.sameBits,beq_self_eq_true,Bool.true_and]
  exact LA fun v a3=>k4.plain aa v a3 n
 ·simp only [Bool.not_eq_true] at a9
  simp only [shaped,a9,Bool.false_eq_true,if_false] at J
  rw [oe J] at aa
  exact k4.plain aa u (by simp) _
theorem Ss {α:Type} [ae α] [k4 α] {P:Program} {A W c1 W' u v} {x:α} (h:(I.of x).holds A W u) (cS:(I.of x).holds c1 W' v) (iL:World):(Instr.keyThatStays u v).run P iL= .ok v iL:=by
 have:=RP h cS
 subst this
 simp [Instr.keyThatStays,RQ h 9999]
def ri (P:Program) (t:TypeId) (α:Type) [ae α] (n:Nat):Prop:= ∀ b d A W u (x:α),n≤d→ (I.of x).holds A W u→ (Instr.checkKey b d t u).run P W= .ok () W
theorem Ld {P:Program} {t:TypeId} {α:Type} [ae α] {D:TypeDesc} (h:P.underlying t=some D) (hd:(match (motive:=TypeDesc→Bool) D with | .interface _ | .array _ _ | .struct _=>false | _=>true)=true):ri P t α 1:=by
 intro b d A W u x aF ai
 obtain⟨d,rfl⟩:∃ e,d=e + 1:=⟨d - 1,by omega⟩
 simp only [Instr.checkKey,Sem.run_bind,run_underlying h,Result.andThen_ok]
 cases D <;> simp at hd <;> rfl
theorem Kl {P:Program} {W:World} {BM:Type} (f:BM→Sem Unit):∀ (l:List BM),(∀ i∈l,(f i).run P W= .ok () W)→
 (forIn (m:=Sem) l () (fun i _=>do f i; pure (ForInStep.yield ()))).run P W= .ok () W
 | [],_=>by simp
 | i :: r,h=>by
   have J:=h i (by simp)
   have aa:=Kl (P:=P) (W:=W) f r (fun j aB=>h j (by simp [aB]))
   rw [List.forIn_cons]
   simp only [Sem.run_bind,J,Result.andThen_ok,Sem.run_pure]
   rw [aa]
theorem Kf {P:Program} {W:World} {BM:Type} (f:BM→PUnit→Sem (ForInStep PUnit)):∀ (l:List BM),(∀ i∈l,(f i ()).run P W= .ok (.yield ()) W)→ (forIn (m:=Sem) l PUnit.unit f).run P W= .ok () W
 | [],_=>by simp
 | i :: r,h=>by
   have J:=h i (by simp)
   have aa:=Kf (P:=P) (W:=W) f r (fun j aB=>h j (by simp [aB]))
   rw [List.forIn_cons]
   simp only [Sem.run_bind,J,Result.andThen_ok]
   exact aa
theorem MI {P:Program} {t e n k:Nat} {α:Type} [ae α] [Inhabited α] (h:P.underlying t=some (.array n e)) (eG:bs P e α) (he:ri P e α k):ri P t (Vector α n) (k + 1):=by
 intro b d A W u x hd ai
 obtain⟨d,rfl⟩:∃ e,d=e + 1:=⟨d - 1,by omega⟩
 obtain⟨J,aa⟩:=ai
 obtain⟨xs,rfl⟩:∃ cs,u= .agg cs:=by simpa [shaped,ae.agg] using J
 simp only [Value.cells] at aa
 have sx:xs.toList.length=n * ae.size α:=ae.len aa
 have pd:∀ i∈List.range' 0 n,((do
  let z ← Go.sizeOf e
  let a ← part e xs (i * z)
  Instr.checkKey b d e a):Sem Unit).run P W= .ok () W:=by
  intro i ao
  have fO:i < n:=by simpa using ao
  have dQ:i * ae.size α + ae.size α≤n * ae.size α:=(aP.idx (α:=α) n i fO).fZ
  obtain⟨a,a9,sy⟩:=qC (A:=A) (P:=P) (W:=W) (cs:=xs) (off:=i * ae.size α) eG (by simp at sx; omega) ((aP.idx (α:=α) n i fO).h3 aa)
  simp only [Sem.run_bind,eG.sizeOf,a9,Result.andThen_ok]
  exact he b d A W a _ (by omega) sy
 have aV:=Kl (P:=P) (W:=W) _ _ pd
 simp only [Instr.checkKey,Sem.run_bind,run_underlying h,Result.andThen_ok,Std.Legacy.Range.forIn_eq_forIn_range']
 simp only [Std.Legacy.Range.size,Nat.sub_zero,Nat.add_one_sub_one,Nat.div_one] at aV ⊢
 simp only [bind_assoc] at aV
 rw [aV]
 rfl
inductive Bk (P:Program) (β:Type) [ae β] (k:Nat):List Field→Prop
 | nil:Bk P β k []
 | cons {γ:Type} [ae γ] {f r} (l:aP β γ):l.off=f.offset→bs P f.type γ→ri P f.type γ k→Bk P β k r→Bk P β k (f :: r)
theorem St {P:Program} {t k:Nat} {β:Type} [ae β] {fs:Array Field} (a9:ae.agg β=true) (h:P.underlying t=some (.struct fs)) (ag:Bk P β k fs.toList):ri P t β (k + 1):=by
 intro b d A W u x hd ai
 obtain⟨d,rfl⟩:∃ e,d=e + 1:=⟨d - 1,by omega⟩
 obtain⟨J,aa⟩:=ai
 obtain⟨xs,rfl⟩:∃ cs,u= .agg cs:=by simpa [shaped,a9] using J
 simp only [Value.cells] at aa
 have sx:xs.toList.length=ae.size β:=ae.len aa
 have pd:∀ f∈fs.toList,((do
  if f.name≠ "_" then do
   let a ← part f.type xs f.offset
   Instr.checkKey b d f.type a):Sem Unit).run P W= .ok () W:=by
  have key:∀ l,Bk P β k l→ ∀ f∈l,((do
   if f.name≠ "_" then do
    let a ← part f.type xs f.offset
    Instr.checkKey b d f.type a):Sem Unit).run P W= .ok () W:=by
   intro l an
   induction an with
   | nil=>simp
   | cons l a6 eG ar r bD=>
     rename_i f jr
     intro yv p8
     rcases List.mem_cons.1 p8 with rfl | p8
     ·split
      ·obtain⟨a,a9,sy⟩:=qC (A:=A) (P:=P) (W:=W) (cs:=xs) (off:=l.off) eG (by have:=l.fZ; simp at sx; omega) (l.h3 aa)
       rw [← a6]
       simp only [Sem.run_bind,a9,Result.andThen_ok]
       exact ar b d A W a _ (by omega) sy
      ·rfl
     ·exact bD yv p8
  exact key _ ag
 simp only [Instr.checkKey,Sem.run_bind,run_underlying h,Result.andThen_ok]
 rw [← Array.forIn_toList,Kf]
 ·rfl
 ·intro f aV
  have:=pd f aV
  split
  ·rename_i aF
   rw [if_pos aF] at this
   simp only [Sem.run_bind] at this ⊢
   revert this
   generalize (part f.type xs f.offset).run P W=r
   cases r <;> simp only [Result.andThen] <;> intro h <;> first | rw [h]; rfl | cases h
  ·rfl
structure n9 (P:Program) (t:TypeId) (α:Type) [ae α] [DecidableEq α]:Prop where
 check:∀ b A W u (x:α),(I.of x).holds A W u→ (Instr.checkKey b 10000 t u).run P W= .ok () W
 same:∀ A W u v (x y:α),(I.of x).holds A W u→ (I.of y).holds A W v→ (Op.equal t u v).run P W= .ok (decide (x=y)) W
 now:∃ D,P.underlying t=some D∧ ∀ A W u v (x y:α),(I.of x).holds A W u→ (I.of y).holds A W v→Instr.sameNow D u v=none∨Instr.sameNow D u v=some (decide (x=y))
def ld {α β:Type} [DecidableEq α]:List (α × β)→α→Nat→Option (Nat × β)
 | [],_,_=>none
 | (k,v) :: r,x,i=>if x=k then some (i,v) else ld r x (i + 1)
def Found {α β:Type} [ae α] [ae β] (A:List Nat) (W:World) (dx:List (α × β)):Option (Nat × Value)→Option (Nat × β)→Prop
 | none,none=>True
 | some (i,u),some (j,v)=>i=j∧ (I.of v).holds A W u
 | _,_=>False
theorem Kq {α β:Type} [ae α] [ae β] [DecidableEq α] {D:TypeDesc} {A:List Nat} {W:World} {u:Value} {x:α} (hu:(I.of x).holds A W u)
 (hs:∀ v (y:α),(I.of y).holds A W v→Instr.sameNow D u v=none∨Instr.sameNow D u v=some (decide (x=y))) (Bl:List (α × β)):∀ {es:List MapEntry} {dx:List (α × β)} (i:Nat),kg A W es dx→
 Instr.findNow D u es i=none∨ ∃ r,Instr.findNow D u es i=some r∧Found A W Bl r (ld dx x i)
 | [],_,i,h=>by cases h; exact .inr ⟨none,rfl,trivial⟩
 | e :: es,_,i,h=>by
   cases h with
   | cons J aa av=>
     rename_i k v r
     rcases hs e.key k J with aO | aO
     ·exact .inl (by simp [Instr.findNow,aO])
     ·by_cases ar:x=k
      ·exact .inr ⟨some (i,e.val),by simp [Instr.findNow,aO,ar],by simp only [ld,if_pos ar]; exact⟨rfl,aa⟩⟩
      ·rcases Kq hu hs Bl (i + 1) av with aS | ⟨jr,aS,aY⟩
       ·exact .inl (by simp [Instr.findNow,aO,ar,aS])
       ·exact .inr ⟨jr,by simp [Instr.findNow,aO,ar,aS],by simp only [ld,if_neg ar]; exact aY⟩
theorem J8 {α β:Type} [ae α] [ae β] [DecidableEq α] {P:Program} {t:TypeId} (kl:n9 P t α) {A:List Nat} {W:World} {u:Value} {x:α} (hu:(I.of x).holds A W u) (Bl:List (α × β)):∀ {es:List MapEntry} {dx:List (α × β)} (i:Nat),kg A W es dx→
 ∃ r,(Instr.findAsking t u es i).run P W= .ok r W∧Found A W Bl r (ld dx x i)
 | [],_,i,h=>by cases h; exact⟨none,rfl,trivial⟩
 | e :: es,_,i,h=>by
   cases h with
   | cons J aa av=>
     rename_i k v r
     have aO:=kl.same A W u e.key x k hu J
     by_cases ar:x=k
     ·exact⟨some (i,e.val),by simp [Instr.findAsking,Sem.run_bind,aO,ar],by simp only [ld,if_pos ar]; exact⟨rfl,aa⟩⟩
     ·obtain⟨jr,aS,aY⟩:=J8 kl hu Bl (i + 1) av
      exact⟨jr,by simp [Instr.findAsking,Sem.run_bind,aO,ar,aS],by simp only [ld,if_neg ar]; exact aY⟩
theorem FB {α β:Type} [ae α] [ae β] [DecidableEq α] {P:Program} {t:TypeId} (kl:n9 P t α) {A:List Nat} {W:World} {u:Value} {x:α} (hu:(I.of x).holds A W u) {es:List MapEntry} {dx:List (α × β)} (h:kg A W es dx):
 ∃ r,(Instr.findKey t u es).run P W= .ok r W∧Found A W dx r (ld dx x 0):=by
 obtain⟨D,k1,hs⟩:=kl.now
 rcases Kq hu (fun v y a4=>hs A W u v x y hu a4) dx 0 h with J | ⟨r,J,aa⟩
 ·obtain⟨r,av,aO⟩:=J8 kl hu dx 0 h
  exact⟨r,by simp [Instr.findKey,Sem.run_bind,run_underlying k1,J,av],aO⟩
 ·exact⟨r,by simp [Instr.findKey,Sem.run_bind,run_underlying k1,J],aa⟩
theorem Gb {α β:Type} [ae α] [ae β] [DecidableEq α] {A:List Nat} {W:World} {x:α} :∀ {es:List MapEntry} {dx:List (α × β)} {j i:Nat} {v:β},kg A W es dx→ld dx x j=some (i,v)→
 ∃ m e,i=j + m∧es[m]? =some e∧ (I.of x).holds A W e.key∧ (∀ (e':MapEntry) (y:β),(I.of x).holds A W e'.key→ (I.of y).holds A W e'.val→kg A W (es.set m e') (fc dx x y))∧kg A W (es.eraseIdx m) (gW dx x)
 | [],_,j,i,v,h,aV=>by cases h; cases aV
 | e :: es,_,j,i,v,h,aV=>by
   cases h with
   | cons J aa av=>
     rename_i k rh r
     by_cases ar:x=k
     ·subst ar
      simp only [ld,if_pos] at aV
      simp only [Option.some.injEq,Prod.mk.injEq] at aV
      exact⟨0,e,by omega,rfl,J,fun e' y ax a5=>by simp only [fc,if_pos]; exact .cons ax a5 av,by simp only [gW,if_pos]; exact av⟩
     ·simp only [ld,if_neg ar] at aV
      obtain⟨m,e',ax,a5,bH,c9,kj⟩:=Gb av aV
      exact⟨m + 1,e',by omega,by simpa using a5,bH,fun Bm y aN dR=>by simp only [fc,if_neg ar]; exact .cons J aa (c9 Bm y aN dR),by simp only [gW,if_neg ar]; exact .cons J aa kj⟩
theorem FO {α β:Type} [ae α] [ae β] [DecidableEq α] {A:List Nat} {W:World} {x:α} :∀ {es:List MapEntry} {dx:List (α × β)} {j:Nat},kg A W es dx→ld dx x j=none→
 (∀ (e':MapEntry) (y:β),(I.of x).holds A W e'.key→ (I.of y).holds A W e'.val→kg A W (es ++ [e']) (fc dx x y))∧gW dx x=dx
 | [],_,j,h,_=>by cases h; exact⟨fun e' y J aa=> .cons J aa .nil,rfl⟩
 | e :: es,_,j,h,aV=>by
   cases h with
   | cons J aa av=>
     rename_i k rh r
     by_cases ar:x=k
     ·simp [ld,ar] at aV
     ·simp only [ld,if_neg ar] at aV
      obtain⟨ax,a5⟩:=FO av aV
      exact⟨fun e' y aN dR=>by simp only [fc,if_neg ar]; exact .cons J aa (ax e' y aN dR),by simp only [gW,if_neg ar,a5]⟩
theorem kg.length {α β:Type} [ae α] [ae β] {A W} :∀ {es:List MapEntry} {dx:List (α × β)},kg A W es dx→es.length=dx.length
 | _,_,.nil=>rfl
 | _,_,.cons _ _ r=>by simp [r.length]
theorem KO {α β:Type} [DecidableEq α]:∀ (dx:List (α × β)) (x:α) (i:Nat),(ld dx x i).map (·.2)=cK dx x
 | [],_,_=>rfl
 | (k,v) :: r,x,i=>by simp only [ld,cK]; split <;> simp [KO]
section
variable {c:cY} {E:List (Nat × I)} {L:List aI} {ops:Array Oper} {Q:Exit→Act→World→Prop}
variable {d:Option Tmp} {ty:TypeId} {pos:String} {af:Array Edge} {g:Option (Nat × Bool)} {x y z:Operand} {t t2:TypeId}
variable {bM:Type} [e0 bM] {hp:aH bM} {loc:List aI}
theorem ah.TK {α β:Type} [ae α] [ae β] {rest:List Oper} {a7:Nat} (mk:bM) (ar:∀ p,e0.hH p mk= [⟨some p,.map ([]:List (α × β))⟩]) (aF:Nat.blt a7 c.n=true)
 (k:∀ p,p ∉ cX hp→ah c ops Q rest ((a7,.of (⟨some p⟩:fT)) :: E) (loc ++ aZ ((p,mk) :: hp))):ah c ops Q (⟨some a7,.makeMap t none,ty,pos,af,none⟩ :: rest) E (loc ++ aZ hp):=fun a W s=>by
 refine hO rfl (R:=fun v W'=>v= .map (some W.heap.size)∧W'=W.alloc (.map #[] 0)) (.lx ?_ ⟨rfl,rfl⟩) fun v W' ⟨a3,hw⟩=> ?_
 ·simp only [execOp,Instr.makeMap,newObj,Sem.run_bind,Sem.run_pure]; rfl
 ·subst a3
  subst hw
  refine k _ s.fresh _ _ (bC.put ?_ (by simpa using aF) (vg.2 rfl))
  refine(s.alloc (cp:= .map ([]:List (α × β))) ⟨#[],0,rfl,.nil,by simp,by simp⟩).perm ?_
  simp only [aZ,ar,List.singleton_append]
  exact List.perm_middle.symm
theorem ah.GM {α β:Type} [ae α] [ae β] {rest:List Oper} {a7:Nat} (n:Nat) (aq:L.drop n=aZ hp) (mk:bM) (ar:∀ p,e0.hH p mk= [⟨some p,.map ([]:List (α × β))⟩]) (aF:Nat.blt a7 c.n=true) (k:∀ a:Nat × aH bM,a.1 ∉ hp.map (·.1)∧a.2=(a.1,mk) :: hp→ah c ops Q rest ((a7,.of (⟨some a.1⟩:fT)) :: E) (L.take n ++ aZ a.2)):ah c ops Q (⟨some a7,.makeMap t none,ty,pos,af,none⟩ :: rest) E L:=by
 have e:L=L.take n ++ aZ hp:=by rw [← aq,List.take_append_drop]
 clear aq
 generalize L.take n=loc at *
 subst e
 exact ah.TK (α:=α) (β:=β) mk ar aF fun p h=>k (p,(p,mk) :: hp) ⟨h,rfl⟩
theorem bC.DT {a:Act} {W:World} (s:bC c E L a W) {p:Nat} {α β:Type} [ae α] [ae β] {dx:List (α × β)} (hm:(⟨some p,.map dx⟩:aI)∈L):
 ∃ es clock,W.heap[p]? =some (.map es clock)∧kg (aK L ++ c.bL) W es.toList dx∧ (∀ x∈es.toList,x.born < clock)∧ (es.toList.map MapEntry.born).Nodup:=by
 obtain⟨o,a6,es,clock,rfl,aa,av,aO⟩:=s.own _ hm
 exact⟨es,clock,a6,aa,av,aO⟩
theorem KP {a:Act} {W:World} (s:bC c E L a W) {p key elem:Nat} {α β:Type} [ae α] [ae β] [DecidableEq α] [Inhabited β] {dx:List (α × β)} {i:α} (hu:c.P.underlying t=some (.map key elem)) (kl:n9 c.P key α) (gC:cz c.P elem (default:β))
 (ai:a8 c E L x (.of (⟨some p⟩:fT))) (a4:a8 c E L y (.of i)) (hm:(⟨some p,.map dx⟩:aI)∈L):
 ∃ u,(I.of ((cK dx i).getD default)).holds (aK L ++ c.bL) W u∧ ∀ ok,(Instr.lookup t (a.eval x) (a.eval y) ok).run c.P W= .ok (if ok then .tuple #[u,.bool (cK dx i).isSome] else u) W:=by
 obtain⟨es,clock,a6,aa,av,aO⟩:=s.DT hm
 have oO:=vg.1 (ai a W s)
 have qa:=a4 a W s
 obtain⟨r,aD,aV⟩:=FB kl qa aa
 obtain⟨fU,dK,ef,dc,IA⟩:=gC.zero
 have bg:(getObj p).run c.P W= .ok (.map es clock) W:=by simp [getObj,Sem.run,a6]
 have ag:=fun b=>kl.check b _ W _ i qa
 have yj:=KO dx i 0
 cases po:ld dx i 0 with
 | none=>
   rw [po] at aV yj
   cases r with
   | some q=>exact aV.elim
   | none=>
     refine⟨dK,by rw [← yj]; exact IA _ W,fun ok=> ?_⟩
     rw [← yj]
     simp [Instr.lookup,Sem.run_bind,run_underlying hu,oO,bg,ag,aD,zeroValue,typeInfo,ef,dc]
 | some q=>
   rw [po] at aV yj
   cases r with
   | none=>exact aV.elim
   | some qm=>
     refine⟨qm.2,by rw [← yj]; exact aV.2,fun ok=> ?_⟩
     rw [← yj]
     simp [Instr.lookup,Sem.run_bind,run_underlying hu,oO,bg,ag,aD]
theorem vd {p key elem:Nat} {α β:Type} [ae α] [ae β] [DecidableEq α] [Inhabited β] {dx:List (α × β)} {i:α} {r:β} (hu:c.P.underlying t=some (.map key elem)) (kl:n9 c.P key α) (gC:cz c.P elem (default:β))
 (ai:a8 c E L x (.of (⟨some p⟩:fT))) (a4:a8 c E L y (.of i)) (hm:(⟨some p,.map dx⟩:aI)∈L) (aD:(cK dx i).getD default=r):
 bO c E L ⟨d,.lookup t x y false,ty,pos,af,g⟩ (.of r):= .pure fun a W s=>by
 subst aD
 obtain⟨u,J,aa⟩:=KP s hu kl gC ai a4 hm
 have av:=aa false
 exact⟨u,by simp only [execOp,Sem.run_bind,av,Result.andThen_ok]; rfl,J⟩
theorem F0 {p key elem:Nat} {α β:Type} [ae α] [ae β] [DecidableEq α] [Inhabited β] {dx:List (α × β)} {i:α} {r:Option β} (hu:c.P.underlying t=some (.map key elem)) (kl:n9 c.P key α) (gC:cz c.P elem (default:β))
 (ai:a8 c E L x (.of (⟨some p⟩:fT))) (a4:a8 c E L y (.of i)) (hm:(⟨some p,.map dx⟩:aI)∈L) (aD:cK dx i=r):
 bO c E L ⟨d,.lookup t x y true,ty,pos,af,g⟩ (.eA [.of (r.getD default),.of r.isSome]):= .pure fun a W s=>by
 subst aD
 obtain⟨u,J,aa⟩:=KP s hu kl gC ai a4 hm
 have av:=aa true
 exact⟨_,by simp only [execOp,Sem.run_bind,av,Result.andThen_ok]; rfl,_,rfl,.cons J (.cons (of_bool.2 rfl) .nil)⟩
theorem S1 {es:List MapEntry} {m:Nat} {e e':MapEntry} (h:es[m]? =some e) (hb:e'.born=e.born):(es.set m e').map MapEntry.born=es.map MapEntry.born:=by
 apply List.ext_getElem?
 intro j
 simp only [List.getElem?_map,List.getElem?_set]
 split
 ·rename_i aB
  subst aB
  have:=(List.getElem?_eq_some_iff.1 h).1
  rw [if_pos this,h]
  simp [hb]
 ·rfl
theorem ah.UH {rest:List Oper} {op:Op} (ss:op= .mapUpdate t x y z∨op= .insert t x y z) {p key elem:Nat} {k k':bM} {α β:Type} [ae α] [ae β] [k4 α] [DecidableEq α] {dx qb:List (α × β)} {i:α} {v:β} (hu:c.P.underlying t=some (.map key elem)) (kl:n9 c.P key α)
 (ai:a8 c E (loc ++ aZ hp) x (.of (⟨some p⟩:fT))) (a4:a8 c E (loc ++ aZ hp) y (.of i)) (dc:a8 c E (loc ++ aZ hp) z (.of v)) (hp':pat hp p=some k) (ar:e0.hH p k= [⟨some p,.map dx⟩]) (wG:fc dx i v=qb) (jB:e0.hH p k'= [⟨some p,.map qb⟩])
 (m0:ah c ops Q rest E (loc ++ aZ (ch hp p k'))):ah c ops Q (⟨none,op,ty,pos,af,none⟩ :: rest) E (loc ++ aZ hp):=fun a W s=>by
 subst wG
 obtain⟨es,clock,a6,aa,av,aO⟩:=s.DT (eK (n:=loc.length) (by simp) hp' ar)
 have oO:=vg.1 (ai a W s)
 have qa:=a4 a W s
 have O5:=dc a W s
 obtain⟨r,aD,aV⟩:=FB kl qa aa
 have bg:(getObj p).run c.P W= .ok (.map es clock) W:=by simp [getObj,Sem.run,a6]
 have ag:=kl.check false _ W _ i qa
 have bY:p < W.heap.size:=(Array.getElem?_eq_some_iff.1 a6).1
 have lA:∀ o,(setObj p o).run c.P W= .ok () (W.putObj p o):=fun o=>by simp only [setObj,Sem.run,a6]; rfl
 have key:∃ mi xB,(Instr.mapUpdate t (a.eval x) (a.eval y) (a.eval z)).run c.P W= .ok () (W.putObj p (.map mi xB))∧kg (aK (loc ++ aZ hp) ++ c.bL) W mi.toList (fc dx i v)∧ (∀ x∈mi.toList,x.born < xB)∧ (mi.toList.map MapEntry.born).Nodup:=by
  cases po:ld dx i 0 with
  | none=>
    rw [po] at aV
    cases r with
    | some q=>exact aV.elim
    | none=>
      obtain⟨ax,_⟩:=FO aa po
      refine⟨es.push { key:=a.eval y,val:=a.eval z,born:=clock },clock + 1,by simp [Instr.mapUpdate,Sem.run_bind,run_underlying hu,oO,bg,ag,aD,lA],by simpa using ax { key:=a.eval y,val:=a.eval z,born:=clock } v qa O5,?_,?_⟩
      ·intro q hq
       simp only [Array.toList_push,List.mem_append,List.mem_singleton] at hq
       rcases hq with hq | rfl
       ·exact Nat.lt_succ_of_lt (av q hq)
       ·exact Nat.lt_succ_self _
      ·simp only [Array.toList_push,List.map_append,List.map_cons,List.map_nil]
       refine List.nodup_append.2 ⟨aO,by simp,fun b hb b' wq=> ?_⟩
       simp only [List.mem_singleton] at wq
       subst wq
       obtain⟨q,hq,rfl⟩:=List.mem_map.1 hb
       exact Nat.ne_of_lt (av q hq)
  | some q=>
    rw [po] at aV
    cases r with
    | none=>exact aV.elim
    | some qm=>
      obtain⟨m,e,ax,a5,bH,c9,_⟩:=Gb aa po
      have fp:qm.1=m:=by have:=aV.1; omega
      have hq:es[m]? =some e:=by simpa using a5
      have kf:=Ss (P:=c.P) bH qa W
      let e':MapEntry:= { e with key:=a.eval y,val:=a.eval z }
      have AD:(es.modify m fun e=> { e with key:=a.eval y,val:=a.eval z }).toList=es.toList.set m e':=by
       apply List.ext_getElem?
       intro j
       rw [Array.getElem?_toList,Array.getElem?_modify,List.getElem?_set,Array.getElem?_toList]
       by_cases aB:m=j
       ·subst aB
        rw [if_pos rfl,if_pos rfl,hq,if_pos (by simpa using (Array.getElem?_eq_some_iff.1 hq).1)]
        rfl
       ·rw [if_neg aB,if_neg aB]
      refine⟨es.modify m fun e=> { e with key:=a.eval y,val:=a.eval z },clock,by simp [Instr.mapUpdate,Sem.run_bind,run_underlying hu,oO,bg,ag,aD,lA,fp,hq,kf],by rw [AD]; exact c9 e' v qa O5,?_,?_⟩
      ·rw [AD]
       intro w hw
       rcases List.mem_or_eq_of_mem_set hw with hw | rfl
       ·exact av w hw
       ·exact av e (List.mem_of_getElem? a5)
      ·rw [AD,S1 (e':=e') a5 rfl]; exact aO
 obtain⟨mi,xB,jP,az,aX,dS⟩:=key
 obtain⟨R,ba,bh⟩:=u0 hp'
 have bh:=bh k'
 rw [ar] at ba
 rw [jB] at bh
 have ck:∀ {z:List (α × β)} {M:List aI},M.Perm ([⟨some p,.map z⟩] ++ R)→ (loc ++ M).Perm (⟨some p,.map z⟩ :: (loc ++ R)):=fun h=>(h.append_left loc).trans (by simp only [List.singleton_append]; exact List.perm_middle)
 have bR:=(s.perm (ck ba)).qW (i:=0) (cp':= .map (fc dx i v)) rfl (o':= .map mi xB) ⟨mi,xB,rfl,az.mono (m7 (ck ba)),aX,dS⟩
 refine hO rfl (R:=fun v W'=>W'=W.putObj p (.map mi xB)) (.xr ?_ rfl) fun v W' hw=> ?_
 ·rcases ss with rfl | rfl <;> simp [execOp,jP]
 ·subst hw
  exact m0 _ _ (bR.perm (ck bh).symm)
theorem ah.Hd {rest:List Oper} {op:Op} (n:Nat) (aq:L.drop n=aZ hp) (ss:op= .mapUpdate t x y z∨op= .insert t x y z) {p key elem:Nat} {k k':bM} {bI:aH bM} {α β:Type} [ae α] [ae β] [k4 α] [DecidableEq α] {dx qb:List (α × β)} {i:α} {v:β} (hu:c.P.underlying t=some (.map key elem)) (kl:n9 c.P key α) (ai:a8 c E L x (.of (⟨some p⟩:fT))) (a4:a8 c E L y (.of i)) (dc:a8 c E L z (.of v)) (hp':pat hp p=some k) (ar:e0.hH p k= [⟨some p,.map dx⟩]) (wG:fc dx i v=qb) (jB:e0.hH p k'= [⟨some p,.map qb⟩]) (dc:ch hp p k'=bI) (m0:ah c ops Q rest E (L.take n ++ aZ bI)):ah c ops Q (⟨none,op,ty,pos,af,none⟩ :: rest) E L:=by
 subst dc
 have e:L=L.take n ++ aZ hp:=by rw [← aq,List.take_append_drop]
 clear aq
 generalize L.take n=loc at *
 subst e
 exact ah.UH ss hu kl ai a4 dc hp' ar wG jB m0
theorem ah.UI {rest:List Oper} {p key elem:Nat} {k k':bM} {α β:Type} [ae α] [ae β] [DecidableEq α] {dx qb:List (α × β)} {i:α} (hu:c.P.underlying t=some (.map key elem)) (kl:n9 c.P key α)
 (ai:a8 c E (loc ++ aZ hp) x (.of (⟨some p⟩:fT))) (a4:a8 c E (loc ++ aZ hp) y (.of i)) (hp':pat hp p=some k) (ar:e0.hH p k= [⟨some p,.map dx⟩]) (wG:gW dx i=qb) (jB:e0.hH p k'= [⟨some p,.map qb⟩])
 (m0:ah c ops Q rest E (loc ++ aZ (ch hp p k'))):ah c ops Q (⟨none,.call ⟨.builtin .delete,#[x,y],#[t,t2]⟩,ty,pos,af,none⟩ :: rest) E (loc ++ aZ hp):=fun a W s=>by
 subst wG
 obtain⟨es,clock,a6,aa,av,aO⟩:=s.DT (eK (n:=loc.length) (by simp) hp' ar)
 have oO:=vg.1 (ai a W s)
 have qa:=a4 a W s
 obtain⟨r,aD,aV⟩:=FB kl qa aa
 have bg:(getObj p).run c.P W= .ok (.map es clock) W:=by simp [getObj,Sem.run,a6]
 have ag:=fun b=>kl.check b _ W _ i qa
 have lA:∀ o,(setObj p o).run c.P W= .ok () (W.putObj p o):=fun o=>by simp only [setObj,Sem.run,a6]; rfl
 have key:∃ mi,(Builtin.delete_ #[t,t2] ty #[a.eval x,a.eval y]).run c.P W= .ok (.tuple #[]) (W.putObj p (.map mi clock))∧kg (aK (loc ++ aZ hp) ++ c.bL) W mi.toList (gW dx i)∧ (∀ x∈mi.toList,x.born < clock)∧ (mi.toList.map MapEntry.born).Nodup:=by
  cases po:ld dx i 0 with
  | none=>
    rw [po] at aV
    cases r with
    | some q=>exact aV.elim
    | none=>
      obtain⟨_,ax⟩:=FO aa po
      exact⟨es,by simp [Builtin.delete_,Sem.run_bind,run_underlying hu,oO,bg,ag,aD,lA],by rw [ax]; exact aa,av,aO⟩
  | some q=>
    rw [po] at aV
    cases r with
    | none=>exact aV.elim
    | some qm=>
      obtain⟨m,e,ax,a5,_,_,kj⟩:=Gb aa po
      have fp:qm.1=m:=by have:=aV.1; omega
      have hm:m < es.size:=by simpa using (List.getElem?_eq_some_iff.1 a5).1
      have he:(es.eraseIdxIfInBounds m).toList=es.toList.eraseIdx m:=by simp [Array.eraseIdxIfInBounds,hm]
      have kR:(es.toList.eraseIdx m).Sublist es.toList:=List.eraseIdx_sublist _ _
      exact⟨es.eraseIdxIfInBounds m,by simp [Builtin.delete_,Sem.run_bind,run_underlying hu,oO,bg,ag,aD,lA,fp],by rw [he]; exact kj,by rw [he]; exact fun w hw=>av w (kR.subset hw),by rw [he]; exact(kR.map _).nodup aO⟩
 obtain⟨mi,jP,az,aX,dS⟩:=key
 obtain⟨R,ba,bh⟩:=u0 hp'
 have bh:=bh k'
 rw [ar] at ba
 rw [jB] at bh
 have ck:∀ {z:List (α × β)} {M:List aI},M.Perm ([⟨some p,.map z⟩] ++ R)→ (loc ++ M).Perm (⟨some p,.map z⟩ :: (loc ++ R)):=fun h=>(h.append_left loc).trans (by simp only [List.singleton_append]; exact List.perm_middle)
 have bR:=(s.perm (ck ba)).qW (i:=0) (cp':= .map (gW dx i)) rfl (o':= .map mi clock) ⟨mi,clock,rfl,az.mono (m7 (ck ba)),aX,dS⟩
 refine hO rfl (R:=fun v W'=>W'=W.putObj p (.map mi clock)) (.lx (v:= .tuple #[]) ?_ rfl) fun v W' hw=> ?_
 ·simp [execOp,resolve,invoke,builtin,jP]
 ·subst hw
  exact m0 _ _ (bR.perm (ck bh).symm)
theorem ah.Hp {rest:List Oper} {p key elem:Nat} {k k':bM} {bI:aH bM} {α β:Type} [ae α] [ae β] [DecidableEq α] {dx qb:List (α × β)} {i:α} (n:Nat) (aq:L.drop n=aZ hp) (hu:c.P.underlying t=some (.map key elem)) (kl:n9 c.P key α) (ai:a8 c E L x (.of (⟨some p⟩:fT))) (a4:a8 c E L y (.of i)) (hp':pat hp p=some k) (ar:e0.hH p k= [⟨some p,.map dx⟩]) (wG:gW dx i=qb) (jB:e0.hH p k'= [⟨some p,.map qb⟩]) (dc:ch hp p k'=bI) (m0:ah c ops Q rest E (L.take n ++ aZ bI)):ah c ops Q (⟨none,.call ⟨.builtin .delete,#[x,y],#[t,t2]⟩,ty,pos,af,none⟩ :: rest) E L:=by
 subst dc
 have e:L=L.take n ++ aZ hp:=by rw [← aq,List.take_append_drop]
 clear aq
 generalize L.take n=loc at *
 subst e
 exact ah.UI hu kl ai a4 hp' ar wG jB m0
theorem Tj {p key elem:Nat} {α β:Type} [ae α] [ae β] {dx:List (α × β)} (hu:c.P.underlying t=some (.map key elem)) (ai:a8 c E L x (.of (⟨some p⟩:fT))) (hm:(⟨some p,.map dx⟩:aI)∈L):
 bO c E L ⟨d,.call ⟨.builtin .len,#[x],#[t]⟩,ty,pos,af,g⟩ (.of (dx.length:Int)):= .pure fun a W s=>by
 obtain⟨es,clock,a6,aa,av,aO⟩:=s.DT hm
 have oO:=vg.1 (ai a W s)
 have bg:(getObj p).run c.P W= .ok (.map es clock) W:=by simp [getObj,Sem.run,a6]
 have an:es.size=dx.length:=by simpa using aa.length
 refine⟨.int .i64 dx.length,?_,of_int.2 rfl⟩
 simp [execOp,resolve,invoke,builtin,Builtin.len_,oO,bg,an,run_underlying hu,goInt]
end
theorem UJ {P:Program} {t:TypeId} (h:P.underlying t=some (.int .i64)):n9 P t Int where
 check b A W u x ai:=Ld (α:=Int) h rfl b 10000 A W u x (by decide) ai
 same A W u v x y ai a4:=by
  have:=(L7 h).run 10000 (by decide) A W u v x y ai a4
  simpa [Op.equal,Op.maxDepth] using this
 now:=⟨_,h,fun A W u v x y ai a4=> .inr (by
  rw [of_int.1 ai,of_int.1 a4]
  simp only [Instr.sameNow,if_pos]
  rfl)⟩
theorem MJ {P:Program} {t:TypeId} {α:Type} [ae α] [DecidableEq α] {D:TypeDesc} {n m:Nat} (h:P.underlying t=some D) (k1:(match (motive:=TypeDesc→Bool) D with | .array _ _ | .struct _=>true | _=>false)=true) (aal:ri P t α n) (wX:mf P t α m) (aF:Nat.ble n 10000=true) (hm:Nat.ble m 10000=true):n9 P t α where
 check b A W u x ai:=aal b 10000 A W u x (Nat.le_of_ble_eq_true aF) ai
 same A W u v x y ai a4:=by
  have:=wX.run 10000 (Nat.le_of_ble_eq_true hm) A W u v x y ai a4
  simpa [Op.equal,Op.maxDepth] using this
 now:=⟨_,h,fun A W u v x y ai a4=> .inl (by cases D <;> simp at k1 <;> rfl)⟩
structure hZ (P:Program) (t:TypeId) (name:String) (f:FuncId):Prop where
 run:∀ v W args,(callMethod (.iface t v) name args).run P W= .ok (.enter f (#[v] ++ args)) W
theorem hZ.of {P:Program} {t:TypeId} {name:String} {f:FuncId} {i:TypeInfo} {D:TypeDesc} {m:Method} (ao:P.info? t=some i) (hm:i.methods.find? (fun x=>x.name ==name)=some m) (hp:m.path= #[]) (aV:m.func=some (f,false)) (k1:P.underlying t=some D)
 (aF:(match (motive:=TypeDesc→Bool) D with | .pointer _=>false | _=>true)=true) (er:bV P f):hZ P t name f where
 run v W args:=by
  have ZE:∀ args,(callFunc f args).run P W= .ok (.enter f args) W:=fun args=>er.run ..
  have ed:∀ n,(method (n + 1) t v name).run P W= .ok (f,v) W:=fun n=>by
   simp only [method,Sem.run_bind,typeInfo,run_program,Result.andThen_ok,ao,Sem.run_pure,hm,hp,aV,follow,receiverAt,run_underlying k1]
   cases D <;> simp at aF <;> simp [Place.get]
  obtain⟨n,aF⟩:∃ n,P.types.size + Made.depth=n + 1:=⟨P.types.size + Made.depth - 1,by simp [Made.depth]⟩
  simp only [callMethod,Sem.run_bind,run_program,Result.andThen_ok,aF,ed,ZE]
theorem hZ.pq {P:Program} {t:TypeId} {name:String} {f:FuncId} {D:TypeDesc} (hm:((P.info? t).bind fun i=>(i.methods.find? (fun x=>x.name ==name)).map fun m=>(m.path.size,m.func))=some (0,some (f,false))) (k1:P.underlying t=some D)
 (aF:(match (motive:=TypeDesc→Bool) D with | .pointer _=>false | _=>true)=true) (er:bV P f):hZ P t name f:=by
 cases ao:P.info? t with
 | none=>rw [ao] at hm; cases hm
 | some i=>
   rw [ao] at hm
   simp only [Option.bind_some] at hm
   cases aa:i.methods.find? (fun x=>x.name ==name) with
   | none=>rw [aa] at hm; cases hm
   | some m=>
     rw [aa] at hm
     simp only [Option.map_some,Option.some.injEq,Prod.mk.injEq] at hm
     exact hZ.of ao aa (Array.eq_empty_of_size_eq_zero hm.1) hm.2 k1 aF er
theorem bN.map {P:Program} {f:FuncId} {τs:List I} {Lin:List aI} {δ IT:Type} {ρ:δ→I} {Lo:δ→List aI} {Bn:IT→I} {O6:IT→List aI} (F:δ→IT) (aD:∀ d,Bn (F d)=ρ d) (an:∀ d,O6 (F d)=Lo d) (h:bN P f τs Lin ρ Lo):bN P f τs Lin Bn O6:=
 fun A W vs J aa av aO aS=>(h A W vs J aa av aO aS).mono fun e W' ⟨v,d,aN,dR,hJ,uq,iX,mY⟩=>⟨v,F d,aN,dR,by rw [an]; exact hJ,by rw [an]; exact uq,by rw [an]; exact iX,by rw [an,aD]; exact mY⟩
structure kr (P:Program) (name:String) (τ:I) (τs:List I) (Lin:List aI) {δ:Type} (ρ:δ→I) (Lo:δ→List aI):Prop where
 go:∀ (A:List Nat) (W:World) (u:Value) (vs:List Value),(∀ k∈A,k < W.heap.size∧k ∉ aK Lin)→ (aK Lin).Nodup→ (∀ k∈aK Lin,k < W.heap.size)→ (∀ e∈Lin,e.ok (aK Lin ++ A) W)→gu (aK Lin ++ A) W (τ :: τs) (u :: vs)→
  ∃ f v,(∀ args,(callMethod u name args).run P W= .ok (.enter f (#[v] ++ args)) W)∧Calls P f (v :: vs).toArray W (j6 (aK Lin) A W ρ Lo)
theorem kr.of {P:Program} {name:String} {t:TypeId} {f:FuncId} {τ σ:I} {τs:List I} {Lin:List aI} {δ:Type} {ρ:δ→I} {Lo:δ→List aI} (mt:hZ P t name f) (IU:∀ A W u,τ.holds A W u→ ∃ v,u= .iface t v∧σ.holds A W v)
 (h:bN P f (σ :: τs) Lin ρ Lo):kr P name τ τs Lin ρ Lo where
 go A W u vs J aa av aO aS:=by
  cases aS with
  | cons aY b7=>
    obtain⟨v,rfl,dV⟩:=IU _ _ _ aY
    exact⟨f,v,fun args=>mt.run v W args,h A W (v :: vs) J aa av aO (.cons dV b7)⟩
section
variable {c:cY} {E:List (Nat × I)} {L:List aI} {ops:Array Oper} {Q:Exit→Act→World→Prop}
variable {d:Option Tmp} {ty:TypeId} {pos:String} {af:Array Edge} {g:Option (Nat × Bool)} {x y z:Operand} {t t2:TypeId}
theorem LB {a:Act} {W:World} {name:String} {xs:List Operand} {ats:Array TypeId} {τ:I} {τs:List I} {Lin Lr:List aI} {δ:Type} {ρ:δ→I} {Lo:δ→List aI} (h:kr c.P name τ τs Lin ρ Lo)
 (s:bC c E (Lin ++ Lr) a W) (ai:gu (aK (Lin ++ Lr) ++ c.bL) W (τ :: τs) ((x :: xs).map a.eval)):
 gx c.P ⟨d,.call ⟨.invoke x name,xs.toArray,ats⟩,ty,pos,af,g⟩ a W fun v W'=> ∃ a7,bC c E (Lo a7 ++ Lr) a W'∧ (ρ a7).holds (aK (Lo a7 ++ Lr) ++ c.bL) W' v:=by
 have l7:=s.nodup
 rw [e4] at l7
 obtain⟨nq,oN,p5⟩:=List.nodup_append.1 l7
 have lA:Ext (aK (Lin ++ Lr) ++ c.bL) W (aK Lin ++ (aK Lr ++ c.bL)) W:=zz
 have gK:∀ k∈aK Lr ++ c.bL,k < W.heap.size∧k ∉ aK Lin:=fun k hm=>by
  rcases List.mem_append.1 hm with hm | hm
  ·exact⟨s.lt k (by rw [e4]; exact List.mem_append.2 (.inr hm)),fun h=>p5 k h k hm rfl⟩
  ·obtain⟨J,aa⟩:=s.ew k hm
   exact⟨J,fun h=>aa (by rw [e4]; exact List.mem_append.2 (.inl h))⟩
 have bY:∀ k∈aK Lin,k < W.heap.size:=fun k hm=>s.lt k (by rw [e4]; exact List.mem_append.2 (.inl hm))
 obtain⟨f,v,jP,ag⟩:=h.go (aK Lr ++ c.bL) W (a.eval x) (xs.map a.eval) gK nq bY (fun e he=>aI.tv (s.own e (List.mem_append.2 (.inl he))) lA fun _ _=>rfl) (by simpa using ai.mono lA)
 refine .u6 (f:=f) (args:=(v :: xs.map a.eval).toArray) (W':=W) ?_ (ag.mono fun e W' ⟨v,a7,he,aV,J,aa,av,aO⟩=> ?_)
 ·have:=jP (xs.map a.eval).toArray
  simp only [execOp,resolve,Sem.run_bind,Sem.run_pure,Result.andThen_ok,invoke]
  simp only [List.map_toArray] at this ⊢
  simp
  rw [List.take_of_length_le (by simp),this]
  simp
 ·refine⟨v,he,a7,s.after aV J aa av,(ρ a7).mono Ga aO⟩
variable {bM:Type} [e0 bM] {hp:aH bM}
theorem ah.xU {rest:List Oper} {a7:Nat} {name:String} {xs:List Operand} {ats:Array TypeId} {τ:I} {τs:List I} {Lin Lr:List aI} {δ:Type} {ρ:δ→I} {Lo:δ→List aI} {hq:δ→aH bM} (n m:Nat) (aq:L.drop n=aZ hp) (h:kr c.P name τ τs (Lin ++ aZ hp) ρ (fun d=>Lo d ++ aZ (hq d)))
 (J:(L.take n).take m=Lin) (aa:(L.take n).drop m=Lr) (ai:ht c E L (x :: xs) (τ :: τs)) (aF:Nat.blt a7 c.n=true) (k:∀ q,ah c ops Q rest ((a7,ρ q) :: E) ((Lo q ++ Lr) ++ aZ (hq q))):
 ah c ops Q (⟨some a7,.call ⟨.invoke x name,xs.toArray,ats⟩,ty,pos,af,none⟩ :: rest) E L:=by
 have e:L=(Lin ++ Lr) ++ aZ hp:=by rw [← J,← aa,List.take_append_drop,← aq,List.take_append_drop]
 clear aq J aa
 subst e
 exact fun a W s=>hO rfl (LB (Lr:=Lr) h (s.perm nG) ((ai.holds a W s).mono (m7 nG))) fun v W' ⟨q,bR,a3⟩=>
  k q _ _ ((bR.perm nG).put (by simpa using aF) ((ρ q).mono (m7 nG) a3))
theorem fr.xU {name:String} {xs:List Operand} {ats:Array TypeId} {τ:I} {τs:List I} {ρ:I} (n:Nat) (aq:L.drop n=aZ hp) (h:kr c.P name τ τs (aZ hp) (fun _:Unit=>ρ) (fun _=>aZ hp))
 (ai:ht c E L (x :: xs) (τ :: τs)):fr c E L ⟨d,.call ⟨.invoke x name,xs.toArray,ats⟩,ty,pos,af,g⟩ ρ:=fun a W s=>by
 have e:L=L.take n ++ aZ hp:=by rw [← aq,List.take_append_drop]
 have ck:L.Perm (aZ hp ++ L.take n):=by
  conv=>lhs; rw [e]
  exact List.perm_append_comm
 have a6:=LB (d:=d) (ty:=ty) (pos:=pos) (af:=af) (g:=g) (ats:=ats) (Lr:=L.take n) h (s.perm ck) ((ai.holds a W s).mono (m7 ck))
 unfold gx at a6 ⊢
 exact Oper.wp_mono (fun gn W' ⟨v,J,_,aa,av⟩=>⟨v,J,aa.perm ck.symm,ρ.mono (m7 ck.symm) av⟩) a6
theorem GO {D:TypeDesc} {σ τ:I} (hu:c.P.underlying t=some D) (k1:(match (motive:=TypeDesc→Bool) D with | .interface _=>false | _=>true)=true) (ai:a8 c E L x σ) (IU:∀ A W v,σ.holds A W v→τ.holds A W (.iface t v)):
 bO c E L ⟨d,.makeInterface t x,ty,pos,af,g⟩ τ:= .pure fun a W s=>
 ⟨.iface t (a.eval x),by
   simp only [execOp,Instr.makeInterface,Sem.run_bind,run_underlying hu,Result.andThen_ok]
   cases D <;> simp at k1 <;> rfl,IU _ _ _ (ai a W s)⟩
end
end Gv
