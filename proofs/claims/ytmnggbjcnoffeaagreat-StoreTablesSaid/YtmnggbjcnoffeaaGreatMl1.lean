/-
  The library of the decompiler, as far as it is needed here. Conditions: none.
-/
import Derived.Lib.AppendZerosOnto
import Derived.Lib.Overlaps
import Derived.MapKept
import Derived.Test.YtmnggbjcnoffeaaGreatMl0
set_option linter.unusedVariables false
set_option linter.unusedSimpArgs false
namespace Gv
open Go
def jK:Value:= .slice none 0 0
def blank:List (Nat × Value)→List Value→List Value
 | [],cs=>cs
 | o :: r,cs=>blank r (cs.set o.1 jK)
theorem zh:∀ {os:List (Nat × Value)} {cs:List Value},(blank os cs).length=cs.length
 | [],_=>rfl
 | o :: r,cs=>by rw [blank,zh,List.length_set]
theorem p2:∀ {os:List (Nat × Value)} {cs:List Value} (i:Nat),(blank os cs)[i]? =if os.any (fun h=>Nat.beq h.1 i)=true then cs[i]?.map (fun _=>jK) else cs[i]?
 | [],_,i=>by simp [blank]
 | o :: r,cs,i=>by
   rw [blank,p2 i,List.any_cons]
   by_cases h:o.1=i
   ·subst h
    simp only [Nat.beq_refl,Bool.true_or,if_true,List.getElem?_set]
    by_cases ao:o.1 < cs.length
    ·simp [ao]
    ·simp [ao]
   ·have hb:Nat.beq o.1 i=false:=by
     cases hb:Nat.beq o.1 i
     ·rfl
     ·exact absurd (ej.1 hb) h
    rw [hb,Bool.false_or,List.getElem?_set_ne h]
def sK (os:List (Nat × Value)) (off n:Nat):Bool:=os.all fun h=>Nat.blt h.1 off || Nat.ble (off + n) h.1
theorem KT {os:List (Nat × Value)} {off n i:Nat} (h:sK os off n=true) (J:off≤i) (ad:i < off + n):os.any (fun h=>Nat.beq h.1 i)=false:=by
 rw [List.any_eq_false]
 intro x al hb
 have ay:=List.all_eq_true.1 h x al
 have aU:=ej.1 hb
 simp only [Bool.or_eq_true,Nat.blt_eq,Nat.ble_eq] at ay
 omega
theorem S2 {os:List (Nat × Value)} {off n:Nat} {cs:List Value} (h:sK os off n=true):((blank os cs).drop off).take n=(cs.drop off).take n:=by
 apply List.ext_getElem?
 intro i
 simp only [List.getElem?_take,List.getElem?_drop]
 split
 ·rw [p2,KT h (by omega) (by omega)]; rfl
 ·rfl
theorem tX {cs ds:List Value} {off:Nat} (h:off + ds.length≤cs.length) (i:Nat):(fH cs off ds)[i]? =if i < off then cs[i]? else if i < off + ds.length then ds[i - off]? else cs[i]? :=by
 have J:(cs.take off).length=off:=by rw [List.length_take]; omega
 unfold fH
 rw [List.append_assoc]
 by_cases ar:i < off
 ·rw [if_pos ar,List.getElem?_append_left (by omega),List.getElem?_take,if_pos ar]
 ·rw [if_neg ar,List.getElem?_append_right (by omega),J]
  by_cases ad:i < off + ds.length
  ·rw [if_pos ad,List.getElem?_append_left (by omega)]
  ·rw [if_neg ad,List.getElem?_append_right (by omega),List.getElem?_drop]
   congr 1; omega
theorem RW {os:List (Nat × Value)} {off:Nat} {cs ds:List Value} (h:sK os off ds.length=true) (hs:off + ds.length≤cs.length):blank os (fH cs off ds)=fH (blank os cs) off ds:=by
 apply List.ext_getElem?
 intro i
 rw [p2,tX hs,tX (by rw [zh]; exact hs),p2]
 by_cases J:i < off
 ·simp only [if_pos J]
 ·simp only [if_neg J]
  by_cases ad:i < off + ds.length
  ·simp only [if_pos ad,KT h (Nat.not_lt.1 J) ad]; rfl
  ·simp only [if_neg ad]
def sC (os:List (Nat × Value)) (o:Nat) (u:Value):List (Nat × Value):=
 bif os.any (fun h=>Nat.beq h.1 o) then os.map (fun h=>bif Nat.beq h.1 o then(o,u) else h) else(o,u) :: os
theorem Sa {os:List (Nat × Value)} {o:Nat} {u:Value} {h:Nat × Value} (hm:h∈sC os o u):h=(o,u)∨ (h∈os∧h.1≠o):=by
 unfold sC at hm
 cases hb:os.any (fun h=>Nat.beq h.1 o)
 ·rw [hb] at hm
  simp only [cond_false] at hm
  rcases List.mem_cons.1 hm with hm | hm
  ·exact .inl hm
  ·refine .inr ⟨hm,fun e=> ?_⟩
   have:=List.any_eq_false.1 hb h hm
   exact this (ej.2 e)
 ·rw [hb] at hm
  simp only [cond_true] at hm
  obtain⟨x,al,he⟩:=List.mem_map.1 hm
  cases J:Nat.beq x.1 o
  ·rw [J] at he
   simp only [cond_false] at he
   subst he
   exact .inr ⟨al,fun e=>by rw [ej.2 e] at J; cases J⟩
  ·rw [J] at he
   exact .inl he.symm
theorem Sb {os:List (Nat × Value)} {o i:Nat} {u:Value} :(sC os o u).any (fun h=>Nat.beq h.1 i)=(Nat.beq o i || os.any (fun h=>Nat.beq h.1 i)):=by
 unfold sC
 cases hb:os.any (fun h=>Nat.beq h.1 o)
 ·simp only [cond_false,List.any_cons]
 ·simp only [cond_true,List.any_map]
  rw [Bool.eq_iff_iff,Bool.or_eq_true,List.any_eq_true,List.any_eq_true]
  constructor
  ·rintro ⟨x,al,he⟩
   simp only [Function.comp] at he
   cases J:Nat.beq x.1 o
   ·rw [J] at he
    exact .inr ⟨x,al,he⟩
   ·rw [J] at he
    exact .inl he
  ·rintro (h | ⟨x,al,he⟩)
   ·obtain⟨x,al,J⟩:=List.any_eq_true.1 hb
    exact⟨x,al,by simp only [Function.comp,J,cond_true]; exact h⟩
   ·refine⟨x,al,?_⟩
    simp only [Function.comp]
    cases J:Nat.beq x.1 o
    ·exact he
    ·have aF:=ej.1 J; have aR:=ej.1 he
     simp only [cond_true]; exact ej.2 (by omega)
def nJ (os:List (Nat × Value)) (o:Nat):List (Nat × Value):=os.filter (fun h=> !Nat.beq h.1 o)
theorem Sc {os:List (Nat × Value)} {o i:Nat} :(nJ os o).any (fun h=>Nat.beq h.1 i)=(!(Nat.beq o i) && os.any (fun h=>Nat.beq h.1 i)):=by
 rw [Bool.eq_iff_iff]
 simp only [List.any_eq_true,Bool.and_eq_true,Bool.not_eq_true',nJ,List.mem_filter]
 constructor
 ·rintro ⟨x,⟨J,ad⟩,ay⟩
  refine⟨?_,x,J,ay⟩
  cases hb:Nat.beq o i
  ·rfl
  ·have:=ej.1 hb; have aU:=ej.1 ay
   rw [aU,← this,Nat.beq_refl] at ad; cases ad
 ·rintro ⟨bG,x,J,ay⟩
  refine⟨x,⟨J,?_⟩,ay⟩
  cases hb:Nat.beq x.1 o
  ·rfl
  ·have:=ej.1 hb; have aU:=ej.1 ay
   rw [← this,aU,Nat.beq_refl] at bG; cases bG
def kM {α:Type} [ag α] (A:List Nat) (W:World) (cs:List Value) (x:α) (os:List (Nat × Value)):Prop:=ag.rep A W (blank os cs) x∧ ∀ h∈os,cs[h.1]? =some h.2∧h.2.oneCell'=true
theorem kM.len {α:Type} [ag α] {A W} {cs:List Value} {x:α} {os:List (Nat × Value)} (h:kM A W cs x os):cs.length=ag.size α:=by rw [← zh (os:=os)]; exact ag.len h.1
theorem kM.mono {α:Type} [ag α] {A W c0 W'} {cs:List Value} {x:α} {os:List (Nat × Value)} (e:Ext A W c0 W') (h:kM A W cs x os):kM c0 W' cs x os:=⟨ag.mono e h.1,h.2⟩
theorem kM.one {α:Type} [ag α] {A W} {cs:List Value} {x:α} {os:List (Nat × Value)} (h:kM A W cs x os):∀ u∈cs,u.oneCell'=true:=by
 intro u hu
 obtain⟨i,ar⟩:=List.mem_iff_getElem?.1 hu
 by_cases hb:os.any (fun h=>Nat.beq h.1 i)=true
 ·obtain⟨o,a9,he⟩:=List.any_eq_true.1 hb
  have he:=ej.1 he
  obtain⟨J,ad⟩:=h.2 o a9
  rw [he,ar] at J
  cases J; exact ad
 ·have J:=p2 (os:=os) (cs:=cs) i
  rw [if_neg hb,ar] at J
  exact ag.one h.1 u (List.mem_of_getElem? J)
def dr.ca {α:Type} [ag α] (x:α) (os:List (Nat × Value)):dr where
 holds A W o:= ∃ cs T,o= .cells cs T (0,0)∧kM A W cs.toList x os
 l4:=False
 mono e h:=let⟨cs,T,a9,aS⟩:=h; ⟨cs,T,a9,aS.mono e⟩
def I.IZ {α:Type} [ag α] (x:α) (os:List (Nat × Value)):I where
 holds A W v:=shaped (ag.agg α) v∧kM A W v.cells.toList x os
 mono e h:=⟨h.1,h.2.mono e⟩
structure fy where
 v:Value
instance:ag fy where
 size:=1
 agg:=false
 rep _ _ cs x:=cs= [x.v]∧x.v.oneCell'=true
 len h:=by rw [h.1]; rfl
 one h:=by rw [h.1]; intro u hu; rw [List.mem_singleton.1 hu]; exact h.2
 flat _:=rfl
 mono _ h:=h
theorem NP {A W v} {u:Value} :(I.of (⟨u⟩:fy)).holds A W v↔v=u∧u.oneCell'=true:=by
 constructor
 ·rintro ⟨J,ad,ay⟩
  have J:v.oneCell'=true:=J
  exact⟨nG J ad,ay⟩
 ·rintro ⟨rfl,h⟩
  exact⟨h,by show v.cells.toList= [v]∧_; rw [oo h]; exact⟨rfl,h⟩⟩
theorem bt.ex {P:Program} {t:TypeId} {γ:Type} [ag γ] (h:bt P t (List γ)):bt P t fy:=⟨h.size,h.O9⟩
theorem iD {key:Option Nat} {n cap:Nat} :(ba key n cap).oneCell'=true:=by cases key <;> rfl
theorem Up {A W} {γ:Type} [ag γ]:ag.rep A W [jK] ([]:List γ):=⟨jK,rfl,.inl ⟨rfl,rfl⟩⟩
theorem Ly {α γ:Type} [ag α] [ag γ] {A W} {cs ds:List Value} {x:α} {v:γ} {os:List (Nat × Value)} (l:aQ α γ) (h:kM A W cs x os) (hd:ag.rep A W ds v) (bd:sK os l.off (ag.size γ)=true):kM A W (fH cs l.off ds) (l.set x v) os:=by
 have J:=h.len
 have ef:=l.fW
 have ao:=ag.len hd
 refine⟨?_,fun o hm=> ?_⟩
 ·have bl:=l.kI h.1 hd
  rw [RW (by rw [ao]; exact bd) (by rw [ao]; omega)]
  simpa [fH,ao] using bl
 ·refine⟨?_,(h.2 o hm).2⟩
  rw [tX (by rw [ao]; omega)]
  have cP:=List.all_eq_true.1 bd o hm
  simp only [Bool.or_eq_true,Nat.blt_eq,Nat.ble_eq] at cP
  rw [ao]
  by_cases eL:o.1 < l.off
  ·rw [if_pos eL]; exact(h.2 o hm).1
  ·rw [if_neg eL,if_neg (by omega)]; exact(h.2 o hm).1
theorem Lc {α γ:Type} [ag α] [ag γ] {A W} {cs:List Value} {x:α} {u:Value} {os:List (Nat × Value)} (l:aQ α (List γ)) (h:kM A W cs x os) (hu:u.oneCell'=true):kM A W (fH cs l.off [u]) (l.set x []) (sC os l.off u):=by
 have J:=h.len
 have ef:l.off + 1≤ag.size α:=l.fW
 refine⟨?_,fun o hm=> ?_⟩
 ·have bl:ag.rep A W ((blank os cs).take l.off ++ [jK] ++ (blank os cs).drop (l.off + 1)) (l.set x []):=l.kI h.1 (Up (γ:=γ))
  have e:blank (sC os l.off u) (fH cs l.off [u])=fH (blank os cs) l.off [jK]:=by
   apply List.ext_getElem?
   intro i
   rw [p2,tX (by simp; omega),tX (by rw [zh]; simp; omega),p2]
   rw [Sb]
   by_cases ar:l.off=i
   ·subst ar
    simp
   ·have hb:Nat.beq l.off i=false:=by
     cases hb:Nat.beq l.off i
     ·rfl
     ·exact absurd (ej.1 hb) ar
    rw [hb]
    simp only [Bool.false_or,List.length_singleton]
    by_cases ad:i < l.off
    ·simp only [if_pos ad]
    ·have fM: ¬ i < l.off + 1:=by omega
     simp only [if_neg ad,if_neg fM]
  rw [e]
  simpa [fH] using bl
 ·rw [tX (by simp; omega)]
  rcases Sa hm with rfl | ⟨ay,cH⟩
  ·exact⟨by simp,hu⟩
  ·
   simp only [List.length_singleton]
   refine⟨?_,(h.2 o ay).2⟩
   by_cases eL:o.1 < l.off
   ·rw [if_pos eL]; exact(h.2 o ay).1
   ·rw [if_neg eL,if_neg (by omega)]; exact(h.2 o ay).1
theorem Ld {α γ:Type} [ag α] [ag γ] {A W} {cs:List Value} {x:α} {u:Value} {xs:List γ} {os:List (Nat × Value)} (l:aQ α (List γ)) (h:kM A W cs x os) (hm:(l.off,u)∈os) (hs:nx A W u xs):kM A W cs (l.set x xs) (nJ os l.off):=by
 have J:=h.len
 have ef:l.off + 1≤ag.size α:=l.fW
 have ZC:=(h.2 _ hm).1
 refine⟨?_,fun o a9=>h.2 o (List.mem_filter.1 a9).1⟩
 have bl:ag.rep A W ((blank os cs).take l.off ++ [u] ++ (blank os cs).drop (l.off + 1)) (l.set x xs):=l.kI h.1 (ds:= [u]) (g:=xs) ⟨u,rfl,hs⟩
 have e:blank (nJ os l.off) cs=fH (blank os cs) l.off [u]:=by
  apply List.ext_getElem?
  intro i
  rw [p2,tX (by rw [zh]; simp; omega),p2,Sc]
  by_cases ar:l.off=i
  ·subst ar
   simp [ZC]
  ·have hb:Nat.beq l.off i=false:=by
    cases hb:Nat.beq l.off i
    ·rfl
    ·exact absurd (ej.1 hb) ar
   rw [hb]
   simp only [Bool.not_false,Bool.true_and,List.length_singleton]
   by_cases ad:i < l.off
   ·simp only [if_pos ad]
   ·have fM: ¬ i < l.off + 1:=by omega
    simp only [if_neg ad,if_neg fM]
 rw [e]
 simpa [fH] using bl
section
variable {c:c5} {E:List (Nat × I)} {L:List aJ} {ops:Array Oper} {Q:Exit→Act→World→Prop}
variable {d:Option Tmp} {ty:TypeId} {pos:String} {af:Array Edge} {g:Option (Nat × Bool)} {x y:Operand} {t t2:TypeId}
theorem bw.xc {a:Act} {W:World} (s:bw c E L a W) {i:Nat} {key:Option Nat} {cp cp':dr} (an:L[i]? =some ⟨key,cp⟩) (h:∀ o,cp.holds (aL L ++ c.bX) W o→cp'.holds (aL L ++ c.bX) W o) (aP:cp.l4→cp'.l4):bw c E (L.set i ⟨key,cp'⟩) a W:=by
 have gN:aL (L.set i ⟨key,cp'⟩)=aL L:=xa (e:=⟨key,cp⟩) (cp:=cp') an
 exact
 {defers:=s.defers
  size:=s.size
  env:=fun t τ ao=>by rw [gN]; exact s.env t τ ao
  dw:=s.dw
  own:=fun e he=>by
   rw [gN]
   obtain⟨j,aG⟩:=List.mem_iff_getElem?.1 he
   rw [List.getElem?_set] at aG
   split at aG
   ·split at aG
    ·simp only [Option.some.injEq] at aG
     subst aG
     have a9:=s.own _ (List.mem_of_getElem? an)
     cases key with
     | none=>exact aP a9
     | some p=>obtain⟨o,J,ad⟩:=a9; exact⟨o,J,h _ ad⟩
    ·cases aG
   ·exact s.own e (List.mem_of_getElem? aG)
  nodup:=by rw [gN]; exact s.nodup
  lt:=by rw [gN]; exact s.lt
  fD:=by rw [gN]; exact s.fD
  eF:=by rw [gN]; exact s.eF }
theorem ah.oA {l:List Oper} {p:Nat} {β:Type} [ag β] {b:β} (i:Nat) (an:L[i]? =some ⟨some p,.ca b []⟩) (k:ah c ops Q l E (L.set i ⟨some p,.var b⟩)):ah c ops Q l E L:=fun a W s=>
 k a W (s.xc an (fun o ⟨cs,T,J,ad⟩=>⟨cs,T,J,ad.1⟩) id)
theorem ae.oA {z:Exit} {p:Nat} {β:Type} [ag β] {b:β} (i:Nat) (an:L[i]? =some ⟨some p,.ca b []⟩) (k:ae c Q z E (L.set i ⟨some p,.var b⟩)):ae c Q z E L:=fun a W s=>
 k a W (s.xc an (fun o ⟨cs,T,J,ad⟩=>⟨cs,T,J,ad.1⟩) id)
theorem ai.oA {z:Code} {p:Nat} {β:Type} [ag β] {b:β} (i:Nat) (an:L[i]? =some ⟨some p,.ca b []⟩) (k:ai c Q z E (L.set i ⟨some p,.var b⟩)):ai c Q z E L:=fun a W s=>
 k a W (s.xc an (fun o ⟨cs,T,J,ad⟩=>⟨cs,T,J,ad.1⟩) id)
def Hu:Option Value→Bool
 | some (.slice none 0 0)=>true
 | _=>false
theorem KU {v:Option Value} (h:Hu v=true):v=some jK:=by
 unfold Hu at h
 split at h
 ·rfl
 ·cases h
def jd (P:Program) (t:TypeId) (hs:List Nat):Prop:=((P.info? t).bind (·.zero)).any (fun v=>hs.all fun o=>Hu v.cells.toList[o]?)=true
theorem Gl:∀ {os:List (Nat × Value)} {cs:List Value},(∀ h∈os,cs[h.1]? =some jK)→blank os cs=cs
 | [],_,_=>rfl
 | o :: r,cs,h=>by
   have J:=h o (by simp)
   have e:cs.set o.1 jK=cs:=by
    apply List.ext_getElem?
    intro i
    rw [List.getElem?_set]
    split
    ·rename_i he; subst he
     have:=(List.getElem?_eq_some_iff.1 J).1
     rw [if_pos this,J]
    ·rfl
   rw [blank,e]
   exact Gl fun x al=>h x (by simp [al])
theorem ah.oy {rest:List Oper} {bb:Nat} {α:Type} [ag α] {z:α} (hs:List Nat) (sc:jd c.P t hs) (gl:cn c.P t z) (aP:Nat.blt bb c.n=true)
 (k:∀ p,ah c ops Q rest ((bb,.eq (.pointer (some ⟨p,0,none⟩))) :: E) (⟨some p,.ca z (hs.map fun o=>(o,jK))⟩ :: L)):ah c ops Q (⟨some bb,.alloc t,ty,pos,af,none⟩ :: rest) E L:=fun a W s=>by
 obtain⟨i,dY,J,ad,ay⟩:=gl.zero
 have ck:∀ o∈hs,dY.cells.toList[o]? =some jK:=fun o a9=>by
  unfold jd at sc
  rw [J] at sc
  simp only [Option.bind_some,ad,Option.any_some] at sc
  exact KU (List.all_eq_true.1 sc o a9)
 have Pg:∀ h∈hs.map (fun o=>(o,jK)),dY.cells.toList[h.1]? =some h.2:=fun h hm=>by
  obtain⟨o,a9,rfl⟩:=List.mem_map.1 hm
  exact ck o a9
 refine g9 rfl (R:=fun v W'=>v= .pointer (some ⟨W.heap.size,0,none⟩)∧W'=W.alloc (.cells dY.cells t)) (.kj ?_ ⟨rfl,rfl⟩) fun v W' ⟨a6,hw⟩=> ?_
 ·simp [execOp,Instr.alloc,zeroValue,typeInfo,J,ad,newVar,newRow]
 ·subst a6
  subst hw
  refine k _ _ _ ((s.alloc (cp:= .ca z (hs.map fun o=>(o,jK))) ⟨dY.cells,t,rfl,?_,fun h hm=>⟨Pg h hm,by obtain⟨o,_,rfl⟩:=List.mem_map.1 hm; rfl⟩⟩).put (by simpa using aP) rfl)
  rw [Gl fun h hm=>by rw [Pg h hm]; obtain⟨o,_,rfl⟩:=List.mem_map.1 hm; rfl]
  exact(ay _ _).2
theorem ah.XX {rest:List Oper} {bb:Nat} {α:Type} [ag α] {z:α} {os:List (Nat × Value)} (al:a7 c E L x (.IZ z os)) (aP:Nat.blt bb c.n=true)
 (k:∀ p,ah c ops Q rest ((bb,.eq (.pointer (some ⟨p,0,none⟩))) :: E) (⟨some p,.ca z os⟩ :: L)):ah c ops Q (⟨some bb,.box t x,ty,pos,af,none⟩ :: rest) E L:=fun a W s=>by
 refine g9 rfl (R:=fun v W'=>v= .pointer (some ⟨W.heap.size,0,none⟩)∧W'=W.alloc (.cells (a.eval x).cells t)) (.kj ?_ ⟨rfl,rfl⟩) fun v W' ⟨a6,hw⟩=> ?_
 ·simp [execOp,Instr.box,newVar,newRow]
 ·subst a6
  subst hw
  obtain⟨J,ad⟩:=al a W s
  exact k _ _ _ ((s.alloc (cp:= .ca z os) ⟨_,t,rfl,ad⟩).put (by simpa using aP) rfl)
theorem G1 {t:TypeId} {i p o:Nat} {β γ:Type} [ag β] [ag γ] {b:β} {os:List (Nat × Value)} (l:aQ β γ) {r:γ} (ev:bt c.P t γ) (al:a7 c E L x (.eq (.pointer (some ⟨p,o,none⟩))))
 (an:L[i]? =some ⟨some p,.ca b os⟩) (a9:o=l.off) (aS:l.get b=r) (bd:sK os l.off (ag.size γ)=true):b4 c E L ⟨d,.load t x,ty,pos,af,g⟩ (.of r):= .pure fun a W s=>by
 subst a9
 subst aS
 obtain⟨jz,er,cs,T,rfl,fE⟩:=s.own _ (List.mem_of_getElem? an)
 have J:cs.toList.length=ag.size β:=fE.len
 have a0:=l.hX fE.1
 rw [S2 bd] at a0
 obtain⟨v,ad,ay⟩:=tO (A:=aL L ++ c.bX) ev er (by have:=l.fW; simp at J; omega) a0
 refine⟨v,?_,ay⟩
 have aU:a.eval x=_:=al a W s
 simp [execOp,Instr.loadAt,Instr.sureAddr,aU,ad]
theorem Uq {cs:List Value} {o:Nat} {u:Value} (h:cs[o]? =some u):(cs.drop o).take 1= [u]:=by
 apply List.ext_getElem?
 intro i
 rw [List.getElem?_take,List.getElem?_drop]
 cases i with
 | zero=>simpa using h
 | succ i=>simp
theorem hW {t:TypeId} {i p o q:Nat} {β γ:Type} [ag β] [ag γ] {b:β} {os:List (Nat × Value)} {u:Value} (ev:bt c.P t (List γ)) (al:a7 c E L x (.eq (.pointer (some ⟨p,o,none⟩))))
 (an:L[i]? =some ⟨some p,.ca b os⟩) (hq:os[q]? =some (o,u)):b4 c E L ⟨d,.load t x,ty,pos,af,g⟩ (.eq u):= .pure fun a W s=>by
 obtain⟨jz,er,cs,T,rfl,fE,ck⟩:=s.own _ (List.mem_of_getElem? an)
 obtain⟨a0,hu⟩:=ck _ (List.mem_of_getElem? hq)
 have cb:o < cs.size:=by have:=(List.getElem?_eq_some_iff.1 a0).1; simpa using this
 obtain⟨v,ad,ay⟩:=tO (α:=fy) (x:=⟨u⟩) (A:=aL L ++ c.bX) ev.ex er (show o + 1≤cs.size by omega) ⟨Uq a0,hu⟩
 refine⟨v,?_,(NP.1 ay).1⟩
 have aU:a.eval x=_:=al a W s
 simp [execOp,Instr.loadAt,Instr.sureAddr,aU,ad]
theorem ah.sG {t:TypeId} {rest:List Oper} {i p o:Nat} {β γ:Type} [ag β] [ag γ] {b b':β} {v:γ} {os:List (Nat × Value)} (l:aQ β γ) (ev:bt c.P t γ) (al:a7 c E L x (.eq (.pointer (some ⟨p,o,none⟩))))
 (a5:a7 c E L y (.of v)) (an:L[i]? =some ⟨some p,.ca b os⟩) (a9:o=l.off) (hb:l.set b v=b') (bd:sK os l.off (ag.size γ)=true)
 (k:ah c ops Q rest E (L.set i ⟨some p,.ca b' os⟩)):ah c ops Q (⟨none,.store t x y,ty,pos,af,none⟩ :: rest) E L:=fun a W s=>by
 subst a9
 subst hb
 obtain⟨jz,er,cs,T,rfl,fE⟩:=s.own _ (List.mem_of_getElem? an)
 have J:cs.toList.length=ag.size β:=fE.len
 have ef:=l.fW
 have a6:=a5 a W s
 have ad:=y7 (A:=aL L ++ c.bX) ev er (off:=l.off) (by simp at J; omega) a6
 have aU:a.eval x=_:=al a W s
 refine g9 rfl (R:=fun v W'=>W'=W.setRow p (fH cs.toList l.off (a.eval y).cells.toList).toArray) (.wY ?_ rfl) fun v W' hw=> ?_
 ·simp [execOp,Instr.storeAt,Instr.sureAddr,aU,ad]
 ·subst hw
  exact k _ _ (s.store an er ⟨_,T,rfl,by rw [List.toList_toArray]; exact Ly l fE a6.2 bd⟩)
theorem ah.jE {t:TypeId} {rest:List Oper} {i p o:Nat} {β γ:Type} [ag β] [ag γ] {b b':β} {u:Value} {os os':List (Nat × Value)} (l:aQ β (List γ)) (ev:bt c.P t (List γ)) (al:a7 c E L x (.eq (.pointer (some ⟨p,o,none⟩))))
 (a5:a7 c E L y (.eq u)) (hu:u.oneCell'=true) (an:L[i]? =some ⟨some p,.ca b os⟩) (a9:o=l.off) (hb:l.set b []=b') (kX:sC os o u=os')
 (k:ah c ops Q rest E (L.set i ⟨some p,.ca b' os'⟩)):ah c ops Q (⟨none,.store t x y,ty,pos,af,none⟩ :: rest) E L:=fun a W s=>by
 subst a9
 subst hb
 subst kX
 obtain⟨jz,er,cs,T,rfl,fE⟩:=s.own _ (List.mem_of_getElem? an)
 have J:cs.toList.length=ag.size β:=fE.len
 have ef:l.off + 1≤ag.size β:=l.fW
 have Ph:a.eval y=u:=a5 a W s
 have a6:(I.of (⟨u⟩:fy)).holds (aL L ++ c.bX) W (a.eval y):=NP.2 ⟨Ph,hu⟩
 have ad:=y7 (A:=aL L ++ c.bX) ev.ex er (off:=l.off) (show l.off + 1≤cs.size by simp at J; omega) a6
 have aU:a.eval x=_:=al a W s
 have kW:(a.eval y).cells.toList= [u]:=by rw [Ph,oo hu]
 rw [kW] at ad
 refine g9 rfl (R:=fun v W'=>W'=W.setRow p (fH cs.toList l.off [u]).toArray) (.wY ?_ rfl) fun v W' hw=> ?_
 ·simp [execOp,Instr.storeAt,Instr.sureAddr,aU,ad]
 ·subst hw
  exact k _ _ (s.store an er ⟨_,T,rfl,by rw [List.toList_toArray]; exact Lc l fE hu⟩)
theorem Rl {P:Program} {W:World} {b off:Nat} {cur:Array Value} {T t:TypeId} {α:Type} [ag α] {v:Value} (ty:bt P t α)
 (hb:W.heap[b]? =some (.cells cur T (0,0))) (hs:off + ag.size α≤cur.size) (ao:v.cells.toList.length=ag.size α) (J:∀ u∈v.cells.toList,u.oneCell'=true):
 (storeVar t ⟨b,off,none⟩ v).run P W= .ok () (W.setRow b (fH cur.toList off v.cells.toList).toArray):=by
 have ad:=run_storeCells_at P b off T v.cells.toList 0 cur W hb (by rw [ao]; omega) J
 have dW:v.cells.size=ag.size α:=by simpa using ao
 simp only [Nat.add_zero] at ad
 simp only [storeVar,Sem.run_bind,ty.sizeOf,Result.andThen_ok,dW]
 simp only [ne_eq,not_true_eq_false,↓reduceIte,Sem.run_pure,Sem.run_bind,Result.andThen_ok]
 simpa [fH] using ad
theorem ah.q8 {t:TypeId} {rest:List Oper} {i p:Nat} {β:Type} [ag β] {b b':β} {os os':List (Nat × Value)} (ev:bt c.P t β) (al:a7 c E L x (.eq (.pointer (some ⟨p,0,none⟩))))
 (a5:a7 c E L y (.IZ b' os')) (an:L[i]? =some ⟨some p,.ca b os⟩)
 (k:ah c ops Q rest E (L.set i ⟨some p,.ca b' os'⟩)):ah c ops Q (⟨none,.store t x y,ty,pos,af,none⟩ :: rest) E L:=fun a W s=>by
 obtain⟨jz,er,cs,T,rfl,fE⟩:=s.own _ (List.mem_of_getElem? an)
 have J:cs.toList.length=ag.size β:=fE.len
 obtain⟨av,bm⟩:=a5 a W s
 have ao:=bm.len
 have ad:=Rl ev er (off:=0) (by simp at J; omega) ao bm.one
 have aU:a.eval x=_:=al a W s
 have e:fH cs.toList 0 (a.eval y).cells.toList=(a.eval y).cells.toList:=by
  unfold fH
  rw [List.take_zero,List.nil_append,Nat.zero_add,ao,← J,List.drop_length,List.append_nil]
 rw [e] at ad
 refine g9 rfl (R:=fun v W'=>W'=W.setRow p (a.eval y).cells.toList.toArray) (.wY ?_ rfl) fun v W' hw=> ?_
 ·simp [execOp,Instr.storeAt,Instr.sureAddr,aU,ad]
 ·subst hw
  exact k _ _ (s.store an er ⟨_,T,rfl,by rw [List.toList_toArray]; exact bm⟩)
theorem dx {p:Addr} (al:a7 c E L x (.eq (.pointer (some p)))):b4 c E L ⟨d,.nilCheck x,ty,pos,af,g⟩ (.eq (.pointer (some p))):= .pure fun a W s=>by
 have aU:a.eval x=_:=al a W s
 exact⟨_,by simp [execOp,aU],rfl⟩
theorem DE {γ:Type} [ag γ] {r:γ} (al:a7 c E L x (.ptr r)):b4 c E L ⟨d,.nilCheck x,ty,pos,af,g⟩ (.ptr r):= .pure fun a W s=>by
 have hp:=al a W s
 obtain⟨b,off,cur,T,hK,aU,a0⟩:=hp
 exact⟨_,by simp [execOp,aU],b,off,cur,T,hK,rfl,a0⟩
theorem bw.lG {a:Act} {W:World} (s:bw c E L a W) {i j p cap T:Nat} {key:Option Nat} {β γ:Type} [ag β] [ag γ] {b b':β} {xs:List γ} {os os':List (Nat × Value)} (l:aQ β (List γ)) (fk:i≠j) (an:L[i]? =some ⟨some p,.ca b os⟩) (lp:L[j]? =some ⟨key,.row T xs cap⟩)
 (q:Nat) (hq:os[q]? =some (l.off,ba key xs.length cap)) (hb:l.set b xs=b') (kX:nJ os l.off=os'):bw c E ((L.set j ⟨none,.dead⟩).set i ⟨some p,.ca b' os'⟩) a W:=by
 subst hb
 subst kX
 have au:=s.kill j
 have ar:(L.set j ⟨none,.dead⟩)[i]? =some ⟨some p,.ca b os⟩:=by rw [List.getElem?_set_ne (fun e=>fk e.symm)]; exact an
 have kp:=wB (L:=L) (i:=j) (cp:= .dead)
 have lO:nx (aL (L.set j ⟨none,.dead⟩) ++ c.bX) W (ba key xs.length cap) xs:=by
  have a9:=s.own _ (List.mem_of_getElem? lp)
  cases key with
  | none=>exact .inl ⟨rfl,a9.1⟩
  | some p=>
    obtain⟨o,er,cs,rfl,dW,aP,vq,aS⟩:=a9
    obtain⟨ay,aU⟩:=Gd dW aP aS
    refine .inr ⟨p,0,cap,cs,T,(0,0),rfl,s.zz lp,er,aP,by omega,ay,?_⟩
    exact aU.mono (.drop fun k hm=>by
     rcases List.mem_append.1 hm with hm | hm
     ·exact List.mem_append.2 (.inl (kp.subset hm))
     ·exact List.mem_append.2 (.inr hm))
 exact au.xc ar (fun o ⟨cs,T,J,ad⟩=>⟨cs,T,J,Ld l ad (List.mem_of_getElem? hq) lO⟩) id
theorem ah.lG {tw:List Oper} {p cap T:Nat} {key:Option Nat} {β γ:Type} [ag β] [ag γ] {b b':β} {xs:List γ} {os os':List (Nat × Value)} (l:aQ β (List γ)) (i j q:Nat) (fk:Nat.beq i j=false) (an:L[i]? =some ⟨some p,.ca b os⟩) (lp:L[j]? =some ⟨key,.row T xs cap⟩)
 (hq:os[q]? =some (l.off,ba key xs.length cap)) (hb:l.set b xs=b') (kX:nJ os l.off=os') (k:ah c ops Q tw E ((L.set j ⟨none,.dead⟩).set i ⟨some p,.ca b' os'⟩)):ah c ops Q tw E L:=
 fun a W s=>k a W (s.lG l (fun e=>by rw [e,Nat.beq_refl] at fk; cases fk) an lp q hq hb kX)
theorem ae.lG {z:Exit} {p cap T:Nat} {key:Option Nat} {β γ:Type} [ag β] [ag γ] {b b':β} {xs:List γ} {os os':List (Nat × Value)} (l:aQ β (List γ)) (i j q:Nat) (fk:Nat.beq i j=false) (an:L[i]? =some ⟨some p,.ca b os⟩) (lp:L[j]? =some ⟨key,.row T xs cap⟩)
 (hq:os[q]? =some (l.off,ba key xs.length cap)) (hb:l.set b xs=b') (kX:nJ os l.off=os') (k:ae c Q z E ((L.set j ⟨none,.dead⟩).set i ⟨some p,.ca b' os'⟩)):ae c Q z E L:=
 fun a W s=>k a W (s.lG l (fun e=>by rw [e,Nat.beq_refl] at fk; cases fk) an lp q hq hb kX)
theorem ai.lG {z:Code} {p cap T:Nat} {key:Option Nat} {β γ:Type} [ag β] [ag γ] {b b':β} {xs:List γ} {os os':List (Nat × Value)} (l:aQ β (List γ)) (i j q:Nat) (fk:Nat.beq i j=false) (an:L[i]? =some ⟨some p,.ca b os⟩) (lp:L[j]? =some ⟨key,.row T xs cap⟩)
 (hq:os[q]? =some (l.off,ba key xs.length cap)) (hb:l.set b xs=b') (kX:nJ os l.off=os') (k:ai c Q z E ((L.set j ⟨none,.dead⟩).set i ⟨some p,.ca b' os'⟩)):ai c Q z E L:=
 fun a W s=>k a W (s.lG l (fun e=>by rw [e,Nat.beq_refl] at fk; cases fk) an lp q hq hb kX)
theorem bw.sU {a:Act} {W:World} (s:bw c E L a W) {i j p cap T e5:Nat} {key:Option Nat} {β γ:Type} [ag β] [ag γ] {b b':β} {xs:List γ} {os os':List (Nat × Value)} (l:aQ β (List γ)) (fk:i≠j) (an:L[i]? =some ⟨some p,.ca b os⟩) (lp:L[j]? =some ⟨key,.row T xs cap⟩)
 (q:Nat) (hq:os[q]? =some (l.off,ba key xs.length cap)) (hb:l.set b xs=b') (kX:nJ os l.off=os') (lO:look E e5=some (.eq (ba key xs.length cap))):bw c ((e5,.of xs) :: E) ((L.set j ⟨none,.dead⟩).set i ⟨some p,.ca b' os'⟩) a W:=by
 have J:=s.freeze lO lp
 subst hb
 subst kX
 have ar:(L.set j ⟨none,.dead⟩)[i]? =some ⟨some p,.ca b os⟩:=by rw [List.getElem?_set_ne (fun e=>fk e.symm)]; exact an
 obtain⟨v,ad,ay⟩:=J.env e5 (.of xs) (by simp [look,Nat.beq_refl])
 obtain⟨Fk,aU,a0⟩:=s.env e5 _ lO
 rw [ad] at aU
 cases aU
 have a0:v=_:=a0
 subst a0
 exact J.xc ar (fun o ⟨cs,T,av,bm⟩=>⟨cs,T,av,Ld l bm (List.mem_of_getElem? hq) (mu.1 ay)⟩) id
theorem ah.sU {tw:List Oper} {p cap T:Nat} {key:Option Nat} {β γ:Type} [ag β] [ag γ] {b b':β} {xs:List γ} {os os':List (Nat × Value)} (l:aQ β (List γ)) (i j q e5:Nat) (fk:Nat.beq i j=false) (an:L[i]? =some ⟨some p,.ca b os⟩) (lp:L[j]? =some ⟨key,.row T xs cap⟩)
 (hq:os[q]? =some (l.off,ba key xs.length cap)) (hb:l.set b xs=b') (kX:nJ os l.off=os') (lO:look E e5=some (.eq (ba key xs.length cap))) (k:ah c ops Q tw ((e5,.of xs) :: E) ((L.set j ⟨none,.dead⟩).set i ⟨some p,.ca b' os'⟩)):ah c ops Q tw E L:=
 fun a W s=>k a W (s.sU l (fun e=>by rw [e,Nat.beq_refl] at fk; cases fk) an lp q hq hb kX lO)
theorem ai.sU {z:Code} {p cap T:Nat} {key:Option Nat} {β γ:Type} [ag β] [ag γ] {b b':β} {xs:List γ} {os os':List (Nat × Value)} (l:aQ β (List γ)) (i j q e5:Nat) (fk:Nat.beq i j=false) (an:L[i]? =some ⟨some p,.ca b os⟩) (lp:L[j]? =some ⟨key,.row T xs cap⟩)
 (hq:os[q]? =some (l.off,ba key xs.length cap)) (hb:l.set b xs=b') (kX:nJ os l.off=os') (lO:look E e5=some (.eq (ba key xs.length cap))) (k:ai c Q z ((e5,.of xs) :: E) ((L.set j ⟨none,.dead⟩).set i ⟨some p,.ca b' os'⟩)):ai c Q z E L:=
 fun a W s=>k a W (s.sU l (fun e=>by rw [e,Nat.beq_refl] at fk; cases fk) an lp q hq hb kX lO)
theorem ae.sU {z:Exit} {p cap T:Nat} {key:Option Nat} {β γ:Type} [ag β] [ag γ] {b b':β} {xs:List γ} {os os':List (Nat × Value)} (l:aQ β (List γ)) (i j q e5:Nat) (fk:Nat.beq i j=false) (an:L[i]? =some ⟨some p,.ca b os⟩) (lp:L[j]? =some ⟨key,.row T xs cap⟩)
 (hq:os[q]? =some (l.off,ba key xs.length cap)) (hb:l.set b xs=b') (kX:nJ os l.off=os') (lO:look E e5=some (.eq (ba key xs.length cap))) (k:ae c Q z ((e5,.of xs) :: E) ((L.set j ⟨none,.dead⟩).set i ⟨some p,.ca b' os'⟩)):ae c Q z E L:=
 fun a W s=>k a W (s.sU l (fun e=>by rw [e,Nat.beq_refl] at fk; cases fk) an lp q hq hb kX lO)
inductive sL (c:c5) (E:List (Nat × I)) (L:List aJ) (place:Nat→Option (Nat × Nat)) {β:Type} [ag β]:β→List (Nat × Value)→List (Nat × Operand)→β→List (Nat × Value)→Prop
 | nil {b os} :sL c E L place b os [] b os
 | cons {b dE b':β} {os os':List (Nat × Value)} {γ:Type} [ag γ] {v:γ} {i:Nat} {x:Operand} {r:List (Nat × Operand)} (l:aQ β γ):place i=some (l.off,ag.size γ)→a7 c E L x (.of v)→l.set b v=dE→sK os l.off (ag.size γ)=true→sL c E L place dE os r b' os'→sL c E L place b os ((i,x) :: r) b' os'
 | hole {b dE b':β} {os I0 os':List (Nat × Value)} {γ:Type} [ag γ] {u:Value} {i:Nat} {x:Operand} {r:List (Nat × Operand)} (l:aQ β (List γ)):place i=some (l.off,1)→a7 c E L x (.eq u)→u.oneCell'=true→l.set b []=dE→sC os l.off u=I0→sL c E L place dE I0 r b' os'→sL c E L place b os ((i,x) :: r) b' os'
theorem sL.run {place:Nat→Option (Nat × Nat)} {β:Type} [ag β] {b b':β} {os os':List (Nat × Value)} {br:List (Nat × Operand)} (h:sL c E L place b os br b' os'):∀ a W,bw c E L a W→ ∀ cs:Array Value,kM (aL L ++ c.bX) W cs.toList b os→
 ∃ dN,Instr.fill place cs (br.map fun(i,x)=>(i,a.eval x))=some dN∧kM (aL L ++ c.bX) W dN.toList b' os':=by
 induction h with
 | nil=>intro a W s cs aS; exact⟨cs,rfl,aS⟩
 | @cons b dE b' os os' γ _ v i x r l J ad ay aU _ bH=>
   intro a W s cs aS
   subst ay
   have a6:=ad a W s
   have dW:(a.eval x).cells.size=ag.size γ:=by have:=ag.len a6.2; simpa using this
   have ao:cs.toList.length=ag.size β:=aS.len
   have ef:=l.fW
   rw [List.map_cons,Dk J dW (by simp at ao; omega)]
   refine bH a W s _ ?_
   have:=Ly l aS a6.2 aU
   simpa [fH,ag.len a6.2] using this
 | @hole b dE b' os I0 os' γ _ u i x r l J ad ay aU a0 _ bH=>
   intro a W s cs aS
   subst aU
   subst a0
   have a6:a.eval x=u:=ad a W s
   have ak:(a.eval x).cells.toList= [u]:=by rw [a6,oo ay]
   have dW:(a.eval x).cells.size=1:=by have:=congrArg List.length ak; simpa using this
   have ao:cs.toList.length=ag.size β:=aS.len
   have ef:l.off + 1≤ag.size β:=l.fW
   rw [List.map_cons,Dk J dW (by simp at ao; omega)]
   refine bH a W s _ ?_
   have:=Lc l aS ay
   simpa [fH,ak] using this
theorem p3 {β:Type} [ag β] {z b:β} {br:List (Nat × Operand)} {pl:Array (Nat × Nat)} {os:List (Nat × Value)} (j9:List Nat) (sc:jd c.P t j9) (bd:ag.agg β=true) (B5:g7 c.P t pl) (gl:cn c.P t z)
 (a8:sL c E L (pl[·]?) z (j9.map fun o=>(o,jK)) br b os):b4 c E L ⟨d,.build t br.toArray,ty,pos,af,g⟩ (.IZ b os):= .pure fun a W s=>by
 obtain⟨fs,hu,hs,rfl⟩:=B5.at_
 obtain⟨i,dY,J,ad,ay⟩:=gl.zero
 have ck:∀ o∈j9,dY.cells.toList[o]? =some jK:=fun o a9=>by
  unfold jd at sc
  rw [J] at sc
  simp only [Option.bind_some,ad,Option.any_some] at sc
  exact KU (List.all_eq_true.1 sc o a9)
 obtain⟨dN,aU,a0⟩:=a8.run a W s dY.cells ⟨by
  rw [Gl fun h hm=>by obtain⟨o,a9,rfl⟩:=List.mem_map.1 hm; exact ck o a9]
  exact(ay _ _).2,fun h hm=>by obtain⟨o,a9,rfl⟩:=List.mem_map.1 hm; exact⟨ck o a9,rfl⟩⟩
 refine⟨.agg dN,?_,by simp [shaped,bd],by simpa [Value.cells] using a0⟩
 have hm:(br.toArray.map fun(x:Nat × Operand)=>(x.1,a.eval x.2)).toList=br.map fun(i,x)=>(i,a.eval x):=by simp
 simp only [execOp,Instr.build,Sem.run_bind,zeroValue,typeInfo,run_program,Result.andThen_ok,J,ad,Sem.run_pure,run_underlying hu,Kt fs hs]
 rw [hm,aU]
 rfl
def vu {α:Type} [Inhabited α] (bytes:Nat) (n:Int):Option (List α):=if 0≤n∧n≤140737488355328∧bytes * n≤140737488355328 then some (List.replicate n.toNat default) else none
theorem TI {α:Type} [Inhabited α] {bytes:Nat} {n:Int} {r:List α} (h:vu bytes n=some r):0≤n∧n≤140737488355328∧bytes * n≤140737488355328∧List.replicate n.toNat default=r:=by
 unfold vu at h
 split at h
 ·rename_i ak; exact⟨ak.1,ak.2.1,ak.2.2,aK h⟩
 ·cases h
theorem ah.OV {α:Type} [ag α] [Inhabited α] {rest:List Oper} {bb e bytes:Nat} {r:List α} {n:Int} (hu:c.P.underlying t=some (.slice e)) (ew:bt c.P e α) (gl:cn c.P e (default:α)) (hs:Nat.beq (ag.size α) 0=false) (hb:(c.P.info? e).map (·.bytes)=some bytes)
 (al:a7 c E L x (.of n)) (a5:a7 c E L y (.of n)) (hm:vu bytes n=some r) (jA:Nat.blt bb c.n=true) (k:∀ p,ah c ops Q rest ((bb,.eq (ba p r.length r.length)) :: E) (⟨p,.row e r r.length⟩ :: L)):
 ah c ops Q (⟨some bb,.makeSlice t x y,ty,pos,af,none⟩ :: rest) E L:=fun a W s=>by
 obtain⟨bG,aP,abf,rfl⟩:=TI hm
 obtain⟨m,rfl⟩:=Int.eq_ofNat_of_zero_le bG
 obtain⟨fN,dY,eb,df,qu⟩:=gl.zero
 have mF:fN.size=ag.size α:=by
  obtain⟨i2,J,ad⟩:=ew.info
  rw [eb] at J; cases J; exact ad
 have vA:fN.bytes=bytes:=by rw [eb] at hb; simpa using hb
 have eI:ag.size α≠0:=fun h=>by rw [h] at hs; cases hs
 have pE:=zp (qu (aL L ++ c.bX) W) m eI
 have J:=of_int.1 (al a W s)
 have ad:=of_int.1 (a5 a W s)
 have hw:IntKind.i64.wrap (m:Int)=m:=by have:bA (m:Int)=m:=hA (by omega) (by omega); exact this
 have hp:(2:Int) ^ 48=281474976710656:=by decide
 simp only [Int.toNat_natCast,List.length_replicate] at k
 generalize kA:(Array.range (m * ag.size α)).map (dY.cells[· % dY.cells.size]!)=D at pE
 refine g9 rfl (R:=fun v W'=>v= .slice (some ⟨W.heap.size,0,none⟩) m m∧W'=W.alloc (.cells D e)) (.kj (v:= .slice (some ⟨W.heap.size,0,none⟩) m m) (W':=W.alloc (.cells D e)) ?_ ⟨rfl,rfl⟩) fun v W' ⟨ay,aU⟩=> ?_
 ·have dM:((decide ((m:Int) < 0) || decide ((fN.bytes:Int) * m > 2 ^ 48)) || decide ((m:Int) < 0) || decide ((m:Int) > m))=false:=by
   rw [vA,hp]; simp; omega
  have EZ:((Array.range (m * fN.size)).map fun i=>(if m * fN.size=0 then(#[]:Array Value) else dY.cells)[i % (if m * fN.size=0 then(#[]:Array Value) else dY.cells).size]!)=D:=by
   rw [← kA,mF]
   by_cases gO:m * ag.size α=0
   ·rw [gO]; simp
   ·simp only [if_neg gO]
  have bd:(asInt (.int .i64 (m:Int)):Sem Int).run c.P W= .ok (m:Int) W:=by simp [asInt,asIntOf]
  simp only [execOp,Instr.makeSlice,Sem.run_bind,run_underlying hu,Result.andThen_ok,J,ad,bd,Sem.run_pure,typeInfo,run_program,eb,hw,dM,Bool.false_eq_true,if_false,run_askRoom,Go.sizeOf,Int.toNat_natCast]
  by_cases gO:m * fN.size=0
  ·simp only [gO,if_true,Sem.run_pure,Result.andThen_ok,Sem.run_bind,newRow] at EZ ⊢
   rw [EZ]
   simp
  ·simp only [gO,if_false,Sem.run_pure,Result.andThen_ok,Sem.run_bind,newRow,zeroValue,typeInfo,run_program,eb,df] at EZ ⊢
   rw [EZ]
   simp
 ·subst ay aU
  have s3:m≤maxLen:=by
   have:maxLen=9223372036854775807:=rfl
   omega
  have dW:D.size=m * ag.size α:=by have:=pE.1; simpa using this
  have b9:=s.alloc (o:= .cells D e) (cp:= .row e (List.replicate m (default:α)) m) ⟨D,rfl,dW,by simp,s3,by
   have bl:=pE.1
   rw [List.length_replicate] at bl ⊢
   rw [← bl,List.take_length]
   exact pE⟩
  exact k (some W.heap.size) _ _ (b9.put (τ:= .eq (ba (some W.heap.size) m m)) (by simpa using jA) rfl)
theorem ae.lA {fn:Func} {δ:Type} {ρ:δ→I} {Lo:δ→List aJ} (bb:δ) (hs:(Lo bb).Sublist L) (aS:fn.results= #[]) (vD:ρ bb= .eD []) (hH:c.ds= []:=by rfl):ae c (bodyPost c.P fn (j1 c.X c.bX c.iP ρ Lo)) .ret E L:=fun a W s=>
 ⟨s.wQ hH,.tuple #[],by simp [wP,aS],s.ends bb hs (by rw [vD]; exact⟨_,rfl,.nil⟩)⟩
end
abbrev Hid:=Nat→Option Nat
def eP (l:List (Option Nat)):Hid:=fun i=>(l[i]?).getD none
structure dj where
 slot:Option Nat
 up:List Nat
 rd:List Nat
 wr:List Nat
 τ:(Nat→Hid)→I
 fw:(Nat→Hid)→Nat→aJ
def fX (up:List Nat) (i:Nat) (hd:Nat→Hid):Nat→Hid:=fun j=>bif Nat.beq j i || up.any (fun k=>Nat.beq k j) then hd j else fun _=>none
def iy (hd:Nat→Hid) (i:Nat) (x:Hid):Nat→Hid:=fun j=>bif Nat.beq j i then x else hd j
theorem Le {up:List Nat} {i:Nat} {hd hd':Nat→Hid} (h:hd i=hd' i) (cX:∀ k∈up,hd k=hd' k):fX up i hd=fX up i hd':=by
 funext j
 unfold fX
 cases J:Nat.beq j i
 ·cases ad:up.any (fun k=>Nat.beq k j)
  ·rfl
  ·obtain⟨k,au,he⟩:=List.any_eq_true.1 ad
   have:=ej.1 he
   subst this
   simp only [Bool.false_or,cond_true]
   exact cX k au
 ·have:=ej.1 J
  subst this
  simp only [Bool.true_or,cond_true]
  exact h
def lI:List aJ→ (Nat→aJ)→List Nat→List aJ
 | L,_,[]=>L
 | L,f,j :: r=>lI (L.set j (f j)) f r
theorem KJ:∀ {L:List aJ} {f:Nat→aJ} {e6:List Nat},(lI L f e6).length=L.length
 | _,_,[]=>rfl
 | L,f,j :: r=>by rw [lI,KJ,List.length_set]
theorem Dl:∀ {L:List aJ} {f:Nat→aJ} {e6:List Nat} (i:Nat),(lI L f e6)[i]? =if e6.contains i=true then L[i]?.map (fun _=>f i) else L[i]?
 | _,_,[],i=>by simp [lI]
 | L,f,j :: r,i=>by
   rw [lI,Dl i]
   by_cases h:j=i
   ·subst h
    simp only [List.contains_cons,BEq.rfl,Bool.true_or,if_true,List.getElem?_set]
    by_cases ao:j < L.length
    ·simp [ao]
    ·simp [ao]
   ·have hb:(i ==j)=false:=by simp; exact fun e=>h e.symm
    rw [List.contains_cons,hb,Bool.false_or,List.getElem?_set_ne h]
def gz (ls:Nat→Bool) (hd:Nat→Hid):Nat→List dj→List aJ→List aJ
 | _,[],L=>L
 | k,h :: r,L=>gz ls hd (k + 1) r (bif ls k then lI L (h.fw (fX h.up k hd)) h.wr else L)
def hk (ls:Nat→Bool) (hd:Nat→Hid) (E:List (Nat × I)):Nat→List dj→List (Nat × I)
 | _,[]=>E
 | k,h :: r=>match ls k,h.slot with
   | true,some s=>(s,h.τ (fX h.up k hd)) :: hk ls hd E (k + 1) r
   | _,_=>hk ls hd E (k + 1) r
def jL (ls:Nat→Bool) (hd:Nat→Hid) (j:Nat):Nat→List dj→Option aJ→Option aJ
 | _,[],v=>v
 | k,h :: r,v=>jL ls hd j (k + 1) r (bif ls k && h.wr.contains j then v.map (fun _=>h.fw (fX h.up k hd) j) else v)
theorem uB {ls:Nat→Bool} {hd:Nat→Hid} (j:Nat):∀ {k:Nat} {hs:List dj} {L:List aJ},(gz ls hd k hs L)[j]? =jL ls hd j k hs L[j]?
 | _,[],_=>rfl
 | k,h :: r,L=>by
   rw [gz,jL,uB j]
   congr 1
   cases ls k
   ·rfl
   ·simp only [cond_true,Bool.true_and]
    rw [Dl]
    cases h.wr.contains j <;> rfl
theorem zq {ls:Nat→Bool} {hd:Nat→Hid} {j:Nat} :∀ {k:Nat} {hs:List dj} {v:Option aJ},(∀ m h,hs[m]? =some h→h.wr.contains j=true→ls (k + m)=false)→jL ls hd j k hs v=v
 | _,[],_,_=>rfl
 | k,h :: r,v,aP=>by
   rw [jL,zq fun m x hm al=>by have:=aP (m + 1) x (by simpa using hm) al; rw [← this]; congr 1; omega]
   cases hw:h.wr.contains j
   ·simp
   ·have:=aP 0 h rfl hw
    simp only [Nat.add_zero] at this
    rw [this]; rfl
theorem zj {ls:Nat→Bool} {hd:Nat→Hid} {j:Nat} :∀ {k:Nat} {hs rs:List dj} {v:Option aJ},jL ls hd j k (hs ++ rs) v=jL ls hd j (k + hs.length) rs (jL ls hd j k hs v)
 | _,[],_,_=>rfl
 | k,h :: r,rs,v=>by
   rw [List.cons_append,jL,zj,jL,List.length_cons]
   congr 1; omega
theorem tY {ls ls':Nat→Bool} {hd hd':Nat→Hid} {j:Nat} :∀ {k:Nat} {hs:List dj} {v:Option aJ},(∀ m h,hs[m]? =some h→h.wr.contains j=true→ls (k + m)=ls' (k + m)∧ (ls (k + m)=true→fX h.up (k + m) hd=fX h.up (k + m) hd'))→jL ls hd j k hs v=jL ls' hd' j k hs v
 | _,[],_,_=>rfl
 | k,h :: r,v,aP=>by
   have bH:=tY (ls:=ls) (ls':=ls') (hd:=hd) (hd':=hd') (j:=j) (k:=k + 1) (hs:=r) (v:=bif ls k && h.wr.contains j then v.map (fun _=>h.fw (fX h.up k hd) j) else v) fun m x hm al=>by
    have:=aP (m + 1) x (by simpa using hm) al
    rw [show k + 1 + m=k + (m + 1) by omega]; exact this
   rw [jL,jL,bH]
   congr 1
   cases hw:h.wr.contains j
   ·simp
   ·have:=aP 0 h rfl hw
    simp only [Nat.add_zero] at this
    rw [← this.1]
    cases ao:ls k
    ·rfl
    ·rw [this.2 ao]
theorem zr {ls:Nat→Bool} {hd:Nat→Hid} {E:List (Nat × I)} {t:Nat} :∀ {k:Nat} {hs:List dj},(∀ (m:Nat) (h:dj),hs[m]? =some h→ls (k + m)=true→h.slot≠some t)→look (hk ls hd E k hs) t=look E t
 | _,[],_=>rfl
 | k,h :: r,aP=>by
   have bH:=zr (ls:=ls) (hd:=hd) (E:=E) (t:=t) (k:=k + 1) (hs:=r) fun m x hm ao=>aP (m + 1) x (by simpa using hm) (by rw [← ao]; congr 1; omega)
   unfold hk
   split
   ·rename_i s J ad
    have cH:Nat.beq s t=false:=by
     cases hb:Nat.beq s t
     ·rfl
     ·have:=ej.1 hb; subst this; exact absurd ad (aP 0 h rfl J)
    simp only [look,cH,cond_false]
    exact bH
   ·exact bH
theorem zC {ls:Nat→Bool} {hd:Nat→Hid} {E:List (Nat × I)} {s:Nat} :∀ {k:Nat} {hs:List dj} {j:Nat} {h:dj},hs[j]? =some h→ls (k + j)=true→h.slot=some s→ (∀ m x,hs[m]? =some x→x.slot=some s→m=j)→look (hk ls hd E k hs) s=some (h.τ (fX h.up (k + j) hd))
 | _,[],_,_,h,_,_,_=>by simp at h
 | k,x :: r,0,h,aG,ao,hs,_=>by
   simp only [List.getElem?_cons_zero,Option.some.injEq] at aG
   subst aG
   simp only [Nat.add_zero] at ao
   unfold hk
   rw [ao,hs]
   simp [look,Nat.beq_refl]
 | k,x :: r,j + 1,h,aG,ao,hs,hu=>by
   have bH:=zC (ls:=ls) (hd:=hd) (E:=E) (s:=s) (k:=k + 1) (hs:=r) (j:=j) (h:=h) (by simpa using aG) (by rw [← ao]; congr 1; omega) hs fun m y hm a5=>by
    have:=hu (m + 1) y (by simpa using hm) a5; omega
   rw [show k + 1 + j=k + (j + 1) by omega] at bH
   unfold hk
   split
   ·rename_i b9 J ad
    have cH:Nat.beq b9 s=false:=by
     cases hb:Nat.beq b9 s
     ·rfl
     ·have:=ej.1 hb; subst this
      have:=hu 0 x rfl ad; omega
    simp only [look,cH,cond_false]
    exact bH
   ·exact bH
theorem GL {ls:Nat→Bool} {hd:Nat→Hid} {E:List (Nat × I)} {t:Nat} {τ:I} :∀ {k:Nat} {hs:List dj},look (hk ls hd E k hs) t=some τ→ (∃ (j:Nat) (h:dj),hs[j]? =some h∧ls (k + j)=true∧h.slot=some t∧τ=h.τ (fX h.up (k + j) hd))∨ (look E t=some τ∧ ∀ (m:Nat) (h:dj),hs[m]? =some h→ls (k + m)=true→h.slot≠some t)
 | _,[],h=> .inr ⟨h,fun m h hm=>by simp at hm⟩
 | k,x :: r,h=>by
   unfold hk at h
   have go:(ls k=true→x.slot≠some t)→look (hk ls hd E (k + 1) r) t=some τ→ (∃ (j:Nat) (h:dj),(x :: r)[j]? =some h∧ls (k + j)=true∧h.slot=some t∧τ=h.τ (fX h.up (k + j) hd))∨ (look E t=some τ∧ ∀ (m:Nat) (h:dj),(x :: r)[m]? =some h→ls (k + m)=true→h.slot≠some t):=fun al h=>by
    rcases GL h with⟨j,y,J,ad,ay,aU⟩ | ⟨J,ad⟩
    ·exact .inl ⟨j + 1,y,by simpa using J,by rw [← ad]; congr 1; omega,ay,by rw [aU]; congr 2; omega⟩
    ·refine .inr ⟨J,fun m y hm ao=> ?_⟩
     cases m with
     | zero=>simp only [List.getElem?_cons_zero,Option.some.injEq] at hm; subst hm; exact al ao
     | succ m=>exact ad m y (by simpa using hm) (by rw [← ao]; congr 1; omega)
   split at h
   ·rename_i s J ad
    simp only [look] at h
    by_cases e:Nat.beq s t=true
    ·rw [e] at h
     simp only [cond_true,Option.some.injEq] at h
     have:=ej.1 e
     subst this
     exact .inl ⟨0,x,rfl,J,ad,h.symm⟩
    ·rw [Bool.not_eq_true] at e
     rw [e] at h
     exact go (fun _ eI=>by rw [ad] at eI; cases eI; rw [Nat.beq_refl] at e; cases e) h
   ·rename_i eO
    exact go (fun ao eI=>eO t ao eI) h
def me (hd:Nat→Hid) (hs:List dj) (E:List (Nat × I)):List Nat→List (Nat × I)
 | []=>E
 | j :: r=>match hs[j]? with
   | some h=>match h.slot with
     | some s=>(s,h.τ (fX h.up j hd)) :: me hd hs E r
     | none=>me hd hs E r
   | none=>me hd hs E r
theorem Hc {hd:Nat→Hid} {hs:List dj} {E:List (Nat × I)} {t:Nat} {τ:I} :∀ {ds:List Nat},look (me hd hs E ds) t=some τ→ (∃ j∈ds,∃ h:dj,hs[j]? =some h∧h.slot=some t∧τ=h.τ (fX h.up j hd))∨look E t=some τ
 | [],h=> .inr h
 | j :: r,h=>by
   have go:look (me hd hs E r) t=some τ→ (∃ i∈j :: r,∃ h:dj,hs[i]? =some h∧h.slot=some t∧τ=h.τ (fX h.up i hd))∨look E t=some τ:=fun h=>by
    rcases Hc h with⟨i,J,ad⟩ | J
    ·exact .inl ⟨i,by simp [J],ad⟩
    ·exact .inr J
   unfold me at h
   split at h
   ·rename_i x al
    split at h
    ·rename_i s lO
     simp only [look] at h
     by_cases e:Nat.beq s t=true
     ·rw [e] at h
      simp only [cond_true,Option.some.injEq] at h
      have:=ej.1 e
      subst this
      exact .inl ⟨j,by simp,x,al,lO,h.symm⟩
     ·simp only [Bool.not_eq_true] at e
      rw [e] at h
      exact go h
    ·exact go h
   ·exact go h
def sW (E:List (Nat × I)) (v:Value):List Nat→Prop
 | []=>True
 | s :: r=>look E s=some (.eq v)∧sW E v r
theorem sW.get {E:List (Nat × I)} {v:Value} :∀ {gk:List Nat},sW E v gk→ ∀ s∈gk,look E s=some (.eq v)
 | _ :: _,h,s,hs=>by
   rcases List.mem_cons.1 hs with rfl | hs
   ·exact h.1
   ·exact sW.get h.2 s hs
def vE (τ:I) (E:List (Nat × I)):List Nat→List (Nat × I)
 | []=>E
 | s :: r=>(s,τ) :: vE τ E r
theorem Lz {τ:I} {E:List (Nat × I)} {t:Nat} {σ:I} :∀ {gk:List Nat},look (vE τ E gk) t=some σ→ (t∈gk∧σ=τ)∨look E t=some σ
 | [],h=> .inr h
 | s :: r,h=>by
   simp only [vE,look] at h
   by_cases e:Nat.beq s t=true
   ·rw [e] at h
    simp only [cond_true,Option.some.injEq] at h
    have:=ej.1 e
    subst this
    exact .inl ⟨by simp,h.symm⟩
   ·simp only [Bool.not_eq_true] at e
    rw [e] at h
    rcases Lz h with⟨J,ad⟩ | J
    ·exact .inl ⟨by simp [J],ad⟩
    ·exact .inr J
def vf {w:Nat} (a b:BitVec w):BitVec w:=if a≤b then a else b
def nh:Option Nat→I→List (Nat × I)→List (Nat × I)
 | some s,τ,E=>(s,τ) :: E
 | none,_,E=>E
section
variable {c:c5} {E:List (Nat × I)} {L:List aJ} {ops:Array Oper} {Q:Exit→Act→World→Prop}
theorem bw.m3 {a:Act} {W:World} {α:Type} [ag α] {i cap T:Nat} {gk:List Nat} {key:Option Nat} {xs:List α} (h:bw c E L a W) (ao:sW E (ba key xs.length cap) gk) (an:L[i]? =some ⟨key,.row T xs cap⟩):
 bw c (vE (.of xs) E gk) (L.set i ⟨none,.dead⟩) a W:=by
 have au:=h.kill i
 refine { au with env:=fun t τ eJ=> ?_ }
 rcases Lz eJ with⟨hm,rfl⟩ | J
 ·obtain⟨v,J,ad⟩:=h.env t _ (ao.get t hm)
  refine⟨v,J,mu.2 ?_⟩
  have ld:v=ba key xs.length cap:=ad
  subst ld
  have a9:=h.own _ (List.mem_of_getElem? an)
  cases key with
  | none=>exact .inl ⟨rfl,a9.1⟩
  | some p=>
    obtain⟨o,er,cs,rfl,dW,aP,vq,aS⟩:=a9
    obtain⟨ay,aU⟩:=Gd dW aP aS
    refine .inr ⟨p,0,cap,cs,T,(0,0),rfl,h.zz an,er,aP,by omega,ay,?_⟩
    have kp:=wB (L:=L) (i:=i) (cp:= .dead)
    exact aU.mono (.drop fun k hm=>by
     rcases List.mem_append.1 hm with hm | hm
     ·exact List.mem_append.2 (.inl (kp.subset hm))
     ·exact List.mem_append.2 (.inr hm))
 ·exact au.env t τ J
theorem ah.m3 {l:List Oper} {α:Type} [ag α] {key:Option Nat} {xs:List α} {cap T:Nat} (i:Nat) (gk:List Nat) (ao:sW E (ba key xs.length cap) gk) (an:L[i]? =some ⟨key,.row T xs cap⟩)
 (k:ah c ops Q l (vE (.of xs) E gk) (L.set i ⟨none,.dead⟩)):ah c ops Q l E L:=fun a W st=>k a W (st.m3 ao an)
theorem ae.m3 {x:Exit} {α:Type} [ag α] {key:Option Nat} {xs:List α} {cap T:Nat} (i:Nat) (gk:List Nat) (ao:sW E (ba key xs.length cap) gk) (an:L[i]? =some ⟨key,.row T xs cap⟩)
 (k:ae c Q x (vE (.of xs) E gk) (L.set i ⟨none,.dead⟩)):ae c Q x E L:=fun a W st=>k a W (st.m3 ao an)
theorem ai.m3 {code:Code} {α:Type} [ag α] {key:Option Nat} {xs:List α} {cap T:Nat} (i:Nat) (gk:List Nat) (ao:sW E (ba key xs.length cap) gk) (an:L[i]? =some ⟨key,.row T xs cap⟩)
 (k:ai c Q code (vE (.of xs) E gk) (L.set i ⟨none,.dead⟩)):ai c Q code E L:=fun a W st=>k a W (st.m3 ao an)
def c3 (c:c5) (ops:Array Oper) (Q:Exit→Act→World→Prop) (hs:List dj) (E:List (Nat × I)) (L:List aJ) (i:Nat) (o:Oper) (h:dj):Prop:=
 ∀ (hd:Nat→Hid) (E':List (Nat × I)) (L':List aJ),(∀ t τ,look (me hd hs E h.up) t=some τ→look E' t=some τ)→
   (∀ j e,(gz (fun _=>true) hd 0 (hs.take i) L)[j]? =some e→h.rd.contains j=true→L'[j]? =some e)→
   ah c ops (pT (fun a W=> ∃ x,bw c (nh h.slot (h.τ (fX h.up i (iy hd i x))) E') (lI L' (h.fw (fX h.up i (iy hd i x))) h.wr) a W) Q) [o] E' L'
def sM (c:c5) (ops:Array Oper) (Q:Exit→Act→World→Prop) (hs:List dj) (E:List (Nat × I)) (L:List aJ):Nat→List Oper→List dj→Prop
 | _,[],[]=>True
 | i,o :: os,h :: r=>c3 c ops Q hs E L i o h∧sM c ops Q hs E L (i + 1) os r
 | _,_,_=>False
theorem sM.get {hs:List dj} :∀ {k:Nat} {os:List Oper} {rs:List dj},sM c ops Q hs E L k os rs→ ∀ i h o,rs[i]? =some h→os[i]? =some o→c3 c ops Q hs E L (k + i) o h
 | k,[],[],_,i,h,o,ar,_=>by simp at ar
 | k,aaC :: os,bG :: r,ck,i,h,o,ar,a9=>by
   cases i with
   | zero=>
     simp only [List.getElem?_cons_zero,Option.some.injEq] at ar a9
     subst ar; subst a9; exact ck.1
   | succ i=>
     have:=sM.get ck.2 i h o (by simpa using ar) (by simpa using a9)
     rw [show k + 1 + i=k + (i + 1) by omega] at this
     exact this
 | k,[],_ :: _,ck,_,_,_,_,_=>ck.elim
 | k,_ :: _,[],ck,_,_,_,_,_=>ck.elim
def jZ (ops:Array Oper) (hs:List (Option Nat × List Nat × List Nat × List Nat)) (E:List Nat):Bool:=
 decide (hs.length=ops.size) && decide (hs.filterMap (·.1)).Nodup && ((List.range ops.size).all fun m=>match hs[m]? with | some (some s,up,_)=> !E.contains s || (List.range ops.size).all fun k=>decide (k=m) || up.contains k | _=>true) &&
 ((List.range ops.size).all fun i=>match hs[i]? with
   | none=>false
   | some (_,up,rd,wr)=>
     (((ops[i]?).map fun o=>(o.dst ==(hs[i]?).bind (·.1)) && o.after.all fun e=> !Region.binds .any e || decide (e.on < i)).getD false) &&
     (up.all fun k=>Region.waitsFor .any ops i k || (List.range i).any fun m=>Region.waitsFor .any ops i m && ((hs[m]?).map fun h=>h.2.1.contains k).getD false) &&
     ((List.range ops.size).all fun k=>match hs[k]? with
       | none=>true
       | some (_,I1,_,BF)=>
         (!(decide (k < i) && BF.any rd.contains) || up.contains k) && (!(decide (i < k) && BF.any fun j=>rd.contains j || wr.contains j) || I1.contains i)))
theorem Gm {ls ls':Nat→Bool} {hd:Nat→Hid} :∀ {k:Nat} {hs:List dj},(∀ m,m < hs.length→ls (k + m)=ls' (k + m))→hk ls hd E k hs=hk ls' hd E k hs
 | _,[],_=>rfl
 | k,h :: r,aP=>by
   have bH:=Gm (ls:=ls) (ls':=ls') (hd:=hd) (k:=k + 1) (hs:=r) fun m hm=>by
    have:=aP (m + 1) (by simp; omega)
    rw [show k + 1 + m=k + (m + 1) by omega]; exact this
   have bG:=aP 0 (by simp)
   simp only [Nat.add_zero] at bG
   unfold hk
   rw [bG,bH]
theorem GM {ls ls':Nat→Bool} {hd:Nat→Hid} :∀ {k:Nat} {hs:List dj} {L:List aJ},(∀ m,m < hs.length→ls (k + m)=ls' (k + m))→gz ls hd k hs L=gz ls' hd k hs L
 | _,[],_,_=>rfl
 | k,h :: r,L,aP=>by
   have bG:=aP 0 (by simp)
   simp only [Nat.add_zero] at bG
   rw [gz,gz,bG]
   exact GM fun m hm=>by
    have:=aP (m + 1) (by simp; omega)
    rw [show k + 1 + m=k + (m + 1) by omega]; exact this
def iK (hs:List dj):List (Option Nat × List Nat × List Nat × List Nat):=hs.map fun h=>(h.slot,h.up,h.rd,h.wr)
theorem wZ {hs:List dj} {i:Nat} {h:dj} (ar:hs[i]? =some h):(iK hs)[i]? =some (h.slot,h.up,h.rd,h.wr):=by simp [iK,ar]
def Hv (c:c5) (ops:Array Oper) (Q:Exit→Act→World→Prop) (hs:List dj) (E:List (Nat × I)) (L:List aJ) (np:Nat) (i:Nat) (o:Oper) (h:dj):Prop:=
 ∀ (hd:Nat→Hid) (E':List (Nat × I)) (L':List aJ),(∀ t τ,look (me hd hs E h.up) t=some τ→look E' t=some τ)→
   (∀ j e,(gz (fun _=>true) hd 0 (hs.take i) L)[j]? =some e→h.rd.contains j=true→L'[j]? =some e)→L'.drop np=L.drop np→
   ah c ops (pT (fun a W=> ∃ x,bw c (nh h.slot (h.τ (fX h.up i (iy hd i x))) E') (lI L' (h.fw (fX h.up i (iy hd i x))) h.wr) a W) Q) [o] E' L'
def ow (c:c5) (ops:Array Oper) (Q:Exit→Act→World→Prop) (hs:List dj) (E:List (Nat × I)) (L:List aJ) (np:Nat):Nat→List Oper→List dj→Prop
 | _,[],[]=>True
 | i,o :: os,h :: r=>Hv c ops Q hs E L np i o h∧ow c ops Q hs E L np (i + 1) os r
 | _,_,_=>False
theorem ow.get {hs:List dj} {np:Nat} :∀ {k:Nat} {os:List Oper} {rs:List dj},ow c ops Q hs E L np k os rs→ ∀ i h o,rs[i]? =some h→os[i]? =some o→Hv c ops Q hs E L np (k + i) o h
 | k,[],[],_,i,h,o,ar,_=>by simp at ar
 | k,aaC :: os,bG :: r,ck,i,h,o,ar,a9=>by
   cases i with
   | zero=>
     simp only [List.getElem?_cons_zero,Option.some.injEq] at ar a9
     subst ar; subst a9; exact ck.1
   | succ i=>
     have:=ow.get ck.2 i h o (by simpa using ar) (by simpa using a9)
     rw [show k + 1 + i=k + (i + 1) by omega] at this
     exact this
 | k,[],_ :: _,ck,_,_,_,_,_=>ck.elim
 | k,_ :: _,[],ck,_,_,_,_,_=>ck.elim
theorem sM.Pj {hs:List dj} {np:Nat} :∀ {k:Nat} {os:List Oper} {rs:List dj},sM c ops Q hs E L k os rs→ow c ops Q hs E L np k os rs
 | _,[],[],_=>trivial
 | _,_ :: _,_ :: _,h=>⟨fun hd E' L' J ad _=>h.1 hd E' L' J ad,sM.Pj h.2⟩
 | _,[],_ :: _,h=>h.elim
 | _,_ :: _,[],h=>h.elim
theorem Lf {n:Nat} :∀ {L:List aJ} {f:Nat→aJ} {e6:List Nat},(∀ j∈e6,j < n∨L.length≤j)→ (lI L f e6).drop n=L.drop n
 | _,_,[],_=>rfl
 | L,f,j :: r,h=>by
   rw [lI,Lf (fun k au=>by rw [List.length_set]; exact h k (by simp [au]))]
   rcases h j (by simp) with J | J
   ·rw [List.drop_set_of_lt J]
   ·rw [List.set_eq_of_length_le J]
theorem Dw {ls:Nat→Bool} {hd:Nat→Hid} {n:Nat} :∀ {k:Nat} {hs:List dj} {L:List aJ},(∀ h∈hs,∀ j∈h.wr,j < n∨L.length≤j)→ (gz ls hd k hs L).drop n=L.drop n
 | _,[],_,_=>rfl
 | k,h :: r,L,hw=>by
   rw [gz]
   cases ao:ls k
   ·exact Dw fun x al=>hw x (by simp [al])
   ·simp only [cond_true]
    rw [Dw (fun x al j aG=>by rw [KJ]; exact hw x (by simp [al]) j aG),Lf (hw h (by simp))]
theorem Ss {hs:List dj} {np:Nat} (hw:∀ h∈hs,∀ j∈h.wr,j < np∨L.length≤j) (gX:jZ ops (iK hs) (E.map (·.1))=true) (ck:ow c ops Q hs E L np 0 ops.toList hs)
 (bJ:∀ hd,ae c Q .normal (hk (fun _=>true) hd E 0 hs) (gz (fun _=>true) hd 0 hs L)):
 ∀ m (a3:Array Bool) (hd:Nat→Hid) (a:Act) (W:World),((List.range ops.size).filter fun i=> !a3.getD i true).length≤m→HeadInv .any ops ops.size a3→
   bw c (hk (fun i=>a3.getD i false) hd E 0 hs) (gz (fun i=>a3.getD i false) hd 0 hs L) a W→wpAnyIn c.F 9 c.P .any ops Q m a3 a W:=by
 simp only [jZ,Bool.and_eq_true,decide_eq_true_eq] at gX
 obtain⟨⟨⟨H0,fV⟩,A6⟩,j3⟩:=gX
 have hlen:hs.length=ops.size:=by simpa [iK] using H0
 have k8:∀ i,i < ops.size→ ∃ h o,hs[i]? =some h∧ops[i]? =some o:=fun i ar=>⟨hs[i]'(by omega),ops[i],by simp,by simp⟩
 have pe:∀ (i:Nat) (h:dj) (o:Oper),hs[i]? =some h→ops[i]? =some o→
  o.dst=h.slot∧ (∀ e∈o.after,Region.binds .any e=true→e.on < i)∧
  (∀ k∈h.up,Region.waitsFor .any ops i k=true∨ ∃ m,m < i∧Region.waitsFor .any ops i m=true∧ ∃ x,hs[m]? =some x∧k∈x.up)∧
  (∀ (k:Nat) (x:dj),hs[k]? =some x→ (k < i→ (∃ j∈x.wr,h.rd.contains j=true)→k∈h.up)∧ (i < k→ (∃ j∈x.wr,h.rd.contains j=true∨h.wr.contains j=true)→i∈x.up)):=by
  intro i h o ar a9
  have cb:i < ops.size:=(Array.getElem?_eq_some_iff.1 a9).1
  have J:=List.all_eq_true.1 j3 i (List.mem_range.2 cb)
  rw [wZ ar] at J
  simp only [Bool.and_eq_true] at J
  obtain⟨⟨ad,ay⟩,aU⟩:=J
  simp only [a9,Option.map_some,Option.getD_some,Bool.and_eq_true,Option.bind_some,beq_iff_eq] at ad
  refine⟨ad.1,fun e he hb=> ?_,fun k au=> ?_,fun k x al=> ?_⟩
  ·have:=Array.all_eq_true_iff_forall_mem.1 ad.2 e he
   simp [hb] at this
   exact this
  ·have:=List.all_eq_true.1 ay k au
   simp only [Bool.or_eq_true,List.any_eq_true,Bool.and_eq_true,List.mem_range] at this
   rcases this with a0 | ⟨m,a0,bl,cP⟩
   ·exact .inl a0
   ·have hm:m < hs.length:=by omega
    rw [wZ (List.getElem?_eq_getElem hm)] at cP
    exact .inr ⟨m,a0,bl,hs[m],List.getElem?_eq_getElem hm,by simpa using cP⟩
  ·have Bt:k < ops.size:=by have:=(List.getElem?_eq_some_iff.1 al).1; omega
   have:=List.all_eq_true.1 aU k (List.mem_range.2 Bt)
   rw [wZ al] at this
   simp only [Bool.and_eq_true,Bool.or_eq_true,Bool.not_eq_true',Bool.and_eq_false_iff,decide_eq_false_iff_not,List.contains_iff_mem] at this
   refine⟨fun oL ⟨j,aG,aS⟩=> ?_,fun kU ⟨j,aG,aS⟩=> ?_⟩
   ·rcases this.1 with(a0 | a0) | a0
    ·exact absurd oL a0
    ·have:=List.any_eq_false.1 a0 j aG
     exact absurd aS this
    ·exact a0
   ·rcases this.2 with(a0 | a0) | a0
    ·exact absurd kU a0
    ·have:=List.any_eq_false.1 a0 j aG
     simp only [Bool.or_eq_true] at this
     exact absurd aS this
    ·exact a0
 have uZ:∀ (i j s:Nat) (x y:dj),hs[i]? =some x→hs[j]? =some y→x.slot=some s→y.slot=some s→i=j:=by
  have key:∀ (l:List dj),((iK l).filterMap (·.1)).Nodup→ ∀ (i j s:Nat) (x y:dj),l[i]? =some x→l[j]? =some y→x.slot=some s→y.slot=some s→i=j:=by
   intro l
   induction l with
   | nil=>intro _ i j s x y h; simp at h
   | cons z r bH=>
     intro fV i j s x y ar aG al a5
     have aS:((iK r).filterMap (·.1)).Nodup:=by
      cases df:z.slot with
      | none=>simpa [iK,df] using fV
      | some w=>
        simp only [iK,List.map_cons,List.filterMap_cons,df] at fV
        exact(List.nodup_cons.1 fV).2
     have pn:z.slot=some s→ ∀ (q:Nat) (v:dj),r[q]? =some v→v.slot≠some s:=fun df q v hq a6=>by
      simp only [iK,List.map_cons,List.filterMap_cons,df] at fV
      exact(List.nodup_cons.1 fV).1 (List.mem_filterMap.2 ⟨_,List.mem_map.2 ⟨v,List.mem_of_getElem? hq,rfl⟩,a6⟩)
     cases i with
     | zero=>
       simp only [List.getElem?_cons_zero,Option.some.injEq] at ar
       subst ar
       cases j with
       | zero=>rfl
       | succ j=>simp only [List.getElem?_cons_succ] at aG; exact absurd a5 (pn al j y aG)
     | succ i=>
       simp only [List.getElem?_cons_succ] at ar
       cases j with
       | zero=>
         simp only [List.getElem?_cons_zero,Option.some.injEq] at aG
         subst aG
         exact absurd al (pn a5 i x ar)
       | succ j=>simp only [List.getElem?_cons_succ] at aG; rw [bH aS i j s x y ar aG al a5]
  exact key hs fV
 have H2:∀ (t:Nat) (τ:I),look E t=some τ→ ∀ (m:Nat) (h:dj),hs[m]? =some h→h.slot=some t→ ∀ k,k < ops.size→k≠m→k∈h.up:=by
  intro t τ ao m h hm eI k au vF
  have mc:m < ops.size:=by have:=(List.getElem?_eq_some_iff.1 hm).1; omega
  have J:=List.all_eq_true.1 A6 m (List.mem_range.2 mc)
  rw [show(iK hs)[m]? =some (h.slot,h.up,h.rd,h.wr) by simp [iK,hm],eI] at J
  have ta:t∈E.map (·.1):=by
   clear A6 J ck bJ hm eI
   induction E with
   | nil=>simp [look] at ao
   | cons x r bH=>
     obtain⟨s,σ⟩:=x
     simp only [look] at ao
     by_cases e:Nat.beq s t=true
     ·have:=ej.1 e; subst this; simp
     ·simp only [Bool.not_eq_true] at e
      rw [e] at ao
      simp only [List.map_cons,List.mem_cons]
      exact .inr (bH ao)
  replace J:(!(E.map (·.1)).contains t || (List.range ops.size).all fun k=>decide (k=m) || h.up.contains k)=true:=J
  rw [show(E.map (·.1)).contains t=true by simpa using ta] at J
  have ad:∀ x,x < ops.size→x=m∨x∈h.up:=by simpa using J
  exact(ad k au).resolve_left vF
 have n6:∀ (a3:Array Bool),HeadInv .any ops ops.size a3→ ∀ (d i:Nat),i≤d→ ∀ (h:dj) (o:Oper),hs[i]? =some h→ops[i]? =some o→ (∀ e∈o.after,Region.binds .any e=true→a3.getD e.on false=true)→ ∀ k∈h.up,a3.getD k false=true:=by
  intro a3 inv d
  induction d with
  | zero=>
    intro i ar h o dm nt hw k au
    rcases (pe i h o dm nt).2.2.1 k au with J | ⟨m,hm,_⟩
    ·obtain⟨kf,ho,e,he,hb,kV⟩:=Region.waitsFor_spec J
     rw [nt] at ho; cases ho
     rw [← kV]; exact hw e he hb
    ·omega
  | succ d bH=>
    intro i ar h o dm nt hw k au
    rcases (pe i h o dm nt).2.2.1 k au with J | ⟨m,hm,J,x,al,I2⟩
    ·obtain⟨kf,ho,e,he,hb,kV⟩:=Region.waitsFor_spec J
     rw [nt] at ho; cases ho
     rw [← kV]; exact hw e he hb
    ·obtain⟨kf,ho,e,he,hb,kV⟩:=Region.waitsFor_spec J
     rw [nt] at ho; cases ho
     have mc:=hw e he hb
     rw [kV] at mc
     obtain⟨aT,pU,mf,pG⟩:=k8 m (by have:=(Array.getElem?_eq_some_iff.1 nt).1; omega)
     exact bH m (by omega) x pU al pG (fun e he hb=>inv.closed m pU pG mc e he hb) k I2
 have nb:∀ (a3:Array Bool) (hd:Nat→Hid) (a:Act) (W:World),(∀ i,i < ops.size→a3.getD i true=true)→HeadInv .any ops ops.size a3→
  bw c (hk (fun i=>a3.getD i false) hd E 0 hs) (gz (fun i=>a3.getD i false) hd 0 hs L) a W→Region.ready .any ops a3= []∧Q .normal a W:=by
  intro a3 hd a W pf inv st
  refine⟨?_,?_⟩
  ·refine List.eq_nil_iff_forall_not_mem.2 fun i ar=> ?_
   obtain⟨J,o,a9,_⟩:=mem_ready.1 ar
   rw [pf i (Array.getElem?_eq_some_iff.1 a9).1] at J
   cases J
  ·have ao:∀ m,m < hs.length→a3.getD (0 + m) false=true:=fun m hm=>by
    have J:=pf m (by omega)
    have ad:m < a3.size:=by rw [inv.size]; omega
    simpa [ad] using J
   rw [Gm (ls':=fun _=>true) ao,GM (ls':=fun _=>true) ao] at st
   exact bJ hd a W st
 intro m
 induction m with
 | zero=>
   intro a3 hd a W hm inv st
   refine nb a3 hd a W (fun i ar=> ?_) inv st
   cases h:a3.getD i true with
   | true=>rfl
   | false=>
     have:i∈ (List.range ops.size).filter fun i=> !a3.getD i true:=List.mem_filter.2 ⟨List.mem_range.2 ar,by rw [h]; rfl⟩
     rw [List.length_eq_zero_iff.1 (Nat.le_zero.1 hm)] at this
     cases this
 | succ m bH=>
   intro a3 hd a W hm inv st
   refine⟨fun bG=> ?_,fun i ar=> ?_⟩
   ·refine(nb a3 hd a W (fun i ar=> ?_) inv st).2
    have key:∀ d i,i≤d→i < ops.size→a3.getD i true=true:=by
     intro d
     induction d with
     | zero=>
       intro i vw ar
       cases ao:a3.getD i true with
       | true=>rfl
       | false=>
         obtain⟨h,o,dm,a9⟩:=k8 i ar
         have:i∈Region.ready .any ops a3:=mem_ready.2 ⟨ao,o,a9,fun e he hb=>by have:=(pe i h o dm a9).2.1 e he hb; omega⟩
         rw [bG] at this; cases this
     | succ d BG=>
       intro i vw ar
       cases ao:a3.getD i true with
       | true=>rfl
       | false=>
         obtain⟨h,o,dm,a9⟩:=k8 i ar
         have:i∈Region.ready .any ops a3:=mem_ready.2 ⟨ao,o,a9,fun e he hb=>by
          have J:=(pe i h o dm a9).2.1 e he hb
          have ad:=BG e.on (by omega) (by omega)
          have ay:e.on < a3.size:=by rw [inv.size]; omega
          simpa [ay] using ad⟩
         rw [bG] at this; cases this
    exact key i i (Nat.le_refl _) ar
   ·obtain⟨hT,o,a9,m4⟩:=mem_ready.1 ar
    have ef:i < ops.size:=(Array.getElem?_eq_some_iff.1 a9).1
    obtain⟨h,_,dm,_⟩:=k8 i ef
    have js:a3.getD i false=false:=getD_both hT
    have pr:i < a3.size:=by rw [inv.size]; omega
    have pq:((List.range ops.size).filter fun j=> !(a3.setIfInBounds i true).getD j true).length≤m:=by
     have:((List.range ops.size).filter fun j=> !(a3.setIfInBounds i true).getD j true).length < ((List.range ops.size).filter fun j=> !a3.getD j true).length:=by
      refine DK (fun j=> !a3.getD j true) (fun j=> !(a3.setIfInBounds i true).getD j true) i (by simp only [hT]; rfl) ?_ (fun j aG=> ?_) ops.size ef
      ·simp [pr]
      ·by_cases e:i=j
       ·subst e; simp only [hT]; rfl
       ·rw [getD_set_ne true e] at aG; exact aG
     omega
    have rE:=inv.set ar ef
    obtain⟨A2,z3,Xc,s9⟩:=pe i h o dm a9
    have vi:=n6 a3 inv i i (Nat.le_refl _) h o dm a9 m4
    have z5:∀ (k:Nat) (x:dj),hs[k]? =some x→i < k→ (∃ j∈x.wr,h.rd.contains j=true∨h.wr.contains j=true)→a3.getD k false=false:=fun k x al kU aG=>by
     have J:=(s9 k x al).2 kU aG
     cases au:a3.getD k false with
     | false=>rfl
     | true=>
       obtain⟨_,ok,_,hV⟩:=k8 k (by have:=(List.getElem?_eq_some_iff.1 al).1; omega)
       have:=n6 a3 inv k k (Nat.le_refl _) x ok al hV (fun e he hb=>inv.closed k ok hV au e he hb) i J
       rw [js] at this; cases this
    have z6:hs=hs.take i ++ h :: hs.drop (i + 1):=by
     have vG:i < hs.length:=by omega
     rw [List.getElem?_eq_getElem vG] at dm
     cases dm
     rw [List.getElem_cons_drop]
     exact(List.take_append_drop i hs).symm
    have BH:(hs.take i).length=i:=by rw [List.length_take]; omega
    have lR:∀ (t:Nat) (τ:I),look E t=some τ→ ∀ (m:Nat) (x:dj),hs[m]? =some x→a3.getD (0 + m) false=true→x.slot≠some t:=fun t τ ao m x al rZ eI=>by
     rw [Nat.zero_add] at rZ
     have I3:i≠m:=fun e=>by subst e; rw [js] at rZ; cases rZ
     obtain⟨_,pU,_,pG⟩:=k8 m (by have:=(List.getElem?_eq_some_iff.1 al).1; omega)
     have:=n6 a3 inv m m (Nat.le_refl _) x pU al pG (fun e he hb=>inv.closed m pU pG rZ e he hb) i (H2 t τ ao m x al eI i ef I3)
     rw [js] at this; cases this
    have AA:=(ow.get ck i h o dm (by rw [Array.getElem?_toList]; exact a9))
    rw [Nat.zero_add] at AA
    have BI:=AA hd (hk (fun i=>a3.getD i false) hd E 0 hs) (gz (fun i=>a3.getD i false) hd 0 hs L) (fun t τ ao=> ?_) (fun j e aG aS=> ?_) (Dw hw)
    ·have hw:=zg (K:=fun a W=> ∃ x,bw c (nh h.slot (h.τ (fX h.up i (iy hd i x))) (hk (fun i=>a3.getD i false) hd E 0 hs)) (lI (gz (fun i=>a3.getD i false) hd 0 hs L) (h.fw (fX h.up i (iy hd i x))) h.wr) a W) a9 (BI a W st)
     refine wpOpIn_mono (fun fY W' ⟨x,mO⟩=> ?_) hw
     have BJ:∀ j,j≠i→iy hd i x j=hd j:=fun j aG=>by
      have:Nat.beq j i=false:=by
       cases hb:Nat.beq j i
       ·rfl
       ·exact absurd (ej.1 hb) aG
      simp only [iy,this,cond_false]
     have vH:∀ (j:Nat) (y:dj),hs[j]? =some y→a3.getD j false=true→fX y.up j (iy hd i x)=fX y.up j hd:=fun j y a5 aG=>by
      obtain⟨_,kf,_,ho⟩:=k8 j (by have:=(List.getElem?_eq_some_iff.1 a5).1; omega)
      refine Le (BJ j fun e=>by subst e; rw [js] at aG; cases aG) fun k au=>BJ k fun e=> ?_
      have:=n6 a3 inv j j (Nat.le_refl _) y kf a5 ho (fun e he hb=>inv.closed j kf ho aG e he hb) k au
      subst e
      rw [js] at this; cases this
     have vI:(a3.setIfInBounds i true).getD i false=true:=by simp [pr]
     have fR:∀ j,j≠i→ (a3.setIfInBounds i true).getD j false=a3.getD j false:=fun j aG=>getD_set_ne false (fun e=>aG e.symm)
     refine bH _ (iy hd i x) fY W' pq rE ?_
     have Iw:gz (fun j=>(a3.setIfInBounds i true).getD j false) (iy hd i x) 0 hs L=lI (gz (fun i=>a3.getD i false) hd 0 hs L) (h.fw (fX h.up i (iy hd i x))) h.wr:=by
      apply List.ext_getElem?
      intro j
      rw [uB,Dl,uB]
      by_cases aG:h.wr.contains j=true
      ·rw [if_pos aG]
       have aF:∀ (ls:Nat→Bool) (g:Nat→Hid) (v:Option aJ),(∀ k x,hs[k]? =some x→i < k→x.wr.contains j=true→ls k=false)→jL ls g j 0 hs v=(bif ls i then(jL ls g j 0 (hs.take i) v).map (fun _=>h.fw (fX h.up i g) j) else jL ls g j 0 (hs.take i) v):=fun ls g v BE=>by
        conv=>lhs; rw [z6]
        rw [zj,BH,Nat.zero_add,jL,aG,Bool.and_true,zq]
        intro k x al hw
        rw [List.getElem?_drop] at al
        exact BE (i + 1 + k) x al (by omega) hw
       have eO:∀ k x,hs[k]? =some x→i < k→x.wr.contains j=true→a3.getD k false=false:=fun k x al kU hw=>z5 k x al kU ⟨j,by simpa using hw,.inr aG⟩
       rw [aF (fun j=>(a3.setIfInBounds i true).getD j false) (iy hd i x) _ (fun k x al kU hw=>by rw [fR k (by omega)]; exact eO k x al kU hw),aF (fun j=>a3.getD j false) hd _ eO]
       simp only [vI,js,cond_true,cond_false]
       rw [tY (ls':=fun j=>a3.getD j false) (hd':=hd) fun q x al _=>by
        have hq:q < i:=by have:=(List.getElem?_eq_some_iff.1 al).1; omega
        rw [List.getElem?_take,if_pos hq] at al
        rw [Nat.zero_add]
        exact⟨fR q (by omega),fun ao=>vH q x al (by rw [fR q (by omega)] at ao; exact ao)⟩]
      ·rw [if_neg aG]
       refine tY fun q x al hw=> ?_
       rw [Nat.zero_add]
       have hq:q≠i:=fun e=>by subst e; rw [dm] at al; cases al; exact aG hw
       exact⟨fR q hq,fun ao=>vH q x al (by rw [fR q hq] at ao; exact ao)⟩
     rw [Iw]
     refine mO.less fun t τ ao=> ?_
     rcases GL ao with⟨j,y,J,ad,ay,aU⟩ | ⟨J,eO⟩
     ·rw [Nat.zero_add] at ad aU
      by_cases hI:j=i
      ·subst hI
       rw [dm] at J
       cases J
       exact⟨τ,by rw [ay,aU]; simp [nh,look,Nat.beq_refl],fun _ _ _ h=>h⟩
      ·rw [fR j hI] at ad
       rw [vH j y J ad] at aU
       have a0:=zC (ls:=fun i=>a3.getD i false) (hd:=hd) (E:=E) (k:=0) J (by rw [Nat.zero_add]; exact ad) ay fun q z hq df=>uZ q j t z y hq J df ay
       rw [Nat.zero_add,← aU] at a0
       refine⟨τ,?_,fun _ _ _ h=>h⟩
       cases n3:h.slot with
       | none=>exact a0
       | some s=>
         have cH:Nat.beq s t=false:=by
          cases hb:Nat.beq s t
          ·rfl
          ·have:=ej.1 hb; subst this
           exact absurd (uZ j i s y h J dm ay n3) hI
         simp only [nh,look,cH,cond_false]
         exact a0
     ·have hb:=lR t τ J
      have a0:=zr (ls:=fun i=>a3.getD i false) (hd:=hd) (E:=E) (k:=0) hb
      refine⟨τ,?_,fun _ _ _ h=>h⟩
      cases n3:h.slot with
      | none=>simp only [nh]; rw [a0]; exact J
      | some s=>
        have cH:Nat.beq s t=false:=by
         cases kT:Nat.beq s t
         ·rfl
         ·have:=ej.1 kT; subst this
          exact absurd n3 (eO i h dm (by rw [Nat.zero_add]; exact vI))
        simp only [nh,look,cH,cond_false]
        rw [a0]; exact J
    ·rcases Hc ao with⟨j,aG,y,J,ad,ay⟩ | J
     ·have a0:=zC (ls:=fun i=>a3.getD i false) (hd:=hd) (E:=E) (k:=0) J (by rw [Nat.zero_add]; exact vi j aG) ad fun q z hq df=>uZ q j t z y hq J df ad
      rw [Nat.zero_add,← ay] at a0
      exact a0
     ·rw [zr (lR t τ J)]; exact J
    ·rw [uB] at aG ⊢
     rw [← aG]
     conv=>lhs; rw [z6]
     rw [zj,zq]
     ·refine tY fun q x al hw=> ?_
      rw [Nat.zero_add]
      have hq:q < i:=by have:=(List.getElem?_eq_some_iff.1 al).1; omega
      rw [List.getElem?_take,if_pos hq] at al
      exact⟨vi q ((s9 q x al).1 hq ⟨j,by simpa using hw,aS⟩),fun _=>rfl⟩
     ·intro q x al hw
      rw [BH,Nat.zero_add]
      cases q with
      | zero=>exact js
      | succ q=>
        simp only [List.getElem?_cons_succ] at al
        rw [List.getElem?_drop] at al
        exact z5 (i + (q + 1)) x (by rw [← al]; congr 1; omega) (by omega) ⟨j,by simpa using hw,.inl aS⟩
theorem ai.MQ {np:Nat} {n5:Nat} {l:List Oper} (hm:c.P.follows .mixedOrders=true) (hs:List dj) (ds:List (Option Nat × List Nat × List Nat × List Nat)) (es:List Nat) (hH:iK hs=ds) (pH:E.map (·.1)=es) (gX:Gv.jZ l.toArray ds es=true) (hw:∀ h∈hs,∀ j∈h.wr,j < np∨L.length≤j)
 (ck:ow c l.toArray Q hs E L np 0 l hs) (bJ:∀ hd,ae c Q .normal (hk (fun _=>true) hd E 0 hs) (gz (fun _=>true) hd 0 hs L)):ai c Q (.region n5 l.toArray true) E L:=fun a W s=>by
 subst hH pH
 refine wpIn_region_any hm ?_
 have A3:HeadInv .any l.toArray l.toArray.size (Array.replicate l.toArray.size false):=
  {size:=by simp
   closed:=fun j kf _ ao=>by rw [getD_replicate_false] at ao; cases ao
   tail:=fun t J ad=>by omega }
 refine Ss hw (ops:=l.toArray) (Q:=Q) gX (by simpa using ck) bJ l.toArray.size (Array.replicate l.toArray.size false) (fun _ _=>none) a W.drew (Nat.le_trans (List.length_filter_le _ _) (by simp)) A3 ?_
 have J:∀ (hs:List dj) (k:Nat),hk (fun i=>(Array.replicate l.toArray.size false).getD i false) (fun _ _=>none) E k hs=E:=by
  intro hs
  induction hs with
  | nil=>intro k; rfl
  | cons h r bH=>
    intro k
    have ad:=bH (k + 1)
    simp only [getD_replicate_false] at ad
    unfold hk
    simp only [getD_replicate_false]
    exact ad
 have ad:∀ (hs:List dj) (k:Nat) (L:List aJ),gz (fun i=>(Array.replicate l.toArray.size false).getD i false) (fun _ _=>none) k hs L=L:=by
  intro hs
  induction hs with
  | nil=>intro k L; rfl
  | cons h r bH=>intro k L; rw [gz,bH]; simp only [getD_replicate_false,cond_false]
 rw [J,ad]
 exact s.world (Fr.drew W)
theorem ai.jZ {n5:Nat} {l:List Oper} (hm:c.P.follows .mixedOrders=true) (hs:List dj) (ds:List (Option Nat × List Nat × List Nat × List Nat)) (es:List Nat) (hH:iK hs=ds) (pH:E.map (·.1)=es) (gX:Gv.jZ l.toArray ds es=true)
 (ck:sM c l.toArray Q hs E L 0 l hs) (bJ:∀ hd,ae c Q .normal (hk (fun _=>true) hd E 0 hs) (gz (fun _=>true) hd 0 hs L)):ai c Q (.region n5 l.toArray true) E L:=
 ai.MQ (np:=L.length) hm hs ds es hH pH gX (fun _ _ j _=>by omega) ck.Pj bJ
theorem NQ {hs:List dj} {ds:List (Option Nat × List Nat × List Nat × List Nat)} {np:Nat} (hH:iK hs=ds) (h:(ds.all fun d=>d.2.2.2.all fun j=>Nat.blt j np)=true):∀ h∈hs,∀ j∈h.wr,j < np∨L.length≤j:=fun x al j aG=>by
 subst hH
 have J:=List.all_eq_true.1 h (x.slot,x.up,x.rd,x.wr) (List.mem_map.2 ⟨x,al,rfl⟩)
 have ad:=List.all_eq_true.1 J j aG
 exact .inl (Nat.blt_eq.mp ad)
theorem ai.uR {n5:Nat} {l:List Oper} (np:Nat) (hm:c.P.follows .mixedOrders=true) (hs:List dj) (ds:List (Option Nat × List Nat × List Nat × List Nat)) (es:List Nat) (hH:iK hs=ds) (pH:E.map (·.1)=es) (gX:Gv.jZ l.toArray ds es=true) (hw:(ds.all fun d=>d.2.2.2.all fun j=>Nat.blt j np)=true)
 (ck:ow c l.toArray Q hs E L np 0 l hs) (bJ:∀ hd,ae c Q .normal (hk (fun _=>true) hd E 0 hs) (gz (fun _=>true) hd 0 hs L)):ai c Q (.region n5 l.toArray true) E L:=
 ai.MQ hm hs ds es hH pH gX (NQ hH hw) ck bJ
theorem ae.fin {slot:Option Nat} {up wr:List Nat} {i:Nat} {hd:Nat→Hid} {τ:(Nat→Hid)→I} {fw:(Nat→Hid)→Nat→aJ} {E' vT:List (Nat × I)} {L' L2:List aJ} (x:Hid) (aD:vT=nh slot (τ (fX up i (iy hd i x))) E') (an:L2=lI L' (fw (fX up i (iy hd i x))) wr):
 ae c (pT (fun a W=> ∃ x,bw c (nh slot (τ (fX up i (iy hd i x))) E') (lI L' (fw (fX up i (iy hd i x))) wr) a W) Q) .normal vT L2:=fun a W s=>by
 subst aD an
 exact⟨x,s⟩
theorem ae.place {z:Exit} {e:aJ} (j:Nat) (aG:L[j]? =some ⟨none,.dead⟩) (k:ae c Q z E (L.set j e)):ae c Q z E (e :: L):=fun a W s=>by
 refine k a W (s.sub (fun x al=> ?_) ?_)
 ·rcases List.mem_or_eq_of_mem_set al with h | h
  ·exact List.mem_cons.2 (.inr h)
  ·exact List.mem_cons.2 (.inl h)
 ·have J:=su aG
  have ad:(L.set j e).Perm (e :: L.eraseIdx j):=by
   have ay:(L.set j e)[j]? =some e:=by rw [List.getElem?_set_self (List.getElem?_eq_some_iff.1 aG).1]
   have aU:=su ay
   rwa [List.eraseIdx_set_eq] at aU
  have a0:=ur (J.cons e)
  have bl:aL (e :: ⟨none,.dead⟩ :: L.eraseIdx j)=aL (e :: L.eraseIdx j):=by cases au:e.key <;> simp [aL,au]
  rw [bl] at a0
  exact(ur ad).nodup_iff.2 (a0.nodup_iff.1 s.nodup)
theorem ae.back {z:Exit} {e jU:aJ} (j:Nat) (aG:L[j]? =some jU) (k:ae c Q z E (L.set j e)):ae c Q z E (e :: L.eraseIdx j):=fun a W s=>by
 have ay:(L.set j e)[j]? =some e:=by rw [List.getElem?_set_self (List.getElem?_eq_some_iff.1 aG).1]
 have aU:=su ay
 rw [List.eraseIdx_set_eq] at aU
 exact k a W (s.perm aU.symm)
theorem ai.qk {z:Code} (n:Nat) (k:ai c Q z E (L ++ List.replicate n ⟨none,.dead⟩)):ai c Q z E L:=fun a W s=>by
 refine k a W ?_
 have au:aL (L ++ List.replicate n ⟨none,.dead⟩)=aL L:=by
  rw [eB]
  have:∀ n,aL (List.replicate n (⟨none,.dead⟩:aJ))= []:=fun n=>by
   induction n with
   | zero=>rfl
   | succ n bH=>rw [List.replicate_succ]; simp [aL,bH]
  rw [this,List.append_nil]
 exact
 {defers:=s.defers
  size:=s.size
  env:=fun t τ ao=>by rw [au]; exact s.env t τ ao
  dw:=s.dw
  own:=fun e he=>by
   rw [au]
   rcases List.mem_append.1 he with he | he
   ·exact s.own e he
   ·rw [(List.mem_replicate.1 he).2]; trivial
  nodup:=by rw [au]; exact s.nodup
  lt:=by rw [au]; exact s.lt
  fD:=by rw [au]; exact s.fD
  eF:=by rw [au]; exact s.eF }
theorem ai.W5 {z:Code} (n m:Nat) (k:ai c Q z E (L.take m ++ (List.replicate n ⟨none,.dead⟩ ++ L.drop m))):ai c Q z E L:=by
 refine ai.qk n fun a W s=>k a W (s.perm ?_)
 have e:L=L.take m ++ L.drop m:=(List.take_append_drop m L).symm
 conv=>lhs; rw [e]
 rw [List.append_assoc]
 exact List.perm_append_comm.append_left _
theorem ae.eo {z:Exit} {L2:List aJ} (h:L=L2) (k:ae c Q z E L2):ae c Q z E L:=by subst h; exact k
theorem ae.hM {z:Exit} {key:Option Nat} {n m cap:Nat} (e5:Nat) (ao:look E e5=some (.eq (ba key n cap))) (aP:n=m) (k:ae c Q z ((e5,.eq (ba key m cap)) :: E) L):ae c Q z E L:=fun a W s=>by
 subst aP
 refine k a W (s.less fun t τ h=> ?_)
 simp only [look] at h
 by_cases e:Nat.beq e5 t=true
 ·rw [e] at h
  simp only [cond_true] at h
  have:=ej.1 e
  subst this
  exact⟨τ,by rw [ao,h],fun _ _ _ h=>h⟩
 ·simp only [Bool.not_eq_true] at e
  rw [e] at h
  exact⟨τ,h,fun _ _ _ h=>h⟩
variable {hs:List dj} {i d:Nat} {up rd:List Nat} {fw:(Nat→Hid)→Nat→aJ} {o:Oper}
theorem hO {τ:I} (bE:o.guard=none) (hd:o.dst=some d) (aP:Nat.blt d c.n=true)
 (h:∀ (hd:Nat→Hid) (E':List (Nat × I)) (L':List aJ),(∀ t τ,look (me hd hs E up) t=some τ→look E' t=some τ)→ (∀ j e,(gz (fun _=>true) hd 0 (hs.take i) L)[j]? =some e→rd.contains j=true→L'[j]? =some e)→b4 c E' L' o τ):
 c3 c ops Q hs E L i o ⟨some d,up,rd,[],fun _=>τ,fw⟩:=fun ZD E' L' aD an=>
 ah.v (h ZD E' L' aD an) bE hd aP (ah.nil (ae.fin (fun _=>none) rfl rfl))
variable {ty t:TypeId} {pos:String} {af:Array Edge}
theorem ah.Og {α:Type} [ag α] {rest:List Oper} {bb e n:Nat} {z:α} {r0 r:List α} {br:List (Nat × Operand)} (hu:c.P.underlying t=some (.slice e)) (ew:bt c.P e α) (gl:cn c.P e z) (hs:Nat.beq (ag.size α) 0=false) (aP:Nat.ble (n * ag.size α) 16777216=true)
 (a8:m7 c E L (List.replicate n z) br r0) (aS:r0=r) (jA:Nat.blt bb c.n=true) (k:∀ p,ah c ops Q rest ((bb,.eq (ba p r.length n)) :: E) (⟨p,.row e r n⟩ :: L)):
 ah c ops Q (⟨some bb,.buildSlice t n br.toArray,ty,pos,af,none⟩ :: rest) E L:=by subst aS; exact ah.qi hu ew gl hs aP a8 jA k
variable {g:Option (Nat × Bool)} {x y:Operand}
theorem Tr {a b:BitVec 64} {bb:Option Tmp} {ats:Array TypeId} (al:a7 c E L x (.of a)) (a5:a7 c E L y (.of b)):b4 c E L ⟨bb,.call ⟨.builtin .min,#[x,y],ats⟩,ty,pos,af,g⟩ (.of (vf a b)):= .pure fun A W s=>
 ⟨.int .u64 (vf a b).toNat,by
   simp [execOp,resolve,invoke,builtin,Builtin.min_,Builtin.min2,gn.1 (al A W s),gn.1 (a5 A W s)]
   unfold vf
   split <;> split <;> first | rfl | (rename_i J ad; simp only [BitVec.le_def] at *; omega),gn.2 rfl⟩
end
section
variable {c:c5} {E:List (Nat × I)} {L:List aJ} {ops:Array Oper} {Q:Exit→Act→World→Prop}
variable {d:Option Tmp} {ty:TypeId} {pos:String} {af:Array Edge} {g:Option (Nat × Bool)} {x y:Operand} {t t2:TypeId}
def Src (c:c5) (E:List (Nat × I)) (L:List aJ) (y:Operand) (N:Nat) {α:Type} [ag α] (vs:List α):Prop:=
 ∀ a W,bw c E L a W→ (Builtin.lenOf (a.eval y)).run c.P W= .ok N W∧ ∃ cells:List Value,(Builtin.firstCells (ag.size α) vs.length (a.eval y)).run c.P W= .ok cells.toArray W∧gi (aL L ++ c.bX) W cells vs∧ ∀ v∈cells,v.oneCell'=true
theorem ah.Eb {rest:List Oper} {i e p off bb dLen dCap N T:Nat} {cp cp':dr} {α:Type} [ag α] {vs:List α} (hu:c.P.underlying t=some (.slice e)) (ew:bt c.P e α)
 (al:a7 c E L x (.eq (.slice (some ⟨p,off,none⟩) dLen dCap))) (a5:Src c E L y N vs) (Iu:Nat.min N dLen=vs.length) (an:L[i]? =some ⟨some p,cp⟩) (aP:Nat.blt bb c.n=true)
 (IN:∀ A W o cells,cp.holds A W o→gi A W cells vs→ ∃ cs,o= .cells cs T (0,0)∧off + cells.length≤cs.size∧cp'.holds A W (.cells (cs.toList.take off ++ cells ++ cs.toList.drop (off + cells.length)).toArray T (0,0)))
 (k:ah c ops Q rest ((bb,.of (vs.length:Int)) :: E) (L.set i ⟨some p,cp'⟩)):
 ah c ops Q (⟨some bb,.call ⟨.builtin .copy,#[x,y],#[t,t2]⟩,ty,pos,af,none⟩ :: rest) E L:=fun a W s=>by
 have jA:bb < c.n:=by simpa using aP
 have J:a.eval x=_:=al a W s
 obtain⟨ao,cells,ak,aS,xR⟩:=a5 a W s
 obtain⟨o,a9,ck⟩:=s.own _ (List.mem_of_getElem? an)
 obtain⟨cs,rfl,ED,oG⟩:=IN _ _ _ _ ck aS
 obtain⟨fN,eb,dW⟩:=ew.info
 have fK:=run_storeCells_at (P:=c.P) p off T cells 0 cs W a9 (by omega) xR
 simp only [Nat.add_zero] at fK
 have hB:(execOp a.eval ⟨some bb,.call ⟨.builtin .copy,#[x,y],#[t,t2]⟩,ty,pos,af,none⟩).run c.P W= .ok (.value (goInt vs.length)) (W.setRow p (cs.toList.take off ++ cells ++ cs.toList.drop (off + cells.length)).toArray):=by
  simp [execOp,resolve,invoke,builtin,Builtin.copy_,J,run_underlying hu,ao,Iu,Go.sizeOf,typeInfo,eb,dW,ak,fK]
 refine g9 rfl (R:=fun v gP=>v=goInt vs.length∧gP=W.setRow p (cs.toList.take off ++ cells ++ cs.toList.drop (off + cells.length)).toArray) (.kj hB ⟨rfl,rfl⟩) fun v gP ⟨a6,hw⟩=> ?_
 subst a6
 subst hw
 exact k _ _ ((s.store an a9 oG).put jA (of_int.2 rfl))
theorem Dt {i T cap lo N k:Nat} {key:Option Nat} {α:Type} [ag α] {xs:List α} (a5:a7 c E L y (.eq (hi key lo N cap (ag.size α)))) (an:L[i]? =some ⟨key,.row T xs cap⟩) (au:0 < k) (fR:lo + k≤xs.length):
 Src c E L y N ((xs.drop lo).take k):=fun a W s=>by
 obtain⟨p,cs,rfl,er,av,bm,bS,dq⟩:=s.rowAt an (by omega)
 have J:a.eval y=_:=a5 a W s
 have kW:cap≠lo:=by omega
 have a6:a.eval y= .slice (some ⟨p,lo * ag.size α,none⟩) N (cap - lo):=by rw [J]; simp [hi,kW]
 have hlen:((xs.drop lo).take k).length=k:=by rw [List.length_take,List.length_drop]; omega
 have tm:cs.toList.length=cap * ag.size α:=by simpa using av
 have YS:(lo + k) * ag.size α≤xs.length * ag.size α:=Nat.mul_le_mul_right _ fR
 have EC:xs.length * ag.size α≤cap * ag.size α:=Nat.mul_le_mul_right _ bm
 rw [Nat.add_mul] at YS
 have OD:((cs.toList.drop (lo * ag.size α)).take (k * ag.size α)).length=k * ag.size α:=by rw [List.length_take,List.length_drop]; omega
 have fE:gi (aL L ++ c.bX) W ((cs.toList.drop (lo * ag.size α)).take (k * ag.size α)) ((xs.drop lo).take k):=by
  refine⟨by rw [OD,hlen],fun j aG=> ?_⟩
  rw [hlen] at aG
  have a0:=dq.2 (lo + j) (by omega)
  have ef:=xb (s:=ag.size α) aG
  have aa2:=xb (s:=ag.size α) (show lo + j < xs.length by omega)
  rw [List.drop_take,List.take_take,Nat.min_eq_left (by omega)] at a0
  rw [List.drop_take,List.take_take,Nat.min_eq_left (by omega),List.drop_drop,← Nat.add_mul]
  simpa using a0
 have fM:=run_loadCells_list (P:=c.P) W ⟨p,lo * ag.size α,none⟩ ((cs.toList.drop (lo * ag.size α)).take (k * ag.size α)) fun j v a6=>by
  rw [iC,cell_of_row W p _ cs T (0,0) er]
  rw [List.getElem?_take] at a6
  split at a6
  ·rw [List.getElem?_drop] at a6; simpa using a6
  ·cases a6
 rw [OD] at fM
 refine⟨by rw [a6]; rfl,(cs.toList.drop (lo * ag.size α)).take (k * ag.size α),?_,fE,fE.one⟩
 rw [a6]
 simp only [Builtin.firstCells]
 rw [hlen]
 exact fM
theorem G6 {p lo n cap size:Nat} (h:cap≠lo):hi (some p) lo n cap size=Value.slice (some ⟨p,lo * size,none⟩) n (cap - lo):=by simp [hi,h]
theorem Mc {i T cap:Nat} {key:Option Nat} {α:Type} [ag α] {xs:List α} (a5:a7 c E L y (.eq (ba key xs.length cap))) (an:L[i]? =some ⟨key,.row T xs cap⟩) (al:0 < xs.length):Src c E L y xs.length xs:=by
 have:=Dt (lo:=0) (k:=xs.length) (N:=xs.length) (by rw [zn]; exact a5) an al (by omega)
 simpa using this
theorem DH {key:Option Nat} {n cap size:Nat} (h:a7 c E L x (.eq (hi key 0 n cap size))):a7 c E L x (.eq (ba key n cap)):=by rw [← zn (size:=size)]; exact h
theorem Hr {p lo n cap size:Nat} (ak:cap≠lo) (h:a7 c E L x (.eq (hi (some p) lo n cap size))):a7 c E L x (.eq (.slice (some ⟨p,lo * size,none⟩) n (cap - lo))):=by rw [← G6 ak]; exact h
def dr.Bk {α:Type} [ag α] (T:TypeId) (xs:List α) (i m cap:Nat):dr where
 holds A W o:= ∃ cs,o= .cells cs T (0,0)∧cs.size=cap * ag.size α∧xs.length + m≤cap∧cap≤maxLen∧gi A W (cs.toList.take (i * ag.size α)) (xs.take i)∧
  gi A W ((cs.toList.drop ((i + m) * ag.size α)).take ((xs.length - i) * ag.size α)) (xs.drop i)
 l4:=False
 mono e h:=let⟨cs,J,ad,ay,aU,a0,bl⟩:=h; ⟨cs,J,ad,ay,aU,a0.mono e,bl.mono e⟩
theorem Uf {α:Type} [ag α] {T i m cap:Nat} {xs:List α} (ar:i≤xs.length) (hm:xs.length + m≤cap) {A W o cells} (h:(dr.row T xs cap).holds A W o) (ak:gi A W cells (xs.drop i)):
 ∃ cs,o= .cells cs T (0,0)∧ (i + m) * ag.size α + cells.length≤cs.size∧ (dr.Bk T xs i m cap).holds A W (.cells (cs.toList.take ((i + m) * ag.size α) ++ cells ++ cs.toList.drop ((i + m) * ag.size α + cells.length)).toArray T (0,0)):=by
 obtain⟨cs,rfl,av,bm,bS,dq⟩:=h
 have tm:cs.toList.length=cap * ag.size α:=by simpa using av
 have kW:cells.length=(xs.length - i) * ag.size α:=by rw [ak.1,List.length_drop]
 have aF:(i + m) * ag.size α + (xs.length - i) * ag.size α=(xs.length + m) * ag.size α:=by rw [← Nat.add_mul]; congr 1; omega
 have aR:(xs.length + m) * ag.size α≤cap * ag.size α:=Nat.mul_le_mul_right _ hm
 have dh:i * ag.size α≤ (i + m) * ag.size α:=Nat.mul_le_mul_right _ (by omega)
 have iQ:i * ag.size α≤xs.length * ag.size α:=Nat.mul_le_mul_right _ ar
 have mj:(cs.toList.take ((i + m) * ag.size α)).length=(i + m) * ag.size α:=by rw [List.length_take]; omega
 refine⟨cs,rfl,by omega,_,rfl,?_,hm,bS,?_,?_⟩
 ·simp only [List.size_toArray,List.length_append,List.length_take,List.length_drop]; omega
 ·rw [List.toList_toArray,List.append_assoc,List.take_append_of_le_length (by rw [mj]; omega),List.take_take,Nat.min_eq_left dh]
  have:=GF ar (⟨cs,rfl,av,bm,bS,dq⟩:(dr.row T xs cap).holds A W (.cells cs T (0,0)))
  obtain⟨ZE,J,_,_,_,a0⟩:=this
  cases J
  rwa [List.length_take,Nat.min_eq_left ar] at a0
 ·rw [List.toList_toArray,List.append_assoc,List.drop_left' mj,← kW,List.take_left]
  exact ak
theorem Tz {α:Type} [ag α] {T i cap:Nat} {xs vs:List α} (ar:i≤xs.length) {A W o cells} (h:(dr.Bk T xs i vs.length cap).holds A W o) (ak:gi A W cells vs):
 ∃ cs,o= .cells cs T (0,0)∧i * ag.size α + cells.length≤cs.size∧ (dr.row T (xs.take i ++ vs ++ xs.drop i) cap).holds A W (.cells (cs.toList.take (i * ag.size α) ++ cells ++ cs.toList.drop (i * ag.size α + cells.length)).toArray T (0,0)):=by
 obtain⟨cs,rfl,av,bm,bS,dq,oV⟩:=h
 have tm:cs.toList.length=cap * ag.size α:=by simpa using av
 have kW:cells.length=vs.length * ag.size α:=ak.1
 have jU:i * ag.size α + vs.length * ag.size α=(i + vs.length) * ag.size α:=by rw [← Nat.add_mul]
 have aF:(i + vs.length) * ag.size α + (xs.length - i) * ag.size α=(xs.length + vs.length) * ag.size α:=by rw [← Nat.add_mul]; congr 1; omega
 have aR:(xs.length + vs.length) * ag.size α≤cap * ag.size α:=Nat.mul_le_mul_right _ bm
 have hlen:(xs.take i ++ vs ++ xs.drop i).length=xs.length + vs.length:=by simp; omega
 refine⟨cs,rfl,by omega,_,rfl,?_,by rw [hlen]; exact bm,bS,?_⟩
 ·simp only [List.size_toArray,List.length_append,List.length_take,List.length_drop]; omega
 ·rw [List.toList_toArray,hlen]
  have j3:=sr (sr dq ak) oV
  have mj:(cs.toList.take (i * ag.size α) ++ cells).length=(i + vs.length) * ag.size α:=by rw [List.length_append,List.length_take]; omega
  have v3:(cs.toList.take (i * ag.size α) ++ cells ++ cs.toList.drop (i * ag.size α + cells.length)).take ((xs.length + vs.length) * ag.size α)=cs.toList.take (i * ag.size α) ++ cells ++ (cs.toList.drop ((i + vs.length) * ag.size α)).take ((xs.length - i) * ag.size α):=by
   rw [List.take_append,mj,List.take_of_length_le (by omega),kW,jU]
   congr 2
   omega
  rw [v3]
  exact j3
theorem GH {α:Type} [ag α] {T lo cap:Nat} {xs vs:List α} (au:lo + vs.length≤xs.length) {A W o cells} (h:(dr.row T xs cap).holds A W o) (ak:gi A W cells vs):
 ∃ cs,o= .cells cs T (0,0)∧lo * ag.size α + cells.length≤cs.size∧ (dr.row T (xs.take lo ++ vs ++ xs.drop (lo + vs.length)) cap).holds A W (.cells (cs.toList.take (lo * ag.size α) ++ cells ++ cs.toList.drop (lo * ag.size α + cells.length)).toArray T (0,0)):=by
 obtain⟨cs,rfl,av,bm,bS,dq⟩:=h
 have tm:cs.toList.length=cap * ag.size α:=by simpa using av
 have kW:cells.length=vs.length * ag.size α:=ak.1
 have jU:lo * ag.size α + vs.length * ag.size α=(lo + vs.length) * ag.size α:=by rw [← Nat.add_mul]
 have aF:(lo + vs.length) * ag.size α≤xs.length * ag.size α:=Nat.mul_le_mul_right _ au
 have aR:xs.length * ag.size α≤cap * ag.size α:=Nat.mul_le_mul_right _ bm
 have hlen:(xs.take lo ++ vs ++ xs.drop (lo + vs.length)).length=xs.length:=by simp; omega
 refine⟨cs,rfl,by omega,_,rfl,?_,by rw [hlen]; exact bm,bS,?_⟩
 ·simp only [List.size_toArray,List.length_append,List.length_take,List.length_drop]; omega
 ·rw [List.toList_toArray,hlen]
  have oV:=Lb (lo:=lo) dq ak au
  have e:(cs.toList.take (lo * ag.size α) ++ cells ++ cs.toList.drop (lo * ag.size α + cells.length)).take (xs.length * ag.size α)=(cs.toList.take (xs.length * ag.size α)).take (lo * ag.size α) ++ cells ++ (cs.toList.take (xs.length * ag.size α)).drop (lo * ag.size α + cells.length):=by
   have dh:(cs.toList.take (lo * ag.size α) ++ cells).length=lo * ag.size α + cells.length:=by rw [List.length_append,List.length_take]; omega
   rw [List.take_append,dh,List.take_of_length_le (by omega),List.take_take,Nat.min_eq_left (by omega),List.drop_take]
  rw [e]
  exact oV
theorem U8 {p n cap e:Nat} (hu:c.P.underlying t=some (.slice e)) (al:a7 c E L x (.eq (ba (some p) n cap))):b4 c E L ⟨d,.call ⟨.builtin .cap,#[x],#[t]⟩,ty,pos,af,g⟩ (.of (cap:Int)):= .pure fun a W s=>by
 have J:a.eval x=_:=al a W s
 exact⟨.int .i64 cap,by simp [execOp,resolve,invoke,builtin,Builtin.cap_,J,ba,run_underlying hu,goInt],of_int.2 rfl⟩
theorem qV {p n cap:Nat} {α:Type} [ag α] {e:TypeId} {lo ar:Option Operand} {m h:Nat} {B7 B8:Int} (hu:c.P.underlying t=some (.slice e)) (ew:bt c.P e α) (al:a7 c E L x (.eq (ba (some p) n cap)))
 (fR:tu c E L lo B7 0) (dm:tu c E L ar B8 n) (hm:B7=m) (aP:B8=h) (ck:m≤h∧h≤cap):
 b4 c E L ⟨d,.slice t x lo ar none,ty,pos,af,g⟩ (.eq (hi (some p) m (h - m) cap (ag.size α))):= .pure fun a W s=>by
 subst hm; subst aP
 obtain⟨rP,ky⟩:=ck
 obtain⟨fN,eb,dW⟩:=ew.info
 have J:a.eval x=_:=al a W s
 refine⟨_,?_,rfl⟩
 simp only [hi]
 have an:∀ v,v=Value.int .i64 m→ (Instr.sliceBound v h .sliceB).run c.P W= .ok m W:=fun v a6=>om rP a6
 have jc:∀ v,v=Value.int .i64 h→ (Instr.sliceBound v cap .sliceAcap).run c.P W= .ok h W:=fun v a6=>om (by omega) a6
 generalize ef:(h:Int)=PH at dm
 generalize Bx:(m:Int)=PI at fR
 generalize By:(n:Int)=PJ at dm
 generalize Pb:(0:Int)=PK at fR
 cases fR with
 | none=>
   have gO:m=0:=by omega
   cases dm with
   | none=>
     have ky:h=n:=by omega
     subst ky
     subst gO
     simp [execOp,Instr.sliceAt,Instr.slice,Instr.sliceBounds,J,ba,run_underlying hu,Go.sizeOf,typeInfo,eb,dW,iC]
   | some ck=>
     subst ef
     subst gO
     simp [execOp,Instr.sliceAt,Instr.slice,Instr.sliceBounds,J,ba,run_underlying hu,Go.sizeOf,typeInfo,eb,dW,iC,jc _ (of_int.1 (ck a W s))]
 | some ao=>
   subst Bx
   cases dm with
   | none=>
     have ky:h=n:=by omega
     subst ky
     simp [execOp,Instr.sliceAt,Instr.slice,Instr.sliceBounds,J,ba,run_underlying hu,Go.sizeOf,typeInfo,eb,dW,iC,an _ (of_int.1 (ao a W s))]
     split <;> rfl
   | some ck=>
     subst ef
     simp [execOp,Instr.sliceAt,Instr.slice,Instr.sliceBounds,J,ba,run_underlying hu,Go.sizeOf,typeInfo,eb,dW,iC,an _ (of_int.1 (ao a W s)),jc _ (of_int.1 (ck a W s))]
     split <;> rfl
theorem WS {f:FuncId} {fn:Func} {p q T U cap cap' i j e tR pV PO hx PQ PR jz:Nat} {α:Type} [ag α] {xs vs:List α} (A7:Nat.beq (ag.size α) 0=false)
 (a8:c.P.funcs[f]? =some fn) (Xd:(fn.name == "runtime.NumGoroutine")=false) (hb:fn.body.isNone=true) (aP:Extern.findNext fn=none)
 (he:Extern.find fn=some (Extern.SlicesOverlaps.overlaps #[t,t] #[tR])) (hu:c.P.underlying t=some (.slice e)) (ew:bt c.P e α)
 (al:a7 c E L x (.eq (.slice (some ⟨q,PR,none⟩) pV PO))) (a5:a7 c E L y (.eq (.slice (some ⟨p,jz,none⟩) hx PQ)))
 (ar:L[i]? =some ⟨some p,.row T xs cap⟩) (aG:L[j]? =some ⟨some q,.row U vs cap'⟩) (th:p≠q) (s3:0 < cap):
 b4 c E L ⟨d,.call ⟨.value (.func f),#[x,y],#[t,t]⟩,ty,pos,af,g⟩ (.of false):= .pure fun a W s=>by
 obtain⟨o,a9,cs,rfl,av,bm,bS,dq⟩:=s.own _ (List.mem_of_getElem? ar)
 obtain⟨o',pB,dN,rfl,bj,bI,dv,ht⟩:=s.own _ (List.mem_of_getElem? aG)
 obtain⟨fN,eb,dW⟩:=ew.info
 have J:a.eval x=_:=al a W s
 have ad:a.eval y=_:=a5 a W s
 have j9:ag.size α≠0:=fun h=>by rw [h] at A7; cases A7
 have cH:cs.size≠0:=by rw [av]; exact Nat.mul_ne_zero (by omega) j9
 have ZF:=Lib.run_overlaps_apart (P:=c.P) W t tR e hu (ag.size α) (fun w=>by simp [Go.sizeOf,typeInfo,eb,dW]) ⟨q,PR,none⟩ ⟨p,jz,none⟩ pV PO hx PQ (fun h=>th h.symm) U T dN.size cs.size
  (by simp [World.shape?,pB]) (by simp [World.shape?,a9]) cH (by simp [World.frozen?,pB]) (by simp [World.frozen?,pB])
 refine⟨.bool false,?_,by exact of_bool.2 rfl⟩
 have bG:a.eval (.func f)= .func (.func f) #[] #[]:=rfl
 simp [execOp,resolve,Deferred.ofValue,bG,invoke,run_callFunc_extern a8 Xd hb aP he,J,ad,ZF]
theorem ah.Yp {α:Type} [ag α] {rest:List Oper} {bb i e bytes cap m k p T:Nat} {Fl:IntKind} {xs:List α} {z:α} (hu:c.P.underlying t=some (.slice e)) (hT:c.P.underlying t2=some (.int Fl)) (ew:bt c.P e α) (gl:cn c.P e z) (A7:Nat.beq (ag.size α) 0=false)
 (vA:(c.P.info? e).map (·.bytes)=some bytes) (al:a7 c E L x (.eq (hi (some p) 0 m cap (ag.size α)))) (a5:a7 c E L y (.of (k:Int))) (an:L[i]? =some ⟨some p,.row T xs cap⟩) (hm:m≤xs.length) (au:0 < k) (bE:cap < m + k)
 (lN:(m + k) * bytes≤140737488355328) (kT:m + k≤maxLen) (aP:Nat.blt bb c.n=true)
 (ml:∀ q cap',ah c ops Q rest ((bb,.eq (ba (some q) (m + k) cap')) :: E) (⟨some q,.row e (xs.take m ++ List.replicate k z) cap'⟩ :: L)):
 ah c ops Q (⟨some bb,.call ⟨.builtin .append,#[x,y],#[t,t2]⟩,ty,pos,af,none⟩ :: rest) E L:=fun a W s=>by
 obtain⟨fN,dY,eb,df,qu⟩:=gl.zero
 have mF:fN.size=ag.size α:=by
  obtain⟨i2,J,ad⟩:=ew.info
  rw [eb] at J; cases J; exact ad
 have Ht:fN.bytes=bytes:=by simpa [eb] using vA
 subst Ht
 have vB:dY.cells.size=ag.size α:=by have:=ag.len (qu [] W).2; simpa using this
 have j9:ag.size α≠0:=fun h=>by rw [h] at A7; cases A7
 have jA:bb < c.n:=by simpa using aP
 have J:a.eval x= .slice (some ⟨p,0,none⟩) m cap:=by
  have:=al a W s
  rw [zn] at this
  exact this
 obtain⟨o,a9,cs,rfl,av,bm,bS,dq⟩:=s.own _ (List.mem_of_getElem? an)
 have mc:maxLen=9223372036854775807:=rfl
 have ad:a.eval y= .int .i64 k:=of_int.1 (a5 a W s)
 have YT:=GF hm (⟨cs,rfl,av,bm,bS,dq⟩:(dr.row T xs cap).holds (aL L ++ c.bX) W (.cells cs T (0,0)))
 obtain⟨ZE,aF,_,_,_,I4⟩:=YT
 cases aF
 have Ix:(xs.take m).length=m:=by rw [List.length_take]; omega
 rw [Ix] at I4
 have uY:∀ (j:Nat) u,(cs.toList.take (m * ag.size α))[j]? =some u→W.drew.cell? ((⟨p,0,none⟩:Addr).add j)=some u:=by
  intro j u lQ
  rw [List.getElem?_take] at lQ
  split at lQ
  ·rw [iC,Nat.zero_add,cell_of_row W.drew p j cs T (0,0) a9]; simpa using lQ
  ·cases lQ
 have hold:=run_loadCells_list (P:=c.P) W.drew ⟨p,0,none⟩ _ uY
 rw [I4.1,Ix] at hold
 have aS:=Lib.run_append_grow_zeros (P:=c.P) W t t2 ty e fN dY .i64 Fl hu hT eb df (some ⟨p,0,none⟩) m cap _ (by simp only [Builtin.firstCells]; rw [mF]; exact hold) k au (by omega) bE (by omega)
  (by have:k * fN.bytes≤ (m + k) * fN.bytes:=Nat.mul_le_mul_right _ (by omega)
      omega) (growslice_fits bE lN)
 have rY:=grownCap_ge W (m + k) cap e
 have hle:=grownCap_le_maxLen W (m + k) cap e kT
 have EY:=qu (aL L ++ c.bX) W
 have pE:=zp EY k j9
 have IY:Builtin.zeroCells dY.cells k=(Array.range (k * ag.size α)).map (dY.cells[· % dY.cells.size]!):=by rw [Builtin.zeroCells,vB]
 rw [← IY] at pE
 have xz:=(sr I4 pE).mono (Ext.dw (Fr.drew W))
 have hlen:(xs.take m ++ List.replicate k z).length=m + k:=by rw [List.length_append,Ix,List.length_replicate]
 have fK:=(s.world (Fr.drew W)).alloc (o:= .cells ((cs.toList.take (m * ag.size α)).toArray ++ Builtin.zeroCells dY.cells k ++ Builtin.zeroCells dY.cells (grownCap W (m + k) cap e - (m + k))) e)
  (cp:= .row e (xs.take m ++ List.replicate k z) (grownCap W (m + k) cap e))
  (Hb (T:=e) xz (ds:=(Builtin.zeroCells dY.cells (grownCap W (m + k) cap e - (m + k))).toList) (by rw [Array.length_toList,size_zeroCells,vB,hlen]) (by rw [hlen]; exact rY) hle (by simp))
 refine g9 rfl (R:=fun v gP=>v=ba (some W.heap.size) (m + k) (grownCap W (m + k) cap e)∧gP=W.drew.alloc (.cells ((cs.toList.take (m * ag.size α)).toArray ++ Builtin.zeroCells dY.cells k ++ Builtin.zeroCells dY.cells (grownCap W (m + k) cap e - (m + k))) e)) (.kj ?_ ⟨rfl,rfl⟩) fun v gP ⟨a6,hw⟩=> ?_
 ·simp only [execOp,resolve,invoke,builtin,Sem.run_bind,Sem.run_pure,Result.andThen_ok]
  have aF:(#[x,y]:Array Operand).map a.eval= #[a.eval x,a.eval y]:=by simp
  rw [aF,J,ad,aS]
  rfl
 ·subst a6
  subst hw
  exact ml _ _ _ _ (fK.put jA rfl)
theorem ai.some {code:Code} {i T cap:Nat} {key:Option Nat} {α:Type} [ag α] {xs:List α} (an:L[i]? =Option.some ⟨key,.row T xs cap⟩) (al:0 < xs.length) (k:∀ p,key=Option.some p→xs.length≤cap→cap≤maxLen→ai c Q code E L):ai c Q code E L:=fun a W s=>by
 obtain⟨p,cs,rfl,er,av,bm,bS,dq⟩:=s.rowAt an al
 exact k p rfl bm bS a W s
theorem ai.apart {code:Code} {p q:Nat} {cp cp':dr} {L':List aJ} (an:L=⟨Option.some p,cp⟩ :: ⟨Option.some q,cp'⟩ :: L') (k:p≠q→ai c Q code E L):ai c Q code E L:=fun a W s=>by
 refine k (fun e=> ?_) a W s
 have:=s.nodup
 rw [an,e] at this
 simp [aL] at this
theorem GN {α γ:Type} [ag α] [ag γ] {A W} {cs:List Value} {x:α} {os:List (Nat × Value)} {u:Value} (l:aQ α (List γ)) (h:kM A W cs x os) (hq:(l.off,u)∈os):kM A W cs (l.set x []) os:=by
 refine⟨?_,h.2⟩
 have J:=l.kI (ds:= [jK]) (g:=([]:List γ)) h.1 (show ag.rep A W [jK] ([]:List γ) from by
  have:=(mu (A:=A) (W:=W) (v:=jK) (xs:=([]:List γ))).2 (.inl ⟨rfl,rfl⟩)
  exact this.2)
 have hb:(blank os cs)[l.off]? =some jK:=by
  rw [p2,if_pos (List.any_eq_true.2 ⟨_,hq,by simp⟩),(h.2 _ hq).1]; rfl
 have cb:l.off < (blank os cs).length:=(List.getElem?_eq_some_iff.1 hb).1
 have he:(blank os cs).take l.off ++ [jK] ++ (blank os cs).drop (l.off + ag.size (List γ))=blank os cs:=by
  show(blank os cs).take l.off ++ [jK] ++ (blank os cs).drop (l.off + 1)=blank os cs
  have ad:(blank os cs)[l.off]=jK:=(List.getElem?_eq_some_iff.1 hb).2
  rw [← ad,List.append_assoc,List.singleton_append,List.getElem_cons_drop,List.take_append_drop]
 rwa [he] at J
theorem ah.EL {tw:List Oper} {p:Nat} {β γ:Type} [ag β] [ag γ] {b b':β} {os:List (Nat × Value)} {u:Value} (l:aQ β (List γ)) (i q:Nat) (an:L[i]? =some ⟨some p,.ca b os⟩) (hq:os[q]? =some (l.off,u)) (hb:l.set b []=b')
 (k:ah c ops Q tw E (L.set i ⟨some p,.ca b' os⟩)):ah c ops Q tw E L:=fun a W s=>
 k a W (s.again an (fun A W o ⟨cs,T,J,ad⟩=>⟨cs,T,J,hb ▸ GN l ad (List.mem_of_getElem? hq)⟩) id)
theorem ae.EL {z:Exit} {p:Nat} {β γ:Type} [ag β] [ag γ] {b b':β} {os:List (Nat × Value)} {u:Value} (l:aQ β (List γ)) (i q:Nat) (an:L[i]? =some ⟨some p,.ca b os⟩) (hq:os[q]? =some (l.off,u)) (hb:l.set b []=b')
 (k:ae c Q z E (L.set i ⟨some p,.ca b' os⟩)):ae c Q z E L:=fun a W s=>
 k a W (s.again an (fun A W o ⟨cs,T,J,ad⟩=>⟨cs,T,J,hb ▸ GN l ad (List.mem_of_getElem? hq)⟩) id)
end
def AZ {α:Type} (bytes:Nat) (xs:List α) (i:Int) (vs:List α):Option (List α):=
 if 0≤i∧i≤xs.length∧0 < vs.length∧ (xs.length + vs.length) * bytes≤140737488355328∧xs.length + vs.length≤maxLen then some (xs.take i.toNat ++ vs ++ xs.drop i.toNat) else none
theorem SM {α:Type} {bytes:Nat} {xs vs r:List α} {i:Int} (h:AZ bytes xs i vs=some r):
 ∃ k:Nat,i=k∧k≤xs.length∧0 < vs.length∧ (xs.length + vs.length) * bytes≤140737488355328∧xs.length + vs.length≤maxLen∧r=xs.take k ++ vs ++ xs.drop k:=by
 unfold AZ at h
 split at h
 ·rename_i ak
  obtain⟨J,ad,ay,aU,a0⟩:=ak
  exact⟨i.toNat,by omega,by omega,ay,aU,a0,(by simp only [Option.some.injEq] at h; exact h.symm)⟩
 ·cases h
section
variable {c:c5} {E:List (Nat × I)} {L:List aJ} {ops:Array Oper} {Q:Exit→Act→World→Prop} {rest:List Oper} {o:Oper} {bb:Nat}
variable {ty:TypeId} {pos:String} {af:Array Edge} {x y:Operand} {t t2:TypeId}
theorem aE {id:Nat} {l:List Oper} {y:Code} (h:ah c l.toArray (Exit.then (c.wp y Q) Q) l E L):ai c Q (.seq (.region id l.toArray false) y) E L:= .seq (.cE h)
theorem aM {y:Code} (h:ai c Q y E L):ah c ops (Exit.then (c.wp y Q) Q) [] E L:= .nil (.next h)
theorem bY {y z:Code} (h:ai c (Exit.then (c.wp z Q) Q) y E L):ah c ops (Exit.then (c.wp (Code.seq y z) Q) Q) [] E L:= .nil (.next (.seq h))
theorem b5 {id:Nat} {l:List Oper} {z:Code} (h:ah c l.toArray (Exit.then (c.wp z Q) Q) l E L):ah c ops (Exit.then (c.wp (Code.seq (.region id l.toArray false) z) Q) Q) [] E L:= .nil (.next (.seq (.cE h)))
theorem c4 {y:Code} (h:ai c Q y E L):ai c (Exit.then (c.wp y Q) Q) .skip E L:= .skip (.next h)
theorem az {α β:Type} {m:Option α} {f:α→Option β} {r:β} (h:m.bind f=some r):∃ y,m=some y∧f y=some r:=bind_some h
theorem cA {R:Type} {b:Bool} {A B:Option R} {r:R} {y z:Code} (h:cond b A B=some r) (bJ:A=some r→ai c Q y E L) (a8:B=some r→ai c Q z E L)
 (ao:a7 c E L x (.of b):=by first | exact ab rfl | exact fG _):ai c Q (.cond x y z) E L:=
 .cond ao (fun hb=>bJ (hY hb h)) (fun hb=>a8 (hZ hb h))
theorem bp {τ:I} (h:b4 c E L o τ) (k:ah c ops Q rest ((bb,τ) :: E) L) (bE:o.guard=none:=by rfl) (hd:o.dst=some bb:=by rfl) (aP:Nat.blt bb c.n=true:=by rfl):ah c ops Q (o :: rest) E L:= .v h bE hd aP k
theorem aC {τ:I} (k:ah c ops Q rest ((bb,τ) :: E) L) (al:a7 c E L x τ:=by first | exact ab rfl | exact bN _ | exact fG _ | exact dA _) (aP:Nat.blt bb c.n=true:=by rfl):
 ah c ops Q (⟨some bb,.move x,ty,pos,af,none⟩ :: rest) E L:= .v (ch al) rfl rfl aP k
theorem aO {τ:I} (k:ah c ops Q rest ((bb,τ) :: E) L) (al:a7 c E L x τ:=by first | exact ab rfl | exact bN _ | exact fG _ | exact dA _) (aP:Nat.blt bb c.n=true:=by rfl):
 ah c ops Q (⟨some bb,.assign x,ty,pos,af,none⟩ :: rest) E L:= .v (eH al) rfl rfl aP k
theorem a4 {σ τ:I} (h:a7 c E L x σ→b4 c E L o τ) (k:ah c ops Q rest ((bb,τ) :: E) L) (al:a7 c E L x σ:=by first | exact ab rfl | exact bN _ | exact fG _ | exact dA _)
 (bE:o.guard=none:=by rfl) (hd:o.dst=some bb:=by rfl) (aP:Nat.blt bb c.n=true:=by rfl):ah c ops Q (o :: rest) E L:= .v (h al) bE hd aP k
theorem bs {σ pI τ:I} (h:a7 c E L x σ→a7 c E L y pI→b4 c E L o τ) (k:ah c ops Q rest ((bb,τ) :: E) L) (al:a7 c E L x σ:=by first | exact ab rfl | exact bN _ | exact fG _ | exact dA _)
 (a5:a7 c E L y pI:=by first | exact ab rfl | exact bN _ | exact fG _ | exact dA _)
 (bE:o.guard=none:=by rfl) (hd:o.dst=some bb:=by rfl) (aP:Nat.blt bb c.n=true:=by rfl):ah c ops Q (o :: rest) E L:= .v (h al a5) bE hd aP k
theorem dD {α:Type} [ag α] {a b:α} (e:some a=some b) (h:b4 c E L o (.of a)) (k:ah c ops Q rest ((bb,.of b) :: E) L) (bE:o.guard=none:=by rfl) (hd:o.dst=some bb:=by rfl) (aP:Nat.blt bb c.n=true:=by rfl):
 ah c ops Q (o :: rest) E L:= .v (h.as (aK e)) bE hd aP k
theorem hc {i:Nat} {τs:List I} {τ:I} (k:ah c ops Q rest ((bb,τ) :: E) L) (al:a7 c E L x (.eD τs):=by exact ab rfl) (ar:τs[i]? =some τ:=by rfl) (aP:Nat.blt bb c.n=true:=by rfl):
 ah c ops Q (⟨some bb,.extract x i,ty,pos,af,none⟩ :: rest) E L:= .v (m9 al ar) rfl rfl aP k
theorem ct {p o:Nat} {β γ:Type} [ag β] [ag γ] {b:β} (j:Nat) (l:aQ β γ) (ev:bt c.P t γ) (k:ah c ops Q rest ((bb,.of (l.get b)) :: E) L) (al:a7 c E L x (.eq (.pointer (some ⟨p,o,none⟩))):=by exact ab rfl)
 (an:L[j]? =some ⟨some p,.var b⟩:=by rfl) (a9:o=l.off:=by rfl) (aP:Nat.blt bb c.n=true:=by rfl):ah c ops Q (⟨some bb,.load t x,ty,pos,af,none⟩ :: rest) E L:= .v (e9 l ev al an a9 rfl) rfl rfl aP k
theorem cR {p:Nat} {β:Type} [ag β] {b:β} (j:Nat) (ev:bt c.P t β) (k:ah c ops Q rest ((bb,.of b) :: E) L) (al:a7 c E L x (.eq (.pointer (some ⟨p,0,none⟩))):=by exact ab rfl)
 (an:L[j]? =some ⟨some p,.var b⟩:=by rfl) (aP:Nat.blt bb c.n=true:=by rfl):ah c ops Q (⟨some bb,.load t x,ty,pos,af,none⟩ :: rest) E L:= .v (e9 (aQ.id β) ev al an rfl rfl) rfl rfl aP k
theorem OU {p o:Nat} {β γ:Type} [ag β] [ag γ] {b:β} {os:List (Nat × Value)} (j:Nat) (l:aQ β γ) (ev:bt c.P t γ) (k:ah c ops Q rest ((bb,.of (l.get b)) :: E) L) (al:a7 c E L x (.eq (.pointer (some ⟨p,o,none⟩))):=by exact ab rfl)
 (an:L[j]? =some ⟨some p,.ca b os⟩:=by rfl) (a9:o=l.off:=by rfl) (bd:sK os l.off (ag.size γ)=true:=by rfl) (aP:Nat.blt bb c.n=true:=by rfl):ah c ops Q (⟨some bb,.load t x,ty,pos,af,none⟩ :: rest) E L:= .v (G1 l ev al an a9 rfl bd) rfl rfl aP k
theorem OT {s f o:Nat} {β γ:Type} [ag β] [ag γ] {b:β} (l:aQ β γ) (fd:cj c.P s f o) (k:ah c ops Q rest ((bb,.ptr (l.get b)) :: E) L) (al:a7 c E L x (.ptr b):=by exact ab rfl) (a9:l.off=o:=by rfl) (aP:Nat.blt bb c.n=true:=by rfl):
 ah c ops Q (⟨some bb,.fieldAddr s x f,ty,pos,af,none⟩ :: rest) E L:= .v (D4 l fd al a9 rfl) rfl rfl aP k
theorem ik {α:Type} [ag α] [Inhabited α] {xs:List α} {e:TypeId} {i:Int} {j:Nat} (au:idx xs.length i=some j) (hu:c.P.underlying t=some (.slice e)) (ew:bt c.P e α) (k:ah c ops Q rest ((bb,.ptr (aI xs j)) :: E) L)
 (al:a7 c E L x (.of xs):=by exact ab rfl) (a5:a7 c E L y (.of i):=by first | exact ab rfl | exact bN _) (aP:Nat.blt bb c.n=true:=by rfl):
 ah c ops Q (⟨some bb,.indexAddr t x y,ty,pos,af,none⟩ :: rest) E L:= .v (ri hu ew al a5 (da au)) rfl rfl aP k
theorem Bf {b e:Bool} {p:Prop} (k:ah c ops Q rest ((bb,.of (b || e)) :: E) L) (al:a7 c E L x (.of b):=by exact ab rfl) (a5:a7 c E L y (.cond p (.of e)):=by exact ab rfl) (hp:b=false→p:=by exact fun h=>h) (aP:Nat.blt bb c.n=true:=by rfl):
 ah c ops Q (⟨some bb,.pick x (.const (.bool true)) y,ty,pos,af,none⟩ :: rest) E L:= .v (Em al a5 hp) rfl rfl aP k
theorem k9 {b e:Bool} {p:Prop} (k:ah c ops Q rest ((bb,.of (b && e)) :: E) L) (al:a7 c E L x (.of b):=by exact ab rfl) (a5:a7 c E L y (.cond p (.of e)):=by exact ab rfl) (hp:b=true→p:=by exact fun h=>h) (aP:Nat.blt bb c.n=true:=by rfl):
 ah c ops Q (⟨some bb,.pick x y (.const (.bool false)),ty,pos,af,none⟩ :: rest) E L:= .v (pc al a5 hp) rfl rfl aP k
theorem eQ {τ:I} {j g:Nat} {b want:Bool} (h:b=want→b4 c E L o τ) (k:ah c ops Q rest ((bb,.cond (b=want) τ) :: E) L) (bE:o.guard=some (j,want):=by rfl) (aG:(ops[j]?).bind (·.dst)=some g:=by rfl) (ao:look E g=some (.of b):=by rfl)
 (hd:o.dst=some bb:=by rfl) (aP:Nat.blt bb c.n=true:=by rfl):ah c ops Q (o :: rest) E L:= .g h bE aG ao hd aP k
theorem dB {σ τ:I} {j g:Nat} {b want:Bool} (h:a7 c E L x σ→b4 c E L o τ) (k:ah c ops Q rest ((bb,.cond (b=want) τ) :: E) L)
 (al:b=want→a7 c E L x σ:=by first | exact fun hb=>cq rfl hb | exact fun _=>ab rfl | exact fun _=>bN _ | exact fun _=>fG _)
 (bE:o.guard=some (j,want):=by rfl) (aG:(ops[j]?).bind (·.dst)=some g:=by rfl) (ao:look E g=some (.of b):=by rfl)
 (hd:o.dst=some bb:=by rfl) (aP:Nat.blt bb c.n=true:=by rfl):ah c ops Q (o :: rest) E L:= .g (fun hb=>h (al hb)) bE aG ao hd aP k
theorem kO {σ pI τ:I} {j g:Nat} {b want:Bool} (h:a7 c E L x σ→a7 c E L y pI→b4 c E L o τ) (k:ah c ops Q rest ((bb,.cond (b=want) τ) :: E) L)
 (al:b=want→a7 c E L x σ:=by first | exact fun hb=>cq rfl hb | exact fun _=>ab rfl | exact fun _=>bN _ | exact fun _=>fG _)
 (a5:b=want→a7 c E L y pI:=by first | exact fun hb=>cq rfl hb | exact fun _=>ab rfl | exact fun _=>bN _ | exact fun _=>fG _)
 (bE:o.guard=some (j,want):=by rfl) (aG:(ops[j]?).bind (·.dst)=some g:=by rfl) (ao:look E g=some (.of b):=by rfl)
 (hd:o.dst=some bb:=by rfl) (aP:Nat.blt bb c.n=true:=by rfl):ah c ops Q (o :: rest) E L:= .g (fun hb=>h (al hb) (a5 hb)) bE aG ao hd aP k
theorem dJ {α:Type} [ag α] {z:α} (gl:cn c.P t z) (k:∀ p,ah c ops Q rest ((bb,.eq (.pointer (some ⟨p,0,none⟩))) :: E) (⟨some p,.var z⟩ :: L)) (aP:Nat.blt bb c.n=true:=by rfl):
 ah c ops Q (⟨some bb,.alloc t,ty,pos,af,none⟩ :: rest) E L:= .alloc gl aP k
theorem cz {α:Type} [ag α] {z:α} (k:∀ p,ah c ops Q rest ((bb,.eq (.pointer (some ⟨p,0,none⟩))) :: E) (⟨some p,.var z⟩ :: L)) (al:a7 c E L x (.of z):=by first | exact ab rfl | exact bN _ | exact fG _) (aP:Nat.blt bb c.n=true:=by rfl):
 ah c ops Q (⟨some bb,.box t x,ty,pos,af,none⟩ :: rest) E L:= .box al aP k
theorem vm {p o:Nat} {β γ:Type} [ag β] [ag γ] {b:β} {v:γ} (i:Nat) (l:aQ β γ) (ev:bt c.P t γ) (k:ah c ops Q rest E (L.set i ⟨some p,.var (l.set b v)⟩)) (al:a7 c E L x (.eq (.pointer (some ⟨p,o,none⟩))):=by exact ab rfl)
 (a5:a7 c E L y (.of v):=by first | exact ab rfl | exact bN _ | exact fG _ | exact look_nil | exact dA _) (an:L[i]? =some ⟨some p,.var b⟩:=by rfl) (a9:o=l.off:=by rfl):
 ah c ops Q (⟨none,.store t x y,ty,pos,af,none⟩ :: rest) E L:= .store l ev al a5 an a9 rfl k
theorem cY {p:Nat} {β:Type} [ag β] {b v:β} (i:Nat) (ev:bt c.P t β) (k:ah c ops Q rest E (L.set i ⟨some p,.var v⟩)) (al:a7 c E L x (.eq (.pointer (some ⟨p,0,none⟩))):=by exact ab rfl)
 (a5:a7 c E L y (.of v):=by first | exact ab rfl | exact bN _ | exact fG _ | exact look_nil | exact dA _) (an:L[i]? =some ⟨some p,.var b⟩:=by rfl):
 ah c ops Q (⟨none,.store t x y,ty,pos,af,none⟩ :: rest) E L:= .store (aQ.id β) ev al a5 an rfl rfl k
theorem OS {p o:Nat} {β γ:Type} [ag β] [ag γ] {b b':β} {v:γ} (i:Nat) (l:aQ β γ) (ev:bt c.P t γ) (k:ah c ops Q rest E (L.set i ⟨some p,.var b'⟩)) (al:a7 c E L x (.eq (.pointer (some ⟨p,o,none⟩))):=by exact ab rfl)
 (a5:a7 c E L y (.of v):=by first | exact ab rfl | exact bN _ | exact fG _ | exact look_nil | exact dA _) (an:L[i]? =some ⟨some p,.var b⟩:=by rfl) (a9:o=l.off:=by rfl) (hb:some (l.set b v)=some b'):
 ah c ops Q (⟨none,.store t x y,ty,pos,af,none⟩ :: rest) E L:= .store l ev al a5 an a9 (aK hb) k
theorem fQ {f:FuncId} {xs:List Operand} {ats:Array TypeId} {τs:List I} {ρ:I} (eg:bM c.P f) (h:bW c.P f τs ρ) (k:ah c ops Q rest ((bb,ρ) :: E) L)
 (al:ha c E L xs τs:=by repeat (first | exact trivial | refine⟨ab rfl,?_⟩ | refine⟨bN _,?_⟩ | refine⟨fG _,?_⟩ | refine⟨look_nil,?_⟩ | refine⟨dA _,?_⟩)) (aP:Nat.blt bb c.n=true:=by rfl):
 ah c ops Q (⟨some bb,.call ⟨.value (.func f),xs.toArray,ats⟩,ty,pos,af,none⟩ :: rest) E L:= .v (ly eg h al) rfl rfl aP k
theorem eE {f:FuncId} {xs:List Operand} {ats:Array TypeId} {τs:List I} {δ:Type} {ρ:δ→I} {Lo:δ→List aJ} (n:Nat) (eg:bM c.P f) (h:bO c.P f τs (L.take n) ρ Lo)
 (k:∀ q,ah c ops Q rest ((bb,ρ q) :: E) (Lo q ++ L.drop n)) (al:ha c E L xs τs:=by repeat (first | exact trivial | refine⟨ab rfl,?_⟩ | refine⟨bN _,?_⟩ | refine⟨fG _,?_⟩ | refine⟨look_nil,?_⟩ | refine⟨ub,?_⟩ | refine⟨dA _,?_⟩)) (aP:Nat.blt bb c.n=true:=by rfl):
 ah c ops Q (⟨some bb,.call ⟨.value (.func f),xs.toArray,ats⟩,ty,pos,af,none⟩ :: rest) E L:=by
 have e:=List.take_append_drop n L
 have:=ah.l2 (ty:=ty) (pos:=pos) (af:=af) (ats:=ats) (xs:=xs) (Lin:=L.take n) (Lr:=L.drop n) (E:=E) (Q:=Q) (ops:=ops) eg h (by rw [e]; exact al) aP k
 rwa [e] at this
theorem nX {α:Type} [ag α] {e bytes cap:Nat} {key:Option Nat} {xs ys r:List α} {z:α} (j:Nat) (hu:c.P.underlying t=some (.slice e)) (ew:bt c.P e α) (gl:cn c.P e z) (h:hQ bytes xs ys=some r)
 (k:∀ ps cap',ah c ops Q rest ((bb,.eq (ba ps r.length cap')) :: E) (L.set j ⟨ps,.row e r cap'⟩)) (vA:(c.P.info? e).map (·.bytes)=some bytes:=by kernel_rfl)
 (hs:a7 c E L x (.eq (ba key xs.length cap)):=by first | exact ab rfl | exact ub) (an:L[j]? =some ⟨key,.row e xs cap⟩:=by rfl) (a5:a7 c E L y (.of ys):=by exact ab rfl) (aP:Nat.blt bb c.n=true:=by rfl):
 ah c ops Q (⟨some bb,.call ⟨.builtin .append,#[x,y],#[t,t]⟩,ty,pos,af,none⟩ :: rest) E L:= .app hu ew gl vA hs an a5 h aP k
theorem iH {place:Nat→Option (Nat × Nat)} {β:Type} [ag β] {b b':β} {γ:Type} [ag γ] {v:γ} {i:Nat} {r:List (Nat × Operand)} (l:aQ β γ) (k:qh c E L place (l.set b v) r b')
 (hp:place i=some (l.off,ag.size γ):=by rfl) (al:a7 c E L x (.of v):=by first | exact ab rfl | exact bN _ | exact fG _ | exact look_nil | exact dA _):qh c E L place b ((i,x) :: r) b':= .cons l hp al rfl k
theorem hl {β:Type} [ag β] {z b:β} {br:List (Nat × Operand)} {pl:Array (Nat × Nat)} (B5:g7 c.P t pl) (gl:cn c.P t z) (tx:β) (a8:qh c E L (pl[·]?) z br b) (k:ah c ops Q rest ((bb,.of tx) :: E) L) (bd:ag.agg β=true:=by rfl) (hb:b=tx:=by rfl) (aP:Nat.blt bb c.n=true:=by rfl):
 ah c ops Q (⟨some bb,.build t br.toArray,ty,pos,af,none⟩ :: rest) E L:= .v ((cW bd B5 gl a8).as hb) rfl rfl aP k
theorem hF {α:Type} [ag α] {e n:Nat} {z:α} {br:List (Nat × Operand)} (r:List α) (hu:c.P.underlying t=some (.slice e)) (ew:bt c.P e α) (gl:cn c.P e z) (k:ah c ops Q rest ((bb,.of r) :: E) L)
 (a8:m7 c E L (List.replicate n z) br r:=by repeat (first | exact m7.nil | refine m7.cons (by simp) (ab rfl) ?_ | refine m7.cons (by simp) (bN _) ?_ | refine m7.cons (by simp) (fG _) ?_ | refine m7.cons (by simp) (dA _) ?_))
 (hs:Nat.beq (ag.size α) 0=false:=by rfl) (rX:Nat.ble (n * ag.size α) 16777216=true:=by rfl) (aP:Nat.blt bb c.n=true:=by rfl):
 ah c ops Q (⟨some bb,.buildSlice t n br.toArray,ty,pos,af,none⟩ :: rest) E L:= .v (ig hu ew gl hs rX a8) rfl rfl aP k
inductive lU (E:List (Nat × I)):List Nat→List (Nat × I)→Prop
 | nil:lU E [] []
 | cons {t:Nat} {gZ:List Nat} {τ:I} {vT:List (Nat × I)} :look E t=some τ→lU E gZ vT→lU E (t :: gZ) ((t,τ) :: vT)
theorem lU.le:∀ {gZ:List Nat} {iR:List (Nat × I)},lU E gZ iR→g6 E iR
 | _,_,.nil=> .nil
 | _,_,.cons h k=> .same h k.le
theorem j8 {code:Code} {iR:List (Nat × I)} (gZ:List Nat) (k:ai c Q code iR L) (aD:lU E gZ iR:=by repeat (first | exact lU.nil | (apply lU.cons; rfl))):ai c Q code E L:= .le aD.le k
theorem kP {z:Exit} {iR:List (Nat × I)} (gZ:List Nat) (k:ae c Q z iR L) (aD:lU E gZ iR:=by repeat (first | exact lU.nil | (apply lU.cons; rfl))):ae c Q z E L:= .le aD.le k
theorem dT {z:Exit} {E':List (Nat × I)} {L':List aJ} (n:Nat) (k:ae c Q z E' L') (an:L.drop n=L':=by rfl) (h:g6 E E':=by repeat (first | exact g6.nil | refine g6.same rfl ?_)):ae c Q z E L:= .meet n an h k
theorem hD {σ ε γ δ:Type} {E':σ→γ→List (Nat × I)} {L':σ→γ→List aJ} {xs:ε→Exit} {fy:ε→δ→List (Nat × I)} {Lx:ε→δ→List aJ} {s:σ} (g:γ) (n:Nat) (an:L.drop n=L' s g:=by rfl)
 (h:g6 E (E' s g):=by repeat (first | exact g6.nil | refine g6.same rfl ?_)):ae c (xS c E' L' xs fy Lx (.inl s)) .normal E L:= .Vg g n an h
theorem eX {σ ε γ δ:Type} {E':σ→γ→List (Nat × I)} {L':σ→γ→List aJ} {xs:ε→Exit} {fy:ε→δ→List (Nat × I)} {Lx:ε→δ→List aJ} {e:ε} {z:Exit} (g:δ) (n:Nat) (al:z=xs e:=by rfl) (aP:z≠ .normal:=by simp) (an:L.drop n=Lx e g:=by rfl)
 (h:g6 E (fy e g):=by repeat (first | exact g6.nil | refine g6.same rfl ?_)):ae c (xS c E' L' xs fy Lx (.inr e)) z E L:= .Vh g n al aP an h
theorem hn {t:Nat} {p:Nat} {α:Type} [ag α] {v:α} (i:Nat) (ev:bt c.P ty α) (h:look E t=some (.eq (.pointer (some ⟨p,0,none⟩))):=by rfl) (an:L[i]? =some ⟨some p,.var v⟩:=by rfl):sa c E L (.cell t ty) (.of v):=YL ev h an
theorem c7 {fn:Func} {t:Nat} {τ:I} (aS:fn.results= #[.tmp t]:=by rfl) (h:look E t=some τ:=by rfl) (hH:c.ds= []:=by rfl):ae c (bodyPost c.P fn (vg c τ)) .ret E L:= .iU aS (ve h) hH
theorem OR {fn:Func} {t u:Nat} {τ pD:I} (aS:fn.results= #[.tmp t,.tmp u]:=by rfl) (h:look E t=some τ:=by rfl) (ad:look E u=some pD:=by rfl) (hH:c.ds= []:=by rfl):ae c (bodyPost c.P fn (vg c (.eD [τ,pD]))) .ret E L:= .En aS (ve h) (ve ad) hH
theorem lJ {fn:Func} {t:Nat} {τ:I} {δ:Type} {ρ:δ→I} {Lo:δ→List aJ} (bb:δ) (hs:(Lo bb).Sublist L:=by repeat (first | exact List.nil_sublist _ | refine List.Sublist.cons_cons _ ?_)) (aS:fn.results= #[.tmp t]:=by rfl) (h:look E t=some τ:=by rfl) (vD:ρ bb=τ:=by rfl) (hH:c.ds= []:=by rfl):
 ae c (bodyPost c.P fn (j1 c.X c.bX c.iP ρ Lo)) .ret E L:= .eW bb hs aS vD (dH h) hH
def oH:List aJ→List (Nat × aJ)→List aJ
 | L,[]=>L
 | L,(i,e) :: r=>oH (L.set i e) r
inductive pW:List aJ→List aJ→Prop
 | nil:pW [] []
 | cons {e:aJ} {r s:List aJ} :pW r s→pW (e :: r) (e :: s)
theorem pW.eq:∀ {l m:List aJ},pW l m→l=m
 | _,_,.nil=>rfl
 | _,_,.cons h=>by rw [h.eq]
theorem h5 {σ ε γ δ:Type} {body:Code} {N:Nat} {b:σ→Option (σ ⊕ ε)} {cd:σ} {e:ε} {iR:List (Nat × I)} {gG:List aJ} (ao:fj N b cd=some e) (gZ:List Nat) (u:σ→γ→List (Nat × I)) (ul:σ→γ→List (Nat × aJ)) (xs:ε→Exit)
 (JS:ε→δ→List (Nat × I)) (I5:ε→δ→List (Nat × aJ)) (g0:γ)
 (rq:∀ s r,b s=some r→ ∀ g,ai c (xS c (fun s g=>u s g ++ iR) (fun s g=>oH gG (ul s g)) xs (fun e d=>JS e d ++ iR) (fun e d=>oH gG (I5 e d)) r) body (u s g ++ iR) (oH gG (ul s g)))
 (nO:∀ g,ae c Q (xs e) (JS e g ++ iR) (oH gG (I5 e g)))
 (vz:pW L gG:=by repeat (first | exact pW.nil | apply pW.cons))
 (ZG:lU E gZ iR:=by repeat (first | exact lU.nil | (apply lU.cons; rfl))) (aD:g6 E (u cd g0 ++ iR):=by repeat (first | exact g6.nil | refine g6.same rfl ?_)) (an:gG=oH gG (ul cd g0):=by rfl):ai c Q (.loop body) E L:=
 ai.D7 ao (fun s g=>u s g ++ iR) (fun s g=>oH gG (ul s g)) xs (fun e d=>JS e d ++ iR) (fun e d=>oH gG (I5 e d)) g0 (vz.eq.trans an) aD rq nO
theorem kr {γ:Type} {b:Bool} {y z:Code} {iR:List (Nat × I)} {gG:List aJ} (gZ:List Nat) (u:γ→List (Nat × I)) (ul:γ→List (Nat × aJ)) (tv:∀ g,ae c Q .normal (u g ++ iR) (oH gG (ul g)))
 (bJ:(∀ g,ae c Q .normal (u g ++ iR) (oH gG (ul g)))→b=true→ai c Q y E gG) (a8:(∀ g,ae c Q .normal (u g ++ iR) (oH gG (ul g)))→b=false→ai c Q z E gG)
 (vz:pW L gG:=by repeat (first | exact pW.nil | apply pW.cons))
 (ZG:lU E gZ iR:=by repeat (first | exact lU.nil | (apply lU.cons; rfl))) (ao:a7 c E gG x (.of b):=by first | exact ab rfl | exact fG _):ai c Q (.cond x y z) E L:=by
 cases vz.eq
 exact ai.dd (fun g=>u g ++ iR) (fun g=>oH L (ul g)) ao tv bJ a8
section
variable {all:List e0} {w:Nat→Bool}
theorem ed {τ:I} {hyp:List aJ→Prop} (h:∀ L',hyp L'→b4 c E L' o τ) (bE:o.guard=none:=by rfl):∀ L',hyp L'→ke c ops E L' o τ:=fun L' an=> .v (h L' an) bE
theorem dc {τ:I} {hyp:List aJ→Prop} (al:∀ L',a7 c E L' x τ:=by first | exact fun _=>ab rfl | exact fun _=>bN _ | exact fun _=>fG _ | exact fun _=>dA _):∀ L',hyp L'→ke c ops E L' ⟨some bb,.move x,ty,pos,af,none⟩ τ:=fun L' _=> .v (ch (al L')) rfl
theorem JH {τ:I} {hyp:List aJ→Prop} (al:∀ L',a7 c E L' x τ:=by first | exact fun _=>ab rfl | exact fun _=>bN _ | exact fun _=>fG _ | exact fun _=>dA _):∀ L',hyp L'→ke c ops E L' ⟨some bb,.assign x,ty,pos,af,none⟩ τ:=fun L' _=> .v (eH (al L')) rfl
theorem H1 {σ τ:I} {hyp:List aJ→Prop} (h:∀ {L'},a7 c E L' x σ→b4 c E L' o τ) (bE:o.guard=none:=by rfl) (al:∀ L',a7 c E L' x σ:=by first | exact fun _=>ab rfl | exact fun _=>bN _ | exact fun _=>fG _ | exact fun _=>dA _):
 ∀ L',hyp L'→ke c ops E L' o τ:=fun L' _=> .v (h (al L')) bE
theorem kc {σ pI τ:I} {hyp:List aJ→Prop} (h:∀ {L'},a7 c E L' x σ→a7 c E L' y pI→b4 c E L' o τ) (bE:o.guard=none:=by rfl) (al:∀ L',a7 c E L' x σ:=by first | exact fun _=>ab rfl | exact fun _=>bN _ | exact fun _=>fG _ | exact fun _=>dA _)
 (a5:∀ L',a7 c E L' y pI:=by first | exact fun _=>ab rfl | exact fun _=>bN _ | exact fun _=>fG _ | exact fun _=>dA _):∀ L',hyp L'→ke c ops E L' o τ:=fun L' _=> .v (h (al L') (a5 L')) bE
theorem ey {p o:Nat} {β γ:Type} [ag β] [ag γ] {b:β} (i:Nat) (l:aQ β γ) (ev:bt c.P t γ) (al:∀ L',a7 c E L' x (.eq (.pointer (some ⟨p,o,none⟩))):=by exact fun _=>ab rfl) (an:L[i]? =some ⟨some p,.var b⟩:=by rfl) (a9:o=l.off:=by rfl)
 (hu:oB w i 0 all=true:=by first | rfl | kernel_rfl):∀ L':List aJ,(∀ (j:Nat) (e:aJ),L[j]? =some e→oB w j 0 all=true→L'[j]? =some e)→ke c ops E L' ⟨some bb,.load t x,ty,pos,af,none⟩ (.of (l.get b)):=
 fun L' qs=> .v (e9 l ev (al L') (qs _ _ an hu) a9 rfl) rfl
theorem gW {p:Nat} {β:Type} [ag β] {b:β} (i:Nat) (ev:bt c.P t β) (al:∀ L',a7 c E L' x (.eq (.pointer (some ⟨p,0,none⟩))):=by exact fun _=>ab rfl) (an:L[i]? =some ⟨some p,.var b⟩:=by rfl)
 (hu:oB w i 0 all=true:=by first | rfl | kernel_rfl):∀ L':List aJ,(∀ (j:Nat) (e:aJ),L[j]? =some e→oB w j 0 all=true→L'[j]? =some e)→ke c ops E L' ⟨some bb,.load t x,ty,pos,af,none⟩ (.of b):=
 fun L' qs=> .v (e9 (aQ.id β) ev (al L') (qs _ _ an hu) rfl rfl) rfl
theorem fv {f:FuncId} {xs:List Operand} {ats:Array TypeId} {τs:List I} {ρ:I} {hyp:List aJ→Prop} (eg:bM c.P f) (h:bW c.P f τs ρ)
 (al:∀ L',ha c E L' xs τs:=by intro L'; repeat (first | exact trivial | refine⟨ab rfl,?_⟩ | refine⟨bN _,?_⟩ | refine⟨fG _,?_⟩ | refine⟨look_nil,?_⟩ | refine⟨dA _,?_⟩)):
 ∀ L',hyp L'→ke c ops E L' ⟨some bb,.call ⟨.value (.func f),xs.toArray,ats⟩,ty,pos,af,none⟩ ρ:=fun L' _=> .v (ly eg h (al L')) rfl
theorem nk {α:Type} [ag α] [Inhabited α] {xs:List α} {e:TypeId} {i:Int} {j:Nat} {hyp:List aJ→Prop} (au:idx xs.length i=some j) (hu:c.P.underlying t=some (.slice e)) (ew:bt c.P e α)
 (al:∀ L',a7 c E L' x (.of xs):=by exact fun _=>ab rfl) (a5:∀ L',a7 c E L' y (.of i):=by first | exact fun _=>ab rfl | exact fun _=>bN _):
 ∀ L',hyp L'→ke c ops E L' ⟨some bb,.indexAddr t x y,ty,pos,af,none⟩ (.ptr (aI xs j)):=fun L' _=> .v (ri hu ew (al L') (a5 L') (da au)) rfl
theorem vl {s f o:Nat} {β γ:Type} [ag β] [ag γ] {b:β} {hyp:List aJ→Prop} (l:aQ β γ) (fd:cj c.P s f o) (al:∀ L',a7 c E L' x (.ptr b):=by exact fun _=>ab rfl) (a9:l.off=o:=by rfl):
 ∀ L',hyp L'→ke c ops E L' ⟨some bb,.fieldAddr s x f,ty,pos,af,none⟩ (.ptr (l.get b)):=fun L' _=> .v (D4 l fd (al L') a9 rfl) rfl
theorem JF {α:Type} [ag α] {a b:α} {hyp:List aJ→Prop} (e:some a=some b) (h:∀ L',hyp L'→b4 c E L' o (.of a)) (bE:o.guard=none:=by rfl):∀ L',hyp L'→ke c ops E L' o (.of b):=fun L' an=> .v ((h L' an).as (aK e)) bE
theorem xH {i:Nat} {τs:List I} {τ:I} {hyp:List aJ→Prop} (al:∀ L',a7 c E L' x (.eD τs):=by exact fun _=>ab rfl) (ar:τs[i]? =some τ:=by rfl):∀ L',hyp L'→ke c ops E L' ⟨some bb,.extract x i,ty,pos,af,none⟩ τ:=fun L' _=> .v (m9 (al L') ar) rfl
theorem gu {τ:I} {j g:Nat} {b want:Bool} {hyp:List aJ→Prop} (h:∀ L',hyp L'→b=want→b4 c E L' o τ) (bE:o.guard=some (j,want):=by rfl) (aG:(ops[j]?).bind (·.dst)=some g:=by rfl) (ao:look E g=some (.of b):=by rfl):
 ∀ L',hyp L'→ke c ops E L' o (.cond (b=want) τ):=fun L' an=> .g (h L' an) bE aG ao
end
def bk (s:Nat) (up rd:List Nat) (τ:I):dj:=⟨some s,up,rd,[],fun _=>τ,fun _ _=>⟨none,.dead⟩⟩
section
variable {hs:List dj} {i:Nat} {up rd:List Nat}
theorem fg {τ:I} (al:∀ (hd:Nat→Hid) (E':List (Nat × I)) (L':List aJ),(∀ t τ,look (me hd hs E up) t=some τ→look E' t=some τ)→a7 c E' L' x τ:=by first | exact fun _ _ _ aD=>ab (aD _ _ rfl) | exact fun _ _ _ _=>bN _ | exact fun _ _ _ _=>fG _ | exact fun _ _ _ _=>dA _)
 (aP:Nat.blt bb c.n=true:=by rfl):c3 c ops Q hs E L i ⟨some bb,.move x,ty,pos,af,none⟩ (bk bb up rd τ):=hO rfl rfl aP fun hd E' L' aD _=>ch (al hd E' L' aD)
theorem fx {σ τ:I} (h:∀ {E' L'},a7 c E' L' x σ→b4 c E' L' o τ) (bE:o.guard=none:=by rfl) (hd:o.dst=some bb:=by rfl)
 (al:∀ (hd:Nat→Hid) (E':List (Nat × I)) (L':List aJ),(∀ t τ,look (me hd hs E up) t=some τ→look E' t=some τ)→a7 c E' L' x σ:=by first | exact fun _ _ _ aD=>ab (aD _ _ rfl) | exact fun _ _ _ _=>bN _ | exact fun _ _ _ _=>fG _ | exact fun _ _ _ _=>dA _)
 (aP:Nat.blt bb c.n=true:=by rfl):c3 c ops Q hs E L i o (bk bb up rd τ):=hO bE hd aP fun hd E' L' aD _=>h (al hd E' L' aD)
theorem tt {σ pI τ:I} (h:∀ {E' L'},a7 c E' L' x σ→a7 c E' L' y pI→b4 c E' L' o τ) (bE:o.guard=none:=by rfl) (hd:o.dst=some bb:=by rfl)
 (al:∀ (hd:Nat→Hid) (E':List (Nat × I)) (L':List aJ),(∀ t τ,look (me hd hs E up) t=some τ→look E' t=some τ)→a7 c E' L' x σ:=by first | exact fun _ _ _ aD=>ab (aD _ _ rfl) | exact fun _ _ _ _=>bN _ | exact fun _ _ _ _=>fG _ | exact fun _ _ _ _=>dA _)
 (a5:∀ (hd:Nat→Hid) (E':List (Nat × I)) (L':List aJ),(∀ t τ,look (me hd hs E up) t=some τ→look E' t=some τ)→a7 c E' L' y pI:=by first | exact fun _ _ _ aD=>ab (aD _ _ rfl) | exact fun _ _ _ _=>bN _ | exact fun _ _ _ _=>fG _ | exact fun _ _ _ _=>dA _)
 (aP:Nat.blt bb c.n=true:=by rfl):c3 c ops Q hs E L i o (bk bb up rd τ):=hO bE hd aP fun hd E' L' aD _=>h (al hd E' L' aD) (a5 hd E' L' aD)
theorem py {p o:Nat} {β γ:Type} [ag β] [ag γ] {b:β} (k:Nat) (l:aQ β γ) (ev:bt c.P t γ)
 (al:∀ (hd:Nat→Hid) (E':List (Nat × I)) (L':List aJ),(∀ t τ,look (me hd hs E up) t=some τ→look E' t=some τ)→a7 c E' L' x (.eq (.pointer (some ⟨p,o,none⟩))):=by exact fun _ _ _ aD=>ab (aD _ _ rfl))
 (an:∀ hd:Nat→Hid,(gz (fun _=>true) hd 0 (hs.take i) L)[k]? =some ⟨some p,.var b⟩:=by exact fun _=>rfl) (aS:rd.contains k=true:=by rfl) (a9:o=l.off:=by rfl)
 (aP:Nat.blt bb c.n=true:=by rfl):c3 c ops Q hs E L i ⟨some bb,.load t x,ty,pos,af,none⟩ (bk bb up rd (.of (l.get b))):=hO rfl rfl aP fun hd E' L' aD qs=>e9 l ev (al hd E' L' aD) (qs _ _ (an hd) aS) a9 rfl
theorem pz {p:Nat} {β:Type} [ag β] {b:β} (k:Nat) (ev:bt c.P t β)
 (al:∀ (hd:Nat→Hid) (E':List (Nat × I)) (L':List aJ),(∀ t τ,look (me hd hs E up) t=some τ→look E' t=some τ)→a7 c E' L' x (.eq (.pointer (some ⟨p,0,none⟩))):=by exact fun _ _ _ aD=>ab (aD _ _ rfl))
 (an:∀ hd:Nat→Hid,(gz (fun _=>true) hd 0 (hs.take i) L)[k]? =some ⟨some p,.var b⟩:=by exact fun _=>rfl) (aS:rd.contains k=true:=by rfl)
 (aP:Nat.blt bb c.n=true:=by rfl):c3 c ops Q hs E L i ⟨some bb,.load t x,ty,pos,af,none⟩ (bk bb up rd (.of b)):=hO rfl rfl aP fun hd E' L' aD qs=>e9 (aQ.id β) ev (al hd E' L' aD) (qs _ _ (an hd) aS) rfl rfl
theorem cm {τ:I} (h:∀ (hd:Nat→Hid) (E':List (Nat × I)) (L':List aJ),(∀ t τ,look (me hd hs E up) t=some τ→look E' t=some τ)→ (∀ j e,(gz (fun _=>true) hd 0 (hs.take i) L)[j]? =some e→rd.contains j=true→L'[j]? =some e)→b4 c E' L' o τ)
 (bE:o.guard=none:=by rfl) (hd:o.dst=some bb:=by rfl) (aP:Nat.blt bb c.n=true:=by rfl):c3 c ops Q hs E L i o (bk bb up rd τ):=hO bE hd aP h
end
end
theorem Dd {F:Fence} {n sd:Nat} {P:Program} {code:Code} {Q:Exit→Act→World→Prop} {a:Act} {W:World} (hd:F.depth=none) (h:code.wpIn F n P Q a W):code.wpIn F sd P Q a W:=
 fun b k cs xN hb _=>h b k cs xN hb (fun d hd'=>by rw [hd] at hd'; cases hd')
def dr.is (o:Obj):dr where
 holds _ _ x:=x=o
 l4:=False
 mono _ h:=h
abbrev dr.dC:dr:= .is (.deferred (some []))
def I.gy (f:FuncId) (τs:List I):I where
 holds A W v:= ∃ hx:List Value,v= .func (.func f) #[] hx.toArray∧gb A W τs hx
 mono e h:=let⟨hx,J,ad⟩:=h; ⟨hx,J,ad.mono e⟩
theorem bw.pt {c E L a W} (h:bw c E L a W) {i p:Nat} {cp cp':dr} (ar:L[i]? =some ⟨some p,cp⟩) {o':Obj} (ak:cp'.holds (aL L ++ c.bX) W o'):
 bw c E (L.set i ⟨some p,cp'⟩) a (W.putObj p o'):=by
 have gN:aL (L.set i ⟨some p,cp'⟩)=aL L:=xa (cp:=cp') ar
 have hp:p∈aL L:=kJ.2 ⟨_,List.mem_of_getElem? ar,rfl⟩
 have gK:Ext (aL L ++ c.bX) W (aL L ++ c.bX) (W.putObj p o'):=
  ⟨by simp,fun k _ bd=>World.putObj_heap_other (fun e=>bd (e ▸ List.mem_append.2 (.inl hp))),fun _ h _=>h⟩
 exact
 {defers:=h.defers
  size:=h.size
  env:=fun t τ ao=>by rw [gN]; exact let⟨v,J,ad⟩:=h.env t τ ao; ⟨v,J,τ.mono gK ad⟩
  dw:=⟨h.dw.os,h.dw.tape,h.dw.output,by simpa using h.dw.size,fun k au al=>by
   rw [World.putObj_heap_other (fun e:k=p=>al (by subst e; exact h.fD _ hp au))]
   exact h.dw.block k au al⟩
  own:=fun e he=>by
   rw [gN]
   obtain⟨j,aG⟩:=List.mem_iff_getElem?.1 he
   rw [List.getElem?_set] at aG
   split at aG
   ·rename_i fk
    subst fk
    split at aG
    ·simp only [Option.some.injEq] at aG
     subst aG
     exact⟨_,World.putObj_heap_same (h.lt p hp),cp'.mono gK ak⟩
    ·cases aG
   ·rename_i fk
    have J:=h.own e (List.mem_of_getElem? aG)
    unfold aJ.ok at *
    split at J
    ·rename_i q hq
     obtain⟨o',pB,ck⟩:=J
     have cH:q≠p:=fun e'=>fk (Hs h.nodup ar aG rfl (e' ▸ hq))
     exact⟨o',by rw [World.putObj_heap_other cH]; exact pB,dr.mono _ gK ck⟩
    ·exact J
  nodup:=by rw [gN]; exact h.nodup
  lt:=by rw [gN]; simpa using h.lt
  fD:=by rw [gN]; exact h.fD
  eF:=by rw [gN]; simpa using h.eF }
theorem Wd {c:c5} {E:List (Nat × I)} {L:List aJ} {d:Option Tmp} {ty:TypeId} {pos:String} {af:Array Edge} {g:Option (Nat × Bool)} {f:FuncId} {xs:List Operand} {τs:List I} (al:ha c E L xs τs):
 b4 c E L ⟨d,.makeFunc (.func f) #[] xs.toArray,ty,pos,af,g⟩ (.gy f τs):= .pure fun a W s=>
 ⟨.func (.func f) #[] (xs.map a.eval).toArray,by simp [execOp,Instr.makeFunc],_,rfl,al.holds a W s⟩
structure xB (A:List Nat) (W:World) (L:List aJ):Prop where
 eF:∀ k∈A,k < W.heap.size∧k ∉ aL L
 nodup:(aL L).Nodup
 lt:∀ k∈aL L,k < W.heap.size
 ok:∀ e∈L,e.ok (aL L ++ A) W
def xU (P:Program) (u:Value) {α σ ε γ:Type} (τ:α→I) (Ls:σ→γ→List aJ) (Lx:ε→γ→List aJ) (step:α→σ→Option (σ ⊕ ε)) (R:List Nat→World→Prop):Prop:=
 ∃ l,u= .func (.yield l) #[] #[]∧ ∀ x s r,step x s=some r→ ∀ g A W v,R (aL (Ls s g) ++ A) W→xB A W (Ls s g)→ (τ x).holds (aL (Ls s g) ++ A) W v→
   YieldAt Fence.wide 8 P l #[v] W (match r with
    | .inl b9=>j1 (aL (Ls s g)) A W (fun _:γ=>I.of true) (fun g=>Ls b9 g)
    | .inr q=>j1 (aL (Ls s g)) A W (fun _:γ=>I.of false) (fun g=>Lx q g))
def Lr {σ ε γ:Type} (Ls:σ→γ→List aJ) (Lx:ε→γ→List aJ):σ ⊕ ε→γ→List aJ
 | .inl s,g=>Ls s g
 | .inr q,g=>Lx q g
structure MR (P:Program) (f:FuncId) (τs:List I) (Lin:List aJ) {α:Type} (τ:α→I) (run:∀ {σ ε:Type},(α→σ→Option (σ ⊕ ε))→σ→Option (σ ⊕ ε)):Prop where
 go:∀ {σ ε γ:Type} (Ls:σ→γ→List aJ) (Lx:ε→γ→List aJ) (step:α→σ→Option (σ ⊕ ε)) (cd:σ) (g0:γ) (r:σ ⊕ ε),run step cd=some r→
  ∀ (A:List Nat) (W:World) (u:Value) (vs:List Value),xB A W (Lin ++ Ls cd g0)→gb (aL (Lin ++ Ls cd g0) ++ A) W τs vs→
    xU P u τ Ls Lx step (fun c0 W'=>Ext (aL (Lin ++ Ls cd g0) ++ A) W c0 W')→
    Calls P f (u :: vs).toArray W (j1 (aL (Lin ++ Ls cd g0)) A W (fun _:γ=> .eD []) (fun g=>Lin ++ Lr Ls Lx r g))
theorem MR.of {P:Program} {f:FuncId} {fn:Func} {code:Code} {n:Nat} {τs:List I} {Lin:List aJ} {α:Type} {τ:α→I} {run:∀ {σ ε:Type},(α→σ→Option (σ ⊕ ε))→σ→Option (σ ⊕ ε)}
 (a8:P.funcs[f]? =some fn) (hb:fn.body=some code) (aP:fn.ntmps=n) (hlen:Nat.ble (τs.length + 1) n=true)
 (h:∀ {σ ε γ:Type} (Ls:σ→γ→List aJ) (Lx:ε→γ→List aJ) (step:α→σ→Option (σ ⊕ ε)) (cd:σ) (g0:γ) (r:σ ⊕ ε),run step cd=some r→
  ∀ W A u,xU P u τ Ls Lx step (fun c0 W'=>Ext (aL (Lin ++ Ls cd g0) ++ A) W c0 W')→
    ai ⟨P,n,W,aL (Lin ++ Ls cd g0),A,none,[]⟩ (bodyPost P fn (j1 (aL (Lin ++ Ls cd g0)) A W (fun _:γ=> .eD []) (fun g=>Lin ++ Lr Ls Lx r g))) code (params 0 (.eq u :: τs)) (Lin ++ Ls cd g0)):MR P f τs Lin τ run:=by
 refine⟨?_⟩
 intro σ ε γ Ls Lx step cd g0 r aS A W u vs ao a6 a5
 refine calls_of_wp a8 hb (wpIn_wide.1 (h Ls Lx step cd g0 r aS W A u a5 _ _ ?_))
 have oM:gb (aL (Lin ++ Ls cd g0) ++ A) W (.eq u :: τs) (u :: vs):= .cons rfl a6
 have kx:=oM.length
 have hle:τs.length + 1≤n:=Nat.le_of_ble_eq_true hlen
 exact
 {defers:=rfl
  size:=by simp at kx; simp [aP,kx]; omega
  env:=fun t τ eJ=>by
   obtain⟨_,v,ad,ay⟩:=tV oM 0 t τ eJ
   refine⟨v,?_,ay⟩
   have cb:t < (u :: vs).length:=(List.getElem?_eq_some_iff.1 ad).1
   rw [Array.getElem?_append_left (by simpa using cb)]
   simpa using ad
  dw:= .refl _ _
  own:=ao.ok
  nodup:=ao.nodup
  lt:=ao.lt
  fD:=fun k au _=>au
  eF:=ao.eF }
section
variable {c:c5} {E:List (Nat × I)} {L:List aJ} {ops:Array Oper} {Q:Exit→Act→World→Prop}
variable {d:Option Tmp} {ty:TypeId} {pos:String} {af:Array Edge} {g:Option (Nat × Bool)} {x y:Operand} {t t2:TypeId}
theorem bw.NR {a:Act} {W:World} (s:bw c E L a W):Ext (c.X ++ c.bX) c.iP (aL L ++ c.bX) W:=
 ⟨s.dw.size,fun k au bd=>s.dw.block k au fun al=>bd (List.mem_append.2 (.inl al)),fun k hm cb=>by
   rcases List.mem_append.1 hm with hm | hm
   ·exact List.mem_append.2 (.inl (s.fD k hm cb))
   ·exact List.mem_append.2 (.inr hm)⟩
theorem bw.EE {a:Act} {W:World} {Lin Lr:List aJ} (s:bw c E (Lin ++ Lr) a W):xB (aL Lr ++ c.bX) W Lin:=by
 have lH:=s.nodup
 rw [eB] at lH
 obtain⟨lS,mN,pF⟩:=List.nodup_append.1 lH
 exact
 {eF:=fun k hm=>by
   rcases List.mem_append.1 hm with hm | hm
   ·exact⟨s.lt k (by rw [eB]; exact List.mem_append.2 (.inr hm)),fun h=>pF k h k hm rfl⟩
   ·obtain⟨J,ad⟩:=s.eF k hm
    exact⟨J,fun h=>ad (by rw [eB]; exact List.mem_append.2 (.inl h))⟩
  nodup:=lS
  lt:=fun k hm=>s.lt k (by rw [eB]; exact List.mem_append.2 (.inl hm))
  ok:=fun e he=>aJ.sB (s.own e (List.mem_append.2 (.inl he))) (.drop fun k hm=>by
   rw [eB]
   simp only [List.mem_append] at hm ⊢
   rcases hm with hm | hm | hm
   ·exact .inl (.inl hm)
   ·exact .inl (.inr hm)
   ·exact .inr hm) fun _ _=>rfl }
theorem zK {Lin Lr:List aJ} {A:List Nat} {W:World} :Ext (aL (Lin ++ Lr) ++ A) W (aL Lin ++ (aL Lr ++ A)) W:= .drop fun k hm=>by
 rw [eB]
 simp only [List.mem_append] at hm ⊢
 rcases hm with hm | hm | hm
 ·exact .inl (.inl hm)
 ·exact .inl (.inr hm)
 ·exact .inr hm
theorem GO {Lin Lr:List aJ} {A:List Nat} {W:World} :Ext (aL Lin ++ (aL Lr ++ A)) W (aL (Lin ++ Lr) ++ A) W:= .drop fun k hm=>by
 rw [eB] at hm
 simp only [List.mem_append] at hm ⊢
 rcases hm with(hm | hm) | hm
 ·exact .inl hm
 ·exact .inr (.inl hm)
 ·exact .inr (.inr hm)
theorem ah.yield {rest:List Oper} {bb se:Nat} {ats:Array TypeId} {u:Value} {α σ ε γ:Type} {τ:α→I} {Ls:σ→γ→List aJ} {Lx:ε→γ→List aJ} {step:α→σ→Option (σ ⊕ ε)} {Lin:List aJ} {x:Operand} {v:α} {s:σ} {gg:γ} {r:σ ⊕ ε}
 (ak:c.rd=none) (a5:xU c.P u τ Ls Lx step (fun c0 W'=>Ext (c.X ++ c.bX) c.iP c0 W')) (a8:look E se=some (.eq u)) (al:a7 c E (Lin ++ Ls s gg) x (τ v)) (aS:step v s=some r) (aP:Nat.blt bb c.n=true)
 (bj:∀ b9,r= .inl b9→ ∀ eU,ah c ops Q rest ((bb,.of true) :: E) (Lin ++ Ls b9 eU)) (bI:∀ q,r= .inr q→ ∀ eU,ah c ops Q rest ((bb,.of false) :: E) (Lin ++ Lx q eU)):
 ah c ops Q (⟨some bb,.call ⟨.value (.tmp se),#[x],ats⟩,ty,pos,af,none⟩ :: rest) E (Lin ++ Ls s gg):=fun a W st=>by
 obtain⟨l,rfl,a5⟩:=a5
 obtain⟨JT,J,ad⟩:=st.env se _ a8
 have hu:JT= .func (.yield l) #[] #[]:=ad
 subst hu
 have mO:bw c E (Ls s gg ++ Lin) a W:=st.perm List.perm_append_comm
 have a6:=al a W st
 have oM:(τ v).holds (aL (Ls s gg) ++ (aL Lin ++ c.bX)) W (a.eval x):=(τ v).mono (.drop fun k hm=>by
  rw [eB]
  simp only [List.mem_append] at hm ⊢
  rcases hm with hm | hm | hm
  ·exact .inl (.inr hm)
  ·exact .inl (.inl hm)
  ·exact .inr hm) a6
 obtain⟨fn,tmps,assign,body,hB,iS⟩:=a5 v s r aS gg (aL Lin ++ c.bX) W (a.eval x) (mO.NR.trans zK) mO.EE oM
 have H3:(execOp a.eval ⟨some bb,.call ⟨.value (.tmp se),#[x],ats⟩,ty,pos,af,none⟩).run c.P W= .ok (.round l fn tmps assign body) W:=by
  rw [← hB]
  simp [execOp,resolve,Deferred.ofValue,Act.eval,J,invoke,Sem.run_bind,Sem.run_pure,Result.andThen]
 refine wpListIn_plain rfl fun K vX=> ?_
 refine⟨fun _ _=>trivial,?_⟩
 rw [Oper.semAt_eq _ _ _ (fun _ h=>by cases h),H3,Oper.uponIn_round]
 refine⟨fun h=>by simp at h,?_⟩
 have I6:RoundIn c.F (9 - 1) c.P l fn tmps assign body W _:=iS
 refine I6.mono fun e W' he=> ?_
 cases r with
 | inl b9=>
   obtain⟨w,eU,rfl,pJ,ay,aU,a0,bl⟩:=he
   obtain rfl:=of_bool.1 bl
   refine vX _ _ (bj b9 rfl eU _ _ ?_)
   exact(((mO.after pJ ay aU a0).perm List.perm_append_comm).put (by simpa using aP) (of_bool.2 rfl))
 | inr q=>
   obtain⟨w,eU,rfl,pJ,ay,aU,a0,bl⟩:=he
   obtain rfl:=of_bool.1 bl
   refine vX _ _ (bI q rfl eU _ _ ?_)
   exact(((mO.after pJ ay aU a0).perm List.perm_append_comm).put (by simpa using aP) (of_bool.2 rfl))
theorem ah.eo {l:List Oper} {L2:List aJ} (h:L=L2) (k:ah c ops Q l E L2):ah c ops Q l E L:=by subst h; exact k
theorem ah.cases {l:List Oper} (b:Bool) (J:b=true→ah c ops Q l E L) (ad:b=false→ah c ops Q l E L):ah c ops Q l E L:=by
 cases b
 ·exact ad rfl
 ·exact J rfl
theorem ai.Nr {x:Operand} {b:Bool} {y z:Code} (ao:a7 c E L x (.of b)) (hb:b=true) (k:ai c Q y E L):ai c Q (.cond x y z) E L:= .cond ao (fun _=>k) fun h=>by rw [hb] at h; cases h
theorem ai.Ae {x:Operand} {b:Bool} {y z:Code} (ao:a7 c E L x (.of b)) (hb:b=false) (k:ai c Q z E L):ai c Q (.cond x y z) E L:= .cond ao (fun h=>by rw [hb] at h; cases h) fun _=>k
def z7:Code→Exit
 | .ret=> .ret
 | .exit id=> .exit id
 | .goto t=> .goto t
 | _=> .normal
def uC:Code→Bool
 | .ret | .exit _ | .goto _=>true
 | _=>false
def Fm {σ ε γ:Type} (c:c5) (e6:ε→Code) (l D:Nat) (rec:Loop) (Ls:σ→γ→List aJ) (Lx:ε→γ→List aJ):σ ⊕ ε→Exit→Act→World→Prop
 | .inl b9,x,a,W=>x= .normal∧ ∃ g,bw c [] (⟨some l,.is (.loop rec)⟩ :: ⟨some D,.dC⟩ :: Ls b9 g) a W
 | .inr q,x,a,W=>uC (e6 q)=true∧x=z7 (e6 q)∧ ∃ g,bw c [] (⟨some l,.is (.loop rec)⟩ :: ⟨some D,.dC⟩ :: Lx q g) a W
def Fo (c:c5) (l:Nat) (body:Code) (Q:Exit→Act→World→Prop) (a:Act) (W:World):Prop:=
 ∃ nz,(Instr.beginRound l).run c.P W= .ok () nz∧c.wp body Q a nz
theorem ae.begin {l:Nat} {body:Code} {r9:Exit→Act→World→Prop} (i:Nat) {r:Loop} (an:L[i]? =some ⟨some l,.is (.loop r)⟩) (aS:r.state= .ready)
 (k:ai c Q body E (L.set i ⟨some l,.is (.loop { r with state:= .busy })⟩)):ae c (Exit.then (Fo c l body Q) r9) .normal E L:=fun a W s=>by
 obtain⟨o,J,ad⟩:=s.own _ (List.mem_of_getElem? an)
 have ld:o= .loop r:=ad
 subst ld
 exact⟨_,run_beginRound J aS,k _ _ (s.pt an rfl)⟩
theorem ae.OZ {σ ε γ:Type} {e6:ε→Code} {l D:Nat} {rec:Loop} {Ls:σ→γ→List aJ} {Lx:ε→γ→List aJ} {b9:σ} (g:γ) (n:Nat) (an:L.drop n=⟨some l,.is (.loop rec)⟩ :: ⟨some D,.dC⟩ :: Ls b9 g):
 ae c (Fm c e6 l D rec Ls Lx (.inl b9)) .normal E L:=fun a W s=>⟨rfl,g,by rw [← an]; exact(s.oC n).less (fun t τ h=>by simp [look] at h)⟩
theorem ae.U4 {σ ε γ:Type} {e6:ε→Code} {l D:Nat} {rec:Loop} {Ls:σ→γ→List aJ} {Lx:ε→γ→List aJ} {q:ε} {x:Exit} (g:γ) (n:Nat) (aG:uC (e6 q)=true) (al:x=z7 (e6 q)) (an:L.drop n=⟨some l,.is (.loop rec)⟩ :: ⟨some D,.dC⟩ :: Lx q g):
 ae c (Fm c e6 l D rec Ls Lx (.inr q)) x E L:=fun a W s=>⟨aG,al,g,by rw [← an]; exact(s.oC n).less (fun t τ h=>by simp [look] at h)⟩
theorem ai.jump {j:Code} (aG:uC j=true) (k:ae c Q (z7 j) E L):ai c Q j E L:=by
 cases j <;> simp only [uC] at aG <;> first | cases aG | skip
 all_goals first | exact .exit k | exact .ret k | exact fun a W s=>wpIn_goto (k a W s)
theorem Ku {P:Program} {l:Nat} {R:Ending→World→Prop} {j:Code} {a:Act} {W W':World} {v:Value} (aG:uC j=true) (bl:(Instr.endRound l (some j)).run P W= .ok v W') (iS:R (.returned v) W'):
 roundPost P l R (z7 j) a W:=by
 cases j <;> simp only [uC] at aG <;> first | exact⟨_,_,bl,iS⟩ | cases aG
theorem bw.mark {a:Act} {W:World} (s:bw c E L a W) (D:Nat):bw { c with ds:=D :: c.ds } E L { a with defers:=Ex D :: a.defers } W:=
 {defers:=by simp [s.defers],size:=s.size,env:=s.env,dw:=s.dw,own:=s.own,nodup:=s.nodup,lt:=s.lt,fD:=s.fD,eF:=s.eF }
def I7 (P:Program) (f:FuncId) (τs:List I) (Lin:List aJ) {α σ ε γ:Type} (τ:α→I) (run:(α→σ→Option (σ ⊕ ε))→σ→Option (σ ⊕ ε)) (Ls:σ→γ→List aJ) (Lx:ε→γ→List aJ):Prop:=
 ∀ (step:α→σ→Option (σ ⊕ ε)) (cd:σ) (g0:γ) (r:σ ⊕ ε),run step cd=some r→
   ∀ (A:List Nat) (W:World) (u:Value) (vs:List Value),xB A W (Lin ++ Ls cd g0)→gb (aL (Lin ++ Ls cd g0) ++ A) W τs vs→
     xU P u τ Ls Lx step (fun c0 W'=>Ext (aL (Lin ++ Ls cd g0) ++ A) W c0 W')→
     Calls P f (u :: vs).toArray W (j1 (aL (Lin ++ Ls cd g0)) A W (fun _:γ=> .eD []) (fun g=>Lin ++ Lr Ls Lx r g))
theorem S3 {gt p:Nat} {assign body:Code} {f:FuncId} {nW:List I} {Lin:List aJ} {α σ ε γ:Type} {τ:α→I} {run:(α→σ→Option (σ ⊕ ε))→σ→Option (σ ⊕ ε)}
 {Ls:σ→γ→List aJ} {Lx:ε→γ→List aJ} {step:α→σ→Option (σ ⊕ ε)} {cd:σ} {g0:γ} {r:σ ⊕ ε} (e6:ε→Code)
 (ak:c.rd=none) (eg:bM c.P f) (bE:look E gt=some (.gy f nW)) (ln:∀ aF aR nu,I7 c.P f nW Lin τ run (fun s g=>aF :: aR :: Ls s g) nu) (aS:run step cd=some r) (an:L=Lin ++ Ls cd g0) (hp:Nat.blt p c.n=true)
 (qb:∀ x s r,step x s=some r→ ∀ g (nm:World) (nv nn:List Nat) (l D:Nat) (rec:Loop),rec.state= .ready→
  ai ⟨c.P,c.n,nm,nv,nn,some l,[]⟩ (Exit.then (Fo ⟨c.P,c.n,nm,nv,nn,some l,[]⟩ l body (Fm ⟨c.P,c.n,nm,nv,nn,some l,[]⟩ e6 l D { rec with state:= .busy } Ls Lx r)) (fun _ _ _=>False)) assign ((p,τ x) :: E) (⟨some l,.is (.loop rec)⟩ :: ⟨some D,.dC⟩ :: Ls s g))
 (nb:∀ b9,r= .inl b9→ ∀ g D,ae { c with ds:=D :: c.ds } Q .normal E (⟨some D,.dC⟩ :: (Lin ++ Ls b9 g)))
 (AB:∀ q,r= .inr q→ ∀ g D,ai { c with ds:=D :: c.ds } Q (e6 q) E (⟨some D,.dC⟩ :: (Lin ++ Lx q g))):
 ai c Q (.rangeFunc (.tmp gt) #[p] assign body) E L:=fun a W st=>by
 subst an
 refine wpIn_rangeFunc fun fn ZH=> ?_
 show ∃ l mark YU d Xe x9 args YV,(Instr.enterLoop fn a.tmps #[p] assign body c.rd).run c.P W=_∧_
 rw [ak]
 obtain⟨rec,j4⟩:∃ rec:Loop,rec= { state:= .ready,pending:=none,fn,tmps:=a.tmps,params:= #[p],assign,body,defers:=W.heap.size } :=⟨_,rfl⟩
 obtain⟨v,BK,hx,vJ,ZI⟩:=st.env gt _ bE
 obtain⟨gP,BL⟩:∃ gP,(W.alloc (.deferred (some []))).alloc (.loop rec)=gP:=⟨_,rfl⟩
 have s1:=(st.alloc (o:= .deferred (some [])) (cp:= .dC) rfl).alloc (o:= .loop rec) (cp:= .is (.loop rec)) rfl
 rw [BL,World.size_alloc] at s1
 obtain⟨D,kA⟩:∃ D,D=W.heap.size:=⟨_,rfl⟩
 obtain⟨l,ao⟩:∃ l,l=W.heap.size + 1:=⟨_,rfl⟩
 have BM:=run_enterLoop_outer (P:=c.P) (w:=W) fn a.tmps #[p] assign body
 rw [← j4,BL,← ao,← kA] at BM
 rw [← ao,← kA] at s1
 obtain⟨kY,pK⟩:∃ kY:σ→γ→List aJ,kY=fun s g=>⟨some l,.is (.loop rec)⟩ :: ⟨some D,.dC⟩ :: Ls s g:=⟨_,rfl⟩
 obtain⟨nu,BN⟩:∃ nu:ε→γ→List aJ,nu=fun q g=>⟨some l,.is (.loop { rec with state:= .done,pending:=some (e6 q) })⟩ :: ⟨some D,.dC⟩ :: Lx q g:=⟨_,rfl⟩
 have s2:bw c E (Lin ++ kY cd g0) a gP:=s1.perm (by
  rw [pK]
  exact(List.perm_middle.trans (List.perm_middle.cons _)).symm)
 have I8:gb (aL (Lin ++ kY cd g0) ++ c.bX) gP nW hx:=by
  have J:(I.gy f nW).holds (aL (Lin ++ kY cd g0) ++ c.bX) gP v:=by
   obtain⟨Fk,J,ad⟩:=s2.env gt _ bE
   rw [BK] at J
   cases J
   exact ad
  obtain⟨I9,aF,aR⟩:=J
  rw [vJ] at aF
  have:I9=hx:=by injection aF with _ _ aF; injection aF with aF; exact aF.symm
  rw [← this]; exact aR
 have BO:bw c E ((Lin ++ kY cd g0) ++ []) a gP:=by rw [List.append_nil]; exact s2
 have AD:=BO.EE
 simp only [aL,List.nil_append] at AD
 have Iy:xU c.P (.func (.yield l) #[] #[]) τ kY nu step (fun c0 W'=>Ext (aL (Lin ++ kY cd g0) ++ c.bX) gP c0 W'):=by
  refine⟨l,rfl,fun x s jB hs g A nz v2 gK hle a6=> ?_⟩
  have A8:=hle
  rw [pK] at A8
  obtain⟨o,c8,eY⟩:=A8.ok ⟨some l,.is (.loop rec)⟩ (by simp)
  have pv:o= .loop rec:=eY
  subst pv
  have a5:=run_yield (P:=c.P) (args:= #[v2]) c8 (by rw [j4]; rfl)
  refine⟨_,_,_,_,a5,roundIn_of_wpIn trivial ?_⟩
  have aF:rec.assign=assign:=by rw [j4]
  have aR:rec.body=body:=by rw [j4]
  have dh:rec.params= #[p]:=by rw [j4]
  have iQ:rec.tmps=a.tmps:=by rw [j4]
  rw [aF,aR,dh,iQ]
  refine Dd (n:=9) rfl ?_
  have H4:((#[p]:Array Tmp).zip #[v2]).foldl (fun tmps (t,a)=>tmps.setIfInBounds t a) a.tmps=a.tmps.setIfInBounds p v2:=by simp
  rw [H4]
  subst pK BN
  refine wpIn_mono ((qb x s jB hs g nz (aL (⟨some l,.is (.loop rec)⟩ :: ⟨some D,.dC⟩ :: Ls s g)) A l D rec (by rw [j4])) { tmps:=a.tmps.setIfInBounds p v2,defers:= [] } nz ?_) ?_
  ·have iz:p < c.n:=by simpa using hp
   exact
   {defers:=rfl
    size:=by simp [s2.size]
    env:=fun t rR eJ=>by
     simp only [look] at eJ
     by_cases e:Nat.beq p t=true
     ·rw [e] at eJ
      simp only [cond_true,Option.some.injEq] at eJ
      subst eJ
      have:=ej.1 e
      subst this
      exact⟨v2,by simp [s2.size,iz],a6⟩
     ·simp only [Bool.not_eq_true] at e
      rw [e] at eJ
      simp only [cond_false] at eJ
      obtain⟨u,J,ad⟩:=s2.env t rR eJ
      have cH:p≠t:=fun h=>by rw [ej.2 h] at e; cases e
      exact⟨u,by rw [Array.getElem?_setIfInBounds_ne cH]; exact J,rR.mono gK ad⟩
    dw:= .refl _ _
    own:=hle.ok
    nodup:=hle.nodup
    lt:=hle.lt
    fD:=fun k au _=>au
    eF:=hle.eF }
  ·intro e fL aaD hq
   cases e with
   | normal=>
     obtain⟨JU,Ja,hb⟩:=hq
     refine⟨JU,Ja,Dd (n:=9) rfl (wpIn_mono hb ?_)⟩
     intro e oW B9 E0
     have fin:∀ (jump:Option Code) {Lr:List aJ},bw ⟨c.P,c.n,nz,aL (⟨some l,.is (.loop rec)⟩ :: ⟨some D,.dC⟩ :: Ls s g),A,some l,[]⟩ [] (⟨some l,.is (.loop { rec with state:= .busy })⟩ :: ⟨some D,.dC⟩ :: Lr) oW B9→
      ∃ oc,(Instr.endRound l jump).run c.P B9= .ok (.bool jump.isNone) oc∧bw ⟨c.P,c.n,nz,aL (⟨some l,.is (.loop rec)⟩ :: ⟨some D,.dC⟩ :: Ls s g),A,some l,[]⟩ [] (⟨some l,.is (.loop { rec with state:=if jump.isNone then .ready else .done,pending:=jump })⟩ :: ⟨some D,.dC⟩ :: Lr) oW oc:=fun jump Lr od=>by
      obtain⟨o,J,ad⟩:=od.own ⟨some l,.is (.loop { rec with state:= .busy })⟩ (by simp)
      have ld:o= .loop { rec with state:= .busy } :=ad
      subst ld
      exact⟨_,run_endRound jump J,od.pt (i:=0) rfl rfl⟩
     cases jB with
     | inl b9=>
       obtain⟨rfl,eU,od⟩:=E0
       obtain⟨oc,bl,sf⟩:=fin none od
       refine⟨_,oc,bl,?_⟩
       have Jb:({ rec with state:=if (none:Option Code).isNone then .ready else .done,pending:=none } :Loop)=rec:=by rw [j4]; rfl
       rw [Jb] at sf
       exact sf.ends (ρ:=fun _:γ=>I.of true) (Lo:=fun g=>⟨some l,.is (.loop rec)⟩ :: ⟨some D,.dC⟩ :: Ls b9 g) eU (List.Sublist.refl _) (of_bool.2 rfl)
     | inr q=>
       obtain⟨aG,rfl,eU,od⟩:=E0
       obtain⟨oc,bl,sf⟩:=fin (some (e6 q)) od
       have key:j1 (aL (⟨some l,.is (.loop rec)⟩ :: ⟨some D,.dC⟩ :: Ls s g)) A nz (fun _:γ=>I.of false) (fun g=>⟨some l,.is (.loop { rec with state:= .done,pending:=some (e6 q) })⟩ :: ⟨some D,.dC⟩ :: Lx q g) (.returned (.bool false)) oc:=
        sf.ends (ρ:=fun _:γ=>I.of false) (Lo:=fun g=>⟨some l,.is (.loop { rec with state:= .done,pending:=some (e6 q) })⟩ :: ⟨some D,.dC⟩ :: Lx q g) eU (List.Sublist.refl _) (of_bool.2 rfl)
       exact Ku aG bl key
   | exit id=>exact hq.elim
   | goto t=>exact hq.elim
   | ret=>exact hq.elim
   | panic JK=>exact hq.elim
   | outgrown=>exact hq.elim
 have ZJ:I7 c.P f nW Lin τ run kY nu:=by rw [pK]; exact ln _ _ nu
 have AE:=ZJ step cd g0 r aS c.bX gP (.func (.yield l) #[] #[]) hx AD I8 Iy
 have kW:a.eval (.tmp gt)= .func (.func f) #[] hx.toArray:=by simp [Act.eval,BK,vJ]
 refine⟨l,[Ex D],gP,{ target:= .fn (.func f) hx.toArray,args:= #[.func (.yield l) #[] #[]] },gP,f,#[.func (.yield l) #[] #[]] ++ hx.toArray,gP,BM,?_,fun _ _=>trivial,?_,fun h=>by simp at h,?_⟩
 ·simp only [resolve,kW]
  simp [go_sem]
 ·simp [invoke,go_sem,eg.run]
 ·refine CallsIn.G8 ?_
  have H5:(#[.func (.yield l) #[] #[]] ++ hx.toArray:Array Value)=(.func (.yield l) #[] #[] :: hx).toArray:=by simp
  rw [H5]
  refine AE.mono fun e JV ⟨aaE,eU,he,a8,ay,aU,a0,bl⟩=> ?_
  subst he
  have oe:=BO.after a8 ay (by simpa [aL] using aU) (by simpa [aL] using a0)
  rw [List.append_nil] at oe
  cases r with
  | inl b9=>
    simp only [Lr] at oe
    subst pK
    have Ca:bw c E (⟨some l,.is (.loop rec)⟩ :: ⟨some D,.dC⟩ :: (Lin ++ Ls b9 eU)) a JV:=oe.perm (by
     exact List.perm_middle.trans (List.perm_middle.cons _))
    obtain⟨o,c8,eY⟩:=Ca.own ⟨some l,.is (.loop rec)⟩ (by simp)
    have pv:o= .loop rec:=eY
    subst pv
    have ni:=run_endLoop (P:=c.P) c8 (by rw [j4]; simp)
    have iz:rec.pending=none:=by rw [j4]
    rw [iz] at ni
    refine⟨none,_,ni,?_⟩
    have sg:=(Ca.pt (i:=0) (cp':= .is (.loop { rec with state:= .exhausted })) (o':= .loop { rec with state:= .exhausted }) rfl rfl).oC 1
    rw [iz] at sg
    exact nb b9 rfl eU D _ _ (sg.mark D)
  | inr q=>
    simp only [Lr] at oe
    subst BN
    have Ca:bw c E (⟨some l,.is (.loop { rec with state:= .done,pending:=some (e6 q) })⟩ :: ⟨some D,.dC⟩ :: (Lin ++ Lx q eU)) a JV:=oe.perm (by
     exact List.perm_middle.trans (List.perm_middle.cons _))
    obtain⟨o,c8,eY⟩:=Ca.own ⟨some l,.is (.loop { rec with state:= .done,pending:=some (e6 q) })⟩ (by simp)
    have pv:o= .loop { rec with state:= .done,pending:=some (e6 q) } :=eY
    subst pv
    have ni:=run_endLoop (P:=c.P) c8 (by simp)
    refine⟨some (e6 q),_,ni,?_⟩
    have sg:=(Ca.pt (i:=0) (cp':= .is (.loop { rec with state:= .exhausted,pending:=some (e6 q) })) (o':= .loop { rec with state:= .exhausted,pending:=some (e6 q) }) rfl rfl).oC 1
    exact AB q rfl eU D _ _ (sg.mark D)
theorem RX {P:Program} {fn:Func} {R:Ending→World→Prop} {a:Act} {W:World} (h:bodyPost P fn R .ret a W):bodyPostM Fence.wide 9 P fn R .ret a W:=by
 obtain⟨J,v,ad,ay⟩:=h
 show LeavesInM Fence.wide 9 P fn a.tmps R a.defers .returning W
 rw [J]
 exact⟨v,ad,ay⟩
theorem ae.nU {P:Program} {fn:Func} {R:Ending→World→Prop} (k:ae c (bodyPost P fn R) .ret E L):ae c (bodyPost P fn R) .normal E L:=fun a W s=>k a W s
theorem ae.Er {fn:Func} {R:Ending→World→Prop} (k:ae c (bodyPost c.P fn R) .ret E L):ae c (bodyPostM Fence.wide 9 c.P fn R) .ret E L:=fun a W s=>RX (k a W s)
theorem ae.Es {fn:Func} {R:Ending→World→Prop} {D:Nat} (i:Nat) (an:L[i]? =some ⟨some D,.dC⟩) (hH:c.ds= [D]) (k:ae { c with ds:= [] } (bodyPost c.P fn R) .ret E (L.set i ⟨some D,.is (.deferred none)⟩)):
 ae c (bodyPostM Fence.wide 9 c.P fn R) .ret E L:=fun a W s=>by
 obtain⟨o,J,ad⟩:=s.own _ (List.mem_of_getElem? an)
 have ld:o= .deferred (some []):=ad
 subst ld
 have s2:=s.pt an (cp':= .is (.deferred none)) (o':= .deferred none) rfl
 have aZ:bw { c with ds:= [] } E (L.set i ⟨some D,.is (.deferred none)⟩) { a with defers:= [] } (W.putObj D (.deferred none)):=
  {defers:=rfl,size:=s2.size,env:=s2.env,dw:=s2.dw,own:=s2.own,nodup:=s2.nodup,lt:=s2.lt,fD:=s2.fD,eF:=s2.eF }
 obtain⟨_,v,ay,aU⟩:=k _ _ aZ
 show LeavesInM Fence.wide 9 c.P fn a.tmps R a.defers .returning W
 rw [s.defers,hH]
 exact⟨by simp,.inl ⟨D,_,rfl,run_takeDeferred J,v,ay,aU⟩⟩
end
theorem bW.Vi {P:Program} {f:FuncId} {fn:Func} {code:Code} {n:Nat} {τs:List I} {ρ:I} (a8:P.funcs[f]? =some fn) (hb:fn.body=some code) (aP:fn.ntmps=n) (hlen:Nat.ble τs.length n=true)
 (h:∀ W A,ai ⟨P,n,W,[],A,none,[]⟩ (bodyPostM Fence.wide 9 P fn fun e W'=> ∃ v,e= .returned v∧Fr [] W W'∧ρ.holds A W' v) code (params 0 τs) []):bW P f τs ρ:=by
 intro A W vs gv a6
 refine(callsIn_wide (n:=9)).1 (callsIn_of_wp_marks a8 hb trivial (h W A _ _ ?_))
 have ao:=a6.length
 have hle:τs.length≤n:=Nat.le_of_ble_eq_true hlen
 exact
 {defers:=rfl
  size:=by simp [aP,ao]; omega
  env:=fun t τ kx=>by
   obtain⟨_,v,ad,ay⟩:=tV a6 0 t τ kx
   refine⟨v,?_,ay⟩
   have cb:t < vs.length:=(List.getElem?_eq_some_iff.1 ad).1
   rw [Array.getElem?_append_left (by simpa using cb)]
   simpa using ad
  dw:= .refl _ _
  own:=by simp
  nodup:=by simp [aL]
  lt:=by simp [aL]
  fD:=by simp [aL]
  eF:=fun k au=>⟨gv k au,by simp [aL]⟩ }
theorem bW.ofM {P:Program} {f:FuncId} {fn:Func} {code:Code} {n:Nat} {τs:List I} {ρ:I} (a8:P.funcs[f]? =some fn) (hb:fn.body=some code) (aP:fn.ntmps=n) (hlen:Nat.ble τs.length n=true)
 (h:∀ W A,ai ⟨P,n,W,[],A,none,[]⟩ (bodyPostM Fence.wide 9 P fn (vg ⟨P,n,W,[],A,none,[]⟩ ρ)) code (params 0 τs) []):bW P f τs ρ:=bW.Vi a8 hb aP hlen h
theorem bO.ofM {P:Program} {f:FuncId} {fn:Func} {code:Code} {n:Nat} {τs:List I} {Lin:List aJ} {δ:Type} {ρ:δ→I} {Lo:δ→List aJ} (a8:P.funcs[f]? =some fn) (hb:fn.body=some code) (aP:fn.ntmps=n) (hlen:Nat.ble τs.length n=true)
 (h:∀ W A,ai ⟨P,n,W,aL Lin,A,none,[]⟩ (bodyPostM Fence.wide 9 P fn (j1 (aL Lin) A W ρ Lo)) code (params 0 τs) Lin):bO P f τs Lin ρ Lo:=by
 intro A W vs gv fV cb hV a6
 refine(callsIn_wide (n:=9)).1 (callsIn_of_wp_marks a8 hb trivial (h W A _ _ ?_))
 have ao:=a6.length
 have hle:τs.length≤n:=Nat.le_of_ble_eq_true hlen
 exact
 {defers:=rfl
  size:=by simp [aP,ao]; omega
  env:=fun t τ kx=>by
   obtain⟨_,v,ad,ay⟩:=tV a6 0 t τ kx
   refine⟨v,?_,ay⟩
   have cb:t < vs.length:=(List.getElem?_eq_some_iff.1 ad).1
   rw [Array.getElem?_append_left (by simpa using cb)]
   simpa using ad
  dw:= .refl _ _
  own:=hV
  nodup:=fV
  lt:=cb
  fD:=fun k au _=>au
  eF:=gv }
theorem Gr {τ σ:I} (h:τ.Flat) (k:σ.Flat):(I.eD [τ,σ]).Flat:=fun A W c0 W' v ⟨vs,J,ad⟩=>by
 refine⟨vs,J,?_⟩
 generalize vs.toList=l at ad
 cases ad with
 | cons a r=>cases r with
   | cons b r=>cases r; exact .cons (h _ _ _ _ _ a) (.cons (k _ _ _ _ _ b) .nil)
section
variable {c:c5} {E:List (Nat × I)} {L:List aJ} {ops:Array Oper} {Q:Exit→Act→World→Prop}
variable {d:Option Tmp} {ty:TypeId} {pos:String} {af:Array Edge} {g:Option (Nat × Bool)} {x y:Operand} {t t2:TypeId}
theorem b4.via {o:Oper} {τ:I} {E':List (Nat × I)} {L':List aJ} (a8:τ.Flat) (hs:∀ a W,bw c E L a W→bw c E' L' a W) (h:b4 c E' L' o τ):b4 c E L o τ:=fun a W st=>by
 have:=h a W (hs a W st)
 unfold gj at this ⊢
 exact Oper.wp_mono (fun fY W' ⟨v,J,ad,ay⟩=>⟨v,J,ad,a8 _ _ _ _ _ ay⟩) this
theorem bw.tell {a:Act} {W:World} (s:bw c E L a W) {e5:Nat} {σ τ:I} (ao:look E e5=some σ) (h:∀ v,σ.holds (aL L ++ c.bX) W v→τ.holds (aL L ++ c.bX) W v):bw c ((e5,τ) :: E) L a W:=by
 refine { s with env:=fun t rR eJ=> ?_ }
 simp only [look] at eJ
 by_cases e:Nat.beq e5 t=true
 ·rw [e] at eJ
  simp only [cond_true,Option.some.injEq] at eJ
  subst eJ
  have:=ej.1 e
  subst this
  obtain⟨v,J,ad⟩:=s.env e5 _ ao
  exact⟨v,J,h v ad⟩
 ·simp only [Bool.not_eq_true] at e
  rw [e] at eJ
  exact s.env t rR eJ
theorem bw.NS {a:Act} {W:World} (s:bw c E L a W) {i p:Nat} {α:Type} [ag α] {z:α} (an:L[i]? =some ⟨some p,.var z⟩):
 (I.ptr z).holds (aL (L.set i ⟨none,.dead⟩) ++ c.bX) W (.pointer (some ⟨p,0,none⟩)):=by
 obtain⟨o,er,cs,T,rfl,aS⟩:=s.own _ (List.mem_of_getElem? an)
 have hlen:cs.toList.length=ag.size α:=ag.len aS
 refine⟨p,0,cs,T,(0,0),rfl,s.zz an,er,by simp at hlen; omega,?_⟩
 rw [List.drop_zero,← hlen,List.take_length]
 have kp:=wB (L:=L) (i:=i) (cp:= .dead)
 exact ag.mono (.drop fun k hm=>by
  rcases List.mem_append.1 hm with hm | hm
  ·exact List.mem_append.2 (.inl (kp.subset hm))
  ·exact List.mem_append.2 (.inr hm)) aS
abbrev BP (f p:Nat):Value:= .func (.func f) #[.pointer (some ⟨p,0,none⟩)] #[]
theorem WV {f p:Nat} (al:a7 c E L x (.eq (.pointer (some ⟨p,0,none⟩)))):b4 c E L ⟨d,.makeFunc (.func f) #[x] #[],ty,pos,af,g⟩ (.eq (BP f p)):= .pure fun a W s=>by
 have h:=al a W s
 refine⟨_,?_,rfl⟩
 have cX:a.eval x= .pointer (some ⟨p,0,none⟩):=h
 simp [execOp,Instr.makeFunc,cX,BP]
theorem Ur {f p:Nat} {α β γ δ:Type} [ag α] [ag β] [ag γ] [ag δ] {z:δ} {F:α→β→Option γ} {P:Program} (eg:bM P f) (h:∀ x y r,F x y=some r→bW P f [.ptr z,.of x,.of y] (.of r)) {A:List Nat} {W:World}
 (hp:(I.ptr z).holds A W (.pointer (some ⟨p,0,none⟩))):(I.qp P F).holds A W (BP f p):=
 ⟨f,_,#[],rfl,eg,fun c0 W' e gv x y r oa x6 ob a6 vJ=>by simpa using h x y r ob c0 W' [_,oa,x6] gv (.cons (I.mono _ e hp) (.cons a6 (.cons vJ .nil)))⟩
theorem b4.W6 {o:Oper} {τ σ:I} {p:Nat} {α:Type} [ag α] {z:α} (i e5:Nat) (ao:look E e5=some σ) (a6:∀ A W v,σ.holds A W v→v= .pointer (some ⟨p,0,none⟩)) (an:L[i]? =some ⟨some p,.var z⟩) (a8:τ.Flat)
 (h:b4 c ((e5,.ptr z) :: E) (L.set i ⟨none,.dead⟩) o τ):b4 c E L o τ:=
 .via a8 (fun a W s=>(s.kill i).tell (σ:=σ) ao (fun v ck=>by rw [a6 _ _ _ ck]; exact s.NS an)) h
theorem b4.Va {o:Oper} {τ:I} {p f:Nat} {α β γ δ:Type} [ag α] [ag β] [ag γ] [ag δ] {z:δ} {F:α→β→Option γ} (i e5:Nat) (ao:look E e5=some (.eq (BP f p))) (an:L[i]? =some ⟨some p,.var z⟩) (eg:bM c.P f)
 (ob:∀ x y r,F x y=some r→bW c.P f [.ptr z,.of x,.of y] (.of r)) (a8:τ.Flat) (h:b4 c ((e5,.qp c.P F) :: E) (L.set i ⟨none,.dead⟩) o τ):b4 c E L o τ:=
 .via a8 (fun a W s=>(s.kill i).tell ao (fun v ck=>by have ZK:v=BP f p:=ck; rw [ZK]; exact Ur eg ob (s.NS an))) h
theorem b4.U9 {o:Oper} {τ:I} {p cap T:Nat} {key:Option Nat} {β γ:Type} [ag β] [ag γ] {b b':β} {xs:List γ} {os os':List (Nat × Value)} (l:aQ β (List γ)) (i j q e5:Nat) (fk:Nat.beq i j=false) (an:L[i]? =some ⟨some p,.ca b os⟩) (lp:L[j]? =some ⟨key,.row T xs cap⟩)
 (hq:os[q]? =some (l.off,ba key xs.length cap)) (hb:l.set b xs=b') (kX:nJ os l.off=os') (lO:look E e5=some (.eq (ba key xs.length cap))) (a8:τ.Flat) (h:b4 c ((e5,.of xs) :: E) ((L.set j ⟨none,.dead⟩).set i ⟨some p,.ca b' os'⟩) o τ):b4 c E L o τ:=
 .via a8 (fun a W s=>s.sU l (fun e=>by rw [e,Nat.beq_refl] at fk; cases fk) an lp q hq hb kX lO) h
theorem b4.WW {o:Oper} {τ:I} {p:Nat} {β:Type} [ag β] {b:β} (i:Nat) (an:L[i]? =some ⟨some p,.ca b []⟩) (a8:τ.Flat) (h:b4 c E (L.set i ⟨some p,.var b⟩) o τ):b4 c E L o τ:=
 .via a8 (fun a W s=>s.xc (cp':= .var b) an (fun o ⟨cs,T,J,ad⟩=>⟨cs,T,J,ad.1⟩) id) h
theorem St {P:Program} {T:TypeId} {e:TypeId} (h:P.underlying T=some (.pointer e)) (p:Addr) (W:World) (n:Nat):(Op.equalIn (n + 1) T (.pointer (some p)) (.pointer none)).run P W= .ok false W:=by
 simp [Op.equalIn,run_underlying h]
theorem Hn {p:Addr} {e:TypeId} (hu:c.P.underlying t=some (.pointer e)) (al:a7 c E L x (.eq (.pointer (some p)))):b4 c E L ⟨d,.binOp .eql t x (.const (.pointer none)) t2,ty,pos,af,g⟩ (.of false):= .pure fun a W s=>by
 have aP:a.eval (.const (.pointer none))= .pointer none:=rfl
 have J:a.eval x= .pointer (some p):=al a W s
 refine⟨.bool false,?_,of_bool.2 rfl⟩
 simp only [execOp,eqGuard,binOp,J,aP,Op.equal,Op.maxDepth]
 simp [St hu p W 9999]
theorem ai.bU {code:Code} (i:Nat) {e:aJ} (h:L[i]? =Option.some e) (k:ai c Q code E (e :: L.eraseIdx i)):ai c Q code E L:=fun a W s=>k a W (s.bU h)
theorem ai.EL {z:Code} {p:Nat} {β γ:Type} [ag β] [ag γ] {b b':β} {os:List (Nat × Value)} {u:Value} (l:aQ β (List γ)) (i q:Nat) (an:L[i]? =Option.some ⟨Option.some p,.ca b os⟩) (hq:os[q]? =Option.some (l.off,u)) (hb:l.set b []=b')
 (k:ai c Q z E (L.set i ⟨Option.some p,.ca b' os⟩)):ai c Q z E L:=fun a W s=>
 k a W (s.again (cp':= .ca b' os) an (fun A W o ⟨cs,T,J,ad⟩=>⟨cs,T,J,hb ▸ GN l ad (List.mem_of_getElem? hq)⟩) id)
def fS (c:c5) (E:List (Nat × I)) (L:List aJ) (o:Oper) (τ:I):Prop:=
 ∀ a W,bw c E L a W→gj c.P o a W fun v W'=>bw c E L a W'∧τ.holds (aL L ++ c.bX) W' v
theorem ah.iN {o:Oper} {rest:List Oper} {d:Nat} {τ:I} (h:fS c E L o τ) (bE:o.guard=none) (hd:o.dst=some d) (aP:Nat.blt d c.n=true)
 (k:ah c ops Q rest ((d,τ) :: E) L):ah c ops Q (o :: rest) E L:=fun a W s=>
 g9 bE (h a W s) fun v W' ⟨f,a6⟩=>by
  rw [hd]
  exact k _ _ (f.put (by simpa using aP) a6)
theorem ah.PF {o:Oper} {rest:List Oper} {d j g:Nat} {b want:Bool} {τ:I} (h:b=want→fS c E L o τ) (bE:o.guard=some (j,want)) (aG:(ops[j]?).bind (·.dst)=some g)
 (ao:look E g=some (.of b)) (hd:o.dst=some d) (aP:Nat.blt d c.n=true)
 (k:ah c ops Q rest ((d,.cond (b=want) τ) :: E) L):ah c ops Q (o :: rest) E L:=fun a W s=>by
 have a5:=C8 aG ao s
 unfold c5.qq wpListIn
 by_cases hb:b=want
 ·rw [if_pos (by simp [Region.wanted,bE,a5,hb])]
  refine((h hb a W s).wpIn fun v W' ⟨f,a6⟩=> ?_)
  rw [hd]
  exact k _ _ (f.put (by simpa using aP) ⟨fun _=>a6,fun h=>absurd hb h⟩)
 ·rw [if_neg (by simp [Region.wanted,bE,a5,hb])]
  rw [hd]
  exact⟨fun _ _=>trivial,k _ _ (s.put (by simpa using aP) ⟨fun h=>absurd h hb,fun _=>rfl⟩)⟩
def oI (L:List aJ):List Nat→List aJ→Prop
 | [],[]=>True
 | i :: is,e :: es=>L[i]? =some e∧oI L is es
 | _,_=>False
theorem KE {L:List aJ} {i j:Nat} (h:i≠j):(L.eraseIdx i)[if j < i then j else j - 1]? =L[j]? :=by
 rw [List.getElem?_eraseIdx]
 by_cases J:j < i
 ·simp [J]
 ·have: ¬ (j - 1 < i):=by omega
  simp only [J,if_false,this]
  congr 1; omega
theorem oI.shift {L:List aJ} {i:Nat} :∀ {is:List Nat} {es:List aJ},oI L is es→i ∉ is→oI (L.eraseIdx i) (is.map fun j=>if j < i then j else j - 1) es
 | [],[],_,_=>trivial
 | j :: is,e :: es,⟨J,ad⟩,aP=>by
   simp only [List.mem_cons,not_or] at aP
   exact⟨by rw [KE aP.1]; exact J,oI.shift ad aP.2⟩
theorem KK {i:Nat} :∀ {is:List Nat},is.Nodup→i ∉ is→ (is.map fun j=>if j < i then j else j - 1).Nodup
 | [],_,_=>by simp
 | j :: is,h,aP=>by
   simp only [List.mem_cons,not_or] at aP
   obtain⟨J,ad⟩:=List.nodup_cons.1 h
   refine List.nodup_cons.2 ⟨fun hm=> ?_,KK ad aP.2⟩
   obtain⟨k,au,he⟩:=List.mem_map.1 hm
   have oL:k≠i:=fun e=>aP.2 (e ▸ au)
   have abg:k≠j:=fun e=>J (e ▸ au)
   have hI:j≠i:=fun e=>aP.1 e.symm
   have EU:(if k < i then k else k - 1)=(if j < i then j else j - 1):=he
   split at EU <;> split at EU <;> omega
theorem oI.perm:∀ {is:List Nat} {es L:List aJ},oI L is es→is.Nodup→ ∃ R,L.Perm (es ++ R)
 | [],[],L,_,_=>⟨L,List.Perm.refl _⟩
 | i :: is,e :: es,L,⟨J,ad⟩,aP=>by
   obtain⟨lS,mN⟩:=List.nodup_cons.1 aP
   obtain⟨R,iS⟩:=(ad.shift lS).perm (KK mN lS)
   exact⟨R,(su J).trans (iS.cons e)⟩
 termination_by is=>is.length
 decreasing_by simp
theorem fS.call {f:FuncId} {xs:List Operand} {ats:Array TypeId} {τs:List I} {Lin:List aJ} {ρ:Unit→I} {Lo:Unit→List aJ} (is:List Nat) (eg:bM c.P f) (h:bO c.P f τs Lin ρ Lo)
 (al:ha c E L xs τs) (aP:decide is.Nodup=true) (hp:oI L is Lin) (ao:Lo ()=Lin):fS c E L ⟨d,.call ⟨.value (.func f),xs.toArray,ats⟩,ty,pos,af,g⟩ (ρ ()):=fun a W s=>by
 obtain⟨R,iS⟩:=hp.perm (of_decide_eq_true aP)
 have b9:=s.perm iS
 have vK:=ur iS
 have E1:∀ k,k∈aL L ++ c.bX↔k∈aL (Lin ++ R) ++ c.bX:=fun k=>by
  simp only [List.mem_append]; rw [vK.mem_iff]
 have ck:gb (aL (Lin ++ R) ++ c.bX) W τs (xs.map a.eval):=(al.MP s).mono (.drop fun k hm=>(E1 k).2 hm)
 have a9:=zm (d:=d) (ty:=ty) (pos:=pos) (af:=af) (g:=g) (ats:=ats) eg h b9 ck
 unfold gj at a9 ⊢
 refine Oper.wp_mono (fun fY W' ⟨v,J,bb,ad,ay⟩=>⟨v,J,?_,?_⟩) a9
 ·cases bb; rw [ao] at ad; exact ad.perm iS.symm
 ·cases bb
  rw [ao] at ay
  exact I.mono _ (.drop fun k hm=>(E1 k).1 hm) ay
theorem oI.set {L:List aJ} {i j:Nat} {x y aF aR:aJ} (fk:i≠j) (ar:L[i]? =some aF) (aG:L[j]? =some aR):∃ R,L.Perm (aF :: aR :: R)∧ ((L.set i x).set j y).Perm (x :: y :: R):=by
 have IS:oI L [i,j] [aF,aR]:=⟨ar,aG,trivial⟩
 have hle:∀ M:List aJ,∀ u v:aJ,M[i]? =some u→M[j]? =some v→M.Perm (u :: v :: (M.eraseIdx i).eraseIdx (if j < i then j else j - 1)):=fun M u v J ad=>
  (su J).trans ((su (by rw [KE fk]; exact ad)).cons u)
 refine⟨_,hle L aF aR ar aG,?_⟩
 have gp:=(List.getElem?_eq_some_iff.1 ar).1
 have BQ:=(List.getElem?_eq_some_iff.1 aG).1
 have J:=hle ((L.set i x).set j y) x y (by rw [List.getElem?_set_ne (Ne.symm fk),List.getElem?_set_self gp]) (by rw [List.getElem?_set_self (by simpa using BQ)])
 have ad:((L.set i x).set j y).eraseIdx i=(L.eraseIdx i).set (if j < i then j else j - 1) y:=by
  apply List.ext_getElem?
  intro k
  simp only [List.getElem?_eraseIdx,List.getElem?_set,List.length_set,List.length_eraseIdx,gp,if_true]
  by_cases au:k < i <;> by_cases hI:j < i <;> simp only [au,hI,if_true,if_false] <;> (repeat' split) <;> first | rfl | omega | skip
 rw [ad,List.eraseIdx_set_eq] at J
 exact J
theorem ah.Vb {rest:List Oper} {bb:Nat} {f:FuncId} {xs:List Operand} {ats:Array TypeId} {τs:List I} {aF aR:aJ} {δ:Type} {ρ:δ→I} {Lo:δ→List aJ} (lo:δ→aJ) (i j:Nat) (eg:bM c.P f) (h:bO c.P f τs [aF,aR] ρ Lo)
 (al:ha c E L xs τs) (fk:Nat.beq i j=false) (ar:L[i]? =some aF) (aG:L[j]? =some aR) (fR:∀ q,Lo q= [lo q]) (aP:Nat.blt bb c.n=true) (k:∀ q,ah c ops Q rest ((bb,ρ q) :: E) ((L.set i (lo q)).set j ⟨none,.dead⟩)):
 ah c ops Q (⟨some bb,.call ⟨.value (.func f),xs.toArray,ats⟩,ty,pos,af,none⟩ :: rest) E L:=fun a W s=>by
 have cH:i≠j:=fun e=>by rw [e,Nat.beq_refl] at fk; cases fk
 obtain⟨R,iS,_⟩:=oI.set (x:=aF) (y:=aR) cH ar aG
 have b9:=s.perm iS
 have vK:=ur iS
 have E1:∀ k,k∈aL L ++ c.bX↔k∈aL ([aF,aR] ++ R) ++ c.bX:=fun k=>by
  simp only [List.mem_append]; rw [vK.mem_iff]; simp [eB]
 have ck:gb (aL ([aF,aR] ++ R) ++ c.bX) W τs (xs.map a.eval):=(al.MP s).mono (.drop fun k hm=>(E1 k).2 hm)
 refine g9 rfl (zm (Lin:= [aF,aR]) eg h b9 ck) fun v W' ⟨q,ad,ay⟩=> ?_
 refine k q _ _ ?_
 obtain⟨Fp,ZL,Pk⟩:=oI.set (x:=lo q) (y:=⟨none,.dead⟩) cH ar aG
 have ZM:(aF :: aR :: R).Perm (aF :: aR :: Fp):=iS.symm.trans ZL
 have OE:R.Perm Fp:=(ZM.cons_inv).cons_inv
 rw [fR] at ad ay
 have aU:bw c E (lo q :: ⟨none,.dead⟩ :: R) a W':= { ad with
  own:=fun e he=>by
   simp only [List.mem_cons] at he
   rcases he with rfl | rfl | he
   ·exact ad.own _ (by simp)
   ·trivial
   ·exact ad.own _ (by simp [he]) }
 have a0:bw c E ((L.set i (lo q)).set j ⟨none,.dead⟩) a W':=aU.perm (((OE.cons _).cons _).trans Pk.symm)
 have bl:(aL ((L.set i (lo q)).set j ⟨none,.dead⟩)).Perm (aL (lo q :: R)):=by
  have:=ur (Pk.trans ((OE.symm.cons _).cons _))
  simpa [aL] using this
 refine a0.put (by simpa using aP) (I.mono _ (.drop fun k hm=> ?_) ay)
 rcases List.mem_append.1 hm with hm | hm
 ·exact List.mem_append.2 (.inl (bl.mem_iff.1 hm))
 ·exact List.mem_append.2 (.inr hm)
theorem IL {L:List aJ} {i:Nat} {x e:aJ} (h:L[i]? =some x):(L.set i e)[i]? =some e:=by
 rw [List.getElem?_set_self (List.getElem?_eq_some_iff.1 h).1]
theorem O3 {L:List aJ} {i j:Nat} {r:Option aJ} {e:aJ} (aP:Nat.beq j i=false) (h:L[i]? =r):(L.set j e)[i]? =r:=by
 rw [List.getElem?_set_ne (fun e=>by rw [e,Nat.beq_refl] at aP; cases aP)]; exact h
theorem TJ {p lo cap:Nat} {α:Type} [ag α] (a5:a7 c E L y (.eq (hi (some p) lo 0 cap (ag.size α)))):Src c E L y 0 ([]:List α):=fun a W s=>by
 have J:a.eval y=_:=a5 a W s
 have ak:=run_loadCells_list (P:=c.P) W (if cap=lo then(⟨p,0,none⟩:Addr) else⟨p,lo * ag.size α,none⟩) [] (fun j v a6=>by simp at a6)
 refine⟨by rw [J]; rfl,[],?_,⟨by simp,fun i ar=>by simp at ar⟩,by simp⟩
 rw [J]
 simp only [hi,Builtin.firstCells,List.length_nil,Nat.zero_mul]
 exact ak
theorem ah.NT {rest:List Oper} {i e p bb m N cap T:Nat} {α:Type} [ag α] {xs vs r:List α} (hu:c.P.underlying t=some (.slice e)) (ew:bt c.P e α)
 (al:a7 c E L x (.eq (ba (some p) m cap))) (a5:Src c E L y N vs) (jA:vs.length=N) (an:L[i]? =some ⟨some p,.row T xs cap⟩) (hm:m + N≤xs.length) (aS:xs.take m ++ vs ++ xs.drop (m + N)=r) (aP:Nat.blt bb c.n=true)
 (k:ah c ops Q rest ((bb,.eq (ba (some p) (m + N) cap)) :: E) (L.set i ⟨some p,.row T r cap⟩)):
 ah c ops Q (⟨some bb,.call ⟨.builtin .append,#[x,y],#[t,t]⟩,ty,pos,af,none⟩ :: rest) E L:=fun a W s=>by
 subst jA
 subst aS
 have J:a.eval x=_:=al a W s
 obtain⟨ao,cells,ak,n4,xR⟩:=a5 a W s
 obtain⟨o,a9,ck⟩:=s.own _ (List.mem_of_getElem? an)
 have ZN:=ck
 obtain⟨qw,rfl,av,bm,bS,dq⟩:=ck
 obtain⟨cs,eY,ED,oG⟩:=GH (lo:=m) hm ZN n4
 have tm:cs=qw:=by injection eY with h _; exact h.symm
 subst tm
 obtain⟨fN,eb,dW⟩:=ew.info
 have fK:=run_storeCells_at (P:=c.P) p (m * ag.size α) T cells 0 cs W a9 ED xR
 simp only [Nat.add_zero] at fK
 have Xf:m + vs.length≤cap:=by omega
 have hB:(execOp a.eval ⟨some bb,.call ⟨.builtin .append,#[x,y],#[t,t]⟩,ty,pos,af,none⟩).run c.P W= .ok (.value (ba (some p) (m + vs.length) cap)) (W.setRow p (cs.toList.take (m * ag.size α) ++ cells ++ cs.toList.drop (m * ag.size α + cells.length)).toArray):=by
  simp [execOp,resolve,invoke,builtin,Builtin.append_,J,ba,run_underlying hu,ao,Go.sizeOf,typeInfo,eb,dW,Xf,ak,iC,fK]
 refine g9 rfl (R:=fun v gP=>v=ba (some p) (m + vs.length) cap∧gP=W.setRow p (cs.toList.take (m * ag.size α) ++ cells ++ cs.toList.drop (m * ag.size α + cells.length)).toArray) (.kj hB ⟨rfl,rfl⟩) fun v gP ⟨a6,hw⟩=> ?_
 subst a6
 subst hw
 exact k _ _ ((s.store an a9 oG).put (by simpa using aP) rfl)
theorem Ts {i T cap:Nat} {key:Option Nat} {α:Type} [ag α] {xs:List α} {e:TypeId} {lo ar JW:Operand} {m n k:Nat} (hu:c.P.underlying t=some (.slice e)) (ew:bt c.P e α) (al:a7 c E L x (.eq (ba key xs.length cap)))
 (an:L[i]? =some ⟨key,.row T xs cap⟩) (fR:a7 c E L lo (.of (m:Int))) (dm:a7 c E L ar (.of (n:Int))) (ZO:a7 c E L JW (.of (k:Int))) (h:m≤n∧n≤k∧k≤xs.length):
 b4 c E L ⟨d,.slice t x (some lo) (some ar) (some JW),ty,pos,af,g⟩ .any:= .pure fun a W s=>by
 obtain⟨ad,ay,aU⟩:=h
 obtain⟨fN,eb,dW⟩:=ew.info
 have J:a.eval x=_:=al a W s
 have aF:=of_int.1 (fR a W s)
 have aR:=of_int.1 (dm a W s)
 have dh:=of_int.1 (ZO a W s)
 have s3:∃ aaF sd,ba key xs.length cap= .slice aaF sd cap∨ (ba key xs.length cap= .slice none 0 0∧k=0):=by
  cases key with
  | some p=>exact⟨_,_,.inl rfl⟩
  | none=>
    have a9:=s.own _ (List.mem_of_getElem? an)
    have g4:xs= []:=a9.1
    subst g4
    exact⟨none,0,.inr ⟨rfl,by simpa using aU⟩⟩
 have ZP:xs.length≤cap∨key=none:=by
  cases key with
  | none=>exact .inr rfl
  | some p=>
    obtain⟨o,a9,cs,rfl,av,bm,_⟩:=s.own _ (List.mem_of_getElem? an)
    exact .inl bm
 cases key with
 | none=>
   have a9:=s.own _ (List.mem_of_getElem? an)
   have g4:xs= []:=a9.1
   subst g4
   have ZQ:k=0:=by simpa using aU
   subst ZQ
   have qt:n=0:=by omega
   subst qt
   have gO:m=0:=by omega
   subst gO
   have hb:∀ (code:BoundsCode),(Instr.sliceBound (.int .i64 0) 0 code).run c.P W= .ok 0 W:=fun code=>om (n:=0) (m:=0) (Nat.le_refl _) rfl
   have ZR:a.eval lo= .int .i64 0:=aF
   have ZS:a.eval ar= .int .i64 0:=aR
   have ZT:a.eval JW= .int .i64 0:=dh
   refine⟨.slice none 0 0,?_,trivial⟩
   simp [execOp,Instr.sliceAt,Instr.slice,Instr.sliceBounds,J,ba,run_underlying hu,Go.sizeOf,typeInfo,eb,ZR,ZS,ZT,hb]
 | some p=>
   have YW:k≤cap:=by
    rcases ZP with h | h
    ·omega
    ·cases h
   refine⟨.slice (some (if k=m then⟨p,0,none⟩ else⟨p,m * ag.size α,none⟩)) (n - m) (k - m),?_,trivial⟩
   have hb:∀ (a b:Nat) (code:BoundsCode),a≤b→ (Instr.sliceBound (.int .i64 (a:Int)) b code).run c.P W= .ok a W:=fun a b code h=>om h rfl
   simp [execOp,Instr.sliceAt,Instr.slice,Instr.sliceBounds,J,ba,run_underlying hu,Go.sizeOf,typeInfo,eb,dW,aF,aR,dh,hb k cap _ YW,hb n k _ ay,hb m n _ ad,iC]
   split <;> rfl
theorem UU {p n cap e:Nat} (hu:c.P.underlying t=some (.slice e)) (al:a7 c E L x (.eq (ba (some p) n cap))):b4 c E L ⟨d,.call ⟨.builtin .len,#[x],#[t]⟩,ty,pos,af,g⟩ (.of (n:Int)):= .pure fun a W s=>by
 have J:a.eval x=_:=al a W s
 refine⟨.int .i64 n,?_,of_int.2 rfl⟩
 simp [execOp,resolve,invoke,builtin,Builtin.len_,J,ba,run_underlying hu,goInt]
theorem ah.UT {rest:List Oper} {i e p bb m n cap T:Nat} {α:Type} [ag α] {xs:List α} (hu:c.P.underlying t=some (.slice e)) (ew:bt c.P e α)
 (al:a7 c E L x (.eq (hi (some p) 0 (m - 0) cap (ag.size α)))) (a5:a7 c E L y (.eq (hi (some p) n (xs.length - n) cap (ag.size α)))) (an:L[i]? =some ⟨some p,.row T xs cap⟩) (rP:m < n) (aP:n≤xs.length) (hd:Nat.blt bb c.n=true)
 (k:ah c ops Q rest ((bb,.eq (ba (some p) (m + (xs.length - n)) cap)) :: E) (L.set i ⟨some p,.row T (xs.take m ++ xs.drop n ++ xs.drop (m + (xs.length - n))) cap⟩)):
 ah c ops Q (⟨some bb,.call ⟨.builtin .append,#[x,y],#[t,t]⟩,ty,pos,af,none⟩ :: rest) E L:=by
 have kz:a7 c E L x (.eq (ba (some p) m cap)):=by
  rw [zn,Nat.sub_zero] at al; exact al
 rcases Nat.lt_or_ge n xs.length with qv | qv
 ·have hs:=Dt (k:=xs.length - n) a5 an (by omega) (by omega)
  rw [show(xs.drop n).take (xs.length - n)=xs.drop n by rw [List.take_of_length_le (by simp)]] at hs
  exact ah.NT hu ew kz hs (by simp) an (by omega) rfl hd k
 ·have bG:xs.length - n=0:=by omega
  rw [bG] at a5 k
  have hs:=TJ (α:=α) a5
  rw [show([]:List α)=xs.drop n by rw [List.drop_of_length_le qv]] at hs
  exact ah.NT hu ew kz hs (by simp; omega) an (by omega) rfl hd k
theorem ae.again {z:Exit} {key:Option Nat} {cp:dr} (cp':dr) (i:Nat) (an:L[i]? =some ⟨key,cp⟩) (h:∀ A W o,cp.holds A W o→cp'.holds A W o) (aP:cp.l4→cp'.l4) (k:ae c Q z E (L.set i ⟨key,cp'⟩)):ae c Q z E L:=fun a W s=>
 k a W (s.again an h aP)
end
def AY {α:Type} (xs:List α) (i j:Int):Option (List α):=if 0≤i∧i≤j∧j≤xs.length then some (xs.take i.toNat ++ xs.drop j.toNat) else none
theorem SK {α:Type} {xs r:List α} {i j:Int} (h:AY xs i j=some r):∃ m n:Nat,i=m∧j=n∧m≤n∧n≤xs.length∧r=xs.take m ++ xs.drop n:=by
 unfold AY at h
 split at h
 ·rename_i ak
  refine⟨i.toNat,j.toNat,by omega,by omega,by omega,by omega,?_⟩
  cases h; rfl
 ·cases h
abbrev aq (α:Type):=(α→Prop)→Prop
def aq.of {α:Type} (o:Option α):aq α:=fun Q=> ∃ r,o=some r∧Q r
def aq.bind {α β:Type} (m:aq α) (k:α→aq β):aq β:=fun Q=>m fun r=>k r Q
def aq.ret {α:Type} (x:α):aq α:=fun Q=>Q x
def my {σ ε:Type} :Nat→ (σ→aq (σ ⊕ ε))→σ→aq ε
 | 0,_,_=>fun _=>False
 | n + 1,b,s=>fun Q=>b s fun r=>match r with
   | .inl b9=>my n b b9 Q
   | .inr e=>Q e
abbrev aN (bT:Type):=List (Nat × bT)
abbrev Ref:=Option Nat
instance aaT:ag Ref:= .scalar (fun x=>Value.pointer (x.map fun p=>⟨p,0,none⟩)) fun _=>rfl
theorem sN {A W v} {x:Ref} :(I.of x).holds A W v↔v= .pointer (x.map fun p=>⟨p,0,none⟩):=
 ⟨fun h=>nG h.1 h.2,fun h=>by subst h; exact⟨rfl,rfl⟩⟩
instance:bc Ref:=⟨[.pointer none],fun _ _=>rfl⟩
def aq.mk {bT:Type} (hp:aN bT) (k:bT):aq (Nat × aN bT):=fun Q=> ∀ a:Nat × aN bT,a.1 ∉ hp.map (·.1)∧a.2=(a.1,k) :: hp→Q a
theorem aq.p4 {bT α:Type} {hp:aN bT} {c:bT} {k:Nat × aN bT→aq α} {R:α→Prop} (h:aq.bind (aq.mk hp c) k R) (a:Nat × aN bT) (bd:a.1 ∉ hp.map (·.1)∧a.2=(a.1,c) :: hp):k a R:=h a bd
class eG (bT:Type) where
 g3:Nat→bT→List aJ
 root:∀ p k,∃ e∈g3 p k,e.key=some p
def aV {bT:Type} [eG bT]:aN bT→List aJ
 | []=> []
 | (p,k) :: r=>eG.g3 p k ++ aV r
def pat {bT:Type} :aN bT→Nat→Option bT
 | [],_=>none
 | (q,k) :: r,p=>if q=p then some k else pat r p
def cT {bT:Type} :aN bT→Nat→bT→aN bT
 | [],_,_=> []
 | (q,k) :: r,p,k'=>if q=p then(q,k') :: r else(q,k) :: cT r p k'
def ec {bT:Type} (hp:aN bT):List Nat:=hp.map (·.1)
theorem tZ {bT:Type} [eG bT]:∀ {hp:aN bT} {p:Nat} {k:bT},pat hp p=some k→ ∃ R,(aV hp).Perm (eG.g3 p k ++ R)∧ ∀ k',(aV (cT hp p k')).Perm (eG.g3 p k' ++ R)
 | [],_,_,h=>by simp [pat] at h
 | (q,sh) :: r,p,k,h=>by
   simp only [pat] at h
   split at h
   ·rename_i e
    subst e
    simp only [Option.some.injEq] at h
    subst h
    exact⟨aV r,.refl _,fun k'=>by simp only [cT,if_pos]; exact .refl _⟩
   ·rename_i e
    obtain⟨R,J,ad⟩:=tZ h
    refine⟨eG.g3 q sh ++ R,?_,fun k'=> ?_⟩
    ·exact(J.append_left (eG.g3 q sh)).trans (by rw [← List.append_assoc,← List.append_assoc]; exact List.perm_append_comm.append_right R)
    ·simp only [cT,if_neg e]
     exact((ad k').append_left (eG.g3 q sh)).trans (by rw [← List.append_assoc,← List.append_assoc]; exact List.perm_append_comm.append_right R)
theorem MS {bT:Type} [eG bT] {hp:aN bT} {p:Nat} (h:p∈ec hp):p∈aL (aV hp):=by
 induction hp with
 | nil=>simp [ec] at h
 | cons x r bH=>
   obtain⟨q,k⟩:=x
   simp only [ec,List.map_cons,List.mem_cons] at h
   simp only [aV,eB,List.mem_append]
   rcases h with h | h
   ·subst h
    obtain⟨e,he,au⟩:=eG.root p k
    exact .inl (kJ.2 ⟨e,he,au⟩)
   ·exact .inr (bH h)
theorem ie {bT:Type} {hp:aN bT} {p:Nat} {k:bT} (h:pat hp p=some k):p∈ec hp:=by
 induction hp with
 | nil=>simp [pat] at h
 | cons x r bH=>
   simp only [pat] at h
   split at h
   ·rename_i e; simp [ec,e]
   ·simp only [ec,List.map_cons,List.mem_cons]; exact .inr (bH h)
theorem p7 {bT:Type} {hp:aN bT} {p:Nat} {k:bT} :ec (cT hp p k)=ec hp:=by
 induction hp with
 | nil=>rfl
 | cons x r bH=>simp only [cT]; split <;> simp_all [ec]
theorem zL {bT:Type} {hp:aN bT} {p q:Nat} {k:bT} :pat (cT hp p k) q=if p=q then(pat hp p).map (fun _=>k) else pat hp q:=by
 induction hp with
 | nil=>simp [cT,pat]
 | cons x r bH=>
   simp only [cT]
   by_cases e:x.1=p
   ·rw [if_pos e]
    by_cases h:p=q
    ·simp [pat,e,h]
    ·have: ¬ x.1=q:=fun cX=>h (e ▸ cX)
     simp [pat,e,h]
   ·rw [if_neg e]
    by_cases h:p=q
    ·subst h
     rw [if_pos rfl] at bH ⊢
     simp [pat,e,bH]
    ·rw [if_neg h] at bH ⊢
     simp [pat,bH]
section
variable {c:c5} {E:List (Nat × I)} {L:List aJ} {ops:Array Oper} {Q:Exit→Act→World→Prop}
variable {d:Option Tmp} {ty:TypeId} {pos:String} {af:Array Edge} {g:Option (Nat × Bool)} {x y:Operand} {t t2:TypeId}
theorem TK {L L':List aJ} (p:L.Perm L') {A:List Nat} (k:Nat):k∈aL L ++ A↔k∈aL L' ++ A:=by
 simp only [List.mem_append]; rw [(ur p).mem_iff]
theorem mq {L L':List aJ} (p:L.Perm L') {A:List Nat} {W:World} :Ext (aL L ++ A) W (aL L' ++ A) W:= .drop fun k hm=>(TK p k).2 hm
theorem a7.perm {L':List aJ} {x:Operand} {τ:I} (p:L.Perm L') (h:a7 c E L x τ):a7 c E L' x τ:=fun a W s=>
 τ.mono (mq p) (h a W (s.perm p.symm))
theorem b4.perm {L':List aJ} {o:Oper} {τ:I} (p:L.Perm L') (h:b4 c E L o τ):b4 c E L' o τ:=fun a W s=>by
 have:=h a W (s.perm p.symm)
 unfold gj at this ⊢
 exact Oper.wp_mono (fun fY W' ⟨v,J,ad,ay⟩=>⟨v,J,ad,τ.mono (mq p) ay⟩) this
theorem ah.perm {l:List Oper} {L':List aJ} (p:L.Perm L') (h:ah c ops Q l E L):ah c ops Q l E L':=fun a W s=>h a W (s.perm p.symm)
theorem dZ {x:Operand} {r:Ref} {p:Nat} (al:a7 c E L x (.of r)) (h:r=some p):a7 c E L x (.eq (.pointer (some ⟨p,0,none⟩))):=fun a W s=>by
 subst h
 exact sN.1 (al a W s)
theorem oj:a7 c E L (.const (.pointer none)) (.of (none:Ref)):=fun a W s=>sN.2 rfl
variable {bT:Type} [eG bT] {hp:aN bT} {loc:List aJ}
theorem ep {p n:Nat} {k:bT} {e:aJ} (an:L.drop n=aV hp) (h:pat hp p=some k) (au:eG.g3 p k= [e]):e∈L:=by
 obtain⟨R,J,_⟩:=tZ h
 rw [au] at J
 have:e∈L.drop n:=by rw [an]; exact J.mem_iff.2 (by simp)
 exact List.mem_of_mem_drop this
theorem jJ {L':List aJ} {e:aJ} (an:∀ (i:Nat) (e:aJ),L[i]? =some e→L'[i]? =some e) (h:e∈L):e∈L':=by
 obtain⟨i,ar⟩:=List.mem_iff_getElem?.1 h
 exact List.mem_of_getElem? (an i e ar)
theorem fi {x:Operand} {t:TypeId} {p o:Nat} {β γ:Type} [ag β] [ag γ] {b:β} (l:aQ β γ) {r:γ} (ev:bt c.P t γ) (al:a7 c E L x (.eq (.pointer (some ⟨p,o,none⟩))))
 (hm:(⟨some p,.var b⟩:aJ)∈L) (a9:o=l.off) (aS:l.get b=r):b4 c E L ⟨d,.load t x,ty,pos,af,g⟩ (.of r):=by
 obtain⟨i,ar⟩:=List.mem_iff_getElem?.1 hm
 exact e9 (i:=i) l ev al ar a9 aS
theorem ah.Us {x y:Operand} {t:TypeId} {rest:List Oper} {p o:Nat} {k k':bT} {β γ:Type} [ag β] [ag γ] {b b':β} {v:γ} (l:aQ β γ) (ev:bt c.P t γ) (al:a7 c E (loc ++ aV hp) x (.eq (.pointer (some ⟨p,o,none⟩))))
 (a5:a7 c E (loc ++ aV hp) y (.of v)) (hp':pat hp p=some k) (au:eG.g3 p k= [⟨some p,.var b⟩]) (iX:eG.g3 p k'= [⟨some p,.var b'⟩]) (a9:o=l.off) (hb:l.set b v=b')
 (ml:ah c ops Q rest E (loc ++ aV (cT hp p k'))):ah c ops Q (⟨none,.store t x y,ty,pos,af,none⟩ :: rest) E (loc ++ aV hp):=by
 obtain⟨R,J,ad⟩:=tZ hp'
 have ad:=ad k'
 rw [au] at J
 rw [iX] at ad
 have dK:∀ {z:β} {M:List aJ},M.Perm ([⟨some p,.var z⟩] ++ R)→ (loc ++ M).Perm (⟨some p,.var z⟩ :: (loc ++ R)):=fun h=>(h.append_left loc).trans (by simp only [List.singleton_append]; exact List.perm_middle)
 exact ah.perm (dK J).symm (ah.store (i:=0) l ev (al.perm (dK J)) (a5.perm (dK J)) rfl a9 hb (ah.perm (dK ad) ml))
theorem ah.mw {x y:Operand} {t:TypeId} {rest:List Oper} {p o:Nat} {k k':bT} {cJ:aN bT} {β γ:Type} [ag β] [ag γ] {b b':β} {v:γ} (n:Nat) (an:L.drop n=aV hp) (l:aQ β γ) (ev:bt c.P t γ) (al:a7 c E L x (.eq (.pointer (some ⟨p,o,none⟩)))) (a5:a7 c E L y (.of v)) (hp':pat hp p=some k) (au:eG.g3 p k= [⟨some p,.var b⟩]) (iX:eG.g3 p k'= [⟨some p,.var b'⟩]) (a9:o=l.off) (hb:l.set b v=b') (df:cT hp p k'=cJ) (ml:ah c ops Q rest E (L.take n ++ aV cJ)):ah c ops Q (⟨none,.store t x y,ty,pos,af,none⟩ :: rest) E L:=by
 subst df
 have e:L=L.take n ++ aV hp:=by rw [← an,List.take_append_drop]
 clear an
 generalize L.take n=loc at *
 subst e
 exact ah.Us l ev al a5 hp' au iX a9 hb ml
theorem bw.fresh {a:Act} {W:World} (s:bw c E (loc ++ aV hp) a W):W.heap.size ∉ ec hp:=fun h=>by
 have:=s.lt _ (by rw [eB]; exact List.mem_append.2 (.inr (MS h)))
 omega
theorem ah.Xg {t:TypeId} {x:Operand} {rest:List Oper} {bb:Nat} {α:Type} [ag α] {z:α} (mk:bT) (au:∀ p,eG.g3 p mk= [⟨some p,.var z⟩]) (al:a7 c E (loc ++ aV hp) x (.of z)) (aP:Nat.blt bb c.n=true)
 (k:∀ p,p ∉ ec hp→ah c ops Q rest ((bb,.of (some p:Ref)) :: E) (loc ++ aV ((p,mk) :: hp))):ah c ops Q (⟨some bb,.box t x,ty,pos,af,none⟩ :: rest) E (loc ++ aV hp):=fun a W s=>by
 refine g9 rfl (R:=fun v W'=>v= .pointer (some ⟨W.heap.size,0,none⟩)∧W'=W.alloc (.cells (a.eval x).cells t)) (.kj ?_ ⟨rfl,rfl⟩) fun v W' ⟨a6,hw⟩=> ?_
 ·simp [execOp,Instr.box,newVar,newRow]
 ·subst a6
  subst hw
  refine k _ s.fresh _ _ (bw.put ?_ (by simpa using aP) (sN.2 rfl))
  refine(s.alloc (cp:= .var z) ⟨_,t,rfl,(al a W s).2⟩).perm ?_
  simp only [aV,au,List.singleton_append]
  exact List.perm_middle.symm
theorem ah.xq {t:TypeId} {x:Operand} {rest:List Oper} {bb:Nat} {α:Type} [ag α] {z:α} (n:Nat) (an:L.drop n=aV hp) (mk:bT) (au:∀ p,eG.g3 p mk= [⟨some p,.var z⟩]) (al:a7 c E L x (.of z)) (aP:Nat.blt bb c.n=true) (k:∀ a:Nat × aN bT,a.1 ∉ hp.map (·.1)∧a.2=(a.1,mk) :: hp→ah c ops Q rest ((bb,.of (some a.1:Ref)) :: E) (L.take n ++ aV a.2)):ah c ops Q (⟨some bb,.box t x,ty,pos,af,none⟩ :: rest) E L:=by
 have e:L=L.take n ++ aV hp:=by rw [← an,List.take_append_drop]
 clear an
 generalize L.take n=loc at *
 subst e
 exact ah.Xg mk au al aP fun p h=>k (p,(p,mk) :: hp) ⟨h,rfl⟩
theorem m0 {A B C:List aJ} :((A ++ B) ++ C).Perm ((A ++ C) ++ B):=by
 rw [List.append_assoc,List.append_assoc]; exact List.perm_append_comm.append_left A
theorem ah.jF {rest:List Oper} {bb:Nat} {f:FuncId} {xs:List Operand} {ats:Array TypeId} {τs:List I} {Lin Lr:List aJ} {δ:Type} {ρ:δ→I} {Lo:δ→List aJ} {hq:δ→aN bT} (eg:bM c.P f) (h:bO c.P f τs (Lin ++ aV hp) ρ (fun d=>Lo d ++ aV (hq d)))
 (al:ha c E ((Lin ++ Lr) ++ aV hp) xs τs) (aP:Nat.blt bb c.n=true) (k:∀ q,ah c ops Q rest ((bb,ρ q) :: E) ((Lo q ++ Lr) ++ aV (hq q))):
 ah c ops Q (⟨some bb,.call ⟨.value (.func f),xs.toArray,ats⟩,ty,pos,af,none⟩ :: rest) E ((Lin ++ Lr) ++ aV hp):=fun a W s=>
 g9 rfl (zm (Lr:=Lr) eg h (s.perm m0) ((al.holds a W s).mono (mq m0))) fun v W' ⟨q,b9,a6⟩=>
  k q _ _ ((b9.perm m0).put (by simpa using aP) ((ρ q).mono (mq m0) a6))
theorem ah.h1 {rest:List Oper} {bb:Nat} {f:FuncId} {xs:List Operand} {ats:Array TypeId} {τs:List I} {Lin Lr:List aJ} {δ:Type} {ρ:δ→I} {Lo:δ→List aJ} {hq:δ→aN bT} (n m:Nat) (an:L.drop n=aV hp) (eg:bM c.P f) (h:bO c.P f τs (Lin ++ aV hp) ρ (fun d=>Lo d ++ aV (hq d)))
 (J:(L.take n).take m=Lin) (ad:(L.take n).drop m=Lr) (al:ha c E L xs τs) (aP:Nat.blt bb c.n=true) (k:∀ q,ah c ops Q rest ((bb,ρ q) :: E) ((Lo q ++ Lr) ++ aV (hq q))):
 ah c ops Q (⟨some bb,.call ⟨.value (.func f),xs.toArray,ats⟩,ty,pos,af,none⟩ :: rest) E L:=by
 have e:L=(Lin ++ Lr) ++ aV hp:=by rw [← J,← ad,List.take_append_drop,← an,List.take_append_drop]
 clear an J ad
 subst e
 exact ah.jF eg h al aP k
theorem fS.Vj {f:FuncId} {xs:List Operand} {ats:Array TypeId} {τs:List I} {ρ:I} (eg:bM c.P f) (h:bO c.P f τs (aV hp) (fun _:Unit=>ρ) (fun _=>aV hp))
 (al:ha c E (loc ++ aV hp) xs τs):fS c E (loc ++ aV hp) ⟨d,.call ⟨.value (.func f),xs.toArray,ats⟩,ty,pos,af,g⟩ ρ:=fun a W s=>by
 have dK:(loc ++ aV hp).Perm (aV hp ++ loc):=List.perm_append_comm
 have a9:=zm (d:=d) (ty:=ty) (pos:=pos) (af:=af) (g:=g) (ats:=ats) (Lr:=loc) eg h (s.perm dK) ((al.holds a W s).mono (mq dK))
 unfold gj at a9 ⊢
 exact Oper.wp_mono (fun fY W' ⟨v,J,_,ad,ay⟩=>⟨v,J,ad.perm dK.symm,ρ.mono (mq dK.symm) ay⟩) a9
theorem fS.jF {f:FuncId} {xs:List Operand} {ats:Array TypeId} {τs:List I} {ρ:I} (n:Nat) (an:L.drop n=aV hp) (eg:bM c.P f) (h:bO c.P f τs (aV hp) (fun _:Unit=>ρ) (fun _=>aV hp)) (al:ha c E L xs τs):fS c E L ⟨d,.call ⟨.value (.func f),xs.toArray,ats⟩,ty,pos,af,g⟩ ρ:=by
 have e:L=L.take n ++ aV hp:=by rw [← an,List.take_append_drop]
 clear an
 generalize L.take n=loc at *
 subst e
 exact fS.Vj eg h al
theorem F8 {P:Program} {e:TypeId} (W:World) (n:Nat) {t:TypeId} (a:Option Addr) (h:P.underlying t=some (.pointer e)):(Op.equalIn (n + 1) t (.pointer a) (.pointer none)).run P W= .ok a.isNone W:=by
 cases a <;> simp [Op.equalIn,run_underlying h]
theorem mo {r:Ref} {e:TypeId} (hu:c.P.underlying t=some (.pointer e)) (al:a7 c E L x (.of r)):b4 c E L ⟨d,.binOp .eql t x (.const (.pointer none)) t2,ty,pos,af,g⟩ (.of r.isNone):= .pure fun a W s=>by
 have J:=sN.1 (al a W s)
 refine⟨.bool r.isNone,?_,of_bool.2 rfl⟩
 have aP:a.eval (.const (.pointer none))= .pointer none:=rfl
 simp only [execOp,eqGuard,binOp,J,aP,Op.equal,Op.maxDepth]
 have:=F8 (P:=c.P) W 9999 (r.map fun p=>⟨p,0,none⟩) hu
 simp only [Option.isNone_map] at this
 simp [this]
theorem Gq {r:Ref} {e:TypeId} (hu:c.P.underlying t=some (.pointer e)) (al:a7 c E L x (.of r)):b4 c E L ⟨d,.binOp .neq t x (.const (.pointer none)) t2,ty,pos,af,g⟩ (.of r.isSome):= .pure fun a W s=>by
 have J:=sN.1 (al a W s)
 refine⟨.bool r.isSome,?_,of_bool.2 rfl⟩
 have aP:a.eval (.const (.pointer none))= .pointer none:=rfl
 simp only [execOp,eqGuard,binOp,J,aP,Op.equal,Op.maxDepth]
 have:=F8 (P:=c.P) W 9999 (r.map fun p=>⟨p,0,none⟩) hu
 simp only [Option.isNone_map] at this
 simp [this]
end
theorem Su {P:Program} {t e el:TypeId} {n:Nat} (h:P.underlying t=some (.array n e)) (ew:bt P e Ref) (hu:P.underlying e=some (.pointer el)) {A:List Nat} {W:World} {u v:Value} {x y:Vector Ref n} (al:(I.of x).holds A W u) (a5:(I.of y).holds A W v)
 (aP:∀ i,i < n→b7 y i=none) (d:Nat) (hd:2≤d):(Op.equalIn d t u v).run P W= .ok (decide (x=y)) W:=by
 obtain⟨d,rfl⟩:∃ e,d=e + 1:=⟨d - 1,by omega⟩
 obtain⟨J,ad⟩:=al
 obtain⟨ay,aU⟩:=a5
 obtain⟨xs,rfl⟩:∃ cs,u= .agg cs:=by simpa [shaped,ag.agg] using J
 obtain⟨ys,rfl⟩:∃ cs,v= .agg cs:=by simpa [shaped,ag.agg] using ay
 simp only [Value.cells] at ad aU
 have rV:xs.toList.length=n * ag.size Ref:=ag.len ad
 have Bu:ys.toList.length=n * ag.size Ref:=ag.len aU
 have rr:∀ i∈List.range' 0 n,((do
  let a ← part e xs (i * ag.size Ref)
  let b ← part e ys (i * ag.size Ref)
  Op.equalIn d e a b):Sem Bool).run P W= .ok (decide (b7 x i=b7 y i)) W:=by
  intro i ar
  have gp:i < n:=by simpa using ar
  have ef:i * ag.size Ref + ag.size Ref≤n * ag.size Ref:=(aQ.idx (α:=Ref) n i gp).fW
  obtain⟨a,bd,rW⟩:=qW (A:=A) (P:=P) (W:=W) (cs:=xs) (off:=i * ag.size Ref) ew (by simp at rV; omega) ((aQ.idx (α:=Ref) n i gp).hX ad)
  obtain⟨b,hb,Bv⟩:=qW (A:=A) (P:=P) (W:=W) (cs:=ys) (off:=i * ag.size Ref) ew (by simp at Bu; omega) ((aQ.idx (α:=Ref) n i gp).hX aU)
  simp only [Sem.run_bind,bd,hb,Result.andThen_ok]
  obtain⟨d,rfl⟩:∃ e,d=e + 1:=⟨d - 1,by omega⟩
  have aF:=sN.1 rW
  have aR:=sN.1 Bv
  subst aF; subst aR
  have ZU:(aQ.idx (α:=Ref) n i gp).get y=none:=aP i gp
  rw [ZU,Option.map_none,F8 W d _ hu]
  have dh:b7 y i=none:=aP i gp
  rw [dh]
  show Result.ok ((b7 x i).map _).isNone W=_
  congr 1
  cases b7 x i <;> rfl
 have a8:=F7 (P:=P) (W:=W) _ _ _ rr
 have j3:(List.range' 0 n).all (fun i=>decide (b7 x i=b7 y i))=decide (x=y):=by
  rw [Bool.eq_iff_iff,List.all_eq_true,decide_eq_true_eq]
  constructor
  ·intro h
   apply Vector.ext
   intro i ar
   have:=h i (by simpa using ar)
   simpa [b7,ar] using this
  ·rintro rfl i _
   simp
 rw [j3] at a8
 simp only [Op.equalIn,Sem.run_bind,run_underlying h,Result.andThen_ok,ew.sizeOf,Std.Legacy.Range.forIn_eq_forIn_range']
 simp only [Std.Legacy.Range.size,Nat.sub_zero,Nat.add_one_sub_one,Nat.div_one] at a8 ⊢
 simp only [bind_assoc] at a8
 rw [a8]
 by_cases Bw:x=y
 ·simp [Bw]
 ·simp [Bw]
theorem Tv {c:c5} {E:List (Nat × I)} {L:List aJ} {d:Option Tmp} {ty:TypeId} {pos:String} {af:Array Edge} {g:Option (Nat × Bool)} {x y:Operand} {t t2 e el:TypeId} {n:Nat} {a b:Vector Ref n} (h:c.P.underlying t=some (.array n e)) (ew:bt c.P e Ref) (hu:c.P.underlying e=some (.pointer el)) (bE:c.P.eqGuardType c.P.depth t=false)
 (al:a7 c E L x (.of a)) (a5:a7 c E L y (.of b)) (aP:∀ i,i < n→b7 b i=none):b4 c E L ⟨d,.binOp .eql t x y t2,ty,pos,af,g⟩ (.of (decide (a=b))):= .pure fun A W s=>by
 have J:=al A W s
 have ad:=a5 A W s
 obtain⟨xs,g4⟩:∃ cs,A.eval x= .agg cs:=by simpa [shaped,ag.agg] using J.1
 obtain⟨ys,tn⟩:∃ cs,A.eval y= .agg cs:=by simpa [shaped,ag.agg] using ad.1
 have ay:=Su h ew hu J ad aP 10000 (by decide)
 rw [g4,tn] at ay
 refine⟨.bool (decide (a=b)),?_,of_bool.2 rfl⟩
 simp only [execOp,g4,tn,Sem.run_bind,run_eqGuard_agg W .eql t x y xs ys bE,Result.andThen_ok,run_eql_struct,ay,Sem.run_pure]
section
variable {c:c5} {E:List (Nat × I)} {L:List aJ} {ops:Array Oper} {Q:Exit→Act→World→Prop}
theorem aq.cf {α β:Type} {o:Option α} {k:α→aq β} {R:β→Prop} (h:aq.bind (aq.of o) k R):∃ r,o=some r∧k r R:=h
theorem Sv {F:Fence} {n:Nat} {P:Program} {body:Code} {σ ε:Type} (b:σ→aq (σ ⊕ ε)) (fl:σ→Act→World→Prop) (X:ε→Exit→Act→World→Prop)
 (qb:∀ s R,b s R→ ∀ a W,fl s a W→body.wpIn F n P (fun x a W=>(∃ b9,R (.inl b9)∧x= .normal∧fl b9 a W)∨ ∃ e,R (.inr e)∧x≠ .normal∧X e x a W) a W)
 (Q:Exit→Act→World→Prop) (R:ε→Prop) (nO:∀ e x a W,R e→X e x a W→Q x a W) {cd:σ} {N:Nat} (ao:my N b cd R) {h7:Act} {iP:World} (bG:fl cd h7 iP):
 (Code.loop body).wpIn F n P Q h7 iP:=by
 intro dw k cs xN hb aS
 have key:∀ N s,my N b s R→ ∀ a W,fl s a W→
  ∃ x fY W',Q x fY W'∧ArrivesIn (Machine.fenced P F) P (lone (dw.atR a (.code body :: .inLoop body :: k)) cs W) dw k cs x fY W':=by
  intro N
  induction N with
  | zero=>intro s h; exact h.elim
  | succ N bH=>
    intro s h a W ln
    obtain⟨x,xw,xx,hq,qm⟩:=qb s _ h a W ln dw (.inLoop body :: k) cs xN hb aS
    rcases hq with⟨b9,J,al,IM⟩ | ⟨e,J,al,JL⟩
    ·subst al
     obtain⟨Ir,Is,It,HX,G9⟩:=bH b9 J xw xx IM
     exact⟨Ir,Is,It,HX,.of_steps (StepsIn.trans qm (.one (fenced_calm hb aS rfl) stepR_inLoop)) G9⟩
    ·exact⟨x,xw,xx,nO _ _ _ _ J JL,.pass (x:= .inLoop body) rfl (fun _ _=> .inl al) qm⟩
 obtain⟨x,fY,W',hq,qm⟩:=key N cd ao h7 iP bG
 exact⟨x,fY,W',hq,.of_steps (.one (fenced_calm hb aS rfl) stepR_loop) qm⟩
def E2 {σ ε γ δ:Type} (c:c5) (E:σ→γ→List (Nat × I)) (L:σ→γ→List aJ) (xs:ε→Exit) (fy:ε→δ→List (Nat × I)) (Lx:ε→δ→List aJ) (R:σ ⊕ ε→Prop):Exit→Act→World→Prop:=fun x a W=>
 (∃ s,R (.inl s)∧x= .normal∧ ∃ g,bw c (E s g) (L s g) a W)∨ ∃ e,R (.inr e)∧x≠ .normal∧x=xs e∧ ∃ g,bw c (fy e g) (Lx e g) a W
theorem ae.w4 {σ ε γ δ:Type} {E':σ→γ→List (Nat × I)} {L':σ→γ→List aJ} {xs:ε→Exit} {fy:ε→δ→List (Nat × I)} {Lx:ε→δ→List aJ} {R:σ ⊕ ε→Prop} {s:σ} (iS:R (.inl s)) (g:γ) (n:Nat)
 (an:L.drop n=L' s g) (h:g6 E (E' s g)):ae c (E2 c E' L' xs fy Lx R) .normal E L:=fun a W st=> .inl ⟨s,iS,rfl,g,by rw [← an]; exact(st.oC n).less h.look⟩
theorem ae.q7 {σ ε γ δ:Type} {E':σ→γ→List (Nat × I)} {L':σ→γ→List aJ} {xs:ε→Exit} {fy:ε→δ→List (Nat × I)} {Lx:ε→δ→List aJ} {R:σ ⊕ ε→Prop} {e:ε} {x:Exit} (iS:R (.inr e)) (g:δ) (n:Nat)
 (al:x=xs e) (aP:x≠ .normal) (an:L.drop n=Lx e g) (h:g6 E (fy e g)):ae c (E2 c E' L' xs fy Lx R) x E L:=fun a W st=> .inr ⟨e,iS,aP,al,g,by rw [← an]; exact(st.oC n).less h.look⟩
theorem ai.my {σ ε γ δ:Type} {body:Code} {N:Nat} {b:σ→aq (σ ⊕ ε)} {cd:σ} {R:ε→Prop} (ao:Gv.my N b cd R)
 (E':σ→γ→List (Nat × I)) (L':σ→γ→List aJ) (xs:ε→Exit) (fy:ε→δ→List (Nat × I)) (Lx:ε→δ→List aJ) (g0:γ) (an:L=L' cd g0) (aD:g6 E (E' cd g0))
 (rq:∀ s R,b s R→ ∀ g,ai c (E2 c E' L' xs fy Lx R) body (E' s g) (L' s g))
 (nO:∀ e,R e→ ∀ g,ae c Q (xs e) (fy e g) (Lx e g)):ai c Q (.loop body) E L:=fun a W st=>by
 subst an
 exact Sv b (fun s a W=> ∃ g,bw c (E' s g) (L' s g) a W) (fun e x a W=>x=xs e∧ ∃ g,bw c (fy e g) (Lx e g) a W)
  (fun s R hs a W ⟨g,ln⟩=>wpIn_mono (rq s R hs g a W ln) (fun x a W h=>by
   rcases h with⟨b9,J,ad,ay⟩ | ⟨e',J,ad,ay,aU⟩
   ·exact .inl ⟨b9,J,ad,ay⟩
   ·exact .inr ⟨e',J,ad,ay,aU⟩)) Q R (fun e x a W iS ⟨al,g,hs⟩=>by subst al; exact nO e iS g a W hs) ao ⟨g0,st.less aD.look⟩
theorem kE {α:Type} {b:Bool} {m n:aq α} {R:α→Prop} (hb:b=true) (h:cond b m n R):m R:=by subst hb; exact h
theorem kF {α:Type} {b:Bool} {m n:aq α} {R:α→Prop} (hb:b=false) (h:cond b m n R):n R:=by subst hb; exact h
theorem ai.uv {β γ ρ:Type} {mS:ρ→Prop} {x:Operand} {b:Bool} {y z:Code} {aW a2:aq β} {k:β→aq ρ} (h:aq.bind (bif b then aW else a2) k mS) (E':β→γ→List (Nat × I)) (L':β→γ→List aJ) (ao:a7 c E L x (.of b))
 (tv:∀ m g,k m mS→ae c Q .normal (E' m g) (L' m g))
 (bJ:(∀ m g,k m mS→ae c Q .normal (E' m g) (L' m g))→b=true→aW (fun m=>k m mS)→ai c Q y E L) (a8:(∀ m g,k m mS→ae c Q .normal (E' m g) (L' m g))→b=false→a2 (fun m=>k m mS)→ai c Q z E L):ai c Q (.cond x y z) E L:=
 ai.cond ao (fun hb=>bJ tv hb (kE hb h)) (fun hb=>a8 tv hb (kF hb h))
theorem ai.w3 {σ ε γ δ ρ:Type} {body:Code} {N:Nat} {b:σ→aq (σ ⊕ ε)} {cd:σ} {k:ε→aq ρ} {mS:ρ→Prop} (ao:aq.bind (Gv.my N b cd) k mS)
 (E':σ→γ→List (Nat × I)) (L':σ→γ→List aJ) (xs:ε→Exit) (fy:ε→δ→List (Nat × I)) (Lx:ε→δ→List aJ) (g0:γ) (an:L=L' cd g0) (aD:g6 E (E' cd g0))
 (rq:∀ s R,b s R→ ∀ g,ai c (E2 c E' L' xs fy Lx R) body (E' s g) (L' s g))
 (nO:∀ e,k e mS→ ∀ g,ae c Q (xs e) (fy e g) (Lx e g)):ai c Q (.loop body) E L:=
 ai.my (R:=fun e=>k e mS) ao E' L' xs fy Lx g0 an aD rq nO
theorem Wf {n:Nat} :∀ i,i < n→b7 (default:Vector Ref n) i=none:=fun i ar=>by
 have:(default:Vector Ref n)=Vector.replicate n none:=rfl
 rw [this]
 simp [b7,ar]
def Iq (s:ByteArray) (i:Int):Option (BitVec 8):=(if 0≤i then s[i.toNat]? else none).map fun b=>BitVec.ofNat 8 b.toNat
theorem T7 {d:Option Tmp} {ty:TypeId} {pos:String} {af:Array Edge} {g:Option (Nat × Bool)} {x y:Operand} {t:TypeId} {s:ByteArray} {i:BitVec 8} {r:BitVec 8} (hu:c.P.underlying t=some .string) (al:a7 c E L x (.of s)) (a5:a7 c E L y (.of i)) (aS:Iq s (i.toNat:Int)=some r):
 b4 c E L ⟨d,.index t x y,ty,pos,af,g⟩ (.of r):= .pure fun a W st=>by
 have J:=MN.1 (al a W st)
 have ad:=Eg.1 (a5 a W st)
 unfold Iq at aS
 cases hb:(if 0≤ (i.toNat:Int) then s[(i.toNat:Int).toNat]? else none) with
 | none=>rw [hb] at aS; cases aS
 | some b=>
   rw [hb] at aS
   simp only [Option.map_some,Option.some.injEq] at aS
   subst aS
   have cb:b.toNat < 256:=b.toNat_lt
   refine⟨.int .u8 b.toNat,?_,Eg.2 (by simp [BitVec.toNat_ofNat,Nat.mod_eq_of_lt cb])⟩
   have vx:=hb
   simp only [Int.natCast_nonneg,if_true,Int.toNat_natCast] at vx
   simp [execOp,Instr.index,J,ad,asIntOf,run_underlying hu,vx]
end
structure e2 where
 p:Option Nat
 deriving DecidableEq,Inhabited
instance aaS:ag e2:= .scalar (fun x=>Value.map x.p) fun _=>rfl
instance:bc e2:=⟨[.map none],fun _ _=>rfl⟩
theorem sD {A W v} {x:e2} :(I.of x).holds A W v↔v= .map x.p:=
 ⟨fun h=>nG h.1 h.2,fun h=>by subst h; exact⟨rfl,rfl⟩⟩
theorem kD {c:c5} {E:List (Nat × I)} {L:List aJ} {x:Operand} {r:e2} {p:Nat} (al:a7 c E L x (.of r)) (h:r.p=some p):a7 c E L x (.of (⟨some p⟩:e2)):=fun a W s=>by
 have:=sD.1 (al a W s)
 rw [h] at this
 exact sD.2 this
inductive jP {α β:Type} [ag α] [ag β] (A:List Nat) (W:World):List MapEntry→List (α × β)→Prop
 | nil:jP A W [] []
 | cons {e k v es r} :(I.of k).holds A W e.key→ (I.of v).holds A W e.val→jP A W es r→jP A W (e :: es) ((k,v) :: r)
theorem jP.mono {α β:Type} [ag α] [ag β] {A W c0 W'} (h:Ext A W c0 W'):∀ {es:List MapEntry} {kv:List (α × β)},jP A W es kv→jP c0 W' es kv
 | _,_,.nil=> .nil
 | _,_,.cons J ad r=> .cons (I.mono _ h J) (I.mono _ h ad) (r.mono h)
def dr.map {α β:Type} [ag α] [ag β] (kv:List (α × β)):dr where
 holds A W o:= ∃ es clock,o= .map es clock∧jP A W es.toList kv∧ (∀ x∈es.toList,x.born < clock)∧ (es.toList.map MapEntry.born).Nodup
 l4:=False
 mono e h:=let⟨es,clock,J,ad,ay⟩:=h; ⟨es,clock,J,ad.mono e,ay⟩
def dI {α β:Type} [DecidableEq α]:List (α × β)→α→Option β
 | [],_=>none
 | (k,v) :: r,x=>if x=k then some v else dI r x
def fB {α β:Type} [DecidableEq α]:List (α × β)→α→β→List (α × β)
 | [],x,y=> [(x,y)]
 | (k,v) :: r,x,y=>if x=k then(x,y) :: r else(k,v) :: fB r x y
def hj {α β:Type} [DecidableEq α]:List (α × β)→α→List (α × β)
 | [],_=> []
 | (k,v) :: r,x=>if x=k then r else(k,v) :: hj r x
class kB (α:Type) [ag α]:Prop where
 uniq:∀ {A W cs c0 W' dN} {x:α},ag.rep A W cs x→ag.rep c0 W' dN x→cs=dN
 plain:∀ {A W cs} {x:α},ag.rep A W cs x→ ∀ v∈cs,∀ n,Instr.sameBits n v v=true
instance:kB Int:=⟨fun h cX=>h.trans cX.symm,fun h v a6 n=>by subst h; rw [List.mem_singleton.1 a6]; simp [Instr.sameBits]⟩
instance:kB (BitVec 64):=⟨fun h cX=>h.trans cX.symm,fun h v a6 n=>by subst h; rw [List.mem_singleton.1 a6]; simp [Instr.sameBits]⟩
instance:kB Bool:=⟨fun h cX=>h.trans cX.symm,fun h v a6 n=>by subst h; rw [List.mem_singleton.1 a6]; simp [Instr.sameBits]⟩
instance {α:Type} [ag α] [Inhabited α] [kB α] {n:Nat} :kB (Vector α n):=⟨fun {A W cs c0 W' dN x} h cX=>by
 have Cb:cs.length=n * ag.size α:=ag.len h
 have aaG:dN.length=n * ag.size α:=ag.len cX
 have key:∀ m,m≤n→cs.take (m * ag.size α)=dN.take (m * ag.size α):=by
  intro m
  induction m with
  | zero=>intro _; simp
  | succ m bH=>
    intro hm
    have xQ:m < n:=hm
    have aF:=(aQ.idx (α:=α) n m xQ).hX h
    have aR:=(aQ.idx (α:=α) n m xQ).hX cX
    have dh:=kB.uniq aF aR
    rw [Nat.succ_mul,List.take_add,List.take_add,bH (by omega)]
    congr 1
 have:=key n (Nat.le_refl _)
 rwa [← Cb,List.take_length,Cb,← aaG,List.take_length] at this,
 fun {A W cs x} h v a6 k=>by
  have Cb:cs.length=n * ag.size α:=ag.len h
  obtain⟨i,ar,rfl⟩:=List.getElem_of_mem a6
  by_cases hs:ag.size α=0
  ·rw [hs,Nat.mul_zero] at Cb; omega
  have hq:i / ag.size α < n:=Nat.div_lt_of_lt_mul (by rw [Cb,Nat.mul_comm] at ar; exact ar)
  have aF:=(aQ.idx (α:=α) n (i / ag.size α) hq).hX h
  refine kB.plain aF _ ?_ k
  have aS:i % ag.size α < ag.size α:=Nat.mod_lt _ (by omega)
  have hd:=Nat.div_add_mod i (ag.size α)
  refine List.mem_iff_getElem?.2 ⟨i % ag.size α,?_⟩
  simp only [aQ.idx]
  rw [List.getElem?_take,if_pos aS,List.getElem?_drop,Nat.mul_comm,hd]
  exact List.getElem?_eq_getElem ar⟩
theorem LA {cs dN:List Value} (o s:Nat) (h:(cs.drop o).take s=(dN.drop o).take s) (k:cs.drop (o + s)=dN.drop (o + s)):cs.drop o=dN.drop o:=by
 rw [← List.take_append_drop s (cs.drop o),← List.take_append_drop s (dN.drop o),h,List.drop_drop,List.drop_drop,k]
theorem Ut {cs dN:List Value} {n:Nat} (h:cs.length=n) (cX:dN.length=n) (k:cs.drop 0=dN.drop 0):cs=dN:=by simpa using k
theorem Uu {cs dN:List Value} {n m:Nat} (h:cs.length=n) (cX:dN.length=n) (k:n≤m):cs.drop m=dN.drop m:=by
 rw [List.drop_eq_nil_of_le (by omega),List.drop_eq_nil_of_le (by omega)]
theorem Sw {α:Type} [ag α] [kB α] {A W c0 W' u v} {x:α} (h:(I.of x).holds A W u) (cX:(I.of x).holds c0 W' v):u=v:=by
 obtain⟨J,ad⟩:=h
 obtain⟨ay,aU⟩:=cX
 have a0:=kB.uniq ad aU
 by_cases bd:ag.agg α=true
 ·simp only [shaped,bd,if_true] at J ay
  obtain⟨a,rfl⟩:=J
  obtain⟨b,rfl⟩:=ay
  simp only [Value.cells] at a0
  congr 1
  exact Array.toList_inj.1 a0
 ·simp only [Bool.not_eq_true] at bd
  simp only [shaped,bd,Bool.false_eq_true,if_false] at J ay
  rw [oo J,oo ay] at a0
  simpa using a0
theorem LB {P:Value→Value→Bool} :∀ {cs:List Value},(∀ v∈cs,P v v=true)→ ((cs.zip cs).all fun(x,y)=>P x y)=true
 | [],_=>rfl
 | a :: r,h=>by
   simp only [List.zip_cons_cons,List.all_cons,Bool.and_eq_true]
   exact⟨h a (by simp),LB fun v a6=>h v (by simp [a6])⟩
theorem Sx {α:Type} [ag α] [kB α] {A W u} {x:α} (h:(I.of x).holds A W u) (n:Nat):Instr.sameBits (n + 1) u u=true:=by
 obtain⟨J,ad⟩:=h
 by_cases bd:ag.agg α=true
 ·simp only [shaped,bd,if_true] at J
  obtain⟨a,rfl⟩:=J
  simp only [Value.cells] at ad
  simp only [Instr.sameBits,beq_self_eq_true,Bool.true_and]
  exact LB fun v a6=>kB.plain ad v a6 n
 ·simp only [Bool.not_eq_true] at bd
  simp only [shaped,bd,Bool.false_eq_true,if_false] at J
  rw [oo J] at ad
  exact kB.plain ad u (by simp) _
theorem S4 {α:Type} [ag α] [kB α] {P:Program} {A W c0 W' u v} {x:α} (h:(I.of x).holds A W u) (cX:(I.of x).holds c0 W' v) (iP:World):(Instr.keyThatStays u v).run P iP= .ok v iP:=by
 have:=Sw h cX
 subst this
 simp [Instr.keyThatStays,Sx h 9999]
def qF (P:Program) (t:TypeId) (α:Type) [ag α] (n:Nat):Prop:= ∀ b d A W u (x:α),n≤d→ (I.of x).holds A W u→ (Instr.checkKey b d t u).run P W= .ok () W
theorem Lg {P:Program} {t:TypeId} {α:Type} [ag α] {D:TypeDesc} (h:P.underlying t=some D) (hd:(match (motive:=TypeDesc→Bool) D with | .interface _ | .array _ _ | .struct _=>false | _=>true)=true):qF P t α 1:=by
 intro b d A W u x aP al
 obtain⟨d,rfl⟩:∃ e,d=e + 1:=⟨d - 1,by omega⟩
 simp only [Instr.checkKey,Sem.run_bind,run_underlying h,Result.andThen_ok]
 cases D <;> simp at hd <;> rfl
theorem Kv {P:Program} {W:World} {Cc:Type} (f:Cc→Sem Unit):∀ (l:List Cc),(∀ i∈l,(f i).run P W= .ok () W)→
 (forIn (m:=Sem) l () (fun i _=>do f i; pure (ForInStep.yield ()))).run P W= .ok () W
 | [],_=>by simp
 | i :: r,h=>by
   have J:=h i (by simp)
   have ad:=Kv (P:=P) (W:=W) f r (fun j aG=>h j (by simp [aG]))
   rw [List.forIn_cons]
   simp only [Sem.run_bind,J,Result.andThen_ok,Sem.run_pure]
   rw [ad]
theorem Kp {P:Program} {W:World} {Cc:Type} (f:Cc→PUnit→Sem (ForInStep PUnit)):∀ (l:List Cc),(∀ i∈l,(f i ()).run P W= .ok (.yield ()) W)→ (forIn (m:=Sem) l PUnit.unit f).run P W= .ok () W
 | [],_=>by simp
 | i :: r,h=>by
   have J:=h i (by simp)
   have ad:=Kp (P:=P) (W:=W) f r (fun j aG=>h j (by simp [aG]))
   rw [List.forIn_cons]
   simp only [Sem.run_bind,J,Result.andThen_ok]
   exact ad
theorem MT {P:Program} {t e n k:Nat} {α:Type} [ag α] [Inhabited α] (h:P.underlying t=some (.array n e)) (ew:bt P e α) (he:qF P e α k):qF P t (Vector α n) (k + 1):=by
 intro b d A W u x hd al
 obtain⟨d,rfl⟩:∃ e,d=e + 1:=⟨d - 1,by omega⟩
 obtain⟨J,ad⟩:=al
 obtain⟨xs,rfl⟩:∃ cs,u= .agg cs:=by simpa [shaped,ag.agg] using J
 simp only [Value.cells] at ad
 have rV:xs.toList.length=n * ag.size α:=ag.len ad
 have rr:∀ i∈List.range' 0 n,((do
  let z ← Go.sizeOf e
  let a ← part e xs (i * z)
  Instr.checkKey b d e a):Sem Unit).run P W= .ok () W:=by
  intro i ar
  have gp:i < n:=by simpa using ar
  have ef:i * ag.size α + ag.size α≤n * ag.size α:=(aQ.idx (α:=α) n i gp).fW
  obtain⟨a,bd,rW⟩:=qW (A:=A) (P:=P) (W:=W) (cs:=xs) (off:=i * ag.size α) ew (by simp at rV; omega) ((aQ.idx (α:=α) n i gp).hX ad)
  simp only [Sem.run_bind,ew.sizeOf,bd,Result.andThen_ok]
  exact he b d A W a _ (by omega) rW
 have a8:=Kv (P:=P) (W:=W) _ _ rr
 simp only [Instr.checkKey,Sem.run_bind,run_underlying h,Result.andThen_ok,Std.Legacy.Range.forIn_eq_forIn_range']
 simp only [Std.Legacy.Range.size,Nat.sub_zero,Nat.add_one_sub_one,Nat.div_one] at a8 ⊢
 simp only [bind_assoc] at a8
 rw [a8]
 rfl
inductive BR (P:Program) (β:Type) [ag β] (k:Nat):List Field→Prop
 | nil:BR P β k []
 | cons {γ:Type} [ag γ] {f r} (l:aQ β γ):l.off=f.offset→bt P f.type γ→qF P f.type γ k→BR P β k r→BR P β k (f :: r)
theorem S5 {P:Program} {t k:Nat} {β:Type} [ag β] {fs:Array Field} (bd:ag.agg β=true) (h:P.underlying t=some (.struct fs)) (ak:BR P β k fs.toList):qF P t β (k + 1):=by
 intro b d A W u x hd al
 obtain⟨d,rfl⟩:∃ e,d=e + 1:=⟨d - 1,by omega⟩
 obtain⟨J,ad⟩:=al
 obtain⟨xs,rfl⟩:∃ cs,u= .agg cs:=by simpa [shaped,bd] using J
 simp only [Value.cells] at ad
 have rV:xs.toList.length=ag.size β:=ag.len ad
 have rr:∀ f∈fs.toList,((do
  if f.name≠ "_" then do
   let a ← part f.type xs f.offset
   Instr.checkKey b d f.type a):Sem Unit).run P W= .ok () W:=by
  have key:∀ l,BR P β k l→ ∀ f∈l,((do
   if f.name≠ "_" then do
    let a ← part f.type xs f.offset
    Instr.checkKey b d f.type a):Sem Unit).run P W= .ok () W:=by
   intro l ao
   induction ao with
   | nil=>simp
   | cons l a9 ew au r bH=>
     rename_i f jB
     intro x9 pJ
     rcases List.mem_cons.1 pJ with rfl | pJ
     ·split
      ·obtain⟨a,bd,rW⟩:=qW (A:=A) (P:=P) (W:=W) (cs:=xs) (off:=l.off) ew (by have:=l.fW; simp at rV; omega) (l.hX ad)
       rw [← a9]
       simp only [Sem.run_bind,bd,Result.andThen_ok]
       exact au b d A W a _ (by omega) rW
      ·rfl
     ·exact bH x9 pJ
  exact key _ ak
 simp only [Instr.checkKey,Sem.run_bind,run_underlying h,Result.andThen_ok]
 rw [← Array.forIn_toList,Kp]
 ·rfl
 ·intro f a8
  have:=rr f a8
  split
  ·rename_i aP
   rw [if_pos aP] at this
   simp only [Sem.run_bind] at this ⊢
   revert this
   generalize (part f.type xs f.offset).run P W=r
   cases r <;> simp only [Result.andThen] <;> intro h <;> first | rw [h]; rfl | cases h
  ·rfl
structure nA (P:Program) (t:TypeId) (α:Type) [ag α] [DecidableEq α]:Prop where
 check:∀ b A W u (x:α),(I.of x).holds A W u→ (Instr.checkKey b 10000 t u).run P W= .ok () W
 same:∀ A W u v (x y:α),(I.of x).holds A W u→ (I.of y).holds A W v→ (Op.equal t u v).run P W= .ok (decide (x=y)) W
 now:∃ D,P.underlying t=some D∧ ∀ A W u v (x y:α),(I.of x).holds A W u→ (I.of y).holds A W v→Instr.sameNow D u v=none∨Instr.sameNow D u v=some (decide (x=y))
def kK {α β:Type} [DecidableEq α]:List (α × β)→α→Nat→Option (Nat × β)
 | [],_,_=>none
 | (k,v) :: r,x,i=>if x=k then some (i,v) else kK r x (i + 1)
def Found {α β:Type} [ag α] [ag β] (A:List Nat) (W:World) (kv:List (α × β)):Option (Nat × Value)→Option (Nat × β)→Prop
 | none,none=>True
 | some (i,u),some (j,v)=>i=j∧ (I.of v).holds A W u
 | _,_=>False
theorem Ky {α β:Type} [ag α] [ag β] [DecidableEq α] {D:TypeDesc} {A:List Nat} {W:World} {u:Value} {x:α} (hu:(I.of x).holds A W u)
 (hs:∀ v (y:α),(I.of y).holds A W v→Instr.sameNow D u v=none∨Instr.sameNow D u v=some (decide (x=y))) (BS:List (α × β)):∀ {es:List MapEntry} {kv:List (α × β)} (i:Nat),jP A W es kv→
 Instr.findNow D u es i=none∨ ∃ r,Instr.findNow D u es i=some r∧Found A W BS r (kK kv x i)
 | [],_,i,h=>by cases h; exact .inr ⟨none,rfl,trivial⟩
 | e :: es,_,i,h=>by
   cases h with
   | cons J ad ay=>
     rename_i k v r
     rcases hs e.key k J with aU | aU
     ·exact .inl (by simp [Instr.findNow,aU])
     ·by_cases au:x=k
      ·exact .inr ⟨some (i,e.val),by simp [Instr.findNow,aU,au],by simp only [kK,if_pos au]; exact⟨rfl,ad⟩⟩
      ·rcases Ky hu hs BS (i + 1) ay with a0 | ⟨jB,a0,bl⟩
       ·exact .inl (by simp [Instr.findNow,aU,au,a0])
       ·exact .inr ⟨jB,by simp [Instr.findNow,aU,au,a0],by simp only [kK,if_neg au]; exact bl⟩
theorem Kl {α β:Type} [ag α] [ag β] [DecidableEq α] {P:Program} {t:TypeId} (jV:nA P t α) {A:List Nat} {W:World} {u:Value} {x:α} (hu:(I.of x).holds A W u) (BS:List (α × β)):∀ {es:List MapEntry} {kv:List (α × β)} (i:Nat),jP A W es kv→
 ∃ r,(Instr.findAsking t u es i).run P W= .ok r W∧Found A W BS r (kK kv x i)
 | [],_,i,h=>by cases h; exact⟨none,rfl,trivial⟩
 | e :: es,_,i,h=>by
   cases h with
   | cons J ad ay=>
     rename_i k v r
     have aU:=jV.same A W u e.key x k hu J
     by_cases au:x=k
     ·exact⟨some (i,e.val),by simp [Instr.findAsking,Sem.run_bind,aU,au],by simp only [kK,if_pos au]; exact⟨rfl,ad⟩⟩
     ·obtain⟨jB,a0,bl⟩:=Kl jV hu BS (i + 1) ay
      exact⟨jB,by simp [Instr.findAsking,Sem.run_bind,aU,au,a0],by simp only [kK,if_neg au]; exact bl⟩
theorem F9 {α β:Type} [ag α] [ag β] [DecidableEq α] {P:Program} {t:TypeId} (jV:nA P t α) {A:List Nat} {W:World} {u:Value} {x:α} (hu:(I.of x).holds A W u) {es:List MapEntry} {kv:List (α × β)} (h:jP A W es kv):
 ∃ r,(Instr.findKey t u es).run P W= .ok r W∧Found A W kv r (kK kv x 0):=by
 obtain⟨D,kA,hs⟩:=jV.now
 rcases Ky hu (fun v y a5=>hs A W u v x y hu a5) kv 0 h with J | ⟨r,J,ad⟩
 ·obtain⟨r,ay,aU⟩:=Kl jV hu kv 0 h
  exact⟨r,by simp [Instr.findKey,Sem.run_bind,run_underlying kA,J,ay],aU⟩
 ·exact⟨r,by simp [Instr.findKey,Sem.run_bind,run_underlying kA,J],ad⟩
theorem GP {α β:Type} [ag α] [ag β] [DecidableEq α] {A:List Nat} {W:World} {x:α} :∀ {es:List MapEntry} {kv:List (α × β)} {j i:Nat} {v:β},jP A W es kv→kK kv x j=some (i,v)→
 ∃ m e,i=j + m∧es[m]? =some e∧ (I.of x).holds A W e.key∧ (∀ (e':MapEntry) (y:β),(I.of x).holds A W e'.key→ (I.of y).holds A W e'.val→jP A W (es.set m e') (fB kv x y))∧jP A W (es.eraseIdx m) (hj kv x)
 | [],_,j,i,v,h,a8=>by cases h; cases a8
 | e :: es,_,j,i,v,h,a8=>by
   cases h with
   | cons J ad ay=>
     rename_i k Fk r
     by_cases au:x=k
     ·subst au
      simp only [kK,if_pos] at a8
      simp only [Option.some.injEq,Prod.mk.injEq] at a8
      exact⟨0,e,by omega,rfl,J,fun e' y av bm=>by simp only [fB,if_pos]; exact .cons av bm ay,by simp only [hj,if_pos]; exact ay⟩
     ·simp only [kK,if_neg au] at a8
      obtain⟨m,e',av,bm,bS,dq,oV⟩:=GP ay a8
      exact⟨m + 1,e',by omega,by simpa using bm,bS,fun Jc y ax et=>by simp only [fB,if_neg au]; exact .cons J ad (dq Jc y ax et),by simp only [hj,if_neg au]; exact .cons J ad oV⟩
theorem Gn {α β:Type} [ag α] [ag β] [DecidableEq α] {A:List Nat} {W:World} {x:α} :∀ {es:List MapEntry} {kv:List (α × β)} {j:Nat},jP A W es kv→kK kv x j=none→
 (∀ (e':MapEntry) (y:β),(I.of x).holds A W e'.key→ (I.of y).holds A W e'.val→jP A W (es ++ [e']) (fB kv x y))∧hj kv x=kv
 | [],_,j,h,_=>by cases h; exact⟨fun e' y J ad=> .cons J ad .nil,rfl⟩
 | e :: es,_,j,h,a8=>by
   cases h with
   | cons J ad ay=>
     rename_i k Fk r
     by_cases au:x=k
     ·simp [kK,au] at a8
     ·simp only [kK,if_neg au] at a8
      obtain⟨av,bm⟩:=Gn ay a8
      exact⟨fun e' y ax et=>by simp only [fB,if_neg au]; exact .cons J ad (av e' y ax et),by simp only [hj,if_neg au,bm]⟩
theorem jP.length {α β:Type} [ag α] [ag β] {A W} :∀ {es:List MapEntry} {kv:List (α × β)},jP A W es kv→es.length=kv.length
 | _,_,.nil=>rfl
 | _,_,.cons _ _ r=>by simp [r.length]
theorem KV {α β:Type} [DecidableEq α]:∀ (kv:List (α × β)) (x:α) (i:Nat),(kK kv x i).map (·.2)=dI kv x
 | [],_,_=>rfl
 | (k,v) :: r,x,i=>by simp only [kK,dI]; split <;> simp [KV]
section
variable {c:c5} {E:List (Nat × I)} {L:List aJ} {ops:Array Oper} {Q:Exit→Act→World→Prop}
variable {d:Option Tmp} {ty:TypeId} {pos:String} {af:Array Edge} {g:Option (Nat × Bool)} {x y z:Operand} {t t2:TypeId}
variable {bT:Type} [eG bT] {hp:aN bT} {loc:List aJ}
theorem ah.Uv {α β:Type} [ag α] [ag β] {rest:List Oper} {bb:Nat} (mk:bT) (au:∀ p,eG.g3 p mk= [⟨some p,.map ([]:List (α × β))⟩]) (aP:Nat.blt bb c.n=true)
 (k:∀ p,p ∉ ec hp→ah c ops Q rest ((bb,.of (⟨some p⟩:e2)) :: E) (loc ++ aV ((p,mk) :: hp))):ah c ops Q (⟨some bb,.makeMap t none,ty,pos,af,none⟩ :: rest) E (loc ++ aV hp):=fun a W s=>by
 refine g9 rfl (R:=fun v W'=>v= .map (some W.heap.size)∧W'=W.alloc (.map #[] 0)) (.kj ?_ ⟨rfl,rfl⟩) fun v W' ⟨a6,hw⟩=> ?_
 ·simp only [execOp,Instr.makeMap,newObj,Sem.run_bind,Sem.run_pure]; rfl
 ·subst a6
  subst hw
  refine k _ s.fresh _ _ (bw.put ?_ (by simpa using aP) (sD.2 rfl))
  refine(s.alloc (cp:= .map ([]:List (α × β))) ⟨#[],0,rfl,.nil,by simp,by simp⟩).perm ?_
  simp only [aV,au,List.singleton_append]
  exact List.perm_middle.symm
theorem ah.DD {α β:Type} [ag α] [ag β] {rest:List Oper} {bb:Nat} (n:Nat) (an:L.drop n=aV hp) (mk:bT) (au:∀ p,eG.g3 p mk= [⟨some p,.map ([]:List (α × β))⟩]) (aP:Nat.blt bb c.n=true) (k:∀ a:Nat × aN bT,a.1 ∉ hp.map (·.1)∧a.2=(a.1,mk) :: hp→ah c ops Q rest ((bb,.of (⟨some a.1⟩:e2)) :: E) (L.take n ++ aV a.2)):ah c ops Q (⟨some bb,.makeMap t none,ty,pos,af,none⟩ :: rest) E L:=by
 have e:L=L.take n ++ aV hp:=by rw [← an,List.take_append_drop]
 clear an
 generalize L.take n=loc at *
 subst e
 exact ah.Uv (α:=α) (β:=β) mk au aP fun p h=>k (p,(p,mk) :: hp) ⟨h,rfl⟩
theorem bw.AF {a:Act} {W:World} (s:bw c E L a W) {p:Nat} {α β:Type} [ag α] [ag β] {kv:List (α × β)} (hm:(⟨some p,.map kv⟩:aJ)∈L):
 ∃ es clock,W.heap[p]? =some (.map es clock)∧jP (aL L ++ c.bX) W es.toList kv∧ (∀ x∈es.toList,x.born < clock)∧ (es.toList.map MapEntry.born).Nodup:=by
 obtain⟨o,a9,es,clock,rfl,ad,ay,aU⟩:=s.own _ hm
 exact⟨es,clock,a9,ad,ay,aU⟩
theorem KW {a:Act} {W:World} (s:bw c E L a W) {p key elem:Nat} {α β:Type} [ag α] [ag β] [DecidableEq α] [Inhabited β] {kv:List (α × β)} {i:α} (hu:c.P.underlying t=some (.map key elem)) (jV:nA c.P key α) (gl:cn c.P elem (default:β))
 (al:a7 c E L x (.of (⟨some p⟩:e2))) (a5:a7 c E L y (.of i)) (hm:(⟨some p,.map kv⟩:aJ)∈L):
 ∃ u,(I.of ((dI kv i).getD default)).holds (aL L ++ c.bX) W u∧ ∀ ok,(Instr.lookup t (a.eval x) (a.eval y) ok).run c.P W= .ok (if ok then .tuple #[u,.bool (dI kv i).isSome] else u) W:=by
 obtain⟨es,clock,a9,ad,ay,aU⟩:=s.AF hm
 have kz:=sD.1 (al a W s)
 have n7:=a5 a W s
 obtain⟨r,aS,a8⟩:=F9 jV n7 ad
 obtain⟨fN,dY,eb,df,IX⟩:=gl.zero
 have bE:(getObj p).run c.P W= .ok (.map es clock) W:=by simp [getObj,Sem.run,a9]
 have ak:=fun b=>jV.check b _ W _ i n7
 have xV:=KV kv i 0
 cases oN:kK kv i 0 with
 | none=>
   rw [oN] at a8 xV
   cases r with
   | some q=>exact a8.elim
   | none=>
     refine⟨dY,by rw [← xV]; exact IX _ W,fun ok=> ?_⟩
     rw [← xV]
     simp [Instr.lookup,Sem.run_bind,run_underlying hu,kz,bE,ak,aS,zeroValue,typeInfo,eb,df]
 | some q=>
   rw [oN] at a8 xV
   cases r with
   | none=>exact a8.elim
   | some lq=>
     refine⟨lq.2,by rw [← xV]; exact a8.2,fun ok=> ?_⟩
     rw [← xV]
     simp [Instr.lookup,Sem.run_bind,run_underlying hu,kz,bE,ak,aS]
theorem um {p key elem:Nat} {α β:Type} [ag α] [ag β] [DecidableEq α] [Inhabited β] {kv:List (α × β)} {i:α} {r:β} (hu:c.P.underlying t=some (.map key elem)) (jV:nA c.P key α) (gl:cn c.P elem (default:β))
 (al:a7 c E L x (.of (⟨some p⟩:e2))) (a5:a7 c E L y (.of i)) (hm:(⟨some p,.map kv⟩:aJ)∈L) (aS:(dI kv i).getD default=r):
 b4 c E L ⟨d,.lookup t x y false,ty,pos,af,g⟩ (.of r):= .pure fun a W s=>by
 subst aS
 obtain⟨u,J,ad⟩:=KW s hu jV gl al a5 hm
 have ay:=ad false
 exact⟨u,by simp only [execOp,Sem.run_bind,ay,Result.andThen_ok]; rfl,J⟩
theorem GD {p key elem:Nat} {α β:Type} [ag α] [ag β] [DecidableEq α] [Inhabited β] {kv:List (α × β)} {i:α} {r:Option β} (hu:c.P.underlying t=some (.map key elem)) (jV:nA c.P key α) (gl:cn c.P elem (default:β))
 (al:a7 c E L x (.of (⟨some p⟩:e2))) (a5:a7 c E L y (.of i)) (hm:(⟨some p,.map kv⟩:aJ)∈L) (aS:dI kv i=r):
 b4 c E L ⟨d,.lookup t x y true,ty,pos,af,g⟩ (.eD [.of (r.getD default),.of r.isSome]):= .pure fun a W s=>by
 subst aS
 obtain⟨u,J,ad⟩:=KW s hu jV gl al a5 hm
 have ay:=ad true
 exact⟨_,by simp only [execOp,Sem.run_bind,ay,Result.andThen_ok]; rfl,_,rfl,.cons J (.cons (of_bool.2 rfl) .nil)⟩
theorem TL {es:List MapEntry} {m:Nat} {e e':MapEntry} (h:es[m]? =some e) (hb:e'.born=e.born):(es.set m e').map MapEntry.born=es.map MapEntry.born:=by
 apply List.ext_getElem?
 intro j
 simp only [List.getElem?_map,List.getElem?_set]
 split
 ·rename_i aG
  subst aG
  have:=(List.getElem?_eq_some_iff.1 h).1
  rw [if_pos this,h]
  simp [hb]
 ·rfl
theorem ah.Vk {rest:List Oper} {op:Op} (rS:op= .mapUpdate t x y z∨op= .insert t x y z) {p key elem:Nat} {k k':bT} {α β:Type} [ag α] [ag β] [kB α] [DecidableEq α] {kv pL:List (α × β)} {i:α} {v:β} (hu:c.P.underlying t=some (.map key elem)) (jV:nA c.P key α)
 (al:a7 c E (loc ++ aV hp) x (.of (⟨some p⟩:e2))) (a5:a7 c E (loc ++ aV hp) y (.of i)) (df:a7 c E (loc ++ aV hp) z (.of v)) (hp':pat hp p=some k) (au:eG.g3 p k= [⟨some p,.map kv⟩]) (vL:fB kv i v=pL) (iX:eG.g3 p k'= [⟨some p,.map pL⟩])
 (ml:ah c ops Q rest E (loc ++ aV (cT hp p k'))):ah c ops Q (⟨none,op,ty,pos,af,none⟩ :: rest) E (loc ++ aV hp):=fun a W s=>by
 subst vL
 obtain⟨es,clock,a9,ad,ay,aU⟩:=s.AF (ep (n:=loc.length) (by simp) hp' au)
 have kz:=sD.1 (al a W s)
 have n7:=a5 a W s
 have Pl:=df a W s
 obtain⟨r,aS,a8⟩:=F9 jV n7 ad
 have bE:(getObj p).run c.P W= .ok (.map es clock) W:=by simp [getObj,Sem.run,a9]
 have ak:=jV.check false _ W _ i n7
 have cb:p < W.heap.size:=(Array.getElem?_eq_some_iff.1 a9).1
 have kq:∀ o,(setObj p o).run c.P W= .ok () (W.putObj p o):=fun o=>by simp only [setObj,Sem.run,a9]; rfl
 have key:∃ lf uD,(Instr.mapUpdate t (a.eval x) (a.eval y) (a.eval z)).run c.P W= .ok () (W.putObj p (.map lf uD))∧jP (aL (loc ++ aV hp) ++ c.bX) W lf.toList (fB kv i v)∧ (∀ x∈lf.toList,x.born < uD)∧ (lf.toList.map MapEntry.born).Nodup:=by
  cases oN:kK kv i 0 with
  | none=>
    rw [oN] at a8
    cases r with
    | some q=>exact a8.elim
    | none=>
      obtain⟨av,_⟩:=Gn ad oN
      refine⟨es.push { key:=a.eval y,val:=a.eval z,born:=clock },clock + 1,by simp [Instr.mapUpdate,Sem.run_bind,run_underlying hu,kz,bE,ak,aS,kq],by simpa using av { key:=a.eval y,val:=a.eval z,born:=clock } v n7 Pl,?_,?_⟩
      ·intro q hq
       simp only [Array.toList_push,List.mem_append,List.mem_singleton] at hq
       rcases hq with hq | rfl
       ·exact Nat.lt_succ_of_lt (ay q hq)
       ·exact Nat.lt_succ_self _
      ·simp only [Array.toList_push,List.map_append,List.map_cons,List.map_nil]
       refine List.nodup_append.2 ⟨aU,by simp,fun b hb b' vx=> ?_⟩
       simp only [List.mem_singleton] at vx
       subst vx
       obtain⟨q,hq,rfl⟩:=List.mem_map.1 hb
       exact Nat.ne_of_lt (ay q hq)
  | some q=>
    rw [oN] at a8
    cases r with
    | none=>exact a8.elim
    | some lq=>
      obtain⟨m,e,av,bm,bS,dq,_⟩:=GP ad oN
      have iL:lq.1=m:=by have:=a8.1; omega
      have hq:es[m]? =some e:=by simpa using bm
      have fK:=S4 (P:=c.P) bS n7 W
      let e':MapEntry:= { e with key:=a.eval y,val:=a.eval z }
      have A5:(es.modify m fun e=> { e with key:=a.eval y,val:=a.eval z }).toList=es.toList.set m e':=by
       apply List.ext_getElem?
       intro j
       rw [Array.getElem?_toList,Array.getElem?_modify,List.getElem?_set,Array.getElem?_toList]
       by_cases aG:m=j
       ·subst aG
        rw [if_pos rfl,if_pos rfl,hq,if_pos (by simpa using (Array.getElem?_eq_some_iff.1 hq).1)]
        rfl
       ·rw [if_neg aG,if_neg aG]
      refine⟨es.modify m fun e=> { e with key:=a.eval y,val:=a.eval z },clock,by simp [Instr.mapUpdate,Sem.run_bind,run_underlying hu,kz,bE,ak,aS,kq,iL,hq,fK],by rw [A5]; exact dq e' v n7 Pl,?_,?_⟩
      ·rw [A5]
       intro w hw
       rcases List.mem_or_eq_of_mem_set hw with hw | rfl
       ·exact ay w hw
       ·exact ay e (List.mem_of_getElem? bm)
      ·rw [A5,TL (e':=e') bm rfl]; exact aU
 obtain⟨lf,uD,hB,aF,aR,dh⟩:=key
 obtain⟨R,aW,a2⟩:=tZ hp'
 have a2:=a2 k'
 rw [au] at aW
 rw [iX] at a2
 have dK:∀ {z:List (α × β)} {M:List aJ},M.Perm ([⟨some p,.map z⟩] ++ R)→ (loc ++ M).Perm (⟨some p,.map z⟩ :: (loc ++ R)):=fun h=>(h.append_left loc).trans (by simp only [List.singleton_append]; exact List.perm_middle)
 have b9:=(s.perm (dK aW)).pt (i:=0) (cp':= .map (fB kv i v)) rfl (o':= .map lf uD) ⟨lf,uD,rfl,aF.mono (mq (dK aW)),aR,dh⟩
 refine g9 rfl (R:=fun v W'=>W'=W.putObj p (.map lf uD)) (.wY ?_ rfl) fun v W' hw=> ?_
 ·rcases rS with rfl | rfl <;> simp [execOp,hB]
 ·subst hw
  exact ml _ _ (b9.perm (dK a2).symm)
theorem ah.DT {rest:List Oper} {op:Op} (n:Nat) (an:L.drop n=aV hp) (rS:op= .mapUpdate t x y z∨op= .insert t x y z) {p key elem:Nat} {k k':bT} {cJ:aN bT} {α β:Type} [ag α] [ag β] [kB α] [DecidableEq α] {kv pL:List (α × β)} {i:α} {v:β} (hu:c.P.underlying t=some (.map key elem)) (jV:nA c.P key α) (al:a7 c E L x (.of (⟨some p⟩:e2))) (a5:a7 c E L y (.of i)) (df:a7 c E L z (.of v)) (hp':pat hp p=some k) (au:eG.g3 p k= [⟨some p,.map kv⟩]) (vL:fB kv i v=pL) (iX:eG.g3 p k'= [⟨some p,.map pL⟩]) (df:cT hp p k'=cJ) (ml:ah c ops Q rest E (L.take n ++ aV cJ)):ah c ops Q (⟨none,op,ty,pos,af,none⟩ :: rest) E L:=by
 subst df
 have e:L=L.take n ++ aV hp:=by rw [← an,List.take_append_drop]
 clear an
 generalize L.take n=loc at *
 subst e
 exact ah.Vk rS hu jV al a5 df hp' au vL iX ml
theorem ah.Vl {rest:List Oper} {p key elem:Nat} {k k':bT} {α β:Type} [ag α] [ag β] [DecidableEq α] {kv pL:List (α × β)} {i:α} (hu:c.P.underlying t=some (.map key elem)) (jV:nA c.P key α)
 (al:a7 c E (loc ++ aV hp) x (.of (⟨some p⟩:e2))) (a5:a7 c E (loc ++ aV hp) y (.of i)) (hp':pat hp p=some k) (au:eG.g3 p k= [⟨some p,.map kv⟩]) (vL:hj kv i=pL) (iX:eG.g3 p k'= [⟨some p,.map pL⟩])
 (ml:ah c ops Q rest E (loc ++ aV (cT hp p k'))):ah c ops Q (⟨none,.call ⟨.builtin .delete,#[x,y],#[t,t2]⟩,ty,pos,af,none⟩ :: rest) E (loc ++ aV hp):=fun a W s=>by
 subst vL
 obtain⟨es,clock,a9,ad,ay,aU⟩:=s.AF (ep (n:=loc.length) (by simp) hp' au)
 have kz:=sD.1 (al a W s)
 have n7:=a5 a W s
 obtain⟨r,aS,a8⟩:=F9 jV n7 ad
 have bE:(getObj p).run c.P W= .ok (.map es clock) W:=by simp [getObj,Sem.run,a9]
 have ak:=fun b=>jV.check b _ W _ i n7
 have kq:∀ o,(setObj p o).run c.P W= .ok () (W.putObj p o):=fun o=>by simp only [setObj,Sem.run,a9]; rfl
 have key:∃ lf,(Builtin.delete_ #[t,t2] ty #[a.eval x,a.eval y]).run c.P W= .ok (.tuple #[]) (W.putObj p (.map lf clock))∧jP (aL (loc ++ aV hp) ++ c.bX) W lf.toList (hj kv i)∧ (∀ x∈lf.toList,x.born < clock)∧ (lf.toList.map MapEntry.born).Nodup:=by
  cases oN:kK kv i 0 with
  | none=>
    rw [oN] at a8
    cases r with
    | some q=>exact a8.elim
    | none=>
      obtain⟨_,av⟩:=Gn ad oN
      exact⟨es,by simp [Builtin.delete_,Sem.run_bind,run_underlying hu,kz,bE,ak,aS,kq],by rw [av]; exact ad,ay,aU⟩
  | some q=>
    rw [oN] at a8
    cases r with
    | none=>exact a8.elim
    | some lq=>
      obtain⟨m,e,av,bm,_,_,oV⟩:=GP ad oN
      have iL:lq.1=m:=by have:=a8.1; omega
      have hm:m < es.size:=by simpa using (List.getElem?_eq_some_iff.1 bm).1
      have he:(es.eraseIdxIfInBounds m).toList=es.toList.eraseIdx m:=by simp [Array.eraseIdxIfInBounds,hm]
      have kp:(es.toList.eraseIdx m).Sublist es.toList:=List.eraseIdx_sublist _ _
      exact⟨es.eraseIdxIfInBounds m,by simp [Builtin.delete_,Sem.run_bind,run_underlying hu,kz,bE,ak,aS,kq,iL],by rw [he]; exact oV,by rw [he]; exact fun w hw=>ay w (kp.subset hw),by rw [he]; exact(kp.map _).nodup aU⟩
 obtain⟨lf,hB,aF,aR,dh⟩:=key
 obtain⟨R,aW,a2⟩:=tZ hp'
 have a2:=a2 k'
 rw [au] at aW
 rw [iX] at a2
 have dK:∀ {z:List (α × β)} {M:List aJ},M.Perm ([⟨some p,.map z⟩] ++ R)→ (loc ++ M).Perm (⟨some p,.map z⟩ :: (loc ++ R)):=fun h=>(h.append_left loc).trans (by simp only [List.singleton_append]; exact List.perm_middle)
 have b9:=(s.perm (dK aW)).pt (i:=0) (cp':= .map (hj kv i)) rfl (o':= .map lf clock) ⟨lf,clock,rfl,aF.mono (mq (dK aW)),aR,dh⟩
 refine g9 rfl (R:=fun v W'=>W'=W.putObj p (.map lf clock)) (.kj (v:= .tuple #[]) ?_ rfl) fun v W' hw=> ?_
 ·simp [execOp,resolve,invoke,builtin,hB]
 ·subst hw
  exact ml _ _ (b9.perm (dK a2).symm)
theorem ah.HO {rest:List Oper} {p key elem:Nat} {k k':bT} {cJ:aN bT} {α β:Type} [ag α] [ag β] [DecidableEq α] {kv pL:List (α × β)} {i:α} (n:Nat) (an:L.drop n=aV hp) (hu:c.P.underlying t=some (.map key elem)) (jV:nA c.P key α) (al:a7 c E L x (.of (⟨some p⟩:e2))) (a5:a7 c E L y (.of i)) (hp':pat hp p=some k) (au:eG.g3 p k= [⟨some p,.map kv⟩]) (vL:hj kv i=pL) (iX:eG.g3 p k'= [⟨some p,.map pL⟩]) (df:cT hp p k'=cJ) (ml:ah c ops Q rest E (L.take n ++ aV cJ)):ah c ops Q (⟨none,.call ⟨.builtin .delete,#[x,y],#[t,t2]⟩,ty,pos,af,none⟩ :: rest) E L:=by
 subst df
 have e:L=L.take n ++ aV hp:=by rw [← an,List.take_append_drop]
 clear an
 generalize L.take n=loc at *
 subst e
 exact ah.Vl hu jV al a5 hp' au vL iX ml
theorem Uc {p key elem:Nat} {α β:Type} [ag α] [ag β] {kv:List (α × β)} (hu:c.P.underlying t=some (.map key elem)) (al:a7 c E L x (.of (⟨some p⟩:e2))) (hm:(⟨some p,.map kv⟩:aJ)∈L):
 b4 c E L ⟨d,.call ⟨.builtin .len,#[x],#[t]⟩,ty,pos,af,g⟩ (.of (kv.length:Int)):= .pure fun a W s=>by
 obtain⟨es,clock,a9,ad,ay,aU⟩:=s.AF hm
 have kz:=sD.1 (al a W s)
 have bE:(getObj p).run c.P W= .ok (.map es clock) W:=by simp [getObj,Sem.run,a9]
 have ao:es.size=kv.length:=by simpa using ad.length
 refine⟨.int .i64 kv.length,?_,of_int.2 rfl⟩
 simp [execOp,resolve,invoke,builtin,Builtin.len_,kz,bE,ao,run_underlying hu,goInt]
end
theorem Vm {P:Program} {t:TypeId} (h:P.underlying t=some (.int .i64)):nA P t Int where
 check b A W u x al:=Lg (α:=Int) h rfl b 10000 A W u x (by decide) al
 same A W u v x y al a5:=by
  have:=(Mg h).run 10000 (by decide) A W u v x y al a5
  simpa [Op.equal,Op.maxDepth] using this
 now:=⟨_,h,fun A W u v x y al a5=> .inr (by
  rw [of_int.1 al,of_int.1 a5]
  simp only [Instr.sameNow,if_pos]
  rfl)⟩
theorem MU {P:Program} {t:TypeId} {α:Type} [ag α] [DecidableEq α] {D:TypeDesc} {n m:Nat} (h:P.underlying t=some D) (kA:(match (motive:=TypeDesc→Bool) D with | .array _ _ | .struct _=>true | _=>false)=true) (aaH:qF P t α n) (vZ:lP P t α m) (aP:Nat.ble n 10000=true) (hm:Nat.ble m 10000=true):nA P t α where
 check b A W u x al:=aaH b 10000 A W u x (Nat.le_of_ble_eq_true aP) al
 same A W u v x y al a5:=by
  have:=vZ.run 10000 (Nat.le_of_ble_eq_true hm) A W u v x y al a5
  simpa [Op.equal,Op.maxDepth] using this
 now:=⟨_,h,fun A W u v x y al a5=> .inl (by cases D <;> simp at kA <;> rfl)⟩
structure je (P:Program) (t:TypeId) (name:String) (f:FuncId):Prop where
 run:∀ v W args,(callMethod (.iface t v) name args).run P W= .ok (.enter f (#[v] ++ args)) W
theorem je.of {P:Program} {t:TypeId} {name:String} {f:FuncId} {i:TypeInfo} {D:TypeDesc} {m:Method} (ar:P.info? t=some i) (hm:i.methods.find? (fun x=>x.name ==name)=some m) (hp:m.path= #[]) (a8:m.func=some (f,false)) (kA:P.underlying t=some D)
 (aP:(match (motive:=TypeDesc→Bool) D with | .pointer _=>false | _=>true)=true) (eg:bM P f):je P t name f where
 run v W args:=by
  have ZV:∀ args,(callFunc f args).run P W= .ok (.enter f args) W:=fun args=>eg.run ..
  have en:∀ n,(method (n + 1) t v name).run P W= .ok (f,v) W:=fun n=>by
   simp only [method,Sem.run_bind,typeInfo,run_program,Result.andThen_ok,ar,Sem.run_pure,hm,hp,a8,follow,receiverAt,run_underlying kA]
   cases D <;> simp at aP <;> simp [Place.get]
  obtain⟨n,aP⟩:∃ n,P.types.size + Made.depth=n + 1:=⟨P.types.size + Made.depth - 1,by simp [Made.depth]⟩
  simp only [callMethod,Sem.run_bind,run_program,Result.andThen_ok,aP,en,ZV]
theorem je.r1 {P:Program} {t:TypeId} {name:String} {f:FuncId} {D:TypeDesc} (hm:((P.info? t).bind fun i=>(i.methods.find? (fun x=>x.name ==name)).map fun m=>(m.path.size,m.func))=some (0,some (f,false))) (kA:P.underlying t=some D)
 (aP:(match (motive:=TypeDesc→Bool) D with | .pointer _=>false | _=>true)=true) (eg:bM P f):je P t name f:=by
 cases ar:P.info? t with
 | none=>rw [ar] at hm; cases hm
 | some i=>
   rw [ar] at hm
   simp only [Option.bind_some] at hm
   cases ad:i.methods.find? (fun x=>x.name ==name) with
   | none=>rw [ad] at hm; cases hm
   | some m=>
     rw [ad] at hm
     simp only [Option.map_some,Option.some.injEq,Prod.mk.injEq] at hm
     exact je.of ar ad (Array.eq_empty_of_size_eq_zero hm.1) hm.2 kA aP eg
theorem bO.map {P:Program} {f:FuncId} {τs:List I} {Lin:List aJ} {δ Jd:Type} {ρ:δ→I} {Lo:δ→List aJ} {BT:Jd→I} {Pm:Jd→List aJ} (F:δ→Jd) (aS:∀ d,BT (F d)=ρ d) (ao:∀ d,Pm (F d)=Lo d) (h:bO P f τs Lin ρ Lo):bO P f τs Lin BT Pm:=
 fun A W vs J ad ay aU a0=>(h A W vs J ad ay aU a0).mono fun e W' ⟨v,d,ax,et,cr,mh,eu,lk⟩=>⟨v,F d,ax,et,by rw [ao]; exact cr,by rw [ao]; exact mh,by rw [ao]; exact eu,by rw [ao,aS]; exact lk⟩
structure lz (P:Program) (name:String) (τ:I) (τs:List I) (Lin:List aJ) {δ:Type} (ρ:δ→I) (Lo:δ→List aJ):Prop where
 go:∀ (A:List Nat) (W:World) (u:Value) (vs:List Value),(∀ k∈A,k < W.heap.size∧k ∉ aL Lin)→ (aL Lin).Nodup→ (∀ k∈aL Lin,k < W.heap.size)→ (∀ e∈Lin,e.ok (aL Lin ++ A) W)→gb (aL Lin ++ A) W (τ :: τs) (u :: vs)→
  ∃ f v,(∀ args,(callMethod u name args).run P W= .ok (.enter f (#[v] ++ args)) W)∧Calls P f (v :: vs).toArray W (j1 (aL Lin) A W ρ Lo)
theorem lz.of {P:Program} {name:String} {t:TypeId} {f:FuncId} {τ σ:I} {τs:List I} {Lin:List aJ} {δ:Type} {ρ:δ→I} {Lo:δ→List aJ} (mt:je P t name f) (Je:∀ A W u,τ.holds A W u→ ∃ v,u= .iface t v∧σ.holds A W v)
 (h:bO P f (σ :: τs) Lin ρ Lo):lz P name τ τs Lin ρ Lo where
 go A W u vs J ad ay aU a0:=by
  cases a0 with
  | cons bl cP=>
    obtain⟨v,rfl,eL⟩:=Je _ _ _ bl
    exact⟨f,v,fun args=>mt.run v W args,h A W (v :: vs) J ad ay aU (.cons eL cP)⟩
section
variable {c:c5} {E:List (Nat × I)} {L:List aJ} {ops:Array Oper} {Q:Exit→Act→World→Prop}
variable {d:Option Tmp} {ty:TypeId} {pos:String} {af:Array Edge} {g:Option (Nat × Bool)} {x y z:Operand} {t t2:TypeId}
theorem LC {a:Act} {W:World} {name:String} {xs:List Operand} {ats:Array TypeId} {τ:I} {τs:List I} {Lin Lr:List aJ} {δ:Type} {ρ:δ→I} {Lo:δ→List aJ} (h:lz c.P name τ τs Lin ρ Lo)
 (s:bw c E (Lin ++ Lr) a W) (al:gb (aL (Lin ++ Lr) ++ c.bX) W (τ :: τs) ((x :: xs).map a.eval)):
 gj c.P ⟨d,.call ⟨.invoke x name,xs.toArray,ats⟩,ty,pos,af,g⟩ a W fun v W'=> ∃ bb,bw c E (Lo bb ++ Lr) a W'∧ (ρ bb).holds (aL (Lo bb ++ Lr) ++ c.bX) W' v:=by
 have lH:=s.nodup
 rw [eB] at lH
 obtain⟨lS,mN,pF⟩:=List.nodup_append.1 lH
 have kq:Ext (aL (Lin ++ Lr) ++ c.bX) W (aL Lin ++ (aL Lr ++ c.bX)) W:=zK
 have gv:∀ k∈aL Lr ++ c.bX,k < W.heap.size∧k ∉ aL Lin:=fun k hm=>by
  rcases List.mem_append.1 hm with hm | hm
  ·exact⟨s.lt k (by rw [eB]; exact List.mem_append.2 (.inr hm)),fun h=>pF k h k hm rfl⟩
  ·obtain⟨J,ad⟩:=s.eF k hm
   exact⟨J,fun h=>ad (by rw [eB]; exact List.mem_append.2 (.inl h))⟩
 have cb:∀ k∈aL Lin,k < W.heap.size:=fun k hm=>s.lt k (by rw [eB]; exact List.mem_append.2 (.inl hm))
 obtain⟨f,v,hB,ak⟩:=h.go (aL Lr ++ c.bX) W (a.eval x) (xs.map a.eval) gv lS cb (fun e he=>aJ.sB (s.own e (List.mem_append.2 (.inl he))) kq fun _ _=>rfl) (by simpa using al.mono kq)
 refine .uf (f:=f) (args:=(v :: xs.map a.eval).toArray) (W':=W) ?_ (ak.mono fun e W' ⟨v,bb,he,a8,J,ad,ay,aU⟩=> ?_)
 ·have:=hB (xs.map a.eval).toArray
  simp only [execOp,resolve,Sem.run_bind,Sem.run_pure,Result.andThen_ok,invoke]
  simp only [List.map_toArray] at this ⊢
  simp
  rw [List.take_of_length_le (by simp),this]
  simp
 ·refine⟨v,he,bb,s.after a8 J ad ay,(ρ bb).mono GO aU⟩
variable {bT:Type} [eG bT] {hp:aN bT}
theorem ah.AU {rest:List Oper} {bb:Nat} {name:String} {xs:List Operand} {ats:Array TypeId} {τ:I} {τs:List I} {Lin Lr:List aJ} {δ:Type} {ρ:δ→I} {Lo:δ→List aJ} {hq:δ→aN bT} (n m:Nat) (an:L.drop n=aV hp) (h:lz c.P name τ τs (Lin ++ aV hp) ρ (fun d=>Lo d ++ aV (hq d)))
 (J:(L.take n).take m=Lin) (ad:(L.take n).drop m=Lr) (al:ha c E L (x :: xs) (τ :: τs)) (aP:Nat.blt bb c.n=true) (k:∀ q,ah c ops Q rest ((bb,ρ q) :: E) ((Lo q ++ Lr) ++ aV (hq q))):
 ah c ops Q (⟨some bb,.call ⟨.invoke x name,xs.toArray,ats⟩,ty,pos,af,none⟩ :: rest) E L:=by
 have e:L=(Lin ++ Lr) ++ aV hp:=by rw [← J,← ad,List.take_append_drop,← an,List.take_append_drop]
 clear an J ad
 subst e
 exact fun a W s=>g9 rfl (LC (Lr:=Lr) h (s.perm m0) ((al.holds a W s).mono (mq m0))) fun v W' ⟨q,b9,a6⟩=>
  k q _ _ ((b9.perm m0).put (by simpa using aP) ((ρ q).mono (mq m0) a6))
theorem fS.AU {name:String} {xs:List Operand} {ats:Array TypeId} {τ:I} {τs:List I} {ρ:I} (n:Nat) (an:L.drop n=aV hp) (h:lz c.P name τ τs (aV hp) (fun _:Unit=>ρ) (fun _=>aV hp))
 (al:ha c E L (x :: xs) (τ :: τs)):fS c E L ⟨d,.call ⟨.invoke x name,xs.toArray,ats⟩,ty,pos,af,g⟩ ρ:=fun a W s=>by
 have e:L=L.take n ++ aV hp:=by rw [← an,List.take_append_drop]
 have dK:L.Perm (aV hp ++ L.take n):=by
  conv=>lhs; rw [e]
  exact List.perm_append_comm
 have a9:=LC (d:=d) (ty:=ty) (pos:=pos) (af:=af) (g:=g) (ats:=ats) (Lr:=L.take n) h (s.perm dK) ((al.holds a W s).mono (mq dK))
 unfold gj at a9 ⊢
 exact Oper.wp_mono (fun fY W' ⟨v,J,_,ad,ay⟩=>⟨v,J,ad.perm dK.symm,ρ.mono (mq dK.symm) ay⟩) a9
theorem Hm {D:TypeDesc} {σ τ:I} (hu:c.P.underlying t=some D) (kA:(match (motive:=TypeDesc→Bool) D with | .interface _=>false | _=>true)=true) (al:a7 c E L x σ) (Je:∀ A W v,σ.holds A W v→τ.holds A W (.iface t v)):
 b4 c E L ⟨d,.makeInterface t x,ty,pos,af,g⟩ τ:= .pure fun a W s=>
 ⟨.iface t (a.eval x),by
   simp only [execOp,Instr.makeInterface,Sem.run_bind,run_underlying hu,Result.andThen_ok]
   cases D <;> simp at kA <;> rfl,Je _ _ _ (al a W s)⟩
end
end Gv
