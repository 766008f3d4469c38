/-
  The library of the decompiler, as far as it is needed here. Conditions: none.
-/
import Derived.Lib.AppendZerosOnto
import Derived.Lib.Overlaps
import Derived.MapKept
import Derived.Test.YtmnggbjcnoffeaaGreatMl0
set_option linter.unusedVariables false
set_option linter.unusedSimpArgs false
namespace Gv
open Go
def ke:Value:= .slice none 0 0
def blank:List (Nat × Value)→List Value→List Value
 | [],cs=>cs
 | o :: r,cs=>blank r (cs.set o.1 ke)
theorem Af:∀ {os:List (Nat × Value)} {cs:List Value},(blank os cs).length=cs.length
 | [],_=>rfl
 | o :: r,cs=>by rw [blank,Af,List.length_set]
theorem qF:∀ {os:List (Nat × Value)} {cs:List Value} (i:Nat),(blank os cs)[i]? =if os.any (fun h=>Nat.beq h.1 i)=true then cs[i]?.map (fun _=>ke) else cs[i]?
 | [],_,i=>by simp [blank]
 | o :: r,cs,i=>by
   rw [blank,qF i,List.any_cons]
   by_cases h:o.1=i
   ·subst h
    simp only [Nat.beq_refl,Bool.true_or,if_true,List.getElem?_set]
    by_cases ao:o.1 < cs.length
    ·simp [ao]
    ·simp [ao]
   ·have hb:Nat.beq o.1 i=false:=by
     cases hb:Nat.beq o.1 i
     ·rfl
     ·exact absurd (eh.1 hb) h
    rw [hb,Bool.false_or,List.getElem?_set_ne h]
def ts (os:List (Nat × Value)) (off n:Nat):Bool:=os.all fun h=>Nat.blt h.1 off || Nat.ble (off + n) h.1
theorem LQ {os:List (Nat × Value)} {off n i:Nat} (h:ts os off n=true) (J:off≤i) (ad:i < off + n):os.any (fun h=>Nat.beq h.1 i)=false:=by
 rw [List.any_eq_false]
 intro x an hb
 have aC:=List.all_eq_true.1 h x an
 have aU:=eh.1 hb
 simp only [Bool.or_eq_true,Nat.blt_eq,Nat.ble_eq] at aC
 omega
theorem Ua {os:List (Nat × Value)} {off n:Nat} {cs:List Value} (h:ts os off n=true):((blank os cs).drop off).take n=(cs.drop off).take n:=by
 apply List.ext_getElem?
 intro i
 simp only [List.getElem?_take,List.getElem?_drop]
 split
 ·rw [qF,LQ h (by omega) (by omega)]; rfl
 ·rfl
theorem uV {cs ds:List Value} {off:Nat} (h:off + ds.length≤cs.length) (i:Nat):(fW cs off ds)[i]? =if i < off then cs[i]? else if i < off + ds.length then ds[i - off]? else cs[i]? :=by
 have J:(cs.take off).length=off:=by rw [List.length_take]; omega
 unfold fW
 rw [List.append_assoc]
 by_cases au:i < off
 ·rw [if_pos au,List.getElem?_append_left (by omega),List.getElem?_take,if_pos au]
 ·rw [if_neg au,List.getElem?_append_right (by omega),J]
  by_cases ad:i < off + ds.length
  ·rw [if_pos ad,List.getElem?_append_left (by omega)]
  ·rw [if_neg ad,List.getElem?_append_right (by omega),List.getElem?_drop]
   congr 1; omega
theorem SZ {os:List (Nat × Value)} {off:Nat} {cs ds:List Value} (h:ts os off ds.length=true) (hs:off + ds.length≤cs.length):blank os (fW cs off ds)=fW (blank os cs) off ds:=by
 apply List.ext_getElem?
 intro i
 rw [qF,uV hs,uV (by rw [Af]; exact hs),qF]
 by_cases J:i < off
 ·simp only [if_pos J]
 ·simp only [if_neg J]
  by_cases ad:i < off + ds.length
  ·simp only [if_pos ad,LQ h (Nat.not_lt.1 J) ad]; rfl
  ·simp only [if_neg ad]
def tk (os:List (Nat × Value)) (o:Nat) (u:Value):List (Nat × Value):=
 bif os.any (fun h=>Nat.beq h.1 o) then os.map (fun h=>bif Nat.beq h.1 o then(o,u) else h) else(o,u) :: os
theorem Td {os:List (Nat × Value)} {o:Nat} {u:Value} {h:Nat × Value} (hm:h∈tk os o u):h=(o,u)∨ (h∈os∧h.1≠o):=by
 unfold tk at hm
 cases hb:os.any (fun h=>Nat.beq h.1 o)
 ·rw [hb] at hm
  simp only [cond_false] at hm
  rcases List.mem_cons.1 hm with hm | hm
  ·exact .inl hm
  ·refine .inr ⟨hm,fun e=> ?_⟩
   have:=List.any_eq_false.1 hb h hm
   exact this (eh.2 e)
 ·rw [hb] at hm
  simp only [cond_true] at hm
  obtain⟨x,an,he⟩:=List.mem_map.1 hm
  cases J:Nat.beq x.1 o
  ·rw [J] at he
   simp only [cond_false] at he
   subst he
   exact .inr ⟨an,fun e=>by rw [eh.2 e] at J; cases J⟩
  ·rw [J] at he
   exact .inl he.symm
theorem Te {os:List (Nat × Value)} {o i:Nat} {u:Value} :(tk os o u).any (fun h=>Nat.beq h.1 i)=(Nat.beq o i || os.any (fun h=>Nat.beq h.1 i)):=by
 unfold tk
 cases hb:os.any (fun h=>Nat.beq h.1 o)
 ·simp only [cond_false,List.any_cons]
 ·simp only [cond_true,List.any_map]
  rw [Bool.eq_iff_iff,Bool.or_eq_true,List.any_eq_true,List.any_eq_true]
  constructor
  ·rintro ⟨x,an,he⟩
   simp only [Function.comp] at he
   cases J:Nat.beq x.1 o
   ·rw [J] at he
    exact .inr ⟨x,an,he⟩
   ·rw [J] at he
    exact .inl he
  ·rintro (h | ⟨x,an,he⟩)
   ·obtain⟨x,an,J⟩:=List.any_eq_true.1 hb
    exact⟨x,an,by simp only [Function.comp,J,cond_true]; exact h⟩
   ·refine⟨x,an,?_⟩
    simp only [Function.comp]
    cases J:Nat.beq x.1 o
    ·exact he
    ·have av:=eh.1 J; have aX:=eh.1 he
     simp only [cond_true]; exact eh.2 (by omega)
def nP (os:List (Nat × Value)) (o:Nat):List (Nat × Value):=os.filter (fun h=> !Nat.beq h.1 o)
theorem Tf {os:List (Nat × Value)} {o i:Nat} :(nP os o).any (fun h=>Nat.beq h.1 i)=(!(Nat.beq o i) && os.any (fun h=>Nat.beq h.1 i)):=by
 rw [Bool.eq_iff_iff]
 simp only [List.any_eq_true,Bool.and_eq_true,Bool.not_eq_true',nP,List.mem_filter]
 constructor
 ·rintro ⟨x,⟨J,ad⟩,aC⟩
  refine⟨?_,x,J,aC⟩
  cases hb:Nat.beq o i
  ·rfl
  ·have:=eh.1 hb; have aU:=eh.1 aC
   rw [aU,← this,Nat.beq_refl] at ad; cases ad
 ·rintro ⟨bI,x,J,aC⟩
  refine⟨x,⟨J,?_⟩,aC⟩
  cases hb:Nat.beq x.1 o
  ·rfl
  ·have:=eh.1 hb; have aU:=eh.1 aC
   rw [← this,aU,Nat.beq_refl] at bI; cases bI
def lu {α:Type} [ai α] (A:List Nat) (W:World) (cs:List Value) (x:α) (os:List (Nat × Value)):Prop:=ai.rep A W (blank os cs) x∧ ∀ h∈os,cs[h.1]? =some h.2∧h.2.oneCell'=true
theorem lu.len {α:Type} [ai α] {A W} {cs:List Value} {x:α} {os:List (Nat × Value)} (h:lu A W cs x os):cs.length=ai.size α:=by rw [← Af (os:=os)]; exact ai.len h.1
theorem lu.mono {α:Type} [ai α] {A W c5 W'} {cs:List Value} {x:α} {os:List (Nat × Value)} (e:Ext A W c5 W') (h:lu A W cs x os):lu c5 W' cs x os:=⟨ai.mono e h.1,h.2⟩
theorem lu.one {α:Type} [ai α] {A W} {cs:List Value} {x:α} {os:List (Nat × Value)} (h:lu A W cs x os):∀ u∈cs,u.oneCell'=true:=by
 intro u hu
 obtain⟨i,au⟩:=List.mem_iff_getElem?.1 hu
 by_cases hb:os.any (fun h=>Nat.beq h.1 i)=true
 ·obtain⟨o,bb,he⟩:=List.any_eq_true.1 hb
  have he:=eh.1 he
  obtain⟨J,ad⟩:=h.2 o bb
  rw [he,au] at J
  cases J; exact ad
 ·have J:=qF (os:=os) (cs:=cs) i
  rw [if_neg hb,au] at J
  exact ai.one h.1 u (List.mem_of_getElem? J)
def dB.b4 {α:Type} [ai α] (x:α) (os:List (Nat × Value)):dB where
 holds A W o:= ∃ cs T,o= .cells cs T (0,0)∧lu A W cs.toList x os
 mJ:=False
 mono e h:=let⟨cs,T,bb,aR⟩:=h; ⟨cs,T,bb,aR.mono e⟩
def I.JE {α:Type} [ai α] (x:α) (os:List (Nat × Value)):I where
 holds A W v:=shaped (ai.agg α) v∧lu A W v.cells.toList x os
 mono e h:=⟨h.1,h.2.mono e⟩
structure fN where
 v:Value
instance:ai fN where
 size:=1
 agg:=false
 rep _ _ cs x:=cs= [x.v]∧x.v.oneCell'=true
 len h:=by rw [h.1]; rfl
 one h:=by rw [h.1]; intro u hu; rw [List.mem_singleton.1 hu]; exact h.2
 flat _:=rfl
 mono _ h:=h
theorem O3 {A W v} {u:Value} :(I.of (⟨u⟩:fN)).holds A W v↔v=u∧u.oneCell'=true:=by
 constructor
 ·rintro ⟨J,ad,aC⟩
  have J:v.oneCell'=true:=J
  exact⟨oq J ad,aC⟩
 ·rintro ⟨rfl,h⟩
  exact⟨h,by show v.cells.toList= [v]∧_; rw [ot h]; exact⟨rfl,h⟩⟩
theorem bw.ex {P:Program} {t:TypeId} {γ:Type} [ai γ] (h:bw P t (List γ)):bw P t fN:=⟨h.size,h.Qf⟩
theorem jc {key:Option Nat} {n cap:Nat} :(a2 key n cap).oneCell'=true:=by cases key <;> rfl
theorem Vz {A W} {γ:Type} [ai γ]:ai.rep A W [ke] ([]:List γ):=⟨ke,rfl,.inl ⟨rfl,rfl⟩⟩
theorem Mu {α γ:Type} [ai α] [ai γ] {A W} {cs ds:List Value} {x:α} {v:γ} {os:List (Nat × Value)} (l:aN α γ) (h:lu A W cs x os) (hd:ai.rep A W ds v) (bj:ts os l.off (ai.size γ)=true):lu A W (fW cs l.off ds) (l.set x v) os:=by
 have J:=h.len
 have eu:=l.gv
 have ao:=ai.len hd
 refine⟨?_,fun o hm=> ?_⟩
 ·have bk:=l.lj h.1 hd
  rw [SZ (by rw [ao]; exact bj) (by rw [ao]; omega)]
  simpa [fW,ao] using bk
 ·refine⟨?_,(h.2 o hm).2⟩
  rw [uV (by rw [ao]; omega)]
  have cT:=List.all_eq_true.1 bj o hm
  simp only [Bool.or_eq_true,Nat.blt_eq,Nat.ble_eq] at cT
  rw [ao]
  by_cases fa:o.1 < l.off
  ·rw [if_pos fa]; exact(h.2 o hm).1
  ·rw [if_neg fa,if_neg (by omega)]; exact(h.2 o hm).1
theorem Mb {α γ:Type} [ai α] [ai γ] {A W} {cs:List Value} {x:α} {u:Value} {os:List (Nat × Value)} (l:aN α (List γ)) (h:lu A W cs x os) (hu:u.oneCell'=true):lu A W (fW cs l.off [u]) (l.set x []) (tk os l.off u):=by
 have J:=h.len
 have eu:l.off + 1≤ai.size α:=l.gv
 refine⟨?_,fun o hm=> ?_⟩
 ·have bk:ai.rep A W ((blank os cs).take l.off ++ [ke] ++ (blank os cs).drop (l.off + 1)) (l.set x []):=l.lj h.1 (Vz (γ:=γ))
  have e:blank (tk os l.off u) (fW cs l.off [u])=fW (blank os cs) l.off [ke]:=by
   apply List.ext_getElem?
   intro i
   rw [qF,uV (by simp; omega),uV (by rw [Af]; simp; omega),qF]
   rw [Te]
   by_cases au:l.off=i
   ·subst au
    simp
   ·have hb:Nat.beq l.off i=false:=by
     cases hb:Nat.beq l.off i
     ·rfl
     ·exact absurd (eh.1 hb) au
    rw [hb]
    simp only [Bool.false_or,List.length_singleton]
    by_cases ad:i < l.off
    ·simp only [if_pos ad]
    ·have fX: ¬ i < l.off + 1:=by omega
     simp only [if_neg ad,if_neg fX]
  rw [e]
  simpa [fW] using bk
 ·rw [uV (by simp; omega)]
  rcases Td hm with rfl | ⟨aC,c6⟩
  ·exact⟨by simp,hu⟩
  ·
   simp only [List.length_singleton]
   refine⟨?_,(h.2 o aC).2⟩
   by_cases fa:o.1 < l.off
   ·rw [if_pos fa]; exact(h.2 o aC).1
   ·rw [if_neg fa,if_neg (by omega)]; exact(h.2 o aC).1
theorem Mc {α γ:Type} [ai α] [ai γ] {A W} {cs:List Value} {x:α} {u:Value} {xs:List γ} {os:List (Nat × Value)} (l:aN α (List γ)) (h:lu A W cs x os) (hm:(l.off,u)∈os) (hs:og A W u xs):lu A W cs (l.set x xs) (nP os l.off):=by
 have J:=h.len
 have eu:l.off + 1≤ai.size α:=l.gv
 have aaQ:=(h.2 _ hm).1
 refine⟨?_,fun o bb=>h.2 o (List.mem_filter.1 bb).1⟩
 have bk:ai.rep A W ((blank os cs).take l.off ++ [u] ++ (blank os cs).drop (l.off + 1)) (l.set x xs):=l.lj h.1 (ds:= [u]) (g:=xs) ⟨u,rfl,hs⟩
 have e:blank (nP os l.off) cs=fW (blank os cs) l.off [u]:=by
  apply List.ext_getElem?
  intro i
  rw [qF,uV (by rw [Af]; simp; omega),qF,Tf]
  by_cases au:l.off=i
  ·subst au
   simp [aaQ]
  ·have hb:Nat.beq l.off i=false:=by
    cases hb:Nat.beq l.off i
    ·rfl
    ·exact absurd (eh.1 hb) au
   rw [hb]
   simp only [Bool.not_false,Bool.true_and,List.length_singleton]
   by_cases ad:i < l.off
   ·simp only [if_pos ad]
   ·have fX: ¬ i < l.off + 1:=by omega
    simp only [if_neg ad,if_neg fX]
 rw [e]
 simpa [fW] using bk
section
variable {c:dd} {E:List (Nat × I)} {L:List aM} {ops:Array Oper} {Q:Exit→Act→World→Prop}
variable {d:Option Tmp} {ty:TypeId} {pos:String} {af:Array Edge} {g:Option (Nat × Bool)} {x y:Operand} {t t2:TypeId}
theorem bx.x5 {a:Act} {W:World} (s:bx c E L a W) {i:Nat} {key:Option Nat} {cp cp':dB} (al:L[i]? =some ⟨key,cp⟩) (h:∀ o,cp.holds (aQ L ++ c.bT) W o→cp'.holds (aQ L ++ c.bT) W o) (aO:cp.mJ→cp'.mJ):bx c E (L.set i ⟨key,cp'⟩) a W:=by
 have hh:aQ (L.set i ⟨key,cp'⟩)=aQ L:=x2 (e:=⟨key,cp⟩) (cp:=cp') al
 exact
 {defers:=s.defers
  size:=s.size
  env:=fun t τ ao=>by rw [hh]; exact s.env t τ ao
  dG:=s.dG
  own:=fun e he=>by
   rw [hh]
   obtain⟨j,aH⟩:=List.mem_iff_getElem?.1 he
   rw [List.getElem?_set] at aH
   split at aH
   ·split at aH
    ·simp only [Option.some.injEq] at aH
     subst aH
     have bb:=s.own _ (List.mem_of_getElem? al)
     cases key with
     | none=>exact aO bb
     | some p=>obtain⟨o,J,ad⟩:=bb; exact⟨o,J,h _ ad⟩
    ·cases aH
   ·exact s.own e (List.mem_of_getElem? aH)
  nodup:=by rw [hh]; exact s.nodup
  lt:=by rw [hh]; exact s.lt
  fR:=by rw [hh]; exact s.fR
  eW:=by rw [hh]; exact s.eW }
theorem ah.pd {l:List Oper} {p:Nat} {β:Type} [ai β] {b:β} (i:Nat) (al:L[i]? =some ⟨some p,.b4 b []⟩) (k:ah c ops Q l E (L.set i ⟨some p,.var b⟩)):ah c ops Q l E L:=fun a W s=>
 k a W (s.x5 al (fun o ⟨cs,T,J,ad⟩=>⟨cs,T,J,ad.1⟩) id)
theorem ae.pd {z:Exit} {p:Nat} {β:Type} [ai β] {b:β} (i:Nat) (al:L[i]? =some ⟨some p,.b4 b []⟩) (k:ae c Q z E (L.set i ⟨some p,.var b⟩)):ae c Q z E L:=fun a W s=>
 k a W (s.x5 al (fun o ⟨cs,T,J,ad⟩=>⟨cs,T,J,ad.1⟩) id)
theorem ag.pd {z:Code} {p:Nat} {β:Type} [ai β] {b:β} (i:Nat) (al:L[i]? =some ⟨some p,.b4 b []⟩) (k:ag c Q z E (L.set i ⟨some p,.var b⟩)):ag c Q z E L:=fun a W s=>
 k a W (s.x5 al (fun o ⟨cs,T,J,ad⟩=>⟨cs,T,J,ad.1⟩) id)
def H4:Option Value→Bool
 | some (.slice none 0 0)=>true
 | _=>false
theorem LR {v:Option Value} (h:H4 v=true):v=some ke:=by
 unfold H4 at h
 split at h
 ·rfl
 ·cases h
def jJ (P:Program) (t:TypeId) (hs:List Nat):Prop:=((P.info? t).bind (·.zero)).any (fun v=>hs.all fun o=>H4 v.cells.toList[o]?)=true
theorem GY:∀ {os:List (Nat × Value)} {cs:List Value},(∀ h∈os,cs[h.1]? =some ke)→blank os cs=cs
 | [],_,_=>rfl
 | o :: r,cs,h=>by
   have J:=h o (by simp)
   have e:cs.set o.1 ke=cs:=by
    apply List.ext_getElem?
    intro i
    rw [List.getElem?_set]
    split
    ·rename_i he; subst he
     have:=(List.getElem?_eq_some_iff.1 J).1
     rw [if_pos this,J]
    ·rfl
   rw [blank,e]
   exact GY fun x an=>h x (by simp [an])
theorem ah.pa {rest:List Oper} {a7:Nat} {α:Type} [ai α] {z:α} (hs:List Nat) (sP:jJ c.P t hs) (gL:cF c.P t z) (aO:Nat.blt a7 c.n=true)
 (k:∀ p,ah c ops Q rest ((a7,.eq (.pointer (some ⟨p,0,none⟩))) :: E) (⟨some p,.b4 z (hs.map fun o=>(o,ke))⟩ :: L)):ah c ops Q (⟨some a7,.alloc t,ty,pos,af,none⟩ :: rest) E L:=fun a W s=>by
 obtain⟨i,ee,J,ad,aC⟩:=gL.zero
 have b3:∀ o∈hs,ee.cells.toList[o]? =some ke:=fun o bb=>by
  unfold jJ at sP
  rw [J] at sP
  simp only [Option.bind_some,ad,Option.any_some] at sP
  exact LR (List.all_eq_true.1 sP o bb)
 have Ql:∀ h∈hs.map (fun o=>(o,ke)),ee.cells.toList[h.1]? =some h.2:=fun h hm=>by
  obtain⟨o,bb,rfl⟩:=List.mem_map.1 hm
  exact b3 o bb
 refine hy rfl (R:=fun v W'=>v= .pointer (some ⟨W.heap.size,0,none⟩)∧W'=W.alloc (.cells ee.cells t)) (.kx ?_ ⟨rfl,rfl⟩) fun v W' ⟨a0,hw⟩=> ?_
 ·simp [execOp,Instr.alloc,zeroValue,typeInfo,J,ad,newVar,newRow]
 ·subst a0
  subst hw
  refine k _ _ _ ((s.alloc (cp:= .b4 z (hs.map fun o=>(o,ke))) ⟨ee.cells,t,rfl,?_,fun h hm=>⟨Ql h hm,by obtain⟨o,_,rfl⟩:=List.mem_map.1 hm; rfl⟩⟩).put (by simpa using aO) rfl)
  rw [GY fun h hm=>by rw [Ql h hm]; obtain⟨o,_,rfl⟩:=List.mem_map.1 hm; rfl]
  exact(aC _ _).2
theorem ah.Y7 {rest:List Oper} {a7:Nat} {α:Type} [ai α] {z:α} {os:List (Nat × Value)} (an:a9 c E L x (.JE z os)) (aO:Nat.blt a7 c.n=true)
 (k:∀ p,ah c ops Q rest ((a7,.eq (.pointer (some ⟨p,0,none⟩))) :: E) (⟨some p,.b4 z os⟩ :: L)):ah c ops Q (⟨some a7,.box t x,ty,pos,af,none⟩ :: rest) E L:=fun a W s=>by
 refine hy rfl (R:=fun v W'=>v= .pointer (some ⟨W.heap.size,0,none⟩)∧W'=W.alloc (.cells (a.eval x).cells t)) (.kx ?_ ⟨rfl,rfl⟩) fun v W' ⟨a0,hw⟩=> ?_
 ·simp [execOp,Instr.box,newVar,newRow]
 ·subst a0
  subst hw
  obtain⟨J,ad⟩:=an a W s
  exact k _ _ _ ((s.alloc (cp:= .b4 z os) ⟨_,t,rfl,ad⟩).put (by simpa using aO) rfl)
theorem D6 {t:TypeId} {i p o:Nat} {β γ:Type} [ai β] [ai γ] {b:β} {os:List (Nat × Value)} (l:aN β γ) {r:γ} (eI:bw c.P t γ) (an:a9 c E L x (.eq (.pointer (some ⟨p,o,none⟩))))
 (al:L[i]? =some ⟨some p,.b4 b os⟩) (bb:o=l.off) (aR:l.get b=r) (bj:ts os l.off (ai.size γ)=true):bS c E L ⟨d,.load t x,ty,pos,af,g⟩ (.of r):= .pure fun a W s=>by
 subst bb
 subst aR
 obtain⟨j0,eG,cs,T,rfl,fS⟩:=s.own _ (List.mem_of_getElem? al)
 have J:cs.toList.length=ai.size β:=fS.len
 have a1:=l.iv fS.1
 rw [Ua bj] at a1
 obtain⟨v,ad,aC⟩:=uK (A:=aQ L ++ c.bT) eI eG (by have:=l.gv; simp at J; omega) a1
 refine⟨v,?_,aC⟩
 have aU:a.eval x=_:=an a W s
 simp [execOp,Instr.loadAt,Instr.sureAddr,aU,ad]
theorem VA {cs:List Value} {o:Nat} {u:Value} (h:cs[o]? =some u):(cs.drop o).take 1= [u]:=by
 apply List.ext_getElem?
 intro i
 rw [List.getElem?_take,List.getElem?_drop]
 cases i with
 | zero=>simpa using h
 | succ i=>simp
theorem ih {t:TypeId} {i p o q:Nat} {β γ:Type} [ai β] [ai γ] {b:β} {os:List (Nat × Value)} {u:Value} (eI:bw c.P t (List γ)) (an:a9 c E L x (.eq (.pointer (some ⟨p,o,none⟩))))
 (al:L[i]? =some ⟨some p,.b4 b os⟩) (hq:os[q]? =some (o,u)):bS c E L ⟨d,.load t x,ty,pos,af,g⟩ (.eq u):= .pure fun a W s=>by
 obtain⟨j0,eG,cs,T,rfl,fS,b3⟩:=s.own _ (List.mem_of_getElem? al)
 obtain⟨a1,hu⟩:=b3 _ (List.mem_of_getElem? hq)
 have b5:o < cs.size:=by have:=(List.getElem?_eq_some_iff.1 a1).1; simpa using this
 obtain⟨v,ad,aC⟩:=uK (α:=fN) (x:=⟨u⟩) (A:=aQ L ++ c.bT) eI.ex eG (show o + 1≤cs.size by omega) ⟨VA a1,hu⟩
 refine⟨v,?_,(O3.1 aC).1⟩
 have aU:a.eval x=_:=an a W s
 simp [execOp,Instr.loadAt,Instr.sureAddr,aU,ad]
theorem ah.tp {t:TypeId} {rest:List Oper} {i p o:Nat} {β γ:Type} [ai β] [ai γ] {b b':β} {v:γ} {os:List (Nat × Value)} (l:aN β γ) (eI:bw c.P t γ) (an:a9 c E L x (.eq (.pointer (some ⟨p,o,none⟩))))
 (a5:a9 c E L y (.of v)) (al:L[i]? =some ⟨some p,.b4 b os⟩) (bb:o=l.off) (hb:l.set b v=b') (bj:ts os l.off (ai.size γ)=true)
 (k:ah c ops Q rest E (L.set i ⟨some p,.b4 b' os⟩)):ah c ops Q (⟨none,.store t x y,ty,pos,af,none⟩ :: rest) E L:=fun a W s=>by
 subst bb
 subst hb
 obtain⟨j0,eG,cs,T,rfl,fS⟩:=s.own _ (List.mem_of_getElem? al)
 have J:cs.toList.length=ai.size β:=fS.len
 have eu:=l.gv
 have a0:=a5 a W s
 have ad:=z2 (A:=aQ L ++ c.bT) eI eG (off:=l.off) (by simp at J; omega) a0
 have aU:a.eval x=_:=an a W s
 refine hy rfl (R:=fun v W'=>W'=W.setRow p (fW cs.toList l.off (a.eval y).cells.toList).toArray) (.xT ?_ rfl) fun v W' hw=> ?_
 ·simp [execOp,Instr.storeAt,Instr.sureAddr,aU,ad]
 ·subst hw
  exact k _ _ (s.store al eG ⟨_,T,rfl,by rw [List.toList_toArray]; exact Mu l fS a0.2 bj⟩)
theorem ah.j6 {t:TypeId} {rest:List Oper} {i p o:Nat} {β γ:Type} [ai β] [ai γ] {b b':β} {u:Value} {os os':List (Nat × Value)} (l:aN β (List γ)) (eI:bw c.P t (List γ)) (an:a9 c E L x (.eq (.pointer (some ⟨p,o,none⟩))))
 (a5:a9 c E L y (.eq u)) (hu:u.oneCell'=true) (al:L[i]? =some ⟨some p,.b4 b os⟩) (bb:o=l.off) (hb:l.set b []=b') (kH:tk os o u=os')
 (k:ah c ops Q rest E (L.set i ⟨some p,.b4 b' os'⟩)):ah c ops Q (⟨none,.store t x y,ty,pos,af,none⟩ :: rest) E L:=fun a W s=>by
 subst bb
 subst hb
 subst kH
 obtain⟨j0,eG,cs,T,rfl,fS⟩:=s.own _ (List.mem_of_getElem? al)
 have J:cs.toList.length=ai.size β:=fS.len
 have eu:l.off + 1≤ai.size β:=l.gv
 have Qm:a.eval y=u:=a5 a W s
 have a0:(I.of (⟨u⟩:fN)).holds (aQ L ++ c.bT) W (a.eval y):=O3.2 ⟨Qm,hu⟩
 have ad:=z2 (A:=aQ L ++ c.bT) eI.ex eG (off:=l.off) (show l.off + 1≤cs.size by simp at J; omega) a0
 have aU:a.eval x=_:=an a W s
 have mv:(a.eval y).cells.toList= [u]:=by rw [Qm,ot hu]
 rw [mv] at ad
 refine hy rfl (R:=fun v W'=>W'=W.setRow p (fW cs.toList l.off [u]).toArray) (.xT ?_ rfl) fun v W' hw=> ?_
 ·simp [execOp,Instr.storeAt,Instr.sureAddr,aU,ad]
 ·subst hw
  exact k _ _ (s.store al eG ⟨_,T,rfl,by rw [List.toList_toArray]; exact Mb l fS hu⟩)
theorem Sm {P:Program} {W:World} {b off:Nat} {cur:Array Value} {T t:TypeId} {α:Type} [ai α] {v:Value} (ty:bw P t α)
 (hb:W.heap[b]? =some (.cells cur T (0,0))) (hs:off + ai.size α≤cur.size) (ao:v.cells.toList.length=ai.size α) (J:∀ u∈v.cells.toList,u.oneCell'=true):
 (storeVar t ⟨b,off,none⟩ v).run P W= .ok () (W.setRow b (fW cur.toList off v.cells.toList).toArray):=by
 have ad:=run_storeCells_at P b off T v.cells.toList 0 cur W hb (by rw [ao]; omega) J
 have eE:v.cells.size=ai.size α:=by simpa using ao
 simp only [Nat.add_zero] at ad
 simp only [storeVar,Sem.run_bind,ty.sizeOf,Result.andThen_ok,eE]
 simp only [ne_eq,not_true_eq_false,↓reduceIte,Sem.run_pure,Sem.run_bind,Result.andThen_ok]
 simpa [fW] using ad
theorem ah.rQ {t:TypeId} {rest:List Oper} {i p:Nat} {β:Type} [ai β] {b b':β} {os os':List (Nat × Value)} (eI:bw c.P t β) (an:a9 c E L x (.eq (.pointer (some ⟨p,0,none⟩))))
 (a5:a9 c E L y (.JE b' os')) (al:L[i]? =some ⟨some p,.b4 b os⟩)
 (k:ah c ops Q rest E (L.set i ⟨some p,.b4 b' os'⟩)):ah c ops Q (⟨none,.store t x y,ty,pos,af,none⟩ :: rest) E L:=fun a W s=>by
 obtain⟨j0,eG,cs,T,rfl,fS⟩:=s.own _ (List.mem_of_getElem? al)
 have J:cs.toList.length=ai.size β:=fS.len
 obtain⟨aq,bd⟩:=a5 a W s
 have ao:=bd.len
 have ad:=Sm eI eG (off:=0) (by simp at J; omega) ao bd.one
 have aU:a.eval x=_:=an a W s
 have e:fW cs.toList 0 (a.eval y).cells.toList=(a.eval y).cells.toList:=by
  unfold fW
  rw [List.take_zero,List.nil_append,Nat.zero_add,ao,← J,List.drop_length,List.append_nil]
 rw [e] at ad
 refine hy rfl (R:=fun v W'=>W'=W.setRow p (a.eval y).cells.toList.toArray) (.xT ?_ rfl) fun v W' hw=> ?_
 ·simp [execOp,Instr.storeAt,Instr.sureAddr,aU,ad]
 ·subst hw
  exact k _ _ (s.store al eG ⟨_,T,rfl,by rw [List.toList_toArray]; exact bd⟩)
theorem dD {p:Addr} (an:a9 c E L x (.eq (.pointer (some p)))):bS c E L ⟨d,.nilCheck x,ty,pos,af,g⟩ (.eq (.pointer (some p))):= .pure fun a W s=>by
 have aU:a.eval x=_:=an a W s
 exact⟨_,by simp [execOp,aU],rfl⟩
theorem AR {γ:Type} [ai γ] {r:γ} (an:a9 c E L x (.ptr r)):bS c E L ⟨d,.nilCheck x,ty,pos,af,g⟩ (.ptr r):= .pure fun a W s=>by
 have hp:=an a W s
 obtain⟨b,off,cur,T,gX,aU,a1⟩:=hp
 exact⟨_,by simp [execOp,aU],b,off,cur,T,gX,rfl,a1⟩
theorem bx.lT {a:Act} {W:World} (s:bx c E L a W) {i j p cap T:Nat} {key:Option Nat} {β γ:Type} [ai β] [ai γ] {b b':β} {xs:List γ} {os os':List (Nat × Value)} (l:aN β (List γ)) (ft:i≠j) (al:L[i]? =some ⟨some p,.b4 b os⟩) (ld:L[j]? =some ⟨key,.row T xs cap⟩)
 (q:Nat) (hq:os[q]? =some (l.off,a2 key xs.length cap)) (hb:l.set b xs=b') (kH:nP os l.off=os'):bx c E ((L.set j ⟨none,.dead⟩).set i ⟨some p,.b4 b' os'⟩) a W:=by
 subst hb
 subst kH
 have ay:=s.kill j
 have au:(L.set j ⟨none,.dead⟩)[i]? =some ⟨some p,.b4 b os⟩:=by rw [List.getElem?_set_ne (fun e=>ft e.symm)]; exact al
 have kZ:=xA (L:=L) (i:=j) (cp:= .dead)
 have mr:og (aQ (L.set j ⟨none,.dead⟩) ++ c.bT) W (a2 key xs.length cap) xs:=by
  have bb:=s.own _ (List.mem_of_getElem? ld)
  cases key with
  | none=>exact .inl ⟨rfl,bb.1⟩
  | some p=>
    obtain⟨o,eG,cs,rfl,eE,aO,wi,aR⟩:=bb
    obtain⟨aC,aU⟩:=GS eE aO aR
    refine .inr ⟨p,0,cap,cs,T,(0,0),rfl,s.AB ld,eG,aO,by omega,aC,?_⟩
    exact aU.mono (.drop fun k hm=>by
     rcases List.mem_append.1 hm with hm | hm
     ·exact List.mem_append.2 (.inl (kZ.subset hm))
     ·exact List.mem_append.2 (.inr hm))
 exact ay.x5 au (fun o ⟨cs,T,J,ad⟩=>⟨cs,T,J,Mc l ad (List.mem_of_getElem? hq) mr⟩) id
theorem ah.lT {ux:List Oper} {p cap T:Nat} {key:Option Nat} {β γ:Type} [ai β] [ai γ] {b b':β} {xs:List γ} {os os':List (Nat × Value)} (l:aN β (List γ)) (i j q:Nat) (ft:Nat.beq i j=false) (al:L[i]? =some ⟨some p,.b4 b os⟩) (ld:L[j]? =some ⟨key,.row T xs cap⟩)
 (hq:os[q]? =some (l.off,a2 key xs.length cap)) (hb:l.set b xs=b') (kH:nP os l.off=os') (k:ah c ops Q ux E ((L.set j ⟨none,.dead⟩).set i ⟨some p,.b4 b' os'⟩)):ah c ops Q ux E L:=
 fun a W s=>k a W (s.lT l (fun e=>by rw [e,Nat.beq_refl] at ft; cases ft) al ld q hq hb kH)
theorem ae.lT {z:Exit} {p cap T:Nat} {key:Option Nat} {β γ:Type} [ai β] [ai γ] {b b':β} {xs:List γ} {os os':List (Nat × Value)} (l:aN β (List γ)) (i j q:Nat) (ft:Nat.beq i j=false) (al:L[i]? =some ⟨some p,.b4 b os⟩) (ld:L[j]? =some ⟨key,.row T xs cap⟩)
 (hq:os[q]? =some (l.off,a2 key xs.length cap)) (hb:l.set b xs=b') (kH:nP os l.off=os') (k:ae c Q z E ((L.set j ⟨none,.dead⟩).set i ⟨some p,.b4 b' os'⟩)):ae c Q z E L:=
 fun a W s=>k a W (s.lT l (fun e=>by rw [e,Nat.beq_refl] at ft; cases ft) al ld q hq hb kH)
theorem ag.lT {z:Code} {p cap T:Nat} {key:Option Nat} {β γ:Type} [ai β] [ai γ] {b b':β} {xs:List γ} {os os':List (Nat × Value)} (l:aN β (List γ)) (i j q:Nat) (ft:Nat.beq i j=false) (al:L[i]? =some ⟨some p,.b4 b os⟩) (ld:L[j]? =some ⟨key,.row T xs cap⟩)
 (hq:os[q]? =some (l.off,a2 key xs.length cap)) (hb:l.set b xs=b') (kH:nP os l.off=os') (k:ag c Q z E ((L.set j ⟨none,.dead⟩).set i ⟨some p,.b4 b' os'⟩)):ag c Q z E L:=
 fun a W s=>k a W (s.lT l (fun e=>by rw [e,Nat.beq_refl] at ft; cases ft) al ld q hq hb kH)
theorem bx.tC {a:Act} {W:World} (s:bx c E L a W) {i j p cap T fo:Nat} {key:Option Nat} {β γ:Type} [ai β] [ai γ] {b b':β} {xs:List γ} {os os':List (Nat × Value)} (l:aN β (List γ)) (ft:i≠j) (al:L[i]? =some ⟨some p,.b4 b os⟩) (ld:L[j]? =some ⟨key,.row T xs cap⟩)
 (q:Nat) (hq:os[q]? =some (l.off,a2 key xs.length cap)) (hb:l.set b xs=b') (kH:nP os l.off=os') (mr:look E fo=some (.eq (a2 key xs.length cap))):bx c ((fo,.of xs) :: E) ((L.set j ⟨none,.dead⟩).set i ⟨some p,.b4 b' os'⟩) a W:=by
 have J:=s.freeze mr ld
 subst hb
 subst kH
 have au:(L.set j ⟨none,.dead⟩)[i]? =some ⟨some p,.b4 b os⟩:=by rw [List.getElem?_set_ne (fun e=>ft e.symm)]; exact al
 obtain⟨v,ad,aC⟩:=J.env fo (.of xs) (by simp [look,Nat.beq_refl])
 obtain⟨wZ,aU,a1⟩:=s.env fo _ mr
 rw [ad] at aU
 cases aU
 have a1:v=_:=a1
 subst a1
 exact J.x5 au (fun o ⟨cs,T,aq,bd⟩=>⟨cs,T,aq,Mc l bd (List.mem_of_getElem? hq) (m8.1 aC)⟩) id
theorem ah.tC {ux:List Oper} {p cap T:Nat} {key:Option Nat} {β γ:Type} [ai β] [ai γ] {b b':β} {xs:List γ} {os os':List (Nat × Value)} (l:aN β (List γ)) (i j q fo:Nat) (ft:Nat.beq i j=false) (al:L[i]? =some ⟨some p,.b4 b os⟩) (ld:L[j]? =some ⟨key,.row T xs cap⟩)
 (hq:os[q]? =some (l.off,a2 key xs.length cap)) (hb:l.set b xs=b') (kH:nP os l.off=os') (mr:look E fo=some (.eq (a2 key xs.length cap))) (k:ah c ops Q ux ((fo,.of xs) :: E) ((L.set j ⟨none,.dead⟩).set i ⟨some p,.b4 b' os'⟩)):ah c ops Q ux E L:=
 fun a W s=>k a W (s.tC l (fun e=>by rw [e,Nat.beq_refl] at ft; cases ft) al ld q hq hb kH mr)
theorem ag.tC {z:Code} {p cap T:Nat} {key:Option Nat} {β γ:Type} [ai β] [ai γ] {b b':β} {xs:List γ} {os os':List (Nat × Value)} (l:aN β (List γ)) (i j q fo:Nat) (ft:Nat.beq i j=false) (al:L[i]? =some ⟨some p,.b4 b os⟩) (ld:L[j]? =some ⟨key,.row T xs cap⟩)
 (hq:os[q]? =some (l.off,a2 key xs.length cap)) (hb:l.set b xs=b') (kH:nP os l.off=os') (mr:look E fo=some (.eq (a2 key xs.length cap))) (k:ag c Q z ((fo,.of xs) :: E) ((L.set j ⟨none,.dead⟩).set i ⟨some p,.b4 b' os'⟩)):ag c Q z E L:=
 fun a W s=>k a W (s.tC l (fun e=>by rw [e,Nat.beq_refl] at ft; cases ft) al ld q hq hb kH mr)
theorem ae.tC {z:Exit} {p cap T:Nat} {key:Option Nat} {β γ:Type} [ai β] [ai γ] {b b':β} {xs:List γ} {os os':List (Nat × Value)} (l:aN β (List γ)) (i j q fo:Nat) (ft:Nat.beq i j=false) (al:L[i]? =some ⟨some p,.b4 b os⟩) (ld:L[j]? =some ⟨key,.row T xs cap⟩)
 (hq:os[q]? =some (l.off,a2 key xs.length cap)) (hb:l.set b xs=b') (kH:nP os l.off=os') (mr:look E fo=some (.eq (a2 key xs.length cap))) (k:ae c Q z ((fo,.of xs) :: E) ((L.set j ⟨none,.dead⟩).set i ⟨some p,.b4 b' os'⟩)):ae c Q z E L:=
 fun a W s=>k a W (s.tC l (fun e=>by rw [e,Nat.beq_refl] at ft; cases ft) al ld q hq hb kH mr)
inductive tt (c:dd) (E:List (Nat × I)) (L:List aM) (place:Nat→Option (Nat × Nat)) {β:Type} [ai β]:β→List (Nat × Value)→List (Nat × Operand)→β→List (Nat × Value)→Prop
 | nil {b os} :tt c E L place b os [] b os
 | cons {b dJ b':β} {os os':List (Nat × Value)} {γ:Type} [ai γ] {v:γ} {i:Nat} {x:Operand} {r:List (Nat × Operand)} (l:aN β γ):place i=some (l.off,ai.size γ)→a9 c E L x (.of v)→l.set b v=dJ→ts os l.off (ai.size γ)=true→tt c E L place dJ os r b' os'→tt c E L place b os ((i,x) :: r) b' os'
 | hole {b dJ b':β} {os JF os':List (Nat × Value)} {γ:Type} [ai γ] {u:Value} {i:Nat} {x:Operand} {r:List (Nat × Operand)} (l:aN β (List γ)):place i=some (l.off,1)→a9 c E L x (.eq u)→u.oneCell'=true→l.set b []=dJ→tk os l.off u=JF→tt c E L place dJ JF r b' os'→tt c E L place b os ((i,x) :: r) b' os'
theorem tt.run {place:Nat→Option (Nat × Nat)} {β:Type} [ai β] {b b':β} {os os':List (Nat × Value)} {br:List (Nat × Operand)} (h:tt c E L place b os br b' os'):∀ a W,bx c E L a W→ ∀ cs:Array Value,lu (aQ L ++ c.bT) W cs.toList b os→
 ∃ dS,Instr.fill place cs (br.map fun(i,x)=>(i,a.eval x))=some dS∧lu (aQ L ++ c.bT) W dS.toList b' os':=by
 induction h with
 | nil=>intro a W s cs aR; exact⟨cs,rfl,aR⟩
 | @cons b dJ b' os os' γ _ v i x r l J ad aC aU _ bJ=>
   intro a W s cs aR
   subst aC
   have a0:=ad a W s
   have eE:(a.eval x).cells.size=ai.size γ:=by have:=ai.len a0.2; simpa using this
   have ao:cs.toList.length=ai.size β:=aR.len
   have eu:=l.gv
   rw [List.map_cons,DX J eE (by simp at ao; omega)]
   refine bJ a W s _ ?_
   have:=Mu l aR a0.2 aU
   simpa [fW,ai.len a0.2] using this
 | @hole b dJ b' os JF os' γ _ u i x r l J ad aC aU a1 _ bJ=>
   intro a W s cs aR
   subst aU
   subst a1
   have a0:a.eval x=u:=ad a W s
   have ak:(a.eval x).cells.toList= [u]:=by rw [a0,ot aC]
   have eE:(a.eval x).cells.size=1:=by have:=congrArg List.length ak; simpa using this
   have ao:cs.toList.length=ai.size β:=aR.len
   have eu:l.off + 1≤ai.size β:=l.gv
   rw [List.map_cons,DX J eE (by simp at ao; omega)]
   refine bJ a W s _ ?_
   have:=Mb l aR aC
   simpa [fW,ak] using this
theorem qH {β:Type} [ai β] {z b:β} {br:List (Nat × Operand)} {pl:Array (Nat × Nat)} {os:List (Nat × Value)} (kF:List Nat) (sP:jJ c.P t kF) (bj:ai.agg β=true) (CH:hO c.P t pl) (gL:cF c.P t z)
 (ba:tt c E L (pl[·]?) z (kF.map fun o=>(o,ke)) br b os):bS c E L ⟨d,.build t br.toArray,ty,pos,af,g⟩ (.JE b os):= .pure fun a W s=>by
 obtain⟨fs,hu,hs,rfl⟩:=CH.at_
 obtain⟨i,ee,J,ad,aC⟩:=gL.zero
 have b3:∀ o∈kF,ee.cells.toList[o]? =some ke:=fun o bb=>by
  unfold jJ at sP
  rw [J] at sP
  simp only [Option.bind_some,ad,Option.any_some] at sP
  exact LR (List.all_eq_true.1 sP o bb)
 obtain⟨dS,aU,a1⟩:=ba.run a W s ee.cells ⟨by
  rw [GY fun h hm=>by obtain⟨o,bb,rfl⟩:=List.mem_map.1 hm; exact b3 o bb]
  exact(aC _ _).2,fun h hm=>by obtain⟨o,bb,rfl⟩:=List.mem_map.1 hm; exact⟨b3 o bb,rfl⟩⟩
 refine⟨.agg dS,?_,by simp [shaped,bj],by simpa [Value.cells] using a1⟩
 have hm:(br.toArray.map fun(x:Nat × Operand)=>(x.1,a.eval x.2)).toList=br.map fun(i,x)=>(i,a.eval x):=by simp
 simp only [execOp,Instr.build,Sem.run_bind,zeroValue,typeInfo,run_program,Result.andThen_ok,J,ad,Sem.run_pure,run_underlying hu,Lk fs hs]
 rw [hm,aU]
 rfl
def wu {α:Type} [Inhabited α] (bytes:Nat) (n:Int):Option (List α):=if 0≤n∧n≤140737488355328∧bytes * n≤140737488355328 then some (List.replicate n.toNat default) else none
theorem UR {α:Type} [Inhabited α] {bytes:Nat} {n:Int} {r:List α} (h:wu bytes n=some r):0≤n∧n≤140737488355328∧bytes * n≤140737488355328∧List.replicate n.toNat default=r:=by
 unfold wu at h
 split at h
 ·rename_i ak; exact⟨ak.1,ak.2.1,ak.2.2,aI h⟩
 ·cases h
theorem ah.P6 {α:Type} [ai α] [Inhabited α] {rest:List Oper} {a7 e bytes:Nat} {r:List α} {n:Int} (hu:c.P.underlying t=some (.slice e)) (eJ:bw c.P e α) (gL:cF c.P e (default:α)) (hs:Nat.beq (ai.size α) 0=false) (hb:(c.P.info? e).map (·.bytes)=some bytes)
 (an:a9 c E L x (.of n)) (a5:a9 c E L y (.of n)) (hm:wu bytes n=some r) (kM:Nat.blt a7 c.n=true) (k:∀ p,ah c ops Q rest ((a7,.eq (a2 p r.length r.length)) :: E) (⟨p,.row e r r.length⟩ :: L)):
 ah c ops Q (⟨some a7,.makeSlice t x y,ty,pos,af,none⟩ :: rest) E L:=fun a W s=>by
 obtain⟨bI,aO,acL,rfl⟩:=UR hm
 obtain⟨m,rfl⟩:=Int.eq_ofNat_of_zero_le bI
 obtain⟨fZ,ee,eo,db,rb⟩:=gL.zero
 have ng:fZ.size=ai.size α:=by
  obtain⟨i2,J,ad⟩:=eJ.info
  rw [eo] at J; cases J; exact ad
 have wB:fZ.bytes=bytes:=by rw [eo] at hb; simpa using hb
 have e0:ai.size α≠0:=fun h=>by rw [h] at hs; cases hs
 have qc:=Ar (rb (aQ L ++ c.bT) W) m e0
 have J:=of_int.1 (an a W s)
 have ad:=of_int.1 (a5 a W s)
 have hw:IntKind.i64.wrap (m:Int)=m:=by have:bq (m:Int)=m:=g9 (by omega) (by omega); exact this
 have hp:(2:Int) ^ 48=281474976710656:=by decide
 simp only [Int.toNat_natCast,List.length_replicate] at k
 generalize lb:(Array.range (m * ai.size α)).map (ee.cells[· % ee.cells.size]!)=D at qc
 refine hy rfl (R:=fun v W'=>v= .slice (some ⟨W.heap.size,0,none⟩) m m∧W'=W.alloc (.cells D e)) (.kx (v:= .slice (some ⟨W.heap.size,0,none⟩) m m) (W':=W.alloc (.cells D e)) ?_ ⟨rfl,rfl⟩) fun v W' ⟨aC,aU⟩=> ?_
 ·have dP:((decide ((m:Int) < 0) || decide ((fZ.bytes:Int) * m > 2 ^ 48)) || decide ((m:Int) < 0) || decide ((m:Int) > m))=false:=by
   rw [wB,hp]; simp; omega
  have FB:((Array.range (m * fZ.size)).map fun i=>(if m * fZ.size=0 then(#[]:Array Value) else ee.cells)[i % (if m * fZ.size=0 then(#[]:Array Value) else ee.cells).size]!)=D:=by
   rw [← lb,ng]
   by_cases gI:m * ai.size α=0
   ·rw [gI]; simp
   ·simp only [if_neg gI]
  have bj:(asInt (.int .i64 (m:Int)):Sem Int).run c.P W= .ok (m:Int) W:=by simp [asInt,asIntOf]
  simp only [execOp,Instr.makeSlice,Sem.run_bind,run_underlying hu,Result.andThen_ok,J,ad,bj,Sem.run_pure,typeInfo,run_program,eo,hw,dP,Bool.false_eq_true,if_false,run_askRoom,Go.sizeOf,Int.toNat_natCast]
  by_cases gI:m * fZ.size=0
  ·simp only [gI,if_true,Sem.run_pure,Result.andThen_ok,Sem.run_bind,newRow] at FB ⊢
   rw [FB]
   simp
  ·simp only [gI,if_false,Sem.run_pure,Result.andThen_ok,Sem.run_bind,newRow,zeroValue,typeInfo,run_program,eo,db] at FB ⊢
   rw [FB]
   simp
 ·subst aC aU
  have tJ:m≤maxLen:=by
   have:maxLen=9223372036854775807:=rfl
   omega
  have eE:D.size=m * ai.size α:=by have:=qc.1; simpa using this
  have b6:=s.alloc (o:= .cells D e) (cp:= .row e (List.replicate m (default:α)) m) ⟨D,rfl,eE,by simp,tJ,by
   have bk:=qc.1
   rw [List.length_replicate] at bk ⊢
   rw [← bk,List.take_length]
   exact qc⟩
  exact k (some W.heap.size) _ _ (b6.put (τ:= .eq (a2 (some W.heap.size) m m)) (by simpa using kM) rfl)
theorem ae.kU {fn:Func} {δ:Type} {ρ:δ→I} {Lo:δ→List aM} (a7:δ) (hs:(Lo a7).Sublist L) (aR:fn.results= #[]) (sA:ρ a7= .ed []) (hM:c.ds= []:=by rfl):ae c (bodyPost c.P fn (j9 c.X c.bT c.iN ρ Lo)) .ret E L:=fun a W s=>
 ⟨s.u3 hM,.tuple #[],by simp [uU,aR],s.ends a7 hs (by rw [sA]; exact⟨_,rfl,.nil⟩)⟩
end
abbrev Hid:=Nat→Option Nat
def dY (l:List (Option Nat)):Hid:=fun i=>(l[i]?).getD none
structure du where
 slot:Option Nat
 up:List Nat
 rd:List Nat
 wr:List Nat
 τ:(Nat→Hid)→I
 e9:(Nat→Hid)→Nat→aM
def gk (up:List Nat) (i:Nat) (hd:Nat→Hid):Nat→Hid:=fun j=>bif Nat.beq j i || up.any (fun k=>Nat.beq k j) then hd j else fun _=>none
def iU (hd:Nat→Hid) (i:Nat) (x:Hid):Nat→Hid:=fun j=>bif Nat.beq j i then x else hd j
theorem Md {up:List Nat} {i:Nat} {hd hd':Nat→Hid} (h:hd i=hd' i) (c0:∀ k∈up,hd k=hd' k):gk up i hd=gk up i hd':=by
 funext j
 unfold gk
 cases J:Nat.beq j i
 ·cases ad:up.any (fun k=>Nat.beq k j)
  ·rfl
  ·obtain⟨k,ay,he⟩:=List.any_eq_true.1 ad
   have:=eh.1 he
   subst this
   simp only [Bool.false_or,cond_true]
   exact c0 k ay
 ·have:=eh.1 J
  subst this
  simp only [Bool.true_or,cond_true]
  exact h
def mm:List aM→ (Nat→aM)→List Nat→List aM
 | L,_,[]=>L
 | L,f,j :: r=>mm (L.set j (f j)) f r
theorem LD:∀ {L:List aM} {f:Nat→aM} {e4:List Nat},(mm L f e4).length=L.length
 | _,_,[]=>rfl
 | L,f,j :: r=>by rw [mm,LD,List.length_set]
theorem DY:∀ {L:List aM} {f:Nat→aM} {e4:List Nat} (i:Nat),(mm L f e4)[i]? =if e4.contains i=true then L[i]?.map (fun _=>f i) else L[i]?
 | _,_,[],i=>by simp [mm]
 | L,f,j :: r,i=>by
   rw [mm,DY i]
   by_cases h:j=i
   ·subst h
    simp only [List.contains_cons,BEq.rfl,Bool.true_or,if_true,List.getElem?_set]
    by_cases ao:j < L.length
    ·simp [ao]
    ·simp [ao]
   ·have hb:(i ==j)=false:=by simp; exact fun e=>h e.symm
    rw [List.contains_cons,hb,Bool.false_or,List.getElem?_set_ne h]
def gY (ls:Nat→Bool) (hd:Nat→Hid):Nat→List du→List aM→List aM
 | _,[],L=>L
 | k,h :: r,L=>gY ls hd (k + 1) r (bif ls k then mm L (h.e9 (gk h.up k hd)) h.wr else L)
def hS (ls:Nat→Bool) (hd:Nat→Hid) (E:List (Nat × I)):Nat→List du→List (Nat × I)
 | _,[]=>E
 | k,h :: r=>match ls k,h.slot with
   | true,some s=>(s,h.τ (gk h.up k hd)) :: hS ls hd E (k + 1) r
   | _,_=>hS ls hd E (k + 1) r
def kf (ls:Nat→Bool) (hd:Nat→Hid) (j:Nat):Nat→List du→Option aM→Option aM
 | _,[],v=>v
 | k,h :: r,v=>kf ls hd j (k + 1) r (bif ls k && h.wr.contains j then v.map (fun _=>h.e9 (gk h.up k hd) j) else v)
theorem vn {ls:Nat→Bool} {hd:Nat→Hid} (j:Nat):∀ {k:Nat} {hs:List du} {L:List aM},(gY ls hd k hs L)[j]? =kf ls hd j k hs L[j]?
 | _,[],_=>rfl
 | k,h :: r,L=>by
   rw [gY,kf,vn j]
   congr 1
   cases ls k
   ·rfl
   ·simp only [cond_true,Bool.true_and]
    rw [DY]
    cases h.wr.contains j <;> rfl
theorem As {ls:Nat→Bool} {hd:Nat→Hid} {j:Nat} :∀ {k:Nat} {hs:List du} {v:Option aM},(∀ m h,hs[m]? =some h→h.wr.contains j=true→ls (k + m)=false)→kf ls hd j k hs v=v
 | _,[],_,_=>rfl
 | k,h :: r,v,aO=>by
   rw [kf,As fun m x hm an=>by have:=aO (m + 1) x (by simpa using hm) an; rw [← this]; congr 1; omega]
   cases hw:h.wr.contains j
   ·simp
   ·have:=aO 0 h rfl hw
    simp only [Nat.add_zero] at this
    rw [this]; rfl
theorem Ai {ls:Nat→Bool} {hd:Nat→Hid} {j:Nat} :∀ {k:Nat} {hs rs:List du} {v:Option aM},kf ls hd j k (hs ++ rs) v=kf ls hd j (k + hs.length) rs (kf ls hd j k hs v)
 | _,[],_,_=>rfl
 | k,h :: r,rs,v=>by
   rw [List.cons_append,kf,Ai,kf,List.length_cons]
   congr 1; omega
theorem uW {ls ls':Nat→Bool} {hd hd':Nat→Hid} {j:Nat} :∀ {k:Nat} {hs:List du} {v:Option aM},(∀ m h,hs[m]? =some h→h.wr.contains j=true→ls (k + m)=ls' (k + m)∧ (ls (k + m)=true→gk h.up (k + m) hd=gk h.up (k + m) hd'))→kf ls hd j k hs v=kf ls' hd' j k hs v
 | _,[],_,_=>rfl
 | k,h :: r,v,aO=>by
   have bJ:=uW (ls:=ls) (ls':=ls') (hd:=hd) (hd':=hd') (j:=j) (k:=k + 1) (hs:=r) (v:=bif ls k && h.wr.contains j then v.map (fun _=>h.e9 (gk h.up k hd) j) else v) fun m x hm an=>by
    have:=aO (m + 1) x (by simpa using hm) an
    rw [show k + 1 + m=k + (m + 1) by omega]; exact this
   rw [kf,kf,bJ]
   congr 1
   cases hw:h.wr.contains j
   ·simp
   ·have:=aO 0 h rfl hw
    simp only [Nat.add_zero] at this
    rw [← this.1]
    cases ao:ls k
    ·rfl
    ·rw [this.2 ao]
theorem At {ls:Nat→Bool} {hd:Nat→Hid} {E:List (Nat × I)} {t:Nat} :∀ {k:Nat} {hs:List du},(∀ (m:Nat) (h:du),hs[m]? =some h→ls (k + m)=true→h.slot≠some t)→look (hS ls hd E k hs) t=look E t
 | _,[],_=>rfl
 | k,h :: r,aO=>by
   have bJ:=At (ls:=ls) (hd:=hd) (E:=E) (t:=t) (k:=k + 1) (hs:=r) fun m x hm ao=>aO (m + 1) x (by simpa using hm) (by rw [← ao]; congr 1; omega)
   unfold hS
   split
   ·rename_i s J ad
    have c6:Nat.beq s t=false:=by
     cases hb:Nat.beq s t
     ·rfl
     ·have:=eh.1 hb; subst this; exact absurd ad (aO 0 h rfl J)
    simp only [look,c6,cond_false]
    exact bJ
   ·exact bJ
theorem AF {ls:Nat→Bool} {hd:Nat→Hid} {E:List (Nat × I)} {s:Nat} :∀ {k:Nat} {hs:List du} {j:Nat} {h:du},hs[j]? =some h→ls (k + j)=true→h.slot=some s→ (∀ m x,hs[m]? =some x→x.slot=some s→m=j)→look (hS ls hd E k hs) s=some (h.τ (gk h.up (k + j) hd))
 | _,[],_,_,h,_,_,_=>by simp at h
 | k,x :: r,0,h,aH,ao,hs,_=>by
   simp only [List.getElem?_cons_zero,Option.some.injEq] at aH
   subst aH
   simp only [Nat.add_zero] at ao
   unfold hS
   rw [ao,hs]
   simp [look,Nat.beq_refl]
 | k,x :: r,j + 1,h,aH,ao,hs,hu=>by
   have bJ:=AF (ls:=ls) (hd:=hd) (E:=E) (s:=s) (k:=k + 1) (hs:=r) (j:=j) (h:=h) (by simpa using aH) (by rw [← ao]; congr 1; omega) hs fun m y hm a5=>by
    have:=hu (m + 1) y (by simpa using hm) a5; omega
   rw [show k + 1 + j=k + (j + 1) by omega] at bJ
   unfold hS
   split
   ·rename_i b6 J ad
    have c6:Nat.beq b6 s=false:=by
     cases hb:Nat.beq b6 s
     ·rfl
     ·have:=eh.1 hb; subst this
      have:=hu 0 x rfl ad; omega
    simp only [look,c6,cond_false]
    exact bJ
   ·exact bJ
theorem Hi {ls:Nat→Bool} {hd:Nat→Hid} {E:List (Nat × I)} {t:Nat} {τ:I} :∀ {k:Nat} {hs:List du},look (hS ls hd E k hs) t=some τ→ (∃ (j:Nat) (h:du),hs[j]? =some h∧ls (k + j)=true∧h.slot=some t∧τ=h.τ (gk h.up (k + j) hd))∨ (look E t=some τ∧ ∀ (m:Nat) (h:du),hs[m]? =some h→ls (k + m)=true→h.slot≠some t)
 | _,[],h=> .inr ⟨h,fun m h hm=>by simp at hm⟩
 | k,x :: r,h=>by
   unfold hS at h
   have go:(ls k=true→x.slot≠some t)→look (hS ls hd E (k + 1) r) t=some τ→ (∃ (j:Nat) (h:du),(x :: r)[j]? =some h∧ls (k + j)=true∧h.slot=some t∧τ=h.τ (gk h.up (k + j) hd))∨ (look E t=some τ∧ ∀ (m:Nat) (h:du),(x :: r)[m]? =some h→ls (k + m)=true→h.slot≠some t):=fun an h=>by
    rcases Hi h with⟨j,y,J,ad,aC,aU⟩ | ⟨J,ad⟩
    ·exact .inl ⟨j + 1,y,by simpa using J,by rw [← ad]; congr 1; omega,aC,by rw [aU]; congr 2; omega⟩
    ·refine .inr ⟨J,fun m y hm ao=> ?_⟩
     cases m with
     | zero=>simp only [List.getElem?_cons_zero,Option.some.injEq] at hm; subst hm; exact an ao
     | succ m=>exact ad m y (by simpa using hm) (by rw [← ao]; congr 1; omega)
   split at h
   ·rename_i s J ad
    simp only [look] at h
    by_cases e:Nat.beq s t=true
    ·rw [e] at h
     simp only [cond_true,Option.some.injEq] at h
     have:=eh.1 e
     subst this
     exact .inl ⟨0,x,rfl,J,ad,h.symm⟩
    ·rw [Bool.not_eq_true] at e
     rw [e] at h
     exact go (fun _ e0=>by rw [ad] at e0; cases e0; rw [Nat.beq_refl] at e; cases e) h
   ·rename_i e8
    exact go (fun ao e0=>e8 t ao e0) h
def mV (hd:Nat→Hid) (hs:List du) (E:List (Nat × I)):List Nat→List (Nat × I)
 | []=>E
 | j :: r=>match hs[j]? with
   | some h=>match h.slot with
     | some s=>(s,h.τ (gk h.up j hd)) :: mV hd hs E r
     | none=>mV hd hs E r
   | none=>mV hd hs E r
theorem HF {hd:Nat→Hid} {hs:List du} {E:List (Nat × I)} {t:Nat} {τ:I} :∀ {ds:List Nat},look (mV hd hs E ds) t=some τ→ (∃ j∈ds,∃ h:du,hs[j]? =some h∧h.slot=some t∧τ=h.τ (gk h.up j hd))∨look E t=some τ
 | [],h=> .inr h
 | j :: r,h=>by
   have go:look (mV hd hs E r) t=some τ→ (∃ i∈j :: r,∃ h:du,hs[i]? =some h∧h.slot=some t∧τ=h.τ (gk h.up i hd))∨look E t=some τ:=fun h=>by
    rcases HF h with⟨i,J,ad⟩ | J
    ·exact .inl ⟨i,by simp [J],ad⟩
    ·exact .inr J
   unfold mV at h
   split at h
   ·rename_i x an
    split at h
    ·rename_i s mr
     simp only [look] at h
     by_cases e:Nat.beq s t=true
     ·rw [e] at h
      simp only [cond_true,Option.some.injEq] at h
      have:=eh.1 e
      subst this
      exact .inl ⟨j,by simp,x,an,mr,h.symm⟩
     ·simp only [Bool.not_eq_true] at e
      rw [e] at h
      exact go h
    ·exact go h
   ·exact go h
def tF (E:List (Nat × I)) (v:Value):List Nat→Prop
 | []=>True
 | s :: r=>look E s=some (.eq v)∧tF E v r
theorem tF.get {E:List (Nat × I)} {v:Value} :∀ {gK:List Nat},tF E v gK→ ∀ s∈gK,look E s=some (.eq v)
 | _ :: _,h,s,hs=>by
   rcases List.mem_cons.1 hs with rfl | hs
   ·exact h.1
   ·exact tF.get h.2 s hs
def wE (τ:I) (E:List (Nat × I)):List Nat→List (Nat × I)
 | []=>E
 | s :: r=>(s,τ) :: wE τ E r
theorem Mv {τ:I} {E:List (Nat × I)} {t:Nat} {σ:I} :∀ {gK:List Nat},look (wE τ E gK) t=some σ→ (t∈gK∧σ=τ)∨look E t=some σ
 | [],h=> .inr h
 | s :: r,h=>by
   simp only [wE,look] at h
   by_cases e:Nat.beq s t=true
   ·rw [e] at h
    simp only [cond_true,Option.some.injEq] at h
    have:=eh.1 e
    subst this
    exact .inl ⟨by simp,h.symm⟩
   ·simp only [Bool.not_eq_true] at e
    rw [e] at h
    rcases Mv h with⟨J,ad⟩ | J
    ·exact .inl ⟨by simp [J],ad⟩
    ·exact .inr J
def v5 {w:Nat} (a b:BitVec w):BitVec w:=if a≤b then a else b
def n3:Option Nat→I→List (Nat × I)→List (Nat × I)
 | some s,τ,E=>(s,τ) :: E
 | none,_,E=>E
section
variable {c:dd} {E:List (Nat × I)} {L:List aM} {ops:Array Oper} {Q:Exit→Act→World→Prop}
theorem bx.m7 {a:Act} {W:World} {α:Type} [ai α] {i cap T:Nat} {gK:List Nat} {key:Option Nat} {xs:List α} (h:bx c E L a W) (ao:tF E (a2 key xs.length cap) gK) (al:L[i]? =some ⟨key,.row T xs cap⟩):
 bx c (wE (.of xs) E gK) (L.set i ⟨none,.dead⟩) a W:=by
 have ay:=h.kill i
 refine { ay with env:=fun t τ e1=> ?_ }
 rcases Mv e1 with⟨hm,rfl⟩ | J
 ·obtain⟨v,J,ad⟩:=h.env t _ (ao.get t hm)
  refine⟨v,J,m8.2 ?_⟩
  have kj:v=a2 key xs.length cap:=ad
  subst kj
  have bb:=h.own _ (List.mem_of_getElem? al)
  cases key with
  | none=>exact .inl ⟨rfl,bb.1⟩
  | some p=>
    obtain⟨o,eG,cs,rfl,eE,aO,wi,aR⟩:=bb
    obtain⟨aC,aU⟩:=GS eE aO aR
    refine .inr ⟨p,0,cap,cs,T,(0,0),rfl,h.AB al,eG,aO,by omega,aC,?_⟩
    have kZ:=xA (L:=L) (i:=i) (cp:= .dead)
    exact aU.mono (.drop fun k hm=>by
     rcases List.mem_append.1 hm with hm | hm
     ·exact List.mem_append.2 (.inl (kZ.subset hm))
     ·exact List.mem_append.2 (.inr hm))
 ·exact ay.env t τ J
theorem ah.m7 {l:List Oper} {α:Type} [ai α] {key:Option Nat} {xs:List α} {cap T:Nat} (i:Nat) (gK:List Nat) (ao:tF E (a2 key xs.length cap) gK) (al:L[i]? =some ⟨key,.row T xs cap⟩)
 (k:ah c ops Q l (wE (.of xs) E gK) (L.set i ⟨none,.dead⟩)):ah c ops Q l E L:=fun a W st=>k a W (st.m7 ao al)
theorem ae.m7 {x:Exit} {α:Type} [ai α] {key:Option Nat} {xs:List α} {cap T:Nat} (i:Nat) (gK:List Nat) (ao:tF E (a2 key xs.length cap) gK) (al:L[i]? =some ⟨key,.row T xs cap⟩)
 (k:ae c Q x (wE (.of xs) E gK) (L.set i ⟨none,.dead⟩)):ae c Q x E L:=fun a W st=>k a W (st.m7 ao al)
theorem ag.m7 {code:Code} {α:Type} [ai α] {key:Option Nat} {xs:List α} {cap T:Nat} (i:Nat) (gK:List Nat) (ao:tF E (a2 key xs.length cap) gK) (al:L[i]? =some ⟨key,.row T xs cap⟩)
 (k:ag c Q code (wE (.of xs) E gK) (L.set i ⟨none,.dead⟩)):ag c Q code E L:=fun a W st=>k a W (st.m7 ao al)
def ct (c:dd) (ops:Array Oper) (Q:Exit→Act→World→Prop) (hs:List du) (E:List (Nat × I)) (L:List aM) (i:Nat) (o:Oper) (h:du):Prop:=
 ∀ (hd:Nat→Hid) (E':List (Nat × I)) (L':List aM),(∀ t τ,look (mV hd hs E h.up) t=some τ→look E' t=some τ)→
   (∀ j e,(gY (fun _=>true) hd 0 (hs.take i) L)[j]? =some e→h.rd.contains j=true→L'[j]? =some e)→
   ah c ops (sO (fun a W=> ∃ x,bx c (n3 h.slot (h.τ (gk h.up i (iU hd i x))) E') (mm L' (h.e9 (gk h.up i (iU hd i x))) h.wr) a W) Q) [o] E' L'
def tu (c:dd) (ops:Array Oper) (Q:Exit→Act→World→Prop) (hs:List du) (E:List (Nat × I)) (L:List aM):Nat→List Oper→List du→Prop
 | _,[],[]=>True
 | i,o :: os,h :: r=>ct c ops Q hs E L i o h∧tu c ops Q hs E L (i + 1) os r
 | _,_,_=>False
theorem tu.get {hs:List du} :∀ {k:Nat} {os:List Oper} {rs:List du},tu c ops Q hs E L k os rs→ ∀ i h o,rs[i]? =some h→os[i]? =some o→ct c ops Q hs E L (k + i) o h
 | k,[],[],_,i,h,o,au,_=>by simp at au
 | k,ab2 :: os,bI :: r,b3,i,h,o,au,bb=>by
   cases i with
   | zero=>
     simp only [List.getElem?_cons_zero,Option.some.injEq] at au bb
     subst au; subst bb; exact b3.1
   | succ i=>
     have:=tu.get b3.2 i h o (by simpa using au) (by simpa using bb)
     rw [show k + 1 + i=k + (i + 1) by omega] at this
     exact this
 | k,[],_ :: _,b3,_,_,_,_,_=>b3.elim
 | k,_ :: _,[],b3,_,_,_,_,_=>b3.elim
def j8 (ops:Array Oper) (hs:List (Option Nat × List Nat × List Nat × List Nat)) (E:List Nat):Bool:=
 decide (hs.length=ops.size) && decide (hs.filterMap (·.1)).Nodup && ((List.range ops.size).all fun m=>match hs[m]? with | some (some s,up,_)=> !E.contains s || (List.range ops.size).all fun k=>decide (k=m) || up.contains k | _=>true) &&
 ((List.range ops.size).all fun i=>match hs[i]? with
   | none=>false
   | some (_,up,rd,wr)=>
     (((ops[i]?).map fun o=>(o.dst ==(hs[i]?).bind (·.1)) && o.after.all fun e=> !Region.binds .any e || decide (e.on < i)).getD false) &&
     (up.all fun k=>Region.waitsFor .any ops i k || (List.range i).any fun m=>Region.waitsFor .any ops i m && ((hs[m]?).map fun h=>h.2.1.contains k).getD false) &&
     ((List.range ops.size).all fun k=>match hs[k]? with
       | none=>true
       | some (_,JG,_,Cj)=>
         (!(decide (k < i) && Cj.any rd.contains) || up.contains k) && (!(decide (i < k) && Cj.any fun j=>rd.contains j || wr.contains j) || JG.contains i)))
theorem GZ {ls ls':Nat→Bool} {hd:Nat→Hid} :∀ {k:Nat} {hs:List du},(∀ m,m < hs.length→ls (k + m)=ls' (k + m))→hS ls hd E k hs=hS ls' hd E k hs
 | _,[],_=>rfl
 | k,h :: r,aO=>by
   have bJ:=GZ (ls:=ls) (ls':=ls') (hd:=hd) (k:=k + 1) (hs:=r) fun m hm=>by
    have:=aO (m + 1) (by simp; omega)
    rw [show k + 1 + m=k + (m + 1) by omega]; exact this
   have bI:=aO 0 (by simp)
   simp only [Nat.add_zero] at bI
   unfold hS
   rw [bI,bJ]
theorem Hj {ls ls':Nat→Bool} {hd:Nat→Hid} :∀ {k:Nat} {hs:List du} {L:List aM},(∀ m,m < hs.length→ls (k + m)=ls' (k + m))→gY ls hd k hs L=gY ls' hd k hs L
 | _,[],_,_=>rfl
 | k,h :: r,L,aO=>by
   have bI:=aO 0 (by simp)
   simp only [Nat.add_zero] at bI
   rw [gY,gY,bI]
   exact Hj fun m hm=>by
    have:=aO (m + 1) (by simp; omega)
    rw [show k + 1 + m=k + (m + 1) by omega]; exact this
def jj (hs:List du):List (Option Nat × List Nat × List Nat × List Nat):=hs.map fun h=>(h.slot,h.up,h.rd,h.wr)
theorem xU {hs:List du} {i:Nat} {h:du} (au:hs[i]? =some h):(jj hs)[i]? =some (h.slot,h.up,h.rd,h.wr):=by simp [jj,au]
def H5 (c:dd) (ops:Array Oper) (Q:Exit→Act→World→Prop) (hs:List du) (E:List (Nat × I)) (L:List aM) (np:Nat) (i:Nat) (o:Oper) (h:du):Prop:=
 ∀ (hd:Nat→Hid) (E':List (Nat × I)) (L':List aM),(∀ t τ,look (mV hd hs E h.up) t=some τ→look E' t=some τ)→
   (∀ j e,(gY (fun _=>true) hd 0 (hs.take i) L)[j]? =some e→h.rd.contains j=true→L'[j]? =some e)→L'.drop np=L.drop np→
   ah c ops (sO (fun a W=> ∃ x,bx c (n3 h.slot (h.τ (gk h.up i (iU hd i x))) E') (mm L' (h.e9 (gk h.up i (iU hd i x))) h.wr) a W) Q) [o] E' L'
def o7 (c:dd) (ops:Array Oper) (Q:Exit→Act→World→Prop) (hs:List du) (E:List (Nat × I)) (L:List aM) (np:Nat):Nat→List Oper→List du→Prop
 | _,[],[]=>True
 | i,o :: os,h :: r=>H5 c ops Q hs E L np i o h∧o7 c ops Q hs E L np (i + 1) os r
 | _,_,_=>False
theorem o7.get {hs:List du} {np:Nat} :∀ {k:Nat} {os:List Oper} {rs:List du},o7 c ops Q hs E L np k os rs→ ∀ i h o,rs[i]? =some h→os[i]? =some o→H5 c ops Q hs E L np (k + i) o h
 | k,[],[],_,i,h,o,au,_=>by simp at au
 | k,ab2 :: os,bI :: r,b3,i,h,o,au,bb=>by
   cases i with
   | zero=>
     simp only [List.getElem?_cons_zero,Option.some.injEq] at au bb
     subst au; subst bb; exact b3.1
   | succ i=>
     have:=o7.get b3.2 i h o (by simpa using au) (by simpa using bb)
     rw [show k + 1 + i=k + (i + 1) by omega] at this
     exact this
 | k,[],_ :: _,b3,_,_,_,_,_=>b3.elim
 | k,_ :: _,[],b3,_,_,_,_,_=>b3.elim
theorem tu.Qn {hs:List du} {np:Nat} :∀ {k:Nat} {os:List Oper} {rs:List du},tu c ops Q hs E L k os rs→o7 c ops Q hs E L np k os rs
 | _,[],[],_=>trivial
 | _,_ :: _,_ :: _,h=>⟨fun hd E' L' J ad _=>h.1 hd E' L' J ad,tu.Qn h.2⟩
 | _,[],_ :: _,h=>h.elim
 | _,_ :: _,[],h=>h.elim
theorem Me {n:Nat} :∀ {L:List aM} {f:Nat→aM} {e4:List Nat},(∀ j∈e4,j < n∨L.length≤j)→ (mm L f e4).drop n=L.drop n
 | _,_,[],_=>rfl
 | L,f,j :: r,h=>by
   rw [mm,Me (fun k ay=>by rw [List.length_set]; exact h k (by simp [ay]))]
   rcases h j (by simp) with J | J
   ·rw [List.drop_set_of_lt J]
   ·rw [List.set_eq_of_length_le J]
theorem Ea {ls:Nat→Bool} {hd:Nat→Hid} {n:Nat} :∀ {k:Nat} {hs:List du} {L:List aM},(∀ h∈hs,∀ j∈h.wr,j < n∨L.length≤j)→ (gY ls hd k hs L).drop n=L.drop n
 | _,[],_,_=>rfl
 | k,h :: r,L,hw=>by
   rw [gY]
   cases ao:ls k
   ·exact Ea fun x an=>hw x (by simp [an])
   ·simp only [cond_true]
    rw [Ea (fun x an j aH=>by rw [LD]; exact hw x (by simp [an]) j aH),Me (hw h (by simp))]
theorem Tw {hs:List du} {np:Nat} (hw:∀ h∈hs,∀ j∈h.wr,j < np∨L.length≤j) (hr:j8 ops (jj hs) (E.map (·.1))=true) (b3:o7 c ops Q hs E L np 0 ops.toList hs)
 (bL:∀ hd,ae c Q .normal (hS (fun _=>true) hd E 0 hs) (gY (fun _=>true) hd 0 hs L)):
 ∀ m (a4:Array Bool) (hd:Nat→Hid) (a:Act) (W:World),((List.range ops.size).filter fun i=> !a4.getD i true).length≤m→HeadInv .any ops ops.size a4→
   bx c (hS (fun i=>a4.getD i false) hd E 0 hs) (gY (fun i=>a4.getD i false) hd 0 hs L) a W→wpAnyIn c.F 9 c.P .any ops Q m a4 a W:=by
 simp only [j8,Bool.and_eq_true,decide_eq_true_eq] at hr
 obtain⟨⟨⟨II,gu⟩,BI⟩,kA⟩:=hr
 have hlen:hs.length=ops.size:=by simpa [jj] using II
 have lU:∀ i,i < ops.size→ ∃ h o,hs[i]? =some h∧ops[i]? =some o:=fun i au=>⟨hs[i]'(by omega),ops[i],by simp,by simp⟩
 have pR:∀ (i:Nat) (h:du) (o:Oper),hs[i]? =some h→ops[i]? =some o→
  o.dst=h.slot∧ (∀ e∈o.after,Region.binds .any e=true→e.on < i)∧
  (∀ k∈h.up,Region.waitsFor .any ops i k=true∨ ∃ m,m < i∧Region.waitsFor .any ops i m=true∧ ∃ x,hs[m]? =some x∧k∈x.up)∧
  (∀ (k:Nat) (x:du),hs[k]? =some x→ (k < i→ (∃ j∈x.wr,h.rd.contains j=true)→k∈h.up)∧ (i < k→ (∃ j∈x.wr,h.rd.contains j=true∨h.wr.contains j=true)→i∈x.up)):=by
  intro i h o au bb
  have b5:i < ops.size:=(Array.getElem?_eq_some_iff.1 bb).1
  have J:=List.all_eq_true.1 kA i (List.mem_range.2 b5)
  rw [xU au] at J
  simp only [Bool.and_eq_true] at J
  obtain⟨⟨ad,aC⟩,aU⟩:=J
  simp only [bb,Option.map_some,Option.getD_some,Bool.and_eq_true,Option.bind_some,beq_iff_eq] at ad
  refine⟨ad.1,fun e he hb=> ?_,fun k ay=> ?_,fun k x an=> ?_⟩
  ·have:=Array.all_eq_true_iff_forall_mem.1 ad.2 e he
   simp [hb] at this
   exact this
  ·have:=List.all_eq_true.1 aC k ay
   simp only [Bool.or_eq_true,List.any_eq_true,Bool.and_eq_true,List.mem_range] at this
   rcases this with a1 | ⟨m,a1,bk,cT⟩
   ·exact .inl a1
   ·have hm:m < hs.length:=by omega
    rw [xU (List.getElem?_eq_getElem hm)] at cT
    exact .inr ⟨m,a1,bk,hs[m],List.getElem?_eq_getElem hm,by simpa using cT⟩
  ·have B7:k < ops.size:=by have:=(List.getElem?_eq_some_iff.1 an).1; omega
   have:=List.all_eq_true.1 aU k (List.mem_range.2 B7)
   rw [xU an] at this
   simp only [Bool.and_eq_true,Bool.or_eq_true,Bool.not_eq_true',Bool.and_eq_false_iff,decide_eq_false_iff_not,List.contains_iff_mem] at this
   refine⟨fun ps ⟨j,aH,aR⟩=> ?_,fun lC ⟨j,aH,aR⟩=> ?_⟩
   ·rcases this.1 with(a1 | a1) | a1
    ·exact absurd ps a1
    ·have:=List.any_eq_false.1 a1 j aH
     exact absurd aR this
    ·exact a1
   ·rcases this.2 with(a1 | a1) | a1
    ·exact absurd lC a1
    ·have:=List.any_eq_false.1 a1 j aH
     simp only [Bool.or_eq_true] at this
     exact absurd aR this
    ·exact a1
 have vL:∀ (i j s:Nat) (x y:du),hs[i]? =some x→hs[j]? =some y→x.slot=some s→y.slot=some s→i=j:=by
  have key:∀ (l:List du),((jj l).filterMap (·.1)).Nodup→ ∀ (i j s:Nat) (x y:du),l[i]? =some x→l[j]? =some y→x.slot=some s→y.slot=some s→i=j:=by
   intro l
   induction l with
   | nil=>intro _ i j s x y h; simp at h
   | cons z r bJ=>
     intro gu i j s x y au aH an a5
     have aR:((jj r).filterMap (·.1)).Nodup:=by
      cases db:z.slot with
      | none=>simpa [jj,db] using gu
      | some w=>
        simp only [jj,List.map_cons,List.filterMap_cons,db] at gu
        exact(List.nodup_cons.1 gu).2
     have pV:z.slot=some s→ ∀ (q:Nat) (v:du),r[q]? =some v→v.slot≠some s:=fun db q v hq a0=>by
      simp only [jj,List.map_cons,List.filterMap_cons,db] at gu
      exact(List.nodup_cons.1 gu).1 (List.mem_filterMap.2 ⟨_,List.mem_map.2 ⟨v,List.mem_of_getElem? hq,rfl⟩,a0⟩)
     cases i with
     | zero=>
       simp only [List.getElem?_cons_zero,Option.some.injEq] at au
       subst au
       cases j with
       | zero=>rfl
       | succ j=>simp only [List.getElem?_cons_succ] at aH; exact absurd a5 (pV an j y aH)
     | succ i=>
       simp only [List.getElem?_cons_succ] at au
       cases j with
       | zero=>
         simp only [List.getElem?_cons_zero,Option.some.injEq] at aH
         subst aH
         exact absurd an (pV a5 i x au)
       | succ j=>simp only [List.getElem?_cons_succ] at aH; rw [bJ aR i j s x y au aH an a5]
  exact key hs gu
 have IJ:∀ (t:Nat) (τ:I),look E t=some τ→ ∀ (m:Nat) (h:du),hs[m]? =some h→h.slot=some t→ ∀ k,k < ops.size→k≠m→k∈h.up:=by
  intro t τ ao m h hm e0 k ay sB
  have mT:m < ops.size:=by have:=(List.getElem?_eq_some_iff.1 hm).1; omega
  have J:=List.all_eq_true.1 BI m (List.mem_range.2 mT)
  rw [show(jj hs)[m]? =some (h.slot,h.up,h.rd,h.wr) by simp [jj,hm],e0] at J
  have tQ:t∈E.map (·.1):=by
   clear BI J b3 bL hm e0
   induction E with
   | nil=>simp [look] at ao
   | cons x r bJ=>
     obtain⟨s,σ⟩:=x
     simp only [look] at ao
     by_cases e:Nat.beq s t=true
     ·have:=eh.1 e; subst this; simp
     ·simp only [Bool.not_eq_true] at e
      rw [e] at ao
      simp only [List.map_cons,List.mem_cons]
      exact .inr (bJ ao)
  replace J:(!(E.map (·.1)).contains t || (List.range ops.size).all fun k=>decide (k=m) || h.up.contains k)=true:=J
  rw [show(E.map (·.1)).contains t=true by simpa using tQ] at J
  have ad:∀ x,x < ops.size→x=m∨x∈h.up:=by simpa using J
  exact(ad k ay).resolve_left sB
 have sC:∀ (a4:Array Bool),HeadInv .any ops ops.size a4→ ∀ (d i:Nat),i≤d→ ∀ (h:du) (o:Oper),hs[i]? =some h→ops[i]? =some o→ (∀ e∈o.after,Region.binds .any e=true→a4.getD e.on false=true)→ ∀ k∈h.up,a4.getD k false=true:=by
  intro a4 inv d
  induction d with
  | zero=>
    intro i au h o dr oa hw k ay
    rcases (pR i h o dr oa).2.2.1 k ay with J | ⟨m,hm,_⟩
    ·obtain⟨kL,hZ,e,he,hb,lD⟩:=Region.waitsFor_spec J
     rw [oa] at hZ; cases hZ
     rw [← lD]; exact hw e he hb
    ·omega
  | succ d bJ=>
    intro i au h o dr oa hw k ay
    rcases (pR i h o dr oa).2.2.1 k ay with J | ⟨m,hm,J,x,an,JH⟩
    ·obtain⟨kL,hZ,e,he,hb,lD⟩:=Region.waitsFor_spec J
     rw [oa] at hZ; cases hZ
     rw [← lD]; exact hw e he hb
    ·obtain⟨kL,hZ,e,he,hb,lD⟩:=Region.waitsFor_spec J
     rw [oa] at hZ; cases hZ
     have mT:=hw e he hb
     rw [lD] at mT
     obtain⟨aP,qt,aaR,qf⟩:=lU m (by have:=(Array.getElem?_eq_some_iff.1 oa).1; omega)
     exact bJ m (by omega) x qt an qf (fun e he hb=>inv.closed m qt qf mT e he hb) k JH
 have mL:∀ (a4:Array Bool) (hd:Nat→Hid) (a:Act) (W:World),(∀ i,i < ops.size→a4.getD i true=true)→HeadInv .any ops ops.size a4→
  bx c (hS (fun i=>a4.getD i false) hd E 0 hs) (gY (fun i=>a4.getD i false) hd 0 hs L) a W→Region.ready .any ops a4= []∧Q .normal a W:=by
  intro a4 hd a W pS inv st
  refine⟨?_,?_⟩
  ·refine List.eq_nil_iff_forall_not_mem.2 fun i au=> ?_
   obtain⟨J,o,bb,_⟩:=mem_ready.1 au
   rw [pS i (Array.getElem?_eq_some_iff.1 bb).1] at J
   cases J
  ·have ao:∀ m,m < hs.length→a4.getD (0 + m) false=true:=fun m hm=>by
    have J:=pS m (by omega)
    have ad:m < a4.size:=by rw [inv.size]; omega
    simpa [ad] using J
   rw [GZ (ls':=fun _=>true) ao,Hj (ls':=fun _=>true) ao] at st
   exact bL hd a W st
 intro m
 induction m with
 | zero=>
   intro a4 hd a W hm inv st
   refine mL a4 hd a W (fun i au=> ?_) inv st
   cases h:a4.getD i true with
   | true=>rfl
   | false=>
     have:i∈ (List.range ops.size).filter fun i=> !a4.getD i true:=List.mem_filter.2 ⟨List.mem_range.2 au,by rw [h]; rfl⟩
     rw [List.length_eq_zero_iff.1 (Nat.le_zero.1 hm)] at this
     cases this
 | succ m bJ=>
   intro a4 hd a W hm inv st
   refine⟨fun bI=> ?_,fun i au=> ?_⟩
   ·refine(mL a4 hd a W (fun i au=> ?_) inv st).2
    have key:∀ d i,i≤d→i < ops.size→a4.getD i true=true:=by
     intro d
     induction d with
     | zero=>
       intro i wx au
       cases ao:a4.getD i true with
       | true=>rfl
       | false=>
         obtain⟨h,o,dr,bb⟩:=lU i au
         have:i∈Region.ready .any ops a4:=mem_ready.2 ⟨ao,o,bb,fun e he hb=>by have:=(pR i h o dr bb).2.1 e he hb; omega⟩
         rw [bI] at this; cases this
     | succ d Ck=>
       intro i wx au
       cases ao:a4.getD i true with
       | true=>rfl
       | false=>
         obtain⟨h,o,dr,bb⟩:=lU i au
         have:i∈Region.ready .any ops a4:=mem_ready.2 ⟨ao,o,bb,fun e he hb=>by
          have J:=(pR i h o dr bb).2.1 e he hb
          have ad:=Ck e.on (by omega) (by omega)
          have aC:e.on < a4.size:=by rw [inv.size]; omega
          simpa [aC] using ad⟩
         rw [bI] at this; cases this
    exact key i i (Nat.le_refl _) au
   ·obtain⟨ir,o,bb,nO⟩:=mem_ready.1 au
    have eu:i < ops.size:=(Array.getElem?_eq_some_iff.1 bb).1
    obtain⟨h,_,dr,_⟩:=lU i eu
    have jR:a4.getD i false=false:=getD_both ir
    have pY:i < a4.size:=by rw [inv.size]; omega
    have pX:((List.range ops.size).filter fun j=> !(a4.setIfInBounds i true).getD j true).length≤m:=by
     have:((List.range ops.size).filter fun j=> !(a4.setIfInBounds i true).getD j true).length < ((List.range ops.size).filter fun j=> !a4.getD j true).length:=by
      refine Er (fun j=> !a4.getD j true) (fun j=> !(a4.setIfInBounds i true).getD j true) i (by simp only [ir]; rfl) ?_ (fun j aH=> ?_) ops.size eu
      ·simp [pY]
      ·by_cases e:i=j
       ·subst e; simp only [ir]; rfl
       ·rw [getD_set_ne true e] at aH; exact aH
     omega
    have sf:=inv.set au eu
    obtain⟨BE,AZ,Yi,tP⟩:=pR i h o dr bb
    have v9:=sC a4 inv i i (Nat.le_refl _) h o dr bb nO
    have A0:∀ (k:Nat) (x:du),hs[k]? =some x→i < k→ (∃ j∈x.wr,h.rd.contains j=true∨h.wr.contains j=true)→a4.getD k false=false:=fun k x an lC aH=>by
     have J:=(tP k x an).2 lC aH
     cases ay:a4.getD k false with
     | false=>rfl
     | true=>
       obtain⟨_,ok,_,hF⟩:=lU k (by have:=(List.getElem?_eq_some_iff.1 an).1; omega)
       have:=sC a4 inv k k (Nat.le_refl _) x ok an hF (fun e he hb=>inv.closed k ok hF ay e he hb) i J
       rw [jR] at this; cases this
    have A1:hs=hs.take i ++ h :: hs.drop (i + 1):=by
     have yO:i < hs.length:=by omega
     rw [List.getElem?_eq_getElem yO] at dr
     cases dr
     rw [List.getElem_cons_drop]
     exact(List.take_append_drop i hs).symm
    have yP:(hs.take i).length=i:=by rw [List.length_take]; omega
    have mx:∀ (t:Nat) (τ:I),look E t=some τ→ ∀ (m:Nat) (x:du),hs[m]? =some x→a4.getD (0 + m) false=true→x.slot≠some t:=fun t τ ao m x an sD e0=>by
     rw [Nat.zero_add] at sD
     have Cl:i≠m:=fun e=>by subst e; rw [jR] at sD; cases sD
     obtain⟨_,qt,_,qf⟩:=lU m (by have:=(List.getElem?_eq_some_iff.1 an).1; omega)
     have:=sC a4 inv m m (Nat.le_refl _) x qt an qf (fun e he hb=>inv.closed m qt qf sD e he hb) i (IJ t τ ao m x an e0 i eu Cl)
     rw [jR] at this; cases this
    have Bh:=(o7.get b3 i h o dr (by rw [Array.getElem?_toList]; exact bb))
    rw [Nat.zero_add] at Bh
    have Cm:=Bh hd (hS (fun i=>a4.getD i false) hd E 0 hs) (gY (fun i=>a4.getD i false) hd 0 hs L) (fun t τ ao=> ?_) (fun j e aH aR=> ?_) (Ea hw)
    ·have hw:=Ae (K:=fun a W=> ∃ x,bx c (n3 h.slot (h.τ (gk h.up i (iU hd i x))) (hS (fun i=>a4.getD i false) hd E 0 hs)) (mm (gY (fun i=>a4.getD i false) hd 0 hs L) (h.e9 (gk h.up i (iU hd i x))) h.wr) a W) bb (Cm a W st)
     refine wpOpIn_mono (fun gw W' ⟨x,nw⟩=> ?_) hw
     have Cn:∀ j,j≠i→iU hd i x j=hd j:=fun j aH=>by
      have:Nat.beq j i=false:=by
       cases hb:Nat.beq j i
       ·rfl
       ·exact absurd (eh.1 hb) aH
      simp only [iU,this,cond_false]
     have wF:∀ (j:Nat) (y:du),hs[j]? =some y→a4.getD j false=true→gk y.up j (iU hd i x)=gk y.up j hd:=fun j y a5 aH=>by
      obtain⟨_,kL,_,hZ⟩:=lU j (by have:=(List.getElem?_eq_some_iff.1 a5).1; omega)
      refine Md (Cn j fun e=>by subst e; rw [jR] at aH; cases aH) fun k ay=>Cn k fun e=> ?_
      have:=sC a4 inv j j (Nat.le_refl _) y kL a5 hZ (fun e he hb=>inv.closed j kL hZ aH e he hb) k ay
      subst e
      rw [jR] at this; cases this
     have wG:(a4.setIfInBounds i true).getD i false=true:=by simp [pY]
     have fU:∀ j,j≠i→ (a4.setIfInBounds i true).getD j false=a4.getD j false:=fun j aH=>getD_set_ne false (fun e=>aH e.symm)
     refine bJ _ (iU hd i x) gw W' pX sf ?_
     have Jb:gY (fun j=>(a4.setIfInBounds i true).getD j false) (iU hd i x) 0 hs L=mm (gY (fun i=>a4.getD i false) hd 0 hs L) (h.e9 (gk h.up i (iU hd i x))) h.wr:=by
      apply List.ext_getElem?
      intro j
      rw [vn,DY,vn]
      by_cases aH:h.wr.contains j=true
      ·rw [if_pos aH]
       have av:∀ (ls:Nat→Bool) (g:Nat→Hid) (v:Option aM),(∀ k x,hs[k]? =some x→i < k→x.wr.contains j=true→ls k=false)→kf ls g j 0 hs v=(bif ls i then(kf ls g j 0 (hs.take i) v).map (fun _=>h.e9 (gk h.up i g) j) else kf ls g j 0 (hs.take i) v):=fun ls g v Ci=>by
        conv=>lhs; rw [A1]
        rw [Ai,yP,Nat.zero_add,kf,aH,Bool.and_true,As]
        intro k x an hw
        rw [List.getElem?_drop] at an
        exact Ci (i + 1 + k) x an (by omega) hw
       have e8:∀ k x,hs[k]? =some x→i < k→x.wr.contains j=true→a4.getD k false=false:=fun k x an lC hw=>A0 k x an lC ⟨j,by simpa using hw,.inr aH⟩
       rw [av (fun j=>(a4.setIfInBounds i true).getD j false) (iU hd i x) _ (fun k x an lC hw=>by rw [fU k (by omega)]; exact e8 k x an lC hw),av (fun j=>a4.getD j false) hd _ e8]
       simp only [wG,jR,cond_true,cond_false]
       rw [uW (ls':=fun j=>a4.getD j false) (hd':=hd) fun q x an _=>by
        have hq:q < i:=by have:=(List.getElem?_eq_some_iff.1 an).1; omega
        rw [List.getElem?_take,if_pos hq] at an
        rw [Nat.zero_add]
        exact⟨fU q (by omega),fun ao=>wF q x an (by rw [fU q (by omega)] at ao; exact ao)⟩]
      ·rw [if_neg aH]
       refine uW fun q x an hw=> ?_
       rw [Nat.zero_add]
       have hq:q≠i:=fun e=>by subst e; rw [dr] at an; cases an; exact aH hw
       exact⟨fU q hq,fun ao=>wF q x an (by rw [fU q hq] at ao; exact ao)⟩
     rw [Jb]
     refine nw.less fun t τ ao=> ?_
     rcases Hi ao with⟨j,y,J,ad,aC,aU⟩ | ⟨J,e8⟩
     ·rw [Nat.zero_add] at ad aU
      by_cases g5:j=i
      ·subst g5
       rw [dr] at J
       cases J
       exact⟨τ,by rw [aC,aU]; simp [n3,look,Nat.beq_refl],fun _ _ _ h=>h⟩
      ·rw [fU j g5] at ad
       rw [wF j y J ad] at aU
       have a1:=AF (ls:=fun i=>a4.getD i false) (hd:=hd) (E:=E) (k:=0) J (by rw [Nat.zero_add]; exact ad) aC fun q z hq db=>vL q j t z y hq J db aC
       rw [Nat.zero_add,← aU] at a1
       refine⟨τ,?_,fun _ _ _ h=>h⟩
       cases oL:h.slot with
       | none=>exact a1
       | some s=>
         have c6:Nat.beq s t=false:=by
          cases hb:Nat.beq s t
          ·rfl
          ·have:=eh.1 hb; subst this
           exact absurd (vL j i s y h J dr aC oL) g5
         simp only [n3,look,c6,cond_false]
         exact a1
     ·have hb:=mx t τ J
      have a1:=At (ls:=fun i=>a4.getD i false) (hd:=hd) (E:=E) (k:=0) hb
      refine⟨τ,?_,fun _ _ _ h=>h⟩
      cases oL:h.slot with
      | none=>simp only [n3]; rw [a1]; exact J
      | some s=>
        have c6:Nat.beq s t=false:=by
         cases lB:Nat.beq s t
         ·rfl
         ·have:=eh.1 lB; subst this
          exact absurd oL (e8 i h dr (by rw [Nat.zero_add]; exact wG))
        simp only [n3,look,c6,cond_false]
        rw [a1]; exact J
    ·rcases HF ao with⟨j,aH,y,J,ad,aC⟩ | J
     ·have a1:=AF (ls:=fun i=>a4.getD i false) (hd:=hd) (E:=E) (k:=0) J (by rw [Nat.zero_add]; exact v9 j aH) ad fun q z hq db=>vL q j t z y hq J db ad
      rw [Nat.zero_add,← aC] at a1
      exact a1
     ·rw [At (mx t τ J)]; exact J
    ·rw [vn] at aH ⊢
     rw [← aH]
     conv=>lhs; rw [A1]
     rw [Ai,As]
     ·refine uW fun q x an hw=> ?_
      rw [Nat.zero_add]
      have hq:q < i:=by have:=(List.getElem?_eq_some_iff.1 an).1; omega
      rw [List.getElem?_take,if_pos hq] at an
      exact⟨v9 q ((tP q x an).1 hq ⟨j,by simpa using hw,aR⟩),fun _=>rfl⟩
     ·intro q x an hw
      rw [yP,Nat.zero_add]
      cases q with
      | zero=>exact jR
      | succ q=>
        simp only [List.getElem?_cons_succ] at an
        rw [List.getElem?_drop] at an
        exact A0 (i + (q + 1)) x (by rw [← an]; congr 1; omega) (by omega) ⟨j,by simpa using hw,.inl aR⟩
theorem ag.NR {np:Nat} {oN:Nat} {l:List Oper} (hm:c.P.follows .mixedOrders=true) (hs:List du) (ds:List (Option Nat × List Nat × List Nat × List Nat)) (es:List Nat) (hM:jj hs=ds) (qg:E.map (·.1)=es) (hr:Gv.j8 l.toArray ds es=true) (hw:∀ h∈hs,∀ j∈h.wr,j < np∨L.length≤j)
 (b3:o7 c l.toArray Q hs E L np 0 l hs) (bL:∀ hd,ae c Q .normal (hS (fun _=>true) hd E 0 hs) (gY (fun _=>true) hd 0 hs L)):ag c Q (.region oN l.toArray true) E L:=fun a W s=>by
 subst hM qg
 refine wpIn_region_any hm ?_
 have BF:HeadInv .any l.toArray l.toArray.size (Array.replicate l.toArray.size false):=
  {size:=by simp
   closed:=fun j kL _ ao=>by rw [getD_replicate_false] at ao; cases ao
   tail:=fun t J ad=>by omega }
 refine Tw hw (ops:=l.toArray) (Q:=Q) hr (by simpa using b3) bL l.toArray.size (Array.replicate l.toArray.size false) (fun _ _=>none) a W.drew (Nat.le_trans (List.length_filter_le _ _) (by simp)) BF ?_
 have J:∀ (hs:List du) (k:Nat),hS (fun i=>(Array.replicate l.toArray.size false).getD i false) (fun _ _=>none) E k hs=E:=by
  intro hs
  induction hs with
  | nil=>intro k; rfl
  | cons h r bJ=>
    intro k
    have ad:=bJ (k + 1)
    simp only [getD_replicate_false] at ad
    unfold hS
    simp only [getD_replicate_false]
    exact ad
 have ad:∀ (hs:List du) (k:Nat) (L:List aM),gY (fun i=>(Array.replicate l.toArray.size false).getD i false) (fun _ _=>none) k hs L=L:=by
  intro hs
  induction hs with
  | nil=>intro k L; rfl
  | cons h r bJ=>intro k L; rw [gY,bJ]; simp only [getD_replicate_false,cond_false]
 rw [J,ad]
 exact s.world (Fr.drew W)
theorem ag.j8 {oN:Nat} {l:List Oper} (hm:c.P.follows .mixedOrders=true) (hs:List du) (ds:List (Option Nat × List Nat × List Nat × List Nat)) (es:List Nat) (hM:jj hs=ds) (qg:E.map (·.1)=es) (hr:Gv.j8 l.toArray ds es=true)
 (b3:tu c l.toArray Q hs E L 0 l hs) (bL:∀ hd,ae c Q .normal (hS (fun _=>true) hd E 0 hs) (gY (fun _=>true) hd 0 hs L)):ag c Q (.region oN l.toArray true) E L:=
 ag.NR (np:=L.length) hm hs ds es hM qg hr (fun _ _ j _=>by omega) b3.Qn bL
theorem O4 {hs:List du} {ds:List (Option Nat × List Nat × List Nat × List Nat)} {np:Nat} (hM:jj hs=ds) (h:(ds.all fun d=>d.2.2.2.all fun j=>Nat.blt j np)=true):∀ h∈hs,∀ j∈h.wr,j < np∨L.length≤j:=fun x an j aH=>by
 subst hM
 have J:=List.all_eq_true.1 h (x.slot,x.up,x.rd,x.wr) (List.mem_map.2 ⟨x,an,rfl⟩)
 have ad:=List.all_eq_true.1 J j aH
 exact .inl (Nat.blt_eq.mp ad)
theorem ag.pP {oN:Nat} {l:List Oper} (np:Nat) (hm:c.P.follows .mixedOrders=true) (hs:List du) (ds:List (Option Nat × List Nat × List Nat × List Nat)) (es:List Nat) (hM:jj hs=ds) (qg:E.map (·.1)=es) (hr:Gv.j8 l.toArray ds es=true) (hw:(ds.all fun d=>d.2.2.2.all fun j=>Nat.blt j np)=true)
 (b3:o7 c l.toArray Q hs E L np 0 l hs) (bL:∀ hd,ae c Q .normal (hS (fun _=>true) hd E 0 hs) (gY (fun _=>true) hd 0 hs L)):ag c Q (.region oN l.toArray true) E L:=
 ag.NR hm hs ds es hM qg hr (O4 hM hw) b3 bL
theorem ae.fin {slot:Option Nat} {up wr:List Nat} {i:Nat} {hd:Nat→Hid} {τ:(Nat→Hid)→I} {e9:(Nat→Hid)→Nat→aM} {E' y1:List (Nat × I)} {L' L2:List aM} (x:Hid) (aB:y1=n3 slot (τ (gk up i (iU hd i x))) E') (al:L2=mm L' (e9 (gk up i (iU hd i x))) wr):
 ae c (sO (fun a W=> ∃ x,bx c (n3 slot (τ (gk up i (iU hd i x))) E') (mm L' (e9 (gk up i (iU hd i x))) wr) a W) Q) .normal y1 L2:=fun a W s=>by
 subst aB al
 exact⟨x,s⟩
theorem ae.place {z:Exit} {e:aM} (j:Nat) (aH:L[j]? =some ⟨none,.dead⟩) (k:ae c Q z E (L.set j e)):ae c Q z E (e :: L):=fun a W s=>by
 refine k a W (s.sub (fun x an=> ?_) ?_)
 ·rcases List.mem_or_eq_of_mem_set an with h | h
  ·exact List.mem_cons.2 (.inr h)
  ·exact List.mem_cons.2 (.inl h)
 ·have J:=tc aH
  have ad:(L.set j e).Perm (e :: L.eraseIdx j):=by
   have aC:(L.set j e)[j]? =some e:=by rw [List.getElem?_set_self (List.getElem?_eq_some_iff.1 aH).1]
   have aU:=tc aC
   rwa [List.eraseIdx_set_eq] at aU
  have a1:=vc (J.cons e)
  have bk:aQ (e :: ⟨none,.dead⟩ :: L.eraseIdx j)=aQ (e :: L.eraseIdx j):=by cases ay:e.key <;> simp [aQ,ay]
  rw [bk] at a1
  exact(vc ad).nodup_iff.2 (a1.nodup_iff.1 s.nodup)
theorem ae.back {z:Exit} {e iZ:aM} (j:Nat) (aH:L[j]? =some iZ) (k:ae c Q z E (L.set j e)):ae c Q z E (e :: L.eraseIdx j):=fun a W s=>by
 have aC:(L.set j e)[j]? =some e:=by rw [List.getElem?_set_self (List.getElem?_eq_some_iff.1 aH).1]
 have aU:=tc aC
 rw [List.eraseIdx_set_eq] at aU
 exact k a W (s.perm aU.symm)
theorem ag.pg {z:Code} (n:Nat) (k:ag c Q z E (L ++ List.replicate n ⟨none,.dead⟩)):ag c Q z E L:=fun a W s=>by
 refine k a W ?_
 have ay:aQ (L ++ List.replicate n ⟨none,.dead⟩)=aQ L:=by
  rw [eS]
  have:∀ n,aQ (List.replicate n (⟨none,.dead⟩:aM))= []:=fun n=>by
   induction n with
   | zero=>rfl
   | succ n bJ=>rw [List.replicate_succ]; simp [aQ,bJ]
  rw [this,List.append_nil]
 exact
 {defers:=s.defers
  size:=s.size
  env:=fun t τ ao=>by rw [ay]; exact s.env t τ ao
  dG:=s.dG
  own:=fun e he=>by
   rw [ay]
   rcases List.mem_append.1 he with he | he
   ·exact s.own e he
   ·rw [(List.mem_replicate.1 he).2]; trivial
  nodup:=by rw [ay]; exact s.nodup
  lt:=by rw [ay]; exact s.lt
  fR:=by rw [ay]; exact s.fR
  eW:=by rw [ay]; exact s.eW }
theorem ag.OZ {z:Code} (n m:Nat) (k:ag c Q z E (L.take m ++ (List.replicate n ⟨none,.dead⟩ ++ L.drop m))):ag c Q z E L:=by
 refine ag.pg n fun a W s=>k a W (s.perm ?_)
 have e:L=L.take m ++ L.drop m:=(List.take_append_drop m L).symm
 conv=>lhs; rw [e]
 rw [List.append_assoc]
 exact List.perm_append_comm.append_left _
theorem ae.dR {z:Exit} {L2:List aM} (h:L=L2) (k:ae c Q z E L2):ae c Q z E L:=by subst h; exact k
theorem ae.ik {z:Exit} {key:Option Nat} {n m cap:Nat} (fo:Nat) (ao:look E fo=some (.eq (a2 key n cap))) (aO:n=m) (k:ae c Q z ((fo,.eq (a2 key m cap)) :: E) L):ae c Q z E L:=fun a W s=>by
 subst aO
 refine k a W (s.less fun t τ h=> ?_)
 simp only [look] at h
 by_cases e:Nat.beq fo t=true
 ·rw [e] at h
  simp only [cond_true] at h
  have:=eh.1 e
  subst this
  exact⟨τ,by rw [ao,h],fun _ _ _ h=>h⟩
 ·simp only [Bool.not_eq_true] at e
  rw [e] at h
  exact⟨τ,h,fun _ _ _ h=>h⟩
variable {hs:List du} {i d:Nat} {up rd:List Nat} {e9:(Nat→Hid)→Nat→aM} {o:Oper}
theorem im {τ:I} (bs:o.guard=none) (hd:o.dst=some d) (aO:Nat.blt d c.n=true)
 (h:∀ (hd:Nat→Hid) (E':List (Nat × I)) (L':List aM),(∀ t τ,look (mV hd hs E up) t=some τ→look E' t=some τ)→ (∀ j e,(gY (fun _=>true) hd 0 (hs.take i) L)[j]? =some e→rd.contains j=true→L'[j]? =some e)→bS c E' L' o τ):
 ct c ops Q hs E L i o ⟨some d,up,rd,[],fun _=>τ,e9⟩:=fun aaS E' L' aB al=>
 ah.v (h aaS E' L' aB al) bs hd aO (ah.nil (ae.fin (fun _=>none) rfl rfl))
variable {ty t:TypeId} {pos:String} {af:Array Edge}
theorem ah.Pt {α:Type} [ai α] {rest:List Oper} {a7 e n:Nat} {z:α} {r0 r:List α} {br:List (Nat × Operand)} (hu:c.P.underlying t=some (.slice e)) (eJ:bw c.P e α) (gL:cF c.P e z) (hs:Nat.beq (ai.size α) 0=false) (aO:Nat.ble (n * ai.size α) 16777216=true)
 (ba:nS c E L (List.replicate n z) br r0) (aR:r0=r) (kM:Nat.blt a7 c.n=true) (k:∀ p,ah c ops Q rest ((a7,.eq (a2 p r.length n)) :: E) (⟨p,.row e r n⟩ :: L)):
 ah c ops Q (⟨some a7,.buildSlice t n br.toArray,ty,pos,af,none⟩ :: rest) E L:=by subst aR; exact ah.q2 hu eJ gL hs aO ba kM k
variable {g:Option (Nat × Bool)} {x y:Operand}
theorem UC {a b:BitVec 64} {a7:Option Tmp} {ats:Array TypeId} (an:a9 c E L x (.of a)) (a5:a9 c E L y (.of b)):bS c E L ⟨a7,.call ⟨.builtin .min,#[x,y],ats⟩,ty,pos,af,g⟩ (.of (v5 a b)):= .pure fun A W s=>
 ⟨.int .u64 (v5 a b).toNat,by
   simp [execOp,resolve,invoke,builtin,Builtin.min_,Builtin.min2,gd.1 (an A W s),gd.1 (a5 A W s)]
   unfold v5
   split <;> split <;> first | rfl | (rename_i J ad; simp only [BitVec.le_def] at *; omega),gd.2 rfl⟩
end
section
variable {c:dd} {E:List (Nat × I)} {L:List aM} {ops:Array Oper} {Q:Exit→Act→World→Prop}
variable {d:Option Tmp} {ty:TypeId} {pos:String} {af:Array Edge} {g:Option (Nat × Bool)} {x y:Operand} {t t2:TypeId}
def Src (c:dd) (E:List (Nat × I)) (L:List aM) (y:Operand) (N:Nat) {α:Type} [ai α] (vs:List α):Prop:=
 ∀ a W,bx c E L a W→ (Builtin.lenOf (a.eval y)).run c.P W= .ok N W∧ ∃ cells:List Value,(Builtin.firstCells (ai.size α) vs.length (a.eval y)).run c.P W= .ok cells.toArray W∧gC (aQ L ++ c.bT) W cells vs∧ ∀ v∈cells,v.oneCell'=true
theorem ah.EM {rest:List Oper} {i e p off a7 dLen dCap N T:Nat} {cp cp':dB} {α:Type} [ai α] {vs:List α} (hu:c.P.underlying t=some (.slice e)) (eJ:bw c.P e α)
 (an:a9 c E L x (.eq (.slice (some ⟨p,off,none⟩) dLen dCap))) (a5:Src c E L y N vs) (I9:Nat.min N dLen=vs.length) (al:L[i]? =some ⟨some p,cp⟩) (aO:Nat.blt a7 c.n=true)
 (Ju:∀ A W o cells,cp.holds A W o→gC A W cells vs→ ∃ cs,o= .cells cs T (0,0)∧off + cells.length≤cs.size∧cp'.holds A W (.cells (cs.toList.take off ++ cells ++ cs.toList.drop (off + cells.length)).toArray T (0,0)))
 (k:ah c ops Q rest ((a7,.of (vs.length:Int)) :: E) (L.set i ⟨some p,cp'⟩)):
 ah c ops Q (⟨some a7,.call ⟨.builtin .copy,#[x,y],#[t,t2]⟩,ty,pos,af,none⟩ :: rest) E L:=fun a W s=>by
 have kM:a7 < c.n:=by simpa using aO
 have J:a.eval x=_:=an a W s
 obtain⟨ao,cells,ak,aR,yK⟩:=a5 a W s
 obtain⟨o,bb,b3⟩:=s.own _ (List.mem_of_getElem? al)
 obtain⟨cs,rfl,E6,v7⟩:=Ju _ _ _ _ b3 aR
 obtain⟨fZ,eo,eE⟩:=eJ.info
 have ki:=run_storeCells_at (P:=c.P) p off T cells 0 cs W bb (by omega) yK
 simp only [Nat.add_zero] at ki
 have h5:(execOp a.eval ⟨some a7,.call ⟨.builtin .copy,#[x,y],#[t,t2]⟩,ty,pos,af,none⟩).run c.P W= .ok (.value (goInt vs.length)) (W.setRow p (cs.toList.take off ++ cells ++ cs.toList.drop (off + cells.length)).toArray):=by
  simp [execOp,resolve,invoke,builtin,Builtin.copy_,J,run_underlying hu,ao,I9,Go.sizeOf,typeInfo,eo,eE,ak,ki]
 refine hy rfl (R:=fun v hi=>v=goInt vs.length∧hi=W.setRow p (cs.toList.take off ++ cells ++ cs.toList.drop (off + cells.length)).toArray) (.kx h5 ⟨rfl,rfl⟩) fun v hi ⟨a0,hw⟩=> ?_
 subst a0
 subst hw
 exact k _ _ ((s.store al bb v7).put kM (of_int.2 rfl))
theorem D8 {i T cap lo N k:Nat} {key:Option Nat} {α:Type} [ai α] {xs:List α} (a5:a9 c E L y (.eq (hQ key lo N cap (ai.size α)))) (al:L[i]? =some ⟨key,.row T xs cap⟩) (ay:0 < k) (fU:lo + k≤xs.length):
 Src c E L y N ((xs.drop lo).take k):=fun a W s=>by
 obtain⟨p,cs,rfl,eG,aq,bd,bN,dq⟩:=s.rowAt al (by omega)
 have J:a.eval y=_:=a5 a W s
 have mv:cap≠lo:=by omega
 have a0:a.eval y= .slice (some ⟨p,lo * ai.size α,none⟩) N (cap - lo):=by rw [J]; simp [hQ,mv]
 have hlen:((xs.drop lo).take k).length=k:=by rw [List.length_take,List.length_drop]; omega
 have ue:cs.toList.length=cap * ai.size α:=by simpa using aq
 have Z2:(lo + k) * ai.size α≤xs.length * ai.size α:=Nat.mul_le_mul_right _ fU
 have E5:xs.length * ai.size α≤cap * ai.size α:=Nat.mul_le_mul_right _ bd
 rw [Nat.add_mul] at Z2
 have PT:((cs.toList.drop (lo * ai.size α)).take (k * ai.size α)).length=k * ai.size α:=by rw [List.length_take,List.length_drop]; omega
 have fS:gC (aQ L ++ c.bT) W ((cs.toList.drop (lo * ai.size α)).take (k * ai.size α)) ((xs.drop lo).take k):=by
  refine⟨by rw [PT,hlen],fun j aH=> ?_⟩
  rw [hlen] at aH
  have a1:=dq.2 (lo + j) (by omega)
  have eu:=x4 (s:=ai.size α) aH
  have acw:=x4 (s:=ai.size α) (show lo + j < xs.length by omega)
  rw [List.drop_take,List.take_take,Nat.min_eq_left (by omega)] at a1
  rw [List.drop_take,List.take_take,Nat.min_eq_left (by omega),List.drop_drop,← Nat.add_mul]
  simpa using a1
 have fX:=run_loadCells_list (P:=c.P) W ⟨p,lo * ai.size α,none⟩ ((cs.toList.drop (lo * ai.size α)).take (k * ai.size α)) fun j v a0=>by
  rw [jb,cell_of_row W p _ cs T (0,0) eG]
  rw [List.getElem?_take] at a0
  split at a0
  ·rw [List.getElem?_drop] at a0; simpa using a0
  ·cases a0
 rw [PT] at fX
 refine⟨by rw [a0]; rfl,(cs.toList.drop (lo * ai.size α)).take (k * ai.size α),?_,fS,fS.one⟩
 rw [a0]
 simp only [Builtin.firstCells]
 rw [hlen]
 exact fX
theorem HA {p lo n cap size:Nat} (h:cap≠lo):hQ (some p) lo n cap size=Value.slice (some ⟨p,lo * size,none⟩) n (cap - lo):=by simp [hQ,h]
theorem M5 {i T cap:Nat} {key:Option Nat} {α:Type} [ai α] {xs:List α} (a5:a9 c E L y (.eq (a2 key xs.length cap))) (al:L[i]? =some ⟨key,.row T xs cap⟩) (an:0 < xs.length):Src c E L y xs.length xs:=by
 have:=D8 (lo:=0) (k:=xs.length) (N:=xs.length) (by rw [Ao]; exact a5) al an (by omega)
 simpa using this
theorem Eo {key:Option Nat} {n cap size:Nat} (h:a9 c E L x (.eq (hQ key 0 n cap size))):a9 c E L x (.eq (a2 key n cap)):=by rw [← Ao (size:=size)]; exact h
theorem HZ {p lo n cap size:Nat} (ak:cap≠lo) (h:a9 c E L x (.eq (hQ (some p) lo n cap size))):a9 c E L x (.eq (.slice (some ⟨p,lo * size,none⟩) n (cap - lo))):=by rw [← HA ak]; exact h
def dB.BW {α:Type} [ai α] (T:TypeId) (xs:List α) (i m cap:Nat):dB where
 holds A W o:= ∃ cs,o= .cells cs T (0,0)∧cs.size=cap * ai.size α∧xs.length + m≤cap∧cap≤maxLen∧gC A W (cs.toList.take (i * ai.size α)) (xs.take i)∧
  gC A W ((cs.toList.drop ((i + m) * ai.size α)).take ((xs.length - i) * ai.size α)) (xs.drop i)
 mJ:=False
 mono e h:=let⟨cs,J,ad,aC,aU,a1,bk⟩:=h; ⟨cs,J,ad,aC,aU,a1.mono e,bk.mono e⟩
theorem Vn {α:Type} [ai α] {T i m cap:Nat} {xs:List α} (au:i≤xs.length) (hm:xs.length + m≤cap) {A W o cells} (h:(dB.row T xs cap).holds A W o) (ak:gC A W cells (xs.drop i)):
 ∃ cs,o= .cells cs T (0,0)∧ (i + m) * ai.size α + cells.length≤cs.size∧ (dB.BW T xs i m cap).holds A W (.cells (cs.toList.take ((i + m) * ai.size α) ++ cells ++ cs.toList.drop ((i + m) * ai.size α + cells.length)).toArray T (0,0)):=by
 obtain⟨cs,rfl,aq,bd,bN,dq⟩:=h
 have ue:cs.toList.length=cap * ai.size α:=by simpa using aq
 have mv:cells.length=(xs.length - i) * ai.size α:=by rw [ak.1,List.length_drop]
 have av:(i + m) * ai.size α + (xs.length - i) * ai.size α=(xs.length + m) * ai.size α:=by rw [← Nat.add_mul]; congr 1; omega
 have aX:(xs.length + m) * ai.size α≤cap * ai.size α:=Nat.mul_le_mul_right _ hm
 have c4:i * ai.size α≤ (i + m) * ai.size α:=Nat.mul_le_mul_right _ (by omega)
 have gT:i * ai.size α≤xs.length * ai.size α:=Nat.mul_le_mul_right _ au
 have l6:(cs.toList.take ((i + m) * ai.size α)).length=(i + m) * ai.size α:=by rw [List.length_take]; omega
 refine⟨cs,rfl,by omega,_,rfl,?_,hm,bN,?_,?_⟩
 ·simp only [List.size_toArray,List.length_append,List.length_take,List.length_drop]; omega
 ·rw [List.toList_toArray,List.append_assoc,List.take_append_of_le_length (by rw [l6]; omega),List.take_take,Nat.min_eq_left c4]
  have:=Hb au (⟨cs,rfl,aq,bd,bN,dq⟩:(dB.row T xs cap).holds A W (.cells cs T (0,0)))
  obtain⟨aaT,J,_,_,_,a1⟩:=this
  cases J
  rwa [List.length_take,Nat.min_eq_left au] at a1
 ·rw [List.toList_toArray,List.append_assoc,List.drop_left' l6,← mv,List.take_left]
  exact ak
theorem UH {α:Type} [ai α] {T i cap:Nat} {xs vs:List α} (au:i≤xs.length) {A W o cells} (h:(dB.BW T xs i vs.length cap).holds A W o) (ak:gC A W cells vs):
 ∃ cs,o= .cells cs T (0,0)∧i * ai.size α + cells.length≤cs.size∧ (dB.row T (xs.take i ++ vs ++ xs.drop i) cap).holds A W (.cells (cs.toList.take (i * ai.size α) ++ cells ++ cs.toList.drop (i * ai.size α + cells.length)).toArray T (0,0)):=by
 obtain⟨cs,rfl,aq,bd,bN,dq,k9⟩:=h
 have ue:cs.toList.length=cap * ai.size α:=by simpa using aq
 have mv:cells.length=vs.length * ai.size α:=ak.1
 have iZ:i * ai.size α + vs.length * ai.size α=(i + vs.length) * ai.size α:=by rw [← Nat.add_mul]
 have av:(i + vs.length) * ai.size α + (xs.length - i) * ai.size α=(xs.length + vs.length) * ai.size α:=by rw [← Nat.add_mul]; congr 1; omega
 have aX:(xs.length + vs.length) * ai.size α≤cap * ai.size α:=Nat.mul_le_mul_right _ bd
 have hlen:(xs.take i ++ vs ++ xs.drop i).length=xs.length + vs.length:=by simp; omega
 refine⟨cs,rfl,by omega,_,rfl,?_,by rw [hlen]; exact bd,bN,?_⟩
 ·simp only [List.size_toArray,List.length_append,List.length_take,List.length_drop]; omega
 ·rw [List.toList_toArray,hlen]
  have kA:=ta (ta dq ak) k9
  have l6:(cs.toList.take (i * ai.size α) ++ cells).length=(i + vs.length) * ai.size α:=by rw [List.length_append,List.length_take]; omega
  have pB:(cs.toList.take (i * ai.size α) ++ cells ++ cs.toList.drop (i * ai.size α + cells.length)).take ((xs.length + vs.length) * ai.size α)=cs.toList.take (i * ai.size α) ++ cells ++ (cs.toList.drop ((i + vs.length) * ai.size α)).take ((xs.length - i) * ai.size α):=by
   rw [List.take_append,l6,List.take_of_length_le (by omega),mv,iZ]
   congr 2
   omega
  rw [pB]
  exact kA
theorem He {α:Type} [ai α] {T lo cap:Nat} {xs vs:List α} (ay:lo + vs.length≤xs.length) {A W o cells} (h:(dB.row T xs cap).holds A W o) (ak:gC A W cells vs):
 ∃ cs,o= .cells cs T (0,0)∧lo * ai.size α + cells.length≤cs.size∧ (dB.row T (xs.take lo ++ vs ++ xs.drop (lo + vs.length)) cap).holds A W (.cells (cs.toList.take (lo * ai.size α) ++ cells ++ cs.toList.drop (lo * ai.size α + cells.length)).toArray T (0,0)):=by
 obtain⟨cs,rfl,aq,bd,bN,dq⟩:=h
 have ue:cs.toList.length=cap * ai.size α:=by simpa using aq
 have mv:cells.length=vs.length * ai.size α:=ak.1
 have iZ:lo * ai.size α + vs.length * ai.size α=(lo + vs.length) * ai.size α:=by rw [← Nat.add_mul]
 have av:(lo + vs.length) * ai.size α≤xs.length * ai.size α:=Nat.mul_le_mul_right _ ay
 have aX:xs.length * ai.size α≤cap * ai.size α:=Nat.mul_le_mul_right _ bd
 have hlen:(xs.take lo ++ vs ++ xs.drop (lo + vs.length)).length=xs.length:=by simp; omega
 refine⟨cs,rfl,by omega,_,rfl,?_,by rw [hlen]; exact bd,bN,?_⟩
 ·simp only [List.size_toArray,List.length_append,List.length_take,List.length_drop]; omega
 ·rw [List.toList_toArray,hlen]
  have k9:=Ma (lo:=lo) dq ak ay
  have e:(cs.toList.take (lo * ai.size α) ++ cells ++ cs.toList.drop (lo * ai.size α + cells.length)).take (xs.length * ai.size α)=(cs.toList.take (xs.length * ai.size α)).take (lo * ai.size α) ++ cells ++ (cs.toList.take (xs.length * ai.size α)).drop (lo * ai.size α + cells.length):=by
   have c4:(cs.toList.take (lo * ai.size α) ++ cells).length=lo * ai.size α + cells.length:=by rw [List.length_append,List.length_take]; omega
   rw [List.take_append,c4,List.take_of_length_le (by omega),List.take_take,Nat.min_eq_left (by omega),List.drop_take]
  rw [e]
  exact k9
theorem We {p n cap e:Nat} (hu:c.P.underlying t=some (.slice e)) (an:a9 c E L x (.eq (a2 (some p) n cap))):bS c E L ⟨d,.call ⟨.builtin .cap,#[x],#[t]⟩,ty,pos,af,g⟩ (.of (cap:Int)):= .pure fun a W s=>by
 have J:a.eval x=_:=an a W s
 exact⟨.int .i64 cap,by simp [execOp,resolve,invoke,builtin,Builtin.cap_,J,a2,run_underlying hu,goInt],of_int.2 rfl⟩
theorem rH {p n cap:Nat} {α:Type} [ai α] {e:TypeId} {lo au:Option Operand} {m h:Nat} {CJ CK:Int} (hu:c.P.underlying t=some (.slice e)) (eJ:bw c.P e α) (an:a9 c E L x (.eq (a2 (some p) n cap)))
 (fU:uv c E L lo CJ 0) (dr:uv c E L au CK n) (hm:CJ=m) (aO:CK=h) (b3:m≤h∧h≤cap):
 bS c E L ⟨d,.slice t x lo au none,ty,pos,af,g⟩ (.eq (hQ (some p) m (h - m) cap (ai.size α))):= .pure fun a W s=>by
 subst hm; subst aO
 obtain⟨q6,k6⟩:=b3
 obtain⟨fZ,eo,eE⟩:=eJ.info
 have J:a.eval x=_:=an a W s
 refine⟨_,?_,rfl⟩
 simp only [hQ]
 have al:∀ v,v=Value.int .i64 m→ (Instr.sliceBound v h .sliceB).run c.P W= .ok m W:=fun v a0=>o3 q6 a0
 have jI:∀ v,v=Value.int .i64 h→ (Instr.sliceBound v cap .sliceAcap).run c.P W= .ok h W:=fun v a0=>o3 (by omega) a0
 generalize eu:(h:Int)=QM at dr
 generalize Cc:(m:Int)=QN at fU
 generalize Cd:(n:Int)=QO at dr
 generalize Qg:(0:Int)=QP at fU
 cases fU with
 | none=>
   have gI:m=0:=by omega
   cases dr with
   | none=>
     have k6:h=n:=by omega
     subst k6
     subst gI
     simp [execOp,Instr.sliceAt,Instr.slice,Instr.sliceBounds,J,a2,run_underlying hu,Go.sizeOf,typeInfo,eo,eE,jb]
   | some b3=>
     subst eu
     subst gI
     simp [execOp,Instr.sliceAt,Instr.slice,Instr.sliceBounds,J,a2,run_underlying hu,Go.sizeOf,typeInfo,eo,eE,jb,jI _ (of_int.1 (b3 a W s))]
 | some ao=>
   subst Cc
   cases dr with
   | none=>
     have k6:h=n:=by omega
     subst k6
     simp [execOp,Instr.sliceAt,Instr.slice,Instr.sliceBounds,J,a2,run_underlying hu,Go.sizeOf,typeInfo,eo,eE,jb,al _ (of_int.1 (ao a W s))]
     split <;> rfl
   | some b3=>
     subst eu
     simp [execOp,Instr.sliceAt,Instr.slice,Instr.sliceBounds,J,a2,run_underlying hu,Go.sizeOf,typeInfo,eo,eE,jb,al _ (of_int.1 (ao a W s)),jI _ (of_int.1 (b3 a W s))]
     split <;> rfl
theorem X0 {f:FuncId} {fn:Func} {p q T U cap cap' i j e tR qu QS h0 QT QU j0:Nat} {α:Type} [ai α] {xs vs:List α} (BJ:Nat.beq (ai.size α) 0=false)
 (ba:c.P.funcs[f]? =some fn) (Yj:(fn.name == "runtime.NumGoroutine")=false) (hb:fn.body.isNone=true) (aO:Extern.findNext fn=none)
 (he:Extern.find fn=some (Extern.SlicesOverlaps.overlaps #[t,t] #[tR])) (hu:c.P.underlying t=some (.slice e)) (eJ:bw c.P e α)
 (an:a9 c E L x (.eq (.slice (some ⟨q,QU,none⟩) qu QS))) (a5:a9 c E L y (.eq (.slice (some ⟨p,j0,none⟩) h0 QT)))
 (au:L[i]? =some ⟨some p,.row T xs cap⟩) (aH:L[j]? =some ⟨some q,.row U vs cap'⟩) (tZ:p≠q) (tJ:0 < cap):
 bS c E L ⟨d,.call ⟨.value (.func f),#[x,y],#[t,t]⟩,ty,pos,af,g⟩ (.of false):= .pure fun a W s=>by
 obtain⟨o,bb,cs,rfl,aq,bd,bN,dq⟩:=s.own _ (List.mem_of_getElem? au)
 obtain⟨o',p8,dS,rfl,a8,bY,cY,fu⟩:=s.own _ (List.mem_of_getElem? aH)
 obtain⟨fZ,eo,eE⟩:=eJ.info
 have J:a.eval x=_:=an a W s
 have ad:a.eval y=_:=a5 a W s
 have kF:ai.size α≠0:=fun h=>by rw [h] at BJ; cases BJ
 have c6:cs.size≠0:=by rw [aq]; exact Nat.mul_ne_zero (by omega) kF
 have aaU:=Lib.run_overlaps_apart (P:=c.P) W t tR e hu (ai.size α) (fun w=>by simp [Go.sizeOf,typeInfo,eo,eE]) ⟨q,QU,none⟩ ⟨p,j0,none⟩ qu QS h0 QT (fun h=>tZ h.symm) U T dS.size cs.size
  (by simp [World.shape?,p8]) (by simp [World.shape?,bb]) c6 (by simp [World.frozen?,p8]) (by simp [World.frozen?,p8])
 refine⟨.bool false,?_,by exact of_bool.2 rfl⟩
 have bI:a.eval (.func f)= .func (.func f) #[] #[]:=rfl
 simp [execOp,resolve,Deferred.ofValue,bI,invoke,run_callFunc_extern ba Yj hb aO he,J,ad,aaU]
theorem ah.Zy {α:Type} [ai α] {rest:List Oper} {a7 i e bytes cap m k p T:Nat} {F0:IntKind} {xs:List α} {z:α} (hu:c.P.underlying t=some (.slice e)) (ir:c.P.underlying t2=some (.int F0)) (eJ:bw c.P e α) (gL:cF c.P e z) (BJ:Nat.beq (ai.size α) 0=false)
 (wB:(c.P.info? e).map (·.bytes)=some bytes) (an:a9 c E L x (.eq (hQ (some p) 0 m cap (ai.size α)))) (a5:a9 c E L y (.of (k:Int))) (al:L[i]? =some ⟨some p,.row T xs cap⟩) (hm:m≤xs.length) (ay:0 < k) (bs:cap < m + k)
 (mq:(m + k) * bytes≤140737488355328) (lB:m + k≤maxLen) (aO:Nat.blt a7 c.n=true)
 (m0:∀ q cap',ah c ops Q rest ((a7,.eq (a2 (some q) (m + k) cap')) :: E) (⟨some q,.row e (xs.take m ++ List.replicate k z) cap'⟩ :: L)):
 ah c ops Q (⟨some a7,.call ⟨.builtin .append,#[x,y],#[t,t2]⟩,ty,pos,af,none⟩ :: rest) E L:=fun a W s=>by
 obtain⟨fZ,ee,eo,db,rb⟩:=gL.zero
 have ng:fZ.size=ai.size α:=by
  obtain⟨i2,J,ad⟩:=eJ.info
  rw [eo] at J; cases J; exact ad
 have H3:fZ.bytes=bytes:=by simpa [eo] using wB
 subst H3
 have wC:ee.cells.size=ai.size α:=by have:=ai.len (rb [] W).2; simpa using this
 have kF:ai.size α≠0:=fun h=>by rw [h] at BJ; cases BJ
 have kM:a7 < c.n:=by simpa using aO
 have J:a.eval x= .slice (some ⟨p,0,none⟩) m cap:=by
  have:=an a W s
  rw [Ao] at this
  exact this
 obtain⟨o,bb,cs,rfl,aq,bd,bN,dq⟩:=s.own _ (List.mem_of_getElem? al)
 have mT:maxLen=9223372036854775807:=rfl
 have ad:a.eval y= .int .i64 k:=of_int.1 (a5 a W s)
 have Z3:=Hb hm (⟨cs,rfl,aq,bd,bN,dq⟩:(dB.row T xs cap).holds (aQ L ++ c.bT) W (.cells cs T (0,0)))
 obtain⟨aaT,av,_,_,_,JI⟩:=Z3
 cases av
 have Jc:(xs.take m).length=m:=by rw [List.length_take]; omega
 rw [Jc] at JI
 have r5:∀ (j:Nat) u,(cs.toList.take (m * ai.size α))[j]? =some u→W.drew.cell? ((⟨p,0,none⟩:Addr).add j)=some u:=by
  intro j u mw
  rw [List.getElem?_take] at mw
  split at mw
  ·rw [jb,Nat.zero_add,cell_of_row W.drew p j cs T (0,0) bb]; simpa using mw
  ·cases mw
 have hold:=run_loadCells_list (P:=c.P) W.drew ⟨p,0,none⟩ _ r5
 rw [JI.1,Jc] at hold
 have aR:=Lib.run_append_grow_zeros (P:=c.P) W t t2 ty e fZ ee .i64 F0 hu ir eo db (some ⟨p,0,none⟩) m cap _ (by simp only [Builtin.firstCells]; rw [ng]; exact hold) k ay (by omega) bs (by omega)
  (by have:k * fZ.bytes≤ (m + k) * fZ.bytes:=Nat.mul_le_mul_right _ (by omega)
      omega) (growslice_fits bs mq)
 have qb:=grownCap_ge W (m + k) cap e
 have hle:=grownCap_le_maxLen W (m + k) cap e lB
 have FA:=rb (aQ L ++ c.bT) W
 have qc:=Ar FA k kF
 have JD:Builtin.zeroCells ee.cells k=(Array.range (k * ai.size α)).map (ee.cells[· % ee.cells.size]!):=by rw [Builtin.zeroCells,wC]
 rw [← JD] at qc
 have yw:=(ta JI qc).mono (Ext.dG (Fr.drew W))
 have hlen:(xs.take m ++ List.replicate k z).length=m + k:=by rw [List.length_append,Jc,List.length_replicate]
 have ki:=(s.world (Fr.drew W)).alloc (o:= .cells ((cs.toList.take (m * ai.size α)).toArray ++ Builtin.zeroCells ee.cells k ++ Builtin.zeroCells ee.cells (grownCap W (m + k) cap e - (m + k))) e)
  (cp:= .row e (xs.take m ++ List.replicate k z) (grownCap W (m + k) cap e))
  (HE (T:=e) yw (ds:=(Builtin.zeroCells ee.cells (grownCap W (m + k) cap e - (m + k))).toList) (by rw [Array.length_toList,size_zeroCells,wC,hlen]) (by rw [hlen]; exact qb) hle (by simp))
 refine hy rfl (R:=fun v hi=>v=a2 (some W.heap.size) (m + k) (grownCap W (m + k) cap e)∧hi=W.drew.alloc (.cells ((cs.toList.take (m * ai.size α)).toArray ++ Builtin.zeroCells ee.cells k ++ Builtin.zeroCells ee.cells (grownCap W (m + k) cap e - (m + k))) e)) (.kx ?_ ⟨rfl,rfl⟩) fun v hi ⟨a0,hw⟩=> ?_
 ·simp only [execOp,resolve,invoke,builtin,Sem.run_bind,Sem.run_pure,Result.andThen_ok]
  have av:(#[x,y]:Array Operand).map a.eval= #[a.eval x,a.eval y]:=by simp
  rw [av,J,ad,aR]
  rfl
 ·subst a0
  subst hw
  exact m0 _ _ _ _ (ki.put kM rfl)
def I.uq (τ:I):I where
 holds A W v:= ∃ b cur T gX u,v= .pointer (some ⟨b,0,none⟩)∧b ∉ A∧W.heap[b]? =some (.cells cur T gX)∧cur[0]? =some u∧u.oneCell'=true∧τ.holds A W u
 mono e h:=by
  obtain⟨b,cur,T,gX,u,rfl,hb,b3,hs,J,aR⟩:=h
  have b5:b < _:=(Array.getElem?_eq_some_iff.1 b3).1
  exact⟨b,cur,T,gX,u,rfl,fun hm=>hb (e.new b hm b5),by rw [e.block b b5 hb]; exact b3,hs,J,τ.mono e aR⟩
theorem ah.Y8 {rest:List Oper} {a7:Nat} {τ:I} (an:a9 c E L x τ) (J:∀ A W v,τ.holds A W v→v.oneCell'=true) (aO:Nat.blt a7 c.n=true)
 (k:ah c ops Q rest ((a7,.uq τ) :: E) L):ah c ops Q (⟨some a7,.box t x,ty,pos,af,none⟩ :: rest) E L:=fun a W s=>by
 have a0:=an a W s
 have bb:=J _ _ _ a0
 refine hy rfl (R:=fun v W'=>v= .pointer (some ⟨W.heap.size,0,none⟩)∧W'=W.alloc (.cells (a.eval x).cells t)) (.kx ?_ ⟨rfl,rfl⟩) fun v W' ⟨mW,hw⟩=> ?_
 ·simp [execOp,Instr.box,newVar,newRow]
 ·subst mW
  subst hw
  have s1:=((s.alloc (o:= .cells (a.eval x).cells t) (cp:= .dead) trivial).kill 0).oF 1
  refine k _ _ (bx.put s1 (by simpa using aO) ?_)
  refine⟨W.heap.size,(a.eval x).cells,t,(0,0),a.eval x,rfl,fun hm=> ?_,H0 W _,by rw [ot bb]; rfl,bb,τ.mono (A:=aQ L ++ c.bT) (W:=W) ⟨by simp,fun k ay _=>AX W _ k ay,fun k h _=>h⟩ a0⟩
  rcases List.mem_append.1 hm with hm | hm
  ·exact Nat.lt_irrefl _ (s.lt _ hm)
  ·exact Nat.lt_irrefl _ (s.eW _ hm).1
theorem M4 {τ:I} {D:TypeDesc} (hu:c.P.underlying t=some D) (hd:(match (motive:=TypeDesc→Bool) D with | .struct _ | .array _ _=>true | _=>false)=false) (an:a9 c E L x (.uq τ)):bS c E L ⟨d,.load t x,ty,pos,af,g⟩ τ:= .pure fun a W s=>by
 obtain⟨b,cur,T,gX,u,J,hb,b3,hs,ad,aR⟩:=an a W s
 have aaV:(isAgg t).run c.P W= .ok false W:=by
  unfold Go.isAgg
  rw [Sem.run_bind,run_underlying hu W]
  simp only [Result.andThen_ok]
  cases D <;> simp_all
 have r5:W.cell? ⟨b,0,none⟩=some u:=by rw [cell_of_row W b 0 cur T gX b3]; exact hs
 refine⟨u,?_,aR⟩
 simp [execOp,Instr.loadAt,Instr.sureAddr,J,loadVar,Sem.run_bind,aaV,r5]
theorem ag.some {code:Code} {i T cap:Nat} {key:Option Nat} {α:Type} [ai α] {xs:List α} (al:L[i]? =Option.some ⟨key,.row T xs cap⟩) (an:0 < xs.length) (k:∀ p,key=Option.some p→xs.length≤cap→cap≤maxLen→ag c Q code E L):ag c Q code E L:=fun a W s=>by
 obtain⟨p,cs,rfl,eG,aq,bd,bN,dq⟩:=s.rowAt al an
 exact k p rfl bd bN a W s
theorem ag.apart {code:Code} {p q:Nat} {cp cp':dB} {L':List aM} (al:L=⟨Option.some p,cp⟩ :: ⟨Option.some q,cp'⟩ :: L') (k:p≠q→ag c Q code E L):ag c Q code E L:=fun a W s=>by
 refine k (fun e=> ?_) a W s
 have:=s.nodup
 rw [al,e] at this
 simp [aQ] at this
theorem Hk {α γ:Type} [ai α] [ai γ] {A W} {cs:List Value} {x:α} {os:List (Nat × Value)} {u:Value} (l:aN α (List γ)) (h:lu A W cs x os) (hq:(l.off,u)∈os):lu A W cs (l.set x []) os:=by
 refine⟨?_,h.2⟩
 have J:=l.lj (ds:= [ke]) (g:=([]:List γ)) h.1 (show ai.rep A W [ke] ([]:List γ) from by
  have:=(m8 (A:=A) (W:=W) (v:=ke) (xs:=([]:List γ))).2 (.inl ⟨rfl,rfl⟩)
  exact this.2)
 have hb:(blank os cs)[l.off]? =some ke:=by
  rw [qF,if_pos (List.any_eq_true.2 ⟨_,hq,by simp⟩),(h.2 _ hq).1]; rfl
 have b5:l.off < (blank os cs).length:=(List.getElem?_eq_some_iff.1 hb).1
 have he:(blank os cs).take l.off ++ [ke] ++ (blank os cs).drop (l.off + ai.size (List γ))=blank os cs:=by
  show(blank os cs).take l.off ++ [ke] ++ (blank os cs).drop (l.off + 1)=blank os cs
  have ad:(blank os cs)[l.off]=ke:=(List.getElem?_eq_some_iff.1 hb).2
  rw [← ad,List.append_assoc,List.singleton_append,List.getElem_cons_drop,List.take_append_drop]
 rwa [he] at J
theorem ah.Fh {ux:List Oper} {p:Nat} {β γ:Type} [ai β] [ai γ] {b b':β} {os:List (Nat × Value)} {u:Value} (l:aN β (List γ)) (i q:Nat) (al:L[i]? =some ⟨some p,.b4 b os⟩) (hq:os[q]? =some (l.off,u)) (hb:l.set b []=b')
 (k:ah c ops Q ux E (L.set i ⟨some p,.b4 b' os⟩)):ah c ops Q ux E L:=fun a W s=>
 k a W (s.again al (fun A W o ⟨cs,T,J,ad⟩=>⟨cs,T,J,hb ▸ Hk l ad (List.mem_of_getElem? hq)⟩) id)
theorem ae.Fh {z:Exit} {p:Nat} {β γ:Type} [ai β] [ai γ] {b b':β} {os:List (Nat × Value)} {u:Value} (l:aN β (List γ)) (i q:Nat) (al:L[i]? =some ⟨some p,.b4 b os⟩) (hq:os[q]? =some (l.off,u)) (hb:l.set b []=b')
 (k:ae c Q z E (L.set i ⟨some p,.b4 b' os⟩)):ae c Q z E L:=fun a W s=>
 k a W (s.again al (fun A W o ⟨cs,T,J,ad⟩=>⟨cs,T,J,hb ▸ Hk l ad (List.mem_of_getElem? hq)⟩) id)
end
def Bz {α:Type} (bytes:Nat) (xs:List α) (i:Int) (vs:List α):Option (List α):=
 if 0≤i∧i≤xs.length∧0 < vs.length∧ (xs.length + vs.length) * bytes≤140737488355328∧xs.length + vs.length≤maxLen then some (xs.take i.toNat ++ vs ++ xs.drop i.toNat) else none
theorem TT {α:Type} {bytes:Nat} {xs vs r:List α} {i:Int} (h:Bz bytes xs i vs=some r):
 ∃ k:Nat,i=k∧k≤xs.length∧0 < vs.length∧ (xs.length + vs.length) * bytes≤140737488355328∧xs.length + vs.length≤maxLen∧r=xs.take k ++ vs ++ xs.drop k:=by
 unfold Bz at h
 split at h
 ·rename_i ak
  obtain⟨J,ad,aC,aU,a1⟩:=ak
  exact⟨i.toNat,by omega,by omega,aC,aU,a1,(by simp only [Option.some.injEq] at h; exact h.symm)⟩
 ·cases h
section
variable {c:dd} {E:List (Nat × I)} {L:List aM} {ops:Array Oper} {Q:Exit→Act→World→Prop} {rest:List Oper} {o:Oper} {a7:Nat}
variable {ty:TypeId} {pos:String} {af:Array Edge} {x y:Operand} {t t2:TypeId}
theorem aF {id:Nat} {l:List Oper} {y:Code} (h:ah c l.toArray (Exit.then (c.wp y Q) Q) l E L):ag c Q (.seq (.region id l.toArray false) y) E L:= .seq (.cz h)
theorem aK {y:Code} (h:ag c Q y E L):ah c ops (Exit.then (c.wp y Q) Q) [] E L:= .nil (.next h)
theorem bO {y z:Code} (h:ag c (Exit.then (c.wp z Q) Q) y E L):ah c ops (Exit.then (c.wp (Code.seq y z) Q) Q) [] E L:= .nil (.next (.seq h))
theorem b0 {id:Nat} {l:List Oper} {z:Code} (h:ah c l.toArray (Exit.then (c.wp z Q) Q) l E L):ah c ops (Exit.then (c.wp (Code.seq (.region id l.toArray false) z) Q) Q) [] E L:= .nil (.next (.seq (.cz h)))
theorem cW {y:Code} (h:ag c Q y E L):ag c (Exit.then (c.wp y Q) Q) .skip E L:= .skip (.next h)
theorem aw {α β:Type} {m:Option α} {f:α→Option β} {r:β} (h:m.bind f=some r):∃ y,m=some y∧f y=some r:=bind_some h
theorem cm {R:Type} {b:Bool} {A B:Option R} {r:R} {y z:Code} (h:cond b A B=some r) (bL:A=some r→ag c Q y E L) (ba:B=some r→ag c Q z E L)
 (ao:a9 c E L x (.of b):=by first | exact ab rfl | exact fO _):ag c Q (.cond x y z) E L:=
 .cond ao (fun hb=>bL (gZ hb h)) (fun hb=>ba (g1 hb h))
theorem bl {τ:I} (h:bS c E L o τ) (k:ah c ops Q rest ((a7,τ) :: E) L) (bs:o.guard=none:=by rfl) (hd:o.dst=some a7:=by rfl) (aO:Nat.blt a7 c.n=true:=by rfl):ah c ops Q (o :: rest) E L:= .v h bs hd aO k
theorem aD {τ:I} (k:ah c ops Q rest ((a7,τ) :: E) L) (an:a9 c E L x τ:=by first | exact ab rfl | exact bP _ | exact fO _ | exact dL _) (aO:Nat.blt a7 c.n=true:=by rfl):
 ah c ops Q (⟨some a7,.move x,ty,pos,af,none⟩ :: rest) E L:= .v (cM an) rfl rfl aO k
theorem aL {τ:I} (k:ah c ops Q rest ((a7,τ) :: E) L) (an:a9 c E L x τ:=by first | exact ab rfl | exact bP _ | exact fO _ | exact dL _) (aO:Nat.blt a7 c.n=true:=by rfl):
 ah c ops Q (⟨some a7,.assign x,ty,pos,af,none⟩ :: rest) E L:= .v (eB an) rfl rfl aO k
theorem aY {σ τ:I} (h:a9 c E L x σ→bS c E L o τ) (k:ah c ops Q rest ((a7,τ) :: E) L) (an:a9 c E L x σ:=by first | exact ab rfl | exact bP _ | exact fO _ | exact dL _)
 (bs:o.guard=none:=by rfl) (hd:o.dst=some a7:=by rfl) (aO:Nat.blt a7 c.n=true:=by rfl):ah c ops Q (o :: rest) E L:= .v (h an) bs hd aO k
theorem bm {σ qh τ:I} (h:a9 c E L x σ→a9 c E L y qh→bS c E L o τ) (k:ah c ops Q rest ((a7,τ) :: E) L) (an:a9 c E L x σ:=by first | exact ab rfl | exact bP _ | exact fO _ | exact dL _)
 (a5:a9 c E L y qh:=by first | exact ab rfl | exact bP _ | exact fO _ | exact dL _)
 (bs:o.guard=none:=by rfl) (hd:o.dst=some a7:=by rfl) (aO:Nat.blt a7 c.n=true:=by rfl):ah c ops Q (o :: rest) E L:= .v (h an a5) bs hd aO k
theorem dF {α:Type} [ai α] {a b:α} (e:some a=some b) (h:bS c E L o (.of a)) (k:ah c ops Q rest ((a7,.of b) :: E) L) (bs:o.guard=none:=by rfl) (hd:o.dst=some a7:=by rfl) (aO:Nat.blt a7 c.n=true:=by rfl):
 ah c ops Q (o :: rest) E L:= .v (h.as (aI e)) bs hd aO k
theorem gr {i:Nat} {τs:List I} {τ:I} (k:ah c ops Q rest ((a7,τ) :: E) L) (an:a9 c E L x (.ed τs):=by exact ab rfl) (au:τs[i]? =some τ:=by rfl) (aO:Nat.blt a7 c.n=true:=by rfl):
 ah c ops Q (⟨some a7,.extract x i,ty,pos,af,none⟩ :: rest) E L:= .v (lq an au) rfl rfl aO k
theorem cq {p o:Nat} {β γ:Type} [ai β] [ai γ] {b:β} (j:Nat) (l:aN β γ) (eI:bw c.P t γ) (k:ah c ops Q rest ((a7,.of (l.get b)) :: E) L) (an:a9 c E L x (.eq (.pointer (some ⟨p,o,none⟩))):=by exact ab rfl)
 (al:L[j]? =some ⟨some p,.var b⟩:=by rfl) (bb:o=l.off:=by rfl) (aO:Nat.blt a7 c.n=true:=by rfl):ah c ops Q (⟨some a7,.load t x,ty,pos,af,none⟩ :: rest) E L:= .v (eA l eI an al bb rfl) rfl rfl aO k
theorem cG {p:Nat} {β:Type} [ai β] {b:β} (j:Nat) (eI:bw c.P t β) (k:ah c ops Q rest ((a7,.of b) :: E) L) (an:a9 c E L x (.eq (.pointer (some ⟨p,0,none⟩))):=by exact ab rfl)
 (al:L[j]? =some ⟨some p,.var b⟩:=by rfl) (aO:Nat.blt a7 c.n=true:=by rfl):ah c ops Q (⟨some a7,.load t x,ty,pos,af,none⟩ :: rest) E L:= .v (eA (aN.id β) eI an al rfl rfl) rfl rfl aO k
theorem P5 {p o:Nat} {β γ:Type} [ai β] [ai γ] {b:β} {os:List (Nat × Value)} (j:Nat) (l:aN β γ) (eI:bw c.P t γ) (k:ah c ops Q rest ((a7,.of (l.get b)) :: E) L) (an:a9 c E L x (.eq (.pointer (some ⟨p,o,none⟩))):=by exact ab rfl)
 (al:L[j]? =some ⟨some p,.b4 b os⟩:=by rfl) (bb:o=l.off:=by rfl) (bj:ts os l.off (ai.size γ)=true:=by rfl) (aO:Nat.blt a7 c.n=true:=by rfl):ah c ops Q (⟨some a7,.load t x,ty,pos,af,none⟩ :: rest) E L:= .v (D6 l eI an al bb rfl bj) rfl rfl aO k
theorem Fj {s f o:Nat} {β γ:Type} [ai β] [ai γ] {b:β} (l:aN β γ) (fd:cx c.P s f o) (k:ah c ops Q rest ((a7,.ptr (l.get b)) :: E) L) (an:a9 c E L x (.ptr b):=by exact ab rfl) (bb:l.off=o:=by rfl) (aO:Nat.blt a7 c.n=true:=by rfl):
 ah c ops Q (⟨some a7,.fieldAddr s x f,ty,pos,af,none⟩ :: rest) E L:= .v (EG l fd an bb rfl) rfl rfl aO k
theorem hU {α:Type} [ai α] [Inhabited α] {xs:List α} {e:TypeId} {i:Int} {j:Nat} (ay:idx xs.length i=some j) (hu:c.P.underlying t=some (.slice e)) (eJ:bw c.P e α) (k:ah c ops Q rest ((a7,.ptr (aE xs j)) :: E) L)
 (an:a9 c E L x (.of xs):=by exact ab rfl) (a5:a9 c E L y (.of i):=by first | exact ab rfl | exact bP _) (aO:Nat.blt a7 c.n=true:=by rfl):
 ah c ops Q (⟨some a7,.indexAddr t x y,ty,pos,af,none⟩ :: rest) E L:= .v (qU hu eJ an a5 (cL ay)) rfl rfl aO k
theorem sl {b e:Bool} {p:Prop} (k:ah c ops Q rest ((a7,.of (b || e)) :: E) L) (an:a9 c E L x (.of b):=by exact ab rfl) (a5:a9 c E L y (.cond p (.of e)):=by exact ab rfl) (hp:b=false→p:=by exact fun h=>h) (aO:Nat.blt a7 c.n=true:=by rfl):
 ah c ops Q (⟨some a7,.pick x (.const (.bool true)) y,ty,pos,af,none⟩ :: rest) E L:= .v (vT an a5 hp) rfl rfl aO k
theorem jB {b e:Bool} {p:Prop} (k:ah c ops Q rest ((a7,.of (b && e)) :: E) L) (an:a9 c E L x (.of b):=by exact ab rfl) (a5:a9 c E L y (.cond p (.of e)):=by exact ab rfl) (hp:b=true→p:=by exact fun h=>h) (aO:Nat.blt a7 c.n=true:=by rfl):
 ah c ops Q (⟨some a7,.pick x y (.const (.bool false)),ty,pos,af,none⟩ :: rest) E L:= .v (pc an a5 hp) rfl rfl aO k
theorem ep {τ:I} {j g:Nat} {b want:Bool} (h:b=want→bS c E L o τ) (k:ah c ops Q rest ((a7,.cond (b=want) τ) :: E) L) (bs:o.guard=some (j,want):=by rfl) (aH:(ops[j]?).bind (·.dst)=some g:=by rfl) (ao:look E g=some (.of b):=by rfl)
 (hd:o.dst=some a7:=by rfl) (aO:Nat.blt a7 c.n=true:=by rfl):ah c ops Q (o :: rest) E L:= .g h bs aH ao hd aO k
theorem ey {σ τ:I} {j g:Nat} {b want:Bool} (h:a9 c E L x σ→bS c E L o τ) (k:ah c ops Q rest ((a7,.cond (b=want) τ) :: E) L)
 (an:b=want→a9 c E L x σ:=by first | exact fun hb=>cb rfl hb | exact fun _=>ab rfl | exact fun _=>bP _ | exact fun _=>fO _)
 (bs:o.guard=some (j,want):=by rfl) (aH:(ops[j]?).bind (·.dst)=some g:=by rfl) (ao:look E g=some (.of b):=by rfl)
 (hd:o.dst=some a7:=by rfl) (aO:Nat.blt a7 c.n=true:=by rfl):ah c ops Q (o :: rest) E L:= .g (fun hb=>h (an hb)) bs aH ao hd aO k
theorem kE {σ qh τ:I} {j g:Nat} {b want:Bool} (h:a9 c E L x σ→a9 c E L y qh→bS c E L o τ) (k:ah c ops Q rest ((a7,.cond (b=want) τ) :: E) L)
 (an:b=want→a9 c E L x σ:=by first | exact fun hb=>cb rfl hb | exact fun _=>ab rfl | exact fun _=>bP _ | exact fun _=>fO _)
 (a5:b=want→a9 c E L y qh:=by first | exact fun hb=>cb rfl hb | exact fun _=>ab rfl | exact fun _=>bP _ | exact fun _=>fO _)
 (bs:o.guard=some (j,want):=by rfl) (aH:(ops[j]?).bind (·.dst)=some g:=by rfl) (ao:look E g=some (.of b):=by rfl)
 (hd:o.dst=some a7:=by rfl) (aO:Nat.blt a7 c.n=true:=by rfl):ah c ops Q (o :: rest) E L:= .g (fun hb=>h (an hb) (a5 hb)) bs aH ao hd aO k
theorem c1 {α:Type} [ai α] {z:α} (gL:cF c.P t z) (k:∀ p,ah c ops Q rest ((a7,.eq (.pointer (some ⟨p,0,none⟩))) :: E) (⟨some p,.var z⟩ :: L)) (aO:Nat.blt a7 c.n=true:=by rfl):
 ah c ops Q (⟨some a7,.alloc t,ty,pos,af,none⟩ :: rest) E L:= .alloc gL aO k
theorem cj {α:Type} [ai α] {z:α} (k:∀ p,ah c ops Q rest ((a7,.eq (.pointer (some ⟨p,0,none⟩))) :: E) (⟨some p,.var z⟩ :: L)) (an:a9 c E L x (.of z):=by first | exact ab rfl | exact bP _ | exact fO _) (aO:Nat.blt a7 c.n=true:=by rfl):
 ah c ops Q (⟨some a7,.box t x,ty,pos,af,none⟩ :: rest) E L:= .box an aO k
theorem sm {p o:Nat} {β γ:Type} [ai β] [ai γ] {b:β} {v:γ} (i:Nat) (l:aN β γ) (eI:bw c.P t γ) (k:ah c ops Q rest E (L.set i ⟨some p,.var (l.set b v)⟩)) (an:a9 c E L x (.eq (.pointer (some ⟨p,o,none⟩))):=by exact ab rfl)
 (a5:a9 c E L y (.of v):=by first | exact ab rfl | exact bP _ | exact fO _ | exact look_nil | exact dL _) (al:L[i]? =some ⟨some p,.var b⟩:=by rfl) (bb:o=l.off:=by rfl):
 ah c ops Q (⟨none,.store t x y,ty,pos,af,none⟩ :: rest) E L:= .store l eI an a5 al bb rfl k
theorem cA {p:Nat} {β:Type} [ai β] {b v:β} (i:Nat) (eI:bw c.P t β) (k:ah c ops Q rest E (L.set i ⟨some p,.var v⟩)) (an:a9 c E L x (.eq (.pointer (some ⟨p,0,none⟩))):=by exact ab rfl)
 (a5:a9 c E L y (.of v):=by first | exact ab rfl | exact bP _ | exact fO _ | exact look_nil | exact dL _) (al:L[i]? =some ⟨some p,.var b⟩:=by rfl):
 ah c ops Q (⟨none,.store t x y,ty,pos,af,none⟩ :: rest) E L:= .store (aN.id β) eI an a5 al rfl rfl k
theorem Fi {p o:Nat} {β γ:Type} [ai β] [ai γ] {b b':β} {v:γ} (i:Nat) (l:aN β γ) (eI:bw c.P t γ) (k:ah c ops Q rest E (L.set i ⟨some p,.var b'⟩)) (an:a9 c E L x (.eq (.pointer (some ⟨p,o,none⟩))):=by exact ab rfl)
 (a5:a9 c E L y (.of v):=by first | exact ab rfl | exact bP _ | exact fO _ | exact look_nil | exact dL _) (al:L[i]? =some ⟨some p,.var b⟩:=by rfl) (bb:o=l.off:=by rfl) (hb:some (l.set b v)=some b'):
 ah c ops Q (⟨none,.store t x y,ty,pos,af,none⟩ :: rest) E L:= .store l eI an a5 al bb (aI hb) k
theorem e6 {f:FuncId} {xs:List Operand} {ats:Array TypeId} {τs:List I} {ρ:I} (ej:bH c.P f) (h:bK c.P f τs ρ) (k:ah c ops Q rest ((a7,ρ) :: E) L)
 (an:hJ c E L xs τs:=by repeat (first | exact trivial | refine⟨ab rfl,?_⟩ | refine⟨bP _,?_⟩ | refine⟨fO _,?_⟩ | refine⟨look_nil,?_⟩ | refine⟨dL _,?_⟩)) (aO:Nat.blt a7 c.n=true:=by rfl):
 ah c ops Q (⟨some a7,.call ⟨.value (.func f),xs.toArray,ats⟩,ty,pos,af,none⟩ :: rest) E L:= .v (iG ej h an) rfl rfl aO k
theorem eQ {f:FuncId} {xs:List Operand} {ats:Array TypeId} {τs:List I} {δ:Type} {ρ:δ→I} {Lo:δ→List aM} (n:Nat) (ej:bH c.P f) (h:bM c.P f τs (L.take n) ρ Lo)
 (k:∀ q,ah c ops Q rest ((a7,ρ q) :: E) (Lo q ++ L.drop n)) (an:hJ c E L xs τs:=by repeat (first | exact trivial | refine⟨ab rfl,?_⟩ | refine⟨bP _,?_⟩ | refine⟨fO _,?_⟩ | refine⟨look_nil,?_⟩ | refine⟨rG,?_⟩ | refine⟨dL _,?_⟩)) (aO:Nat.blt a7 c.n=true:=by rfl):
 ah c ops Q (⟨some a7,.call ⟨.value (.func f),xs.toArray,ats⟩,ty,pos,af,none⟩ :: rest) E L:=by
 have e:=List.take_append_drop n L
 have:=ah.lP (ty:=ty) (pos:=pos) (af:=af) (ats:=ats) (xs:=xs) (Lin:=L.take n) (Lr:=L.drop n) (E:=E) (Q:=Q) (ops:=ops) ej h (by rw [e]; exact an) aO k
 rwa [e] at this
theorem nq {α:Type} [ai α] {e bytes cap:Nat} {key:Option Nat} {xs ys r:List α} {z:α} (j:Nat) (hu:c.P.underlying t=some (.slice e)) (eJ:bw c.P e α) (gL:cF c.P e z) (h:hA bytes xs ys=some r)
 (k:∀ pZ cap',ah c ops Q rest ((a7,.eq (a2 pZ r.length cap')) :: E) (L.set j ⟨pZ,.row e r cap'⟩)) (wB:(c.P.info? e).map (·.bytes)=some bytes:=by kernel_rfl)
 (hs:a9 c E L x (.eq (a2 key xs.length cap)):=by first | exact ab rfl | exact rG) (al:L[j]? =some ⟨key,.row e xs cap⟩:=by rfl) (a5:a9 c E L y (.of ys):=by exact ab rfl) (aO:Nat.blt a7 c.n=true:=by rfl):
 ah c ops Q (⟨some a7,.call ⟨.builtin .append,#[x,y],#[t,t]⟩,ty,pos,af,none⟩ :: rest) E L:= .app hu eJ gL wB hs al a5 h aO k
theorem iK {place:Nat→Option (Nat × Nat)} {β:Type} [ai β] {b b':β} {γ:Type} [ai γ] {v:γ} {i:Nat} {r:List (Nat × Operand)} (l:aN β γ) (k:qZ c E L place (l.set b v) r b')
 (hp:place i=some (l.off,ai.size γ):=by rfl) (an:a9 c E L x (.of v):=by first | exact ab rfl | exact bP _ | exact fO _ | exact look_nil | exact dL _):qZ c E L place b ((i,x) :: r) b':= .cons l hp an rfl k
theorem hC {β:Type} [ai β] {z b:β} {br:List (Nat × Operand)} {pl:Array (Nat × Nat)} (CH:hO c.P t pl) (gL:cF c.P t z) (uy:β) (ba:qZ c E L (pl[·]?) z br b) (k:ah c ops Q rest ((a7,.of uy) :: E) L) (bj:ai.agg β=true:=by rfl) (hb:b=uy:=by rfl) (aO:Nat.blt a7 c.n=true:=by rfl):
 ah c ops Q (⟨some a7,.build t br.toArray,ty,pos,af,none⟩ :: rest) E L:= .v ((c3 bj CH gL ba).as hb) rfl rfl aO k
theorem hX {α:Type} [ai α] {e n:Nat} {z:α} {br:List (Nat × Operand)} (r:List α) (hu:c.P.underlying t=some (.slice e)) (eJ:bw c.P e α) (gL:cF c.P e z) (k:ah c ops Q rest ((a7,.of r) :: E) L)
 (ba:nS c E L (List.replicate n z) br r:=by repeat (first | exact nS.nil | refine nS.cons (by simp) (ab rfl) ?_ | refine nS.cons (by simp) (bP _) ?_ | refine nS.cons (by simp) (fO _) ?_ | refine nS.cons (by simp) (dL _) ?_))
 (hs:Nat.beq (ai.size α) 0=false:=by rfl) (sy:Nat.ble (n * ai.size α) 16777216=true:=by rfl) (aO:Nat.blt a7 c.n=true:=by rfl):
 ah c ops Q (⟨some a7,.buildSlice t n br.toArray,ty,pos,af,none⟩ :: rest) E L:= .v (iI hu eJ gL hs sy ba) rfl rfl aO k
inductive mB (E:List (Nat × I)):List Nat→List (Nat × I)→Prop
 | nil:mB E [] []
 | cons {t:Nat} {ht:List Nat} {τ:I} {y1:List (Nat × I)} :look E t=some τ→mB E ht y1→mB E (t :: ht) ((t,τ) :: y1)
theorem mB.le:∀ {ht:List Nat} {jq:List (Nat × I)},mB E ht jq→hG E jq
 | _,_,.nil=> .nil
 | _,_,.cons h k=> .same h k.le
theorem iz {code:Code} {jq:List (Nat × I)} (ht:List Nat) (k:ag c Q code jq L) (aB:mB E ht jq:=by repeat (first | exact mB.nil | (apply mB.cons; rfl))):ag c Q code E L:= .le aB.le k
theorem jC {z:Exit} {jq:List (Nat × I)} (ht:List Nat) (k:ae c Q z jq L) (aB:mB E ht jq:=by repeat (first | exact mB.nil | (apply mB.cons; rfl))):ae c Q z E L:= .le aB.le k
theorem dp {z:Exit} {E':List (Nat × I)} {L':List aM} (n:Nat) (k:ae c Q z E' L') (al:L.drop n=L':=by rfl) (h:hG E E':=by repeat (first | exact hG.nil | refine hG.same rfl ?_)):ae c Q z E L:= .meet n al h k
theorem gP {σ ε γ δ:Type} {E':σ→γ→List (Nat × I)} {L':σ→γ→List aM} {xs:ε→Exit} {fN:ε→δ→List (Nat × I)} {Lx:ε→δ→List aM} {s:σ} (g:γ) (n:Nat) (al:L.drop n=L' s g:=by rfl)
 (h:hG E (E' s g):=by repeat (first | exact hG.nil | refine hG.same rfl ?_)):ae c (yM c E' L' xs fN Lx (.inl s)) .normal E L:= .Wn g n al h
theorem eD {σ ε γ δ:Type} {E':σ→γ→List (Nat × I)} {L':σ→γ→List aM} {xs:ε→Exit} {fN:ε→δ→List (Nat × I)} {Lx:ε→δ→List aM} {e:ε} {z:Exit} (g:δ) (n:Nat) (an:z=xs e:=by rfl) (aO:z≠ .normal:=by simp) (al:L.drop n=Lx e g:=by rfl)
 (h:hG E (fN e g):=by repeat (first | exact hG.nil | refine hG.same rfl ?_)):ae c (yM c E' L' xs fN Lx (.inr e)) z E L:= .Wo g n an aO al h
theorem hK {t:Nat} {p:Nat} {α:Type} [ai α] {v:α} (i:Nat) (eI:bw c.P ty α) (h:look E t=some (.eq (.pointer (some ⟨p,0,none⟩))):=by rfl) (al:L[i]? =some ⟨some p,.var v⟩:=by rfl):sM c E L (.cell t ty) (.of v):=ZV eI h al
theorem cR {fn:Func} {t:Nat} {τ:I} (aR:fn.results= #[.tmp t]:=by rfl) (h:look E t=some τ:=by rfl) (hM:c.ds= []:=by rfl):ae c (bodyPost c.P fn (v8 c τ)) .ret E L:= .jg aR (vZ h) hM
theorem P3 {fn:Func} {t u:Nat} {τ n9:I} (aR:fn.results= #[.tmp t,.tmp u]:=by rfl) (h:look E t=some τ:=by rfl) (ad:look E u=some n9:=by rfl) (hM:c.ds= []:=by rfl):ae c (bodyPost c.P fn (v8 c (.ed [τ,n9]))) .ret E L:= .EV aR (vZ h) (vZ ad) hM
theorem mn {fn:Func} {t:Nat} {τ:I} {δ:Type} {ρ:δ→I} {Lo:δ→List aM} (a7:δ) (hs:(Lo a7).Sublist L:=by repeat (first | exact List.nil_sublist _ | refine List.Sublist.cons_cons _ ?_)) (aR:fn.results= #[.tmp t]:=by rfl) (h:look E t=some τ:=by rfl) (sA:ρ a7=τ:=by rfl) (hM:c.ds= []:=by rfl):
 ae c (bodyPost c.P fn (j9 c.X c.bT c.iN ρ Lo)) .ret E L:= .fi a7 hs aR sA (dv h) hM
def ph:List aM→List (Nat × aM)→List aM
 | L,[]=>L
 | L,(i,e) :: r=>ph (L.set i e) r
inductive qv:List aM→List aM→Prop
 | nil:qv [] []
 | cons {e:aM} {r s:List aM} :qv r s→qv (e :: r) (e :: s)
theorem qv.eq:∀ {l m:List aM},qv l m→l=m
 | _,_,.nil=>rfl
 | _,_,.cons h=>by rw [h.eq]
theorem hT {σ ε γ δ:Type} {body:Code} {N:Nat} {b:σ→Option (σ ⊕ ε)} {cc:σ} {e:ε} {jq:List (Nat × I)} {g8:List aM} (ao:e5 N b cc=some e) (ht:List Nat) (u:σ→γ→List (Nat × I)) (ul:σ→γ→List (Nat × aM)) (xs:ε→Exit)
 (Kz:ε→δ→List (Nat × I)) (JJ:ε→δ→List (Nat × aM)) (g0:γ)
 (r4:∀ s r,b s=some r→ ∀ g,ag c (yM c (fun s g=>u s g ++ jq) (fun s g=>ph g8 (ul s g)) xs (fun e d=>Kz e d ++ jq) (fun e d=>ph g8 (JJ e d)) r) body (u s g ++ jq) (ph g8 (ul s g)))
 (oB:∀ g,ae c Q (xs e) (Kz e g ++ jq) (ph g8 (JJ e g)))
 (wA:qv L g8:=by repeat (first | exact qv.nil | apply qv.cons))
 (aaW:mB E ht jq:=by repeat (first | exact mB.nil | (apply mB.cons; rfl))) (aB:hG E (u cc g0 ++ jq):=by repeat (first | exact hG.nil | refine hG.same rfl ?_)) (al:g8=ph g8 (ul cc g0):=by rfl):ag c Q (.loop body) E L:=
 ag.vF ao (fun s g=>u s g ++ jq) (fun s g=>ph g8 (ul s g)) xs (fun e d=>Kz e d ++ jq) (fun e d=>ph g8 (JJ e d)) g0 (wA.eq.trans al) aB r4 oB
theorem jS {γ:Type} {b:Bool} {y z:Code} {jq:List (Nat × I)} {g8:List aM} (ht:List Nat) (u:γ→List (Nat × I)) (ul:γ→List (Nat × aM)) (uw:∀ g,ae c Q .normal (u g ++ jq) (ph g8 (ul g)))
 (bL:(∀ g,ae c Q .normal (u g ++ jq) (ph g8 (ul g)))→b=true→ag c Q y E g8) (ba:(∀ g,ae c Q .normal (u g ++ jq) (ph g8 (ul g)))→b=false→ag c Q z E g8)
 (wA:qv L g8:=by repeat (first | exact qv.nil | apply qv.cons))
 (aaW:mB E ht jq:=by repeat (first | exact mB.nil | (apply mB.cons; rfl))) (ao:a9 c E g8 x (.of b):=by first | exact ab rfl | exact fO _):ag c Q (.cond x y z) E L:=by
 cases wA.eq
 exact ag.cy (fun g=>u g ++ jq) (fun g=>ph L (ul g)) ao uw bL ba
section
variable {all:List fg} {w:Nat→Bool}
theorem dO {τ:I} {hyp:List aM→Prop} (h:∀ L',hyp L'→bS c E L' o τ) (bs:o.guard=none:=by rfl):∀ L',hyp L'→kK c ops E L' o τ:=fun L' al=> .v (h L' al) bs
theorem cZ {τ:I} {hyp:List aM→Prop} (an:∀ L',a9 c E L' x τ:=by first | exact fun _=>ab rfl | exact fun _=>bP _ | exact fun _=>fO _ | exact fun _=>dL _):∀ L',hyp L'→kK c ops E L' ⟨some a7,.move x,ty,pos,af,none⟩ τ:=fun L' _=> .v (cM (an L')) rfl
theorem wU {τ:I} {hyp:List aM→Prop} (an:∀ L',a9 c E L' x τ:=by first | exact fun _=>ab rfl | exact fun _=>bP _ | exact fun _=>fO _ | exact fun _=>dL _):∀ L',hyp L'→kK c ops E L' ⟨some a7,.assign x,ty,pos,af,none⟩ τ:=fun L' _=> .v (eB (an L')) rfl
theorem H1 {σ τ:I} {hyp:List aM→Prop} (h:∀ {L'},a9 c E L' x σ→bS c E L' o τ) (bs:o.guard=none:=by rfl) (an:∀ L',a9 c E L' x σ:=by first | exact fun _=>ab rfl | exact fun _=>bP _ | exact fun _=>fO _ | exact fun _=>dL _):
 ∀ L',hyp L'→kK c ops E L' o τ:=fun L' _=> .v (h (an L')) bs
theorem iC {σ qh τ:I} {hyp:List aM→Prop} (h:∀ {L'},a9 c E L' x σ→a9 c E L' y qh→bS c E L' o τ) (bs:o.guard=none:=by rfl) (an:∀ L',a9 c E L' x σ:=by first | exact fun _=>ab rfl | exact fun _=>bP _ | exact fun _=>fO _ | exact fun _=>dL _)
 (a5:∀ L',a9 c E L' y qh:=by first | exact fun _=>ab rfl | exact fun _=>bP _ | exact fun _=>fO _ | exact fun _=>dL _):∀ L',hyp L'→kK c ops E L' o τ:=fun L' _=> .v (h (an L') (a5 L')) bs
theorem dz {p o:Nat} {β γ:Type} [ai β] [ai γ] {b:β} (i:Nat) (l:aN β γ) (eI:bw c.P t γ) (an:∀ L',a9 c E L' x (.eq (.pointer (some ⟨p,o,none⟩))):=by exact fun _=>ab rfl) (al:L[i]? =some ⟨some p,.var b⟩:=by rfl) (bb:o=l.off:=by rfl)
 (hu:pe w i 0 all=true:=by first | rfl | kernel_rfl):∀ L':List aM,(∀ (j:Nat) (e:aM),L[j]? =some e→pe w j 0 all=true→L'[j]? =some e)→kK c ops E L' ⟨some a7,.load t x,ty,pos,af,none⟩ (.of (l.get b)):=
 fun L' q9=> .v (eA l eI (an L') (q9 _ _ al hu) bb rfl) rfl
theorem fy {p:Nat} {β:Type} [ai β] {b:β} (i:Nat) (eI:bw c.P t β) (an:∀ L',a9 c E L' x (.eq (.pointer (some ⟨p,0,none⟩))):=by exact fun _=>ab rfl) (al:L[i]? =some ⟨some p,.var b⟩:=by rfl)
 (hu:pe w i 0 all=true:=by first | rfl | kernel_rfl):∀ L':List aM,(∀ (j:Nat) (e:aM),L[j]? =some e→pe w j 0 all=true→L'[j]? =some e)→kK c ops E L' ⟨some a7,.load t x,ty,pos,af,none⟩ (.of b):=
 fun L' q9=> .v (eA (aN.id β) eI (an L') (q9 _ _ al hu) rfl rfl) rfl
theorem fl {f:FuncId} {xs:List Operand} {ats:Array TypeId} {τs:List I} {ρ:I} {hyp:List aM→Prop} (ej:bH c.P f) (h:bK c.P f τs ρ)
 (an:∀ L',hJ c E L' xs τs:=by intro L'; repeat (first | exact trivial | refine⟨ab rfl,?_⟩ | refine⟨bP _,?_⟩ | refine⟨fO _,?_⟩ | refine⟨look_nil,?_⟩ | refine⟨dL _,?_⟩)):
 ∀ L',hyp L'→kK c ops E L' ⟨some a7,.call ⟨.value (.func f),xs.toArray,ats⟩,ty,pos,af,none⟩ ρ:=fun L' _=> .v (iG ej h (an L')) rfl
theorem nj {α:Type} [ai α] [Inhabited α] {xs:List α} {e:TypeId} {i:Int} {j:Nat} {hyp:List aM→Prop} (ay:idx xs.length i=some j) (hu:c.P.underlying t=some (.slice e)) (eJ:bw c.P e α)
 (an:∀ L',a9 c E L' x (.of xs):=by exact fun _=>ab rfl) (a5:∀ L',a9 c E L' y (.of i):=by first | exact fun _=>ab rfl | exact fun _=>bP _):
 ∀ L',hyp L'→kK c ops E L' ⟨some a7,.indexAddr t x y,ty,pos,af,none⟩ (.ptr (aE xs j)):=fun L' _=> .v (qU hu eJ (an L') (a5 L') (cL ay)) rfl
theorem tY {s f o:Nat} {β γ:Type} [ai β] [ai γ] {b:β} {hyp:List aM→Prop} (l:aN β γ) (fd:cx c.P s f o) (an:∀ L',a9 c E L' x (.ptr b):=by exact fun _=>ab rfl) (bb:l.off=o:=by rfl):
 ∀ L',hyp L'→kK c ops E L' ⟨some a7,.fieldAddr s x f,ty,pos,af,none⟩ (.ptr (l.get b)):=fun L' _=> .v (EG l fd (an L') bb rfl) rfl
theorem uo {α:Type} [ai α] {a b:α} {hyp:List aM→Prop} (e:some a=some b) (h:∀ L',hyp L'→bS c E L' o (.of a)) (bs:o.guard=none:=by rfl):∀ L',hyp L'→kK c ops E L' o (.of b):=fun L' al=> .v ((h L' al).as (aI e)) bs
theorem yB {i:Nat} {τs:List I} {τ:I} {hyp:List aM→Prop} (an:∀ L',a9 c E L' x (.ed τs):=by exact fun _=>ab rfl) (au:τs[i]? =some τ:=by rfl):∀ L',hyp L'→kK c ops E L' ⟨some a7,.extract x i,ty,pos,af,none⟩ τ:=fun L' _=> .v (lq (an L') au) rfl
theorem ei {τ:I} {j g:Nat} {b want:Bool} {hyp:List aM→Prop} (h:∀ L',hyp L'→b=want→bS c E L' o τ) (bs:o.guard=some (j,want):=by rfl) (aH:(ops[j]?).bind (·.dst)=some g:=by rfl) (ao:look E g=some (.of b):=by rfl):
 ∀ L',hyp L'→kK c ops E L' o (.cond (b=want) τ):=fun L' al=> .g (h L' al) bs aH ao
end
def a6 (s:Nat) (up rd:List Nat) (τ:I):du:=⟨some s,up,rd,[],fun _=>τ,fun _ _=>⟨none,.dead⟩⟩
section
variable {hs:List du} {i:Nat} {up rd:List Nat}
theorem e2 {τ:I} (an:∀ (hd:Nat→Hid) (E':List (Nat × I)) (L':List aM),(∀ t τ,look (mV hd hs E up) t=some τ→look E' t=some τ)→a9 c E' L' x τ:=by first | exact fun _ _ _ aB=>ab (aB _ _ rfl) | exact fun _ _ _ _=>bP _ | exact fun _ _ _ _=>fO _ | exact fun _ _ _ _=>dL _)
 (aO:Nat.blt a7 c.n=true:=by rfl):ct c ops Q hs E L i ⟨some a7,.move x,ty,pos,af,none⟩ (a6 a7 up rd τ):=im rfl rfl aO fun hd E' L' aB _=>cM (an hd E' L' aB)
theorem fe {σ τ:I} (h:∀ {E' L'},a9 c E' L' x σ→bS c E' L' o τ) (bs:o.guard=none:=by rfl) (hd:o.dst=some a7:=by rfl)
 (an:∀ (hd:Nat→Hid) (E':List (Nat × I)) (L':List aM),(∀ t τ,look (mV hd hs E up) t=some τ→look E' t=some τ)→a9 c E' L' x σ:=by first | exact fun _ _ _ aB=>ab (aB _ _ rfl) | exact fun _ _ _ _=>bP _ | exact fun _ _ _ _=>fO _ | exact fun _ _ _ _=>dL _)
 (aO:Nat.blt a7 c.n=true:=by rfl):ct c ops Q hs E L i o (a6 a7 up rd τ):=im bs hd aO fun hd E' L' aB _=>h (an hd E' L' aB)
theorem ur {σ qh τ:I} (h:∀ {E' L'},a9 c E' L' x σ→a9 c E' L' y qh→bS c E' L' o τ) (bs:o.guard=none:=by rfl) (hd:o.dst=some a7:=by rfl)
 (an:∀ (hd:Nat→Hid) (E':List (Nat × I)) (L':List aM),(∀ t τ,look (mV hd hs E up) t=some τ→look E' t=some τ)→a9 c E' L' x σ:=by first | exact fun _ _ _ aB=>ab (aB _ _ rfl) | exact fun _ _ _ _=>bP _ | exact fun _ _ _ _=>fO _ | exact fun _ _ _ _=>dL _)
 (a5:∀ (hd:Nat→Hid) (E':List (Nat × I)) (L':List aM),(∀ t τ,look (mV hd hs E up) t=some τ→look E' t=some τ)→a9 c E' L' y qh:=by first | exact fun _ _ _ aB=>ab (aB _ _ rfl) | exact fun _ _ _ _=>bP _ | exact fun _ _ _ _=>fO _ | exact fun _ _ _ _=>dL _)
 (aO:Nat.blt a7 c.n=true:=by rfl):ct c ops Q hs E L i o (a6 a7 up rd τ):=im bs hd aO fun hd E' L' aB _=>h (an hd E' L' aB) (a5 hd E' L' aB)
theorem n6 {p o:Nat} {β γ:Type} [ai β] [ai γ] {b:β} (k:Nat) (l:aN β γ) (eI:bw c.P t γ)
 (an:∀ (hd:Nat→Hid) (E':List (Nat × I)) (L':List aM),(∀ t τ,look (mV hd hs E up) t=some τ→look E' t=some τ)→a9 c E' L' x (.eq (.pointer (some ⟨p,o,none⟩))):=by exact fun _ _ _ aB=>ab (aB _ _ rfl))
 (al:∀ hd:Nat→Hid,(gY (fun _=>true) hd 0 (hs.take i) L)[k]? =some ⟨some p,.var b⟩:=by exact fun _=>rfl) (aR:rd.contains k=true:=by rfl) (bb:o=l.off:=by rfl)
 (aO:Nat.blt a7 c.n=true:=by rfl):ct c ops Q hs E L i ⟨some a7,.load t x,ty,pos,af,none⟩ (a6 a7 up rd (.of (l.get b))):=im rfl rfl aO fun hd E' L' aB q9=>eA l eI (an hd E' L' aB) (q9 _ _ (al hd) aR) bb rfl
theorem lW {p:Nat} {β:Type} [ai β] {b:β} (k:Nat) (eI:bw c.P t β)
 (an:∀ (hd:Nat→Hid) (E':List (Nat × I)) (L':List aM),(∀ t τ,look (mV hd hs E up) t=some τ→look E' t=some τ)→a9 c E' L' x (.eq (.pointer (some ⟨p,0,none⟩))):=by exact fun _ _ _ aB=>ab (aB _ _ rfl))
 (al:∀ hd:Nat→Hid,(gY (fun _=>true) hd 0 (hs.take i) L)[k]? =some ⟨some p,.var b⟩:=by exact fun _=>rfl) (aR:rd.contains k=true:=by rfl)
 (aO:Nat.blt a7 c.n=true:=by rfl):ct c ops Q hs E L i ⟨some a7,.load t x,ty,pos,af,none⟩ (a6 a7 up rd (.of b)):=im rfl rfl aO fun hd E' L' aB q9=>eA (aN.id β) eI (an hd E' L' aB) (q9 _ _ (al hd) aR) rfl rfl
theorem b8 {τ:I} (h:∀ (hd:Nat→Hid) (E':List (Nat × I)) (L':List aM),(∀ t τ,look (mV hd hs E up) t=some τ→look E' t=some τ)→ (∀ j e,(gY (fun _=>true) hd 0 (hs.take i) L)[j]? =some e→rd.contains j=true→L'[j]? =some e)→bS c E' L' o τ)
 (bs:o.guard=none:=by rfl) (hd:o.dst=some a7:=by rfl) (aO:Nat.blt a7 c.n=true:=by rfl):ct c ops Q hs E L i o (a6 a7 up rd τ):=im bs hd aO h
end
end
theorem DQ {F:Fence} {n sQ:Nat} {P:Program} {code:Code} {Q:Exit→Act→World→Prop} {a:Act} {W:World} (hd:F.depth=none) (h:code.wpIn F n P Q a W):code.wpIn F sQ P Q a W:=
 fun b k cs yG hb _=>h b k cs yG hb (fun d hd'=>by rw [hd] at hd'; cases hd')
def dB.is (o:Obj):dB where
 holds _ _ x:=x=o
 mJ:=False
 mono _ h:=h
abbrev dB.dj:dB:= .is (.deferred (some []))
def I.gF (f:FuncId) (τs:List I):I where
 holds A W v:= ∃ h0:List Value,v= .func (.func f) #[] h0.toArray∧gB A W τs h0
 mono e h:=let⟨h0,J,ad⟩:=h; ⟨h0,J,ad.mono e⟩
theorem bx.p0 {c E L a W} (h:bx c E L a W) {i p:Nat} {cp cp':dB} (au:L[i]? =some ⟨some p,cp⟩) {o':Obj} (ak:cp'.holds (aQ L ++ c.bT) W o'):
 bx c E (L.set i ⟨some p,cp'⟩) a (W.putObj p o'):=by
 have hh:aQ (L.set i ⟨some p,cp'⟩)=aQ L:=x2 (cp:=cp') au
 have hp:p∈aQ L:=ln.2 ⟨_,List.mem_of_getElem? au,rfl⟩
 have hg:Ext (aQ L ++ c.bT) W (aQ L ++ c.bT) (W.putObj p o'):=
  ⟨by simp,fun k _ bj=>World.putObj_heap_other (fun e=>bj (e ▸ List.mem_append.2 (.inl hp))),fun _ h _=>h⟩
 exact
 {defers:=h.defers
  size:=h.size
  env:=fun t τ ao=>by rw [hh]; exact let⟨v,J,ad⟩:=h.env t τ ao; ⟨v,J,τ.mono hg ad⟩
  dG:=⟨h.dG.os,h.dG.tape,h.dG.output,by simpa using h.dG.size,fun k ay an=>by
   rw [World.putObj_heap_other (fun e:k=p=>an (by subst e; exact h.fR _ hp ay))]
   exact h.dG.block k ay an⟩
  own:=fun e he=>by
   rw [hh]
   obtain⟨j,aH⟩:=List.mem_iff_getElem?.1 he
   rw [List.getElem?_set] at aH
   split at aH
   ·rename_i ft
    subst ft
    split at aH
    ·simp only [Option.some.injEq] at aH
     subst aH
     exact⟨_,World.putObj_heap_same (h.lt p hp),cp'.mono hg ak⟩
    ·cases aH
   ·rename_i ft
    have J:=h.own e (List.mem_of_getElem? aH)
    unfold aM.ok at *
    split at J
    ·rename_i q hq
     obtain⟨o',p8,b3⟩:=J
     have c6:q≠p:=fun e'=>ft (H2 h.nodup au aH rfl (e' ▸ hq))
     exact⟨o',by rw [World.putObj_heap_other c6]; exact p8,dB.mono _ hg b3⟩
    ·exact J
  nodup:=by rw [hh]; exact h.nodup
  lt:=by rw [hh]; simpa using h.lt
  fR:=by rw [hh]; exact h.fR
  eW:=by rw [hh]; simpa using h.eW }
theorem Oa {c:dd} {E:List (Nat × I)} {L:List aM} {d:Option Tmp} {ty:TypeId} {pos:String} {af:Array Edge} {g:Option (Nat × Bool)} {f:FuncId} {xs:List Operand} {τs:List I} (an:hJ c E L xs τs):
 bS c E L ⟨d,.makeFunc (.func f) #[] xs.toArray,ty,pos,af,g⟩ (.gF f τs):= .pure fun a W s=>
 ⟨.func (.func f) #[] (xs.map a.eval).toArray,by simp [execOp,Instr.makeFunc],_,rfl,an.holds a W s⟩
structure yy (A:List Nat) (W:World) (L:List aM):Prop where
 eW:∀ k∈A,k < W.heap.size∧k ∉ aQ L
 nodup:(aQ L).Nodup
 lt:∀ k∈aQ L,k < W.heap.size
 ok:∀ e∈L,e.ok (aQ L ++ A) W
def wH (P:Program) (u:Value) {α σ ε γ:Type} (τ:α→I) (Ls:σ→γ→List aM) (Lx:ε→γ→List aM) (step:α→σ→Option (σ ⊕ ε)) (R:List Nat→World→Prop):Prop:=
 ∃ l,u= .func (.yield l) #[] #[]∧ ∀ x s r,step x s=some r→ ∀ g A W v,R (aQ (Ls s g) ++ A) W→yy A W (Ls s g)→ (τ x).holds (aQ (Ls s g) ++ A) W v→
   YieldAt Fence.wide 8 P l #[v] W (match r with
    | .inl b6=>j9 (aQ (Ls s g)) A W (fun _:γ=>I.of true) (fun g=>Ls b6 g)
    | .inr q=>j9 (aQ (Ls s g)) A W (fun _:γ=>I.of false) (fun g=>Lx q g))
def Lr {σ ε γ:Type} (Ls:σ→γ→List aM) (Lx:ε→γ→List aM):σ ⊕ ε→γ→List aM
 | .inl s,g=>Ls s g
 | .inr q,g=>Lx q g
structure AW (P:Program) (f:FuncId) (τs:List I) (Lin:List aM) {α:Type} (τ:α→I) (run:∀ {σ ε:Type},(α→σ→Option (σ ⊕ ε))→σ→Option (σ ⊕ ε)):Prop where
 go:∀ {σ ε γ:Type} (Ls:σ→γ→List aM) (Lx:ε→γ→List aM) (step:α→σ→Option (σ ⊕ ε)) (cc:σ) (g0:γ) (r:σ ⊕ ε),run step cc=some r→
  ∀ (A:List Nat) (W:World) (u:Value) (vs:List Value),yy A W (Lin ++ Ls cc g0)→gB (aQ (Lin ++ Ls cc g0) ++ A) W τs vs→
    wH P u τ Ls Lx step (fun c5 W'=>Ext (aQ (Lin ++ Ls cc g0) ++ A) W c5 W')→
    Calls P f (u :: vs).toArray W (j9 (aQ (Lin ++ Ls cc g0)) A W (fun _:γ=> .ed []) (fun g=>Lin ++ Lr Ls Lx r g))
theorem AW.of {P:Program} {f:FuncId} {fn:Func} {code:Code} {n:Nat} {τs:List I} {Lin:List aM} {α:Type} {τ:α→I} {run:∀ {σ ε:Type},(α→σ→Option (σ ⊕ ε))→σ→Option (σ ⊕ ε)}
 (ba:P.funcs[f]? =some fn) (hb:fn.body=some code) (aO:fn.ntmps=n) (hlen:Nat.ble (τs.length + 1) n=true)
 (h:∀ {σ ε γ:Type} (Ls:σ→γ→List aM) (Lx:ε→γ→List aM) (step:α→σ→Option (σ ⊕ ε)) (cc:σ) (g0:γ) (r:σ ⊕ ε),run step cc=some r→
  ∀ W A u,wH P u τ Ls Lx step (fun c5 W'=>Ext (aQ (Lin ++ Ls cc g0) ++ A) W c5 W')→
    ag ⟨P,n,W,aQ (Lin ++ Ls cc g0),A,none,[]⟩ (bodyPost P fn (j9 (aQ (Lin ++ Ls cc g0)) A W (fun _:γ=> .ed []) (fun g=>Lin ++ Lr Ls Lx r g))) code (params 0 (.eq u :: τs)) (Lin ++ Ls cc g0)):AW P f τs Lin τ run:=by
 refine⟨?_⟩
 intro σ ε γ Ls Lx step cc g0 r aR A W u vs ao a0 a5
 refine calls_of_wp ba hb (wpIn_wide.1 (h Ls Lx step cc g0 r aR W A u a5 _ _ ?_))
 have mW:gB (aQ (Lin ++ Ls cc g0) ++ A) W (.eq u :: τs) (u :: vs):= .cons rfl a0
 have kh:=mW.length
 have hle:τs.length + 1≤n:=Nat.le_of_ble_eq_true hlen
 exact
 {defers:=rfl
  size:=by simp at kh; simp [aO,kh]; omega
  env:=fun t τ e1=>by
   obtain⟨_,v,ad,aC⟩:=uS mW 0 t τ e1
   refine⟨v,?_,aC⟩
   have b5:t < (u :: vs).length:=(List.getElem?_eq_some_iff.1 ad).1
   rw [Array.getElem?_append_left (by simpa using b5)]
   simpa using ad
  dG:= .refl _ _
  own:=ao.ok
  nodup:=ao.nodup
  lt:=ao.lt
  fR:=fun k ay _=>ay
  eW:=ao.eW }
section
variable {c:dd} {E:List (Nat × I)} {L:List aM} {ops:Array Oper} {Q:Exit→Act→World→Prop}
variable {d:Option Tmp} {ty:TypeId} {pos:String} {af:Array Edge} {g:Option (Nat × Bool)} {x y:Operand} {t t2:TypeId}
theorem bx.O5 {a:Act} {W:World} (s:bx c E L a W):Ext (c.X ++ c.bT) c.iN (aQ L ++ c.bT) W:=
 ⟨s.dG.size,fun k ay bj=>s.dG.block k ay fun an=>bj (List.mem_append.2 (.inl an)),fun k hm b5=>by
   rcases List.mem_append.1 hm with hm | hm
   ·exact List.mem_append.2 (.inl (s.fR k hm b5))
   ·exact List.mem_append.2 (.inr hm)⟩
theorem bx.E7 {a:Act} {W:World} {Lin Lr:List aM} (s:bx c E (Lin ++ Lr) a W):yy (aQ Lr ++ c.bT) W Lin:=by
 have ml:=s.nodup
 rw [eS] at ml
 obtain⟨nv,oO,qd⟩:=List.nodup_append.1 ml
 exact
 {eW:=fun k hm=>by
   rcases List.mem_append.1 hm with hm | hm
   ·exact⟨s.lt k (by rw [eS]; exact List.mem_append.2 (.inr hm)),fun h=>qd k h k hm rfl⟩
   ·obtain⟨J,ad⟩:=s.eW k hm
    exact⟨J,fun h=>ad (by rw [eS]; exact List.mem_append.2 (.inl h))⟩
  nodup:=nv
  lt:=fun k hm=>s.lt k (by rw [eS]; exact List.mem_append.2 (.inl hm))
  ok:=fun e he=>aM.tj (s.own e (List.mem_append.2 (.inl he))) (.drop fun k hm=>by
   rw [eS]
   simp only [List.mem_append] at hm ⊢
   rcases hm with hm | hm | hm
   ·exact .inl (.inl hm)
   ·exact .inl (.inr hm)
   ·exact .inr hm) fun _ _=>rfl }
theorem AN {Lin Lr:List aM} {A:List Nat} {W:World} :Ext (aQ (Lin ++ Lr) ++ A) W (aQ Lin ++ (aQ Lr ++ A)) W:= .drop fun k hm=>by
 rw [eS]
 simp only [List.mem_append] at hm ⊢
 rcases hm with hm | hm | hm
 ·exact .inl (.inl hm)
 ·exact .inl (.inr hm)
 ·exact .inr hm
theorem Hl {Lin Lr:List aM} {A:List Nat} {W:World} :Ext (aQ Lin ++ (aQ Lr ++ A)) W (aQ (Lin ++ Lr) ++ A) W:= .drop fun k hm=>by
 rw [eS] at hm
 simp only [List.mem_append] at hm ⊢
 rcases hm with(hm | hm) | hm
 ·exact .inl hm
 ·exact .inr (.inl hm)
 ·exact .inr (.inr hm)
theorem ah.yield {rest:List Oper} {a7 lf:Nat} {ats:Array TypeId} {u:Value} {α σ ε γ:Type} {τ:α→I} {Ls:σ→γ→List aM} {Lx:ε→γ→List aM} {step:α→σ→Option (σ ⊕ ε)} {Lin:List aM} {x:Operand} {v:α} {s:σ} {gg:γ} {r:σ ⊕ ε}
 (ak:c.rd=none) (a5:wH c.P u τ Ls Lx step (fun c5 W'=>Ext (c.X ++ c.bT) c.iN c5 W')) (ba:look E lf=some (.eq u)) (an:a9 c E (Lin ++ Ls s gg) x (τ v)) (aR:step v s=some r) (aO:Nat.blt a7 c.n=true)
 (a8:∀ b6,r= .inl b6→ ∀ eF,ah c ops Q rest ((a7,.of true) :: E) (Lin ++ Ls b6 eF)) (bY:∀ q,r= .inr q→ ∀ eF,ah c ops Q rest ((a7,.of false) :: E) (Lin ++ Lx q eF)):
 ah c ops Q (⟨some a7,.call ⟨.value (.tmp lf),#[x],ats⟩,ty,pos,af,none⟩ :: rest) E (Lin ++ Ls s gg):=fun a W st=>by
 obtain⟨l,rfl,a5⟩:=a5
 obtain⟨KA,J,ad⟩:=st.env lf _ ba
 have hu:KA= .func (.yield l) #[] #[]:=ad
 subst hu
 have nw:bx c E (Ls s gg ++ Lin) a W:=st.perm List.perm_append_comm
 have a0:=an a W st
 have mW:(τ v).holds (aQ (Ls s gg) ++ (aQ Lin ++ c.bT)) W (a.eval x):=(τ v).mono (.drop fun k hm=>by
  rw [eS]
  simp only [List.mem_append] at hm ⊢
  rcases hm with hm | hm | hm
  ·exact .inl (.inr hm)
  ·exact .inl (.inl hm)
  ·exact .inr hm) a0
 obtain⟨fn,tmps,assign,body,h5,jr⟩:=a5 v s r aR gg (aQ Lin ++ c.bT) W (a.eval x) (nw.O5.trans AN) nw.E7 mW
 have IK:(execOp a.eval ⟨some a7,.call ⟨.value (.tmp lf),#[x],ats⟩,ty,pos,af,none⟩).run c.P W= .ok (.round l fn tmps assign body) W:=by
  rw [← h5]
  simp [execOp,resolve,Deferred.ofValue,Act.eval,J,invoke,Sem.run_bind,Sem.run_pure,Result.andThen]
 refine wpListIn_plain rfl fun K wW=> ?_
 refine⟨fun _ _=>trivial,?_⟩
 rw [Oper.semAt_eq _ _ _ (fun _ h=>by cases h),IK,Oper.uponIn_round]
 refine⟨fun h=>by simp at h,?_⟩
 have JK:RoundIn c.F (9 - 1) c.P l fn tmps assign body W _:=jr
 refine JK.mono fun e W' he=> ?_
 cases r with
 | inl b6=>
   obtain⟨w,eF,rfl,qi,aC,aU,a1,bk⟩:=he
   obtain rfl:=of_bool.1 bk
   refine wW _ _ (a8 b6 rfl eF _ _ ?_)
   exact(((nw.after qi aC aU a1).perm List.perm_append_comm).put (by simpa using aO) (of_bool.2 rfl))
 | inr q=>
   obtain⟨w,eF,rfl,qi,aC,aU,a1,bk⟩:=he
   obtain rfl:=of_bool.1 bk
   refine wW _ _ (bY q rfl eF _ _ ?_)
   exact(((nw.after qi aC aU a1).perm List.perm_append_comm).put (by simpa using aO) (of_bool.2 rfl))
theorem ah.Wc {rest:List Oper} {a7 lf j gt:Nat} {b:Bool} {ats:Array TypeId} {u:Value} {α σ ε γ:Type} {τ:α→I} {Ls:σ→γ→List aM} {Lx:ε→γ→List aM} {step:α→σ→Option (σ ⊕ ε)} {Lin:List aM} {x:Operand} {v:α} {s:σ} {gg:γ} {r:σ ⊕ ε}
 (ak:c.rd=none) (a5:wH c.P u τ Ls Lx step (fun c5 W'=>Ext (c.X ++ c.bT) c.iN c5 W')) (hb:b=true) (aH:(ops[j]?).bind (·.dst)=some gt) (ao:look E gt=some (.of b)) (ba:look E lf=some (.cond (b=true) (.eq u))) (an:a9 c E (Lin ++ Ls s gg) x (τ v)) (aR:step v s=some r) (aO:Nat.blt a7 c.n=true)
 (a8:∀ b6,r= .inl b6→ ∀ eF,ah c ops Q rest ((a7,.cond (b=true) (.of true)) :: E) (Lin ++ Ls b6 eF)) (bY:∀ q,r= .inr q→ ∀ eF,ah c ops Q rest ((a7,.cond (b=true) (.of false)) :: E) (Lin ++ Lx q eF)):
 ah c ops Q (⟨some a7,.call ⟨.value (.tmp lf),#[x],ats⟩,ty,pos,af,some (j,true)⟩ :: rest) E (Lin ++ Ls s gg):=fun a W st=>by
 have aB:look ((lf,.eq u) :: E) lf=some (.eq u):=by simp [look,Nat.beq_refl]
 have JL:bx c ((lf,.eq u) :: E) (Lin ++ Ls s gg) a W:=st.less fun t mU h=>by
  simp only [look] at h
  by_cases e:Nat.beq lf t=true
  ·rw [e] at h
   simp only [cond_true,Option.some.injEq] at h
   subst h
   rw [← eh.1 e]
   exact⟨_,ba,fun A W v a0=>a0.1 hb⟩
  ·simp only [Bool.not_eq_true] at e
   rw [e] at h
   exact⟨_,h,fun _ _ _ h=>h⟩
 have key:=ah.yield (c:=c) (ops:=ops) (Q:=Q) (E:=(lf,.eq u) :: E) (rest:=rest) (ty:=ty) (pos:=pos) (af:=af) (ats:=ats) ak a5 aB (fun a W s=>an a W (s.less fun t mU h=>by
  by_cases e:Nat.beq lf t=true
  ·have:=eh.1 e
   subst this
   rw [ba] at h
   cases h
   refine⟨_,aB,fun A W v a0=>⟨fun _=>a0,fun h=>absurd hb h⟩⟩
  ·simp only [Bool.not_eq_true] at e
   exact⟨mU,by simp only [look]; rw [e]; exact h,fun _ _ _ h=>h⟩)) aR aO
  (fun b6 e eF a W st=>a8 b6 e eF a W (st.less fun t mU h=>by
   simp only [look] at h ⊢
   by_cases e:Nat.beq a7 t=true
   ·rw [e] at h ⊢
    simp only [cond_true,Option.some.injEq] at h ⊢
    exact⟨_,rfl,fun A W v a0=>by subst h; exact⟨fun _=>a0,fun h=>absurd hb h⟩⟩
   ·simp only [Bool.not_eq_true] at e
    rw [e] at h ⊢
    simp only [cond_false] at h ⊢
    by_cases aX:Nat.beq lf t=true
    ·have:=eh.1 aX
     subst this
     rw [ba] at h
     cases h
     rw [aX]
     exact⟨_,rfl,fun A W v a0=>⟨fun _=>a0,fun h=>absurd hb h⟩⟩
    ·simp only [Bool.not_eq_true] at aX
     rw [aX]
     exact⟨mU,h,fun _ _ _ h=>h⟩))
  (fun b6 e eF a W st=>bY b6 e eF a W (st.less fun t mU h=>by
   simp only [look] at h ⊢
   by_cases e:Nat.beq a7 t=true
   ·rw [e] at h ⊢
    simp only [cond_true,Option.some.injEq] at h ⊢
    exact⟨_,rfl,fun A W v a0=>by subst h; exact⟨fun _=>a0,fun h=>absurd hb h⟩⟩
   ·simp only [Bool.not_eq_true] at e
    rw [e] at h ⊢
    simp only [cond_false] at h ⊢
    by_cases aX:Nat.beq lf t=true
    ·have:=eh.1 aX
     subst this
     rw [ba] at h
     cases h
     rw [aX]
     exact⟨_,rfl,fun A W v a0=>⟨fun _=>a0,fun h=>absurd hb h⟩⟩
    ·simp only [Bool.not_eq_true] at aX
     rw [aX]
     exact⟨mU,h,fun _ _ _ h=>h⟩))
 have:=key a W JL
 unfold dd.pq wpListIn at this ⊢
 rw [if_pos (by simp [Region.wanted])] at this
 rw [if_pos (by simp [Region.wanted,xL aH ao st,hb])]
 exact this
theorem ah.dR {l:List Oper} {L2:List aM} (h:L=L2) (k:ah c ops Q l E L2):ah c ops Q l E L:=by subst h; exact k
theorem ah.cases {l:List Oper} (b:Bool) (J:b=true→ah c ops Q l E L) (ad:b=false→ah c ops Q l E L):ah c ops Q l E L:=by
 cases b
 ·exact ad rfl
 ·exact J rfl
theorem ah.XR {o:Oper} {rest:List Oper} {a7 j gt:Nat} {b:Bool} (τ:I) (hb:b=false) (bs:o.guard=some (j,true)) (hd:o.dst=some a7) (aH:(ops[j]?).bind (·.dst)=some gt) (ao:look E gt=some (.of b)) (aO:Nat.blt a7 c.n=true)
 (k:ah c ops Q rest ((a7,.cond (b=true) τ) :: E) L):ah c ops Q (o :: rest) E L:=fun a W s=>by
 unfold dd.pq wpListIn
 rw [if_neg (by simp [Region.wanted,bs,xL aH ao s,hb]),hd]
 exact⟨fun _ _=>trivial,k _ _ (s.put (by simpa using aO) ⟨fun h=>(by rw [hb] at h; cases h),fun _=>rfl⟩)⟩
theorem ag.It {x:Operand} {b:Bool} {y z:Code} (ao:a9 c E L x (.of b)) (hb:b=true) (k:ag c Q y E L):ag c Q (.cond x y z) E L:= .cond ao (fun _=>k) fun h=>by rw [hb] at h; cases h
theorem ag.rY {x:Operand} {b:Bool} {y z:Code} (ao:a9 c E L x (.of b)) (hb:b=false) (k:ag c Q z E L):ag c Q (.cond x y z) E L:= .cond ao (fun h=>by rw [hb] at h; cases h) fun _=>k
def A2:Code→Exit
 | .ret=> .ret
 | .exit id=> .exit id
 | .goto t=> .goto t
 | _=> .normal
def vo:Code→Bool
 | .ret | .exit _ | .goto _=>true
 | _=>false
def CL {σ ε γ:Type} (c:dd) (e4:ε→Code) (l D:Nat) (rec:Loop) (Ls:σ→γ→List aM) (Lx:ε→γ→List aM):σ ⊕ ε→Exit→Act→World→Prop
 | .inl b6,x,a,W=>x= .normal∧ ∃ g,bx c [] (⟨some l,.is (.loop rec)⟩ :: ⟨some D,.dj⟩ :: Ls b6 g) a W
 | .inr q,x,a,W=>vo (e4 q)=true∧x=A2 (e4 q)∧ ∃ g,bx c [] (⟨some l,.is (.loop rec)⟩ :: ⟨some D,.dj⟩ :: Lx q g) a W
def CM (c:dd) (l:Nat) (body:Code) (Q:Exit→Act→World→Prop) (a:Act) (W:World):Prop:=
 ∃ oi,(Instr.beginRound l).run c.P W= .ok () oi∧c.wp body Q a oi
theorem ae.begin {l:Nat} {body:Code} {sL:Exit→Act→World→Prop} (i:Nat) {r:Loop} (al:L[i]? =some ⟨some l,.is (.loop r)⟩) (aR:r.state= .ready)
 (k:ag c Q body E (L.set i ⟨some l,.is (.loop { r with state:= .busy })⟩)):ae c (Exit.then (CM c l body Q) sL) .normal E L:=fun a W s=>by
 obtain⟨o,J,ad⟩:=s.own _ (List.mem_of_getElem? al)
 have kj:o= .loop r:=ad
 subst kj
 exact⟨_,run_beginRound J aR,k _ _ (s.p0 al rfl)⟩
theorem ae.Jp {σ ε γ:Type} {e4:ε→Code} {l D:Nat} {rec:Loop} {Ls:σ→γ→List aM} {Lx:ε→γ→List aM} {b6:σ} (g:γ) (n:Nat) (al:L.drop n=⟨some l,.is (.loop rec)⟩ :: ⟨some D,.dj⟩ :: Ls b6 g):
 ae c (CL c e4 l D rec Ls Lx (.inl b6)) .normal E L:=fun a W s=>⟨rfl,g,by rw [← al]; exact(s.oF n).less (fun t τ h=>by simp [look] at h)⟩
theorem ae.HY {σ ε γ:Type} {e4:ε→Code} {l D:Nat} {rec:Loop} {Ls:σ→γ→List aM} {Lx:ε→γ→List aM} {q:ε} {x:Exit} (g:γ) (n:Nat) (aH:vo (e4 q)=true) (an:x=A2 (e4 q)) (al:L.drop n=⟨some l,.is (.loop rec)⟩ :: ⟨some D,.dj⟩ :: Lx q g):
 ae c (CL c e4 l D rec Ls Lx (.inr q)) x E L:=fun a W s=>⟨aH,an,g,by rw [← al]; exact(s.oF n).less (fun t τ h=>by simp [look] at h)⟩
theorem ag.jump {j:Code} (aH:vo j=true) (k:ae c Q (A2 j) E L):ag c Q j E L:=by
 cases j <;> simp only [vo] at aH <;> first | cases aH | skip
 all_goals first | exact .exit k | exact .ret k | exact fun a W s=>wpIn_goto (k a W s)
theorem Ll {P:Program} {l:Nat} {R:Ending→World→Prop} {j:Code} {a:Act} {W W':World} {v:Value} (aH:vo j=true) (bk:(Instr.endRound l (some j)).run P W= .ok v W') (jr:R (.returned v) W'):
 roundPost P l R (A2 j) a W:=by
 cases j <;> simp only [vo] at aH <;> first | exact⟨_,_,bk,jr⟩ | cases aH
theorem bx.mark {a:Act} {W:World} (s:bx c E L a W) (D:Nat):bx { c with ds:=D :: c.ds } E L { a with defers:=E0 D :: a.defers } W:=
 {defers:=by simp [s.defers],size:=s.size,env:=s.env,dG:=s.dG,own:=s.own,nodup:=s.nodup,lt:=s.lt,fR:=s.fR,eW:=s.eW }
def JM (P:Program) (f:FuncId) (τs:List I) (Lin:List aM) {α σ ε γ:Type} (τ:α→I) (run:(α→σ→Option (σ ⊕ ε))→σ→Option (σ ⊕ ε)) (Ls:σ→γ→List aM) (Lx:ε→γ→List aM):Prop:=
 ∀ (step:α→σ→Option (σ ⊕ ε)) (cc:σ) (g0:γ) (r:σ ⊕ ε),run step cc=some r→
   ∀ (A:List Nat) (W:World) (u:Value) (vs:List Value),yy A W (Lin ++ Ls cc g0)→gB (aQ (Lin ++ Ls cc g0) ++ A) W τs vs→
     wH P u τ Ls Lx step (fun c5 W'=>Ext (aQ (Lin ++ Ls cc g0) ++ A) W c5 W')→
     Calls P f (u :: vs).toArray W (j9 (aQ (Lin ++ Ls cc g0)) A W (fun _:γ=> .ed []) (fun g=>Lin ++ Lr Ls Lx r g))
theorem Mf {gt p:Nat} {assign body:Code} {f:FuncId} {mQ:List I} {Lin:List aM} {α σ ε γ:Type} {τ:α→I} {run:(α→σ→Option (σ ⊕ ε))→σ→Option (σ ⊕ ε)}
 {Ls:σ→γ→List aM} {Lx:ε→γ→List aM} {step:α→σ→Option (σ ⊕ ε)} {cc:σ} {g0:γ} {r:σ ⊕ ε} (e4:ε→Code)
 (ak:c.rd=none) (ej:bH c.P f) (bs:look E gt=some (.gF f mQ)) (la:∀ av aX mX,JM c.P f mQ Lin τ run (fun s g=>av :: aX :: Ls s g) mX) (aR:run step cc=some r) (al:L=Lin ++ Ls cc g0) (hp:Nat.blt p c.n=true)
 (pb:∀ x s r,step x s=some r→ ∀ g (k3:World) (k8 k4:List Nat) (l D:Nat) (rec:Loop),rec.state= .ready→
  ag ⟨c.P,c.n,k3,k8,k4,some l,[]⟩ (Exit.then (CM ⟨c.P,c.n,k3,k8,k4,some l,[]⟩ l body (CL ⟨c.P,c.n,k3,k8,k4,some l,[]⟩ e4 l D { rec with state:= .busy } Ls Lx r)) (fun _ _ _=>False)) assign ((p,τ x) :: E) (⟨some l,.is (.loop rec)⟩ :: ⟨some D,.dj⟩ :: Ls s g))
 (mL:∀ b6,r= .inl b6→ ∀ g D,ae { c with ds:=D :: c.ds } Q .normal E (⟨some D,.dj⟩ :: (Lin ++ Ls b6 g)))
 (vM:∀ q,r= .inr q→ ∀ g D,ag { c with ds:=D :: c.ds } Q (e4 q) E (⟨some D,.dj⟩ :: (Lin ++ Lx q g))):
 ag c Q (.rangeFunc (.tmp gt) #[p] assign body) E L:=fun a W st=>by
 subst al
 refine wpIn_rangeFunc fun fn aaX=> ?_
 show ∃ l mark Z4 d Yk y7 args Z5,(Instr.enterLoop fn a.tmps #[p] assign body c.rd).run c.P W=_∧_
 rw [ak]
 obtain⟨rec,kB⟩:∃ rec:Loop,rec= { state:= .ready,pending:=none,fn,tmps:=a.tmps,params:= #[p],assign,body,defers:=W.heap.size } :=⟨_,rfl⟩
 obtain⟨v,Co,h0,wI,aaY⟩:=st.env gt _ bs
 obtain⟨hi,Cp⟩:∃ hi,(W.alloc (.deferred (some []))).alloc (.loop rec)=hi:=⟨_,rfl⟩
 have s1:=(st.alloc (o:= .deferred (some [])) (cp:= .dj) rfl).alloc (o:= .loop rec) (cp:= .is (.loop rec)) rfl
 rw [Cp,World.size_alloc] at s1
 obtain⟨D,lb⟩:∃ D,D=W.heap.size:=⟨_,rfl⟩
 obtain⟨l,ao⟩:∃ l,l=W.heap.size + 1:=⟨_,rfl⟩
 have Cq:=run_enterLoop_outer (P:=c.P) (w:=W) fn a.tmps #[p] assign body
 rw [← kB,Cp,← ao,← lb] at Cq
 rw [← ao,← lb] at s1
 obtain⟨lE,qj⟩:∃ lE:σ→γ→List aM,lE=fun s g=>⟨some l,.is (.loop rec)⟩ :: ⟨some D,.dj⟩ :: Ls s g:=⟨_,rfl⟩
 obtain⟨mX,Cr⟩:∃ mX:ε→γ→List aM,mX=fun q g=>⟨some l,.is (.loop { rec with state:= .done,pending:=some (e4 q) })⟩ :: ⟨some D,.dj⟩ :: Lx q g:=⟨_,rfl⟩
 have s2:bx c E (Lin ++ lE cc g0) a hi:=s1.perm (by
  rw [qj]
  exact(List.perm_middle.trans (List.perm_middle.cons _)).symm)
 have JN:gB (aQ (Lin ++ lE cc g0) ++ c.bT) hi mQ h0:=by
  have J:(I.gF f mQ).holds (aQ (Lin ++ lE cc g0) ++ c.bT) hi v:=by
   obtain⟨wZ,J,ad⟩:=s2.env gt _ bs
   rw [Co] at J
   cases J
   exact ad
  obtain⟨JO,av,aX⟩:=J
  rw [wI] at av
  have:JO=h0:=by injection av with _ _ av; injection av with av; exact av.symm
  rw [← this]; exact aX
 have Cs:bx c E ((Lin ++ lE cc g0) ++ []) a hi:=by rw [List.append_nil]; exact s2
 have Bi:=Cs.E7
 simp only [aQ,List.nil_append] at Bi
 have Jd:wH c.P (.func (.yield l) #[] #[]) τ lE mX step (fun c5 W'=>Ext (aQ (Lin ++ lE cc g0) ++ c.bT) hi c5 W'):=by
  refine⟨l,rfl,fun x s j1 hs g A oi v2 hg hle a0=> ?_⟩
  have BK:=hle
  rw [qj] at BK
  obtain⟨o,dh,eZ⟩:=BK.ok ⟨some l,.is (.loop rec)⟩ (by simp)
  have p1:o= .loop rec:=eZ
  subst p1
  have a5:=run_yield (P:=c.P) (args:= #[v2]) dh (by rw [kB]; rfl)
  refine⟨_,_,_,_,a5,roundIn_of_wpIn trivial ?_⟩
  have av:rec.assign=assign:=by rw [kB]
  have aX:rec.body=body:=by rw [kB]
  have c4:rec.params= #[p]:=by rw [kB]
  have gT:rec.tmps=a.tmps:=by rw [kB]
  rw [av,aX,c4,gT]
  refine DQ (n:=9) rfl ?_
  have IL:((#[p]:Array Tmp).zip #[v2]).foldl (fun tmps (t,a)=>tmps.setIfInBounds t a) a.tmps=a.tmps.setIfInBounds p v2:=by simp
  rw [IL]
  subst qj Cr
  refine wpIn_mono ((pb x s j1 hs g oi (aQ (⟨some l,.is (.loop rec)⟩ :: ⟨some D,.dj⟩ :: Ls s g)) A l D rec (by rw [kB])) { tmps:=a.tmps.setIfInBounds p v2,defers:= [] } oi ?_) ?_
  ·have iV:p < c.n:=by simpa using hp
   exact
   {defers:=rfl
    size:=by simp [s2.size]
    env:=fun t mU e1=>by
     simp only [look] at e1
     by_cases e:Nat.beq p t=true
     ·rw [e] at e1
      simp only [cond_true,Option.some.injEq] at e1
      subst e1
      have:=eh.1 e
      subst this
      exact⟨v2,by simp [s2.size,iV],a0⟩
     ·simp only [Bool.not_eq_true] at e
      rw [e] at e1
      simp only [cond_false] at e1
      obtain⟨u,J,ad⟩:=s2.env t mU e1
      have c6:p≠t:=fun h=>by rw [eh.2 h] at e; cases e
      exact⟨u,by rw [Array.getElem?_setIfInBounds_ne c6]; exact J,mU.mono hg ad⟩
    dG:= .refl _ _
    own:=hle.ok
    nodup:=hle.nodup
    lt:=hle.lt
    fR:=fun k ay _=>ay
    eW:=hle.eW }
  ·intro e gJ ab3 hq
   cases e with
   | normal=>
     obtain⟨KB,JP,hb⟩:=hq
     refine⟨KB,JP,DQ (n:=9) rfl (wpIn_mono hb ?_)⟩
     intro e pC CN FC
     have fin:∀ (jump:Option Code) {Lr:List aM},bx ⟨c.P,c.n,oi,aQ (⟨some l,.is (.loop rec)⟩ :: ⟨some D,.dj⟩ :: Ls s g),A,some l,[]⟩ [] (⟨some l,.is (.loop { rec with state:= .busy })⟩ :: ⟨some D,.dj⟩ :: Lr) pC CN→
      ∃ oV,(Instr.endRound l jump).run c.P CN= .ok (.bool jump.isNone) oV∧bx ⟨c.P,c.n,oi,aQ (⟨some l,.is (.loop rec)⟩ :: ⟨some D,.dj⟩ :: Ls s g),A,some l,[]⟩ [] (⟨some l,.is (.loop { rec with state:=if jump.isNone then .ready else .done,pending:=jump })⟩ :: ⟨some D,.dj⟩ :: Lr) pC oV:=fun jump Lr oW=>by
      obtain⟨o,J,ad⟩:=oW.own ⟨some l,.is (.loop { rec with state:= .busy })⟩ (by simp)
      have kj:o= .loop { rec with state:= .busy } :=ad
      subst kj
      exact⟨_,run_endRound jump J,oW.p0 (i:=0) rfl rfl⟩
     cases j1 with
     | inl b6=>
       obtain⟨rfl,eF,oW⟩:=FC
       obtain⟨oV,bk,sR⟩:=fin none oW
       refine⟨_,oV,bk,?_⟩
       have JQ:({ rec with state:=if (none:Option Code).isNone then .ready else .done,pending:=none } :Loop)=rec:=by rw [kB]; rfl
       rw [JQ] at sR
       exact sR.ends (ρ:=fun _:γ=>I.of true) (Lo:=fun g=>⟨some l,.is (.loop rec)⟩ :: ⟨some D,.dj⟩ :: Ls b6 g) eF (List.Sublist.refl _) (of_bool.2 rfl)
     | inr q=>
       obtain⟨aH,rfl,eF,oW⟩:=FC
       obtain⟨oV,bk,sR⟩:=fin (some (e4 q)) oW
       have key:j9 (aQ (⟨some l,.is (.loop rec)⟩ :: ⟨some D,.dj⟩ :: Ls s g)) A oi (fun _:γ=>I.of false) (fun g=>⟨some l,.is (.loop { rec with state:= .done,pending:=some (e4 q) })⟩ :: ⟨some D,.dj⟩ :: Lx q g) (.returned (.bool false)) oV:=
        sR.ends (ρ:=fun _:γ=>I.of false) (Lo:=fun g=>⟨some l,.is (.loop { rec with state:= .done,pending:=some (e4 q) })⟩ :: ⟨some D,.dj⟩ :: Lx q g) eF (List.Sublist.refl _) (of_bool.2 rfl)
       exact Ll aH bk key
   | exit id=>exact hq.elim
   | goto t=>exact hq.elim
   | ret=>exact hq.elim
   | panic Kr=>exact hq.elim
   | outgrown=>exact hq.elim
 have JR:JM c.P f mQ Lin τ run lE mX:=by rw [qj]; exact la _ _ mX
 have Bj:=JR step cc g0 r aR c.bT hi (.func (.yield l) #[] #[]) h0 Bi JN Jd
 have mv:a.eval (.tmp gt)= .func (.func f) #[] h0.toArray:=by simp [Act.eval,Co,wI]
 refine⟨l,[E0 D],hi,{ target:= .fn (.func f) h0.toArray,args:= #[.func (.yield l) #[] #[]] },hi,f,#[.func (.yield l) #[] #[]] ++ h0.toArray,hi,Cq,?_,fun _ _=>trivial,?_,fun h=>by simp at h,?_⟩
 ·simp only [resolve,mv]
  simp [go_sem]
 ·simp [invoke,go_sem,ej.run]
 ·refine CallsIn.HB ?_
  have IM:(#[.func (.yield l) #[] #[]] ++ h0.toArray:Array Value)=(.func (.yield l) #[] #[] :: h0).toArray:=by simp
  rw [IM]
  refine Bj.mono fun e KC ⟨ab4,eF,he,ba,aC,aU,a1,bk⟩=> ?_
  subst he
  have oX:=Cs.after ba aC (by simpa [aQ] using aU) (by simpa [aQ] using a1)
  rw [List.append_nil] at oX
  cases r with
  | inl b6=>
    simp only [Lr] at oX
    subst qj
    have CO:bx c E (⟨some l,.is (.loop rec)⟩ :: ⟨some D,.dj⟩ :: (Lin ++ Ls b6 eF)) a KC:=oX.perm (by
     exact List.perm_middle.trans (List.perm_middle.cons _))
    obtain⟨o,dh,eZ⟩:=CO.own ⟨some l,.is (.loop rec)⟩ (by simp)
    have p1:o= .loop rec:=eZ
    subst p1
    have n4:=run_endLoop (P:=c.P) dh (by rw [kB]; simp)
    have iV:rec.pending=none:=by rw [kB]
    rw [iV] at n4
    refine⟨none,_,n4,?_⟩
    have sS:=(CO.p0 (i:=0) (cp':= .is (.loop { rec with state:= .exhausted })) (o':= .loop { rec with state:= .exhausted }) rfl rfl).oF 1
    rw [iV] at sS
    exact mL b6 rfl eF D _ _ (sS.mark D)
  | inr q=>
    simp only [Lr] at oX
    subst Cr
    have CO:bx c E (⟨some l,.is (.loop { rec with state:= .done,pending:=some (e4 q) })⟩ :: ⟨some D,.dj⟩ :: (Lin ++ Lx q eF)) a KC:=oX.perm (by
     exact List.perm_middle.trans (List.perm_middle.cons _))
    obtain⟨o,dh,eZ⟩:=CO.own ⟨some l,.is (.loop { rec with state:= .done,pending:=some (e4 q) })⟩ (by simp)
    have p1:o= .loop { rec with state:= .done,pending:=some (e4 q) } :=eZ
    subst p1
    have n4:=run_endLoop (P:=c.P) dh (by simp)
    refine⟨some (e4 q),_,n4,?_⟩
    have sS:=(CO.p0 (i:=0) (cp':= .is (.loop { rec with state:= .exhausted,pending:=some (e4 q) })) (o':= .loop { rec with state:= .exhausted,pending:=some (e4 q) }) rfl rfl).oF 1
    exact vM q rfl eF D _ _ (sS.mark D)
theorem UI {gt p:Nat} {assign body:Code} {f:FuncId} {mQ:List I} {Lin:List aM} {α σ ε γ:Type} {τ:α→I} {run:∀ {σ ε:Type},(α→σ→Option (σ ⊕ ε))→σ→Option (σ ⊕ ε)}
 {Ls:σ→γ→List aM} {Lx:ε→γ→List aM} {step:α→σ→Option (σ ⊕ ε)} {cc:σ} {g0:γ} {r:σ ⊕ ε} (e4:ε→Code)
 (ak:c.rd=none) (ej:bH c.P f) (bs:look E gt=some (.gF f mQ)) (la:AW c.P f mQ Lin τ run) (aR:run step cc=some r) (al:L=Lin ++ Ls cc g0) (hp:Nat.blt p c.n=true)
 (pb:∀ x s r,step x s=some r→ ∀ g (k3:World) (k8 k4:List Nat) (l D:Nat) (rec:Loop),rec.state= .ready→
  ag ⟨c.P,c.n,k3,k8,k4,some l,[]⟩ (Exit.then (CM ⟨c.P,c.n,k3,k8,k4,some l,[]⟩ l body (CL ⟨c.P,c.n,k3,k8,k4,some l,[]⟩ e4 l D { rec with state:= .busy } Ls Lx r)) (fun _ _ _=>False)) assign ((p,τ x) :: E) (⟨some l,.is (.loop rec)⟩ :: ⟨some D,.dj⟩ :: Ls s g))
 (mL:∀ b6,r= .inl b6→ ∀ g D,ae { c with ds:=D :: c.ds } Q .normal E (⟨some D,.dj⟩ :: (Lin ++ Ls b6 g)))
 (vM:∀ q,r= .inr q→ ∀ g D,ag { c with ds:=D :: c.ds } Q (e4 q) E (⟨some D,.dj⟩ :: (Lin ++ Lx q g))):
 ag c Q (.rangeFunc (.tmp gt) #[p] assign body) E L:=
 Mf (run:=run) e4 ak ej bs (fun av aX mX=>la.go (fun s g=>av :: aX :: Ls s g) mX) aR al hp pb mL vM
theorem S0 {P:Program} {fn:Func} {R:Ending→World→Prop} {a:Act} {W:World} (h:bodyPost P fn R .ret a W):bodyPostM Fence.wide 9 P fn R .ret a W:=by
 obtain⟨J,v,ad,aC⟩:=h
 show LeavesInM Fence.wide 9 P fn a.tmps R a.defers .returning W
 rw [J]
 exact⟨v,ad,aC⟩
theorem ae.nd {P:Program} {fn:Func} {R:Ending→World→Prop} (k:ae c (bodyPost P fn R) .ret E L):ae c (bodyPost P fn R) .normal E L:=fun a W s=>k a W s
theorem ae.By {fn:Func} {R:Ending→World→Prop} (k:ae c (bodyPost c.P fn R) .ret E L):ae c (bodyPostM Fence.wide 9 c.P fn R) .ret E L:=fun a W s=>S0 (k a W s)
theorem ae.tL {fn:Func} {R:Ending→World→Prop} {D:Nat} (i:Nat) (al:L[i]? =some ⟨some D,.dj⟩) (hM:c.ds= [D]) (k:ae { c with ds:= [] } (bodyPost c.P fn R) .ret E (L.set i ⟨some D,.is (.deferred none)⟩)):
 ae c (bodyPostM Fence.wide 9 c.P fn R) .ret E L:=fun a W s=>by
 obtain⟨o,J,ad⟩:=s.own _ (List.mem_of_getElem? al)
 have kj:o= .deferred (some []):=ad
 subst kj
 have s2:=s.p0 al (cp':= .is (.deferred none)) (o':= .deferred none) rfl
 have mZ:bx { c with ds:= [] } E (L.set i ⟨some D,.is (.deferred none)⟩) { a with defers:= [] } (W.putObj D (.deferred none)):=
  {defers:=rfl,size:=s2.size,env:=s2.env,dG:=s2.dG,own:=s2.own,nodup:=s2.nodup,lt:=s2.lt,fR:=s2.fR,eW:=s2.eW }
 obtain⟨_,v,aC,aU⟩:=k _ _ mZ
 show LeavesInM Fence.wide 9 c.P fn a.tmps R a.defers .returning W
 rw [s.defers,hM]
 exact⟨by simp,.inl ⟨D,_,rfl,run_takeDeferred J,v,aC,aU⟩⟩
end
theorem bK.Wp {P:Program} {f:FuncId} {fn:Func} {code:Code} {n:Nat} {τs:List I} {ρ:I} (ba:P.funcs[f]? =some fn) (hb:fn.body=some code) (aO:fn.ntmps=n) (hlen:Nat.ble τs.length n=true)
 (h:∀ W A,ag ⟨P,n,W,[],A,none,[]⟩ (bodyPostM Fence.wide 9 P fn fun e W'=> ∃ v,e= .returned v∧Fr [] W W'∧ρ.holds A W' v) code (params 0 τs) []):bK P f τs ρ:=by
 intro A W vs fY a0
 refine(callsIn_wide (n:=9)).1 (callsIn_of_wp_marks ba hb trivial (h W A _ _ ?_))
 have ao:=a0.length
 have hle:τs.length≤n:=Nat.le_of_ble_eq_true hlen
 exact
 {defers:=rfl
  size:=by simp [aO,ao]; omega
  env:=fun t τ kh=>by
   obtain⟨_,v,ad,aC⟩:=uS a0 0 t τ kh
   refine⟨v,?_,aC⟩
   have b5:t < vs.length:=(List.getElem?_eq_some_iff.1 ad).1
   rw [Array.getElem?_append_left (by simpa using b5)]
   simpa using ad
  dG:= .refl _ _
  own:=by simp
  nodup:=by simp [aQ]
  lt:=by simp [aQ]
  fR:=by simp [aQ]
  eW:=fun k ay=>⟨fY k ay,by simp [aQ]⟩ }
theorem bK.ofM {P:Program} {f:FuncId} {fn:Func} {code:Code} {n:Nat} {τs:List I} {ρ:I} (ba:P.funcs[f]? =some fn) (hb:fn.body=some code) (aO:fn.ntmps=n) (hlen:Nat.ble τs.length n=true)
 (h:∀ W A,ag ⟨P,n,W,[],A,none,[]⟩ (bodyPostM Fence.wide 9 P fn (v8 ⟨P,n,W,[],A,none,[]⟩ ρ)) code (params 0 τs) []):bK P f τs ρ:=bK.Wp ba hb aO hlen h
theorem bM.ofM {P:Program} {f:FuncId} {fn:Func} {code:Code} {n:Nat} {τs:List I} {Lin:List aM} {δ:Type} {ρ:δ→I} {Lo:δ→List aM} (ba:P.funcs[f]? =some fn) (hb:fn.body=some code) (aO:fn.ntmps=n) (hlen:Nat.ble τs.length n=true)
 (h:∀ W A,ag ⟨P,n,W,aQ Lin,A,none,[]⟩ (bodyPostM Fence.wide 9 P fn (j9 (aQ Lin) A W ρ Lo)) code (params 0 τs) Lin):bM P f τs Lin ρ Lo:=by
 intro A W vs fY gu b5 hF a0
 refine(callsIn_wide (n:=9)).1 (callsIn_of_wp_marks ba hb trivial (h W A _ _ ?_))
 have ao:=a0.length
 have hle:τs.length≤n:=Nat.le_of_ble_eq_true hlen
 exact
 {defers:=rfl
  size:=by simp [aO,ao]; omega
  env:=fun t τ kh=>by
   obtain⟨_,v,ad,aC⟩:=uS a0 0 t τ kh
   refine⟨v,?_,aC⟩
   have b5:t < vs.length:=(List.getElem?_eq_some_iff.1 ad).1
   rw [Array.getElem?_append_left (by simpa using b5)]
   simpa using ad
  dG:= .refl _ _
  own:=hF
  nodup:=gu
  lt:=b5
  fR:=fun k ay _=>ay
  eW:=fY }
theorem G3 {τ σ:I} (h:τ.Flat) (k:σ.Flat):(I.ed [τ,σ]).Flat:=fun A W c5 W' v ⟨vs,J,ad⟩=>by
 refine⟨vs,J,?_⟩
 generalize vs.toList=l at ad
 cases ad with
 | cons a r=>cases r with
   | cons b r=>cases r; exact .cons (h _ _ _ _ _ a) (.cons (k _ _ _ _ _ b) .nil)
section
variable {c:dd} {E:List (Nat × I)} {L:List aM} {ops:Array Oper} {Q:Exit→Act→World→Prop}
variable {d:Option Tmp} {ty:TypeId} {pos:String} {af:Array Edge} {g:Option (Nat × Bool)} {x y:Operand} {t t2:TypeId}
theorem bS.via {o:Oper} {τ:I} {E':List (Nat × I)} {L':List aM} (ba:τ.Flat) (hs:∀ a W,bx c E L a W→bx c E' L' a W) (h:bS c E' L' o τ):bS c E L o τ:=fun a W st=>by
 have:=h a W (hs a W st)
 unfold gD at this ⊢
 exact Oper.wp_mono (fun gw W' ⟨v,J,ad,aC⟩=>⟨v,J,ad,ba _ _ _ _ _ aC⟩) this
theorem bx.tell {a:Act} {W:World} (s:bx c E L a W) {fo:Nat} {σ τ:I} (ao:look E fo=some σ) (h:∀ v,σ.holds (aQ L ++ c.bT) W v→τ.holds (aQ L ++ c.bT) W v):bx c ((fo,τ) :: E) L a W:=by
 refine { s with env:=fun t mU e1=> ?_ }
 simp only [look] at e1
 by_cases e:Nat.beq fo t=true
 ·rw [e] at e1
  simp only [cond_true,Option.some.injEq] at e1
  subst e1
  have:=eh.1 e
  subst this
  obtain⟨v,J,ad⟩:=s.env fo _ ao
  exact⟨v,J,h v ad⟩
 ·simp only [Bool.not_eq_true] at e
  rw [e] at e1
  exact s.env t mU e1
theorem bx.O6 {a:Act} {W:World} (s:bx c E L a W) {i p:Nat} {α:Type} [ai α] {z:α} (al:L[i]? =some ⟨some p,.var z⟩):
 (I.ptr z).holds (aQ (L.set i ⟨none,.dead⟩) ++ c.bT) W (.pointer (some ⟨p,0,none⟩)):=by
 obtain⟨o,eG,cs,T,rfl,aR⟩:=s.own _ (List.mem_of_getElem? al)
 have hlen:cs.toList.length=ai.size α:=ai.len aR
 refine⟨p,0,cs,T,(0,0),rfl,s.AB al,eG,by simp at hlen; omega,?_⟩
 rw [List.drop_zero,← hlen,List.take_length]
 have kZ:=xA (L:=L) (i:=i) (cp:= .dead)
 exact ai.mono (.drop fun k hm=>by
  rcases List.mem_append.1 hm with hm | hm
  ·exact List.mem_append.2 (.inl (kZ.subset hm))
  ·exact List.mem_append.2 (.inr hm)) aR
abbrev Ct (f p:Nat):Value:= .func (.func f) #[.pointer (some ⟨p,0,none⟩)] #[]
theorem X2 {f p:Nat} (an:a9 c E L x (.eq (.pointer (some ⟨p,0,none⟩)))):bS c E L ⟨d,.makeFunc (.func f) #[x] #[],ty,pos,af,g⟩ (.eq (Ct f p)):= .pure fun a W s=>by
 have h:=an a W s
 refine⟨_,?_,rfl⟩
 have c0:a.eval x= .pointer (some ⟨p,0,none⟩):=h
 simp [execOp,Instr.makeFunc,c0,Ct]
theorem VB {f p:Nat} {α β γ δ:Type} [ai α] [ai β] [ai γ] [ai δ] {z:δ} {F:α→β→Option γ} {P:Program} (ej:bH P f) (h:∀ x y r,F x y=some r→bK P f [.ptr z,.of x,.of y] (.of r)) {A:List Nat} {W:World}
 (hp:(I.ptr z).holds A W (.pointer (some ⟨p,0,none⟩))):(I.q5 P F).holds A W (Ct f p):=
 ⟨f,_,#[],rfl,ej,fun c5 W' e fY x y r oU y4 nz a0 wI=>by simpa using h x y r nz c5 W' [_,oU,y4] fY (.cons (I.mono _ e hp) (.cons a0 (.cons wI .nil)))⟩
theorem bS.IE {o:Oper} {τ σ:I} {p:Nat} {α:Type} [ai α] {z:α} (i fo:Nat) (ao:look E fo=some σ) (a0:∀ A W v,σ.holds A W v→v= .pointer (some ⟨p,0,none⟩)) (al:L[i]? =some ⟨some p,.var z⟩) (ba:τ.Flat)
 (h:bS c ((fo,.ptr z) :: E) (L.set i ⟨none,.dead⟩) o τ):bS c E L o τ:=
 .via ba (fun a W s=>(s.kill i).tell (σ:=σ) ao (fun v b3=>by rw [a0 _ _ _ b3]; exact s.O6 al)) h
theorem bS.Wg {o:Oper} {τ:I} {p f:Nat} {α β γ δ:Type} [ai α] [ai β] [ai γ] [ai δ] {z:δ} {F:α→β→Option γ} (i fo:Nat) (ao:look E fo=some (.eq (Ct f p))) (al:L[i]? =some ⟨some p,.var z⟩) (ej:bH c.P f)
 (nz:∀ x y r,F x y=some r→bK c.P f [.ptr z,.of x,.of y] (.of r)) (ba:τ.Flat) (h:bS c ((fo,.q5 c.P F) :: E) (L.set i ⟨none,.dead⟩) o τ):bS c E L o τ:=
 .via ba (fun a W s=>(s.kill i).tell ao (fun v b3=>by have aaZ:v=Ct f p:=b3; rw [aaZ]; exact VB ej nz (s.O6 al))) h
theorem bS.X1 {o:Oper} {τ:I} {p cap T:Nat} {key:Option Nat} {β γ:Type} [ai β] [ai γ] {b b':β} {xs:List γ} {os os':List (Nat × Value)} (l:aN β (List γ)) (i j q:Nat) (ft:Nat.beq i j=false) (al:L[i]? =some ⟨some p,.b4 b os⟩) (ld:L[j]? =some ⟨key,.row T xs cap⟩)
 (hq:os[q]? =some (l.off,a2 key xs.length cap)) (hb:l.set b xs=b') (kH:nP os l.off=os') (ba:τ.Flat) (h:bS c E ((L.set j ⟨none,.dead⟩).set i ⟨some p,.b4 b' os'⟩) o τ):bS c E L o τ:=
 .via ba (fun a W s=>s.lT l (fun e=>by rw [e,Nat.beq_refl] at ft; cases ft) al ld q hq hb kH) h
theorem bS.Wf {o:Oper} {τ:I} {p cap T:Nat} {key:Option Nat} {β γ:Type} [ai β] [ai γ] {b b':β} {xs:List γ} {os os':List (Nat × Value)} (l:aN β (List γ)) (i j q fo:Nat) (ft:Nat.beq i j=false) (al:L[i]? =some ⟨some p,.b4 b os⟩) (ld:L[j]? =some ⟨key,.row T xs cap⟩)
 (hq:os[q]? =some (l.off,a2 key xs.length cap)) (hb:l.set b xs=b') (kH:nP os l.off=os') (mr:look E fo=some (.eq (a2 key xs.length cap))) (ba:τ.Flat) (h:bS c ((fo,.of xs) :: E) ((L.set j ⟨none,.dead⟩).set i ⟨some p,.b4 b' os'⟩) o τ):bS c E L o τ:=
 .via ba (fun a W s=>s.tC l (fun e=>by rw [e,Nat.beq_refl] at ft; cases ft) al ld q hq hb kH mr) h
theorem bS.OX {o:Oper} {τ:I} {p:Nat} {β:Type} [ai β] {b:β} (i:Nat) (al:L[i]? =some ⟨some p,.b4 b []⟩) (ba:τ.Flat) (h:bS c E (L.set i ⟨some p,.var b⟩) o τ):bS c E L o τ:=
 .via ba (fun a W s=>s.x5 (cp':= .var b) al (fun o ⟨cs,T,J,ad⟩=>⟨cs,T,J,ad.1⟩) id) h
theorem LS {P:Program} {T:TypeId} {e:TypeId} (h:P.underlying T=some (.pointer e)) (p:Addr) (W:World) (n:Nat):(Op.equalIn (n + 1) T (.pointer (some p)) (.pointer none)).run P W= .ok false W:=by
 simp [Op.equalIn,run_underlying h]
theorem En {p:Addr} {e:TypeId} (hu:c.P.underlying t=some (.pointer e)) (an:a9 c E L x (.eq (.pointer (some p)))):bS c E L ⟨d,.binOp .eql t x (.const (.pointer none)) t2,ty,pos,af,g⟩ (.of false):= .pure fun a W s=>by
 have aO:a.eval (.const (.pointer none))= .pointer none:=rfl
 have J:a.eval x= .pointer (some p):=an a W s
 refine⟨.bool false,?_,of_bool.2 rfl⟩
 simp only [execOp,eqGuard,binOp,J,aO,Op.equal,Op.maxDepth]
 simp [LS hu p W 9999]
theorem Vl {γ:Type} [ai γ] {r:γ} {e:TypeId} (hu:c.P.underlying t=some (.pointer e)) (an:a9 c E L x (.ptr r)):bS c E L ⟨d,.binOp .eql t x (.const (.pointer none)) t2,ty,pos,af,g⟩ (.of false):= .pure fun a W s=>by
 have aO:a.eval (.const (.pointer none))= .pointer none:=rfl
 obtain⟨b,off,cur,T,gX,J,_⟩:=an a W s
 refine⟨.bool false,?_,of_bool.2 rfl⟩
 simp only [execOp,eqGuard,binOp,J,aO,Op.equal,Op.maxDepth]
 simp [LS hu _ W 9999]
theorem ag.bz {code:Code} (i:Nat) {e:aM} (h:L[i]? =Option.some e) (k:ag c Q code E (e :: L.eraseIdx i)):ag c Q code E L:=fun a W s=>k a W (s.bz h)
theorem ag.Fh {z:Code} {p:Nat} {β γ:Type} [ai β] [ai γ] {b b':β} {os:List (Nat × Value)} {u:Value} (l:aN β (List γ)) (i q:Nat) (al:L[i]? =Option.some ⟨Option.some p,.b4 b os⟩) (hq:os[q]? =Option.some (l.off,u)) (hb:l.set b []=b')
 (k:ag c Q z E (L.set i ⟨Option.some p,.b4 b' os⟩)):ag c Q z E L:=fun a W s=>
 k a W (s.again (cp':= .b4 b' os) al (fun A W o ⟨cs,T,J,ad⟩=>⟨cs,T,J,hb ▸ Hk l ad (List.mem_of_getElem? hq)⟩) id)
theorem Vd {p:Option Addr} :∀ A W v,(I.eq (.pointer p)).holds A W v→v.oneCell'=true:=fun A W v h=>by
 have c0:v= .pointer p:=h
 rw [c0]; rfl
def fG (c:dd) (E:List (Nat × I)) (L:List aM) (o:Oper) (τ:I):Prop:=
 ∀ a W,bx c E L a W→gD c.P o a W fun v W'=>bx c E L a W'∧τ.holds (aQ L ++ c.bT) W' v
theorem ah.iM {o:Oper} {rest:List Oper} {d:Nat} {τ:I} (h:fG c E L o τ) (bs:o.guard=none) (hd:o.dst=some d) (aO:Nat.blt d c.n=true)
 (k:ah c ops Q rest ((d,τ) :: E) L):ah c ops Q (o :: rest) E L:=fun a W s=>
 hy bs (h a W s) fun v W' ⟨f,a0⟩=>by
  rw [hd]
  exact k _ _ (f.put (by simpa using aO) a0)
theorem ah.FX {o:Oper} {rest:List Oper} {d j g:Nat} {b want:Bool} {τ:I} (h:b=want→fG c E L o τ) (bs:o.guard=some (j,want)) (aH:(ops[j]?).bind (·.dst)=some g)
 (ao:look E g=some (.of b)) (hd:o.dst=some d) (aO:Nat.blt d c.n=true)
 (k:ah c ops Q rest ((d,.cond (b=want) τ) :: E) L):ah c ops Q (o :: rest) E L:=fun a W s=>by
 have a5:=xL aH ao s
 unfold dd.pq wpListIn
 by_cases hb:b=want
 ·rw [if_pos (by simp [Region.wanted,bs,a5,hb])]
  refine((h hb a W s).wpIn fun v W' ⟨f,a0⟩=> ?_)
  rw [hd]
  exact k _ _ (f.put (by simpa using aO) ⟨fun _=>a0,fun h=>absurd hb h⟩)
 ·rw [if_neg (by simp [Region.wanted,bs,a5,hb])]
  rw [hd]
  exact⟨fun _ _=>trivial,k _ _ (s.put (by simpa using aO) ⟨fun h=>absurd h hb,fun _=>rfl⟩)⟩
def pj (L:List aM):List Nat→List aM→Prop
 | [],[]=>True
 | i :: is,e :: es=>L[i]? =some e∧pj L is es
 | _,_=>False
theorem LA {L:List aM} {i j:Nat} (h:i≠j):(L.eraseIdx i)[if j < i then j else j - 1]? =L[j]? :=by
 rw [List.getElem?_eraseIdx]
 by_cases J:j < i
 ·simp [J]
 ·have: ¬ (j - 1 < i):=by omega
  simp only [J,if_false,this]
  congr 1; omega
theorem pj.shift {L:List aM} {i:Nat} :∀ {is:List Nat} {es:List aM},pj L is es→i ∉ is→pj (L.eraseIdx i) (is.map fun j=>if j < i then j else j - 1) es
 | [],[],_,_=>trivial
 | j :: is,e :: es,⟨J,ad⟩,aO=>by
   simp only [List.mem_cons,not_or] at aO
   exact⟨by rw [LA aO.1]; exact J,pj.shift ad aO.2⟩
theorem LF {i:Nat} :∀ {is:List Nat},is.Nodup→i ∉ is→ (is.map fun j=>if j < i then j else j - 1).Nodup
 | [],_,_=>by simp
 | j :: is,h,aO=>by
   simp only [List.mem_cons,not_or] at aO
   obtain⟨J,ad⟩:=List.nodup_cons.1 h
   refine List.nodup_cons.2 ⟨fun hm=> ?_,LF ad aO.2⟩
   obtain⟨k,ay,he⟩:=List.mem_map.1 hm
   have ps:k≠i:=fun e=>aO.2 (e ▸ ay)
   have acM:k≠j:=fun e=>J (e ▸ ay)
   have g5:j≠i:=fun e=>aO.1 e.symm
   have Fw:(if k < i then k else k - 1)=(if j < i then j else j - 1):=he
   split at Fw <;> split at Fw <;> omega
theorem pj.perm:∀ {is:List Nat} {es L:List aM},pj L is es→is.Nodup→ ∃ R,L.Perm (es ++ R)
 | [],[],L,_,_=>⟨L,List.Perm.refl _⟩
 | i :: is,e :: es,L,⟨J,ad⟩,aO=>by
   obtain⟨nv,oO⟩:=List.nodup_cons.1 aO
   obtain⟨R,jr⟩:=(ad.shift nv).perm (LF oO nv)
   exact⟨R,(tc J).trans (jr.cons e)⟩
 termination_by is=>is.length
 decreasing_by simp
theorem fG.call {f:FuncId} {xs:List Operand} {ats:Array TypeId} {τs:List I} {Lin:List aM} {ρ:Unit→I} {Lo:Unit→List aM} (is:List Nat) (ej:bH c.P f) (h:bM c.P f τs Lin ρ Lo)
 (an:hJ c E L xs τs) (aO:decide is.Nodup=true) (hp:pj L is Lin) (ao:Lo ()=Lin):fG c E L ⟨d,.call ⟨.value (.func f),xs.toArray,ats⟩,ty,pos,af,g⟩ (ρ ()):=fun a W s=>by
 obtain⟨R,jr⟩:=hp.perm (of_decide_eq_true aO)
 have b6:=s.perm jr
 have yQ:=vc jr
 have FD:∀ k,k∈aQ L ++ c.bT↔k∈aQ (Lin ++ R) ++ c.bT:=fun k=>by
  simp only [List.mem_append]; rw [yQ.mem_iff]
 have b3:gB (aQ (Lin ++ R) ++ c.bT) W τs (xs.map a.eval):=(an.NQ s).mono (.drop fun k hm=>(FD k).2 hm)
 have bb:=Al (d:=d) (ty:=ty) (pos:=pos) (af:=af) (g:=g) (ats:=ats) ej h b6 b3
 unfold gD at bb ⊢
 refine Oper.wp_mono (fun gw W' ⟨v,J,a7,ad,aC⟩=>⟨v,J,?_,?_⟩) bb
 ·cases a7; rw [ao] at ad; exact ad.perm jr.symm
 ·cases a7
  rw [ao] at aC
  exact I.mono _ (.drop fun k hm=>(FD k).1 hm) aC
theorem pj.set {L:List aM} {i j:Nat} {x y av aX:aM} (ft:i≠j) (au:L[i]? =some av) (aH:L[j]? =some aX):∃ R,L.Perm (av :: aX :: R)∧ ((L.set i x).set j y).Perm (x :: y :: R):=by
 have Jx:pj L [i,j] [av,aX]:=⟨au,aH,trivial⟩
 have hle:∀ M:List aM,∀ u v:aM,M[i]? =some u→M[j]? =some v→M.Perm (u :: v :: (M.eraseIdx i).eraseIdx (if j < i then j else j - 1)):=fun M u v J ad=>
  (tc J).trans ((tc (by rw [LA ft]; exact ad)).cons u)
 refine⟨_,hle L av aX au aH,?_⟩
 have gR:=(List.getElem?_eq_some_iff.1 au).1
 have wJ:=(List.getElem?_eq_some_iff.1 aH).1
 have J:=hle ((L.set i x).set j y) x y (by rw [List.getElem?_set_ne (Ne.symm ft),List.getElem?_set_self gR]) (by rw [List.getElem?_set_self (by simpa using wJ)])
 have ad:((L.set i x).set j y).eraseIdx i=(L.eraseIdx i).set (if j < i then j else j - 1) y:=by
  apply List.ext_getElem?
  intro k
  simp only [List.getElem?_eraseIdx,List.getElem?_set,List.length_set,List.length_eraseIdx,gR,if_true]
  by_cases ay:k < i <;> by_cases g5:j < i <;> simp only [ay,g5,if_true,if_false] <;> (repeat' split) <;> first | rfl | omega | skip
 rw [ad,List.eraseIdx_set_eq] at J
 exact J
theorem ah.Wh {rest:List Oper} {a7:Nat} {f:FuncId} {xs:List Operand} {ats:Array TypeId} {τs:List I} {av aX:aM} {δ:Type} {ρ:δ→I} {Lo:δ→List aM} (lo:δ→aM) (i j:Nat) (ej:bH c.P f) (h:bM c.P f τs [av,aX] ρ Lo)
 (an:hJ c E L xs τs) (ft:Nat.beq i j=false) (au:L[i]? =some av) (aH:L[j]? =some aX) (fU:∀ q,Lo q= [lo q]) (aO:Nat.blt a7 c.n=true) (k:∀ q,ah c ops Q rest ((a7,ρ q) :: E) ((L.set i (lo q)).set j ⟨none,.dead⟩)):
 ah c ops Q (⟨some a7,.call ⟨.value (.func f),xs.toArray,ats⟩,ty,pos,af,none⟩ :: rest) E L:=fun a W s=>by
 have c6:i≠j:=fun e=>by rw [e,Nat.beq_refl] at ft; cases ft
 obtain⟨R,jr,_⟩:=pj.set (x:=av) (y:=aX) c6 au aH
 have b6:=s.perm jr
 have yQ:=vc jr
 have FD:∀ k,k∈aQ L ++ c.bT↔k∈aQ ([av,aX] ++ R) ++ c.bT:=fun k=>by
  simp only [List.mem_append]; rw [yQ.mem_iff]; simp [eS]
 have b3:gB (aQ ([av,aX] ++ R) ++ c.bT) W τs (xs.map a.eval):=(an.NQ s).mono (.drop fun k hm=>(FD k).2 hm)
 refine hy rfl (Al (Lin:= [av,aX]) ej h b6 b3) fun v W' ⟨q,ad,aC⟩=> ?_
 refine k q _ _ ?_
 obtain⟨F1,aa0,Qo⟩:=pj.set (x:=lo q) (y:=⟨none,.dead⟩) c6 au aH
 have aa1:(av :: aX :: R).Perm (av :: aX :: F1):=jr.symm.trans aa0
 have PU:R.Perm F1:=(aa1.cons_inv).cons_inv
 rw [fU] at ad aC
 have aU:bx c E (lo q :: ⟨none,.dead⟩ :: R) a W':= { ad with
  own:=fun e he=>by
   simp only [List.mem_cons] at he
   rcases he with rfl | rfl | he
   ·exact ad.own _ (by simp)
   ·trivial
   ·exact ad.own _ (by simp [he]) }
 have a1:bx c E ((L.set i (lo q)).set j ⟨none,.dead⟩) a W':=aU.perm (((PU.cons _).cons _).trans Qo.symm)
 have bk:(aQ ((L.set i (lo q)).set j ⟨none,.dead⟩)).Perm (aQ (lo q :: R)):=by
  have:=vc (Qo.trans ((PU.symm.cons _).cons _))
  simpa [aQ] using this
 refine a1.put (by simpa using aO) (I.mono _ (.drop fun k hm=> ?_) aC)
 rcases List.mem_append.1 hm with hm | hm
 ·exact List.mem_append.2 (.inl (bk.mem_iff.1 hm))
 ·exact List.mem_append.2 (.inr hm)
theorem Jr {L:List aM} {i:Nat} {x e:aM} (h:L[i]? =some x):(L.set i e)[i]? =some e:=by
 rw [List.getElem?_set_self (List.getElem?_eq_some_iff.1 h).1]
theorem P8 {L:List aM} {i j:Nat} {r:Option aM} {e:aM} (aO:Nat.beq j i=false) (h:L[i]? =r):(L.set j e)[i]? =r:=by
 rw [List.getElem?_set_ne (fun e=>by rw [e,Nat.beq_refl] at aO; cases aO)]; exact h
theorem US {p lo cap:Nat} {α:Type} [ai α] (a5:a9 c E L y (.eq (hQ (some p) lo 0 cap (ai.size α)))):Src c E L y 0 ([]:List α):=fun a W s=>by
 have J:a.eval y=_:=a5 a W s
 have ak:=run_loadCells_list (P:=c.P) W (if cap=lo then(⟨p,0,none⟩:Addr) else⟨p,lo * ai.size α,none⟩) [] (fun j v a0=>by simp at a0)
 refine⟨by rw [J]; rfl,[],?_,⟨by simp,fun i au=>by simp at au⟩,by simp⟩
 rw [J]
 simp only [hQ,Builtin.firstCells,List.length_nil,Nat.zero_mul]
 exact ak
theorem ah.O7 {rest:List Oper} {i e p a7 m N cap T:Nat} {α:Type} [ai α] {xs vs r:List α} (hu:c.P.underlying t=some (.slice e)) (eJ:bw c.P e α)
 (an:a9 c E L x (.eq (a2 (some p) m cap))) (a5:Src c E L y N vs) (kM:vs.length=N) (al:L[i]? =some ⟨some p,.row T xs cap⟩) (hm:m + N≤xs.length) (aR:xs.take m ++ vs ++ xs.drop (m + N)=r) (aO:Nat.blt a7 c.n=true)
 (k:ah c ops Q rest ((a7,.eq (a2 (some p) (m + N) cap)) :: E) (L.set i ⟨some p,.row T r cap⟩)):
 ah c ops Q (⟨some a7,.call ⟨.builtin .append,#[x,y],#[t,t]⟩,ty,pos,af,none⟩ :: rest) E L:=fun a W s=>by
 subst kM
 subst aR
 have J:a.eval x=_:=an a W s
 obtain⟨ao,cells,ak,oM,yK⟩:=a5 a W s
 obtain⟨o,bb,b3⟩:=s.own _ (List.mem_of_getElem? al)
 have aa2:=b3
 obtain⟨rf,rfl,aq,bd,bN,dq⟩:=b3
 obtain⟨cs,eZ,E6,v7⟩:=He (lo:=m) hm aa2 oM
 have ue:cs=rf:=by injection eZ with h _; exact h.symm
 subst ue
 obtain⟨fZ,eo,eE⟩:=eJ.info
 have ki:=run_storeCells_at (P:=c.P) p (m * ai.size α) T cells 0 cs W bb E6 yK
 simp only [Nat.add_zero] at ki
 have Yl:m + vs.length≤cap:=by omega
 have h5:(execOp a.eval ⟨some a7,.call ⟨.builtin .append,#[x,y],#[t,t]⟩,ty,pos,af,none⟩).run c.P W= .ok (.value (a2 (some p) (m + vs.length) cap)) (W.setRow p (cs.toList.take (m * ai.size α) ++ cells ++ cs.toList.drop (m * ai.size α + cells.length)).toArray):=by
  simp [execOp,resolve,invoke,builtin,Builtin.append_,J,a2,run_underlying hu,ao,Go.sizeOf,typeInfo,eo,eE,Yl,ak,jb,ki]
 refine hy rfl (R:=fun v hi=>v=a2 (some p) (m + vs.length) cap∧hi=W.setRow p (cs.toList.take (m * ai.size α) ++ cells ++ cs.toList.drop (m * ai.size α + cells.length)).toArray) (.kx h5 ⟨rfl,rfl⟩) fun v hi ⟨a0,hw⟩=> ?_
 subst a0
 subst hw
 exact k _ _ ((s.store al bb v7).put (by simpa using aO) rfl)
theorem UA {i T cap:Nat} {key:Option Nat} {α:Type} [ai α] {xs:List α} {e:TypeId} {lo au KD:Operand} {m n k:Nat} (hu:c.P.underlying t=some (.slice e)) (eJ:bw c.P e α) (an:a9 c E L x (.eq (a2 key xs.length cap)))
 (al:L[i]? =some ⟨key,.row T xs cap⟩) (fU:a9 c E L lo (.of (m:Int))) (dr:a9 c E L au (.of (n:Int))) (aa3:a9 c E L KD (.of (k:Int))) (h:m≤n∧n≤k∧k≤xs.length):
 bS c E L ⟨d,.slice t x (some lo) (some au) (some KD),ty,pos,af,g⟩ .any:= .pure fun a W s=>by
 obtain⟨ad,aC,aU⟩:=h
 obtain⟨fZ,eo,eE⟩:=eJ.info
 have J:a.eval x=_:=an a W s
 have av:=of_int.1 (fU a W s)
 have aX:=of_int.1 (dr a W s)
 have c4:=of_int.1 (aa3 a W s)
 have tJ:∃ m1 sQ,a2 key xs.length cap= .slice m1 sQ cap∨ (a2 key xs.length cap= .slice none 0 0∧k=0):=by
  cases key with
  | some p=>exact⟨_,_,.inl rfl⟩
  | none=>
    have bb:=s.own _ (List.mem_of_getElem? al)
    have hE:xs= []:=bb.1
    subst hE
    exact⟨none,0,.inr ⟨rfl,by simpa using aU⟩⟩
 have aa4:xs.length≤cap∨key=none:=by
  cases key with
  | none=>exact .inr rfl
  | some p=>
    obtain⟨o,bb,cs,rfl,aq,bd,_⟩:=s.own _ (List.mem_of_getElem? al)
    exact .inl bd
 cases key with
 | none=>
   have bb:=s.own _ (List.mem_of_getElem? al)
   have hE:xs= []:=bb.1
   subst hE
   have aa5:k=0:=by simpa using aU
   subst aa5
   have ra:n=0:=by omega
   subst ra
   have gI:m=0:=by omega
   subst gI
   have hb:∀ (code:BoundsCode),(Instr.sliceBound (.int .i64 0) 0 code).run c.P W= .ok 0 W:=fun code=>o3 (n:=0) (m:=0) (Nat.le_refl _) rfl
   have aa6:a.eval lo= .int .i64 0:=av
   have aa7:a.eval au= .int .i64 0:=aX
   have aa8:a.eval KD= .int .i64 0:=c4
   refine⟨.slice none 0 0,?_,trivial⟩
   simp [execOp,Instr.sliceAt,Instr.slice,Instr.sliceBounds,J,a2,run_underlying hu,Go.sizeOf,typeInfo,eo,aa6,aa7,aa8,hb]
 | some p=>
   have Z6:k≤cap:=by
    rcases aa4 with h | h
    ·omega
    ·cases h
   refine⟨.slice (some (if k=m then⟨p,0,none⟩ else⟨p,m * ai.size α,none⟩)) (n - m) (k - m),?_,trivial⟩
   have hb:∀ (a b:Nat) (code:BoundsCode),a≤b→ (Instr.sliceBound (.int .i64 (a:Int)) b code).run c.P W= .ok a W:=fun a b code h=>o3 h rfl
   simp [execOp,Instr.sliceAt,Instr.slice,Instr.sliceBounds,J,a2,run_underlying hu,Go.sizeOf,typeInfo,eo,eE,av,aX,c4,hb k cap _ Z6,hb n k _ aC,hb m n _ ad,jb]
   split <;> rfl
theorem V2 {p n cap e:Nat} (hu:c.P.underlying t=some (.slice e)) (an:a9 c E L x (.eq (a2 (some p) n cap))):bS c E L ⟨d,.call ⟨.builtin .len,#[x],#[t]⟩,ty,pos,af,g⟩ (.of (n:Int)):= .pure fun a W s=>by
 have J:a.eval x=_:=an a W s
 refine⟨.int .i64 n,?_,of_int.2 rfl⟩
 simp [execOp,resolve,invoke,builtin,Builtin.len_,J,a2,run_underlying hu,goInt]
theorem ah.V1 {rest:List Oper} {i e p a7 m n cap T:Nat} {α:Type} [ai α] {xs:List α} (hu:c.P.underlying t=some (.slice e)) (eJ:bw c.P e α)
 (an:a9 c E L x (.eq (hQ (some p) 0 (m - 0) cap (ai.size α)))) (a5:a9 c E L y (.eq (hQ (some p) n (xs.length - n) cap (ai.size α)))) (al:L[i]? =some ⟨some p,.row T xs cap⟩) (q6:m < n) (aO:n≤xs.length) (hd:Nat.blt a7 c.n=true)
 (k:ah c ops Q rest ((a7,.eq (a2 (some p) (m + (xs.length - n)) cap)) :: E) (L.set i ⟨some p,.row T (xs.take m ++ xs.drop n ++ xs.drop (m + (xs.length - n))) cap⟩)):
 ah c ops Q (⟨some a7,.call ⟨.builtin .append,#[x,y],#[t,t]⟩,ty,pos,af,none⟩ :: rest) E L:=by
 have l0:a9 c E L x (.eq (a2 (some p) m cap)):=by
  rw [Ao,Nat.sub_zero] at an; exact an
 rcases Nat.lt_or_ge n xs.length with re | re
 ·have hs:=D8 (k:=xs.length - n) a5 al (by omega) (by omega)
  rw [show(xs.drop n).take (xs.length - n)=xs.drop n by rw [List.take_of_length_le (by simp)]] at hs
  exact ah.O7 hu eJ l0 hs (by simp) al (by omega) rfl hd k
 ·have bI:xs.length - n=0:=by omega
  rw [bI] at a5 k
  have hs:=US (α:=α) a5
  rw [show([]:List α)=xs.drop n by rw [List.drop_of_length_le re]] at hs
  exact ah.O7 hu eJ l0 hs (by simp; omega) al (by omega) rfl hd k
theorem ae.again {z:Exit} {key:Option Nat} {cp:dB} (cp':dB) (i:Nat) (al:L[i]? =some ⟨key,cp⟩) (h:∀ A W o,cp.holds A W o→cp'.holds A W o) (aO:cp.mJ→cp'.mJ) (k:ae c Q z E (L.set i ⟨key,cp'⟩)):ae c Q z E L:=fun a W s=>
 k a W (s.again al h aO)
end
def BA {α:Type} (xs:List α) (i j:Int):Option (List α):=if 0≤i∧i≤j∧j≤xs.length then some (xs.take i.toNat ++ xs.drop j.toNat) else none
theorem TQ {α:Type} {xs r:List α} {i j:Int} (h:BA xs i j=some r):∃ m n:Nat,i=m∧j=n∧m≤n∧n≤xs.length∧r=xs.take m ++ xs.drop n:=by
 unfold BA at h
 split at h
 ·rename_i ak
  refine⟨i.toNat,j.toNat,by omega,by omega,by omega,by omega,?_⟩
  cases h; rfl
 ·cases h
abbrev ax (α:Type):=(α→Prop)→Prop
def ax.of {α:Type} (o:Option α):ax α:=fun Q=> ∃ r,o=some r∧Q r
def ax.bind {α β:Type} (m:ax α) (k:α→ax β):ax β:=fun Q=>m fun r=>k r Q
def ax.ret {α:Type} (x:α):ax α:=fun Q=>Q x
def nb {σ ε:Type} :Nat→ (σ→ax (σ ⊕ ε))→σ→ax ε
 | 0,_,_=>fun _=>False
 | n + 1,b,s=>fun Q=>b s fun r=>match r with
   | .inl b6=>nb n b b6 Q
   | .inr e=>Q e
abbrev aS (bU:Type):=List (Nat × bU)
abbrev Ref:=Option Nat
instance acm:ai Ref:= .scalar (fun x=>Value.pointer (x.map fun p=>⟨p,0,none⟩)) fun _=>rfl
theorem tv {A W v} {x:Ref} :(I.of x).holds A W v↔v= .pointer (x.map fun p=>⟨p,0,none⟩):=
 ⟨fun h=>oq h.1 h.2,fun h=>by subst h; exact⟨rfl,rfl⟩⟩
instance:bg Ref:=⟨[.pointer none],fun _ _=>rfl⟩
def ax.mk {bU:Type} (hp:aS bU) (k:bU):ax (Nat × aS bU):=fun Q=> ∀ a:Nat × aS bU,a.1 ∉ hp.map (·.1)∧a.2=(a.1,k) :: hp→Q a
theorem ax.tg {bU α:Type} {hp:aS bU} {c:bU} {k:Nat × aS bU→ax α} {R:α→Prop} (h:ax.bind (ax.mk hp c) k R) (a:Nat × aS bU) (bj:a.1 ∉ hp.map (·.1)∧a.2=(a.1,c) :: hp):k a R:=h a bj
class eY (bU:Type) where
 hB:Nat→bU→List aM
 root:∀ p k,∃ e∈hB p k,e.key=some p
def aV {bU:Type} [eY bU]:aS bU→List aM
 | []=> []
 | (p,k) :: r=>eY.hB p k ++ aV r
def pat {bU:Type} :aS bU→Nat→Option bU
 | [],_=>none
 | (q,k) :: r,p=>if q=p then some k else pat r p
def df {bU:Type} :aS bU→Nat→bU→aS bU
 | [],_,_=> []
 | (q,k) :: r,p,k'=>if q=p then(q,k') :: r else(q,k) :: df r p k'
def eN {bU:Type} (hp:aS bU):List Nat:=hp.map (·.1)
theorem uX {bU:Type} [eY bU]:∀ {hp:aS bU} {p:Nat} {k:bU},pat hp p=some k→ ∃ R,(aV hp).Perm (eY.hB p k ++ R)∧ ∀ k',(aV (df hp p k')).Perm (eY.hB p k' ++ R)
 | [],_,_,h=>by simp [pat] at h
 | (q,sT) :: r,p,k,h=>by
   simp only [pat] at h
   split at h
   ·rename_i e
    subst e
    simp only [Option.some.injEq] at h
    subst h
    exact⟨aV r,.refl _,fun k'=>by simp only [df,if_pos]; exact .refl _⟩
   ·rename_i e
    obtain⟨R,J,ad⟩:=uX h
    refine⟨eY.hB q sT ++ R,?_,fun k'=> ?_⟩
    ·exact(J.append_left (eY.hB q sT)).trans (by rw [← List.append_assoc,← List.append_assoc]; exact List.perm_append_comm.append_right R)
    ·simp only [df,if_neg e]
     exact((ad k').append_left (eY.hB q sT)).trans (by rw [← List.append_assoc,← List.append_assoc]; exact List.perm_append_comm.append_right R)
theorem NS {bU:Type} [eY bU] {hp:aS bU} {p:Nat} (h:p∈eN hp):p∈aQ (aV hp):=by
 induction hp with
 | nil=>simp [eN] at h
 | cons x r bJ=>
   obtain⟨q,k⟩:=x
   simp only [eN,List.map_cons,List.mem_cons] at h
   simp only [aV,eS,List.mem_append]
   rcases h with h | h
   ·subst h
    obtain⟨e,he,ay⟩:=eY.root p k
    exact .inl (ln.2 ⟨e,he,ay⟩)
   ·exact .inr (bJ h)
theorem kS {bU:Type} {hp:aS bU} {p:Nat} {k:bU} (h:pat hp p=some k):p∈eN hp:=by
 induction hp with
 | nil=>simp [pat] at h
 | cons x r bJ=>
   simp only [pat] at h
   split at h
   ·rename_i e; simp [eN,e]
   ·simp only [eN,List.map_cons,List.mem_cons]; exact .inr (bJ h)
theorem vd {bU:Type} {hp:aS bU} {p:Nat} {k:bU} :eN (df hp p k)=eN hp:=by
 induction hp with
 | nil=>rfl
 | cons x r bJ=>simp only [df]; split <;> simp_all [eN]
theorem AO {bU:Type} {hp:aS bU} {p q:Nat} {k:bU} :pat (df hp p k) q=if p=q then(pat hp p).map (fun _=>k) else pat hp q:=by
 induction hp with
 | nil=>simp [df,pat]
 | cons x r bJ=>
   simp only [df]
   by_cases e:x.1=p
   ·rw [if_pos e]
    by_cases h:p=q
    ·simp [pat,e,h]
    ·have: ¬ x.1=q:=fun c0=>h (e ▸ c0)
     simp [pat,e,h]
   ·rw [if_neg e]
    by_cases h:p=q
    ·subst h
     rw [if_pos rfl] at bJ ⊢
     simp [pat,e,bJ]
    ·rw [if_neg h] at bJ ⊢
     simp [pat,bJ]
section
variable {c:dd} {E:List (Nat × I)} {L:List aM} {ops:Array Oper} {Q:Exit→Act→World→Prop}
variable {d:Option Tmp} {ty:TypeId} {pos:String} {af:Array Edge} {g:Option (Nat × Bool)} {x y:Operand} {t t2:TypeId}
theorem UT {L L':List aM} (p:L.Perm L') {A:List Nat} (k:Nat):k∈aQ L ++ A↔k∈aQ L' ++ A:=by
 simp only [List.mem_append]; rw [(vc p).mem_iff]
theorem m6 {L L':List aM} (p:L.Perm L') {A:List Nat} {W:World} :Ext (aQ L ++ A) W (aQ L' ++ A) W:= .drop fun k hm=>(UT p k).2 hm
theorem a9.perm {L':List aM} {x:Operand} {τ:I} (p:L.Perm L') (h:a9 c E L x τ):a9 c E L' x τ:=fun a W s=>
 τ.mono (m6 p) (h a W (s.perm p.symm))
theorem bS.perm {L':List aM} {o:Oper} {τ:I} (p:L.Perm L') (h:bS c E L o τ):bS c E L' o τ:=fun a W s=>by
 have:=h a W (s.perm p.symm)
 unfold gD at this ⊢
 exact Oper.wp_mono (fun gw W' ⟨v,J,ad,aC⟩=>⟨v,J,ad,τ.mono (m6 p) aC⟩) this
theorem ah.perm {l:List Oper} {L':List aM} (p:L.Perm L') (h:ah c ops Q l E L):ah c ops Q l E L':=fun a W s=>h a W (s.perm p.symm)
theorem eg {x:Operand} {r:Ref} {p:Nat} (an:a9 c E L x (.of r)) (h:r=some p):a9 c E L x (.eq (.pointer (some ⟨p,0,none⟩))):=fun a W s=>by
 subst h
 exact tv.1 (an a W s)
theorem qE:a9 c E L (.const (.pointer none)) (.of (none:Ref)):=fun a W s=>tv.2 rfl
variable {bU:Type} [eY bU] {hp:aS bU} {loc:List aM}
theorem eM {p n:Nat} {k:bU} {e:aM} (al:L.drop n=aV hp) (h:pat hp p=some k) (ay:eY.hB p k= [e]):e∈L:=by
 obtain⟨R,J,_⟩:=uX h
 rw [ay] at J
 have:e∈L.drop n:=by rw [al]; exact J.mem_iff.2 (by simp)
 exact List.mem_of_mem_drop this
theorem kc {L':List aM} {e:aM} (al:∀ (i:Nat) (e:aM),L[i]? =some e→L'[i]? =some e) (h:e∈L):e∈L':=by
 obtain⟨i,au⟩:=List.mem_iff_getElem?.1 h
 exact List.mem_of_getElem? (al i e au)
theorem fA {x:Operand} {t:TypeId} {p o:Nat} {β γ:Type} [ai β] [ai γ] {b:β} (l:aN β γ) {r:γ} (eI:bw c.P t γ) (an:a9 c E L x (.eq (.pointer (some ⟨p,o,none⟩))))
 (hm:(⟨some p,.var b⟩:aM)∈L) (bb:o=l.off) (aR:l.get b=r):bS c E L ⟨d,.load t x,ty,pos,af,g⟩ (.of r):=by
 obtain⟨i,au⟩:=List.mem_iff_getElem?.1 hm
 exact eA (i:=i) l eI an au bb aR
theorem ah.VC {x y:Operand} {t:TypeId} {rest:List Oper} {p o:Nat} {k k':bU} {β γ:Type} [ai β] [ai γ] {b b':β} {v:γ} (l:aN β γ) (eI:bw c.P t γ) (an:a9 c E (loc ++ aV hp) x (.eq (.pointer (some ⟨p,o,none⟩))))
 (a5:a9 c E (loc ++ aV hp) y (.of v)) (hp':pat hp p=some k) (ay:eY.hB p k= [⟨some p,.var b⟩]) (iT:eY.hB p k'= [⟨some p,.var b'⟩]) (bb:o=l.off) (hb:l.set b v=b')
 (m0:ah c ops Q rest E (loc ++ aV (df hp p k'))):ah c ops Q (⟨none,.store t x y,ty,pos,af,none⟩ :: rest) E (loc ++ aV hp):=by
 obtain⟨R,J,ad⟩:=uX hp'
 have ad:=ad k'
 rw [ay] at J
 rw [iT] at ad
 have de:∀ {z:β} {M:List aM},M.Perm ([⟨some p,.var z⟩] ++ R)→ (loc ++ M).Perm (⟨some p,.var z⟩ :: (loc ++ R)):=fun h=>(h.append_left loc).trans (by simp only [List.singleton_append]; exact List.perm_middle)
 exact ah.perm (de J).symm (ah.store (i:=0) l eI (an.perm (de J)) (a5.perm (de J)) rfl bb hb (ah.perm (de ad) m0))
theorem ah.nQ {x y:Operand} {t:TypeId} {rest:List Oper} {p o:Nat} {k k':bU} {cO:aS bU} {β γ:Type} [ai β] [ai γ] {b b':β} {v:γ} (n:Nat) (al:L.drop n=aV hp) (l:aN β γ) (eI:bw c.P t γ) (an:a9 c E L x (.eq (.pointer (some ⟨p,o,none⟩)))) (a5:a9 c E L y (.of v)) (hp':pat hp p=some k) (ay:eY.hB p k= [⟨some p,.var b⟩]) (iT:eY.hB p k'= [⟨some p,.var b'⟩]) (bb:o=l.off) (hb:l.set b v=b') (db:df hp p k'=cO) (m0:ah c ops Q rest E (L.take n ++ aV cO)):ah c ops Q (⟨none,.store t x y,ty,pos,af,none⟩ :: rest) E L:=by
 subst db
 have e:L=L.take n ++ aV hp:=by rw [← al,List.take_append_drop]
 clear al
 generalize L.take n=loc at *
 subst e
 exact ah.VC l eI an a5 hp' ay iT bb hb m0
theorem bx.fresh {a:Act} {W:World} (s:bx c E (loc ++ aV hp) a W):W.heap.size ∉ eN hp:=fun h=>by
 have:=s.lt _ (by rw [eS]; exact List.mem_append.2 (.inr (NS h)))
 omega
theorem ah.Ym {t:TypeId} {x:Operand} {rest:List Oper} {a7:Nat} {α:Type} [ai α] {z:α} (mk:bU) (ay:∀ p,eY.hB p mk= [⟨some p,.var z⟩]) (an:a9 c E (loc ++ aV hp) x (.of z)) (aO:Nat.blt a7 c.n=true)
 (k:∀ p,p ∉ eN hp→ah c ops Q rest ((a7,.of (some p:Ref)) :: E) (loc ++ aV ((p,mk) :: hp))):ah c ops Q (⟨some a7,.box t x,ty,pos,af,none⟩ :: rest) E (loc ++ aV hp):=fun a W s=>by
 refine hy rfl (R:=fun v W'=>v= .pointer (some ⟨W.heap.size,0,none⟩)∧W'=W.alloc (.cells (a.eval x).cells t)) (.kx ?_ ⟨rfl,rfl⟩) fun v W' ⟨a0,hw⟩=> ?_
 ·simp [execOp,Instr.box,newVar,newRow]
 ·subst a0
  subst hw
  refine k _ s.fresh _ _ (bx.put ?_ (by simpa using aO) (tv.2 rfl))
  refine(s.alloc (cp:= .var z) ⟨_,t,rfl,(an a W s).2⟩).perm ?_
  simp only [aV,ay,List.singleton_append]
  exact List.perm_middle.symm
theorem ah.Bo {t:TypeId} {x:Operand} {rest:List Oper} {a7:Nat} {α:Type} [ai α] {z:α} (n:Nat) (al:L.drop n=aV hp) (mk:bU) (ay:∀ p,eY.hB p mk= [⟨some p,.var z⟩]) (an:a9 c E L x (.of z)) (aO:Nat.blt a7 c.n=true) (k:∀ a:Nat × aS bU,a.1 ∉ hp.map (·.1)∧a.2=(a.1,mk) :: hp→ah c ops Q rest ((a7,.of (some a.1:Ref)) :: E) (L.take n ++ aV a.2)):ah c ops Q (⟨some a7,.box t x,ty,pos,af,none⟩ :: rest) E L:=by
 have e:L=L.take n ++ aV hp:=by rw [← al,List.take_append_drop]
 clear al
 generalize L.take n=loc at *
 subst e
 exact ah.Ym mk ay an aO fun p h=>k (p,(p,mk) :: hp) ⟨h,rfl⟩
theorem nK {A B C:List aM} :((A ++ B) ++ C).Perm ((A ++ C) ++ B):=by
 rw [List.append_assoc,List.append_assoc]; exact List.perm_append_comm.append_left A
theorem ah.jd {rest:List Oper} {a7:Nat} {f:FuncId} {xs:List Operand} {ats:Array TypeId} {τs:List I} {Lin Lr:List aM} {δ:Type} {ρ:δ→I} {Lo:δ→List aM} {hq:δ→aS bU} (ej:bH c.P f) (h:bM c.P f τs (Lin ++ aV hp) ρ (fun d=>Lo d ++ aV (hq d)))
 (an:hJ c E ((Lin ++ Lr) ++ aV hp) xs τs) (aO:Nat.blt a7 c.n=true) (k:∀ q,ah c ops Q rest ((a7,ρ q) :: E) ((Lo q ++ Lr) ++ aV (hq q))):
 ah c ops Q (⟨some a7,.call ⟨.value (.func f),xs.toArray,ats⟩,ty,pos,af,none⟩ :: rest) E ((Lin ++ Lr) ++ aV hp):=fun a W s=>
 hy rfl (Al (Lr:=Lr) ej h (s.perm nK) ((an.holds a W s).mono (m6 nK))) fun v W' ⟨q,b6,a0⟩=>
  k q _ _ ((b6.perm nK).put (by simpa using aO) ((ρ q).mono (m6 nK) a0))
theorem ah.iR {rest:List Oper} {a7:Nat} {f:FuncId} {xs:List Operand} {ats:Array TypeId} {τs:List I} {Lin Lr:List aM} {δ:Type} {ρ:δ→I} {Lo:δ→List aM} {hq:δ→aS bU} (n m:Nat) (al:L.drop n=aV hp) (ej:bH c.P f) (h:bM c.P f τs (Lin ++ aV hp) ρ (fun d=>Lo d ++ aV (hq d)))
 (J:(L.take n).take m=Lin) (ad:(L.take n).drop m=Lr) (an:hJ c E L xs τs) (aO:Nat.blt a7 c.n=true) (k:∀ q,ah c ops Q rest ((a7,ρ q) :: E) ((Lo q ++ Lr) ++ aV (hq q))):
 ah c ops Q (⟨some a7,.call ⟨.value (.func f),xs.toArray,ats⟩,ty,pos,af,none⟩ :: rest) E L:=by
 have e:L=(Lin ++ Lr) ++ aV hp:=by rw [← J,← ad,List.take_append_drop,← al,List.take_append_drop]
 clear al J ad
 subst e
 exact ah.jd ej h an aO k
theorem fG.Wq {f:FuncId} {xs:List Operand} {ats:Array TypeId} {τs:List I} {ρ:I} (ej:bH c.P f) (h:bM c.P f τs (aV hp) (fun _:Unit=>ρ) (fun _=>aV hp))
 (an:hJ c E (loc ++ aV hp) xs τs):fG c E (loc ++ aV hp) ⟨d,.call ⟨.value (.func f),xs.toArray,ats⟩,ty,pos,af,g⟩ ρ:=fun a W s=>by
 have de:(loc ++ aV hp).Perm (aV hp ++ loc):=List.perm_append_comm
 have bb:=Al (d:=d) (ty:=ty) (pos:=pos) (af:=af) (g:=g) (ats:=ats) (Lr:=loc) ej h (s.perm de) ((an.holds a W s).mono (m6 de))
 unfold gD at bb ⊢
 exact Oper.wp_mono (fun gw W' ⟨v,J,_,ad,aC⟩=>⟨v,J,ad.perm de.symm,ρ.mono (m6 de.symm) aC⟩) bb
theorem fG.jd {f:FuncId} {xs:List Operand} {ats:Array TypeId} {τs:List I} {ρ:I} (n:Nat) (al:L.drop n=aV hp) (ej:bH c.P f) (h:bM c.P f τs (aV hp) (fun _:Unit=>ρ) (fun _=>aV hp)) (an:hJ c E L xs τs):fG c E L ⟨d,.call ⟨.value (.func f),xs.toArray,ats⟩,ty,pos,af,g⟩ ρ:=by
 have e:L=L.take n ++ aV hp:=by rw [← al,List.take_append_drop]
 clear al
 generalize L.take n=loc at *
 subst e
 exact fG.Wq ej h an
theorem GL {P:Program} {e:TypeId} (W:World) (n:Nat) {t:TypeId} (a:Option Addr) (h:P.underlying t=some (.pointer e)):(Op.equalIn (n + 1) t (.pointer a) (.pointer none)).run P W= .ok a.isNone W:=by
 cases a <;> simp [Op.equalIn,run_underlying h]
theorem mE {r:Ref} {e:TypeId} (hu:c.P.underlying t=some (.pointer e)) (an:a9 c E L x (.of r)):bS c E L ⟨d,.binOp .eql t x (.const (.pointer none)) t2,ty,pos,af,g⟩ (.of r.isNone):= .pure fun a W s=>by
 have J:=tv.1 (an a W s)
 refine⟨.bool r.isNone,?_,of_bool.2 rfl⟩
 have aO:a.eval (.const (.pointer none))= .pointer none:=rfl
 simp only [execOp,eqGuard,binOp,J,aO,Op.equal,Op.maxDepth]
 have:=GL (P:=c.P) W 9999 (r.map fun p=>⟨p,0,none⟩) hu
 simp only [Option.isNone_map] at this
 simp [this]
theorem DL {r:Ref} {e:TypeId} (hu:c.P.underlying t=some (.pointer e)) (an:a9 c E L x (.of r)):bS c E L ⟨d,.binOp .neq t x (.const (.pointer none)) t2,ty,pos,af,g⟩ (.of r.isSome):= .pure fun a W s=>by
 have J:=tv.1 (an a W s)
 refine⟨.bool r.isSome,?_,of_bool.2 rfl⟩
 have aO:a.eval (.const (.pointer none))= .pointer none:=rfl
 simp only [execOp,eqGuard,binOp,J,aO,Op.equal,Op.maxDepth]
 have:=GL (P:=c.P) W 9999 (r.map fun p=>⟨p,0,none⟩) hu
 simp only [Option.isNone_map] at this
 simp [this]
end
theorem Tx {P:Program} {t e el:TypeId} {n:Nat} (h:P.underlying t=some (.array n e)) (eJ:bw P e Ref) (hu:P.underlying e=some (.pointer el)) {A:List Nat} {W:World} {u v:Value} {x y:Vector Ref n} (an:(I.of x).holds A W u) (a5:(I.of y).holds A W v)
 (aO:∀ i,i < n→bD y i=none) (d:Nat) (hd:2≤d):(Op.equalIn d t u v).run P W= .ok (decide (x=y)) W:=by
 obtain⟨d,rfl⟩:∃ e,d=e + 1:=⟨d - 1,by omega⟩
 obtain⟨J,ad⟩:=an
 obtain⟨aC,aU⟩:=a5
 obtain⟨xs,rfl⟩:∃ cs,u= .agg cs:=by simpa [shaped,ai.agg] using J
 obtain⟨ys,rfl⟩:∃ cs,v= .agg cs:=by simpa [shaped,ai.agg] using aC
 simp only [Value.cells] at ad aU
 have sw:xs.toList.length=n * ai.size Ref:=ai.len ad
 have B9:ys.toList.length=n * ai.size Ref:=ai.len aU
 have r6:∀ i∈List.range' 0 n,((do
  let a ← part e xs (i * ai.size Ref)
  let b ← part e ys (i * ai.size Ref)
  Op.equalIn d e a b):Sem Bool).run P W= .ok (decide (bD x i=bD y i)) W:=by
  intro i au
  have gR:i < n:=by simpa using au
  have eu:i * ai.size Ref + ai.size Ref≤n * ai.size Ref:=(aN.idx (α:=Ref) n i gR).gv
  obtain⟨a,bj,sx⟩:=rI (A:=A) (P:=P) (W:=W) (cs:=xs) (off:=i * ai.size Ref) eJ (by simp at sw; omega) ((aN.idx (α:=Ref) n i gR).iv ad)
  obtain⟨b,hb,Ca⟩:=rI (A:=A) (P:=P) (W:=W) (cs:=ys) (off:=i * ai.size Ref) eJ (by simp at B9; omega) ((aN.idx (α:=Ref) n i gR).iv aU)
  simp only [Sem.run_bind,bj,hb,Result.andThen_ok]
  obtain⟨d,rfl⟩:∃ e,d=e + 1:=⟨d - 1,by omega⟩
  have av:=tv.1 sx
  have aX:=tv.1 Ca
  subst av; subst aX
  have aa9:(aN.idx (α:=Ref) n i gR).get y=none:=aO i gR
  rw [aa9,Option.map_none,GL W d _ hu]
  have c4:bD y i=none:=aO i gR
  rw [c4]
  show Result.ok ((bD x i).map _).isNone W=_
  congr 1
  cases bD x i <;> rfl
 have ba:=GK (P:=P) (W:=W) _ _ _ r6
 have kA:(List.range' 0 n).all (fun i=>decide (bD x i=bD y i))=decide (x=y):=by
  rw [Bool.eq_iff_iff,List.all_eq_true,decide_eq_true_eq]
  constructor
  ·intro h
   apply Vector.ext
   intro i au
   have:=h i (by simpa using au)
   simpa [bD,au] using this
  ·rintro rfl i _
   simp
 rw [kA] at ba
 simp only [Op.equalIn,Sem.run_bind,run_underlying h,Result.andThen_ok,eJ.sizeOf,Std.Legacy.Range.forIn_eq_forIn_range']
 simp only [Std.Legacy.Range.size,Nat.sub_zero,Nat.add_one_sub_one,Nat.div_one] at ba ⊢
 simp only [bind_assoc] at ba
 rw [ba]
 by_cases Cb:x=y
 ·simp [Cb]
 ·simp [Cb]
theorem UE {c:dd} {E:List (Nat × I)} {L:List aM} {d:Option Tmp} {ty:TypeId} {pos:String} {af:Array Edge} {g:Option (Nat × Bool)} {x y:Operand} {t t2 e el:TypeId} {n:Nat} {a b:Vector Ref n} (h:c.P.underlying t=some (.array n e)) (eJ:bw c.P e Ref) (hu:c.P.underlying e=some (.pointer el)) (bs:c.P.eqGuardType c.P.depth t=false)
 (an:a9 c E L x (.of a)) (a5:a9 c E L y (.of b)) (aO:∀ i,i < n→bD b i=none):bS c E L ⟨d,.binOp .eql t x y t2,ty,pos,af,g⟩ (.of (decide (a=b))):= .pure fun A W s=>by
 have J:=an A W s
 have ad:=a5 A W s
 obtain⟨xs,hE⟩:∃ cs,A.eval x= .agg cs:=by simpa [shaped,ai.agg] using J.1
 obtain⟨ys,uf⟩:∃ cs,A.eval y= .agg cs:=by simpa [shaped,ai.agg] using ad.1
 have aC:=Tx h eJ hu J ad aO 10000 (by decide)
 rw [hE,uf] at aC
 refine⟨.bool (decide (a=b)),?_,of_bool.2 rfl⟩
 simp only [execOp,hE,uf,Sem.run_bind,run_eqGuard_agg W .eql t x y xs ys bs,Result.andThen_ok,run_eql_struct,aC,Sem.run_pure]
section
variable {c:dd} {E:List (Nat × I)} {L:List aM} {ops:Array Oper} {Q:Exit→Act→World→Prop}
theorem ax.cv {α β:Type} {o:Option α} {k:α→ax β} {R:β→Prop} (h:ax.bind (ax.of o) k R):∃ r,o=some r∧k r R:=h
theorem Ty {F:Fence} {n:Nat} {P:Program} {body:Code} {σ ε:Type} (b:σ→ax (σ ⊕ ε)) (fD:σ→Act→World→Prop) (X:ε→Exit→Act→World→Prop)
 (pb:∀ s R,b s R→ ∀ a W,fD s a W→body.wpIn F n P (fun x a W=>(∃ b6,R (.inl b6)∧x= .normal∧fD b6 a W)∨ ∃ e,R (.inr e)∧x≠ .normal∧X e x a W) a W)
 (Q:Exit→Act→World→Prop) (R:ε→Prop) (oB:∀ e x a W,R e→X e x a W→Q x a W) {cc:σ} {N:Nat} (ao:nb N b cc R) {ib:Act} {iN:World} (bI:fD cc ib iN):
 (Code.loop body).wpIn F n P Q ib iN:=by
 intro dG k cs yG hb aR
 have key:∀ N s,nb N b s R→ ∀ a W,fD s a W→
  ∃ x gw W',Q x gw W'∧ArrivesIn (Machine.fenced P F) P (lone (dG.atR a (.code body :: .inLoop body :: k)) cs W) dG k cs x gw W':=by
  intro N
  induction N with
  | zero=>intro s h; exact h.elim
  | succ N bJ=>
    intro s h a W la
    obtain⟨x,yt,yu,hq,q4⟩:=pb s _ h a W la dG (.inLoop body :: k) cs yG hb aR
    rcases hq with⟨b6,J,an,Jt⟩ | ⟨e,J,an,Ks⟩
    ·subst an
     obtain⟨I6,I7,I8,IF,HC⟩:=bJ b6 J yt yu Jt
     exact⟨I6,I7,I8,IF,.of_steps (StepsIn.trans q4 (.one (fenced_calm hb aR rfl) stepR_inLoop)) HC⟩
    ·exact⟨x,yt,yu,oB _ _ _ _ J Ks,.pass (x:= .inLoop body) rfl (fun _ _=> .inl an) q4⟩
 obtain⟨x,gw,W',hq,q4⟩:=key N cc ao ib iN bI
 exact⟨x,gw,W',hq,.of_steps (.one (fenced_calm hb aR rfl) stepR_loop) q4⟩
def FE {σ ε γ δ:Type} (c:dd) (E:σ→γ→List (Nat × I)) (L:σ→γ→List aM) (xs:ε→Exit) (fN:ε→δ→List (Nat × I)) (Lx:ε→δ→List aM) (R:σ ⊕ ε→Prop):Exit→Act→World→Prop:=fun x a W=>
 (∃ s,R (.inl s)∧x= .normal∧ ∃ g,bx c (E s g) (L s g) a W)∨ ∃ e,R (.inr e)∧x≠ .normal∧x=xs e∧ ∃ g,bx c (fN e g) (Lx e g) a W
theorem ae.x1 {σ ε γ δ:Type} {E':σ→γ→List (Nat × I)} {L':σ→γ→List aM} {xs:ε→Exit} {fN:ε→δ→List (Nat × I)} {Lx:ε→δ→List aM} {R:σ ⊕ ε→Prop} {s:σ} (jr:R (.inl s)) (g:γ) (n:Nat)
 (al:L.drop n=L' s g) (h:hG E (E' s g)):ae c (FE c E' L' xs fN Lx R) .normal E L:=fun a W st=> .inl ⟨s,jr,rfl,g,by rw [← al]; exact(st.oF n).less h.look⟩
theorem ae.rT {σ ε γ δ:Type} {E':σ→γ→List (Nat × I)} {L':σ→γ→List aM} {xs:ε→Exit} {fN:ε→δ→List (Nat × I)} {Lx:ε→δ→List aM} {R:σ ⊕ ε→Prop} {e:ε} {x:Exit} (jr:R (.inr e)) (g:δ) (n:Nat)
 (an:x=xs e) (aO:x≠ .normal) (al:L.drop n=Lx e g) (h:hG E (fN e g)):ae c (FE c E' L' xs fN Lx R) x E L:=fun a W st=> .inr ⟨e,jr,aO,an,g,by rw [← al]; exact(st.oF n).less h.look⟩
theorem ag.nb {σ ε γ δ:Type} {body:Code} {N:Nat} {b:σ→ax (σ ⊕ ε)} {cc:σ} {R:ε→Prop} (ao:Gv.nb N b cc R)
 (E':σ→γ→List (Nat × I)) (L':σ→γ→List aM) (xs:ε→Exit) (fN:ε→δ→List (Nat × I)) (Lx:ε→δ→List aM) (g0:γ) (al:L=L' cc g0) (aB:hG E (E' cc g0))
 (r4:∀ s R,b s R→ ∀ g,ag c (FE c E' L' xs fN Lx R) body (E' s g) (L' s g))
 (oB:∀ e,R e→ ∀ g,ae c Q (xs e) (fN e g) (Lx e g)):ag c Q (.loop body) E L:=fun a W st=>by
 subst al
 exact Ty b (fun s a W=> ∃ g,bx c (E' s g) (L' s g) a W) (fun e x a W=>x=xs e∧ ∃ g,bx c (fN e g) (Lx e g) a W)
  (fun s R hs a W ⟨g,la⟩=>wpIn_mono (r4 s R hs g a W la) (fun x a W h=>by
   rcases h with⟨b6,J,ad,aC⟩ | ⟨e',J,ad,aC,aU⟩
   ·exact .inl ⟨b6,J,ad,aC⟩
   ·exact .inr ⟨e',J,ad,aC,aU⟩)) Q R (fun e x a W jr ⟨an,g,hs⟩=>by subst an; exact oB e jr g a W hs) ao ⟨g0,st.less aB.look⟩
theorem mF {α:Type} {b:Bool} {m n:ax α} {R:α→Prop} (hb:b=true) (h:cond b m n R):m R:=by subst hb; exact h
theorem mG {α:Type} {b:Bool} {m n:ax α} {R:α→Prop} (hb:b=false) (h:cond b m n R):n R:=by subst hb; exact h
theorem ag.xX {β γ ρ:Type} {nA:ρ→Prop} {x:Operand} {b:Bool} {y z:Code} {aZ bc:ax β} {k:β→ax ρ} (h:ax.bind (bif b then aZ else bc) k nA) (E':β→γ→List (Nat × I)) (L':β→γ→List aM) (ao:a9 c E L x (.of b))
 (uw:∀ m g,k m nA→ae c Q .normal (E' m g) (L' m g))
 (bL:(∀ m g,k m nA→ae c Q .normal (E' m g) (L' m g))→b=true→aZ (fun m=>k m nA)→ag c Q y E L) (ba:(∀ m g,k m nA→ae c Q .normal (E' m g) (L' m g))→b=false→bc (fun m=>k m nA)→ag c Q z E L):ag c Q (.cond x y z) E L:=
 ag.cond ao (fun hb=>bL uw hb (mF hb h)) (fun hb=>ba uw hb (mG hb h))
theorem ag.x0 {σ ε γ δ ρ:Type} {body:Code} {N:Nat} {b:σ→ax (σ ⊕ ε)} {cc:σ} {k:ε→ax ρ} {nA:ρ→Prop} (ao:ax.bind (Gv.nb N b cc) k nA)
 (E':σ→γ→List (Nat × I)) (L':σ→γ→List aM) (xs:ε→Exit) (fN:ε→δ→List (Nat × I)) (Lx:ε→δ→List aM) (g0:γ) (al:L=L' cc g0) (aB:hG E (E' cc g0))
 (r4:∀ s R,b s R→ ∀ g,ag c (FE c E' L' xs fN Lx R) body (E' s g) (L' s g))
 (oB:∀ e,k e nA→ ∀ g,ae c Q (xs e) (fN e g) (Lx e g)):ag c Q (.loop body) E L:=
 ag.nb (R:=fun e=>k e nA) ao E' L' xs fN Lx g0 al aB r4 oB
theorem Xn {n:Nat} :∀ i,i < n→bD (default:Vector Ref n) i=none:=fun i au=>by
 have:(default:Vector Ref n)=Vector.replicate n none:=rfl
 rw [this]
 simp [bD,au]
def BB (s:ByteArray) (i:Int):Option (BitVec 8):=(if 0≤i then s[i.toNat]? else none).map fun b=>BitVec.ofNat 8 b.toNat
theorem Vh {d:Option Tmp} {ty:TypeId} {pos:String} {af:Array Edge} {g:Option (Nat × Bool)} {x y:Operand} {t:TypeId} {s:ByteArray} {i:BitVec 8} {r:BitVec 8} (hu:c.P.underlying t=some .string) (an:a9 c E L x (.of s)) (a5:a9 c E L y (.of i)) (aR:BB s (i.toNat:Int)=some r):
 bS c E L ⟨d,.index t x y,ty,pos,af,g⟩ (.of r):= .pure fun a W st=>by
 have J:=NO.1 (an a W st)
 have ad:=EN.1 (a5 a W st)
 unfold BB at aR
 cases hb:(if 0≤ (i.toNat:Int) then s[(i.toNat:Int).toNat]? else none) with
 | none=>rw [hb] at aR; cases aR
 | some b=>
   rw [hb] at aR
   simp only [Option.map_some,Option.some.injEq] at aR
   subst aR
   have b5:b.toNat < 256:=b.toNat_lt
   refine⟨.int .u8 b.toNat,?_,EN.2 (by simp [BitVec.toNat_ofNat,Nat.mod_eq_of_lt b5])⟩
   have wy:=hb
   simp only [Int.natCast_nonneg,if_true,Int.toNat_natCast] at wy
   simp [execOp,Instr.index,J,ad,asIntOf,run_underlying hu,wy]
end
structure gf where
 p:Option Nat
 deriving DecidableEq,Inhabited
instance ack:ai gf:= .scalar (fun x=>Value.map x.p) fun _=>rfl
instance:bg gf:=⟨[.map none],fun _ _=>rfl⟩
theorem ve {A W v} {x:gf} :(I.of x).holds A W v↔v= .map x.p:=
 ⟨fun h=>oq h.1 h.2,fun h=>by subst h; exact⟨rfl,rfl⟩⟩
theorem l7 {c:dd} {E:List (Nat × I)} {L:List aM} {x:Operand} {r:gf} {p:Nat} (an:a9 c E L x (.of r)) (h:r.p=some p):a9 c E L x (.of (⟨some p⟩:gf)):=fun a W s=>by
 have:=ve.1 (an a W s)
 rw [h] at this
 exact ve.2 this
inductive kk {α β:Type} [ai α] [ai β] (A:List Nat) (W:World):List MapEntry→List (α × β)→Prop
 | nil:kk A W [] []
 | cons {e k v es r} :(I.of k).holds A W e.key→ (I.of v).holds A W e.val→kk A W es r→kk A W (e :: es) ((k,v) :: r)
theorem kk.mono {α β:Type} [ai α] [ai β] {A W c5 W'} (h:Ext A W c5 W'):∀ {es:List MapEntry} {kv:List (α × β)},kk A W es kv→kk c5 W' es kv
 | _,_,.nil=> .nil
 | _,_,.cons J ad r=> .cons (I.mono _ h J) (I.mono _ h ad) (r.mono h)
def dB.map {α β:Type} [ai α] [ai β] (kv:List (α × β)):dB where
 holds A W o:= ∃ es clock,o= .map es clock∧kk A W es.toList kv∧ (∀ x∈es.toList,x.born < clock)∧ (es.toList.map MapEntry.born).Nodup
 mJ:=False
 mono e h:=let⟨es,clock,J,ad,aC⟩:=h; ⟨es,clock,J,ad.mono e,aC⟩
def dM {α β:Type} [DecidableEq α]:List (α × β)→α→Option β
 | [],_=>none
 | (k,v) :: r,x=>if x=k then some v else dM r x
def gO {α β:Type} [DecidableEq α]:List (α × β)→α→β→List (α × β)
 | [],x,y=> [(x,y)]
 | (k,v) :: r,x,y=>if x=k then(x,y) :: r else(k,v) :: gO r x y
def hR {α β:Type} [DecidableEq α]:List (α × β)→α→List (α × β)
 | [],_=> []
 | (k,v) :: r,x=>if x=k then r else(k,v) :: hR r x
class lg (α:Type) [ai α]:Prop where
 uniq:∀ {A W cs c5 W' dS} {x:α},ai.rep A W cs x→ai.rep c5 W' dS x→cs=dS
 plain:∀ {A W cs} {x:α},ai.rep A W cs x→ ∀ v∈cs,∀ n,Instr.sameBits n v v=true
instance:lg Int:=⟨fun h c0=>h.trans c0.symm,fun h v a0 n=>by subst h; rw [List.mem_singleton.1 a0]; simp [Instr.sameBits]⟩
instance:lg (BitVec 64):=⟨fun h c0=>h.trans c0.symm,fun h v a0 n=>by subst h; rw [List.mem_singleton.1 a0]; simp [Instr.sameBits]⟩
instance:lg Bool:=⟨fun h c0=>h.trans c0.symm,fun h v a0 n=>by subst h; rw [List.mem_singleton.1 a0]; simp [Instr.sameBits]⟩
instance {α:Type} [ai α] [Inhabited α] [lg α] {n:Nat} :lg (Vector α n):=⟨fun {A W cs c5 W' dS x} h c0=>by
 have CP:cs.length=n * ai.size α:=ai.len h
 have w0:dS.length=n * ai.size α:=ai.len c0
 have key:∀ m,m≤n→cs.take (m * ai.size α)=dS.take (m * ai.size α):=by
  intro m
  induction m with
  | zero=>intro _; simp
  | succ m bJ=>
    intro hm
    have pr:m < n:=hm
    have av:=(aN.idx (α:=α) n m pr).iv h
    have aX:=(aN.idx (α:=α) n m pr).iv c0
    have c4:=lg.uniq av aX
    rw [Nat.succ_mul,List.take_add,List.take_add,bJ (by omega)]
    congr 1
 have:=key n (Nat.le_refl _)
 rwa [← CP,List.take_length,CP,← w0,List.take_length] at this,
 fun {A W cs x} h v a0 k=>by
  have CP:cs.length=n * ai.size α:=ai.len h
  obtain⟨i,au,rfl⟩:=List.getElem_of_mem a0
  by_cases hs:ai.size α=0
  ·rw [hs,Nat.mul_zero] at CP; omega
  have hq:i / ai.size α < n:=Nat.div_lt_of_lt_mul (by rw [CP,Nat.mul_comm] at au; exact au)
  have av:=(aN.idx (α:=α) n (i / ai.size α) hq).iv h
  refine lg.plain av _ ?_ k
  have aR:i % ai.size α < ai.size α:=Nat.mod_lt _ (by omega)
  have hd:=Nat.div_add_mod i (ai.size α)
  refine List.mem_iff_getElem?.2 ⟨i % ai.size α,?_⟩
  simp only [aN.idx]
  rw [List.getElem?_take,if_pos aR,List.getElem?_drop,Nat.mul_comm,hd]
  exact List.getElem?_eq_getElem au⟩
theorem Mw {cs dS:List Value} (o s:Nat) (h:(cs.drop o).take s=(dS.drop o).take s) (k:cs.drop (o + s)=dS.drop (o + s)):cs.drop o=dS.drop o:=by
 rw [← List.take_append_drop s (cs.drop o),← List.take_append_drop s (dS.drop o),h,List.drop_drop,List.drop_drop,k]
theorem VD {cs dS:List Value} {n:Nat} (h:cs.length=n) (c0:dS.length=n) (k:cs.drop 0=dS.drop 0):cs=dS:=by simpa using k
theorem VE {cs dS:List Value} {n m:Nat} (h:cs.length=n) (c0:dS.length=n) (k:n≤m):cs.drop m=dS.drop m:=by
 rw [List.drop_eq_nil_of_le (by omega),List.drop_eq_nil_of_le (by omega)]
theorem Tz {α:Type} [ai α] [lg α] {A W c5 W' u v} {x:α} (h:(I.of x).holds A W u) (c0:(I.of x).holds c5 W' v):u=v:=by
 obtain⟨J,ad⟩:=h
 obtain⟨aC,aU⟩:=c0
 have a1:=lg.uniq ad aU
 by_cases bj:ai.agg α=true
 ·simp only [shaped,bj,if_true] at J aC
  obtain⟨a,rfl⟩:=J
  obtain⟨b,rfl⟩:=aC
  simp only [Value.cells] at a1
  congr 1
  exact Array.toList_inj.1 a1
 ·simp only [Bool.not_eq_true] at bj
  simp only [shaped,bj,Bool.false_eq_true,if_false] at J aC
  rw [ot J,ot aC] at a1
  simpa using a1
theorem Mx {P:Value→Value→Bool} :∀ {cs:List Value},(∀ v∈cs,P v v=true)→ ((cs.zip cs).all fun(x,y)=>P x y)=true
 | [],_=>rfl
 | a :: r,h=>by
   simp only [List.zip_cons_cons,List.all_cons,Bool.and_eq_true]
   exact⟨h a (by simp),Mx fun v a0=>h v (by simp [a0])⟩
theorem TA {α:Type} [ai α] [lg α] {A W u} {x:α} (h:(I.of x).holds A W u) (n:Nat):Instr.sameBits (n + 1) u u=true:=by
 obtain⟨J,ad⟩:=h
 by_cases bj:ai.agg α=true
 ·simp only [shaped,bj,if_true] at J
  obtain⟨a,rfl⟩:=J
  simp only [Value.cells] at ad
  simp only [Instr.sameBits,beq_self_eq_true,Bool.true_and]
  exact Mx fun v a0=>lg.plain ad v a0 n
 ·simp only [Bool.not_eq_true] at bj
  simp only [shaped,bj,Bool.false_eq_true,if_false] at J
  rw [ot J] at ad
  exact lg.plain ad u (by simp) _
theorem Ub {α:Type} [ai α] [lg α] {P:Program} {A W c5 W' u v} {x:α} (h:(I.of x).holds A W u) (c0:(I.of x).holds c5 W' v) (iN:World):(Instr.keyThatStays u v).run P iN= .ok v iN:=by
 have:=Tz h c0
 subst this
 simp [Instr.keyThatStays,TA h 9999]
def rq (P:Program) (t:TypeId) (α:Type) [ai α] (n:Nat):Prop:= ∀ b d A W u (x:α),n≤d→ (I.of x).holds A W u→ (Instr.checkKey b d t u).run P W= .ok () W
theorem Mg {P:Program} {t:TypeId} {α:Type} [ai α] {D:TypeDesc} (h:P.underlying t=some D) (hd:(match (motive:=TypeDesc→Bool) D with | .interface _ | .array _ _ | .struct _=>false | _=>true)=true):rq P t α 1:=by
 intro b d A W u x aO an
 obtain⟨d,rfl⟩:∃ e,d=e + 1:=⟨d - 1,by omega⟩
 simp only [Instr.checkKey,Sem.run_bind,run_underlying h,Result.andThen_ok]
 cases D <;> simp at hd <;> rfl
theorem Lm {P:Program} {W:World} {CQ:Type} (f:CQ→Sem Unit):∀ (l:List CQ),(∀ i∈l,(f i).run P W= .ok () W)→
 (forIn (m:=Sem) l () (fun i _=>do f i; pure (ForInStep.yield ()))).run P W= .ok () W
 | [],_=>by simp
 | i :: r,h=>by
   have J:=h i (by simp)
   have ad:=Lm (P:=P) (W:=W) f r (fun j aH=>h j (by simp [aH]))
   rw [List.forIn_cons]
   simp only [Sem.run_bind,J,Result.andThen_ok,Sem.run_pure]
   rw [ad]
theorem Lg {P:Program} {W:World} {CQ:Type} (f:CQ→PUnit→Sem (ForInStep PUnit)):∀ (l:List CQ),(∀ i∈l,(f i ()).run P W= .ok (.yield ()) W)→ (forIn (m:=Sem) l PUnit.unit f).run P W= .ok () W
 | [],_=>by simp
 | i :: r,h=>by
   have J:=h i (by simp)
   have ad:=Lg (P:=P) (W:=W) f r (fun j aH=>h j (by simp [aH]))
   rw [List.forIn_cons]
   simp only [Sem.run_bind,J,Result.andThen_ok]
   exact ad
theorem NT {P:Program} {t e n k:Nat} {α:Type} [ai α] [Inhabited α] (h:P.underlying t=some (.array n e)) (eJ:bw P e α) (he:rq P e α k):rq P t (Vector α n) (k + 1):=by
 intro b d A W u x hd an
 obtain⟨d,rfl⟩:∃ e,d=e + 1:=⟨d - 1,by omega⟩
 obtain⟨J,ad⟩:=an
 obtain⟨xs,rfl⟩:∃ cs,u= .agg cs:=by simpa [shaped,ai.agg] using J
 simp only [Value.cells] at ad
 have sw:xs.toList.length=n * ai.size α:=ai.len ad
 have r6:∀ i∈List.range' 0 n,((do
  let z ← Go.sizeOf e
  let a ← part e xs (i * z)
  Instr.checkKey b d e a):Sem Unit).run P W= .ok () W:=by
  intro i au
  have gR:i < n:=by simpa using au
  have eu:i * ai.size α + ai.size α≤n * ai.size α:=(aN.idx (α:=α) n i gR).gv
  obtain⟨a,bj,sx⟩:=rI (A:=A) (P:=P) (W:=W) (cs:=xs) (off:=i * ai.size α) eJ (by simp at sw; omega) ((aN.idx (α:=α) n i gR).iv ad)
  simp only [Sem.run_bind,eJ.sizeOf,bj,Result.andThen_ok]
  exact he b d A W a _ (by omega) sx
 have ba:=Lm (P:=P) (W:=W) _ _ r6
 simp only [Instr.checkKey,Sem.run_bind,run_underlying h,Result.andThen_ok,Std.Legacy.Range.forIn_eq_forIn_range']
 simp only [Std.Legacy.Range.size,Nat.sub_zero,Nat.add_one_sub_one,Nat.div_one] at ba ⊢
 simp only [bind_assoc] at ba
 rw [ba]
 rfl
inductive Cu (P:Program) (β:Type) [ai β] (k:Nat):List Field→Prop
 | nil:Cu P β k []
 | cons {γ:Type} [ai γ] {f r} (l:aN β γ):l.off=f.offset→bw P f.type γ→rq P f.type γ k→Cu P β k r→Cu P β k (f :: r)
theorem Uc {P:Program} {t k:Nat} {β:Type} [ai β] {fs:Array Field} (bj:ai.agg β=true) (h:P.underlying t=some (.struct fs)) (ak:Cu P β k fs.toList):rq P t β (k + 1):=by
 intro b d A W u x hd an
 obtain⟨d,rfl⟩:∃ e,d=e + 1:=⟨d - 1,by omega⟩
 obtain⟨J,ad⟩:=an
 obtain⟨xs,rfl⟩:∃ cs,u= .agg cs:=by simpa [shaped,bj] using J
 simp only [Value.cells] at ad
 have sw:xs.toList.length=ai.size β:=ai.len ad
 have r6:∀ f∈fs.toList,((do
  if f.name≠ "_" then do
   let a ← part f.type xs f.offset
   Instr.checkKey b d f.type a):Sem Unit).run P W= .ok () W:=by
  have key:∀ l,Cu P β k l→ ∀ f∈l,((do
   if f.name≠ "_" then do
    let a ← part f.type xs f.offset
    Instr.checkKey b d f.type a):Sem Unit).run P W= .ok () W:=by
   intro l ao
   induction ao with
   | nil=>simp
   | cons l bb eJ ay r bJ=>
     rename_i f j1
     intro y7 qi
     rcases List.mem_cons.1 qi with rfl | qi
     ·split
      ·obtain⟨a,bj,sx⟩:=rI (A:=A) (P:=P) (W:=W) (cs:=xs) (off:=l.off) eJ (by have:=l.gv; simp at sw; omega) (l.iv ad)
       rw [← bb]
       simp only [Sem.run_bind,bj,Result.andThen_ok]
       exact ay b d A W a _ (by omega) sx
      ·rfl
     ·exact bJ y7 qi
  exact key _ ak
 simp only [Instr.checkKey,Sem.run_bind,run_underlying h,Result.andThen_ok]
 rw [← Array.forIn_toList,Lg]
 ·rfl
 ·intro f ba
  have:=r6 f ba
  split
  ·rename_i aO
   rw [if_pos aO] at this
   simp only [Sem.run_bind] at this ⊢
   revert this
   generalize (part f.type xs f.offset).run P W=r
   cases r <;> simp only [Result.andThen] <;> intro h <;> first | rw [h]; rfl | cases h
  ·rfl
structure oj (P:Program) (t:TypeId) (α:Type) [ai α] [DecidableEq α]:Prop where
 check:∀ b A W u (x:α),(I.of x).holds A W u→ (Instr.checkKey b 10000 t u).run P W= .ok () W
 same:∀ A W u v (x y:α),(I.of x).holds A W u→ (I.of y).holds A W v→ (Op.equal t u v).run P W= .ok (decide (x=y)) W
 now:∃ D,P.underlying t=some D∧ ∀ A W u v (x y:α),(I.of x).holds A W u→ (I.of y).holds A W v→Instr.sameNow D u v=none∨Instr.sameNow D u v=some (decide (x=y))
def lr {α β:Type} [DecidableEq α]:List (α × β)→α→Nat→Option (Nat × β)
 | [],_,_=>none
 | (k,v) :: r,x,i=>if x=k then some (i,v) else lr r x (i + 1)
def Found {α β:Type} [ai α] [ai β] (A:List Nat) (W:World) (kv:List (α × β)):Option (Nat × Value)→Option (Nat × β)→Prop
 | none,none=>True
 | some (i,u),some (j,v)=>i=j∧ (I.of v).holds A W u
 | _,_=>False
theorem Lu {α β:Type} [ai α] [ai β] [DecidableEq α] {D:TypeDesc} {A:List Nat} {W:World} {u:Value} {x:α} (hu:(I.of x).holds A W u)
 (hs:∀ v (y:α),(I.of y).holds A W v→Instr.sameNow D u v=none∨Instr.sameNow D u v=some (decide (x=y))) (Cv:List (α × β)):∀ {es:List MapEntry} {kv:List (α × β)} (i:Nat),kk A W es kv→
 Instr.findNow D u es i=none∨ ∃ r,Instr.findNow D u es i=some r∧Found A W Cv r (lr kv x i)
 | [],_,i,h=>by cases h; exact .inr ⟨none,rfl,trivial⟩
 | e :: es,_,i,h=>by
   cases h with
   | cons J ad aC=>
     rename_i k v r
     rcases hs e.key k J with aU | aU
     ·exact .inl (by simp [Instr.findNow,aU])
     ·by_cases ay:x=k
      ·exact .inr ⟨some (i,e.val),by simp [Instr.findNow,aU,ay],by simp only [lr,if_pos ay]; exact⟨rfl,ad⟩⟩
      ·rcases Lu hu hs Cv (i + 1) aC with a1 | ⟨j1,a1,bk⟩
       ·exact .inl (by simp [Instr.findNow,aU,ay,a1])
       ·exact .inr ⟨j1,by simp [Instr.findNow,aU,ay,a1],by simp only [lr,if_neg ay]; exact bk⟩
theorem K9 {α β:Type} [ai α] [ai β] [DecidableEq α] {P:Program} {t:TypeId} (ko:oj P t α) {A:List Nat} {W:World} {u:Value} {x:α} (hu:(I.of x).holds A W u) (Cv:List (α × β)):∀ {es:List MapEntry} {kv:List (α × β)} (i:Nat),kk A W es kv→
 ∃ r,(Instr.findAsking t u es i).run P W= .ok r W∧Found A W Cv r (lr kv x i)
 | [],_,i,h=>by cases h; exact⟨none,rfl,trivial⟩
 | e :: es,_,i,h=>by
   cases h with
   | cons J ad aC=>
     rename_i k v r
     have aU:=ko.same A W u e.key x k hu J
     by_cases ay:x=k
     ·exact⟨some (i,e.val),by simp [Instr.findAsking,Sem.run_bind,aU,ay],by simp only [lr,if_pos ay]; exact⟨rfl,ad⟩⟩
     ·obtain⟨j1,a1,bk⟩:=K9 ko hu Cv (i + 1) aC
      exact⟨j1,by simp [Instr.findAsking,Sem.run_bind,aU,ay,a1],by simp only [lr,if_neg ay]; exact bk⟩
theorem GM {α β:Type} [ai α] [ai β] [DecidableEq α] {P:Program} {t:TypeId} (ko:oj P t α) {A:List Nat} {W:World} {u:Value} {x:α} (hu:(I.of x).holds A W u) {es:List MapEntry} {kv:List (α × β)} (h:kk A W es kv):
 ∃ r,(Instr.findKey t u es).run P W= .ok r W∧Found A W kv r (lr kv x 0):=by
 obtain⟨D,lb,hs⟩:=ko.now
 rcases Lu hu (fun v y a5=>hs A W u v x y hu a5) kv 0 h with J | ⟨r,J,ad⟩
 ·obtain⟨r,aC,aU⟩:=K9 ko hu kv 0 h
  exact⟨r,by simp [Instr.findKey,Sem.run_bind,run_underlying lb,J,aC],aU⟩
 ·exact⟨r,by simp [Instr.findKey,Sem.run_bind,run_underlying lb,J],ad⟩
theorem Hm {α β:Type} [ai α] [ai β] [DecidableEq α] {A:List Nat} {W:World} {x:α} :∀ {es:List MapEntry} {kv:List (α × β)} {j i:Nat} {v:β},kk A W es kv→lr kv x j=some (i,v)→
 ∃ m e,i=j + m∧es[m]? =some e∧ (I.of x).holds A W e.key∧ (∀ (e':MapEntry) (y:β),(I.of x).holds A W e'.key→ (I.of y).holds A W e'.val→kk A W (es.set m e') (gO kv x y))∧kk A W (es.eraseIdx m) (hR kv x)
 | [],_,j,i,v,h,ba=>by cases h; cases ba
 | e :: es,_,j,i,v,h,ba=>by
   cases h with
   | cons J ad aC=>
     rename_i k wZ r
     by_cases ay:x=k
     ·subst ay
      simp only [lr,if_pos] at ba
      simp only [Option.some.injEq,Prod.mk.injEq] at ba
      exact⟨0,e,by omega,rfl,J,fun e' y aq bd=>by simp only [gO,if_pos]; exact .cons aq bd aC,by simp only [hR,if_pos]; exact aC⟩
     ·simp only [lr,if_neg ay] at ba
      obtain⟨m,e',aq,bd,bN,dq,k9⟩:=Hm aC ba
      exact⟨m + 1,e',by omega,by simpa using bd,bN,fun JS y az c7=>by simp only [gO,if_neg ay]; exact .cons J ad (dq JS y az c7),by simp only [hR,if_neg ay]; exact .cons J ad k9⟩
theorem G0 {α β:Type} [ai α] [ai β] [DecidableEq α] {A:List Nat} {W:World} {x:α} :∀ {es:List MapEntry} {kv:List (α × β)} {j:Nat},kk A W es kv→lr kv x j=none→
 (∀ (e':MapEntry) (y:β),(I.of x).holds A W e'.key→ (I.of y).holds A W e'.val→kk A W (es ++ [e']) (gO kv x y))∧hR kv x=kv
 | [],_,j,h,_=>by cases h; exact⟨fun e' y J ad=> .cons J ad .nil,rfl⟩
 | e :: es,_,j,h,ba=>by
   cases h with
   | cons J ad aC=>
     rename_i k wZ r
     by_cases ay:x=k
     ·simp [lr,ay] at ba
     ·simp only [lr,if_neg ay] at ba
      obtain⟨aq,bd⟩:=G0 aC ba
      exact⟨fun e' y az c7=>by simp only [gO,if_neg ay]; exact .cons J ad (aq e' y az c7),by simp only [hR,if_neg ay,bd]⟩
theorem kk.length {α β:Type} [ai α] [ai β] {A W} :∀ {es:List MapEntry} {kv:List (α × β)},kk A W es kv→es.length=kv.length
 | _,_,.nil=>rfl
 | _,_,.cons _ _ r=>by simp [r.length]
theorem LU {α β:Type} [DecidableEq α]:∀ (kv:List (α × β)) (x:α) (i:Nat),(lr kv x i).map (·.2)=dM kv x
 | [],_,_=>rfl
 | (k,v) :: r,x,i=>by simp only [lr,dM]; split <;> simp [LU]
section
variable {c:dd} {E:List (Nat × I)} {L:List aM} {ops:Array Oper} {Q:Exit→Act→World→Prop}
variable {d:Option Tmp} {ty:TypeId} {pos:String} {af:Array Edge} {g:Option (Nat × Bool)} {x y z:Operand} {t t2:TypeId}
variable {bU:Type} [eY bU] {hp:aS bU} {loc:List aM}
theorem ah.VF {α β:Type} [ai α] [ai β] {rest:List Oper} {a7:Nat} (mk:bU) (ay:∀ p,eY.hB p mk= [⟨some p,.map ([]:List (α × β))⟩]) (aO:Nat.blt a7 c.n=true)
 (k:∀ p,p ∉ eN hp→ah c ops Q rest ((a7,.of (⟨some p⟩:gf)) :: E) (loc ++ aV ((p,mk) :: hp))):ah c ops Q (⟨some a7,.makeMap t none,ty,pos,af,none⟩ :: rest) E (loc ++ aV hp):=fun a W s=>by
 refine hy rfl (R:=fun v W'=>v= .map (some W.heap.size)∧W'=W.alloc (.map #[] 0)) (.kx ?_ ⟨rfl,rfl⟩) fun v W' ⟨a0,hw⟩=> ?_
 ·simp only [execOp,Instr.makeMap,newObj,Sem.run_bind,Sem.run_pure]; rfl
 ·subst a0
  subst hw
  refine k _ s.fresh _ _ (bx.put ?_ (by simpa using aO) (ve.2 rfl))
  refine(s.alloc (cp:= .map ([]:List (α × β))) ⟨#[],0,rfl,.nil,by simp,by simp⟩).perm ?_
  simp only [aV,ay,List.singleton_append]
  exact List.perm_middle.symm
theorem ah.HS {α β:Type} [ai α] [ai β] {rest:List Oper} {a7:Nat} (n:Nat) (al:L.drop n=aV hp) (mk:bU) (ay:∀ p,eY.hB p mk= [⟨some p,.map ([]:List (α × β))⟩]) (aO:Nat.blt a7 c.n=true) (k:∀ a:Nat × aS bU,a.1 ∉ hp.map (·.1)∧a.2=(a.1,mk) :: hp→ah c ops Q rest ((a7,.of (⟨some a.1⟩:gf)) :: E) (L.take n ++ aV a.2)):ah c ops Q (⟨some a7,.makeMap t none,ty,pos,af,none⟩ :: rest) E L:=by
 have e:L=L.take n ++ aV hp:=by rw [← al,List.take_append_drop]
 clear al
 generalize L.take n=loc at *
 subst e
 exact ah.VF (α:=α) (β:=β) mk ay aO fun p h=>k (p,(p,mk) :: hp) ⟨h,rfl⟩
theorem bx.ER {a:Act} {W:World} (s:bx c E L a W) {p:Nat} {α β:Type} [ai α] [ai β] {kv:List (α × β)} (hm:(⟨some p,.map kv⟩:aM)∈L):
 ∃ es clock,W.heap[p]? =some (.map es clock)∧kk (aQ L ++ c.bT) W es.toList kv∧ (∀ x∈es.toList,x.born < clock)∧ (es.toList.map MapEntry.born).Nodup:=by
 obtain⟨o,bb,es,clock,rfl,ad,aC,aU⟩:=s.own _ hm
 exact⟨es,clock,bb,ad,aC,aU⟩
theorem LV {a:Act} {W:World} (s:bx c E L a W) {p key elem:Nat} {α β:Type} [ai α] [ai β] [DecidableEq α] [Inhabited β] {kv:List (α × β)} {i:α} (hu:c.P.underlying t=some (.map key elem)) (ko:oj c.P key α) (gL:cF c.P elem (default:β))
 (an:a9 c E L x (.of (⟨some p⟩:gf))) (a5:a9 c E L y (.of i)) (hm:(⟨some p,.map kv⟩:aM)∈L):
 ∃ u,(I.of ((dM kv i).getD default)).holds (aQ L ++ c.bT) W u∧ ∀ ok,(Instr.lookup t (a.eval x) (a.eval y) ok).run c.P W= .ok (if ok then .tuple #[u,.bool (dM kv i).isSome] else u) W:=by
 obtain⟨es,clock,bb,ad,aC,aU⟩:=s.ER hm
 have l0:=ve.1 (an a W s)
 have oP:=a5 a W s
 obtain⟨r,aR,ba⟩:=GM ko oP ad
 obtain⟨fZ,ee,eo,db,JC⟩:=gL.zero
 have bs:(getObj p).run c.P W= .ok (.map es clock) W:=by simp [getObj,Sem.run,bb]
 have ak:=fun b=>ko.check b _ W _ i oP
 have yR:=LU kv i 0
 cases pt:lr kv i 0 with
 | none=>
   rw [pt] at ba yR
   cases r with
   | some q=>exact ba.elim
   | none=>
     refine⟨ee,by rw [← yR]; exact JC _ W,fun ok=> ?_⟩
     rw [← yR]
     simp [Instr.lookup,Sem.run_bind,run_underlying hu,l0,bs,ak,aR,zeroValue,typeInfo,eo,db]
 | some q=>
   rw [pt] at ba yR
   cases r with
   | none=>exact ba.elim
   | some mC=>
     refine⟨mC.2,by rw [← yR]; exact ba.2,fun ok=> ?_⟩
     rw [← yR]
     simp [Instr.lookup,Sem.run_bind,run_underlying hu,l0,bs,ak,aR]
theorem vb {p key elem:Nat} {α β:Type} [ai α] [ai β] [DecidableEq α] [Inhabited β] {kv:List (α × β)} {i:α} {r:β} (hu:c.P.underlying t=some (.map key elem)) (ko:oj c.P key α) (gL:cF c.P elem (default:β))
 (an:a9 c E L x (.of (⟨some p⟩:gf))) (a5:a9 c E L y (.of i)) (hm:(⟨some p,.map kv⟩:aM)∈L) (aR:(dM kv i).getD default=r):
 bS c E L ⟨d,.lookup t x y false,ty,pos,af,g⟩ (.of r):= .pure fun a W s=>by
 subst aR
 obtain⟨u,J,ad⟩:=LV s hu ko gL an a5 hm
 have aC:=ad false
 exact⟨u,by simp only [execOp,Sem.run_bind,aC,Result.andThen_ok]; rfl,J⟩
theorem Ha {p key elem:Nat} {α β:Type} [ai α] [ai β] [DecidableEq α] [Inhabited β] {kv:List (α × β)} {i:α} {r:Option β} (hu:c.P.underlying t=some (.map key elem)) (ko:oj c.P key α) (gL:cF c.P elem (default:β))
 (an:a9 c E L x (.of (⟨some p⟩:gf))) (a5:a9 c E L y (.of i)) (hm:(⟨some p,.map kv⟩:aM)∈L) (aR:dM kv i=r):
 bS c E L ⟨d,.lookup t x y true,ty,pos,af,g⟩ (.ed [.of (r.getD default),.of r.isSome]):= .pure fun a W s=>by
 subst aR
 obtain⟨u,J,ad⟩:=LV s hu ko gL an a5 hm
 have aC:=ad true
 exact⟨_,by simp only [execOp,Sem.run_bind,aC,Result.andThen_ok]; rfl,_,rfl,.cons J (.cons (of_bool.2 rfl) .nil)⟩
theorem UU {es:List MapEntry} {m:Nat} {e e':MapEntry} (h:es[m]? =some e) (hb:e'.born=e.born):(es.set m e').map MapEntry.born=es.map MapEntry.born:=by
 apply List.ext_getElem?
 intro j
 simp only [List.getElem?_map,List.getElem?_set]
 split
 ·rename_i aH
  subst aH
  have:=(List.getElem?_eq_some_iff.1 h).1
  rw [if_pos this,h]
  simp [hb]
 ·rfl
theorem ah.Wr {rest:List Oper} {op:Op} (su:op= .mapUpdate t x y z∨op= .insert t x y z) {p key elem:Nat} {k k':bU} {α β:Type} [ai α] [ai β] [lg α] [DecidableEq α] {kv qk:List (α × β)} {i:α} {v:β} (hu:c.P.underlying t=some (.map key elem)) (ko:oj c.P key α)
 (an:a9 c E (loc ++ aV hp) x (.of (⟨some p⟩:gf))) (a5:a9 c E (loc ++ aV hp) y (.of i)) (db:a9 c E (loc ++ aV hp) z (.of v)) (hp':pat hp p=some k) (ay:eY.hB p k= [⟨some p,.map kv⟩]) (wK:gO kv i v=qk) (iT:eY.hB p k'= [⟨some p,.map qk⟩])
 (m0:ah c ops Q rest E (loc ++ aV (df hp p k'))):ah c ops Q (⟨none,op,ty,pos,af,none⟩ :: rest) E (loc ++ aV hp):=fun a W s=>by
 subst wK
 obtain⟨es,clock,bb,ad,aC,aU⟩:=s.ER (eM (n:=loc.length) (by simp) hp' ay)
 have l0:=ve.1 (an a W s)
 have oP:=a5 a W s
 have Qp:=db a W s
 obtain⟨r,aR,ba⟩:=GM ko oP ad
 have bs:(getObj p).run c.P W= .ok (.map es clock) W:=by simp [getObj,Sem.run,bb]
 have ak:=ko.check false _ W _ i oP
 have b5:p < W.heap.size:=(Array.getElem?_eq_some_iff.1 bb).1
 have kd:∀ o,(setObj p o).run c.P W= .ok () (W.putObj p o):=fun o=>by simp only [setObj,Sem.run,bb]; rfl
 have key:∃ l1 vp,(Instr.mapUpdate t (a.eval x) (a.eval y) (a.eval z)).run c.P W= .ok () (W.putObj p (.map l1 vp))∧kk (aQ (loc ++ aV hp) ++ c.bT) W l1.toList (gO kv i v)∧ (∀ x∈l1.toList,x.born < vp)∧ (l1.toList.map MapEntry.born).Nodup:=by
  cases pt:lr kv i 0 with
  | none=>
    rw [pt] at ba
    cases r with
    | some q=>exact ba.elim
    | none=>
      obtain⟨aq,_⟩:=G0 ad pt
      refine⟨es.push { key:=a.eval y,val:=a.eval z,born:=clock },clock + 1,by simp [Instr.mapUpdate,Sem.run_bind,run_underlying hu,l0,bs,ak,aR,kd],by simpa using aq { key:=a.eval y,val:=a.eval z,born:=clock } v oP Qp,?_,?_⟩
      ·intro q hq
       simp only [Array.toList_push,List.mem_append,List.mem_singleton] at hq
       rcases hq with hq | rfl
       ·exact Nat.lt_succ_of_lt (aC q hq)
       ·exact Nat.lt_succ_self _
      ·simp only [Array.toList_push,List.map_append,List.map_cons,List.map_nil]
       refine List.nodup_append.2 ⟨aU,by simp,fun b hb b' wy=> ?_⟩
       simp only [List.mem_singleton] at wy
       subst wy
       obtain⟨q,hq,rfl⟩:=List.mem_map.1 hb
       exact Nat.ne_of_lt (aC q hq)
  | some q=>
    rw [pt] at ba
    cases r with
    | none=>exact ba.elim
    | some mC=>
      obtain⟨m,e,aq,bd,bN,dq,_⟩:=Hm ad pt
      have jk:mC.1=m:=by have:=ba.1; omega
      have hq:es[m]? =some e:=by simpa using bd
      have ki:=Ub (P:=c.P) bN oP W
      let e':MapEntry:= { e with key:=a.eval y,val:=a.eval z }
      have BH:(es.modify m fun e=> { e with key:=a.eval y,val:=a.eval z }).toList=es.toList.set m e':=by
       apply List.ext_getElem?
       intro j
       rw [Array.getElem?_toList,Array.getElem?_modify,List.getElem?_set,Array.getElem?_toList]
       by_cases aH:m=j
       ·subst aH
        rw [if_pos rfl,if_pos rfl,hq,if_pos (by simpa using (Array.getElem?_eq_some_iff.1 hq).1)]
        rfl
       ·rw [if_neg aH,if_neg aH]
      refine⟨es.modify m fun e=> { e with key:=a.eval y,val:=a.eval z },clock,by simp [Instr.mapUpdate,Sem.run_bind,run_underlying hu,l0,bs,ak,aR,kd,jk,hq,ki],by rw [BH]; exact dq e' v oP Qp,?_,?_⟩
      ·rw [BH]
       intro w hw
       rcases List.mem_or_eq_of_mem_set hw with hw | rfl
       ·exact aC w hw
       ·exact aC e (List.mem_of_getElem? bd)
      ·rw [BH,UU (e':=e') bd rfl]; exact aU
 obtain⟨l1,vp,h5,av,aX,c4⟩:=key
 obtain⟨R,aZ,bc⟩:=uX hp'
 have bc:=bc k'
 rw [ay] at aZ
 rw [iT] at bc
 have de:∀ {z:List (α × β)} {M:List aM},M.Perm ([⟨some p,.map z⟩] ++ R)→ (loc ++ M).Perm (⟨some p,.map z⟩ :: (loc ++ R)):=fun h=>(h.append_left loc).trans (by simp only [List.singleton_append]; exact List.perm_middle)
 have b6:=(s.perm (de aZ)).p0 (i:=0) (cp':= .map (gO kv i v)) rfl (o':= .map l1 vp) ⟨l1,vp,rfl,av.mono (m6 (de aZ)),aX,c4⟩
 refine hy rfl (R:=fun v W'=>W'=W.putObj p (.map l1 vp)) (.xT ?_ rfl) fun v W' hw=> ?_
 ·rcases su with rfl | rfl <;> simp [execOp,h5]
 ·subst hw
  exact m0 _ _ (b6.perm (de bc).symm)
theorem ah.Ir {rest:List Oper} {op:Op} (n:Nat) (al:L.drop n=aV hp) (su:op= .mapUpdate t x y z∨op= .insert t x y z) {p key elem:Nat} {k k':bU} {cO:aS bU} {α β:Type} [ai α] [ai β] [lg α] [DecidableEq α] {kv qk:List (α × β)} {i:α} {v:β} (hu:c.P.underlying t=some (.map key elem)) (ko:oj c.P key α) (an:a9 c E L x (.of (⟨some p⟩:gf))) (a5:a9 c E L y (.of i)) (db:a9 c E L z (.of v)) (hp':pat hp p=some k) (ay:eY.hB p k= [⟨some p,.map kv⟩]) (wK:gO kv i v=qk) (iT:eY.hB p k'= [⟨some p,.map qk⟩]) (db:df hp p k'=cO) (m0:ah c ops Q rest E (L.take n ++ aV cO)):ah c ops Q (⟨none,op,ty,pos,af,none⟩ :: rest) E L:=by
 subst db
 have e:L=L.take n ++ aV hp:=by rw [← al,List.take_append_drop]
 clear al
 generalize L.take n=loc at *
 subst e
 exact ah.Wr su hu ko an a5 db hp' ay wK iT m0
theorem ah.Ws {rest:List Oper} {p key elem:Nat} {k k':bU} {α β:Type} [ai α] [ai β] [DecidableEq α] {kv qk:List (α × β)} {i:α} (hu:c.P.underlying t=some (.map key elem)) (ko:oj c.P key α)
 (an:a9 c E (loc ++ aV hp) x (.of (⟨some p⟩:gf))) (a5:a9 c E (loc ++ aV hp) y (.of i)) (hp':pat hp p=some k) (ay:eY.hB p k= [⟨some p,.map kv⟩]) (wK:hR kv i=qk) (iT:eY.hB p k'= [⟨some p,.map qk⟩])
 (m0:ah c ops Q rest E (loc ++ aV (df hp p k'))):ah c ops Q (⟨none,.call ⟨.builtin .delete,#[x,y],#[t,t2]⟩,ty,pos,af,none⟩ :: rest) E (loc ++ aV hp):=fun a W s=>by
 subst wK
 obtain⟨es,clock,bb,ad,aC,aU⟩:=s.ER (eM (n:=loc.length) (by simp) hp' ay)
 have l0:=ve.1 (an a W s)
 have oP:=a5 a W s
 obtain⟨r,aR,ba⟩:=GM ko oP ad
 have bs:(getObj p).run c.P W= .ok (.map es clock) W:=by simp [getObj,Sem.run,bb]
 have ak:=fun b=>ko.check b _ W _ i oP
 have kd:∀ o,(setObj p o).run c.P W= .ok () (W.putObj p o):=fun o=>by simp only [setObj,Sem.run,bb]; rfl
 have key:∃ l1,(Builtin.delete_ #[t,t2] ty #[a.eval x,a.eval y]).run c.P W= .ok (.tuple #[]) (W.putObj p (.map l1 clock))∧kk (aQ (loc ++ aV hp) ++ c.bT) W l1.toList (hR kv i)∧ (∀ x∈l1.toList,x.born < clock)∧ (l1.toList.map MapEntry.born).Nodup:=by
  cases pt:lr kv i 0 with
  | none=>
    rw [pt] at ba
    cases r with
    | some q=>exact ba.elim
    | none=>
      obtain⟨_,aq⟩:=G0 ad pt
      exact⟨es,by simp [Builtin.delete_,Sem.run_bind,run_underlying hu,l0,bs,ak,aR,kd],by rw [aq]; exact ad,aC,aU⟩
  | some q=>
    rw [pt] at ba
    cases r with
    | none=>exact ba.elim
    | some mC=>
      obtain⟨m,e,aq,bd,_,_,k9⟩:=Hm ad pt
      have jk:mC.1=m:=by have:=ba.1; omega
      have hm:m < es.size:=by simpa using (List.getElem?_eq_some_iff.1 bd).1
      have he:(es.eraseIdxIfInBounds m).toList=es.toList.eraseIdx m:=by simp [Array.eraseIdxIfInBounds,hm]
      have kZ:(es.toList.eraseIdx m).Sublist es.toList:=List.eraseIdx_sublist _ _
      exact⟨es.eraseIdxIfInBounds m,by simp [Builtin.delete_,Sem.run_bind,run_underlying hu,l0,bs,ak,aR,kd,jk],by rw [he]; exact k9,by rw [he]; exact fun w hw=>aC w (kZ.subset hw),by rw [he]; exact(kZ.map _).nodup aU⟩
 obtain⟨l1,h5,av,aX,c4⟩:=key
 obtain⟨R,aZ,bc⟩:=uX hp'
 have bc:=bc k'
 rw [ay] at aZ
 rw [iT] at bc
 have de:∀ {z:List (α × β)} {M:List aM},M.Perm ([⟨some p,.map z⟩] ++ R)→ (loc ++ M).Perm (⟨some p,.map z⟩ :: (loc ++ R)):=fun h=>(h.append_left loc).trans (by simp only [List.singleton_append]; exact List.perm_middle)
 have b6:=(s.perm (de aZ)).p0 (i:=0) (cp':= .map (hR kv i)) rfl (o':= .map l1 clock) ⟨l1,clock,rfl,av.mono (m6 (de aZ)),aX,c4⟩
 refine hy rfl (R:=fun v W'=>W'=W.putObj p (.map l1 clock)) (.kx (v:= .tuple #[]) ?_ rfl) fun v W' hw=> ?_
 ·simp [execOp,resolve,invoke,builtin,h5]
 ·subst hw
  exact m0 _ _ (b6.perm (de bc).symm)
theorem ah.Iw {rest:List Oper} {p key elem:Nat} {k k':bU} {cO:aS bU} {α β:Type} [ai α] [ai β] [DecidableEq α] {kv qk:List (α × β)} {i:α} (n:Nat) (al:L.drop n=aV hp) (hu:c.P.underlying t=some (.map key elem)) (ko:oj c.P key α) (an:a9 c E L x (.of (⟨some p⟩:gf))) (a5:a9 c E L y (.of i)) (hp':pat hp p=some k) (ay:eY.hB p k= [⟨some p,.map kv⟩]) (wK:hR kv i=qk) (iT:eY.hB p k'= [⟨some p,.map qk⟩]) (db:df hp p k'=cO) (m0:ah c ops Q rest E (L.take n ++ aV cO)):ah c ops Q (⟨none,.call ⟨.builtin .delete,#[x,y],#[t,t2]⟩,ty,pos,af,none⟩ :: rest) E L:=by
 subst db
 have e:L=L.take n ++ aV hp:=by rw [← al,List.take_append_drop]
 clear al
 generalize L.take n=loc at *
 subst e
 exact ah.Ws hu ko an a5 hp' ay wK iT m0
end
theorem Wt {P:Program} {t:TypeId} (h:P.underlying t=some (.int .i64)):oj P t Int where
 check b A W u x an:=Mg (α:=Int) h rfl b 10000 A W u x (by decide) an
 same A W u v x y an a5:=by
  have:=(M8 h).run 10000 (by decide) A W u v x y an a5
  simpa [Op.equal,Op.maxDepth] using this
 now:=⟨_,h,fun A W u v x y an a5=> .inr (by
  rw [of_int.1 an,of_int.1 a5]
  simp only [Instr.sameNow,if_pos]
  rfl)⟩
theorem NU {P:Program} {t:TypeId} {α:Type} [ai α] [DecidableEq α] {D:TypeDesc} {n m:Nat} (h:P.underlying t=some D) (lb:(match (motive:=TypeDesc→Bool) D with | .array _ _ | .struct _=>true | _=>false)=true) (ab5:rq P t α n) (wY:mu P t α m) (aO:Nat.ble n 10000=true) (hm:Nat.ble m 10000=true):oj P t α where
 check b A W u x an:=ab5 b 10000 A W u x (Nat.le_of_ble_eq_true aO) an
 same A W u v x y an a5:=by
  have:=wY.run 10000 (Nat.le_of_ble_eq_true hm) A W u v x y an a5
  simpa [Op.equal,Op.maxDepth] using this
 now:=⟨_,h,fun A W u v x y an a5=> .inl (by cases D <;> simp at lb <;> rfl)⟩
structure ie (P:Program) (t:TypeId) (name:String) (f:FuncId):Prop where
 run:∀ v W args,(callMethod (.iface t v) name args).run P W= .ok (.enter f (#[v] ++ args)) W
theorem ie.of {P:Program} {t:TypeId} {name:String} {f:FuncId} {i:TypeInfo} {D:TypeDesc} {m:Method} (au:P.info? t=some i) (hm:i.methods.find? (fun x=>x.name ==name)=some m) (hp:m.path= #[]) (ba:m.func=some (f,false)) (lb:P.underlying t=some D)
 (aO:(match (motive:=TypeDesc→Bool) D with | .pointer _=>false | _=>true)=true) (ej:bH P f):ie P t name f where
 run v W args:=by
  have aba:∀ args,(callFunc f args).run P W= .ok (.enter f args) W:=fun args=>ej.run ..
  have eb:∀ n,(method (n + 1) t v name).run P W= .ok (f,v) W:=fun n=>by
   simp only [method,Sem.run_bind,typeInfo,run_program,Result.andThen_ok,au,Sem.run_pure,hm,hp,ba,follow,receiverAt,run_underlying lb]
   cases D <;> simp at aO <;> simp [Place.get]
  obtain⟨n,aO⟩:∃ n,P.types.size + Made.depth=n + 1:=⟨P.types.size + Made.depth - 1,by simp [Made.depth]⟩
  simp only [callMethod,Sem.run_bind,run_program,Result.andThen_ok,aO,eb,aba]
theorem ie.pv {P:Program} {t:TypeId} {name:String} {f:FuncId} {D:TypeDesc} (hm:((P.info? t).bind fun i=>(i.methods.find? (fun x=>x.name ==name)).map fun m=>(m.path.size,m.func))=some (0,some (f,false))) (lb:P.underlying t=some D)
 (aO:(match (motive:=TypeDesc→Bool) D with | .pointer _=>false | _=>true)=true) (ej:bH P f):ie P t name f:=by
 cases au:P.info? t with
 | none=>rw [au] at hm; cases hm
 | some i=>
   rw [au] at hm
   simp only [Option.bind_some] at hm
   cases ad:i.methods.find? (fun x=>x.name ==name) with
   | none=>rw [ad] at hm; cases hm
   | some m=>
     rw [ad] at hm
     simp only [Option.map_some,Option.some.injEq,Prod.mk.injEq] at hm
     exact ie.of au ad (Array.eq_empty_of_size_eq_zero hm.1) hm.2 lb aO ej
theorem bM.map {P:Program} {f:FuncId} {τs:List I} {Lin:List aM} {δ JT:Type} {ρ:δ→I} {Lo:δ→List aM} {Cw:JT→I} {Qq:JT→List aM} (F:δ→JT) (aR:∀ d,Cw (F d)=ρ d) (ao:∀ d,Qq (F d)=Lo d) (h:bM P f τs Lin ρ Lo):bM P f τs Lin Cw Qq:=
 fun A W vs J ad aC aU a1=>(h A W vs J ad aC aU a1).mono fun e W' ⟨v,d,az,c7,dZ,l3,er,l4⟩=>⟨v,F d,az,c7,by rw [ao]; exact dZ,by rw [ao]; exact l3,by rw [ao]; exact er,by rw [ao,aR]; exact l4⟩
structure ku (P:Program) (name:String) (τ:I) (τs:List I) (Lin:List aM) {δ:Type} (ρ:δ→I) (Lo:δ→List aM):Prop where
 go:∀ (A:List Nat) (W:World) (u:Value) (vs:List Value),(∀ k∈A,k < W.heap.size∧k ∉ aQ Lin)→ (aQ Lin).Nodup→ (∀ k∈aQ Lin,k < W.heap.size)→ (∀ e∈Lin,e.ok (aQ Lin ++ A) W)→gB (aQ Lin ++ A) W (τ :: τs) (u :: vs)→
  ∃ f v,(∀ args,(callMethod u name args).run P W= .ok (.enter f (#[v] ++ args)) W)∧Calls P f (v :: vs).toArray W (j9 (aQ Lin) A W ρ Lo)
theorem ku.of {P:Program} {name:String} {t:TypeId} {f:FuncId} {τ σ:I} {τs:List I} {Lin:List aM} {δ:Type} {ρ:δ→I} {Lo:δ→List aM} (mt:ie P t name f) (JU:∀ A W u,τ.holds A W u→ ∃ v,u= .iface t v∧σ.holds A W v)
 (h:bM P f (σ :: τs) Lin ρ Lo):ku P name τ τs Lin ρ Lo where
 go A W u vs J ad aC aU a1:=by
  cases a1 with
  | cons bk cT=>
    obtain⟨v,rfl,fa⟩:=JU _ _ _ bk
    exact⟨f,v,fun args=>mt.run v W args,h A W (v :: vs) J ad aC aU (.cons fa cT)⟩
section
variable {c:dd} {E:List (Nat × I)} {L:List aM} {ops:Array Oper} {Q:Exit→Act→World→Prop}
variable {d:Option Tmp} {ty:TypeId} {pos:String} {af:Array Edge} {g:Option (Nat × Bool)} {x y z:Operand} {t t2:TypeId}
theorem My {a:Act} {W:World} {name:String} {xs:List Operand} {ats:Array TypeId} {τ:I} {τs:List I} {Lin Lr:List aM} {δ:Type} {ρ:δ→I} {Lo:δ→List aM} (h:ku c.P name τ τs Lin ρ Lo)
 (s:bx c E (Lin ++ Lr) a W) (an:gB (aQ (Lin ++ Lr) ++ c.bT) W (τ :: τs) ((x :: xs).map a.eval)):
 gD c.P ⟨d,.call ⟨.invoke x name,xs.toArray,ats⟩,ty,pos,af,g⟩ a W fun v W'=> ∃ a7,bx c E (Lo a7 ++ Lr) a W'∧ (ρ a7).holds (aQ (Lo a7 ++ Lr) ++ c.bT) W' v:=by
 have ml:=s.nodup
 rw [eS] at ml
 obtain⟨nv,oO,qd⟩:=List.nodup_append.1 ml
 have kd:Ext (aQ (Lin ++ Lr) ++ c.bT) W (aQ Lin ++ (aQ Lr ++ c.bT)) W:=AN
 have fY:∀ k∈aQ Lr ++ c.bT,k < W.heap.size∧k ∉ aQ Lin:=fun k hm=>by
  rcases List.mem_append.1 hm with hm | hm
  ·exact⟨s.lt k (by rw [eS]; exact List.mem_append.2 (.inr hm)),fun h=>qd k h k hm rfl⟩
  ·obtain⟨J,ad⟩:=s.eW k hm
   exact⟨J,fun h=>ad (by rw [eS]; exact List.mem_append.2 (.inl h))⟩
 have b5:∀ k∈aQ Lin,k < W.heap.size:=fun k hm=>s.lt k (by rw [eS]; exact List.mem_append.2 (.inl hm))
 obtain⟨f,v,h5,ak⟩:=h.go (aQ Lr ++ c.bT) W (a.eval x) (xs.map a.eval) fY nv b5 (fun e he=>aM.tj (s.own e (List.mem_append.2 (.inl he))) kd fun _ _=>rfl) (by simpa using an.mono kd)
 refine .u4 (f:=f) (args:=(v :: xs.map a.eval).toArray) (W':=W) ?_ (ak.mono fun e W' ⟨v,a7,he,ba,J,ad,aC,aU⟩=> ?_)
 ·have:=h5 (xs.map a.eval).toArray
  simp only [execOp,resolve,Sem.run_bind,Sem.run_pure,Result.andThen_ok,invoke]
  simp only [List.map_toArray] at this ⊢
  simp
  rw [List.take_of_length_le (by simp),this]
  simp
 ·refine⟨v,he,a7,s.after ba J ad aC,(ρ a7).mono Hl aU⟩
variable {bU:Type} [eY bU] {hp:aS bU}
theorem ah.yr {rest:List Oper} {a7:Nat} {name:String} {xs:List Operand} {ats:Array TypeId} {τ:I} {τs:List I} {Lin Lr:List aM} {δ:Type} {ρ:δ→I} {Lo:δ→List aM} {hq:δ→aS bU} (n m:Nat) (al:L.drop n=aV hp) (h:ku c.P name τ τs (Lin ++ aV hp) ρ (fun d=>Lo d ++ aV (hq d)))
 (J:(L.take n).take m=Lin) (ad:(L.take n).drop m=Lr) (an:hJ c E L (x :: xs) (τ :: τs)) (aO:Nat.blt a7 c.n=true) (k:∀ q,ah c ops Q rest ((a7,ρ q) :: E) ((Lo q ++ Lr) ++ aV (hq q))):
 ah c ops Q (⟨some a7,.call ⟨.invoke x name,xs.toArray,ats⟩,ty,pos,af,none⟩ :: rest) E L:=by
 have e:L=(Lin ++ Lr) ++ aV hp:=by rw [← J,← ad,List.take_append_drop,← al,List.take_append_drop]
 clear al J ad
 subst e
 exact fun a W s=>hy rfl (My (Lr:=Lr) h (s.perm nK) ((an.holds a W s).mono (m6 nK))) fun v W' ⟨q,b6,a0⟩=>
  k q _ _ ((b6.perm nK).put (by simpa using aO) ((ρ q).mono (m6 nK) a0))
theorem fG.yr {name:String} {xs:List Operand} {ats:Array TypeId} {τ:I} {τs:List I} {ρ:I} (n:Nat) (al:L.drop n=aV hp) (h:ku c.P name τ τs (aV hp) (fun _:Unit=>ρ) (fun _=>aV hp))
 (an:hJ c E L (x :: xs) (τ :: τs)):fG c E L ⟨d,.call ⟨.invoke x name,xs.toArray,ats⟩,ty,pos,af,g⟩ ρ:=fun a W s=>by
 have e:L=L.take n ++ aV hp:=by rw [← al,List.take_append_drop]
 have de:L.Perm (aV hp ++ L.take n):=by
  conv=>lhs; rw [e]
  exact List.perm_append_comm
 have bb:=My (d:=d) (ty:=ty) (pos:=pos) (af:=af) (g:=g) (ats:=ats) (Lr:=L.take n) h (s.perm de) ((an.holds a W s).mono (m6 de))
 unfold gD at bb ⊢
 exact Oper.wp_mono (fun gw W' ⟨v,J,_,ad,aC⟩=>⟨v,J,ad.perm de.symm,ρ.mono (m6 de.symm) aC⟩) bb
theorem HT {D:TypeDesc} {σ τ:I} (hu:c.P.underlying t=some D) (lb:(match (motive:=TypeDesc→Bool) D with | .interface _=>false | _=>true)=true) (an:a9 c E L x σ) (JU:∀ A W v,σ.holds A W v→τ.holds A W (.iface t v)):
 bS c E L ⟨d,.makeInterface t x,ty,pos,af,g⟩ τ:= .pure fun a W s=>
 ⟨.iface t (a.eval x),by
   simp only [execOp,Instr.makeInterface,Sem.run_bind,run_underlying hu,Result.andThen_ok]
   cases D <;> simp at lb <;> rfl,JU _ _ _ (an a W s)⟩
end
end Gv
