/-
  The library of the decompiler, as far as it is needed here. Conditions: none.
-/
import Derived.Lib.AppendZerosOnto
import Derived.Lib.Overlaps
import Derived.MapKept
import Derived.Test.YtmnggbjcnoffeaaGreatMl0
namespace Gv
open Go
set_option linter.unusedVariables false
set_option linter.unusedSimpArgs false
def jz:Value:= .slice none 0 0
def blank:List (Nat × Value)→List Value→List Value
 | [],cs=>cs
 | o :: r,cs=>blank r (cs.set o.1 jz)
theorem xP:∀ {os:List (Nat × Value)} {cs:List Value},(blank os cs).length=cs.length
 | [],_=>rfl
 | o :: r,cs=>by rw [blank,xP,List.length_set]
theorem px:∀ {os:List (Nat × Value)} {cs:List Value} (i:Nat),(blank os cs)[i]? =if os.any (fun h=>Nat.beq h.1 i)=true then cs[i]?.map (fun _=>jz) else cs[i]?
 | [],_,i=>by simp [blank]
 | o :: r,cs,i=>by
   rw [blank,px i,List.any_cons]
   by_cases h:o.1=i
   ·subst h
    simp only [Nat.beq_refl,Bool.true_or,if_true,List.getElem?_set]
    by_cases ar:o.1 < cs.length
    ·simp [ar]
    ·simp [ar]
   ·have hb:Nat.beq o.1 i=false:=by
     cases hb:Nat.beq o.1 i
     ·rfl
     ·exact absurd (dX.1 hb) h
    rw [hb,Bool.false_or,List.getElem?_set_ne h]
def rT (os:List (Nat × Value)) (off n:Nat):Bool:=os.all fun h=>Nat.blt h.1 off || Nat.ble (off + n) h.1
theorem IT {os:List (Nat × Value)} {off n i:Nat} (h:rT os off n=true) (J:off≤i) (ad:i < off + n):os.any (fun h=>Nat.beq h.1 i)=false:=by
 rw [List.any_eq_false]
 intro x ak hb
 have ax:=List.all_eq_true.1 h x ak
 have aR:=dX.1 hb
 simp only [Bool.or_eq_true,Nat.blt_eq,Nat.ble_eq] at ax
 omega
theorem QE {os:List (Nat × Value)} {off n:Nat} {cs:List Value} (h:rT os off n=true):((blank os cs).drop off).take n=(cs.drop off).take n:=by
 apply List.ext_getElem?
 intro i
 simp only [List.getElem?_take,List.getElem?_drop]
 split
 ·rw [px,IT h (by omega) (by omega)]; rfl
 ·rfl
theorem s7 {cs ds:List Value} {off:Nat} (h:off + ds.length≤cs.length) (i:Nat):(fw cs off ds)[i]? =if i < off then cs[i]? else if i < off + ds.length then ds[i - off]? else cs[i]? :=by
 have J:(cs.take off).length=off:=by rw [List.length_take]; omega
 unfold fw
 rw [List.append_assoc]
 by_cases aq:i < off
 ·rw [if_pos aq,List.getElem?_append_left (by omega),List.getElem?_take,if_pos aq]
 ·rw [if_neg aq,List.getElem?_append_right (by omega),J]
  by_cases ad:i < off + ds.length
  ·rw [if_pos ad,List.getElem?_append_left (by omega)]
  ·rw [if_neg ad,List.getElem?_append_right (by omega),List.getElem?_drop]
   congr 1; omega
theorem PG {os:List (Nat × Value)} {off:Nat} {cs ds:List Value} (h:rT os off ds.length=true) (hs:off + ds.length≤cs.length):blank os (fw cs off ds)=fw (blank os cs) off ds:=by
 apply List.ext_getElem?
 intro i
 rw [px,s7 hs,s7 (by rw [xP]; exact hs),px]
 by_cases J:i < off
 ·simp only [if_pos J]
 ·simp only [if_neg J]
  by_cases ad:i < off + ds.length
  ·simp only [if_pos ad,IT h (Nat.not_lt.1 J) ad]; rfl
  ·simp only [if_neg ad]
def rO (os:List (Nat × Value)) (o:Nat) (u:Value):List (Nat × Value):=
 bif os.any (fun h=>Nat.beq h.1 o) then os.map (fun h=>bif Nat.beq h.1 o then(o,u) else h) else(o,u) :: os
theorem PU {os:List (Nat × Value)} {o:Nat} {u:Value} {h:Nat × Value} (hm:h∈rO os o u):h=(o,u)∨ (h∈os∧h.1≠o):=by
 unfold rO at hm
 cases hb:os.any (fun h=>Nat.beq h.1 o)
 ·rw [hb] at hm
  simp only [cond_false] at hm
  rcases List.mem_cons.1 hm with hm | hm
  ·exact .inl hm
  ·refine .inr ⟨hm,fun e=> ?_⟩
   have:=List.any_eq_false.1 hb h hm
   exact this (dX.2 e)
 ·rw [hb] at hm
  simp only [cond_true] at hm
  obtain⟨x,ak,he⟩:=List.mem_map.1 hm
  cases J:Nat.beq x.1 o
  ·rw [J] at he
   simp only [cond_false] at he
   subst he
   exact .inr ⟨ak,fun e=>by rw [dX.2 e] at J; cases J⟩
  ·rw [J] at he
   exact .inl he.symm
theorem PV {os:List (Nat × Value)} {o i:Nat} {u:Value} :(rO os o u).any (fun h=>Nat.beq h.1 i)=(Nat.beq o i || os.any (fun h=>Nat.beq h.1 i)):=by
 unfold rO
 cases hb:os.any (fun h=>Nat.beq h.1 o)
 ·simp only [cond_false,List.any_cons]
 ·simp only [cond_true,List.any_map]
  rw [Bool.eq_iff_iff,Bool.or_eq_true,List.any_eq_true,List.any_eq_true]
  constructor
  ·rintro ⟨x,ak,he⟩
   simp only [Function.comp] at he
   cases J:Nat.beq x.1 o
   ·rw [J] at he
    exact .inr ⟨x,ak,he⟩
   ·rw [J] at he
    exact .inl he
  ·rintro (h | ⟨x,ak,he⟩)
   ·obtain⟨x,ak,J⟩:=List.any_eq_true.1 hb
    exact⟨x,ak,by simp only [Function.comp,J,cond_true]; exact h⟩
   ·refine⟨x,ak,?_⟩
    simp only [Function.comp]
    cases J:Nat.beq x.1 o
    ·exact he
    ·have aE:=dX.1 J; have bd:=dX.1 he
     simp only [cond_true]; exact dX.2 (by omega)
def my (os:List (Nat × Value)) (o:Nat):List (Nat × Value):=os.filter (fun h=> !Nat.beq h.1 o)
theorem PW {os:List (Nat × Value)} {o i:Nat} :(my os o).any (fun h=>Nat.beq h.1 i)=(!(Nat.beq o i) && os.any (fun h=>Nat.beq h.1 i)):=by
 rw [Bool.eq_iff_iff]
 simp only [List.any_eq_true,Bool.and_eq_true,Bool.not_eq_true',my,List.mem_filter]
 constructor
 ·rintro ⟨x,⟨J,ad⟩,ax⟩
  refine⟨?_,x,J,ax⟩
  cases hb:Nat.beq o i
  ·rfl
  ·have:=dX.1 hb; have aR:=dX.1 ax
   rw [aR,← this,Nat.beq_refl] at ad; cases ad
 ·rintro ⟨bB,x,J,ax⟩
  refine⟨x,⟨J,?_⟩,ax⟩
  cases hb:Nat.beq x.1 o
  ·rfl
  ·have:=dX.1 hb; have aR:=dX.1 ax
   rw [← this,aR,Nat.beq_refl] at bB; cases bB
def kr {α:Type} [ae α] (A:List Nat) (W:World) (cs:List Value) (x:α) (os:List (Nat × Value)):Prop:=ae.rep A W (blank os cs) x∧ ∀ h∈os,cs[h.1]? =some h.2∧h.2.oneCell'=true
theorem kr.len {α:Type} [ae α] {A W} {cs:List Value} {x:α} {os:List (Nat × Value)} (h:kr A W cs x os):cs.length=ae.size α:=by rw [← xP (os:=os)]; exact ae.len h.1
theorem kr.mono {α:Type} [ae α] {A W cN W'} {cs:List Value} {x:α} {os:List (Nat × Value)} (e:Ext A W cN W') (h:kr A W cs x os):kr cN W' cs x os:=⟨ae.mono e h.1,h.2⟩
theorem kr.one {α:Type} [ae α] {A W} {cs:List Value} {x:α} {os:List (Nat × Value)} (h:kr A W cs x os):∀ u∈cs,u.oneCell'=true:=by
 intro u hu
 obtain⟨i,aq⟩:=List.mem_iff_getElem?.1 hu
 by_cases hb:os.any (fun h=>Nat.beq h.1 i)=true
 ·obtain⟨o,a6,he⟩:=List.any_eq_true.1 hb
  have he:=dX.1 he
  obtain⟨J,ad⟩:=h.2 o a6
  rw [he,aq] at J
  cases J; exact ad
 ·have J:=px (os:=os) (cs:=cs) i
  rw [if_neg hb,aq] at J
  exact ae.one h.1 u (List.mem_of_getElem? J)
def dA.bU {α:Type} [ae α] (x:α) (os:List (Nat × Value)):dA where
 holds A W o:= ∃ cs T,o= .cells cs T (0,0)∧kr A W cs.toList x os
 mF:=False
 mono e h:=let⟨cs,T,a6,aQ⟩:=h; ⟨cs,T,a6,aQ.mono e⟩
def I.GN {α:Type} [ae α] (x:α) (os:List (Nat × Value)):I where
 holds A W v:=shaped (ae.agg α) v∧kr A W v.cells.toList x os
 mono e h:=⟨h.1,h.2.mono e⟩
structure fj where
 v:Value
instance:ae fj where
 size:=1
 agg:=false
 rep _ _ cs x:=cs= [x.v]∧x.v.oneCell'=true
 len h:=by rw [h.1]; rfl
 one h:=by rw [h.1]; intro u hu; rw [List.mem_singleton.1 hu]; exact h.2
 flat _:=rfl
 mono _ h:=h
theorem LO {A W v} {u:Value} :(I.of (⟨u⟩:fj)).holds A W v↔v=u∧u.oneCell'=true:=by
 constructor
 ·rintro ⟨J,ad,ax⟩
  have J:v.oneCell'=true:=J
  exact⟨m6 J ad,ax⟩
 ·rintro ⟨rfl,h⟩
  exact⟨h,by show v.cells.toList= [v]∧_; rw [nM h]; exact⟨rfl,h⟩⟩
theorem bq.ex {P:Program} {t:TypeId} {γ:Type} [ae γ] (h:bq P t (List γ)):bq P t fj:=⟨h.size,h.M0⟩
theorem ih {key:Option Nat} {n cap:Nat} :(a5 key n cap).oneCell'=true:=by cases key <;> rfl
theorem RL {A W} {γ:Type} [ae γ]:ae.rep A W [jz] ([]:List γ):=⟨jz,rfl,.inl ⟨rfl,rfl⟩⟩
theorem Jt {α γ:Type} [ae α] [ae γ] {A W} {cs ds:List Value} {x:α} {v:γ} {os:List (Nat × Value)} (l:aO α γ) (h:kr A W cs x os) (hd:ae.rep A W ds v) (bg:rT os l.off (ae.size γ)=true):kr A W (fw cs l.off ds) (l.set x v) os:=by
 have J:=h.len
 have ec:=l.fI
 have ar:=ae.len hd
 refine⟨?_,fun o hm=> ?_⟩
 ·have bc:=l.kk h.1 hd
  rw [PG (by rw [ar]; exact bg) (by rw [ar]; omega)]
  simpa [fw,ar] using bc
 ·refine⟨?_,(h.2 o hm).2⟩
  rw [s7 (by rw [ar]; omega)]
  have cn:=List.all_eq_true.1 bg o hm
  simp only [Bool.or_eq_true,Nat.blt_eq,Nat.ble_eq] at cn
  rw [ar]
  by_cases eo:o.1 < l.off
  ·rw [if_pos eo]; exact(h.2 o hm).1
  ·rw [if_neg eo,if_neg (by omega)]; exact(h.2 o hm).1
theorem Jb {α γ:Type} [ae α] [ae γ] {A W} {cs:List Value} {x:α} {u:Value} {os:List (Nat × Value)} (l:aO α (List γ)) (h:kr A W cs x os) (hu:u.oneCell'=true):kr A W (fw cs l.off [u]) (l.set x []) (rO os l.off u):=by
 have J:=h.len
 have ec:l.off + 1≤ae.size α:=l.fI
 refine⟨?_,fun o hm=> ?_⟩
 ·have bc:ae.rep A W ((blank os cs).take l.off ++ [jz] ++ (blank os cs).drop (l.off + 1)) (l.set x []):=l.kk h.1 (RL (γ:=γ))
  have e:blank (rO os l.off u) (fw cs l.off [u])=fw (blank os cs) l.off [jz]:=by
   apply List.ext_getElem?
   intro i
   rw [px,s7 (by simp; omega),s7 (by rw [xP]; simp; omega),px]
   rw [PV]
   by_cases aq:l.off=i
   ·subst aq
    simp
   ·have hb:Nat.beq l.off i=false:=by
     cases hb:Nat.beq l.off i
     ·rfl
     ·exact absurd (dX.1 hb) aq
    rw [hb]
    simp only [Bool.false_or,List.length_singleton]
    by_cases ad:i < l.off
    ·simp only [if_pos ad]
    ·have fx: ¬ i < l.off + 1:=by omega
     simp only [if_neg ad,if_neg fx]
  rw [e]
  simpa [fw] using bc
 ·rw [s7 (by simp; omega)]
  rcases PU hm with rfl | ⟨ax,cQ⟩
  ·exact⟨by simp,hu⟩
  ·
   simp only [List.length_singleton]
   refine⟨?_,(h.2 o ax).2⟩
   by_cases eo:o.1 < l.off
   ·rw [if_pos eo]; exact(h.2 o ax).1
   ·rw [if_neg eo,if_neg (by omega)]; exact(h.2 o ax).1
theorem Jc {α γ:Type} [ae α] [ae γ] {A W} {cs:List Value} {x:α} {u:Value} {xs:List γ} {os:List (Nat × Value)} (l:aO α (List γ)) (h:kr A W cs x os) (hm:(l.off,u)∈os) (hs:mX A W u xs):kr A W cs (l.set x xs) (my os l.off):=by
 have J:=h.len
 have ec:l.off + 1≤ae.size α:=l.fI
 have WE:=(h.2 _ hm).1
 refine⟨?_,fun o a6=>h.2 o (List.mem_filter.1 a6).1⟩
 have bc:ae.rep A W ((blank os cs).take l.off ++ [u] ++ (blank os cs).drop (l.off + 1)) (l.set x xs):=l.kk h.1 (ds:= [u]) (g:=xs) ⟨u,rfl,hs⟩
 have e:blank (my os l.off) cs=fw (blank os cs) l.off [u]:=by
  apply List.ext_getElem?
  intro i
  rw [px,s7 (by rw [xP]; simp; omega),px,PW]
  by_cases aq:l.off=i
  ·subst aq
   simp [WE]
  ·have hb:Nat.beq l.off i=false:=by
    cases hb:Nat.beq l.off i
    ·rfl
    ·exact absurd (dX.1 hb) aq
   rw [hb]
   simp only [Bool.not_false,Bool.true_and,List.length_singleton]
   by_cases ad:i < l.off
   ·simp only [if_pos ad]
   ·have fx: ¬ i < l.off + 1:=by omega
    simp only [if_neg ad,if_neg fx]
 rw [e]
 simpa [fw] using bc
section
variable {c:cT} {E:List (Nat × I)} {L:List aF} {ops:Array Oper} {Q:Exit→Act→World→Prop}
variable {d:Option Tmp} {ty:TypeId} {pos:String} {af:Array Edge} {g:Option (Nat × Bool)} {x y:Operand} {t t2:TypeId}
theorem bs.vQ {a:Act} {W:World} (s:bs c E L a W) {i:Nat} {key:Option Nat} {cp cp':dA} (an:L[i]? =some ⟨key,cp⟩) (h:∀ o,cp.holds (aJ L ++ c.bM) W o→cp'.holds (aJ L ++ c.bM) W o) (aL:cp.mF→cp'.mF):bs c E (L.set i ⟨key,cp'⟩) a W:=by
 have gB:aJ (L.set i ⟨key,cp'⟩)=aJ L:=vO (e:=⟨key,cp⟩) (cp:=cp') an
 exact
 {defers:=s.defers
  size:=s.size
  env:=fun t τ ar=>by rw [gB]; exact s.env t τ ar
  dm:=s.dm
  own:=fun e he=>by
   rw [gB]
   obtain⟨j,aC⟩:=List.mem_iff_getElem?.1 he
   rw [List.getElem?_set] at aC
   split at aC
   ·split at aC
    ·simp only [Option.some.injEq] at aC
     subst aC
     have a6:=s.own _ (List.mem_of_getElem? an)
     cases key with
     | none=>exact aL a6
     | some p=>obtain⟨o,J,ad⟩:=a6; exact⟨o,J,h _ ad⟩
    ·cases aC
   ·exact s.own e (List.mem_of_getElem? aC)
  nodup:=by rw [gB]; exact s.nodup
  lt:=by rw [gB]; exact s.lt
  fA:=by rw [gB]; exact s.fA
  eC:=by rw [gB]; exact s.eC }
theorem ag.nY {l:List Oper} {p:Nat} {β:Type} [ae β] {b:β} (i:Nat) (an:L[i]? =some ⟨some p,.bU b []⟩) (k:ag c ops Q l E (L.set i ⟨some p,.var b⟩)):ag c ops Q l E L:=fun a W s=>
 k a W (s.vQ an (fun o ⟨cs,T,J,ad⟩=>⟨cs,T,J,ad.1⟩) id)
theorem ah.nY {z:Exit} {p:Nat} {β:Type} [ae β] {b:β} (i:Nat) (an:L[i]? =some ⟨some p,.bU b []⟩) (k:ah c Q z E (L.set i ⟨some p,.var b⟩)):ah c Q z E L:=fun a W s=>
 k a W (s.vQ an (fun o ⟨cs,T,J,ad⟩=>⟨cs,T,J,ad.1⟩) id)
theorem ai.nY {z:Code} {p:Nat} {β:Type} [ae β] {b:β} (i:Nat) (an:L[i]? =some ⟨some p,.bU b []⟩) (k:ai c Q z E (L.set i ⟨some p,.var b⟩)):ai c Q z E L:=fun a W s=>
 k a W (s.vQ an (fun o ⟨cs,T,J,ad⟩=>⟨cs,T,J,ad.1⟩) id)
def Fk:Option Value→Bool
 | some (.slice none 0 0)=>true
 | _=>false
theorem IU {v:Option Value} (h:Fk v=true):v=some jz:=by
 unfold Fk at h
 split at h
 ·rfl
 ·cases h
def iT (P:Program) (t:TypeId) (hs:List Nat):Prop:=((P.info? t).bind (·.zero)).any (fun v=>hs.all fun o=>Fk v.cells.toList[o]?)=true
theorem Ei:∀ {os:List (Nat × Value)} {cs:List Value},(∀ h∈os,cs[h.1]? =some jz)→blank os cs=cs
 | [],_,_=>rfl
 | o :: r,cs,h=>by
   have J:=h o (by simp)
   have e:cs.set o.1 jz=cs:=by
    apply List.ext_getElem?
    intro i
    rw [List.getElem?_set]
    split
    ·rename_i he; subst he
     have:=(List.getElem?_eq_some_iff.1 J).1
     rw [if_pos this,J]
    ·rfl
   rw [blank,e]
   exact Ei fun x ak=>h x (by simp [ak])
theorem ag.nU {rest:List Oper} {a9:Nat} {α:Type} [ae α] {z:α} (hs:List Nat) (rp:iT c.P t hs) (fV:cc c.P t z) (aL:Nat.blt a9 c.n=true)
 (k:∀ p,ag c ops Q rest ((a9,.eq (.pointer (some ⟨p,0,none⟩))) :: E) (⟨some p,.bU z (hs.map fun o=>(o,jz))⟩ :: L)):ag c ops Q (⟨some a9,.alloc t,ty,pos,af,none⟩ :: rest) E L:=fun a W s=>by
 obtain⟨i,dN,J,ad,ax⟩:=fV.zero
 have b3:∀ o∈hs,dN.cells.toList[o]? =some jz:=fun o a6=>by
  unfold iT at rp
  rw [J] at rp
  simp only [Option.bind_some,ad,Option.any_some] at rp
  exact IU (List.all_eq_true.1 rp o a6)
 have M8:∀ h∈hs.map (fun o=>(o,jz)),dN.cells.toList[h.1]? =some h.2:=fun h hm=>by
  obtain⟨o,a6,rfl⟩:=List.mem_map.1 hm
  exact b3 o a6
 refine hA rfl (R:=fun v W'=>v= .pointer (some ⟨W.heap.size,0,none⟩)∧W'=W.alloc (.cells dN.cells t)) (.k2 ?_ ⟨rfl,rfl⟩) fun v W' ⟨a3,hw⟩=> ?_
 ·simp [execOp,Instr.alloc,zeroValue,typeInfo,J,ad,newVar,newRow]
 ·subst a3
  subst hw
  refine k _ _ _ ((s.alloc (cp:= .bU z (hs.map fun o=>(o,jz))) ⟨dN.cells,t,rfl,?_,fun h hm=>⟨M8 h hm,by obtain⟨o,_,rfl⟩:=List.mem_map.1 hm; rfl⟩⟩).put (by simpa using aL) rfl)
  rw [Ei fun h hm=>by rw [M8 h hm]; obtain⟨o,_,rfl⟩:=List.mem_map.1 hm; rfl]
  exact(ax _ _).2
theorem ag.U1 {rest:List Oper} {a9:Nat} {α:Type} [ae α] {z:α} {os:List (Nat × Value)} (ak:a4 c E L x (.GN z os)) (aL:Nat.blt a9 c.n=true)
 (k:∀ p,ag c ops Q rest ((a9,.eq (.pointer (some ⟨p,0,none⟩))) :: E) (⟨some p,.bU z os⟩ :: L)):ag c ops Q (⟨some a9,.box t x,ty,pos,af,none⟩ :: rest) E L:=fun a W s=>by
 refine hA rfl (R:=fun v W'=>v= .pointer (some ⟨W.heap.size,0,none⟩)∧W'=W.alloc (.cells (a.eval x).cells t)) (.k2 ?_ ⟨rfl,rfl⟩) fun v W' ⟨a3,hw⟩=> ?_
 ·simp [execOp,Instr.box,newVar,newRow]
 ·subst a3
  subst hw
  obtain⟨J,ad⟩:=ak a W s
  exact k _ _ _ ((s.alloc (cp:= .bU z os) ⟨_,t,rfl,ad⟩).put (by simpa using aL) rfl)
theorem EW {t:TypeId} {i p o:Nat} {β γ:Type} [ae β] [ae γ] {b:β} {os:List (Nat × Value)} (l:aO β γ) {r:γ} (ef:bq c.P t γ) (ak:a4 c E L x (.eq (.pointer (some ⟨p,o,none⟩))))
 (an:L[i]? =some ⟨some p,.bU b os⟩) (a6:o=l.off) (aQ:l.get b=r) (bg:rT os l.off (ae.size γ)=true):bO c E L ⟨d,.load t x,ty,pos,af,g⟩ (.of r):= .pure fun a W s=>by
 subst a6
 subst aQ
 obtain⟨jq,ed,cs,T,rfl,fq⟩:=s.own _ (List.mem_of_getElem? an)
 have J:cs.toList.length=ae.size β:=fq.len
 have aW:=l.hN fq.1
 rw [QE bg] at aW
 obtain⟨v,ad,ax⟩:=sW (A:=aJ L ++ c.bM) ef ed (by have:=l.fI; simp at J; omega) aW
 refine⟨v,?_,ax⟩
 have aR:a.eval x=_:=ak a W s
 simp [execOp,Instr.loadAt,Instr.sureAddr,aR,ad]
theorem RM {cs:List Value} {o:Nat} {u:Value} (h:cs[o]? =some u):(cs.drop o).take 1= [u]:=by
 apply List.ext_getElem?
 intro i
 rw [List.getElem?_take,List.getElem?_drop]
 cases i with
 | zero=>simpa using h
 | succ i=>simp
theorem hM {t:TypeId} {i p o q:Nat} {β γ:Type} [ae β] [ae γ] {b:β} {os:List (Nat × Value)} {u:Value} (ef:bq c.P t (List γ)) (ak:a4 c E L x (.eq (.pointer (some ⟨p,o,none⟩))))
 (an:L[i]? =some ⟨some p,.bU b os⟩) (hq:os[q]? =some (o,u)):bO c E L ⟨d,.load t x,ty,pos,af,g⟩ (.eq u):= .pure fun a W s=>by
 obtain⟨jq,ed,cs,T,rfl,fq,b3⟩:=s.own _ (List.mem_of_getElem? an)
 obtain⟨aW,hu⟩:=b3 _ (List.mem_of_getElem? hq)
 have b5:o < cs.size:=by have:=(List.getElem?_eq_some_iff.1 aW).1; simpa using this
 obtain⟨v,ad,ax⟩:=sW (α:=fj) (x:=⟨u⟩) (A:=aJ L ++ c.bM) ef.ex ed (show o + 1≤cs.size by omega) ⟨RM aW,hu⟩
 refine⟨v,?_,(LO.1 ax).1⟩
 have aR:a.eval x=_:=ak a W s
 simp [execOp,Instr.loadAt,Instr.sureAddr,aR,ad]
theorem ag.rS {t:TypeId} {rest:List Oper} {i p o:Nat} {β γ:Type} [ae β] [ae γ] {b b':β} {v:γ} {os:List (Nat × Value)} (l:aO β γ) (ef:bq c.P t γ) (ak:a4 c E L x (.eq (.pointer (some ⟨p,o,none⟩))))
 (a7:a4 c E L y (.of v)) (an:L[i]? =some ⟨some p,.bU b os⟩) (a6:o=l.off) (hb:l.set b v=b') (bg:rT os l.off (ae.size γ)=true)
 (k:ag c ops Q rest E (L.set i ⟨some p,.bU b' os⟩)):ag c ops Q (⟨none,.store t x y,ty,pos,af,none⟩ :: rest) E L:=fun a W s=>by
 subst a6
 subst hb
 obtain⟨jq,ed,cs,T,rfl,fq⟩:=s.own _ (List.mem_of_getElem? an)
 have J:cs.toList.length=ae.size β:=fq.len
 have ec:=l.fI
 have a3:=a7 a W s
 have ad:=xI (A:=aJ L ++ c.bM) ef ed (off:=l.off) (by simp at J; omega) a3
 have aR:a.eval x=_:=ak a W s
 refine hA rfl (R:=fun v W'=>W'=W.setRow p (fw cs.toList l.off (a.eval y).cells.toList).toArray) (.vG ?_ rfl) fun v W' hw=> ?_
 ·simp [execOp,Instr.storeAt,Instr.sureAddr,aR,ad]
 ·subst hw
  exact k _ _ (s.store an ed ⟨_,T,rfl,by rw [List.toList_toArray]; exact Jt l fq a3.2 bg⟩)
theorem ag.jw {t:TypeId} {rest:List Oper} {i p o:Nat} {β γ:Type} [ae β] [ae γ] {b b':β} {u:Value} {os os':List (Nat × Value)} (l:aO β (List γ)) (ef:bq c.P t (List γ)) (ak:a4 c E L x (.eq (.pointer (some ⟨p,o,none⟩))))
 (a7:a4 c E L y (.eq u)) (hu:u.oneCell'=true) (an:L[i]? =some ⟨some p,.bU b os⟩) (a6:o=l.off) (hb:l.set b []=b') (jU:rO os o u=os')
 (k:ag c ops Q rest E (L.set i ⟨some p,.bU b' os'⟩)):ag c ops Q (⟨none,.store t x y,ty,pos,af,none⟩ :: rest) E L:=fun a W s=>by
 subst a6
 subst hb
 subst jU
 obtain⟨jq,ed,cs,T,rfl,fq⟩:=s.own _ (List.mem_of_getElem? an)
 have J:cs.toList.length=ae.size β:=fq.len
 have ec:l.off + 1≤ae.size β:=l.fI
 have M9:a.eval y=u:=a7 a W s
 have a3:(I.of (⟨u⟩:fj)).holds (aJ L ++ c.bM) W (a.eval y):=LO.2 ⟨M9,hu⟩
 have ad:=xI (A:=aJ L ++ c.bM) ef.ex ed (off:=l.off) (show l.off + 1≤cs.size by simp at J; omega) a3
 have aR:a.eval x=_:=ak a W s
 have kz:(a.eval y).cells.toList= [u]:=by rw [M9,nM hu]
 rw [kz] at ad
 refine hA rfl (R:=fun v W'=>W'=W.setRow p (fw cs.toList l.off [u]).toArray) (.vG ?_ rfl) fun v W' hw=> ?_
 ·simp [execOp,Instr.storeAt,Instr.sureAddr,aR,ad]
 ·subst hw
  exact k _ _ (s.store an ed ⟨_,T,rfl,by rw [List.toList_toArray]; exact Jb l fq hu⟩)
theorem O6 {P:Program} {W:World} {b off:Nat} {cur:Array Value} {T t:TypeId} {α:Type} [ae α] {v:Value} (ty:bq P t α)
 (hb:W.heap[b]? =some (.cells cur T (0,0))) (hs:off + ae.size α≤cur.size) (ar:v.cells.toList.length=ae.size α) (J:∀ u∈v.cells.toList,u.oneCell'=true):
 (storeVar t ⟨b,off,none⟩ v).run P W= .ok () (W.setRow b (fw cur.toList off v.cells.toList).toArray):=by
 have ad:=run_storeCells_at P b off T v.cells.toList 0 cur W hb (by rw [ar]; omega) J
 have dL:v.cells.size=ae.size α:=by simpa using ar
 simp only [Nat.add_zero] at ad
 simp only [storeVar,Sem.run_bind,ty.sizeOf,Result.andThen_ok,dL]
 simp only [ne_eq,not_true_eq_false,↓reduceIte,Sem.run_pure,Sem.run_bind,Result.andThen_ok]
 simpa [fw] using ad
theorem ag.qs {t:TypeId} {rest:List Oper} {i p:Nat} {β:Type} [ae β] {b b':β} {os os':List (Nat × Value)} (ef:bq c.P t β) (ak:a4 c E L x (.eq (.pointer (some ⟨p,0,none⟩))))
 (a7:a4 c E L y (.GN b' os')) (an:L[i]? =some ⟨some p,.bU b os⟩)
 (k:ag c ops Q rest E (L.set i ⟨some p,.bU b' os'⟩)):ag c ops Q (⟨none,.store t x y,ty,pos,af,none⟩ :: rest) E L:=fun a W s=>by
 obtain⟨jq,ed,cs,T,rfl,fq⟩:=s.own _ (List.mem_of_getElem? an)
 have J:cs.toList.length=ae.size β:=fq.len
 obtain⟨ay,bf⟩:=a7 a W s
 have ar:=bf.len
 have ad:=O6 ef ed (off:=0) (by simp at J; omega) ar bf.one
 have aR:a.eval x=_:=ak a W s
 have e:fw cs.toList 0 (a.eval y).cells.toList=(a.eval y).cells.toList:=by
  unfold fw
  rw [List.take_zero,List.nil_append,Nat.zero_add,ar,← J,List.drop_length,List.append_nil]
 rw [e] at ad
 refine hA rfl (R:=fun v W'=>W'=W.setRow p (a.eval y).cells.toList.toArray) (.vG ?_ rfl) fun v W' hw=> ?_
 ·simp [execOp,Instr.storeAt,Instr.sureAddr,aR,ad]
 ·subst hw
  exact k _ _ (s.store an ed ⟨_,T,rfl,by rw [List.toList_toArray]; exact bf⟩)
theorem de {p:Addr} (ak:a4 c E L x (.eq (.pointer (some p)))):bO c E L ⟨d,.nilCheck x,ty,pos,af,g⟩ (.eq (.pointer (some p))):= .pure fun a W s=>by
 have aR:a.eval x=_:=ak a W s
 exact⟨_,by simp [execOp,aR],rfl⟩
theorem yq {γ:Type} [ae γ] {r:γ} (ak:a4 c E L x (.ptr r)):bO c E L ⟨d,.nilCheck x,ty,pos,af,g⟩ (.ptr r):= .pure fun a W s=>by
 have hp:=ak a W s
 obtain⟨b,off,cur,T,ha,aR,aW⟩:=hp
 exact⟨_,by simp [execOp,aR],b,off,cur,T,ha,rfl,aW⟩
theorem bs.kM {a:Act} {W:World} (s:bs c E L a W) {i j p cap T:Nat} {key:Option Nat} {β γ:Type} [ae β] [ae γ] {b b':β} {xs:List γ} {os os':List (Nat × Value)} (l:aO β (List γ)) (e5:i≠j) (an:L[i]? =some ⟨some p,.bU b os⟩) (ke:L[j]? =some ⟨key,.row T xs cap⟩)
 (q:Nat) (hq:os[q]? =some (l.off,a5 key xs.length cap)) (hb:l.set b xs=b') (jU:my os l.off=os'):bs c E ((L.set j ⟨none,.dead⟩).set i ⟨some p,.bU b' os'⟩) a W:=by
 subst hb
 subst jU
 have au:=s.kill j
 have aq:(L.set j ⟨none,.dead⟩)[i]? =some ⟨some p,.bU b os⟩:=by rw [List.getElem?_set_ne (fun e=>e5 e.symm)]; exact an
 have j5:=vl (L:=L) (i:=j) (cp:= .dead)
 have lj:mX (aJ (L.set j ⟨none,.dead⟩) ++ c.bM) W (a5 key xs.length cap) xs:=by
  have a6:=s.own _ (List.mem_of_getElem? ke)
  cases key with
  | none=>exact .inl ⟨rfl,a6.1⟩
  | some p=>
    obtain⟨o,ed,cs,rfl,dL,aL,uh,aQ⟩:=a6
    obtain⟨ax,aR⟩:=D9 dL aL aQ
    refine .inr ⟨p,0,cap,cs,T,(0,0),rfl,s.x7 ke,ed,aL,by omega,ax,?_⟩
    exact aR.mono (.drop fun k hm=>by
     rcases List.mem_append.1 hm with hm | hm
     ·exact List.mem_append.2 (.inl (j5.subset hm))
     ·exact List.mem_append.2 (.inr hm))
 exact au.vQ aq (fun o ⟨cs,T,J,ad⟩=>⟨cs,T,J,Jc l ad (List.mem_of_getElem? hq) lj⟩) id
theorem ag.kM {sE:List Oper} {p cap T:Nat} {key:Option Nat} {β γ:Type} [ae β] [ae γ] {b b':β} {xs:List γ} {os os':List (Nat × Value)} (l:aO β (List γ)) (i j q:Nat) (e5:Nat.beq i j=false) (an:L[i]? =some ⟨some p,.bU b os⟩) (ke:L[j]? =some ⟨key,.row T xs cap⟩)
 (hq:os[q]? =some (l.off,a5 key xs.length cap)) (hb:l.set b xs=b') (jU:my os l.off=os') (k:ag c ops Q sE E ((L.set j ⟨none,.dead⟩).set i ⟨some p,.bU b' os'⟩)):ag c ops Q sE E L:=
 fun a W s=>k a W (s.kM l (fun e=>by rw [e,Nat.beq_refl] at e5; cases e5) an ke q hq hb jU)
theorem ah.kM {z:Exit} {p cap T:Nat} {key:Option Nat} {β γ:Type} [ae β] [ae γ] {b b':β} {xs:List γ} {os os':List (Nat × Value)} (l:aO β (List γ)) (i j q:Nat) (e5:Nat.beq i j=false) (an:L[i]? =some ⟨some p,.bU b os⟩) (ke:L[j]? =some ⟨key,.row T xs cap⟩)
 (hq:os[q]? =some (l.off,a5 key xs.length cap)) (hb:l.set b xs=b') (jU:my os l.off=os') (k:ah c Q z E ((L.set j ⟨none,.dead⟩).set i ⟨some p,.bU b' os'⟩)):ah c Q z E L:=
 fun a W s=>k a W (s.kM l (fun e=>by rw [e,Nat.beq_refl] at e5; cases e5) an ke q hq hb jU)
theorem ai.kM {z:Code} {p cap T:Nat} {key:Option Nat} {β γ:Type} [ae β] [ae γ] {b b':β} {xs:List γ} {os os':List (Nat × Value)} (l:aO β (List γ)) (i j q:Nat) (e5:Nat.beq i j=false) (an:L[i]? =some ⟨some p,.bU b os⟩) (ke:L[j]? =some ⟨key,.row T xs cap⟩)
 (hq:os[q]? =some (l.off,a5 key xs.length cap)) (hb:l.set b xs=b') (jU:my os l.off=os') (k:ai c Q z E ((L.set j ⟨none,.dead⟩).set i ⟨some p,.bU b' os'⟩)):ai c Q z E L:=
 fun a W s=>k a W (s.kM l (fun e=>by rw [e,Nat.beq_refl] at e5; cases e5) an ke q hq hb jU)
theorem bs.r4 {a:Act} {W:World} (s:bs c E L a W) {i j p cap T eQ:Nat} {key:Option Nat} {β γ:Type} [ae β] [ae γ] {b b':β} {xs:List γ} {os os':List (Nat × Value)} (l:aO β (List γ)) (e5:i≠j) (an:L[i]? =some ⟨some p,.bU b os⟩) (ke:L[j]? =some ⟨key,.row T xs cap⟩)
 (q:Nat) (hq:os[q]? =some (l.off,a5 key xs.length cap)) (hb:l.set b xs=b') (jU:my os l.off=os') (lj:look E eQ=some (.eq (a5 key xs.length cap))):bs c ((eQ,.of xs) :: E) ((L.set j ⟨none,.dead⟩).set i ⟨some p,.bU b' os'⟩) a W:=by
 have J:=s.freeze lj ke
 subst hb
 subst jU
 have aq:(L.set j ⟨none,.dead⟩)[i]? =some ⟨some p,.bU b os⟩:=by rw [List.getElem?_set_ne (fun e=>e5 e.symm)]; exact an
 obtain⟨v,ad,ax⟩:=J.env eQ (.of xs) (by simp [look,Nat.beq_refl])
 obtain⟨Dg,aR,aW⟩:=s.env eQ _ lj
 rw [ad] at aR
 cases aR
 have aW:v=_:=aW
 subst aW
 exact J.vQ aq (fun o ⟨cs,T,ay,bf⟩=>⟨cs,T,ay,Jc l bf (List.mem_of_getElem? hq) (lV.1 ax)⟩) id
theorem ag.r4 {sE:List Oper} {p cap T:Nat} {key:Option Nat} {β γ:Type} [ae β] [ae γ] {b b':β} {xs:List γ} {os os':List (Nat × Value)} (l:aO β (List γ)) (i j q eQ:Nat) (e5:Nat.beq i j=false) (an:L[i]? =some ⟨some p,.bU b os⟩) (ke:L[j]? =some ⟨key,.row T xs cap⟩)
 (hq:os[q]? =some (l.off,a5 key xs.length cap)) (hb:l.set b xs=b') (jU:my os l.off=os') (lj:look E eQ=some (.eq (a5 key xs.length cap))) (k:ag c ops Q sE ((eQ,.of xs) :: E) ((L.set j ⟨none,.dead⟩).set i ⟨some p,.bU b' os'⟩)):ag c ops Q sE E L:=
 fun a W s=>k a W (s.r4 l (fun e=>by rw [e,Nat.beq_refl] at e5; cases e5) an ke q hq hb jU lj)
theorem ai.r4 {z:Code} {p cap T:Nat} {key:Option Nat} {β γ:Type} [ae β] [ae γ] {b b':β} {xs:List γ} {os os':List (Nat × Value)} (l:aO β (List γ)) (i j q eQ:Nat) (e5:Nat.beq i j=false) (an:L[i]? =some ⟨some p,.bU b os⟩) (ke:L[j]? =some ⟨key,.row T xs cap⟩)
 (hq:os[q]? =some (l.off,a5 key xs.length cap)) (hb:l.set b xs=b') (jU:my os l.off=os') (lj:look E eQ=some (.eq (a5 key xs.length cap))) (k:ai c Q z ((eQ,.of xs) :: E) ((L.set j ⟨none,.dead⟩).set i ⟨some p,.bU b' os'⟩)):ai c Q z E L:=
 fun a W s=>k a W (s.r4 l (fun e=>by rw [e,Nat.beq_refl] at e5; cases e5) an ke q hq hb jU lj)
theorem ah.r4 {z:Exit} {p cap T:Nat} {key:Option Nat} {β γ:Type} [ae β] [ae γ] {b b':β} {xs:List γ} {os os':List (Nat × Value)} (l:aO β (List γ)) (i j q eQ:Nat) (e5:Nat.beq i j=false) (an:L[i]? =some ⟨some p,.bU b os⟩) (ke:L[j]? =some ⟨key,.row T xs cap⟩)
 (hq:os[q]? =some (l.off,a5 key xs.length cap)) (hb:l.set b xs=b') (jU:my os l.off=os') (lj:look E eQ=some (.eq (a5 key xs.length cap))) (k:ah c Q z ((eQ,.of xs) :: E) ((L.set j ⟨none,.dead⟩).set i ⟨some p,.bU b' os'⟩)):ah c Q z E L:=
 fun a W s=>k a W (s.r4 l (fun e=>by rw [e,Nat.beq_refl] at e5; cases e5) an ke q hq hb jU lj)
inductive rU (c:cT) (E:List (Nat × I)) (L:List aF) (place:Nat→Option (Nat × Nat)) {β:Type} [ae β]:β→List (Nat × Value)→List (Nat × Operand)→β→List (Nat × Value)→Prop
 | nil {b os} :rU c E L place b os [] b os
 | cons {b dH b':β} {os os':List (Nat × Value)} {γ:Type} [ae γ] {v:γ} {i:Nat} {x:Operand} {r:List (Nat × Operand)} (l:aO β γ):place i=some (l.off,ae.size γ)→a4 c E L x (.of v)→l.set b v=dH→rT os l.off (ae.size γ)=true→rU c E L place dH os r b' os'→rU c E L place b os ((i,x) :: r) b' os'
 | hole {b dH b':β} {os GO os':List (Nat × Value)} {γ:Type} [ae γ] {u:Value} {i:Nat} {x:Operand} {r:List (Nat × Operand)} (l:aO β (List γ)):place i=some (l.off,1)→a4 c E L x (.eq u)→u.oneCell'=true→l.set b []=dH→rO os l.off u=GO→rU c E L place dH GO r b' os'→rU c E L place b os ((i,x) :: r) b' os'
theorem rU.run {place:Nat→Option (Nat × Nat)} {β:Type} [ae β] {b b':β} {os os':List (Nat × Value)} {bj:List (Nat × Operand)} (h:rU c E L place b os bj b' os'):∀ a W,bs c E L a W→ ∀ cs:Array Value,kr (aJ L ++ c.bM) W cs.toList b os→
 ∃ dx,Instr.fill place cs (bj.map fun(i,x)=>(i,a.eval x))=some dx∧kr (aJ L ++ c.bM) W dx.toList b' os':=by
 induction h with
 | nil=>intro a W s cs aQ; exact⟨cs,rfl,aQ⟩
 | @cons b dH b' os os' γ _ v i x r l J ad ax aR _ bz=>
   intro a W s cs aQ
   subst ax
   have a3:=ad a W s
   have dL:(a.eval x).cells.size=ae.size γ:=by have:=ae.len a3.2; simpa using this
   have ar:cs.toList.length=ae.size β:=aQ.len
   have ec:=l.fI
   rw [List.map_cons,Br J dL (by simp at ar; omega)]
   refine bz a W s _ ?_
   have:=Jt l aQ a3.2 aR
   simpa [fw,ae.len a3.2] using this
 | @hole b dH b' os GO os' γ _ u i x r l J ad ax aR aW _ bz=>
   intro a W s cs aQ
   subst aR
   subst aW
   have a3:a.eval x=u:=ad a W s
   have aj:(a.eval x).cells.toList= [u]:=by rw [a3,nM ax]
   have dL:(a.eval x).cells.size=1:=by have:=congrArg List.length aj; simpa using this
   have ar:cs.toList.length=ae.size β:=aQ.len
   have ec:l.off + 1≤ae.size β:=l.fI
   rw [List.map_cons,Br J dL (by simp at ar; omega)]
   refine bz a W s _ ?_
   have:=Jb l aQ ax
   simpa [fw,aj] using this
theorem pz {β:Type} [ae β] {z b:β} {bj:List (Nat × Operand)} {pl:Array (Nat × Nat)} {os:List (Nat × Value)} (jT:List Nat) (rp:iT c.P t jT) (bg:ae.agg β=true) (Af:gU c.P t pl) (fV:cc c.P t z)
 (a0:rU c E L (pl[·]?) z (jT.map fun o=>(o,jz)) bj b os):bO c E L ⟨d,.build t bj.toArray,ty,pos,af,g⟩ (.GN b os):= .pure fun a W s=>by
 obtain⟨fs,hu,hs,rfl⟩:=Af.at_
 obtain⟨i,dN,J,ad,ax⟩:=fV.zero
 have b3:∀ o∈jT,dN.cells.toList[o]? =some jz:=fun o a6=>by
  unfold iT at rp
  rw [J] at rp
  simp only [Option.bind_some,ad,Option.any_some] at rp
  exact IU (List.all_eq_true.1 rp o a6)
 obtain⟨dx,aR,aW⟩:=a0.run a W s dN.cells ⟨by
  rw [Ei fun h hm=>by obtain⟨o,a6,rfl⟩:=List.mem_map.1 hm; exact b3 o a6]
  exact(ax _ _).2,fun h hm=>by obtain⟨o,a6,rfl⟩:=List.mem_map.1 hm; exact⟨b3 o a6,rfl⟩⟩
 refine⟨.agg dx,?_,by simp [shaped,bg],by simpa [Value.cells] using aW⟩
 have hm:(bj.toArray.map fun(x:Nat × Operand)=>(x.1,a.eval x.2)).toList=bj.map fun(i,x)=>(i,a.eval x):=by simp
 simp only [execOp,Instr.build,Sem.run_bind,zeroValue,typeInfo,run_program,Result.andThen_ok,J,ad,Sem.run_pure,run_underlying hu,Iu fs hs]
 rw [hm,aR]
 rfl
def ur {α:Type} [Inhabited α] (bytes:Nat) (n:Int):Option (List α):=if 0≤n∧n≤140737488355328∧bytes * n≤140737488355328 then some (List.replicate n.toNat default) else none
theorem Rb {α:Type} [Inhabited α] {bytes:Nat} {n:Int} {r:List α} (h:ur bytes n=some r):0≤n∧n≤140737488355328∧bytes * n≤140737488355328∧List.replicate n.toNat default=r:=by
 unfold ur at h
 split at h
 ·rename_i aj; exact⟨aj.1,aj.2.1,aj.2.2,aS h⟩
 ·cases h
theorem ag.MO {α:Type} [ae α] [Inhabited α] {rest:List Oper} {a9 e bytes:Nat} {r:List α} {n:Int} (hu:c.P.underlying t=some (.slice e)) (eg:bq c.P e α) (fV:cc c.P e (default:α)) (hs:Nat.beq (ae.size α) 0=false) (hb:(c.P.info? e).map (·.bytes)=some bytes)
 (ak:a4 c E L x (.of n)) (a7:a4 c E L y (.of n)) (hm:ur bytes n=some r) (jr:Nat.blt a9 c.n=true) (k:∀ p,ag c ops Q rest ((a9,.eq (a5 p r.length r.length)) :: E) (⟨p,.row e r r.length⟩ :: L)):
 ag c ops Q (⟨some a9,.makeSlice t x y,ty,pos,af,none⟩ :: rest) E L:=fun a W s=>by
 obtain⟨bB,aL,Yh,rfl⟩:=Rb hm
 obtain⟨m,rfl⟩:=Int.eq_ofNat_of_zero_le bB
 obtain⟨fy,dN,dP,dg,pY⟩:=fV.zero
 have l6:fy.size=ae.size α:=by
  obtain⟨i2,J,ad⟩:=eg.info
  rw [dP] at J; cases J; exact ad
 have uy:fy.bytes=bytes:=by rw [dP] at hb; simpa using hb
 have ev:ae.size α≠0:=fun h=>by rw [h] at hs; cases hs
 have o4:=x0 (pY (aJ L ++ c.bM) W) m ev
 have J:=of_int.1 (ak a W s)
 have ad:=of_int.1 (a7 a W s)
 have hw:IntKind.i64.wrap (m:Int)=m:=by have:bu (m:Int)=m:=hO (by omega) (by omega); exact this
 have hp:(2:Int) ^ 48=281474976710656:=by decide
 simp only [Int.toNat_natCast,List.length_replicate] at k
 generalize kd:(Array.range (m * ae.size α)).map (dN.cells[· % dN.cells.size]!)=D at o4
 refine hA rfl (R:=fun v W'=>v= .slice (some ⟨W.heap.size,0,none⟩) m m∧W'=W.alloc (.cells D e)) (.k2 (v:= .slice (some ⟨W.heap.size,0,none⟩) m m) (W':=W.alloc (.cells D e)) ?_ ⟨rfl,rfl⟩) fun v W' ⟨ax,aR⟩=> ?_
 ·have dw:((decide ((m:Int) < 0) || decide ((fy.bytes:Int) * m > 2 ^ 48)) || decide ((m:Int) < 0) || decide ((m:Int) > m))=false:=by
   rw [uy,hp]; simp; omega
  have CV:((Array.range (m * fy.size)).map fun i=>(if m * fy.size=0 then(#[]:Array Value) else dN.cells)[i % (if m * fy.size=0 then(#[]:Array Value) else dN.cells).size]!)=D:=by
   rw [← kd,l6]
   by_cases gk:m * ae.size α=0
   ·rw [gk]; simp
   ·simp only [if_neg gk]
  have bg:(asInt (.int .i64 (m:Int)):Sem Int).run c.P W= .ok (m:Int) W:=by simp [asInt,asIntOf]
  simp only [execOp,Instr.makeSlice,Sem.run_bind,run_underlying hu,Result.andThen_ok,J,ad,bg,Sem.run_pure,typeInfo,run_program,dP,hw,dw,Bool.false_eq_true,if_false,run_askRoom,Go.sizeOf,Int.toNat_natCast]
  by_cases gk:m * fy.size=0
  ·simp only [gk,if_true,Sem.run_pure,Result.andThen_ok,Sem.run_bind,newRow] at CV ⊢
   rw [CV]
   simp
  ·simp only [gk,if_false,Sem.run_pure,Result.andThen_ok,Sem.run_bind,newRow,zeroValue,typeInfo,run_program,dP,dg] at CV ⊢
   rw [CV]
   simp
 ·subst ax aR
  have sa:m≤maxLen:=by
   have:maxLen=9223372036854775807:=rfl
   omega
  have dL:D.size=m * ae.size α:=by have:=o4.1; simpa using this
  have bW:=s.alloc (o:= .cells D e) (cp:= .row e (List.replicate m (default:α)) m) ⟨D,rfl,dL,by simp,sa,by
   have bc:=o4.1
   rw [List.length_replicate] at bc ⊢
   rw [← bc,List.take_length]
   exact o4⟩
  exact k (some W.heap.size) _ _ (bW.put (τ:= .eq (a5 (some W.heap.size) m m)) (by simpa using jr) rfl)
theorem ah.mD {fn:Func} {δ:Type} {ρ:δ→I} {Lo:δ→List aF} (a9:δ) (hs:(Lo a9).Sublist L) (aQ:fn.results= #[]) (uB:ρ a9= .eA []) (hv:c.ds= []:=by rfl):ah c (bodyPost c.P fn (jL c.X c.bM c.iC ρ Lo)) .ret E L:=fun a W s=>
 ⟨s.vz hv,.tuple #[],by simp [vx,aQ],s.ends a9 hs (by rw [uB]; exact⟨_,rfl,.nil⟩)⟩
end
end Gv
namespace Gv
open Go
set_option linter.unusedVariables false
set_option linter.unusedSimpArgs false
abbrev Hid:=Nat→Option Nat
def ee (l:List (Option Nat)):Hid:=fun i=>(l[i]?).getD none
structure c4 where
 slot:Option Nat
 up:List Nat
 rd:List Nat
 wr:List Nat
 τ:(Nat→Hid)→I
 fh:(Nat→Hid)→Nat→aF
def fJ (up:List Nat) (i:Nat) (hd:Nat→Hid):Nat→Hid:=fun j=>bif Nat.beq j i || up.any (fun k=>Nat.beq k j) then hd j else fun _=>none
def h7 (hd:Nat→Hid) (i:Nat) (x:Hid):Nat→Hid:=fun j=>bif Nat.beq j i then x else hd j
theorem Jd {up:List Nat} {i:Nat} {hd hd':Nat→Hid} (h:hd i=hd' i) (cV:∀ k∈up,hd k=hd' k):fJ up i hd=fJ up i hd':=by
 funext j
 unfold fJ
 cases J:Nat.beq j i
 ·cases ad:up.any (fun k=>Nat.beq k j)
  ·rfl
  ·obtain⟨k,au,he⟩:=List.any_eq_true.1 ad
   have:=dX.1 he
   subst this
   simp only [Bool.false_or,cond_true]
   exact cV k au
 ·have:=dX.1 J
  subst this
  simp only [Bool.true_or,cond_true]
  exact h
def k8:List aF→ (Nat→aF)→List Nat→List aF
 | L,_,[]=>L
 | L,f,j :: r=>k8 (L.set j (f j)) f r
theorem II:∀ {L:List aF} {f:Nat→aF} {eR:List Nat},(k8 L f eR).length=L.length
 | _,_,[]=>rfl
 | L,f,j :: r=>by rw [k8,II,List.length_set]
theorem Bs:∀ {L:List aF} {f:Nat→aF} {eR:List Nat} (i:Nat),(k8 L f eR)[i]? =if eR.contains i=true then L[i]?.map (fun _=>f i) else L[i]?
 | _,_,[],i=>by simp [k8]
 | L,f,j :: r,i=>by
   rw [k8,Bs i]
   by_cases h:j=i
   ·subst h
    simp only [List.contains_cons,BEq.rfl,Bool.true_or,if_true,List.getElem?_set]
    by_cases ar:j < L.length
    ·simp [ar]
    ·simp [ar]
   ·have hb:(i ==j)=false:=by simp; exact fun e=>h e.symm
    rw [List.contains_cons,hb,Bool.false_or,List.getElem?_set_ne h]
def gl (ls:Nat→Bool) (hd:Nat→Hid):Nat→List c4→List aF→List aF
 | _,[],L=>L
 | k,h :: r,L=>gl ls hd (k + 1) r (bif ls k then k8 L (h.fh (fJ h.up k hd)) h.wr else L)
def g4 (ls:Nat→Bool) (hd:Nat→Hid) (E:List (Nat × I)):Nat→List c4→List (Nat × I)
 | _,[]=>E
 | k,h :: r=>match ls k,h.slot with
   | true,some s=>(s,h.τ (fJ h.up k hd)) :: g4 ls hd E (k + 1) r
   | _,_=>g4 ls hd E (k + 1) r
def jA (ls:Nat→Bool) (hd:Nat→Hid) (j:Nat):Nat→List c4→Option aF→Option aF
 | _,[],v=>v
 | k,h :: r,v=>jA ls hd j (k + 1) r (bif ls k && h.wr.contains j then v.map (fun _=>h.fh (fJ h.up k hd) j) else v)
theorem tv {ls:Nat→Bool} {hd:Nat→Hid} (j:Nat):∀ {k:Nat} {hs:List c4} {L:List aF},(gl ls hd k hs L)[j]? =jA ls hd j k hs L[j]?
 | _,[],_=>rfl
 | k,h :: r,L=>by
   rw [gl,jA,tv j]
   congr 1
   cases ls k
   ·rfl
   ·simp only [cond_true,Bool.true_and]
    rw [Bs]
    cases h.wr.contains j <;> rfl
theorem x1 {ls:Nat→Bool} {hd:Nat→Hid} {j:Nat} :∀ {k:Nat} {hs:List c4} {v:Option aF},(∀ m h,hs[m]? =some h→h.wr.contains j=true→ls (k + m)=false)→jA ls hd j k hs v=v
 | _,[],_,_=>rfl
 | k,h :: r,v,aL=>by
   rw [jA,x1 fun m x hm ak=>by have:=aL (m + 1) x (by simpa using hm) ak; rw [← this]; congr 1; omega]
   cases hw:h.wr.contains j
   ·simp
   ·have:=aL 0 h rfl hw
    simp only [Nat.add_zero] at this
    rw [this]; rfl
theorem xS {ls:Nat→Bool} {hd:Nat→Hid} {j:Nat} :∀ {k:Nat} {hs rs:List c4} {v:Option aF},jA ls hd j k (hs ++ rs) v=jA ls hd j (k + hs.length) rs (jA ls hd j k hs v)
 | _,[],_,_=>rfl
 | k,h :: r,rs,v=>by
   rw [List.cons_append,jA,xS,jA,List.length_cons]
   congr 1; omega
theorem s8 {ls ls':Nat→Bool} {hd hd':Nat→Hid} {j:Nat} :∀ {k:Nat} {hs:List c4} {v:Option aF},(∀ m h,hs[m]? =some h→h.wr.contains j=true→ls (k + m)=ls' (k + m)∧ (ls (k + m)=true→fJ h.up (k + m) hd=fJ h.up (k + m) hd'))→jA ls hd j k hs v=jA ls' hd' j k hs v
 | _,[],_,_=>rfl
 | k,h :: r,v,aL=>by
   have bz:=s8 (ls:=ls) (ls':=ls') (hd:=hd) (hd':=hd') (j:=j) (k:=k + 1) (hs:=r) (v:=bif ls k && h.wr.contains j then v.map (fun _=>h.fh (fJ h.up k hd) j) else v) fun m x hm ak=>by
    have:=aL (m + 1) x (by simpa using hm) ak
    rw [show k + 1 + m=k + (m + 1) by omega]; exact this
   rw [jA,jA,bz]
   congr 1
   cases hw:h.wr.contains j
   ·simp
   ·have:=aL 0 h rfl hw
    simp only [Nat.add_zero] at this
    rw [← this.1]
    cases ar:ls k
    ·rfl
    ·rw [this.2 ar]
theorem x2 {ls:Nat→Bool} {hd:Nat→Hid} {E:List (Nat × I)} {t:Nat} :∀ {k:Nat} {hs:List c4},(∀ (m:Nat) (h:c4),hs[m]? =some h→ls (k + m)=true→h.slot≠some t)→look (g4 ls hd E k hs) t=look E t
 | _,[],_=>rfl
 | k,h :: r,aL=>by
   have bz:=x2 (ls:=ls) (hd:=hd) (E:=E) (t:=t) (k:=k + 1) (hs:=r) fun m x hm ar=>aL (m + 1) x (by simpa using hm) (by rw [← ar]; congr 1; omega)
   unfold g4
   split
   ·rename_i s J ad
    have cQ:Nat.beq s t=false:=by
     cases hb:Nat.beq s t
     ·rfl
     ·have:=dX.1 hb; subst this; exact absurd ad (aL 0 h rfl J)
    simp only [look,cQ,cond_false]
    exact bz
   ·exact bz
theorem ya {ls:Nat→Bool} {hd:Nat→Hid} {E:List (Nat × I)} {s:Nat} :∀ {k:Nat} {hs:List c4} {j:Nat} {h:c4},hs[j]? =some h→ls (k + j)=true→h.slot=some s→ (∀ m x,hs[m]? =some x→x.slot=some s→m=j)→look (g4 ls hd E k hs) s=some (h.τ (fJ h.up (k + j) hd))
 | _,[],_,_,h,_,_,_=>by simp at h
 | k,x :: r,0,h,aC,ar,hs,_=>by
   simp only [List.getElem?_cons_zero,Option.some.injEq] at aC
   subst aC
   simp only [Nat.add_zero] at ar
   unfold g4
   rw [ar,hs]
   simp [look,Nat.beq_refl]
 | k,x :: r,j + 1,h,aC,ar,hs,hu=>by
   have bz:=ya (ls:=ls) (hd:=hd) (E:=E) (s:=s) (k:=k + 1) (hs:=r) (j:=j) (h:=h) (by simpa using aC) (by rw [← ar]; congr 1; omega) hs fun m y hm a7=>by
    have:=hu (m + 1) y (by simpa using hm) a7; omega
   rw [show k + 1 + j=k + (j + 1) by omega] at bz
   unfold g4
   split
   ·rename_i bW J ad
    have cQ:Nat.beq bW s=false:=by
     cases hb:Nat.beq bW s
     ·rfl
     ·have:=dX.1 hb; subst this
      have:=hu 0 x rfl ad; omega
    simp only [look,cQ,cond_false]
    exact bz
   ·exact bz
theorem EF {ls:Nat→Bool} {hd:Nat→Hid} {E:List (Nat × I)} {t:Nat} {τ:I} :∀ {k:Nat} {hs:List c4},look (g4 ls hd E k hs) t=some τ→ (∃ (j:Nat) (h:c4),hs[j]? =some h∧ls (k + j)=true∧h.slot=some t∧τ=h.τ (fJ h.up (k + j) hd))∨ (look E t=some τ∧ ∀ (m:Nat) (h:c4),hs[m]? =some h→ls (k + m)=true→h.slot≠some t)
 | _,[],h=> .inr ⟨h,fun m h hm=>by simp at hm⟩
 | k,x :: r,h=>by
   unfold g4 at h
   have go:(ls k=true→x.slot≠some t)→look (g4 ls hd E (k + 1) r) t=some τ→ (∃ (j:Nat) (h:c4),(x :: r)[j]? =some h∧ls (k + j)=true∧h.slot=some t∧τ=h.τ (fJ h.up (k + j) hd))∨ (look E t=some τ∧ ∀ (m:Nat) (h:c4),(x :: r)[m]? =some h→ls (k + m)=true→h.slot≠some t):=fun ak h=>by
    rcases EF h with⟨j,y,J,ad,ax,aR⟩ | ⟨J,ad⟩
    ·exact .inl ⟨j + 1,y,by simpa using J,by rw [← ad]; congr 1; omega,ax,by rw [aR]; congr 2; omega⟩
    ·refine .inr ⟨J,fun m y hm ar=> ?_⟩
     cases m with
     | zero=>simp only [List.getElem?_cons_zero,Option.some.injEq] at hm; subst hm; exact ak ar
     | succ m=>exact ad m y (by simpa using hm) (by rw [← ar]; congr 1; omega)
   split at h
   ·rename_i s J ad
    simp only [look] at h
    by_cases e:Nat.beq s t=true
    ·rw [e] at h
     simp only [cond_true,Option.some.injEq] at h
     have:=dX.1 e
     subst this
     exact .inl ⟨0,x,rfl,J,ad,h.symm⟩
    ·rw [Bool.not_eq_true] at e
     rw [e] at h
     exact go (fun _ ev=>by rw [ad] at ev; cases ev; rw [Nat.beq_refl] at e; cases e) h
   ·rename_i eX
    exact go (fun ar ev=>eX t ar ev) h
def lL (hd:Nat→Hid) (hs:List c4) (E:List (Nat × I)):List Nat→List (Nat × I)
 | []=>E
 | j :: r=>match hs[j]? with
   | some h=>match h.slot with
     | some s=>(s,h.τ (fJ h.up j hd)) :: lL hd hs E r
     | none=>lL hd hs E r
   | none=>lL hd hs E r
theorem E3 {hd:Nat→Hid} {hs:List c4} {E:List (Nat × I)} {t:Nat} {τ:I} :∀ {ds:List Nat},look (lL hd hs E ds) t=some τ→ (∃ j∈ds,∃ h:c4,hs[j]? =some h∧h.slot=some t∧τ=h.τ (fJ h.up j hd))∨look E t=some τ
 | [],h=> .inr h
 | j :: r,h=>by
   have go:look (lL hd hs E r) t=some τ→ (∃ i∈j :: r,∃ h:c4,hs[i]? =some h∧h.slot=some t∧τ=h.τ (fJ h.up i hd))∨look E t=some τ:=fun h=>by
    rcases E3 h with⟨i,J,ad⟩ | J
    ·exact .inl ⟨i,by simp [J],ad⟩
    ·exact .inr J
   unfold lL at h
   split at h
   ·rename_i x ak
    split at h
    ·rename_i s lj
     simp only [look] at h
     by_cases e:Nat.beq s t=true
     ·rw [e] at h
      simp only [cond_true,Option.some.injEq] at h
      have:=dX.1 e
      subst this
      exact .inl ⟨j,by simp,x,ak,lj,h.symm⟩
     ·simp only [Bool.not_eq_true] at e
      rw [e] at h
      exact go h
    ·exact go h
   ·exact go h
def r6 (E:List (Nat × I)) (v:Value):List Nat→Prop
 | []=>True
 | s :: r=>look E s=some (.eq v)∧r6 E v r
theorem r6.get {E:List (Nat × I)} {v:Value} :∀ {fU:List Nat},r6 E v fU→ ∀ s∈fU,look E s=some (.eq v)
 | _ :: _,h,s,hs=>by
   rcases List.mem_cons.1 hs with rfl | hs
   ·exact h.1
   ·exact r6.get h.2 s hs
def uC (τ:I) (E:List (Nat × I)):List Nat→List (Nat × I)
 | []=>E
 | s :: r=>(s,τ) :: uC τ E r
theorem Ju {τ:I} {E:List (Nat × I)} {t:Nat} {σ:I} :∀ {fU:List Nat},look (uC τ E fU) t=some σ→ (t∈fU∧σ=τ)∨look E t=some σ
 | [],h=> .inr h
 | s :: r,h=>by
   simp only [uC,look] at h
   by_cases e:Nat.beq s t=true
   ·rw [e] at h
    simp only [cond_true,Option.some.injEq] at h
    have:=dX.1 e
    subst this
    exact .inl ⟨by simp,h.symm⟩
   ·simp only [Bool.not_eq_true] at e
    rw [e] at h
    rcases Ju h with⟨J,ad⟩ | J
    ·exact .inl ⟨by simp [J],ad⟩
    ·exact .inr J
def ub {w:Nat} (a b:BitVec w):BitVec w:=if a≤b then a else b
def mN:Option Nat→I→List (Nat × I)→List (Nat × I)
 | some s,τ,E=>(s,τ) :: E
 | none,_,E=>E
section
variable {c:cT} {E:List (Nat × I)} {L:List aF} {ops:Array Oper} {Q:Exit→Act→World→Prop}
theorem bs.m7 {a:Act} {W:World} {α:Type} [ae α] {i cap T:Nat} {fU:List Nat} {key:Option Nat} {xs:List α} (h:bs c E L a W) (ar:r6 E (a5 key xs.length cap) fU) (an:L[i]? =some ⟨key,.row T xs cap⟩):
 bs c (uC (.of xs) E fU) (L.set i ⟨none,.dead⟩) a W:=by
 have au:=h.kill i
 refine { au with env:=fun t τ ew=> ?_ }
 rcases Ju ew with⟨hm,rfl⟩ | J
 ·obtain⟨v,J,ad⟩:=h.env t _ (ar.get t hm)
  refine⟨v,J,lV.2 ?_⟩
  have kT:v=a5 key xs.length cap:=ad
  subst kT
  have a6:=h.own _ (List.mem_of_getElem? an)
  cases key with
  | none=>exact .inl ⟨rfl,a6.1⟩
  | some p=>
    obtain⟨o,ed,cs,rfl,dL,aL,uh,aQ⟩:=a6
    obtain⟨ax,aR⟩:=D9 dL aL aQ
    refine .inr ⟨p,0,cap,cs,T,(0,0),rfl,h.x7 an,ed,aL,by omega,ax,?_⟩
    have j5:=vl (L:=L) (i:=i) (cp:= .dead)
    exact aR.mono (.drop fun k hm=>by
     rcases List.mem_append.1 hm with hm | hm
     ·exact List.mem_append.2 (.inl (j5.subset hm))
     ·exact List.mem_append.2 (.inr hm))
 ·exact au.env t τ J
theorem ag.m7 {l:List Oper} {α:Type} [ae α] {key:Option Nat} {xs:List α} {cap T:Nat} (i:Nat) (fU:List Nat) (ar:r6 E (a5 key xs.length cap) fU) (an:L[i]? =some ⟨key,.row T xs cap⟩)
 (k:ag c ops Q l (uC (.of xs) E fU) (L.set i ⟨none,.dead⟩)):ag c ops Q l E L:=fun a W st=>k a W (st.m7 ar an)
theorem ah.m7 {x:Exit} {α:Type} [ae α] {key:Option Nat} {xs:List α} {cap T:Nat} (i:Nat) (fU:List Nat) (ar:r6 E (a5 key xs.length cap) fU) (an:L[i]? =some ⟨key,.row T xs cap⟩)
 (k:ah c Q x (uC (.of xs) E fU) (L.set i ⟨none,.dead⟩)):ah c Q x E L:=fun a W st=>k a W (st.m7 ar an)
theorem ai.m7 {code:Code} {α:Type} [ae α] {key:Option Nat} {xs:List α} {cap T:Nat} (i:Nat) (fU:List Nat) (ar:r6 E (a5 key xs.length cap) fU) (an:L[i]? =some ⟨key,.row T xs cap⟩)
 (k:ai c Q code (uC (.of xs) E fU) (L.set i ⟨none,.dead⟩)):ai c Q code E L:=fun a W st=>k a W (st.m7 ar an)
def cl (c:cT) (ops:Array Oper) (Q:Exit→Act→World→Prop) (hs:List c4) (E:List (Nat × I)) (L:List aF) (i:Nat) (o:Oper) (h:c4):Prop:=
 ∀ (hd:Nat→Hid) (E':List (Nat × I)) (av:List aF),(∀ t τ,look (lL hd hs E h.up) t=some τ→look E' t=some τ)→
   (∀ j e,(gl (fun _=>true) hd 0 (hs.take i) L)[j]? =some e→h.rd.contains j=true→av[j]? =some e)→
   ag c ops (pn (fun a W=> ∃ x,bs c (mN h.slot (h.τ (fJ h.up i (h7 hd i x))) E') (k8 av (h.fh (fJ h.up i (h7 hd i x))) h.wr) a W) Q) [o] E' av
def rV (c:cT) (ops:Array Oper) (Q:Exit→Act→World→Prop) (hs:List c4) (E:List (Nat × I)) (L:List aF):Nat→List Oper→List c4→Prop
 | _,[],[]=>True
 | i,o :: os,h :: r=>cl c ops Q hs E L i o h∧rV c ops Q hs E L (i + 1) os r
 | _,_,_=>False
theorem rV.get {hs:List c4} :∀ {k:Nat} {os:List Oper} {rs:List c4},rV c ops Q hs E L k os rs→ ∀ i h o,rs[i]? =some h→os[i]? =some o→cl c ops Q hs E L (k + i) o h
 | k,[],[],_,i,h,o,aq,_=>by simp at aq
 | k,XG :: os,bB :: r,b3,i,h,o,aq,a6=>by
   cases i with
   | zero=>
     simp only [List.getElem?_cons_zero,Option.some.injEq] at aq a6
     subst aq; subst a6; exact b3.1
   | succ i=>
     have:=rV.get b3.2 i h o (by simpa using aq) (by simpa using a6)
     rw [show k + 1 + i=k + (i + 1) by omega] at this
     exact this
 | k,[],_ :: _,b3,_,_,_,_,_=>b3.elim
 | k,_ :: _,[],b3,_,_,_,_,_=>b3.elim
def j1 (ops:Array Oper) (hs:List (Option Nat × List Nat × List Nat × List Nat)) (E:List Nat):Bool:=
 decide (hs.length=ops.size) && decide (hs.filterMap (·.1)).Nodup && ((List.range ops.size).all fun m=>match hs[m]? with | some (some s,up,_)=> !E.contains s || (List.range ops.size).all fun k=>decide (k=m) || up.contains k | _=>true) &&
 ((List.range ops.size).all fun i=>match hs[i]? with
   | none=>false
   | some (_,up,rd,wr)=>
     (((ops[i]?).map fun o=>(o.dst ==(hs[i]?).bind (·.1)) && o.after.all fun e=> !Region.binds .any e || decide (e.on < i)).getD false) &&
     (up.all fun k=>Region.waitsFor .any ops i k || (List.range i).any fun m=>Region.waitsFor .any ops i m && ((hs[m]?).map fun h=>h.2.1.contains k).getD false) &&
     ((List.range ops.size).all fun k=>match hs[k]? with
       | none=>true
       | some (_,GP,_,zQ)=>
         (!(decide (k < i) && zQ.any rd.contains) || up.contains k) && (!(decide (i < k) && zQ.any fun j=>rd.contains j || wr.contains j) || GP.contains i)))
theorem Ej {ls ls':Nat→Bool} {hd:Nat→Hid} :∀ {k:Nat} {hs:List c4},(∀ m,m < hs.length→ls (k + m)=ls' (k + m))→g4 ls hd E k hs=g4 ls' hd E k hs
 | _,[],_=>rfl
 | k,h :: r,aL=>by
   have bz:=Ej (ls:=ls) (ls':=ls') (hd:=hd) (k:=k + 1) (hs:=r) fun m hm=>by
    have:=aL (m + 1) (by simp; omega)
    rw [show k + 1 + m=k + (m + 1) by omega]; exact this
   have bB:=aL 0 (by simp)
   simp only [Nat.add_zero] at bB
   unfold g4
   rw [bB,bz]
theorem EG {ls ls':Nat→Bool} {hd:Nat→Hid} :∀ {k:Nat} {hs:List c4} {L:List aF},(∀ m,m < hs.length→ls (k + m)=ls' (k + m))→gl ls hd k hs L=gl ls' hd k hs L
 | _,[],_,_=>rfl
 | k,h :: r,L,aL=>by
   have bB:=aL 0 (by simp)
   simp only [Nat.add_zero] at bB
   rw [gl,gl,bB]
   exact EG fun m hm=>by
    have:=aL (m + 1) (by simp; omega)
    rw [show k + 1 + m=k + (m + 1) by omega]; exact this
def iz (hs:List c4):List (Option Nat × List Nat × List Nat × List Nat):=hs.map fun h=>(h.slot,h.up,h.rd,h.wr)
theorem vH {hs:List c4} {i:Nat} {h:c4} (aq:hs[i]? =some h):(iz hs)[i]? =some (h.slot,h.up,h.rd,h.wr):=by simp [iz,aq]
def Fl (c:cT) (ops:Array Oper) (Q:Exit→Act→World→Prop) (hs:List c4) (E:List (Nat × I)) (L:List aF) (np:Nat) (i:Nat) (o:Oper) (h:c4):Prop:=
 ∀ (hd:Nat→Hid) (E':List (Nat × I)) (av:List aF),(∀ t τ,look (lL hd hs E h.up) t=some τ→look E' t=some τ)→
   (∀ j e,(gl (fun _=>true) hd 0 (hs.take i) L)[j]? =some e→h.rd.contains j=true→av[j]? =some e)→av.drop np=L.drop np→
   ag c ops (pn (fun a W=> ∃ x,bs c (mN h.slot (h.τ (fJ h.up i (h7 hd i x))) E') (k8 av (h.fh (fJ h.up i (h7 hd i x))) h.wr) a W) Q) [o] E' av
def nR (c:cT) (ops:Array Oper) (Q:Exit→Act→World→Prop) (hs:List c4) (E:List (Nat × I)) (L:List aF) (np:Nat):Nat→List Oper→List c4→Prop
 | _,[],[]=>True
 | i,o :: os,h :: r=>Fl c ops Q hs E L np i o h∧nR c ops Q hs E L np (i + 1) os r
 | _,_,_=>False
theorem nR.get {hs:List c4} {np:Nat} :∀ {k:Nat} {os:List Oper} {rs:List c4},nR c ops Q hs E L np k os rs→ ∀ i h o,rs[i]? =some h→os[i]? =some o→Fl c ops Q hs E L np (k + i) o h
 | k,[],[],_,i,h,o,aq,_=>by simp at aq
 | k,XG :: os,bB :: r,b3,i,h,o,aq,a6=>by
   cases i with
   | zero=>
     simp only [List.getElem?_cons_zero,Option.some.injEq] at aq a6
     subst aq; subst a6; exact b3.1
   | succ i=>
     have:=nR.get b3.2 i h o (by simpa using aq) (by simpa using a6)
     rw [show k + 1 + i=k + (i + 1) by omega] at this
     exact this
 | k,[],_ :: _,b3,_,_,_,_,_=>b3.elim
 | k,_ :: _,[],b3,_,_,_,_,_=>b3.elim
theorem rV.Na {hs:List c4} {np:Nat} :∀ {k:Nat} {os:List Oper} {rs:List c4},rV c ops Q hs E L k os rs→nR c ops Q hs E L np k os rs
 | _,[],[],_=>trivial
 | _,_ :: _,_ :: _,h=>⟨fun hd E' av J ad _=>h.1 hd E' av J ad,rV.Na h.2⟩
 | _,[],_ :: _,h=>h.elim
 | _,_ :: _,[],h=>h.elim
theorem Je {n:Nat} :∀ {L:List aF} {f:Nat→aF} {eR:List Nat},(∀ j∈eR,j < n∨L.length≤j)→ (k8 L f eR).drop n=L.drop n
 | _,_,[],_=>rfl
 | L,f,j :: r,h=>by
   rw [k8,Je (fun k au=>by rw [List.length_set]; exact h k (by simp [au]))]
   rcases h j (by simp) with J | J
   ·rw [List.drop_set_of_lt J]
   ·rw [List.set_eq_of_length_le J]
theorem BC {ls:Nat→Bool} {hd:Nat→Hid} {n:Nat} :∀ {k:Nat} {hs:List c4} {L:List aF},(∀ h∈hs,∀ j∈h.wr,j < n∨L.length≤j)→ (gl ls hd k hs L).drop n=L.drop n
 | _,[],_,_=>rfl
 | k,h :: r,L,hw=>by
   rw [gl]
   cases ar:ls k
   ·exact BC fun x ak=>hw x (by simp [ak])
   ·simp only [cond_true]
    rw [BC (fun x ak j aC=>by rw [II]; exact hw x (by simp [ak]) j aC),Je (hw h (by simp))]
theorem P8 {hs:List c4} {np:Nat} (hw:∀ h∈hs,∀ j∈h.wr,j < np∨L.length≤j) (gI:j1 ops (iz hs) (E.map (·.1))=true) (b3:nR c ops Q hs E L np 0 ops.toList hs)
 (bI:∀ hd,ah c Q .normal (g4 (fun _=>true) hd E 0 hs) (gl (fun _=>true) hd 0 hs L)):
 ∀ m (aX:Array Bool) (hd:Nat→Hid) (a:Act) (W:World),((List.range ops.size).filter fun i=> !aX.getD i true).length≤m→HeadInv .any ops ops.size aX→
   bs c (g4 (fun i=>aX.getD i false) hd E 0 hs) (gl (fun i=>aX.getD i false) hd 0 hs L) a W→wpAnyIn c.F 9 c.P .any ops Q m aX a W:=by
 simp only [j1,Bool.and_eq_true,decide_eq_true_eq] at gI
 obtain⟨⟨⟨FP,fB⟩,zi⟩,jN⟩:=gI
 have hlen:hs.length=ops.size:=by simpa [iz] using FP
 have kO:∀ i,i < ops.size→ ∃ h o,hs[i]? =some h∧ops[i]? =some o:=fun i aq=>⟨hs[i]'(by omega),ops[i],by simp,by simp⟩
 have oJ:∀ (i:Nat) (h:c4) (o:Oper),hs[i]? =some h→ops[i]? =some o→
  o.dst=h.slot∧ (∀ e∈o.after,Region.binds .any e=true→e.on < i)∧
  (∀ k∈h.up,Region.waitsFor .any ops i k=true∨ ∃ m,m < i∧Region.waitsFor .any ops i m=true∧ ∃ x,hs[m]? =some x∧k∈x.up)∧
  (∀ (k:Nat) (x:c4),hs[k]? =some x→ (k < i→ (∃ j∈x.wr,h.rd.contains j=true)→k∈h.up)∧ (i < k→ (∃ j∈x.wr,h.rd.contains j=true∨h.wr.contains j=true)→i∈x.up)):=by
  intro i h o aq a6
  have b5:i < ops.size:=(Array.getElem?_eq_some_iff.1 a6).1
  have J:=List.all_eq_true.1 jN i (List.mem_range.2 b5)
  rw [vH aq] at J
  simp only [Bool.and_eq_true] at J
  obtain⟨⟨ad,ax⟩,aR⟩:=J
  simp only [a6,Option.map_some,Option.getD_some,Bool.and_eq_true,Option.bind_some,beq_iff_eq] at ad
  refine⟨ad.1,fun e he hb=> ?_,fun k au=> ?_,fun k x ak=> ?_⟩
  ·have:=Array.all_eq_true_iff_forall_mem.1 ad.2 e he
   simp [hb] at this
   exact this
  ·have:=List.all_eq_true.1 ax k au
   simp only [Bool.or_eq_true,List.any_eq_true,Bool.and_eq_true,List.mem_range] at this
   rcases this with aW | ⟨m,aW,bc,cn⟩
   ·exact .inl aW
   ·have hm:m < hs.length:=by omega
    rw [vH (List.getElem?_eq_getElem hm)] at cn
    exact .inr ⟨m,aW,bc,hs[m],List.getElem?_eq_getElem hm,by simpa using cn⟩
  ·have zF:k < ops.size:=by have:=(List.getElem?_eq_some_iff.1 ak).1; omega
   have:=List.all_eq_true.1 aR k (List.mem_range.2 zF)
   rw [vH ak] at this
   simp only [Bool.and_eq_true,Bool.or_eq_true,Bool.not_eq_true',Bool.and_eq_false_iff,decide_eq_false_iff_not,List.contains_iff_mem] at this
   refine⟨fun od ⟨j,aC,aQ⟩=> ?_,fun kx ⟨j,aC,aQ⟩=> ?_⟩
   ·rcases this.1 with(aW | aW) | aW
    ·exact absurd od aW
    ·have:=List.any_eq_false.1 aW j aC
     exact absurd aQ this
    ·exact aW
   ·rcases this.2 with(aW | aW) | aW
    ·exact absurd kx aW
    ·have:=List.any_eq_false.1 aW j aC
     simp only [Bool.or_eq_true] at this
     exact absurd aQ this
    ·exact aW
 have tN:∀ (i j s:Nat) (x y:c4),hs[i]? =some x→hs[j]? =some y→x.slot=some s→y.slot=some s→i=j:=by
  have key:∀ (l:List c4),((iz l).filterMap (·.1)).Nodup→ ∀ (i j s:Nat) (x y:c4),l[i]? =some x→l[j]? =some y→x.slot=some s→y.slot=some s→i=j:=by
   intro l
   induction l with
   | nil=>intro _ i j s x y h; simp at h
   | cons z r bz=>
     intro fB i j s x y aq aC ak a7
     have aQ:((iz r).filterMap (·.1)).Nodup:=by
      cases dg:z.slot with
      | none=>simpa [iz,dg] using fB
      | some w=>
        simp only [iz,List.map_cons,List.filterMap_cons,dg] at fB
        exact(List.nodup_cons.1 fB).2
     have oT:z.slot=some s→ ∀ (q:Nat) (v:c4),r[q]? =some v→v.slot≠some s:=fun dg q v hq a3=>by
      simp only [iz,List.map_cons,List.filterMap_cons,dg] at fB
      exact(List.nodup_cons.1 fB).1 (List.mem_filterMap.2 ⟨_,List.mem_map.2 ⟨v,List.mem_of_getElem? hq,rfl⟩,a3⟩)
     cases i with
     | zero=>
       simp only [List.getElem?_cons_zero,Option.some.injEq] at aq
       subst aq
       cases j with
       | zero=>rfl
       | succ j=>simp only [List.getElem?_cons_succ] at aC; exact absurd a7 (oT ak j y aC)
     | succ i=>
       simp only [List.getElem?_cons_succ] at aq
       cases j with
       | zero=>
         simp only [List.getElem?_cons_zero,Option.some.injEq] at aC
         subst aC
         exact absurd ak (oT a7 i x aq)
       | succ j=>simp only [List.getElem?_cons_succ] at aC; rw [bz aQ i j s x y aq aC ak a7]
  exact key hs fB
 have FQ:∀ (t:Nat) (τ:I),look E t=some τ→ ∀ (m:Nat) (h:c4),hs[m]? =some h→h.slot=some t→ ∀ k,k < ops.size→k≠m→k∈h.up:=by
  intro t τ ar m h hm ev k au uD
  have lJ:m < ops.size:=by have:=(List.getElem?_eq_some_iff.1 hm).1; omega
  have J:=List.all_eq_true.1 zi m (List.mem_range.2 lJ)
  rw [show(iz hs)[m]? =some (h.slot,h.up,h.rd,h.wr) by simp [iz,hm],ev] at J
  have sh:t∈E.map (·.1):=by
   clear zi J b3 bI hm ev
   induction E with
   | nil=>simp [look] at ar
   | cons x r bz=>
     obtain⟨s,σ⟩:=x
     simp only [look] at ar
     by_cases e:Nat.beq s t=true
     ·have:=dX.1 e; subst this; simp
     ·simp only [Bool.not_eq_true] at e
      rw [e] at ar
      simp only [List.map_cons,List.mem_cons]
      exact .inr (bz ar)
  replace J:(!(E.map (·.1)).contains t || (List.range ops.size).all fun k=>decide (k=m) || h.up.contains k)=true:=J
  rw [show(E.map (·.1)).contains t=true by simpa using sh] at J
  have ad:∀ x,x < ops.size→x=m∨x∈h.up:=by simpa using J
  exact(ad k au).resolve_left uD
 have ny:∀ (aX:Array Bool),HeadInv .any ops ops.size aX→ ∀ (d i:Nat),i≤d→ ∀ (h:c4) (o:Oper),hs[i]? =some h→ops[i]? =some o→ (∀ e∈o.after,Region.binds .any e=true→aX.getD e.on false=true)→ ∀ k∈h.up,aX.getD k false=true:=by
  intro aX inv d
  induction d with
  | zero=>
    intro i aq h o c6 mU hw k au
    rcases (oJ i h o c6 mU).2.2.1 k au with J | ⟨m,hm,_⟩
    ·obtain⟨jY,g8,e,he,hb,ky⟩:=Region.waitsFor_spec J
     rw [mU] at g8; cases g8
     rw [← ky]; exact hw e he hb
    ·omega
  | succ d bz=>
    intro i aq h o c6 mU hw k au
    rcases (oJ i h o c6 mU).2.2.1 k au with J | ⟨m,hm,J,x,ak,GQ⟩
    ·obtain⟨jY,g8,e,he,hb,ky⟩:=Region.waitsFor_spec J
     rw [mU] at g8; cases g8
     rw [← ky]; exact hw e he hb
    ·obtain⟨jY,g8,e,he,hb,ky⟩:=Region.waitsFor_spec J
     rw [mU] at g8; cases g8
     have lJ:=hw e he hb
     rw [ky] at lJ
     obtain⟨aP,po,mf,o7⟩:=kO m (by have:=(Array.getElem?_eq_some_iff.1 mU).1; omega)
     exact bz m (by omega) x po ak o7 (fun e he hb=>inv.closed m po o7 lJ e he hb) k GQ
 have mH:∀ (aX:Array Bool) (hd:Nat→Hid) (a:Act) (W:World),(∀ i,i < ops.size→aX.getD i true=true)→HeadInv .any ops ops.size aX→
  bs c (g4 (fun i=>aX.getD i false) hd E 0 hs) (gl (fun i=>aX.getD i false) hd 0 hs L) a W→Region.ready .any ops aX= []∧Q .normal a W:=by
  intro aX hd a W oK inv st
  refine⟨?_,?_⟩
  ·refine List.eq_nil_iff_forall_not_mem.2 fun i aq=> ?_
   obtain⟨J,o,a6,_⟩:=mem_ready.1 aq
   rw [oK i (Array.getElem?_eq_some_iff.1 a6).1] at J
   cases J
  ·have ar:∀ m,m < hs.length→aX.getD (0 + m) false=true:=fun m hm=>by
    have J:=oK m (by omega)
    have ad:m < aX.size:=by rw [inv.size]; omega
    simpa [ad] using J
   rw [Ej (ls':=fun _=>true) ar,EG (ls':=fun _=>true) ar] at st
   exact bI hd a W st
 intro m
 induction m with
 | zero=>
   intro aX hd a W hm inv st
   refine mH aX hd a W (fun i aq=> ?_) inv st
   cases h:aX.getD i true with
   | true=>rfl
   | false=>
     have:i∈ (List.range ops.size).filter fun i=> !aX.getD i true:=List.mem_filter.2 ⟨List.mem_range.2 aq,by rw [h]; rfl⟩
     rw [List.length_eq_zero_iff.1 (Nat.le_zero.1 hm)] at this
     cases this
 | succ m bz=>
   intro aX hd a W hm inv st
   refine⟨fun bB=> ?_,fun i aq=> ?_⟩
   ·refine(mH aX hd a W (fun i aq=> ?_) inv st).2
    have key:∀ d i,i≤d→i < ops.size→aX.getD i true=true:=by
     intro d
     induction d with
     | zero=>
       intro i uv aq
       cases ar:aX.getD i true with
       | true=>rfl
       | false=>
         obtain⟨h,o,c6,a6⟩:=kO i aq
         have:i∈Region.ready .any ops aX:=mem_ready.2 ⟨ar,o,a6,fun e he hb=>by have:=(oJ i h o c6 a6).2.1 e he hb; omega⟩
         rw [bB] at this; cases this
     | succ d zR=>
       intro i uv aq
       cases ar:aX.getD i true with
       | true=>rfl
       | false=>
         obtain⟨h,o,c6,a6⟩:=kO i aq
         have:i∈Region.ready .any ops aX:=mem_ready.2 ⟨ar,o,a6,fun e he hb=>by
          have J:=(oJ i h o c6 a6).2.1 e he hb
          have ad:=zR e.on (by omega) (by omega)
          have ax:e.on < aX.size:=by rw [inv.size]; omega
          simpa [ax] using ad⟩
         rw [bB] at this; cases this
    exact key i i (Nat.le_refl _) aq
   ·obtain⟨hJ,o,a6,mx⟩:=mem_ready.1 aq
    have ec:i < ops.size:=(Array.getElem?_eq_some_iff.1 a6).1
    obtain⟨h,_,c6,_⟩:=kO i ec
    have jf:aX.getD i false=false:=getD_both hJ
    have oW:i < aX.size:=by rw [inv.size]; omega
    have oV:((List.range ops.size).filter fun j=> !(aX.setIfInBounds i true).getD j true).length≤m:=by
     have:((List.range ops.size).filter fun j=> !(aX.setIfInBounds i true).getD j true).length < ((List.range ops.size).filter fun j=> !aX.getD j true).length:=by
      refine BQ (fun j=> !aX.getD j true) (fun j=> !(aX.setIfInBounds i true).getD j true) i (by simp only [hJ]; rfl) ?_ (fun j aC=> ?_) ops.size ec
      ·simp [oW]
      ·by_cases e:i=j
       ·subst e; simp only [hJ]; rfl
       ·rw [getD_set_ne true e] at aC; exact aC
     omega
    have qL:=inv.set aq ec
    obtain⟨zf,yy,Um,sg⟩:=oJ i h o c6 a6
    have ud:=ny aX inv i i (Nat.le_refl _) h o c6 a6 mx
    have yA:∀ (k:Nat) (x:c4),hs[k]? =some x→i < k→ (∃ j∈x.wr,h.rd.contains j=true∨h.wr.contains j=true)→aX.getD k false=false:=fun k x ak kx aC=>by
     have J:=(sg k x ak).2 kx aC
     cases au:aX.getD k false with
     | false=>rfl
     | true=>
       obtain⟨_,ok,_,gw⟩:=kO k (by have:=(List.getElem?_eq_some_iff.1 ak).1; omega)
       have:=ny aX inv k k (Nat.le_refl _) x ok ak gw (fun e he hb=>inv.closed k ok gw au e he hb) i J
       rw [jf] at this; cases this
    have yB:hs=hs.take i ++ h :: hs.drop (i + 1):=by
     have GR:i < hs.length:=by omega
     rw [List.getElem?_eq_getElem GR] at c6
     cases c6
     rw [List.getElem_cons_drop]
     exact(List.take_append_drop i hs).symm
    have zS:(hs.take i).length=i:=by rw [List.length_take]; omega
    have o5:∀ (t:Nat) (τ:I),look E t=some τ→ ∀ (m:Nat) (x:c4),hs[m]? =some x→aX.getD (0 + m) false=true→x.slot≠some t:=fun t τ ar m x ak q7 ev=>by
     rw [Nat.zero_add] at q7
     have GS:i≠m:=fun e=>by subst e; rw [jf] at q7; cases q7
     obtain⟨_,po,_,o7⟩:=kO m (by have:=(List.getElem?_eq_some_iff.1 ak).1; omega)
     have:=ny aX inv m m (Nat.le_refl _) x po ak o7 (fun e he hb=>inv.closed m po o7 q7 e he hb) i (FQ t τ ar m x ak ev i ec GS)
     rw [jf] at this; cases this
    have yP:=(nR.get b3 i h o c6 (by rw [Array.getElem?_toList]; exact a6))
    rw [Nat.zero_add] at yP
    have zT:=yP hd (g4 (fun i=>aX.getD i false) hd E 0 hs) (gl (fun i=>aX.getD i false) hd 0 hs L) (fun t τ ar=> ?_) (fun j e aC aQ=> ?_) (BC hw)
    ·have hw:=xO (K:=fun a W=> ∃ x,bs c (mN h.slot (h.τ (fJ h.up i (h7 hd i x))) (g4 (fun i=>aX.getD i false) hd E 0 hs)) (k8 (gl (fun i=>aX.getD i false) hd 0 hs L) (h.fh (fJ h.up i (h7 hd i x))) h.wr) a W) a6 (zT a W st)
     refine wpOpIn_mono (fun fK W' ⟨x,mg⟩=> ?_) hw
     have zU:∀ j,j≠i→h7 hd i x j=hd j:=fun j aC=>by
      have:Nat.beq j i=false:=by
       cases hb:Nat.beq j i
       ·rfl
       ·exact absurd (dX.1 hb) aC
      simp only [h7,this,cond_false]
     have uE:∀ (j:Nat) (y:c4),hs[j]? =some y→aX.getD j false=true→fJ y.up j (h7 hd i x)=fJ y.up j hd:=fun j y a7 aC=>by
      obtain⟨_,jY,_,g8⟩:=kO j (by have:=(List.getElem?_eq_some_iff.1 a7).1; omega)
      refine Jd (zU j fun e=>by subst e; rw [jf] at aC; cases aC) fun k au=>zU k fun e=> ?_
      have:=ny aX inv j j (Nat.le_refl _) y jY a7 g8 (fun e he hb=>inv.closed j jY g8 aC e he hb) k au
      subst e
      rw [jf] at this; cases this
     have uF:(aX.setIfInBounds i true).getD i false=true:=by simp [oW]
     have fC:∀ j,j≠i→ (aX.setIfInBounds i true).getD j false=aX.getD j false:=fun j aC=>getD_set_ne false (fun e=>aC e.symm)
     refine bz _ (h7 hd i x) fK W' oV qL ?_
     have Gi:gl (fun j=>(aX.setIfInBounds i true).getD j false) (h7 hd i x) 0 hs L=k8 (gl (fun i=>aX.getD i false) hd 0 hs L) (h.fh (fJ h.up i (h7 hd i x))) h.wr:=by
      apply List.ext_getElem?
      intro j
      rw [tv,Bs,tv]
      by_cases aC:h.wr.contains j=true
      ·rw [if_pos aC]
       have aE:∀ (ls:Nat→Bool) (g:Nat→Hid) (v:Option aF),(∀ k x,hs[k]? =some x→i < k→x.wr.contains j=true→ls k=false)→jA ls g j 0 hs v=(bif ls i then(jA ls g j 0 (hs.take i) v).map (fun _=>h.fh (fJ h.up i g) j) else jA ls g j 0 (hs.take i) v):=fun ls g v zP=>by
        conv=>lhs; rw [yB]
        rw [xS,zS,Nat.zero_add,jA,aC,Bool.and_true,x1]
        intro k x ak hw
        rw [List.getElem?_drop] at ak
        exact zP (i + 1 + k) x ak (by omega) hw
       have eX:∀ k x,hs[k]? =some x→i < k→x.wr.contains j=true→aX.getD k false=false:=fun k x ak kx hw=>yA k x ak kx ⟨j,by simpa using hw,.inr aC⟩
       rw [aE (fun j=>(aX.setIfInBounds i true).getD j false) (h7 hd i x) _ (fun k x ak kx hw=>by rw [fC k (by omega)]; exact eX k x ak kx hw),aE (fun j=>aX.getD j false) hd _ eX]
       simp only [uF,jf,cond_true,cond_false]
       rw [s8 (ls':=fun j=>aX.getD j false) (hd':=hd) fun q x ak _=>by
        have hq:q < i:=by have:=(List.getElem?_eq_some_iff.1 ak).1; omega
        rw [List.getElem?_take,if_pos hq] at ak
        rw [Nat.zero_add]
        exact⟨fC q (by omega),fun ar=>uE q x ak (by rw [fC q (by omega)] at ar; exact ar)⟩]
      ·rw [if_neg aC]
       refine s8 fun q x ak hw=> ?_
       rw [Nat.zero_add]
       have hq:q≠i:=fun e=>by subst e; rw [c6] at ak; cases ak; exact aC hw
       exact⟨fC q hq,fun ar=>uE q x ak (by rw [fC q hq] at ar; exact ar)⟩
     rw [Gi]
     refine mg.less fun t τ ar=> ?_
     rcases EF ar with⟨j,y,J,ad,ax,aR⟩ | ⟨J,eX⟩
     ·rw [Nat.zero_add] at ad aR
      by_cases hx:j=i
      ·subst hx
       rw [c6] at J
       cases J
       exact⟨τ,by rw [ax,aR]; simp [mN,look,Nat.beq_refl],fun _ _ _ h=>h⟩
      ·rw [fC j hx] at ad
       rw [uE j y J ad] at aR
       have aW:=ya (ls:=fun i=>aX.getD i false) (hd:=hd) (E:=E) (k:=0) J (by rw [Nat.zero_add]; exact ad) ax fun q z hq dg=>tN q j t z y hq J dg ax
       rw [Nat.zero_add,← aR] at aW
       refine⟨τ,?_,fun _ _ _ h=>h⟩
       cases nv:h.slot with
       | none=>exact aW
       | some s=>
         have cQ:Nat.beq s t=false:=by
          cases hb:Nat.beq s t
          ·rfl
          ·have:=dX.1 hb; subst this
           exact absurd (tN j i s y h J c6 ax nv) hx
         simp only [mN,look,cQ,cond_false]
         exact aW
     ·have hb:=o5 t τ J
      have aW:=x2 (ls:=fun i=>aX.getD i false) (hd:=hd) (E:=E) (k:=0) hb
      refine⟨τ,?_,fun _ _ _ h=>h⟩
      cases nv:h.slot with
      | none=>simp only [mN]; rw [aW]; exact J
      | some s=>
        have cQ:Nat.beq s t=false:=by
         cases mb:Nat.beq s t
         ·rfl
         ·have:=dX.1 mb; subst this
          exact absurd nv (eX i h c6 (by rw [Nat.zero_add]; exact uF))
        simp only [mN,look,cQ,cond_false]
        rw [aW]; exact J
    ·rcases E3 ar with⟨j,aC,y,J,ad,ax⟩ | J
     ·have aW:=ya (ls:=fun i=>aX.getD i false) (hd:=hd) (E:=E) (k:=0) J (by rw [Nat.zero_add]; exact ud j aC) ad fun q z hq dg=>tN q j t z y hq J dg ad
      rw [Nat.zero_add,← ax] at aW
      exact aW
     ·rw [x2 (o5 t τ J)]; exact J
    ·rw [tv] at aC ⊢
     rw [← aC]
     conv=>lhs; rw [yB]
     rw [xS,x1]
     ·refine s8 fun q x ak hw=> ?_
      rw [Nat.zero_add]
      have hq:q < i:=by have:=(List.getElem?_eq_some_iff.1 ak).1; omega
      rw [List.getElem?_take,if_pos hq] at ak
      exact⟨ud q ((sg q x ak).1 hq ⟨j,by simpa using hw,aQ⟩),fun _=>rfl⟩
     ·intro q x ak hw
      rw [zS,Nat.zero_add]
      cases q with
      | zero=>exact jf
      | succ q=>
        simp only [List.getElem?_cons_succ] at ak
        rw [List.getElem?_drop] at ak
        exact yA (i + (q + 1)) x (by rw [← ak]; congr 1; omega) (by omega) ⟨j,by simpa using hw,.inl aQ⟩
theorem ai.KI {np:Nat} {nx:Nat} {l:List Oper} (hm:c.P.follows .mixedOrders=true) (hs:List c4) (ds:List (Option Nat × List Nat × List Nat × List Nat)) (es:List Nat) (hv:iz hs=ds) (q8:E.map (·.1)=es) (gI:Gv.j1 l.toArray ds es=true) (hw:∀ h∈hs,∀ j∈h.wr,j < np∨L.length≤j)
 (b3:nR c l.toArray Q hs E L np 0 l hs) (bI:∀ hd,ah c Q .normal (g4 (fun _=>true) hd E 0 hs) (gl (fun _=>true) hd 0 hs L)):ai c Q (.region nx l.toArray true) E L:=fun a W s=>by
 subst hv q8
 refine wpIn_region_any hm ?_
 have zg:HeadInv .any l.toArray l.toArray.size (Array.replicate l.toArray.size false):=
  {size:=by simp
   closed:=fun j jY _ ar=>by rw [getD_replicate_false] at ar; cases ar
   tail:=fun t J ad=>by omega }
 refine P8 hw (ops:=l.toArray) (Q:=Q) gI (by simpa using b3) bI l.toArray.size (Array.replicate l.toArray.size false) (fun _ _=>none) a W.drew (Nat.le_trans (List.length_filter_le _ _) (by simp)) zg ?_
 have J:∀ (hs:List c4) (k:Nat),g4 (fun i=>(Array.replicate l.toArray.size false).getD i false) (fun _ _=>none) E k hs=E:=by
  intro hs
  induction hs with
  | nil=>intro k; rfl
  | cons h r bz=>
    intro k
    have ad:=bz (k + 1)
    simp only [getD_replicate_false] at ad
    unfold g4
    simp only [getD_replicate_false]
    exact ad
 have ad:∀ (hs:List c4) (k:Nat) (L:List aF),gl (fun i=>(Array.replicate l.toArray.size false).getD i false) (fun _ _=>none) k hs L=L:=by
  intro hs
  induction hs with
  | nil=>intro k L; rfl
  | cons h r bz=>intro k L; rw [gl,bz]; simp only [getD_replicate_false,cond_false]
 rw [J,ad]
 exact s.world (Fr.drew W)
theorem ai.j1 {nx:Nat} {l:List Oper} (hm:c.P.follows .mixedOrders=true) (hs:List c4) (ds:List (Option Nat × List Nat × List Nat × List Nat)) (es:List Nat) (hv:iz hs=ds) (q8:E.map (·.1)=es) (gI:Gv.j1 l.toArray ds es=true)
 (b3:rV c l.toArray Q hs E L 0 l hs) (bI:∀ hd,ah c Q .normal (g4 (fun _=>true) hd E 0 hs) (gl (fun _=>true) hd 0 hs L)):ai c Q (.region nx l.toArray true) E L:=
 ai.KI (np:=L.length) hm hs ds es hv q8 gI (fun _ _ j _=>by omega) b3.Na bI
theorem LP {hs:List c4} {ds:List (Option Nat × List Nat × List Nat × List Nat)} {np:Nat} (hv:iz hs=ds) (h:(ds.all fun d=>d.2.2.2.all fun j=>Nat.blt j np)=true):∀ h∈hs,∀ j∈h.wr,j < np∨L.length≤j:=fun x ak j aC=>by
 subst hv
 have J:=List.all_eq_true.1 h (x.slot,x.up,x.rd,x.wr) (List.mem_map.2 ⟨x,ak,rfl⟩)
 have ad:=List.all_eq_true.1 J j aC
 exact .inl (Nat.blt_eq.mp ad)
theorem ai.pI {nx:Nat} {l:List Oper} (np:Nat) (hm:c.P.follows .mixedOrders=true) (hs:List c4) (ds:List (Option Nat × List Nat × List Nat × List Nat)) (es:List Nat) (hv:iz hs=ds) (q8:E.map (·.1)=es) (gI:Gv.j1 l.toArray ds es=true) (hw:(ds.all fun d=>d.2.2.2.all fun j=>Nat.blt j np)=true)
 (b3:nR c l.toArray Q hs E L np 0 l hs) (bI:∀ hd,ah c Q .normal (g4 (fun _=>true) hd E 0 hs) (gl (fun _=>true) hd 0 hs L)):ai c Q (.region nx l.toArray true) E L:=
 ai.KI hm hs ds es hv q8 gI (LP hv hw) b3 bI
theorem ah.fin {slot:Option Nat} {up wr:List Nat} {i:Nat} {hd:Nat→Hid} {τ:(Nat→Hid)→I} {fh:(Nat→Hid)→Nat→aF} {E' uO:List (Nat × I)} {av L2:List aF} (x:Hid) (aw:uO=mN slot (τ (fJ up i (h7 hd i x))) E') (an:L2=k8 av (fh (fJ up i (h7 hd i x))) wr):
 ah c (pn (fun a W=> ∃ x,bs c (mN slot (τ (fJ up i (h7 hd i x))) E') (k8 av (fh (fJ up i (h7 hd i x))) wr) a W) Q) .normal uO L2:=fun a W s=>by
 subst aw an
 exact⟨x,s⟩
theorem ah.place {z:Exit} {e:aF} (j:Nat) (aC:L[j]? =some ⟨none,.dead⟩) (k:ah c Q z E (L.set j e)):ah c Q z E (e :: L):=fun a W s=>by
 refine k a W (s.sub (fun x ak=> ?_) ?_)
 ·rcases List.mem_or_eq_of_mem_set ak with h | h
  ·exact List.mem_cons.2 (.inr h)
  ·exact List.mem_cons.2 (.inl h)
 ·have J:=rH aC
  have ad:(L.set j e).Perm (e :: L.eraseIdx j):=by
   have ax:(L.set j e)[j]? =some e:=by rw [List.getElem?_set_self (List.getElem?_eq_some_iff.1 aC).1]
   have aR:=rH ax
   rwa [List.eraseIdx_set_eq] at aR
  have aW:=tm (J.cons e)
  have bc:aJ (e :: ⟨none,.dead⟩ :: L.eraseIdx j)=aJ (e :: L.eraseIdx j):=by cases au:e.key <;> simp [aJ,au]
  rw [bc] at aW
  exact(tm ad).nodup_iff.2 (aW.nodup_iff.1 s.nodup)
theorem ah.back {z:Exit} {e kF:aF} (j:Nat) (aC:L[j]? =some kF) (k:ah c Q z E (L.set j e)):ah c Q z E (e :: L.eraseIdx j):=fun a W s=>by
 have ax:(L.set j e)[j]? =some e:=by rw [List.getElem?_set_self (List.getElem?_eq_some_iff.1 aC).1]
 have aR:=rH ax
 rw [List.eraseIdx_set_eq] at aR
 exact k a W (s.perm aR.symm)
theorem ai.pP {z:Code} (n:Nat) (k:ai c Q z E (L ++ List.replicate n ⟨none,.dead⟩)):ai c Q z E L:=fun a W s=>by
 refine k a W ?_
 have au:aJ (L ++ List.replicate n ⟨none,.dead⟩)=aJ L:=by
  rw [eF]
  have:∀ n,aJ (List.replicate n (⟨none,.dead⟩:aF))= []:=fun n=>by
   induction n with
   | zero=>rfl
   | succ n bz=>rw [List.replicate_succ]; simp [aJ,bz]
  rw [this,List.append_nil]
 exact
 {defers:=s.defers
  size:=s.size
  env:=fun t τ ar=>by rw [au]; exact s.env t τ ar
  dm:=s.dm
  own:=fun e he=>by
   rw [au]
   rcases List.mem_append.1 he with he | he
   ·exact s.own e he
   ·rw [(List.mem_replicate.1 he).2]; trivial
  nodup:=by rw [au]; exact s.nodup
  lt:=by rw [au]; exact s.lt
  fA:=by rw [au]; exact s.fA
  eC:=by rw [au]; exact s.eC }
theorem ai.LK {z:Code} (n m:Nat) (k:ai c Q z E (L.take m ++ (List.replicate n ⟨none,.dead⟩ ++ L.drop m))):ai c Q z E L:=by
 refine ai.pP n fun a W s=>k a W (s.perm ?_)
 have e:L=L.take m ++ L.drop m:=(List.take_append_drop m L).symm
 conv=>lhs; rw [e]
 rw [List.append_assoc]
 exact List.perm_append_comm.append_left _
theorem ah.dT {z:Exit} {L2:List aF} (h:L=L2) (k:ah c Q z E L2):ah c Q z E L:=by subst h; exact k
theorem ah.nZ {z:Exit} {key:Option Nat} {n m cap:Nat} (eQ:Nat) (ar:look E eQ=some (.eq (a5 key n cap))) (aL:n=m) (k:ah c Q z ((eQ,.eq (a5 key m cap)) :: E) L):ah c Q z E L:=fun a W s=>by
 subst aL
 refine k a W (s.less fun t τ h=> ?_)
 simp only [look] at h
 by_cases e:Nat.beq eQ t=true
 ·rw [e] at h
  simp only [cond_true] at h
  have:=dX.1 e
  subst this
  exact⟨τ,by rw [ar,h],fun _ _ _ h=>h⟩
 ·simp only [Bool.not_eq_true] at e
  rw [e] at h
  exact⟨τ,h,fun _ _ _ h=>h⟩
variable {hs:List c4} {i d:Nat} {up rd:List Nat} {fh:(Nat→Hid)→Nat→aF} {o:Oper}
theorem hE {τ:I} (bx:o.guard=none) (hd:o.dst=some d) (aL:Nat.blt d c.n=true)
 (h:∀ (hd:Nat→Hid) (E':List (Nat × I)) (av:List aF),(∀ t τ,look (lL hd hs E up) t=some τ→look E' t=some τ)→ (∀ j e,(gl (fun _=>true) hd 0 (hs.take i) L)[j]? =some e→rd.contains j=true→av[j]? =some e)→bO c E' av o τ):
 cl c ops Q hs E L i o ⟨some d,up,rd,[],fun _=>τ,fh⟩:=fun WG E' av aw an=>
 ag.v (h WG E' av aw an) bx hd aL (ag.nil (ah.fin (fun _=>none) rfl rfl))
variable {ty t:TypeId} {pos:String} {af:Array Edge}
theorem ag.Me {α:Type} [ae α] {rest:List Oper} {a9 e n:Nat} {z:α} {r0 r:List α} {bj:List (Nat × Operand)} (hu:c.P.underlying t=some (.slice e)) (eg:bq c.P e α) (fV:cc c.P e z) (hs:Nat.beq (ae.size α) 0=false) (aL:Nat.ble (n * ae.size α) 16777216=true)
 (a0:mC c E L (List.replicate n z) bj r0) (aQ:r0=r) (jr:Nat.blt a9 c.n=true) (k:∀ p,ag c ops Q rest ((a9,.eq (a5 p r.length n)) :: E) (⟨p,.row e r n⟩ :: L)):
 ag c ops Q (⟨some a9,.buildSlice t n bj.toArray,ty,pos,af,none⟩ :: rest) E L:=by subst aQ; exact ag.pN hu eg fV hs aL a0 jr k
variable {g:Option (Nat × Bool)} {x y:Operand}
theorem QY {a b:BitVec 64} {a9:Option Tmp} {ats:Array TypeId} (ak:a4 c E L x (.of a)) (a7:a4 c E L y (.of b)):bO c E L ⟨a9,.call ⟨.builtin .min,#[x,y],ats⟩,ty,pos,af,g⟩ (.of (ub a b)):= .pure fun A W s=>
 ⟨.int .u64 (ub a b).toNat,by
   simp [execOp,resolve,invoke,builtin,Builtin.min_,Builtin.min2,gN.1 (ak A W s),gN.1 (a7 A W s)]
   unfold ub
   split <;> split <;> first | rfl | (rename_i J ad; simp only [BitVec.le_def] at *; omega),gN.2 rfl⟩
end
end Gv
namespace Gv
open Go
set_option linter.unusedVariables false
set_option linter.unusedSimpArgs false
section
variable {c:cT} {E:List (Nat × I)} {L:List aF} {ops:Array Oper} {Q:Exit→Act→World→Prop}
variable {d:Option Tmp} {ty:TypeId} {pos:String} {af:Array Edge} {g:Option (Nat × Bool)} {x y:Operand} {t t2:TypeId}
def Src (c:cT) (E:List (Nat × I)) (L:List aF) (y:Operand) (N:Nat) {α:Type} [ae α] (vs:List α):Prop:=
 ∀ a W,bs c E L a W→ (Builtin.lenOf (a.eval y)).run c.P W= .ok N W∧ ∃ cells:List Value,(Builtin.firstCells (ae.size α) vs.length (a.eval y)).run c.P W= .ok cells.toArray W∧fQ (aJ L ++ c.bM) W cells vs∧ ∀ v∈cells,v.oneCell'=true
theorem ag.Ce {rest:List Oper} {i e p off a9 dLen dCap N T:Nat} {cp cp':dA} {α:Type} [ae α] {vs:List α} (hu:c.P.underlying t=some (.slice e)) (eg:bq c.P e α)
 (ak:a4 c E L x (.eq (.slice (some ⟨p,off,none⟩) dLen dCap))) (a7:Src c E L y N vs) (Gg:Nat.min N dLen=vs.length) (an:L[i]? =some ⟨some p,cp⟩) (aL:Nat.blt a9 c.n=true)
 (GD:∀ A W o cells,cp.holds A W o→fQ A W cells vs→ ∃ cs,o= .cells cs T (0,0)∧off + cells.length≤cs.size∧cp'.holds A W (.cells (cs.toList.take off ++ cells ++ cs.toList.drop (off + cells.length)).toArray T (0,0)))
 (k:ag c ops Q rest ((a9,.of (vs.length:Int)) :: E) (L.set i ⟨some p,cp'⟩)):
 ag c ops Q (⟨some a9,.call ⟨.builtin .copy,#[x,y],#[t,t2]⟩,ty,pos,af,none⟩ :: rest) E L:=fun a W s=>by
 have jr:a9 < c.n:=by simpa using aL
 have J:a.eval x=_:=ak a W s
 obtain⟨ar,cells,aj,aQ,wI⟩:=a7 a W s
 obtain⟨o,a6,b3⟩:=s.own _ (List.mem_of_getElem? an)
 obtain⟨cs,rfl,Cx,n4⟩:=GD _ _ _ _ b3 aQ
 obtain⟨fy,dP,dL⟩:=eg.info
 have eY:=run_storeCells_at (P:=c.P) p off T cells 0 cs W a6 (by omega) wI
 simp only [Nat.add_zero] at eY
 have jg:(execOp a.eval ⟨some a9,.call ⟨.builtin .copy,#[x,y],#[t,t2]⟩,ty,pos,af,none⟩).run c.P W= .ok (.value (goInt vs.length)) (W.setRow p (cs.toList.take off ++ cells ++ cs.toList.drop (off + cells.length)).toArray):=by
  simp [execOp,resolve,invoke,builtin,Builtin.copy_,J,run_underlying hu,ar,Gg,Go.sizeOf,typeInfo,dP,dL,aj,eY]
 refine hA rfl (R:=fun v gD=>v=goInt vs.length∧gD=W.setRow p (cs.toList.take off ++ cells ++ cs.toList.drop (off + cells.length)).toArray) (.k2 jg ⟨rfl,rfl⟩) fun v gD ⟨a3,hw⟩=> ?_
 subst a3
 subst hw
 exact k _ _ ((s.store an a6 n4).put jr (of_int.2 rfl))
theorem BA {i T cap lo N k:Nat} {key:Option Nat} {α:Type} [ae α] {xs:List α} (a7:a4 c E L y (.eq (g2 key lo N cap (ae.size α)))) (an:L[i]? =some ⟨key,.row T xs cap⟩) (au:0 < k) (fC:lo + k≤xs.length):
 Src c E L y N ((xs.drop lo).take k):=fun a W s=>by
 obtain⟨p,cs,rfl,ed,ay,bf,bJ,dz⟩:=s.rowAt an (by omega)
 have J:a.eval y=_:=a7 a W s
 have kz:cap≠lo:=by omega
 have a3:a.eval y= .slice (some ⟨p,lo * ae.size α,none⟩) N (cap - lo):=by rw [J]; simp [g2,kz]
 have hlen:((xs.drop lo).take k).length=k:=by rw [List.length_take,List.length_drop]; omega
 have su:cs.toList.length=cap * ae.size α:=by simpa using ay
 have VP:(lo + k) * ae.size α≤xs.length * ae.size α:=Nat.mul_le_mul_right _ fC
 have Cw:xs.length * ae.size α≤cap * ae.size α:=Nat.mul_le_mul_right _ bf
 rw [Nat.add_mul] at VP
 have MC:((cs.toList.drop (lo * ae.size α)).take (k * ae.size α)).length=k * ae.size α:=by rw [List.length_take,List.length_drop]; omega
 have fq:fQ (aJ L ++ c.bM) W ((cs.toList.drop (lo * ae.size α)).take (k * ae.size α)) ((xs.drop lo).take k):=by
  refine⟨by rw [MC,hlen],fun j aC=> ?_⟩
  rw [hlen] at aC
  have aW:=dz.2 (lo + j) (by omega)
  have ec:=vP (s:=ae.size α) aC
  have X5:=vP (s:=ae.size α) (show lo + j < xs.length by omega)
  rw [List.drop_take,List.take_take,Nat.min_eq_left (by omega)] at aW
  rw [List.drop_take,List.take_take,Nat.min_eq_left (by omega),List.drop_drop,← Nat.add_mul]
  simpa using aW
 have fx:=run_loadCells_list (P:=c.P) W ⟨p,lo * ae.size α,none⟩ ((cs.toList.drop (lo * ae.size α)).take (k * ae.size α)) fun j v a3=>by
  rw [ig,cell_of_row W p _ cs T (0,0) ed]
  rw [List.getElem?_take] at a3
  split at a3
  ·rw [List.getElem?_drop] at a3; simpa using a3
  ·cases a3
 rw [MC] at fx
 refine⟨by rw [a3]; rfl,(cs.toList.drop (lo * ae.size α)).take (k * ae.size α),?_,fq,fq.one⟩
 rw [a3]
 simp only [Builtin.firstCells]
 rw [hlen]
 exact fx
theorem EY {p lo n cap size:Nat} (h:cap≠lo):g2 (some p) lo n cap size=Value.slice (some ⟨p,lo * size,none⟩) n (cap - lo):=by simp [g2,h]
theorem J3 {i T cap:Nat} {key:Option Nat} {α:Type} [ae α] {xs:List α} (a7:a4 c E L y (.eq (a5 key xs.length cap))) (an:L[i]? =some ⟨key,.row T xs cap⟩) (ak:0 < xs.length):Src c E L y xs.length xs:=by
 have:=BA (lo:=0) (k:=xs.length) (N:=xs.length) (by rw [xX]; exact a7) an ak (by omega)
 simpa using this
theorem BN {key:Option Nat} {n cap size:Nat} (h:a4 c E L x (.eq (g2 key 0 n cap size))):a4 c E L x (.eq (a5 key n cap)):=by rw [← xX (size:=size)]; exact h
theorem Fh {p lo n cap size:Nat} (aj:cap≠lo) (h:a4 c E L x (.eq (g2 (some p) lo n cap size))):a4 c E L x (.eq (.slice (some ⟨p,lo * size,none⟩) n (cap - lo))):=by rw [← EY aj]; exact h
def dA.zv {α:Type} [ae α] (T:TypeId) (xs:List α) (i m cap:Nat):dA where
 holds A W o:= ∃ cs,o= .cells cs T (0,0)∧cs.size=cap * ae.size α∧xs.length + m≤cap∧cap≤maxLen∧fQ A W (cs.toList.take (i * ae.size α)) (xs.take i)∧
  fQ A W ((cs.toList.drop ((i + m) * ae.size α)).take ((xs.length - i) * ae.size α)) (xs.drop i)
 mF:=False
 mono e h:=let⟨cs,J,ad,ax,aR,aW,bc⟩:=h; ⟨cs,J,ad,ax,aR,aW.mono e,bc.mono e⟩
theorem RA {α:Type} [ae α] {T i m cap:Nat} {xs:List α} (aq:i≤xs.length) (hm:xs.length + m≤cap) {A W o cells} (h:(dA.row T xs cap).holds A W o) (aj:fQ A W cells (xs.drop i)):
 ∃ cs,o= .cells cs T (0,0)∧ (i + m) * ae.size α + cells.length≤cs.size∧ (dA.zv T xs i m cap).holds A W (.cells (cs.toList.take ((i + m) * ae.size α) ++ cells ++ cs.toList.drop ((i + m) * ae.size α + cells.length)).toArray T (0,0)):=by
 obtain⟨cs,rfl,ay,bf,bJ,dz⟩:=h
 have su:cs.toList.length=cap * ae.size α:=by simpa using ay
 have kz:cells.length=(xs.length - i) * ae.size α:=by rw [aj.1,List.length_drop]
 have aE:(i + m) * ae.size α + (xs.length - i) * ae.size α=(xs.length + m) * ae.size α:=by rw [← Nat.add_mul]; congr 1; omega
 have bd:(xs.length + m) * ae.size α≤cap * ae.size α:=Nat.mul_le_mul_right _ hm
 have ej:i * ae.size α≤ (i + m) * ae.size α:=Nat.mul_le_mul_right _ (by omega)
 have hS:i * ae.size α≤xs.length * ae.size α:=Nat.mul_le_mul_right _ aq
 have lQ:(cs.toList.take ((i + m) * ae.size α)).length=(i + m) * ae.size α:=by rw [List.length_take]; omega
 refine⟨cs,rfl,by omega,_,rfl,?_,hm,bJ,?_,?_⟩
 ·simp only [List.size_toArray,List.length_append,List.length_take,List.length_drop]; omega
 ·rw [List.toList_toArray,List.append_assoc,List.take_append_of_le_length (by rw [lQ]; omega),List.take_take,Nat.min_eq_left ej]
  have:=EA aq (⟨cs,rfl,ay,bf,bJ,dz⟩:(dA.row T xs cap).holds A W (.cells cs T (0,0)))
  obtain⟨WH,J,_,_,_,aW⟩:=this
  cases J
  rwa [List.length_take,Nat.min_eq_left aq] at aW
 ·rw [List.toList_toArray,List.append_assoc,List.drop_left' lQ,← kz,List.take_left]
  exact aj
theorem Q3 {α:Type} [ae α] {T i cap:Nat} {xs vs:List α} (aq:i≤xs.length) {A W o cells} (h:(dA.zv T xs i vs.length cap).holds A W o) (aj:fQ A W cells vs):
 ∃ cs,o= .cells cs T (0,0)∧i * ae.size α + cells.length≤cs.size∧ (dA.row T (xs.take i ++ vs ++ xs.drop i) cap).holds A W (.cells (cs.toList.take (i * ae.size α) ++ cells ++ cs.toList.drop (i * ae.size α + cells.length)).toArray T (0,0)):=by
 obtain⟨cs,rfl,ay,bf,bJ,dz,oo⟩:=h
 have su:cs.toList.length=cap * ae.size α:=by simpa using ay
 have kz:cells.length=vs.length * ae.size α:=aj.1
 have kF:i * ae.size α + vs.length * ae.size α=(i + vs.length) * ae.size α:=by rw [← Nat.add_mul]
 have aE:(i + vs.length) * ae.size α + (xs.length - i) * ae.size α=(xs.length + vs.length) * ae.size α:=by rw [← Nat.add_mul]; congr 1; omega
 have bd:(xs.length + vs.length) * ae.size α≤cap * ae.size α:=Nat.mul_le_mul_right _ bf
 have hlen:(xs.take i ++ vs ++ xs.drop i).length=xs.length + vs.length:=by simp; omega
 refine⟨cs,rfl,by omega,_,rfl,?_,by rw [hlen]; exact bf,bJ,?_⟩
 ·simp only [List.size_toArray,List.length_append,List.length_take,List.length_drop]; omega
 ·rw [List.toList_toArray,hlen]
  have jN:=rF (rF dz aj) oo
  have lQ:(cs.toList.take (i * ae.size α) ++ cells).length=(i + vs.length) * ae.size α:=by rw [List.length_append,List.length_take]; omega
  have uW:(cs.toList.take (i * ae.size α) ++ cells ++ cs.toList.drop (i * ae.size α + cells.length)).take ((xs.length + vs.length) * ae.size α)=cs.toList.take (i * ae.size α) ++ cells ++ (cs.toList.drop ((i + vs.length) * ae.size α)).take ((xs.length - i) * ae.size α):=by
   rw [List.take_append,lQ,List.take_of_length_le (by omega),kz,kF]
   congr 2
   omega
  rw [uW]
  exact jN
theorem EB {α:Type} [ae α] {T lo cap:Nat} {xs vs:List α} (au:lo + vs.length≤xs.length) {A W o cells} (h:(dA.row T xs cap).holds A W o) (aj:fQ A W cells vs):
 ∃ cs,o= .cells cs T (0,0)∧lo * ae.size α + cells.length≤cs.size∧ (dA.row T (xs.take lo ++ vs ++ xs.drop (lo + vs.length)) cap).holds A W (.cells (cs.toList.take (lo * ae.size α) ++ cells ++ cs.toList.drop (lo * ae.size α + cells.length)).toArray T (0,0)):=by
 obtain⟨cs,rfl,ay,bf,bJ,dz⟩:=h
 have su:cs.toList.length=cap * ae.size α:=by simpa using ay
 have kz:cells.length=vs.length * ae.size α:=aj.1
 have kF:lo * ae.size α + vs.length * ae.size α=(lo + vs.length) * ae.size α:=by rw [← Nat.add_mul]
 have aE:(lo + vs.length) * ae.size α≤xs.length * ae.size α:=Nat.mul_le_mul_right _ au
 have bd:xs.length * ae.size α≤cap * ae.size α:=Nat.mul_le_mul_right _ bf
 have hlen:(xs.take lo ++ vs ++ xs.drop (lo + vs.length)).length=xs.length:=by simp; omega
 refine⟨cs,rfl,by omega,_,rfl,?_,by rw [hlen]; exact bf,bJ,?_⟩
 ·simp only [List.size_toArray,List.length_append,List.length_take,List.length_drop]; omega
 ·rw [List.toList_toArray,hlen]
  have oo:=Ja (lo:=lo) dz aj au
  have e:(cs.toList.take (lo * ae.size α) ++ cells ++ cs.toList.drop (lo * ae.size α + cells.length)).take (xs.length * ae.size α)=(cs.toList.take (xs.length * ae.size α)).take (lo * ae.size α) ++ cells ++ (cs.toList.take (xs.length * ae.size α)).drop (lo * ae.size α + cells.length):=by
   have ej:(cs.toList.take (lo * ae.size α) ++ cells).length=lo * ae.size α + cells.length:=by rw [List.length_append,List.length_take]; omega
   rw [List.take_append,ej,List.take_of_length_le (by omega),List.take_take,Nat.min_eq_left (by omega),List.drop_take]
  rw [e]
  exact oo
theorem Sn {p n cap e:Nat} (hu:c.P.underlying t=some (.slice e)) (ak:a4 c E L x (.eq (a5 (some p) n cap))):bO c E L ⟨d,.call ⟨.builtin .cap,#[x],#[t]⟩,ty,pos,af,g⟩ (.of (cap:Int)):= .pure fun a W s=>by
 have J:a.eval x=_:=ak a W s
 exact⟨.int .i64 cap,by simp [execOp,resolve,invoke,builtin,Builtin.cap_,J,a5,run_underlying hu,goInt],of_int.2 rfl⟩
theorem qg {p n cap:Nat} {α:Type} [ae α] {e:TypeId} {lo aq:Option Operand} {m h:Nat} {Ah Ai:Int} (hu:c.P.underlying t=some (.slice e)) (eg:bq c.P e α) (ak:a4 c E L x (.eq (a5 (some p) n cap)))
 (fC:sC c E L lo Ah 0) (c6:sC c E L aq Ai n) (hm:Ah=m) (aL:Ai=h) (b3:m≤h∧h≤cap):
 bO c E L ⟨d,.slice t x lo aq none,ty,pos,af,g⟩ (.eq (g2 (some p) m (h - m) cap (ae.size α))):= .pure fun a W s=>by
 subst hm; subst aL
 obtain⟨qS,lK⟩:=b3
 obtain⟨fy,dP,dL⟩:=eg.info
 have J:a.eval x=_:=ak a W s
 refine⟨_,?_,rfl⟩
 simp only [g2]
 have an:∀ v,v=Value.int .i64 m→ (Instr.sliceBound v h .sliceB).run c.P W= .ok m W:=fun v a3=>nL qS a3
 have iS:∀ v,v=Value.int .i64 h→ (Instr.sliceBound v cap .sliceAcap).run c.P W= .ok h W:=fun v a3=>nL (by omega) a3
 generalize ec:(h:Int)=NA at c6
 generalize zJ:(m:Int)=NB at fC
 generalize zK:(n:Int)=NC at c6
 generalize M3:(0:Int)=ND at fC
 cases fC with
 | none=>
   have gk:m=0:=by omega
   cases c6 with
   | none=>
     have lK:h=n:=by omega
     subst lK
     subst gk
     simp [execOp,Instr.sliceAt,Instr.slice,Instr.sliceBounds,J,a5,run_underlying hu,Go.sizeOf,typeInfo,dP,dL,ig]
   | some b3=>
     subst ec
     subst gk
     simp [execOp,Instr.sliceAt,Instr.slice,Instr.sliceBounds,J,a5,run_underlying hu,Go.sizeOf,typeInfo,dP,dL,ig,iS _ (of_int.1 (b3 a W s))]
 | some ar=>
   subst zJ
   cases c6 with
   | none=>
     have lK:h=n:=by omega
     subst lK
     simp [execOp,Instr.sliceAt,Instr.slice,Instr.sliceBounds,J,a5,run_underlying hu,Go.sizeOf,typeInfo,dP,dL,ig,an _ (of_int.1 (ar a W s))]
     split <;> rfl
   | some b3=>
     subst ec
     simp [execOp,Instr.sliceAt,Instr.slice,Instr.sliceBounds,J,a5,run_underlying hu,Go.sizeOf,typeInfo,dP,dL,ig,an _ (of_int.1 (ar a W s)),iS _ (of_int.1 (b3 a W s))]
     split <;> rfl
theorem T6 {f:FuncId} {fn:Func} {p q T U cap cap' i j e tR pq NI hf NJ NK jq:Nat} {α:Type} [ae α] {xs vs:List α} (zj:Nat.beq (ae.size α) 0=false)
 (a0:c.P.funcs[f]? =some fn) (Un:(fn.name == "runtime.NumGoroutine")=false) (hb:fn.body.isNone=true) (aL:Extern.findNext fn=none)
 (he:Extern.find fn=some (Extern.SlicesOverlaps.overlaps #[t,t] #[tR])) (hu:c.P.underlying t=some (.slice e)) (eg:bq c.P e α)
 (ak:a4 c E L x (.eq (.slice (some ⟨q,NK,none⟩) pq NI))) (a7:a4 c E L y (.eq (.slice (some ⟨p,jq,none⟩) hf NJ)))
 (aq:L[i]? =some ⟨some p,.row T xs cap⟩) (aC:L[j]? =some ⟨some q,.row U vs cap'⟩) (zu:p≠q) (sa:0 < cap):
 bO c E L ⟨d,.call ⟨.value (.func f),#[x,y],#[t,t]⟩,ty,pos,af,g⟩ (.of false):= .pure fun a W s=>by
 obtain⟨o,a6,cs,rfl,ay,bf,bJ,dz⟩:=s.own _ (List.mem_of_getElem? aq)
 obtain⟨o',qY,dx,rfl,bh,cC,fu,lO⟩:=s.own _ (List.mem_of_getElem? aC)
 obtain⟨fy,dP,dL⟩:=eg.info
 have J:a.eval x=_:=ak a W s
 have ad:a.eval y=_:=a7 a W s
 have jT:ae.size α≠0:=fun h=>by rw [h] at zj; cases zj
 have cQ:cs.size≠0:=by rw [ay]; exact Nat.mul_ne_zero (by omega) jT
 have WI:=Lib.run_overlaps_apart (P:=c.P) W t tR e hu (ae.size α) (fun w=>by simp [Go.sizeOf,typeInfo,dP,dL]) ⟨q,NK,none⟩ ⟨p,jq,none⟩ pq NI hf NJ (fun h=>zu h.symm) U T dx.size cs.size
  (by simp [World.shape?,qY]) (by simp [World.shape?,a6]) cQ (by simp [World.frozen?,qY]) (by simp [World.frozen?,qY])
 refine⟨.bool false,?_,by exact of_bool.2 rfl⟩
 have bB:a.eval (.func f)= .func (.func f) #[] #[]:=rfl
 simp [execOp,resolve,Deferred.ofValue,bB,invoke,run_callFunc_extern a0 Un hb aL he,J,ad,WI]
theorem ag.Vu {α:Type} [ae α] {rest:List Oper} {a9 i e bytes cap m k p T:Nat} {Dh:IntKind} {xs:List α} {z:α} (hu:c.P.underlying t=some (.slice e)) (hJ:c.P.underlying t2=some (.int Dh)) (eg:bq c.P e α) (fV:cc c.P e z) (zj:Nat.beq (ae.size α) 0=false)
 (uy:(c.P.info? e).map (·.bytes)=some bytes) (ak:a4 c E L x (.eq (g2 (some p) 0 m cap (ae.size α)))) (a7:a4 c E L y (.of (k:Int))) (an:L[i]? =some ⟨some p,.row T xs cap⟩) (hm:m≤xs.length) (au:0 < k) (bx:cap < m + k)
 (uq:(m + k) * bytes≤140737488355328) (mb:m + k≤maxLen) (aL:Nat.blt a9 c.n=true)
 (nD:∀ q cap',ag c ops Q rest ((a9,.eq (a5 (some q) (m + k) cap')) :: E) (⟨some q,.row e (xs.take m ++ List.replicate k z) cap'⟩ :: L)):
 ag c ops Q (⟨some a9,.call ⟨.builtin .append,#[x,y],#[t,t2]⟩,ty,pos,af,none⟩ :: rest) E L:=fun a W s=>by
 obtain⟨fy,dN,dP,dg,pY⟩:=fV.zero
 have l6:fy.size=ae.size α:=by
  obtain⟨i2,J,ad⟩:=eg.info
  rw [dP] at J; cases J; exact ad
 have Fj:fy.bytes=bytes:=by simpa [dP] using uy
 subst Fj
 have uz:dN.cells.size=ae.size α:=by have:=ae.len (pY [] W).2; simpa using this
 have jT:ae.size α≠0:=fun h=>by rw [h] at zj; cases zj
 have jr:a9 < c.n:=by simpa using aL
 have J:a.eval x= .slice (some ⟨p,0,none⟩) m cap:=by
  have:=ak a W s
  rw [xX] at this
  exact this
 obtain⟨o,a6,cs,rfl,ay,bf,bJ,dz⟩:=s.own _ (List.mem_of_getElem? an)
 have lJ:maxLen=9223372036854775807:=rfl
 have ad:a.eval y= .int .i64 k:=of_int.1 (a7 a W s)
 have VQ:=EA hm (⟨cs,rfl,ay,bf,bJ,dz⟩:(dA.row T xs cap).holds (aJ L ++ c.bM) W (.cells cs T (0,0)))
 obtain⟨WH,aE,_,_,_,GU⟩:=VQ
 cases aE
 have Gj:(xs.take m).length=m:=by rw [List.length_take]; omega
 rw [Gj] at GU
 have tM:∀ (j:Nat) u,(cs.toList.take (m * ae.size α))[j]? =some u→W.drew.cell? ((⟨p,0,none⟩:Addr).add j)=some u:=by
  intro j u ll
  rw [List.getElem?_take] at ll
  split at ll
  ·rw [ig,Nat.zero_add,cell_of_row W.drew p j cs T (0,0) a6]; simpa using ll
  ·cases ll
 have hold:=run_loadCells_list (P:=c.P) W.drew ⟨p,0,none⟩ _ tM
 rw [GU.1,Gj] at hold
 have aQ:=Lib.run_append_grow_zeros (P:=c.P) W t t2 ty e fy dN .i64 Dh hu hJ dP dg (some ⟨p,0,none⟩) m cap _ (by simp only [Builtin.firstCells]; rw [l6]; exact hold) k au (by omega) bx (by omega)
  (by have:k * fy.bytes≤ (m + k) * fy.bytes:=Nat.mul_le_mul_right _ (by omega)
      omega) (growslice_fits bx uq)
 have q6:=grownCap_ge W (m + k) cap e
 have hle:=grownCap_le_maxLen W (m + k) cap e mb
 have CU:=pY (aJ L ++ c.bM) W
 have o4:=x0 CU k jT
 have GM:Builtin.zeroCells dN.cells k=(Array.range (k * ae.size α)).map (dN.cells[· % dN.cells.size]!):=by rw [Builtin.zeroCells,uz]
 rw [← GM] at o4
 have wk:=(rF GU o4).mono (Ext.dm (Fr.drew W))
 have hlen:(xs.take m ++ List.replicate k z).length=m + k:=by rw [List.length_append,Gj,List.length_replicate]
 have eY:=(s.world (Fr.drew W)).alloc (o:= .cells ((cs.toList.take (m * ae.size α)).toArray ++ Builtin.zeroCells dN.cells k ++ Builtin.zeroCells dN.cells (grownCap W (m + k) cap e - (m + k))) e)
  (cp:= .row e (xs.take m ++ List.replicate k z) (grownCap W (m + k) cap e))
  (E2 (T:=e) wk (ds:=(Builtin.zeroCells dN.cells (grownCap W (m + k) cap e - (m + k))).toList) (by rw [Array.length_toList,size_zeroCells,uz,hlen]) (by rw [hlen]; exact q6) hle (by simp))
 refine hA rfl (R:=fun v gD=>v=a5 (some W.heap.size) (m + k) (grownCap W (m + k) cap e)∧gD=W.drew.alloc (.cells ((cs.toList.take (m * ae.size α)).toArray ++ Builtin.zeroCells dN.cells k ++ Builtin.zeroCells dN.cells (grownCap W (m + k) cap e - (m + k))) e)) (.k2 ?_ ⟨rfl,rfl⟩) fun v gD ⟨a3,hw⟩=> ?_
 ·simp only [execOp,resolve,invoke,builtin,Sem.run_bind,Sem.run_pure,Result.andThen_ok]
  have aE:(#[x,y]:Array Operand).map a.eval= #[a.eval x,a.eval y]:=by simp
  rw [aE,J,ad,aQ]
  rfl
 ·subst a3
  subst hw
  exact nD _ _ _ _ (eY.put jr rfl)
theorem ai.some {code:Code} {i T cap:Nat} {key:Option Nat} {α:Type} [ae α] {xs:List α} (an:L[i]? =Option.some ⟨key,.row T xs cap⟩) (ak:0 < xs.length) (k:∀ p,key=Option.some p→xs.length≤cap→cap≤maxLen→ai c Q code E L):ai c Q code E L:=fun a W s=>by
 obtain⟨p,cs,rfl,ed,ay,bf,bJ,dz⟩:=s.rowAt an ak
 exact k p rfl bf bJ a W s
theorem ai.apart {code:Code} {p q:Nat} {cp cp':dA} {av:List aF} (an:L=⟨Option.some p,cp⟩ :: ⟨Option.some q,cp'⟩ :: av) (k:p≠q→ai c Q code E L):ai c Q code E L:=fun a W s=>by
 refine k (fun e=> ?_) a W s
 have:=s.nodup
 rw [an,e] at this
 simp [aJ] at this
theorem EH {α γ:Type} [ae α] [ae γ] {A W} {cs:List Value} {x:α} {os:List (Nat × Value)} {u:Value} (l:aO α (List γ)) (h:kr A W cs x os) (hq:(l.off,u)∈os):kr A W cs (l.set x []) os:=by
 refine⟨?_,h.2⟩
 have J:=l.kk (ds:= [jz]) (g:=([]:List γ)) h.1 (show ae.rep A W [jz] ([]:List γ) from by
  have:=(lV (A:=A) (W:=W) (v:=jz) (xs:=([]:List γ))).2 (.inl ⟨rfl,rfl⟩)
  exact this.2)
 have hb:(blank os cs)[l.off]? =some jz:=by
  rw [px,if_pos (List.any_eq_true.2 ⟨_,hq,by simp⟩),(h.2 _ hq).1]; rfl
 have b5:l.off < (blank os cs).length:=(List.getElem?_eq_some_iff.1 hb).1
 have he:(blank os cs).take l.off ++ [jz] ++ (blank os cs).drop (l.off + ae.size (List γ))=blank os cs:=by
  show(blank os cs).take l.off ++ [jz] ++ (blank os cs).drop (l.off + 1)=blank os cs
  have ad:(blank os cs)[l.off]=jz:=(List.getElem?_eq_some_iff.1 hb).2
  rw [← ad,List.append_assoc,List.singleton_append,List.getElem_cons_drop,List.take_append_drop]
 rwa [he] at J
theorem ag.CE {sE:List Oper} {p:Nat} {β γ:Type} [ae β] [ae γ] {b b':β} {os:List (Nat × Value)} {u:Value} (l:aO β (List γ)) (i q:Nat) (an:L[i]? =some ⟨some p,.bU b os⟩) (hq:os[q]? =some (l.off,u)) (hb:l.set b []=b')
 (k:ag c ops Q sE E (L.set i ⟨some p,.bU b' os⟩)):ag c ops Q sE E L:=fun a W s=>
 k a W (s.again an (fun A W o ⟨cs,T,J,ad⟩=>⟨cs,T,J,hb ▸ EH l ad (List.mem_of_getElem? hq)⟩) id)
theorem ah.CE {z:Exit} {p:Nat} {β γ:Type} [ae β] [ae γ] {b b':β} {os:List (Nat × Value)} {u:Value} (l:aO β (List γ)) (i q:Nat) (an:L[i]? =some ⟨some p,.bU b os⟩) (hq:os[q]? =some (l.off,u)) (hb:l.set b []=b')
 (k:ah c Q z E (L.set i ⟨some p,.bU b' os⟩)):ah c Q z E L:=fun a W s=>
 k a W (s.again an (fun A W o ⟨cs,T,J,ad⟩=>⟨cs,T,J,hb ▸ EH l ad (List.mem_of_getElem? hq)⟩) id)
end
def zb {α:Type} (bytes:Nat) (xs:List α) (i:Int) (vs:List α):Option (List α):=
 if 0≤i∧i≤xs.length∧0 < vs.length∧ (xs.length + vs.length) * bytes≤140737488355328∧xs.length + vs.length≤maxLen then some (xs.take i.toNat ++ vs ++ xs.drop i.toNat) else none
theorem Qq {α:Type} {bytes:Nat} {xs vs r:List α} {i:Int} (h:zb bytes xs i vs=some r):
 ∃ k:Nat,i=k∧k≤xs.length∧0 < vs.length∧ (xs.length + vs.length) * bytes≤140737488355328∧xs.length + vs.length≤maxLen∧r=xs.take k ++ vs ++ xs.drop k:=by
 unfold zb at h
 split at h
 ·rename_i aj
  obtain⟨J,ad,ax,aR,aW⟩:=aj
  exact⟨i.toNat,by omega,by omega,ax,aR,aW,(by simp only [Option.some.injEq] at h; exact h.symm)⟩
 ·cases h
end Gv
namespace Gv
open Go
set_option linter.unusedVariables false
set_option linter.unusedSimpArgs false
section
variable {c:cT} {E:List (Nat × I)} {L:List aF} {ops:Array Oper} {Q:Exit→Act→World→Prop} {rest:List Oper} {o:Oper} {a9:Nat}
variable {ty:TypeId} {pos:String} {af:Array Edge} {x y:Operand} {t t2:TypeId}
theorem aG {id:Nat} {l:List Oper} {y:Code} (h:ag c l.toArray (Exit.then (c.wp y Q) Q) l E L):ai c Q (.seq (.region id l.toArray false) y) E L:= .seq (.cO h)
theorem aV {y:Code} (h:ai c Q y E L):ag c ops (Exit.then (c.wp y Q) Q) [] E L:= .nil (.next h)
theorem b2 {y z:Code} (h:ai c (Exit.then (c.wp z Q) Q) y E L):ag c ops (Exit.then (c.wp (Code.seq y z) Q) Q) [] E L:= .nil (.next (.seq h))
theorem bY {id:Nat} {l:List Oper} {z:Code} (h:ag c l.toArray (Exit.then (c.wp z Q) Q) l E L):ag c ops (Exit.then (c.wp (Code.seq (.region id l.toArray false) z) Q) Q) [] E L:= .nil (.next (.seq (.cO h)))
theorem dE {y:Code} (h:ai c Q y E L):ai c (Exit.then (c.wp y Q) Q) .skip E L:= .skip (.next h)
theorem aA {α β:Type} {m:Option α} {f:α→Option β} {r:β} (h:m.bind f=some r):∃ y,m=some y∧f y=some r:=bind_some h
theorem dv {R:Type} {b:Bool} {A B:Option R} {r:R} {y z:Code} (h:cond b A B=some r) (bI:A=some r→ai c Q y E L) (a0:B=some r→ai c Q z E L)
 (ar:a4 c E L x (.of b):=by first | exact aa rfl | exact fz _):ai c Q (.cond x y z) E L:=
 .cond ar (fun hb=>bI (ij hb h)) (fun hb=>a0 (ik hb h))
theorem bp {τ:I} (h:bO c E L o τ) (k:ag c ops Q rest ((a9,τ) :: E) L) (bx:o.guard=none:=by rfl) (hd:o.dst=some a9:=by rfl) (aL:Nat.blt a9 c.n=true:=by rfl):ag c ops Q (o :: rest) E L:= .v h bx hd aL k
theorem aD {τ:I} (k:ag c ops Q rest ((a9,τ) :: E) L) (ak:a4 c E L x τ:=by first | exact aa rfl | exact bE _ | exact fz _ | exact dn _) (aL:Nat.blt a9 c.n=true:=by rfl):
 ag c ops Q (⟨some a9,.move x,ty,pos,af,none⟩ :: rest) E L:= .v (cj ak) rfl rfl aL k
theorem aT {τ:I} (k:ag c ops Q rest ((a9,τ) :: E) L) (ak:a4 c E L x τ:=by first | exact aa rfl | exact bE _ | exact fz _ | exact dn _) (aL:Nat.blt a9 c.n=true:=by rfl):
 ag c ops Q (⟨some a9,.assign x,ty,pos,af,none⟩ :: rest) E L:= .v (eJ ak) rfl rfl aL k
theorem ba {σ τ:I} (h:a4 c E L x σ→bO c E L o τ) (k:ag c ops Q rest ((a9,τ) :: E) L) (ak:a4 c E L x σ:=by first | exact aa rfl | exact bE _ | exact fz _ | exact dn _)
 (bx:o.guard=none:=by rfl) (hd:o.dst=some a9:=by rfl) (aL:Nat.blt a9 c.n=true:=by rfl):ag c ops Q (o :: rest) E L:= .v (h ak) bx hd aL k
theorem bL {σ o8 τ:I} (h:a4 c E L x σ→a4 c E L y o8→bO c E L o τ) (k:ag c ops Q rest ((a9,τ) :: E) L) (ak:a4 c E L x σ:=by first | exact aa rfl | exact bE _ | exact fz _ | exact dn _)
 (a7:a4 c E L y o8:=by first | exact aa rfl | exact bE _ | exact fz _ | exact dn _)
 (bx:o.guard=none:=by rfl) (hd:o.dst=some a9:=by rfl) (aL:Nat.blt a9 c.n=true:=by rfl):ag c ops Q (o :: rest) E L:= .v (h ak a7) bx hd aL k
theorem dd {α:Type} [ae α] {a b:α} (e:some a=some b) (h:bO c E L o (.of a)) (k:ag c ops Q rest ((a9,.of b) :: E) L) (bx:o.guard=none:=by rfl) (hd:o.dst=some a9:=by rfl) (aL:Nat.blt a9 c.n=true:=by rfl):
 ag c ops Q (o :: rest) E L:= .v (h.as (aS e)) bx hd aL k
theorem fS {i:Nat} {τs:List I} {τ:I} (k:ag c ops Q rest ((a9,τ) :: E) L) (ak:a4 c E L x (.eA τs):=by exact aa rfl) (aq:τs[i]? =some τ:=by rfl) (aL:Nat.blt a9 c.n=true:=by rfl):
 ag c ops Q (⟨some a9,.extract x i,ty,pos,af,none⟩ :: rest) E L:= .v (lC ak aq) rfl rfl aL k
theorem c1 {p o:Nat} {β γ:Type} [ae β] [ae γ] {b:β} (j:Nat) (l:aO β γ) (ef:bq c.P t γ) (k:ag c ops Q rest ((a9,.of (l.get b)) :: E) L) (ak:a4 c E L x (.eq (.pointer (some ⟨p,o,none⟩))):=by exact aa rfl)
 (an:L[j]? =some ⟨some p,.var b⟩:=by rfl) (a6:o=l.off:=by rfl) (aL:Nat.blt a9 c.n=true:=by rfl):ag c ops Q (⟨some a9,.load t x,ty,pos,af,none⟩ :: rest) E L:= .v (fE l ef ak an a6 rfl) rfl rfl aL k
theorem cS {p:Nat} {β:Type} [ae β] {b:β} (j:Nat) (ef:bq c.P t β) (k:ag c ops Q rest ((a9,.of b) :: E) L) (ak:a4 c E L x (.eq (.pointer (some ⟨p,0,none⟩))):=by exact aa rfl)
 (an:L[j]? =some ⟨some p,.var b⟩:=by rfl) (aL:Nat.blt a9 c.n=true:=by rfl):ag c ops Q (⟨some a9,.load t x,ty,pos,af,none⟩ :: rest) E L:= .v (fE (aO.id β) ef ak an rfl rfl) rfl rfl aL k
theorem MN {p o:Nat} {β γ:Type} [ae β] [ae γ] {b:β} {os:List (Nat × Value)} (j:Nat) (l:aO β γ) (ef:bq c.P t γ) (k:ag c ops Q rest ((a9,.of (l.get b)) :: E) L) (ak:a4 c E L x (.eq (.pointer (some ⟨p,o,none⟩))):=by exact aa rfl)
 (an:L[j]? =some ⟨some p,.bU b os⟩:=by rfl) (a6:o=l.off:=by rfl) (bg:rT os l.off (ae.size γ)=true:=by rfl) (aL:Nat.blt a9 c.n=true:=by rfl):ag c ops Q (⟨some a9,.load t x,ty,pos,af,none⟩ :: rest) E L:= .v (EW l ef ak an a6 rfl bg) rfl rfl aL k
theorem Gy {s f o:Nat} {β γ:Type} [ae β] [ae γ] {b:β} (l:aO β γ) (fd:b4 c.P s f o) (k:ag c ops Q rest ((a9,.ptr (l.get b)) :: E) L) (ak:a4 c E L x (.ptr b):=by exact aa rfl) (a6:l.off=o:=by rfl) (aL:Nat.blt a9 c.n=true:=by rfl):
 ag c ops Q (⟨some a9,.fieldAddr s x f,ty,pos,af,none⟩ :: rest) E L:= .v (Ca l fd ak a6 rfl) rfl rfl aL k
theorem jB {α:Type} [ae α] [Inhabited α] {xs:List α} {e:TypeId} {i:Int} {j:Nat} (au:idx xs.length i=some j) (hu:c.P.underlying t=some (.slice e)) (eg:bq c.P e α) (k:ag c ops Q rest ((a9,.ptr (aN xs j)) :: E) L)
 (ak:a4 c E L x (.of xs):=by exact aa rfl) (a7:a4 c E L y (.of i):=by first | exact aa rfl | exact bE _) (aL:Nat.blt a9 c.n=true:=by rfl):
 ag c ops Q (⟨some a9,.indexAddr t x y,ty,pos,af,none⟩ :: rest) E L:= .v (qy hu eg ak a7 (eU au)) rfl rfl aL k
theorem sk {b e:Bool} {p:Prop} (k:ag c ops Q rest ((a9,.of (b || e)) :: E) L) (ak:a4 c E L x (.of b):=by exact aa rfl) (a7:a4 c E L y (.cond p (.of e)):=by exact aa rfl) (hp:b=false→p:=by exact fun h=>h) (aL:Nat.blt a9 c.n=true:=by rfl):
 ag c ops Q (⟨some a9,.pick x (.const (.bool true)) y,ty,pos,af,none⟩ :: rest) E L:= .v (y0 ak a7 hp) rfl rfl aL k
theorem lI {b e:Bool} {p:Prop} (k:ag c ops Q rest ((a9,.of (b && e)) :: E) L) (ak:a4 c E L x (.of b):=by exact aa rfl) (a7:a4 c E L y (.cond p (.of e)):=by exact aa rfl) (hp:b=true→p:=by exact fun h=>h) (aL:Nat.blt a9 c.n=true:=by rfl):
 ag c ops Q (⟨some a9,.pick x y (.const (.bool false)),ty,pos,af,none⟩ :: rest) E L:= .v (oH ak a7 hp) rfl rfl aL k
theorem fD {τ:I} {j g:Nat} {b want:Bool} (h:b=want→bO c E L o τ) (k:ag c ops Q rest ((a9,.cond (b=want) τ) :: E) L) (bx:o.guard=some (j,want):=by rfl) (aC:(ops[j]?).bind (·.dst)=some g:=by rfl) (ar:look E g=some (.of b):=by rfl)
 (hd:o.dst=some a9:=by rfl) (aL:Nat.blt a9 c.n=true:=by rfl):ag c ops Q (o :: rest) E L:= .g h bx aC ar hd aL k
theorem eB {σ τ:I} {j g:Nat} {b want:Bool} (h:a4 c E L x σ→bO c E L o τ) (k:ag c ops Q rest ((a9,.cond (b=want) τ) :: E) L)
 (ak:b=want→a4 c E L x σ:=by first | exact fun hb=>c2 rfl hb | exact fun _=>aa rfl | exact fun _=>bE _ | exact fun _=>fz _)
 (bx:o.guard=some (j,want):=by rfl) (aC:(ops[j]?).bind (·.dst)=some g:=by rfl) (ar:look E g=some (.of b):=by rfl)
 (hd:o.dst=some a9:=by rfl) (aL:Nat.blt a9 c.n=true:=by rfl):ag c ops Q (o :: rest) E L:= .g (fun hb=>h (ak hb)) bx aC ar hd aL k
theorem ji {σ o8 τ:I} {j g:Nat} {b want:Bool} (h:a4 c E L x σ→a4 c E L y o8→bO c E L o τ) (k:ag c ops Q rest ((a9,.cond (b=want) τ) :: E) L)
 (ak:b=want→a4 c E L x σ:=by first | exact fun hb=>c2 rfl hb | exact fun _=>aa rfl | exact fun _=>bE _ | exact fun _=>fz _)
 (a7:b=want→a4 c E L y o8:=by first | exact fun hb=>c2 rfl hb | exact fun _=>aa rfl | exact fun _=>bE _ | exact fun _=>fz _)
 (bx:o.guard=some (j,want):=by rfl) (aC:(ops[j]?).bind (·.dst)=some g:=by rfl) (ar:look E g=some (.of b):=by rfl)
 (hd:o.dst=some a9:=by rfl) (aL:Nat.blt a9 c.n=true:=by rfl):ag c ops Q (o :: rest) E L:= .g (fun hb=>h (ak hb) (a7 hb)) bx aC ar hd aL k
theorem dI {α:Type} [ae α] {z:α} (fV:cc c.P t z) (k:∀ p,ag c ops Q rest ((a9,.eq (.pointer (some ⟨p,0,none⟩))) :: E) (⟨some p,.var z⟩ :: L)) (aL:Nat.blt a9 c.n=true:=by rfl):
 ag c ops Q (⟨some a9,.alloc t,ty,pos,af,none⟩ :: rest) E L:= .alloc fV aL k
theorem cL {α:Type} [ae α] {z:α} (k:∀ p,ag c ops Q rest ((a9,.eq (.pointer (some ⟨p,0,none⟩))) :: E) (⟨some p,.var z⟩ :: L)) (ak:a4 c E L x (.of z):=by first | exact aa rfl | exact bE _ | exact fz _) (aL:Nat.blt a9 c.n=true:=by rfl):
 ag c ops Q (⟨some a9,.box t x,ty,pos,af,none⟩ :: rest) E L:= .box ak aL k
theorem wz {p o:Nat} {β γ:Type} [ae β] [ae γ] {b:β} {v:γ} (i:Nat) (l:aO β γ) (ef:bq c.P t γ) (k:ag c ops Q rest E (L.set i ⟨some p,.var (l.set b v)⟩)) (ak:a4 c E L x (.eq (.pointer (some ⟨p,o,none⟩))):=by exact aa rfl)
 (a7:a4 c E L y (.of v):=by first | exact aa rfl | exact bE _ | exact fz _ | exact look_nil | exact dn _) (an:L[i]? =some ⟨some p,.var b⟩:=by rfl) (a6:o=l.off:=by rfl):
 ag c ops Q (⟨none,.store t x y,ty,pos,af,none⟩ :: rest) E L:= .store l ef ak a7 an a6 rfl k
theorem cP {p:Nat} {β:Type} [ae β] {b v:β} (i:Nat) (ef:bq c.P t β) (k:ag c ops Q rest E (L.set i ⟨some p,.var v⟩)) (ak:a4 c E L x (.eq (.pointer (some ⟨p,0,none⟩))):=by exact aa rfl)
 (a7:a4 c E L y (.of v):=by first | exact aa rfl | exact bE _ | exact fz _ | exact look_nil | exact dn _) (an:L[i]? =some ⟨some p,.var b⟩:=by rfl):
 ag c ops Q (⟨none,.store t x y,ty,pos,af,none⟩ :: rest) E L:= .store (aO.id β) ef ak a7 an rfl rfl k
theorem Wb {p o:Nat} {β γ:Type} [ae β] [ae γ] {b b':β} {v:γ} (i:Nat) (l:aO β γ) (ef:bq c.P t γ) (k:ag c ops Q rest E (L.set i ⟨some p,.var b'⟩)) (ak:a4 c E L x (.eq (.pointer (some ⟨p,o,none⟩))):=by exact aa rfl)
 (a7:a4 c E L y (.of v):=by first | exact aa rfl | exact bE _ | exact fz _ | exact look_nil | exact dn _) (an:L[i]? =some ⟨some p,.var b⟩:=by rfl) (a6:o=l.off:=by rfl) (hb:some (l.set b v)=some b'):
 ag c ops Q (⟨none,.store t x y,ty,pos,af,none⟩ :: rest) E L:= .store l ef ak a7 an a6 (aS hb) k
theorem hH {f:FuncId} {xs:List Operand} {ats:Array TypeId} {τs:List I} {ρ:I} (ea:bR c.P f) (h:b9 c.P f τs ρ) (k:ag c ops Q rest ((a9,ρ) :: E) L)
 (ak:gV c E L xs τs:=by repeat (first | exact trivial | refine⟨aa rfl,?_⟩ | refine⟨bE _,?_⟩ | refine⟨fz _,?_⟩ | refine⟨look_nil,?_⟩ | refine⟨dn _,?_⟩)) (aL:Nat.blt a9 c.n=true:=by rfl):
 ag c ops Q (⟨some a9,.call ⟨.value (.func f),xs.toArray,ats⟩,ty,pos,af,none⟩ :: rest) E L:= .v (lz ea h ak) rfl rfl aL k
theorem et {f:FuncId} {xs:List Operand} {ats:Array TypeId} {τs:List I} {δ:Type} {ρ:δ→I} {Lo:δ→List aF} (n:Nat) (ea:bR c.P f) (h:bF c.P f τs (L.take n) ρ Lo)
 (k:∀ q,ag c ops Q rest ((a9,ρ q) :: E) (Lo q ++ L.drop n)) (ak:gV c E L xs τs:=by repeat (first | exact trivial | refine⟨aa rfl,?_⟩ | refine⟨bE _,?_⟩ | refine⟨fz _,?_⟩ | refine⟨look_nil,?_⟩ | refine⟨vy,?_⟩ | refine⟨dn _,?_⟩)) (aL:Nat.blt a9 c.n=true:=by rfl):
 ag c ops Q (⟨some a9,.call ⟨.value (.func f),xs.toArray,ats⟩,ty,pos,af,none⟩ :: rest) E L:=by
 have e:=List.take_append_drop n L
 have:=ag.k3 (ty:=ty) (pos:=pos) (af:=af) (ats:=ats) (xs:=xs) (Lin:=L.take n) (Lr:=L.drop n) (E:=E) (Q:=Q) (ops:=ops) ea h (by rw [e]; exact ak) aL k
 rwa [e] at this
theorem n8 {α:Type} [ae α] {e bytes cap:Nat} {key:Option Nat} {xs ys r:List α} {z:α} (j:Nat) (hu:c.P.underlying t=some (.slice e)) (eg:bq c.P e α) (fV:cc c.P e z) (h:hQ bytes xs ys=some r)
 (k:∀ oX cap',ag c ops Q rest ((a9,.eq (a5 oX r.length cap')) :: E) (L.set j ⟨oX,.row e r cap'⟩)) (uy:(c.P.info? e).map (·.bytes)=some bytes:=by kernel_rfl)
 (hs:a4 c E L x (.eq (a5 key xs.length cap)):=by first | exact aa rfl | exact vy) (an:L[j]? =some ⟨key,.row e xs cap⟩:=by rfl) (a7:a4 c E L y (.of ys):=by exact aa rfl) (aL:Nat.blt a9 c.n=true:=by rfl):
 ag c ops Q (⟨some a9,.call ⟨.builtin .append,#[x,y],#[t,t]⟩,ty,pos,af,none⟩ :: rest) E L:= .app hu eg fV uy hs an a7 h aL k
theorem iu {place:Nat→Option (Nat × Nat)} {β:Type} [ae β] {b b':β} {γ:Type} [ae γ] {v:γ} {i:Nat} {r:List (Nat × Operand)} (l:aO β γ) (k:pM c E L place (l.set b v) r b')
 (hp:place i=some (l.off,ae.size γ):=by rfl) (ak:a4 c E L x (.of v):=by first | exact aa rfl | exact bE _ | exact fz _ | exact look_nil | exact dn _):pM c E L place b ((i,x) :: r) b':= .cons l hp ak rfl k
theorem g7 {β:Type} [ae β] {z b:β} {bj:List (Nat × Operand)} {pl:Array (Nat × Nat)} (Af:gU c.P t pl) (fV:cc c.P t z) (NL:β) (a0:pM c E L (pl[·]?) z bj b) (k:ag c ops Q rest ((a9,.of NL) :: E) L) (bg:ae.agg β=true:=by rfl) (hb:b=NL:=by rfl) (aL:Nat.blt a9 c.n=true:=by rfl):
 ag c ops Q (⟨some a9,.build t bj.toArray,ty,pos,af,none⟩ :: rest) E L:= .v ((cA bg Af fV a0).as hb) rfl rfl aL k
theorem hI {α:Type} [ae α] {e n:Nat} {z:α} {bj:List (Nat × Operand)} (r:List α) (hu:c.P.underlying t=some (.slice e)) (eg:bq c.P e α) (fV:cc c.P e z) (k:ag c ops Q rest ((a9,.of r) :: E) L)
 (a0:mC c E L (List.replicate n z) bj r:=by repeat (first | exact mC.nil | refine mC.cons (by simp) (aa rfl) ?_ | refine mC.cons (by simp) (bE _) ?_ | refine mC.cons (by simp) (fz _) ?_ | refine mC.cons (by simp) (dn _) ?_))
 (hs:Nat.beq (ae.size α) 0=false:=by rfl) (q4:Nat.ble (n * ae.size α) 16777216=true:=by rfl) (aL:Nat.blt a9 c.n=true:=by rfl):
 ag c ops Q (⟨some a9,.buildSlice t n bj.toArray,ty,pos,af,none⟩ :: rest) E L:= .v (iH hu eg fV hs q4 a0) rfl rfl aL k
inductive lu (E:List (Nat × I)):List Nat→List (Nat × I)→Prop
 | nil:lu E [] []
 | cons {t:Nat} {gK:List Nat} {τ:I} {uO:List (Nat × I)} :look E t=some τ→lu E gK uO→lu E (t :: gK) ((t,τ) :: uO)
theorem lu.le:∀ {gK:List Nat} {iD:List (Nat × I)},lu E gK iD→gT E iD
 | _,_,.nil=> .nil
 | _,_,.cons h k=> .same h k.le
theorem jh {code:Code} {iD:List (Nat × I)} (gK:List Nat) (k:ai c Q code iD L) (aw:lu E gK iD:=by repeat (first | exact lu.nil | (apply lu.cons; rfl))):ai c Q code E L:= .le aw.le k
theorem jS {z:Exit} {iD:List (Nat × I)} (gK:List Nat) (k:ah c Q z iD L) (aw:lu E gK iD:=by repeat (first | exact lu.nil | (apply lu.cons; rfl))):ah c Q z E L:= .le aw.le k
theorem dZ {z:Exit} {E':List (Nat × I)} {av:List aF} (n:Nat) (k:ah c Q z E' av) (an:L.drop n=av:=by rfl) (h:gT E E':=by repeat (first | exact gT.nil | refine gT.same rfl ?_)):ah c Q z E L:= .meet n an h k
theorem j7 {σ ε γ δ:Type} {E':σ→γ→List (Nat × I)} {av:σ→γ→List aF} {xs:ε→Exit} {fj:ε→δ→List (Nat × I)} {Lx:ε→δ→List aF} {s:σ} (g:γ) (n:Nat) (an:L.drop n=av s g:=by rfl)
 (h:gT E (E' s g):=by repeat (first | exact gT.nil | refine gT.same rfl ?_)):ah c (wJ c E' av xs fj Lx (.inl s)) .normal E L:= .Sy g n an h
theorem hn {σ ε γ δ:Type} {E':σ→γ→List (Nat × I)} {av:σ→γ→List aF} {xs:ε→Exit} {fj:ε→δ→List (Nat × I)} {Lx:ε→δ→List aF} {e:ε} {z:Exit} (g:δ) (n:Nat) (ak:z=xs e:=by rfl) (aL:z≠ .normal:=by simp) (an:L.drop n=Lx e g:=by rfl)
 (h:gT E (fj e g):=by repeat (first | exact gT.nil | refine gT.same rfl ?_)):ah c (wJ c E' av xs fj Lx (.inr e)) z E L:= .Sz g n ak aL an h
theorem ho {t:Nat} {p:Nat} {α:Type} [ae α] {v:α} (i:Nat) (ef:bq c.P ty α) (h:look E t=some (.eq (.pointer (some ⟨p,0,none⟩))):=by rfl) (an:L[i]? =some ⟨some p,.var v⟩:=by rfl):rl c E L (.cell t ty) (.of v):=VI ef h an
theorem e8 {fn:Func} {t:Nat} {τ:I} (aQ:fn.results= #[.tmp t]:=by rfl) (h:look E t=some τ:=by rfl) (hv:c.ds= []:=by rfl):ah c (bodyPost c.P fn (uc c τ)) .ret E L:= .je aQ (tS h) hv
theorem MM {fn:Func} {t u:Nat} {τ o3:I} (aQ:fn.results= #[.tmp t,.tmp u]:=by rfl) (h:look E t=some τ:=by rfl) (ad:look E u=some o3:=by rfl) (hv:c.ds= []:=by rfl):ah c (bodyPost c.P fn (uc c (.eA [τ,o3]))) .ret E L:= .Ck aQ (tS h) (tS ad) hv
theorem k9 {fn:Func} {t:Nat} {τ:I} {δ:Type} {ρ:δ→I} {Lo:δ→List aF} (a9:δ) (hs:(Lo a9).Sublist L:=by repeat (first | exact List.nil_sublist _ | refine List.Sublist.cons_cons _ ?_)) (aQ:fn.results= #[.tmp t]:=by rfl) (h:look E t=some τ:=by rfl) (uB:ρ a9=τ:=by rfl) (hv:c.ds= []:=by rfl):
 ah c (bodyPost c.P fn (jL c.X c.bM c.iC ρ Lo)) .ret E L:= .ez a9 hs aQ uB (df h) hv
def n5:List aF→List (Nat × aF)→List aF
 | L,[]=>L
 | L,(i,e) :: r=>n5 (L.set i e) r
inductive pr:List aF→List aF→Prop
 | nil:pr [] []
 | cons {e:aF} {r s:List aF} :pr r s→pr (e :: r) (e :: s)
theorem pr.eq:∀ {l m:List aF},pr l m→l=m
 | _,_,.nil=>rfl
 | _,_,.cons h=>by rw [h.eq]
theorem la {σ ε γ δ:Type} {body:Code} {N:Nat} {b:σ→Option (σ ⊕ ε)} {b0:σ} {e:ε} {iD:List (Nat × I)} {gx:List aF} (ar:gz N b b0=some e) (gK:List Nat) (u:σ→γ→List (Nat × I)) (ul:σ→γ→List (Nat × aF)) (xs:ε→Exit)
 (HJ:ε→δ→List (Nat × I)) (GV:ε→δ→List (Nat × aF)) (g0:γ)
 (qD:∀ s r,b s=some r→ ∀ g,ai c (wJ c (fun s g=>u s g ++ iD) (fun s g=>n5 gx (ul s g)) xs (fun e d=>HJ e d ++ iD) (fun e d=>n5 gx (GV e d)) r) body (u s g ++ iD) (n5 gx (ul s g)))
 (nd:∀ g,ah c Q (xs e) (HJ e g ++ iD) (n5 gx (GV e g)))
 (ux:pr L gx:=by repeat (first | exact pr.nil | apply pr.cons))
 (WJ:lu E gK iD:=by repeat (first | exact lu.nil | (apply lu.cons; rfl))) (aw:gT E (u b0 g0 ++ iD):=by repeat (first | exact gT.nil | refine gT.same rfl ?_)) (an:gx=n5 gx (ul b0 g0):=by rfl):ai c Q (.loop body) E L:=
 ai.Cd ar (fun s g=>u s g ++ iD) (fun s g=>n5 gx (ul s g)) xs (fun e d=>HJ e d ++ iD) (fun e d=>n5 gx (GV e d)) g0 (ux.eq.trans an) aw qD nd
theorem lb {γ:Type} {b:Bool} {y z:Code} {iD:List (Nat × I)} {gx:List aF} (gK:List Nat) (u:γ→List (Nat × I)) (ul:γ→List (Nat × aF)) (sD:∀ g,ah c Q .normal (u g ++ iD) (n5 gx (ul g)))
 (bI:(∀ g,ah c Q .normal (u g ++ iD) (n5 gx (ul g)))→b=true→ai c Q y E gx) (a0:(∀ g,ah c Q .normal (u g ++ iD) (n5 gx (ul g)))→b=false→ai c Q z E gx)
 (ux:pr L gx:=by repeat (first | exact pr.nil | apply pr.cons))
 (WJ:lu E gK iD:=by repeat (first | exact lu.nil | (apply lu.cons; rfl))) (ar:a4 c E gx x (.of b):=by first | exact aa rfl | exact fz _):ai c Q (.cond x y z) E L:=by
 cases ux.eq
 exact ai.c5 (fun g=>u g ++ iD) (fun g=>n5 L (ul g)) ar sD bI a0
section
variable {all:List eL} {w:Nat→Bool}
theorem eO {τ:I} {hyp:List aF→Prop} (h:∀ av,hyp av→bO c E av o τ) (bx:o.guard=none:=by rfl):∀ av,hyp av→jX c ops E av o τ:=fun av an=> .v (h av an) bx
theorem dW {τ:I} {hyp:List aF→Prop} (ak:∀ av,a4 c E av x τ:=by first | exact fun _=>aa rfl | exact fun _=>bE _ | exact fun _=>fz _ | exact fun _=>dn _):∀ av,hyp av→jX c ops E av ⟨some a9,.move x,ty,pos,af,none⟩ τ:=fun av _=> .v (cj (ak av)) rfl
theorem Hw {τ:I} {hyp:List aF→Prop} (ak:∀ av,a4 c E av x τ:=by first | exact fun _=>aa rfl | exact fun _=>bE _ | exact fun _=>fz _ | exact fun _=>dn _):∀ av,hyp av→jX c ops E av ⟨some a9,.assign x,ty,pos,af,none⟩ τ:=fun av _=> .v (eJ (ak av)) rfl
theorem H1 {σ τ:I} {hyp:List aF→Prop} (h:∀ {av},a4 c E av x σ→bO c E av o τ) (bx:o.guard=none:=by rfl) (ak:∀ av,a4 c E av x σ:=by first | exact fun _=>aa rfl | exact fun _=>bE _ | exact fun _=>fz _ | exact fun _=>dn _):
 ∀ av,hyp av→jX c ops E av o τ:=fun av _=> .v (h (ak av)) bx
theorem lN {σ o8 τ:I} {hyp:List aF→Prop} (h:∀ {av},a4 c E av x σ→a4 c E av y o8→bO c E av o τ) (bx:o.guard=none:=by rfl) (ak:∀ av,a4 c E av x σ:=by first | exact fun _=>aa rfl | exact fun _=>bE _ | exact fun _=>fz _ | exact fun _=>dn _)
 (a7:∀ av,a4 c E av y o8:=by first | exact fun _=>aa rfl | exact fun _=>bE _ | exact fun _=>fz _ | exact fun _=>dn _):∀ av,hyp av→jX c ops E av o τ:=fun av _=> .v (h (ak av) (a7 av)) bx
theorem hl {p o:Nat} {β γ:Type} [ae β] [ae γ] {b:β} (i:Nat) (l:aO β γ) (ef:bq c.P t γ) (ak:∀ av,a4 c E av x (.eq (.pointer (some ⟨p,o,none⟩))):=by exact fun _=>aa rfl) (an:L[i]? =some ⟨some p,.var b⟩:=by rfl) (a6:o=l.off:=by rfl)
 (hu:n0 w i 0 all=true:=by first | rfl | kernel_rfl):∀ av:List aF,(∀ (j:Nat) (e:aF),L[j]? =some e→n0 w j 0 all=true→av[j]? =some e)→jX c ops E av ⟨some a9,.load t x,ty,pos,af,none⟩ (.of (l.get b)):=
 fun av pW=> .v (fE l ef (ak av) (pW _ _ an hu) a6 rfl) rfl
theorem hr {p:Nat} {β:Type} [ae β] {b:β} (i:Nat) (ef:bq c.P t β) (ak:∀ av,a4 c E av x (.eq (.pointer (some ⟨p,0,none⟩))):=by exact fun _=>aa rfl) (an:L[i]? =some ⟨some p,.var b⟩:=by rfl)
 (hu:n0 w i 0 all=true:=by first | rfl | kernel_rfl):∀ av:List aF,(∀ (j:Nat) (e:aF),L[j]? =some e→n0 w j 0 all=true→av[j]? =some e)→jX c ops E av ⟨some a9,.load t x,ty,pos,af,none⟩ (.of b):=
 fun av pW=> .v (fE (aO.id β) ef (ak av) (pW _ _ an hu) rfl rfl) rfl
theorem iM {f:FuncId} {xs:List Operand} {ats:Array TypeId} {τs:List I} {ρ:I} {hyp:List aF→Prop} (ea:bR c.P f) (h:b9 c.P f τs ρ)
 (ak:∀ av,gV c E av xs τs:=by intro av; repeat (first | exact trivial | refine⟨aa rfl,?_⟩ | refine⟨bE _,?_⟩ | refine⟨fz _,?_⟩ | refine⟨look_nil,?_⟩ | refine⟨dn _,?_⟩)):
 ∀ av,hyp av→jX c ops E av ⟨some a9,.call ⟨.value (.func f),xs.toArray,ats⟩,ty,pos,af,none⟩ ρ:=fun av _=> .v (lz ea h (ak av)) rfl
theorem qR {α:Type} [ae α] [Inhabited α] {xs:List α} {e:TypeId} {i:Int} {j:Nat} {hyp:List aF→Prop} (au:idx xs.length i=some j) (hu:c.P.underlying t=some (.slice e)) (eg:bq c.P e α)
 (ak:∀ av,a4 c E av x (.of xs):=by exact fun _=>aa rfl) (a7:∀ av,a4 c E av y (.of i):=by first | exact fun _=>aa rfl | exact fun _=>bE _):
 ∀ av,hyp av→jX c ops E av ⟨some a9,.indexAddr t x y,ty,pos,af,none⟩ (.ptr (aN xs j)):=fun av _=> .v (qy hu eg (ak av) (a7 av) (eU au)) rfl
theorem ug {s f o:Nat} {β γ:Type} [ae β] [ae γ] {b:β} {hyp:List aF→Prop} (l:aO β γ) (fd:b4 c.P s f o) (ak:∀ av,a4 c E av x (.ptr b):=by exact fun _=>aa rfl) (a6:l.off=o:=by rfl):
 ∀ av,hyp av→jX c ops E av ⟨some a9,.fieldAddr s x f,ty,pos,af,none⟩ (.ptr (l.get b)):=fun av _=> .v (Ca l fd (ak av) a6 rfl) rfl
theorem Hy {α:Type} [ae α] {a b:α} {hyp:List aF→Prop} (e:some a=some b) (h:∀ av,hyp av→bO c E av o (.of a)) (bx:o.guard=none:=by rfl):∀ av,hyp av→jX c ops E av o (.of b):=fun av an=> .v ((h av an).as (aS e)) bx
theorem wA {i:Nat} {τs:List I} {τ:I} {hyp:List aF→Prop} (ak:∀ av,a4 c E av x (.eA τs):=by exact fun _=>aa rfl) (aq:τs[i]? =some τ:=by rfl):∀ av,hyp av→jX c ops E av ⟨some a9,.extract x i,ty,pos,af,none⟩ τ:=fun av _=> .v (lC (ak av) aq) rfl
theorem ia {τ:I} {j g:Nat} {b want:Bool} {hyp:List aF→Prop} (h:∀ av,hyp av→b=want→bO c E av o τ) (bx:o.guard=some (j,want):=by rfl) (aC:(ops[j]?).bind (·.dst)=some g:=by rfl) (ar:look E g=some (.of b):=by rfl):
 ∀ av,hyp av→jX c ops E av o (.cond (b=want) τ):=fun av an=> .g (h av an) bx aC ar
end
def bb (s:Nat) (up rd:List Nat) (τ:I):c4:=⟨some s,up,rd,[],fun _=>τ,fun _ _=>⟨none,.dead⟩⟩
section
variable {hs:List c4} {i:Nat} {up rd:List Nat}
theorem fi {τ:I} (ak:∀ (hd:Nat→Hid) (E':List (Nat × I)) (av:List aF),(∀ t τ,look (lL hd hs E up) t=some τ→look E' t=some τ)→a4 c E' av x τ:=by first | exact fun _ _ _ aw=>aa (aw _ _ rfl) | exact fun _ _ _ _=>bE _ | exact fun _ _ _ _=>fz _ | exact fun _ _ _ _=>dn _)
 (aL:Nat.blt a9 c.n=true:=by rfl):cl c ops Q hs E L i ⟨some a9,.move x,ty,pos,af,none⟩ (bb a9 up rd τ):=hE rfl rfl aL fun hd E' av aw _=>cj (ak hd E' av aw)
theorem e6 {σ τ:I} (h:∀ {E' av},a4 c E' av x σ→bO c E' av o τ) (bx:o.guard=none:=by rfl) (hd:o.dst=some a9:=by rfl)
 (ak:∀ (hd:Nat→Hid) (E':List (Nat × I)) (av:List aF),(∀ t τ,look (lL hd hs E up) t=some τ→look E' t=some τ)→a4 c E' av x σ:=by first | exact fun _ _ _ aw=>aa (aw _ _ rfl) | exact fun _ _ _ _=>bE _ | exact fun _ _ _ _=>fz _ | exact fun _ _ _ _=>dn _)
 (aL:Nat.blt a9 c.n=true:=by rfl):cl c ops Q hs E L i o (bb a9 up rd τ):=hE bx hd aL fun hd E' av aw _=>h (ak hd E' av aw)
theorem uP {σ o8 τ:I} (h:∀ {E' av},a4 c E' av x σ→a4 c E' av y o8→bO c E' av o τ) (bx:o.guard=none:=by rfl) (hd:o.dst=some a9:=by rfl)
 (ak:∀ (hd:Nat→Hid) (E':List (Nat × I)) (av:List aF),(∀ t τ,look (lL hd hs E up) t=some τ→look E' t=some τ)→a4 c E' av x σ:=by first | exact fun _ _ _ aw=>aa (aw _ _ rfl) | exact fun _ _ _ _=>bE _ | exact fun _ _ _ _=>fz _ | exact fun _ _ _ _=>dn _)
 (a7:∀ (hd:Nat→Hid) (E':List (Nat × I)) (av:List aF),(∀ t τ,look (lL hd hs E up) t=some τ→look E' t=some τ)→a4 c E' av y o8:=by first | exact fun _ _ _ aw=>aa (aw _ _ rfl) | exact fun _ _ _ _=>bE _ | exact fun _ _ _ _=>fz _ | exact fun _ _ _ _=>dn _)
 (aL:Nat.blt a9 c.n=true:=by rfl):cl c ops Q hs E L i o (bb a9 up rd τ):=hE bx hd aL fun hd E' av aw _=>h (ak hd E' av aw) (a7 hd E' av aw)
theorem mQ {p o:Nat} {β γ:Type} [ae β] [ae γ] {b:β} (k:Nat) (l:aO β γ) (ef:bq c.P t γ)
 (ak:∀ (hd:Nat→Hid) (E':List (Nat × I)) (av:List aF),(∀ t τ,look (lL hd hs E up) t=some τ→look E' t=some τ)→a4 c E' av x (.eq (.pointer (some ⟨p,o,none⟩))):=by exact fun _ _ _ aw=>aa (aw _ _ rfl))
 (an:∀ hd:Nat→Hid,(gl (fun _=>true) hd 0 (hs.take i) L)[k]? =some ⟨some p,.var b⟩:=by exact fun _=>rfl) (aQ:rd.contains k=true:=by rfl) (a6:o=l.off:=by rfl)
 (aL:Nat.blt a9 c.n=true:=by rfl):cl c ops Q hs E L i ⟨some a9,.load t x,ty,pos,af,none⟩ (bb a9 up rd (.of (l.get b))):=hE rfl rfl aL fun hd E' av aw pW=>fE l ef (ak hd E' av aw) (pW _ _ (an hd) aQ) a6 rfl
theorem nq {p:Nat} {β:Type} [ae β] {b:β} (k:Nat) (ef:bq c.P t β)
 (ak:∀ (hd:Nat→Hid) (E':List (Nat × I)) (av:List aF),(∀ t τ,look (lL hd hs E up) t=some τ→look E' t=some τ)→a4 c E' av x (.eq (.pointer (some ⟨p,0,none⟩))):=by exact fun _ _ _ aw=>aa (aw _ _ rfl))
 (an:∀ hd:Nat→Hid,(gl (fun _=>true) hd 0 (hs.take i) L)[k]? =some ⟨some p,.var b⟩:=by exact fun _=>rfl) (aQ:rd.contains k=true:=by rfl)
 (aL:Nat.blt a9 c.n=true:=by rfl):cl c ops Q hs E L i ⟨some a9,.load t x,ty,pos,af,none⟩ (bb a9 up rd (.of b)):=hE rfl rfl aL fun hd E' av aw pW=>fE (aO.id β) ef (ak hd E' av aw) (pW _ _ (an hd) aQ) rfl rfl
theorem ca {τ:I} (h:∀ (hd:Nat→Hid) (E':List (Nat × I)) (av:List aF),(∀ t τ,look (lL hd hs E up) t=some τ→look E' t=some τ)→ (∀ j e,(gl (fun _=>true) hd 0 (hs.take i) L)[j]? =some e→rd.contains j=true→av[j]? =some e)→bO c E' av o τ)
 (bx:o.guard=none:=by rfl) (hd:o.dst=some a9:=by rfl) (aL:Nat.blt a9 c.n=true:=by rfl):cl c ops Q hs E L i o (bb a9 up rd τ):=hE bx hd aL h
end
end
end Gv
namespace Gv
open Go
set_option linter.unusedVariables false
set_option linter.unusedSimpArgs false
theorem Bk {F:Fence} {n rq:Nat} {P:Program} {code:Code} {Q:Exit→Act→World→Prop} {a:Act} {W:World} (hd:F.depth=none) (h:code.wpIn F n P Q a W):code.wpIn F rq P Q a W:=
 fun b k cs wG hb _=>h b k cs wG hb (fun d hd'=>by rw [hd] at hd'; cases hd')
def dA.is (o:Obj):dA where
 holds _ _ x:=x=o
 mF:=False
 mono _ h:=h
abbrev dA.dk:dA:= .is (.deferred (some []))
def I.gi (f:FuncId) (τs:List I):I where
 holds A W v:= ∃ hf:List Value,v= .func (.func f) #[] hf.toArray∧fM A W τs hf
 mono e h:=let⟨hf,J,ad⟩:=h; ⟨hf,J,ad.mono e⟩
theorem bs.pS {c E L a W} (h:bs c E L a W) {i p:Nat} {cp cp':dA} (aq:L[i]? =some ⟨some p,cp⟩) {o':Obj} (aj:cp'.holds (aJ L ++ c.bM) W o'):
 bs c E (L.set i ⟨some p,cp'⟩) a (W.putObj p o'):=by
 have gB:aJ (L.set i ⟨some p,cp'⟩)=aJ L:=vO (cp:=cp') aq
 have hp:p∈aJ L:=km.2 ⟨_,List.mem_of_getElem? aq,rfl⟩
 have gA:Ext (aJ L ++ c.bM) W (aJ L ++ c.bM) (W.putObj p o'):=
  ⟨by simp,fun k _ bg=>World.putObj_heap_other (fun e=>bg (e ▸ List.mem_append.2 (.inl hp))),fun _ h _=>h⟩
 exact
 {defers:=h.defers
  size:=h.size
  env:=fun t τ ar=>by rw [gB]; exact let⟨v,J,ad⟩:=h.env t τ ar; ⟨v,J,τ.mono gA ad⟩
  dm:=⟨h.dm.os,h.dm.tape,h.dm.output,by simpa using h.dm.size,fun k au ak=>by
   rw [World.putObj_heap_other (fun e:k=p=>ak (by subst e; exact h.fA _ hp au))]
   exact h.dm.block k au ak⟩
  own:=fun e he=>by
   rw [gB]
   obtain⟨j,aC⟩:=List.mem_iff_getElem?.1 he
   rw [List.getElem?_set] at aC
   split at aC
   ·rename_i e5
    subst e5
    split at aC
    ·simp only [Option.some.injEq] at aC
     subst aC
     exact⟨_,World.putObj_heap_same (h.lt p hp),cp'.mono gA aj⟩
    ·cases aC
   ·rename_i e5
    have J:=h.own e (List.mem_of_getElem? aC)
    unfold aF.ok at *
    split at J
    ·rename_i q hq
     obtain⟨o',qY,b3⟩:=J
     have cQ:q≠p:=fun e'=>e5 (Fi h.nodup aq aC rfl (e' ▸ hq))
     exact⟨o',by rw [World.putObj_heap_other cQ]; exact qY,dA.mono _ gA b3⟩
    ·exact J
  nodup:=by rw [gB]; exact h.nodup
  lt:=by rw [gB]; simpa using h.lt
  fA:=by rw [gB]; exact h.fA
  eC:=by rw [gB]; simpa using h.eC }
theorem S0 {c:cT} {E:List (Nat × I)} {L:List aF} {d:Option Tmp} {ty:TypeId} {pos:String} {af:Array Edge} {g:Option (Nat × Bool)} {f:FuncId} {xs:List Operand} {τs:List I} (ak:gV c E L xs τs):
 bO c E L ⟨d,.makeFunc (.func f) #[] xs.toArray,ty,pos,af,g⟩ (.gi f τs):= .pure fun a W s=>
 ⟨.func (.func f) #[] (xs.map a.eval).toArray,by simp [execOp,Instr.makeFunc],_,rfl,ak.holds a W s⟩
structure wo (A:List Nat) (W:World) (L:List aF):Prop where
 eC:∀ k∈A,k < W.heap.size∧k ∉ aJ L
 nodup:(aJ L).Nodup
 lt:∀ k∈aJ L,k < W.heap.size
 ok:∀ e∈L,e.ok (aJ L ++ A) W
def wL (P:Program) (u:Value) {α σ ε γ:Type} (τ:α→I) (Ls:σ→γ→List aF) (Lx:ε→γ→List aF) (step:α→σ→Option (σ ⊕ ε)) (R:List Nat→World→Prop):Prop:=
 ∃ l,u= .func (.yield l) #[] #[]∧ ∀ x s r,step x s=some r→ ∀ g A W v,R (aJ (Ls s g) ++ A) W→wo A W (Ls s g)→ (τ x).holds (aJ (Ls s g) ++ A) W v→
   YieldAt Fence.wide 8 P l #[v] W (match r with
    | .inl bW=>jL (aJ (Ls s g)) A W (fun _:γ=>I.of true) (fun g=>Ls bW g)
    | .inr q=>jL (aJ (Ls s g)) A W (fun _:γ=>I.of false) (fun g=>Lx q g))
def Lr {σ ε γ:Type} (Ls:σ→γ→List aF) (Lx:ε→γ→List aF):σ ⊕ ε→γ→List aF
 | .inl s,g=>Ls s g
 | .inr q,g=>Lx q g
structure KJ (P:Program) (f:FuncId) (τs:List I) (Lin:List aF) {α:Type} (τ:α→I) (run:∀ {σ ε:Type},(α→σ→Option (σ ⊕ ε))→σ→Option (σ ⊕ ε)):Prop where
 go:∀ {σ ε γ:Type} (Ls:σ→γ→List aF) (Lx:ε→γ→List aF) (step:α→σ→Option (σ ⊕ ε)) (b0:σ) (g0:γ) (r:σ ⊕ ε),run step b0=some r→
  ∀ (A:List Nat) (W:World) (u:Value) (vs:List Value),wo A W (Lin ++ Ls b0 g0)→fM (aJ (Lin ++ Ls b0 g0) ++ A) W τs vs→
    wL P u τ Ls Lx step (fun cN W'=>Ext (aJ (Lin ++ Ls b0 g0) ++ A) W cN W')→
    Calls P f (u :: vs).toArray W (jL (aJ (Lin ++ Ls b0 g0)) A W (fun _:γ=> .eA []) (fun g=>Lin ++ Lr Ls Lx r g))
theorem KJ.of {P:Program} {f:FuncId} {fn:Func} {code:Code} {n:Nat} {τs:List I} {Lin:List aF} {α:Type} {τ:α→I} {run:∀ {σ ε:Type},(α→σ→Option (σ ⊕ ε))→σ→Option (σ ⊕ ε)}
 (a0:P.funcs[f]? =some fn) (hb:fn.body=some code) (aL:fn.ntmps=n) (hlen:Nat.ble (τs.length + 1) n=true)
 (h:∀ {σ ε γ:Type} (Ls:σ→γ→List aF) (Lx:ε→γ→List aF) (step:α→σ→Option (σ ⊕ ε)) (b0:σ) (g0:γ) (r:σ ⊕ ε),run step b0=some r→
  ∀ W A u,wL P u τ Ls Lx step (fun cN W'=>Ext (aJ (Lin ++ Ls b0 g0) ++ A) W cN W')→
    ai ⟨P,n,W,aJ (Lin ++ Ls b0 g0),A,none,[]⟩ (bodyPost P fn (jL (aJ (Lin ++ Ls b0 g0)) A W (fun _:γ=> .eA []) (fun g=>Lin ++ Lr Ls Lx r g))) code (params 0 (.eq u :: τs)) (Lin ++ Ls b0 g0)):KJ P f τs Lin τ run:=by
 refine⟨?_⟩
 intro σ ε γ Ls Lx step b0 g0 r aQ A W u vs ar a3 a7
 refine calls_of_wp a0 hb (wpIn_wide.1 (h Ls Lx step b0 g0 r aQ W A u a7 _ _ ?_))
 have oe:fM (aJ (Lin ++ Ls b0 g0) ++ A) W (.eq u :: τs) (u :: vs):= .cons rfl a3
 have ka:=oe.length
 have hle:τs.length + 1≤n:=Nat.le_of_ble_eq_true hlen
 exact
 {defers:=rfl
  size:=by simp at ka; simp [aL,ka]; omega
  env:=fun t τ ew=>by
   obtain⟨_,v,ad,ax⟩:=s5 oe 0 t τ ew
   refine⟨v,?_,ax⟩
   have b5:t < (u :: vs).length:=(List.getElem?_eq_some_iff.1 ad).1
   rw [Array.getElem?_append_left (by simpa using b5)]
   simpa using ad
  dm:= .refl _ _
  own:=ar.ok
  nodup:=ar.nodup
  lt:=ar.lt
  fA:=fun k au _=>au
  eC:=ar.eC }
section
variable {c:cT} {E:List (Nat × I)} {L:List aF} {ops:Array Oper} {Q:Exit→Act→World→Prop}
variable {d:Option Tmp} {ty:TypeId} {pos:String} {af:Array Edge} {g:Option (Nat × Bool)} {x y:Operand} {t t2:TypeId}
theorem bs.LQ {a:Act} {W:World} (s:bs c E L a W):Ext (c.X ++ c.bM) c.iC (aJ L ++ c.bM) W:=
 ⟨s.dm.size,fun k au bg=>s.dm.block k au fun ak=>bg (List.mem_append.2 (.inl ak)),fun k hm b5=>by
   rcases List.mem_append.1 hm with hm | hm
   ·exact List.mem_append.2 (.inl (s.fA k hm b5))
   ·exact List.mem_append.2 (.inr hm)⟩
theorem bs.Cy {a:Act} {W:World} {Lin Lr:List aF} (s:bs c E (Lin ++ Lr) a W):wo (aJ Lr ++ c.bM) W Lin:=by
 have k7:=s.nodup
 rw [eF] at k7
 obtain⟨iO,ln,o6⟩:=List.nodup_append.1 k7
 exact
 {eC:=fun k hm=>by
   rcases List.mem_append.1 hm with hm | hm
   ·exact⟨s.lt k (by rw [eF]; exact List.mem_append.2 (.inr hm)),fun h=>o6 k h k hm rfl⟩
   ·obtain⟨J,ad⟩:=s.eC k hm
    exact⟨J,fun h=>ad (by rw [eF]; exact List.mem_append.2 (.inl h))⟩
  nodup:=iO
  lt:=fun k hm=>s.lt k (by rw [eF]; exact List.mem_append.2 (.inl hm))
  ok:=fun e he=>aF.rN (s.own e (List.mem_append.2 (.inl he))) (.drop fun k hm=>by
   rw [eF]
   simp only [List.mem_append] at hm ⊢
   rcases hm with hm | hm | hm
   ·exact .inl (.inl hm)
   ·exact .inl (.inr hm)
   ·exact .inr hm) fun _ _=>rfl }
theorem yk {Lin Lr:List aF} {A:List Nat} {W:World} :Ext (aJ (Lin ++ Lr) ++ A) W (aJ Lin ++ (aJ Lr ++ A)) W:= .drop fun k hm=>by
 rw [eF]
 simp only [List.mem_append] at hm ⊢
 rcases hm with hm | hm | hm
 ·exact .inl (.inl hm)
 ·exact .inl (.inr hm)
 ·exact .inr hm
theorem EI {Lin Lr:List aF} {A:List Nat} {W:World} :Ext (aJ Lin ++ (aJ Lr ++ A)) W (aJ (Lin ++ Lr) ++ A) W:= .drop fun k hm=>by
 rw [eF] at hm
 simp only [List.mem_append] at hm ⊢
 rcases hm with(hm | hm) | hm
 ·exact .inl hm
 ·exact .inr (.inl hm)
 ·exact .inr (.inr hm)
theorem ag.yield {rest:List Oper} {a9 rr:Nat} {ats:Array TypeId} {u:Value} {α σ ε γ:Type} {τ:α→I} {Ls:σ→γ→List aF} {Lx:ε→γ→List aF} {step:α→σ→Option (σ ⊕ ε)} {Lin:List aF} {x:Operand} {v:α} {s:σ} {gg:γ} {r:σ ⊕ ε}
 (aj:c.rd=none) (a7:wL c.P u τ Ls Lx step (fun cN W'=>Ext (c.X ++ c.bM) c.iC cN W')) (a0:look E rr=some (.eq u)) (ak:a4 c E (Lin ++ Ls s gg) x (τ v)) (aQ:step v s=some r) (aL:Nat.blt a9 c.n=true)
 (bh:∀ bW,r= .inl bW→ ∀ eH,ag c ops Q rest ((a9,.of true) :: E) (Lin ++ Ls bW eH)) (cC:∀ q,r= .inr q→ ∀ eH,ag c ops Q rest ((a9,.of false) :: E) (Lin ++ Lx q eH)):
 ag c ops Q (⟨some a9,.call ⟨.value (.tmp rr),#[x],ats⟩,ty,pos,af,none⟩ :: rest) E (Lin ++ Ls s gg):=fun a W st=>by
 obtain⟨l,rfl,a7⟩:=a7
 obtain⟨HK,J,ad⟩:=st.env rr _ a0
 have hu:HK= .func (.yield l) #[] #[]:=ad
 subst hu
 have mg:bs c E (Ls s gg ++ Lin) a W:=st.perm List.perm_append_comm
 have a3:=ak a W st
 have oe:(τ v).holds (aJ (Ls s gg) ++ (aJ Lin ++ c.bM)) W (a.eval x):=(τ v).mono (.drop fun k hm=>by
  rw [eF]
  simp only [List.mem_append] at hm ⊢
  rcases hm with hm | hm | hm
  ·exact .inl (.inr hm)
  ·exact .inl (.inl hm)
  ·exact .inr hm) a3
 obtain⟨fn,tmps,assign,body,jg,iE⟩:=a7 v s r aQ gg (aJ Lin ++ c.bM) W (a.eval x) (mg.LQ.trans yk) mg.Cy oe
 have FR:(execOp a.eval ⟨some a9,.call ⟨.value (.tmp rr),#[x],ats⟩,ty,pos,af,none⟩).run c.P W= .ok (.round l fn tmps assign body) W:=by
  rw [← jg]
  simp [execOp,resolve,Deferred.ofValue,Act.eval,J,invoke,Sem.run_bind,Sem.run_pure,Result.andThen]
 refine wpListIn_plain rfl fun K uT=> ?_
 refine⟨fun _ _=>trivial,?_⟩
 rw [Oper.semAt_eq _ _ _ (fun _ h=>by cases h),FR,Oper.uponIn_round]
 refine⟨fun h=>by simp at h,?_⟩
 have GW:RoundIn c.F (9 - 1) c.P l fn tmps assign body W _:=iE
 refine GW.mono fun e W' he=> ?_
 cases r with
 | inl bW=>
   obtain⟨w,eH,rfl,o9,ax,aR,aW,bc⟩:=he
   obtain rfl:=of_bool.1 bc
   refine uT _ _ (bh bW rfl eH _ _ ?_)
   exact(((mg.after o9 ax aR aW).perm List.perm_append_comm).put (by simpa using aL) (of_bool.2 rfl))
 | inr q=>
   obtain⟨w,eH,rfl,o9,ax,aR,aW,bc⟩:=he
   obtain rfl:=of_bool.1 bc
   refine uT _ _ (cC q rfl eH _ _ ?_)
   exact(((mg.after o9 ax aR aW).perm List.perm_append_comm).put (by simpa using aL) (of_bool.2 rfl))
theorem ag.dT {l:List Oper} {L2:List aF} (h:L=L2) (k:ag c ops Q l E L2):ag c ops Q l E L:=by subst h; exact k
theorem ag.cases {l:List Oper} (b:Bool) (J:b=true→ag c ops Q l E L) (ad:b=false→ag c ops Q l E L):ag c ops Q l E L:=by
 cases b
 ·exact ad rfl
 ·exact J rfl
theorem ai.Lg {x:Operand} {b:Bool} {y z:Code} (ar:a4 c E L x (.of b)) (hb:b=true) (k:ai c Q y E L):ai c Q (.cond x y z) E L:= .cond ar (fun _=>k) fun h=>by rw [hb] at h; cases h
theorem ai.yI {x:Operand} {b:Bool} {y z:Code} (ar:a4 c E L x (.of b)) (hb:b=false) (k:ai c Q z E L):ai c Q (.cond x y z) E L:= .cond ar (fun h=>by rw [hb] at h; cases h) fun _=>k
def yC:Code→Exit
 | .ret=> .ret
 | .exit id=> .exit id
 | .goto t=> .goto t
 | _=> .normal
def tw:Code→Bool
 | .ret | .exit _ | .goto _=>true
 | _=>false
def Di {σ ε γ:Type} (c:cT) (eR:ε→Code) (l D:Nat) (rec:Loop) (Ls:σ→γ→List aF) (Lx:ε→γ→List aF):σ ⊕ ε→Exit→Act→World→Prop
 | .inl bW,x,a,W=>x= .normal∧ ∃ g,bs c [] (⟨some l,.is (.loop rec)⟩ :: ⟨some D,.dk⟩ :: Ls bW g) a W
 | .inr q,x,a,W=>tw (eR q)=true∧x=yC (eR q)∧ ∃ g,bs c [] (⟨some l,.is (.loop rec)⟩ :: ⟨some D,.dk⟩ :: Lx q g) a W
def Dj (c:cT) (l:Nat) (body:Code) (Q:Exit→Act→World→Prop) (a:Act) (W:World):Prop:=
 ∃ mZ,(Instr.beginRound l).run c.P W= .ok () mZ∧c.wp body Q a mZ
theorem ah.begin {l:Nat} {body:Code} {rk:Exit→Act→World→Prop} (i:Nat) {r:Loop} (an:L[i]? =some ⟨some l,.is (.loop r)⟩) (aQ:r.state= .ready)
 (k:ai c Q body E (L.set i ⟨some l,.is (.loop { r with state:= .busy })⟩)):ah c (Exit.then (Dj c l body Q) rk) .normal E L:=fun a W s=>by
 obtain⟨o,J,ad⟩:=s.own _ (List.mem_of_getElem? an)
 have kT:o= .loop r:=ad
 subst kT
 exact⟨_,run_beginRound J aQ,k _ _ (s.pS an rfl)⟩
theorem ah.MQ {σ ε γ:Type} {eR:ε→Code} {l D:Nat} {rec:Loop} {Ls:σ→γ→List aF} {Lx:ε→γ→List aF} {bW:σ} (g:γ) (n:Nat) (an:L.drop n=⟨some l,.is (.loop rec)⟩ :: ⟨some D,.dk⟩ :: Ls bW g):
 ah c (Di c eR l D rec Ls Lx (.inl bW)) .normal E L:=fun a W s=>⟨rfl,g,by rw [← an]; exact(s.n1 n).less (fun t τ h=>by simp [look] at h)⟩
theorem ah.Sm {σ ε γ:Type} {eR:ε→Code} {l D:Nat} {rec:Loop} {Ls:σ→γ→List aF} {Lx:ε→γ→List aF} {q:ε} {x:Exit} (g:γ) (n:Nat) (aC:tw (eR q)=true) (ak:x=yC (eR q)) (an:L.drop n=⟨some l,.is (.loop rec)⟩ :: ⟨some D,.dk⟩ :: Lx q g):
 ah c (Di c eR l D rec Ls Lx (.inr q)) x E L:=fun a W s=>⟨aC,ak,g,by rw [← an]; exact(s.n1 n).less (fun t τ h=>by simp [look] at h)⟩
theorem ai.jump {j:Code} (aC:tw j=true) (k:ah c Q (yC j) E L):ai c Q j E L:=by
 cases j <;> simp only [tw] at aC <;> first | cases aC | skip
 all_goals first | exact .exit k | exact .ret k | exact fun a W s=>wpIn_goto (k a W s)
theorem Iv {P:Program} {l:Nat} {R:Ending→World→Prop} {j:Code} {a:Act} {W W':World} {v:Value} (aC:tw j=true) (bc:(Instr.endRound l (some j)).run P W= .ok v W') (iE:R (.returned v) W'):
 roundPost P l R (yC j) a W:=by
 cases j <;> simp only [tw] at aC <;> first | exact⟨_,_,bc,iE⟩ | cases aC
theorem bs.mark {a:Act} {W:World} (s:bs c E L a W) (D:Nat):bs { c with ds:=D :: c.ds } E L { a with defers:=Cr D :: a.defers } W:=
 {defers:=by simp [s.defers],size:=s.size,env:=s.env,dm:=s.dm,own:=s.own,nodup:=s.nodup,lt:=s.lt,fA:=s.fA,eC:=s.eC }
def GX (P:Program) (f:FuncId) (τs:List I) (Lin:List aF) {α σ ε γ:Type} (τ:α→I) (run:(α→σ→Option (σ ⊕ ε))→σ→Option (σ ⊕ ε)) (Ls:σ→γ→List aF) (Lx:ε→γ→List aF):Prop:=
 ∀ (step:α→σ→Option (σ ⊕ ε)) (b0:σ) (g0:γ) (r:σ ⊕ ε),run step b0=some r→
   ∀ (A:List Nat) (W:World) (u:Value) (vs:List Value),wo A W (Lin ++ Ls b0 g0)→fM (aJ (Lin ++ Ls b0 g0) ++ A) W τs vs→
     wL P u τ Ls Lx step (fun cN W'=>Ext (aJ (Lin ++ Ls b0 g0) ++ A) W cN W')→
     Calls P f (u :: vs).toArray W (jL (aJ (Lin ++ Ls b0 g0)) A W (fun _:γ=> .eA []) (fun g=>Lin ++ Lr Ls Lx r g))
theorem QF {gt p:Nat} {assign body:Code} {f:FuncId} {nn:List I} {Lin:List aF} {α σ ε γ:Type} {τ:α→I} {run:(α→σ→Option (σ ⊕ ε))→σ→Option (σ ⊕ ε)}
 {Ls:σ→γ→List aF} {Lx:ε→γ→List aF} {step:α→σ→Option (σ ⊕ ε)} {b0:σ} {g0:γ} {r:σ ⊕ ε} (eR:ε→Code)
 (aj:c.rd=none) (ea:bR c.P f) (bx:look E gt=some (.gi f nn)) (kY:∀ aE bd mV,GX c.P f nn Lin τ run (fun s g=>aE :: bd :: Ls s g) mV) (aQ:run step b0=some r) (an:L=Lin ++ Ls b0 g0) (hp:Nat.blt p c.n=true)
 (pF:∀ x s r,step x s=some r→ ∀ g (mR:World) (mW mS:List Nat) (l D:Nat) (rec:Loop),rec.state= .ready→
  ai ⟨c.P,c.n,mR,mW,mS,some l,[]⟩ (Exit.then (Dj ⟨c.P,c.n,mR,mW,mS,some l,[]⟩ l body (Di ⟨c.P,c.n,mR,mW,mS,some l,[]⟩ eR l D { rec with state:= .busy } Ls Lx r)) (fun _ _ _=>False)) assign ((p,τ x) :: E) (⟨some l,.is (.loop rec)⟩ :: ⟨some D,.dk⟩ :: Ls s g))
 (mH:∀ bW,r= .inl bW→ ∀ g D,ah { c with ds:=D :: c.ds } Q .normal E (⟨some D,.dk⟩ :: (Lin ++ Ls bW g)))
 (yQ:∀ q,r= .inr q→ ∀ g D,ai { c with ds:=D :: c.ds } Q (eR q) E (⟨some D,.dk⟩ :: (Lin ++ Lx q g))):
 ai c Q (.rangeFunc (.tmp gt) #[p] assign body) E L:=fun a W st=>by
 subst an
 refine wpIn_rangeFunc fun fn GY=> ?_
 show ∃ l mark VR d Uo wW args VS,(Instr.enterLoop fn a.tmps #[p] assign body c.rd).run c.P W=_∧_
 rw [aj]
 obtain⟨rec,jO⟩:∃ rec:Loop,rec= { state:= .ready,pending:=none,fn,tmps:=a.tmps,params:= #[p],assign,body,defers:=W.heap.size } :=⟨_,rfl⟩
 obtain⟨v,zV,hf,uG,WK⟩:=st.env gt _ bx
 obtain⟨gD,zW⟩:∃ gD,(W.alloc (.deferred (some []))).alloc (.loop rec)=gD:=⟨_,rfl⟩
 have s1:=(st.alloc (o:= .deferred (some [])) (cp:= .dk) rfl).alloc (o:= .loop rec) (cp:= .is (.loop rec)) rfl
 rw [zW,World.size_alloc] at s1
 obtain⟨D,kd⟩:∃ D,D=W.heap.size:=⟨_,rfl⟩
 obtain⟨l,ar⟩:∃ l,l=W.heap.size + 1:=⟨_,rfl⟩
 have zX:=run_enterLoop_outer (P:=c.P) (w:=W) fn a.tmps #[p] assign body
 rw [← jO,zW,← ar,← kd] at zX
 rw [← ar,← kd] at s1
 obtain⟨kA,pa⟩:∃ kA:σ→γ→List aF,kA=fun s g=>⟨some l,.is (.loop rec)⟩ :: ⟨some D,.dk⟩ :: Ls s g:=⟨_,rfl⟩
 obtain⟨mV,zY⟩:∃ mV:ε→γ→List aF,mV=fun q g=>⟨some l,.is (.loop { rec with state:= .done,pending:=some (eR q) })⟩ :: ⟨some D,.dk⟩ :: Lx q g:=⟨_,rfl⟩
 have s2:bs c E (Lin ++ kA b0 g0) a gD:=s1.perm (by
  rw [pa]
  exact(List.perm_middle.trans (List.perm_middle.cons _)).symm)
 have GZ:fM (aJ (Lin ++ kA b0 g0) ++ c.bM) gD nn hf:=by
  have J:(I.gi f nn).holds (aJ (Lin ++ kA b0 g0) ++ c.bM) gD v:=by
   obtain⟨Dg,J,ad⟩:=s2.env gt _ bx
   rw [zV] at J
   cases J
   exact ad
  obtain⟨G0,aE,bd⟩:=J
  rw [uG] at aE
  have:G0=hf:=by injection aE with _ _ aE; injection aE with aE; exact aE.symm
  rw [← this]; exact bd
 have zZ:bs c E ((Lin ++ kA b0 g0) ++ []) a gD:=by rw [List.append_nil]; exact s2
 have yR:=zZ.Cy
 simp only [aJ,List.nil_append] at yR
 have Gk:wL c.P (.func (.yield l) #[] #[]) τ kA mV step (fun cN W'=>Ext (aJ (Lin ++ kA b0 g0) ++ c.bM) gD cN W'):=by
  refine⟨l,rfl,fun x s kG hs g A mZ v2 gA hle a3=> ?_⟩
  have zk:=hle
  rw [pa] at zk
  obtain⟨o,cU,eW⟩:=zk.ok ⟨some l,.is (.loop rec)⟩ (by simp)
  have oY:o= .loop rec:=eW
  subst oY
  have a7:=run_yield (P:=c.P) (args:= #[v2]) cU (by rw [jO]; rfl)
  refine⟨_,_,_,_,a7,roundIn_of_wpIn trivial ?_⟩
  have aE:rec.assign=assign:=by rw [jO]
  have bd:rec.body=body:=by rw [jO]
  have ej:rec.params= #[p]:=by rw [jO]
  have hS:rec.tmps=a.tmps:=by rw [jO]
  rw [aE,bd,ej,hS]
  refine Bk (n:=9) rfl ?_
  have FT:((#[p]:Array Tmp).zip #[v2]).foldl (fun tmps (t,a)=>tmps.setIfInBounds t a) a.tmps=a.tmps.setIfInBounds p v2:=by simp
  rw [FT]
  subst pa zY
  refine wpIn_mono ((pF x s kG hs g mZ (aJ (⟨some l,.is (.loop rec)⟩ :: ⟨some D,.dk⟩ :: Ls s g)) A l D rec (by rw [jO])) { tmps:=a.tmps.setIfInBounds p v2,defers:= [] } mZ ?_) ?_
  ·have h8:p < c.n:=by simpa using hp
   exact
   {defers:=rfl
    size:=by simp [s2.size]
    env:=fun t qX ew=>by
     simp only [look] at ew
     by_cases e:Nat.beq p t=true
     ·rw [e] at ew
      simp only [cond_true,Option.some.injEq] at ew
      subst ew
      have:=dX.1 e
      subst this
      exact⟨v2,by simp [s2.size,h8],a3⟩
     ·simp only [Bool.not_eq_true] at e
      rw [e] at ew
      simp only [cond_false] at ew
      obtain⟨u,J,ad⟩:=s2.env t qX ew
      have cQ:p≠t:=fun h=>by rw [dX.2 h] at e; cases e
      exact⟨u,by rw [Array.getElem?_setIfInBounds_ne cQ]; exact J,qX.mono gA ad⟩
    dm:= .refl _ _
    own:=hle.ok
    nodup:=hle.nodup
    lt:=hle.lt
    fA:=fun k au _=>au
    eC:=hle.eC }
  ·intro e gb XH hq
   cases e with
   | normal=>
     obtain⟨HL,G1,hb⟩:=hq
     refine⟨HL,G1,Bk (n:=9) rfl (wpIn_mono hb ?_)⟩
     intro e oq Aj CW
     have fin:∀ (jump:Option Code) {Lr:List aF},bs ⟨c.P,c.n,mZ,aJ (⟨some l,.is (.loop rec)⟩ :: ⟨some D,.dk⟩ :: Ls s g),A,some l,[]⟩ [] (⟨some l,.is (.loop { rec with state:= .busy })⟩ :: ⟨some D,.dk⟩ :: Lr) oq Aj→
      ∃ nE,(Instr.endRound l jump).run c.P Aj= .ok (.bool jump.isNone) nE∧bs ⟨c.P,c.n,mZ,aJ (⟨some l,.is (.loop rec)⟩ :: ⟨some D,.dk⟩ :: Ls s g),A,some l,[]⟩ [] (⟨some l,.is (.loop { rec with state:=if jump.isNone then .ready else .done,pending:=jump })⟩ :: ⟨some D,.dk⟩ :: Lr) oq nE:=fun jump Lr nF=>by
      obtain⟨o,J,ad⟩:=nF.own ⟨some l,.is (.loop { rec with state:= .busy })⟩ (by simp)
      have kT:o= .loop { rec with state:= .busy } :=ad
      subst kT
      exact⟨_,run_endRound jump J,nF.pS (i:=0) rfl rfl⟩
     cases kG with
     | inl bW=>
       obtain⟨rfl,eH,nF⟩:=CW
       obtain⟨nE,bc,ru⟩:=fin none nF
       refine⟨_,nE,bc,?_⟩
       have G2:({ rec with state:=if (none:Option Code).isNone then .ready else .done,pending:=none } :Loop)=rec:=by rw [jO]; rfl
       rw [G2] at ru
       exact ru.ends (ρ:=fun _:γ=>I.of true) (Lo:=fun g=>⟨some l,.is (.loop rec)⟩ :: ⟨some D,.dk⟩ :: Ls bW g) eH (List.Sublist.refl _) (of_bool.2 rfl)
     | inr q=>
       obtain⟨aC,rfl,eH,nF⟩:=CW
       obtain⟨nE,bc,ru⟩:=fin (some (eR q)) nF
       have key:jL (aJ (⟨some l,.is (.loop rec)⟩ :: ⟨some D,.dk⟩ :: Ls s g)) A mZ (fun _:γ=>I.of false) (fun g=>⟨some l,.is (.loop { rec with state:= .done,pending:=some (eR q) })⟩ :: ⟨some D,.dk⟩ :: Lx q g) (.returned (.bool false)) nE:=
        ru.ends (ρ:=fun _:γ=>I.of false) (Lo:=fun g=>⟨some l,.is (.loop { rec with state:= .done,pending:=some (eR q) })⟩ :: ⟨some D,.dk⟩ :: Lx q g) eH (List.Sublist.refl _) (of_bool.2 rfl)
       exact Iv aC bc key
   | exit id=>exact hq.elim
   | goto t=>exact hq.elim
   | ret=>exact hq.elim
   | panic HB=>exact hq.elim
   | outgrown=>exact hq.elim
 have WL:GX c.P f nn Lin τ run kA mV:=by rw [pa]; exact kY _ _ mV
 have tO:=WL step b0 g0 r aQ c.bM gD (.func (.yield l) #[] #[]) hf yR GZ Gk
 have kz:a.eval (.tmp gt)= .func (.func f) #[] hf.toArray:=by simp [Act.eval,zV,uG]
 refine⟨l,[Cr D],gD,{ target:= .fn (.func f) hf.toArray,args:= #[.func (.yield l) #[] #[]] },gD,f,#[.func (.yield l) #[] #[]] ++ hf.toArray,gD,zX,?_,fun _ _=>trivial,?_,fun h=>by simp at h,?_⟩
 ·simp only [resolve,kz]
  simp [go_sem]
 ·simp [invoke,go_sem,ea.run]
 ·refine CallsIn.EZ ?_
  have FU:(#[.func (.yield l) #[] #[]] ++ hf.toArray:Array Value)=(.func (.yield l) #[] #[] :: hf).toArray:=by simp
  rw [FU]
  refine tO.mono fun e HM ⟨XI,eH,he,a0,ax,aR,aW,bc⟩=> ?_
  subst he
  have nG:=zZ.after a0 ax (by simpa [aJ] using aR) (by simpa [aJ] using aW)
  rw [List.append_nil] at nG
  cases r with
  | inl bW=>
    simp only [Lr] at nG
    subst pa
    have Ak:bs c E (⟨some l,.is (.loop rec)⟩ :: ⟨some D,.dk⟩ :: (Lin ++ Ls bW eH)) a HM:=nG.perm (by
     exact List.perm_middle.trans (List.perm_middle.cons _))
    obtain⟨o,cU,eW⟩:=Ak.own ⟨some l,.is (.loop rec)⟩ (by simp)
    have oY:o= .loop rec:=eW
    subst oY
    have mO:=run_endLoop (P:=c.P) cU (by rw [jO]; simp)
    have h8:rec.pending=none:=by rw [jO]
    rw [h8] at mO
    refine⟨none,_,mO,?_⟩
    have rv:=(Ak.pS (i:=0) (cp':= .is (.loop { rec with state:= .exhausted })) (o':= .loop { rec with state:= .exhausted }) rfl rfl).n1 1
    rw [h8] at rv
    exact mH bW rfl eH D _ _ (rv.mark D)
  | inr q=>
    simp only [Lr] at nG
    subst zY
    have Ak:bs c E (⟨some l,.is (.loop { rec with state:= .done,pending:=some (eR q) })⟩ :: ⟨some D,.dk⟩ :: (Lin ++ Lx q eH)) a HM:=nG.perm (by
     exact List.perm_middle.trans (List.perm_middle.cons _))
    obtain⟨o,cU,eW⟩:=Ak.own ⟨some l,.is (.loop { rec with state:= .done,pending:=some (eR q) })⟩ (by simp)
    have oY:o= .loop { rec with state:= .done,pending:=some (eR q) } :=eW
    subst oY
    have mO:=run_endLoop (P:=c.P) cU (by simp)
    refine⟨some (eR q),_,mO,?_⟩
    have rv:=(Ak.pS (i:=0) (cp':= .is (.loop { rec with state:= .exhausted,pending:=some (eR q) })) (o':= .loop { rec with state:= .exhausted,pending:=some (eR q) }) rfl rfl).n1 1
    exact yQ q rfl eH D _ _ (rv.mark D)
theorem PH {P:Program} {fn:Func} {R:Ending→World→Prop} {a:Act} {W:World} (h:bodyPost P fn R .ret a W):bodyPostM Fence.wide 9 P fn R .ret a W:=by
 obtain⟨J,v,ad,ax⟩:=h
 show LeavesInM Fence.wide 9 P fn a.tmps R a.defers .returning W
 rw [J]
 exact⟨v,ad,ax⟩
theorem ah.oS {P:Program} {fn:Func} {R:Ending→World→Prop} (k:ah c (bodyPost P fn R) .ret E L):ah c (bodyPost P fn R) .normal E L:=fun a W s=>k a W s
theorem ah.Co {fn:Func} {R:Ending→World→Prop} (k:ah c (bodyPost c.P fn R) .ret E L):ah c (bodyPostM Fence.wide 9 c.P fn R) .ret E L:=fun a W s=>PH (k a W s)
theorem ah.Cp {fn:Func} {R:Ending→World→Prop} {D:Nat} (i:Nat) (an:L[i]? =some ⟨some D,.dk⟩) (hv:c.ds= [D]) (k:ah { c with ds:= [] } (bodyPost c.P fn R) .ret E (L.set i ⟨some D,.is (.deferred none)⟩)):
 ah c (bodyPostM Fence.wide 9 c.P fn R) .ret E L:=fun a W s=>by
 obtain⟨o,J,ad⟩:=s.own _ (List.mem_of_getElem? an)
 have kT:o= .deferred (some []):=ad
 subst kT
 have s2:=s.pS an (cp':= .is (.deferred none)) (o':= .deferred none) rfl
 have XJ:bs { c with ds:= [] } E (L.set i ⟨some D,.is (.deferred none)⟩) { a with defers:= [] } (W.putObj D (.deferred none)):=
  {defers:=rfl,size:=s2.size,env:=s2.env,dm:=s2.dm,own:=s2.own,nodup:=s2.nodup,lt:=s2.lt,fA:=s2.fA,eC:=s2.eC }
 obtain⟨_,v,ax,aR⟩:=k _ _ XJ
 show LeavesInM Fence.wide 9 c.P fn a.tmps R a.defers .returning W
 rw [s.defers,hv]
 exact⟨by simp,.inl ⟨D,_,rfl,run_takeDeferred J,v,ax,aR⟩⟩
end
theorem b9.SA {P:Program} {f:FuncId} {fn:Func} {code:Code} {n:Nat} {τs:List I} {ρ:I} (a0:P.funcs[f]? =some fn) (hb:fn.body=some code) (aL:fn.ntmps=n) (hlen:Nat.ble τs.length n=true)
 (h:∀ W A,ai ⟨P,n,W,[],A,none,[]⟩ (bodyPostM Fence.wide 9 P fn fun e W'=> ∃ v,e= .returned v∧Fr [] W W'∧ρ.holds A W' v) code (params 0 τs) []):b9 P f τs ρ:=by
 intro A W vs fk a3
 refine(callsIn_wide (n:=9)).1 (callsIn_of_wp_marks a0 hb trivial (h W A _ _ ?_))
 have ar:=a3.length
 have hle:τs.length≤n:=Nat.le_of_ble_eq_true hlen
 exact
 {defers:=rfl
  size:=by simp [aL,ar]; omega
  env:=fun t τ ka=>by
   obtain⟨_,v,ad,ax⟩:=s5 a3 0 t τ ka
   refine⟨v,?_,ax⟩
   have b5:t < vs.length:=(List.getElem?_eq_some_iff.1 ad).1
   rw [Array.getElem?_append_left (by simpa using b5)]
   simpa using ad
  dm:= .refl _ _
  own:=by simp
  nodup:=by simp [aJ]
  lt:=by simp [aJ]
  fA:=by simp [aJ]
  eC:=fun k au=>⟨fk k au,by simp [aJ]⟩ }
theorem b9.ofM {P:Program} {f:FuncId} {fn:Func} {code:Code} {n:Nat} {τs:List I} {ρ:I} (a0:P.funcs[f]? =some fn) (hb:fn.body=some code) (aL:fn.ntmps=n) (hlen:Nat.ble τs.length n=true)
 (h:∀ W A,ai ⟨P,n,W,[],A,none,[]⟩ (bodyPostM Fence.wide 9 P fn (uc ⟨P,n,W,[],A,none,[]⟩ ρ)) code (params 0 τs) []):b9 P f τs ρ:=b9.SA a0 hb aL hlen h
theorem bF.ofM {P:Program} {f:FuncId} {fn:Func} {code:Code} {n:Nat} {τs:List I} {Lin:List aF} {δ:Type} {ρ:δ→I} {Lo:δ→List aF} (a0:P.funcs[f]? =some fn) (hb:fn.body=some code) (aL:fn.ntmps=n) (hlen:Nat.ble τs.length n=true)
 (h:∀ W A,ai ⟨P,n,W,aJ Lin,A,none,[]⟩ (bodyPostM Fence.wide 9 P fn (jL (aJ Lin) A W ρ Lo)) code (params 0 τs) Lin):bF P f τs Lin ρ Lo:=by
 intro A W vs fk fB b5 gw a3
 refine(callsIn_wide (n:=9)).1 (callsIn_of_wp_marks a0 hb trivial (h W A _ _ ?_))
 have ar:=a3.length
 have hle:τs.length≤n:=Nat.le_of_ble_eq_true hlen
 exact
 {defers:=rfl
  size:=by simp [aL,ar]; omega
  env:=fun t τ ka=>by
   obtain⟨_,v,ad,ax⟩:=s5 a3 0 t τ ka
   refine⟨v,?_,ax⟩
   have b5:t < vs.length:=(List.getElem?_eq_some_iff.1 ad).1
   rw [Array.getElem?_append_left (by simpa using b5)]
   simpa using ad
  dm:= .refl _ _
  own:=gw
  nodup:=fB
  lt:=b5
  fA:=fun k au _=>au
  eC:=fk }
end Gv
namespace Gv
open Go
set_option linter.unusedVariables false
set_option linter.unusedSimpArgs false
theorem Eo {τ σ:I} (h:τ.Flat) (k:σ.Flat):(I.eA [τ,σ]).Flat:=fun A W cN W' v ⟨vs,J,ad⟩=>by
 refine⟨vs,J,?_⟩
 generalize vs.toList=l at ad
 cases ad with
 | cons a r=>cases r with
   | cons b r=>cases r; exact .cons (h _ _ _ _ _ a) (.cons (k _ _ _ _ _ b) .nil)
section
variable {c:cT} {E:List (Nat × I)} {L:List aF} {ops:Array Oper} {Q:Exit→Act→World→Prop}
variable {d:Option Tmp} {ty:TypeId} {pos:String} {af:Array Edge} {g:Option (Nat × Bool)} {x y:Operand} {t t2:TypeId}
theorem bO.via {o:Oper} {τ:I} {E':List (Nat × I)} {av:List aF} (a0:τ.Flat) (hs:∀ a W,bs c E L a W→bs c E' av a W) (h:bO c E' av o τ):bO c E L o τ:=fun a W st=>by
 have:=h a W (hs a W st)
 unfold fR at this ⊢
 exact Oper.wp_mono (fun fK W' ⟨v,J,ad,ax⟩=>⟨v,J,ad,a0 _ _ _ _ _ ax⟩) this
theorem bs.tell {a:Act} {W:World} (s:bs c E L a W) {eQ:Nat} {σ τ:I} (ar:look E eQ=some σ) (h:∀ v,σ.holds (aJ L ++ c.bM) W v→τ.holds (aJ L ++ c.bM) W v):bs c ((eQ,τ) :: E) L a W:=by
 refine { s with env:=fun t qX ew=> ?_ }
 simp only [look] at ew
 by_cases e:Nat.beq eQ t=true
 ·rw [e] at ew
  simp only [cond_true,Option.some.injEq] at ew
  subst ew
  have:=dX.1 e
  subst this
  obtain⟨v,J,ad⟩:=s.env eQ _ ar
  exact⟨v,J,h v ad⟩
 ·simp only [Bool.not_eq_true] at e
  rw [e] at ew
  exact s.env t qX ew
theorem bs.LR {a:Act} {W:World} (s:bs c E L a W) {i p:Nat} {α:Type} [ae α] {z:α} (an:L[i]? =some ⟨some p,.var z⟩):
 (I.ptr z).holds (aJ (L.set i ⟨none,.dead⟩) ++ c.bM) W (.pointer (some ⟨p,0,none⟩)):=by
 obtain⟨o,ed,cs,T,rfl,aQ⟩:=s.own _ (List.mem_of_getElem? an)
 have hlen:cs.toList.length=ae.size α:=ae.len aQ
 refine⟨p,0,cs,T,(0,0),rfl,s.x7 an,ed,by simp at hlen; omega,?_⟩
 rw [List.drop_zero,← hlen,List.take_length]
 have j5:=vl (L:=L) (i:=i) (cp:= .dead)
 exact ae.mono (.drop fun k hm=>by
  rcases List.mem_append.1 hm with hm | hm
  ·exact List.mem_append.2 (.inl (j5.subset hm))
  ·exact List.mem_append.2 (.inr hm)) aQ
abbrev z0 (f p:Nat):Value:= .func (.func f) #[.pointer (some ⟨p,0,none⟩)] #[]
theorem T8 {f p:Nat} (ak:a4 c E L x (.eq (.pointer (some ⟨p,0,none⟩)))):bO c E L ⟨d,.makeFunc (.func f) #[x] #[],ty,pos,af,g⟩ (.eq (z0 f p)):= .pure fun a W s=>by
 have h:=ak a W s
 refine⟨_,?_,rfl⟩
 have cV:a.eval x= .pointer (some ⟨p,0,none⟩):=h
 simp [execOp,Instr.makeFunc,cV,z0]
theorem RN {f p:Nat} {α β γ δ:Type} [ae α] [ae β] [ae γ] [ae δ] {z:δ} {F:α→β→Option γ} {P:Program} (ea:bR P f) (h:∀ x y r,F x y=some r→b9 P f [.ptr z,.of x,.of y] (.of r)) {A:List Nat} {W:World}
 (hp:(I.ptr z).holds A W (.pointer (some ⟨p,0,none⟩))):(I.CG P F).holds A W (z0 f p):=
 ⟨f,_,#[],rfl,ea,fun cN W' e fk x y r pk De nC a3 uG=>by simpa using h x y r nC cN W' [_,pk,De] fk (.cons (I.mono _ e hp) (.cons a3 (.cons uG .nil)))⟩
theorem bO.FL {o:Oper} {τ σ:I} {p:Nat} {α:Type} [ae α] {z:α} (i eQ:Nat) (ar:look E eQ=some σ) (a3:∀ A W v,σ.holds A W v→v= .pointer (some ⟨p,0,none⟩)) (an:L[i]? =some ⟨some p,.var z⟩) (a0:τ.Flat)
 (h:bO c ((eQ,.ptr z) :: E) (L.set i ⟨none,.dead⟩) o τ):bO c E L o τ:=
 .via a0 (fun a W s=>(s.kill i).tell (σ:=σ) ar (fun v b3=>by rw [a3 _ _ _ b3]; exact s.LR an)) h
theorem bO.Sp {o:Oper} {τ:I} {p f:Nat} {α β γ δ:Type} [ae α] [ae β] [ae γ] [ae δ] {z:δ} {F:α→β→Option γ} (i eQ:Nat) (ar:look E eQ=some (.eq (z0 f p))) (an:L[i]? =some ⟨some p,.var z⟩) (ea:bR c.P f)
 (nC:∀ x y r,F x y=some r→b9 c.P f [.ptr z,.of x,.of y] (.of r)) (a0:τ.Flat) (h:bO c ((eQ,.CG c.P F) :: E) (L.set i ⟨none,.dead⟩) o τ):bO c E L o τ:=
 .via a0 (fun a W s=>(s.kill i).tell ar (fun v b3=>by have WM:v=z0 f p:=b3; rw [WM]; exact RN ea nC (s.LR an))) h
theorem bO.T7 {o:Oper} {τ:I} {p cap T:Nat} {key:Option Nat} {β γ:Type} [ae β] [ae γ] {b b':β} {xs:List γ} {os os':List (Nat × Value)} (l:aO β (List γ)) (i j q:Nat) (e5:Nat.beq i j=false) (an:L[i]? =some ⟨some p,.bU b os⟩) (ke:L[j]? =some ⟨key,.row T xs cap⟩)
 (hq:os[q]? =some (l.off,a5 key xs.length cap)) (hb:l.set b xs=b') (jU:my os l.off=os') (a0:τ.Flat) (h:bO c E ((L.set j ⟨none,.dead⟩).set i ⟨some p,.bU b' os'⟩) o τ):bO c E L o τ:=
 .via a0 (fun a W s=>s.kM l (fun e=>by rw [e,Nat.beq_refl] at e5; cases e5) an ke q hq hb jU) h
theorem bO.So {o:Oper} {τ:I} {p cap T:Nat} {key:Option Nat} {β γ:Type} [ae β] [ae γ] {b b':β} {xs:List γ} {os os':List (Nat × Value)} (l:aO β (List γ)) (i j q eQ:Nat) (e5:Nat.beq i j=false) (an:L[i]? =some ⟨some p,.bU b os⟩) (ke:L[j]? =some ⟨key,.row T xs cap⟩)
 (hq:os[q]? =some (l.off,a5 key xs.length cap)) (hb:l.set b xs=b') (jU:my os l.off=os') (lj:look E eQ=some (.eq (a5 key xs.length cap))) (a0:τ.Flat) (h:bO c ((eQ,.of xs) :: E) ((L.set j ⟨none,.dead⟩).set i ⟨some p,.bU b' os'⟩) o τ):bO c E L o τ:=
 .via a0 (fun a W s=>s.r4 l (fun e=>by rw [e,Nat.beq_refl] at e5; cases e5) an ke q hq hb jU lj) h
theorem bO.LI {o:Oper} {τ:I} {p:Nat} {β:Type} [ae β] {b:β} (i:Nat) (an:L[i]? =some ⟨some p,.bU b []⟩) (a0:τ.Flat) (h:bO c E (L.set i ⟨some p,.var b⟩) o τ):bO c E L o τ:=
 .via a0 (fun a W s=>s.vQ (cp':= .var b) an (fun o ⟨cs,T,J,ad⟩=>⟨cs,T,J,ad.1⟩) id) h
theorem IV {P:Program} {T:TypeId} {e:TypeId} (h:P.underlying T=some (.pointer e)) (p:Addr) (W:World) (n:Nat):(Op.equalIn (n + 1) T (.pointer (some p)) (.pointer none)).run P W= .ok false W:=by
 simp [Op.equalIn,run_underlying h]
theorem Fc {p:Addr} {e:TypeId} (hu:c.P.underlying t=some (.pointer e)) (ak:a4 c E L x (.eq (.pointer (some p)))):bO c E L ⟨d,.binOp .eql t x (.const (.pointer none)) t2,ty,pos,af,g⟩ (.of false):= .pure fun a W s=>by
 have aL:a.eval (.const (.pointer none))= .pointer none:=rfl
 have J:a.eval x= .pointer (some p):=ak a W s
 refine⟨.bool false,?_,of_bool.2 rfl⟩
 simp only [execOp,eqGuard,binOp,J,aL,Op.equal,Op.maxDepth]
 simp [IV hu p W 9999]
theorem Ry {γ:Type} [ae γ] {r:γ} {e:TypeId} (hu:c.P.underlying t=some (.pointer e)) (ak:a4 c E L x (.ptr r)):bO c E L ⟨d,.binOp .eql t x (.const (.pointer none)) t2,ty,pos,af,g⟩ (.of false):= .pure fun a W s=>by
 have aL:a.eval (.const (.pointer none))= .pointer none:=rfl
 obtain⟨b,off,cur,T,ha,J,_⟩:=ak a W s
 refine⟨.bool false,?_,of_bool.2 rfl⟩
 simp only [execOp,eqGuard,binOp,J,aL,Op.equal,Op.maxDepth]
 simp [IV hu _ W 9999]
theorem ai.bt {code:Code} (i:Nat) {e:aF} (h:L[i]? =Option.some e) (k:ai c Q code E (e :: L.eraseIdx i)):ai c Q code E L:=fun a W s=>k a W (s.bt h)
theorem ai.CE {z:Code} {p:Nat} {β γ:Type} [ae β] [ae γ] {b b':β} {os:List (Nat × Value)} {u:Value} (l:aO β (List γ)) (i q:Nat) (an:L[i]? =Option.some ⟨Option.some p,.bU b os⟩) (hq:os[q]? =Option.some (l.off,u)) (hb:l.set b []=b')
 (k:ai c Q z E (L.set i ⟨Option.some p,.bU b' os⟩)):ai c Q z E L:=fun a W s=>
 k a W (s.again (cp':= .bU b' os) an (fun A W o ⟨cs,T,J,ad⟩=>⟨cs,T,J,hb ▸ EH l ad (List.mem_of_getElem? hq)⟩) id)
def eP (c:cT) (E:List (Nat × I)) (L:List aF) (o:Oper) (τ:I):Prop:=
 ∀ a W,bs c E L a W→fR c.P o a W fun v W'=>bs c E L a W'∧τ.holds (aJ L ++ c.bM) W' v
theorem ag.gW {o:Oper} {rest:List Oper} {d:Nat} {τ:I} (h:eP c E L o τ) (bx:o.guard=none) (hd:o.dst=some d) (aL:Nat.blt d c.n=true)
 (k:ag c ops Q rest ((d,τ) :: E) L):ag c ops Q (o :: rest) E L:=fun a W s=>
 hA bx (h a W s) fun v W' ⟨f,a3⟩=>by
  rw [hd]
  exact k _ _ (f.put (by simpa using aL) a3)
theorem ag.Ny {o:Oper} {rest:List Oper} {d j g:Nat} {b want:Bool} {τ:I} (h:b=want→eP c E L o τ) (bx:o.guard=some (j,want)) (aC:(ops[j]?).bind (·.dst)=some g)
 (ar:look E g=some (.of b)) (hd:o.dst=some d) (aL:Nat.blt d c.n=true)
 (k:ag c ops Q rest ((d,.cond (b=want) τ) :: E) L):ag c ops Q (o :: rest) E L:=fun a W s=>by
 have a7:=Eg aC ar s
 unfold cT.pV wpListIn
 by_cases hb:b=want
 ·rw [if_pos (by simp [Region.wanted,bx,a7,hb])]
  refine((h hb a W s).wpIn fun v W' ⟨f,a3⟩=> ?_)
  rw [hd]
  exact k _ _ (f.put (by simpa using aL) ⟨fun _=>a3,fun h=>absurd hb h⟩)
 ·rw [if_neg (by simp [Region.wanted,bx,a7,hb])]
  rw [hd]
  exact⟨fun _ _=>trivial,k _ _ (s.put (by simpa using aL) ⟨fun h=>absurd h hb,fun _=>rfl⟩)⟩
theorem ag.Wl {o:Oper} {rest:List Oper} {d j g:Nat} {p:Prop} {b want:Bool} {τ:I} (h:p∧b=want→eP c E L o τ) (bx:o.guard=some (j,want)) (aC:(ops[j]?).bind (·.dst)=some g)
 (ar:look E g=some (.cond p (.of b))) (hd:o.dst=some d) (aL:Nat.blt d c.n=true)
 (k:ag c ops Q rest ((d,.cond (p∧b=want) τ) :: E) L):ag c ops Q (o :: rest) E L:=fun a W s=>by
 have a7:=D4 aC ar s
 unfold cT.pV wpListIn
 by_cases hb:p∧b=want
 ·rw [if_pos (by simp [Region.wanted,bx,a7.1 hb.1,hb.2])]
  refine((h hb a W s).wpIn fun v W' ⟨f,a3⟩=> ?_)
  rw [hd]
  exact k _ _ (f.put (by simpa using aL) ⟨fun _=>a3,fun h=>absurd hb h⟩)
 ·have hw:Region.wanted o (yielded ops a.tmps)=false:=by
   by_cases hp:p
   ·have: ¬ (b=want):=fun h=>hb ⟨hp,h⟩
    simp [Region.wanted,bx,a7.1 hp,this]
   ·simp [Region.wanted,bx,a7.2 hp]
  rw [if_neg (by simp [hw])]
  refine⟨fun _ _=>trivial,?_⟩
  rw [hd]
  exact k _ _ (s.put (by simpa using aL) ⟨fun h=>absurd h hb,fun _=>rfl⟩)
def n6 (L:List aF):List Nat→List aF→Prop
 | [],[]=>True
 | i :: is,e :: es=>L[i]? =some e∧n6 L is es
 | _,_=>False
theorem IE {L:List aF} {i j:Nat} (h:i≠j):(L.eraseIdx i)[if j < i then j else j - 1]? =L[j]? :=by
 rw [List.getElem?_eraseIdx]
 by_cases J:j < i
 ·simp [J]
 ·have: ¬ (j - 1 < i):=by omega
  simp only [J,if_false,this]
  congr 1; omega
theorem n6.shift {L:List aF} {i:Nat} :∀ {is:List Nat} {es:List aF},n6 L is es→i ∉ is→n6 (L.eraseIdx i) (is.map fun j=>if j < i then j else j - 1) es
 | [],[],_,_=>trivial
 | j :: is,e :: es,⟨J,ad⟩,aL=>by
   simp only [List.mem_cons,not_or] at aL
   exact⟨by rw [IE aL.1]; exact J,n6.shift ad aL.2⟩
theorem IJ {i:Nat} :∀ {is:List Nat},is.Nodup→i ∉ is→ (is.map fun j=>if j < i then j else j - 1).Nodup
 | [],_,_=>by simp
 | j :: is,h,aL=>by
   simp only [List.mem_cons,not_or] at aL
   obtain⟨J,ad⟩:=List.nodup_cons.1 h
   refine List.nodup_cons.2 ⟨fun hm=> ?_,IJ ad aL.2⟩
   obtain⟨k,au,he⟩:=List.mem_map.1 hm
   have od:k≠i:=fun e=>aL.2 (e ▸ au)
   have Yi:k≠j:=fun e=>J (e ▸ au)
   have hx:j≠i:=fun e=>aL.1 e.symm
   have CN:(if k < i then k else k - 1)=(if j < i then j else j - 1):=he
   split at CN <;> split at CN <;> omega
theorem n6.perm:∀ {is:List Nat} {es L:List aF},n6 L is es→is.Nodup→ ∃ R,L.Perm (es ++ R)
 | [],[],L,_,_=>⟨L,List.Perm.refl _⟩
 | i :: is,e :: es,L,⟨J,ad⟩,aL=>by
   obtain⟨iO,ln⟩:=List.nodup_cons.1 aL
   obtain⟨R,iE⟩:=(ad.shift iO).perm (IJ ln iO)
   exact⟨R,(rH J).trans (iE.cons e)⟩
 termination_by is=>is.length
 decreasing_by simp
theorem eP.call {f:FuncId} {xs:List Operand} {ats:Array TypeId} {τs:List I} {Lin:List aF} {ρ:Unit→I} {Lo:Unit→List aF} (is:List Nat) (ea:bR c.P f) (h:bF c.P f τs Lin ρ Lo)
 (ak:gV c E L xs τs) (aL:decide is.Nodup=true) (hp:n6 L is Lin) (ar:Lo ()=Lin):eP c E L ⟨d,.call ⟨.value (.func f),xs.toArray,ats⟩,ty,pos,af,g⟩ (ρ ()):=fun a W s=>by
 obtain⟨R,iE⟩:=hp.perm (of_decide_eq_true aL)
 have bW:=s.perm iE
 have uH:=tm iE
 have CX:∀ k,k∈aJ L ++ c.bM↔k∈aJ (Lin ++ R) ++ c.bM:=fun k=>by
  simp only [List.mem_append]; rw [uH.mem_iff]
 have b3:fM (aJ (Lin ++ R) ++ c.bM) W τs (xs.map a.eval):=(ak.KH s).mono (.drop fun k hm=>(CX k).2 hm)
 have a6:=xW (d:=d) (ty:=ty) (pos:=pos) (af:=af) (g:=g) (ats:=ats) ea h bW b3
 unfold fR at a6 ⊢
 refine Oper.wp_mono (fun fK W' ⟨v,J,a9,ad,ax⟩=>⟨v,J,?_,?_⟩) a6
 ·cases a9; rw [ar] at ad; exact ad.perm iE.symm
 ·cases a9
  rw [ar] at ax
  exact I.mono _ (.drop fun k hm=>(CX k).1 hm) ax
theorem n6.set {L:List aF} {i j:Nat} {x y aE bd:aF} (e5:i≠j) (aq:L[i]? =some aE) (aC:L[j]? =some bd):∃ R,L.Perm (aE :: bd :: R)∧ ((L.set i x).set j y).Perm (x :: y :: R):=by
 have GH:n6 L [i,j] [aE,bd]:=⟨aq,aC,trivial⟩
 have hle:∀ M:List aF,∀ u v:aF,M[i]? =some u→M[j]? =some v→M.Perm (u :: v :: (M.eraseIdx i).eraseIdx (if j < i then j else j - 1)):=fun M u v J ad=>
  (rH J).trans ((rH (by rw [IE e5]; exact ad)).cons u)
 refine⟨_,hle L aE bd aq aC,?_⟩
 have fY:=(List.getElem?_eq_some_iff.1 aq).1
 have z1:=(List.getElem?_eq_some_iff.1 aC).1
 have J:=hle ((L.set i x).set j y) x y (by rw [List.getElem?_set_ne (Ne.symm e5),List.getElem?_set_self fY]) (by rw [List.getElem?_set_self (by simpa using z1)])
 have ad:((L.set i x).set j y).eraseIdx i=(L.eraseIdx i).set (if j < i then j else j - 1) y:=by
  apply List.ext_getElem?
  intro k
  simp only [List.getElem?_eraseIdx,List.getElem?_set,List.length_set,List.length_eraseIdx,fY,if_true]
  by_cases au:k < i <;> by_cases hx:j < i <;> simp only [au,hx,if_true,if_false] <;> (repeat' split) <;> first | rfl | omega | skip
 rw [ad,List.eraseIdx_set_eq] at J
 exact J
theorem ag.Sq {rest:List Oper} {a9:Nat} {f:FuncId} {xs:List Operand} {ats:Array TypeId} {τs:List I} {aE bd:aF} {δ:Type} {ρ:δ→I} {Lo:δ→List aF} (lo:δ→aF) (i j:Nat) (ea:bR c.P f) (h:bF c.P f τs [aE,bd] ρ Lo)
 (ak:gV c E L xs τs) (e5:Nat.beq i j=false) (aq:L[i]? =some aE) (aC:L[j]? =some bd) (fC:∀ q,Lo q= [lo q]) (aL:Nat.blt a9 c.n=true) (k:∀ q,ag c ops Q rest ((a9,ρ q) :: E) ((L.set i (lo q)).set j ⟨none,.dead⟩)):
 ag c ops Q (⟨some a9,.call ⟨.value (.func f),xs.toArray,ats⟩,ty,pos,af,none⟩ :: rest) E L:=fun a W s=>by
 have cQ:i≠j:=fun e=>by rw [e,Nat.beq_refl] at e5; cases e5
 obtain⟨R,iE,_⟩:=n6.set (x:=aE) (y:=bd) cQ aq aC
 have bW:=s.perm iE
 have uH:=tm iE
 have CX:∀ k,k∈aJ L ++ c.bM↔k∈aJ ([aE,bd] ++ R) ++ c.bM:=fun k=>by
  simp only [List.mem_append]; rw [uH.mem_iff]; simp [eF]
 have b3:fM (aJ ([aE,bd] ++ R) ++ c.bM) W τs (xs.map a.eval):=(ak.KH s).mono (.drop fun k hm=>(CX k).2 hm)
 refine hA rfl (xW (Lin:= [aE,bd]) ea h bW b3) fun v W' ⟨q,ad,ax⟩=> ?_
 refine k q _ _ ?_
 obtain⟨Dk,WN,Nb⟩:=n6.set (x:=lo q) (y:=⟨none,.dead⟩) cQ aq aC
 have WO:(aE :: bd :: R).Perm (aE :: bd :: Dk):=iE.symm.trans WN
 have MD:R.Perm Dk:=(WO.cons_inv).cons_inv
 rw [fC] at ad ax
 have aR:bs c E (lo q :: ⟨none,.dead⟩ :: R) a W':= { ad with
  own:=fun e he=>by
   simp only [List.mem_cons] at he
   rcases he with rfl | rfl | he
   ·exact ad.own _ (by simp)
   ·trivial
   ·exact ad.own _ (by simp [he]) }
 have aW:bs c E ((L.set i (lo q)).set j ⟨none,.dead⟩) a W':=aR.perm (((MD.cons _).cons _).trans Nb.symm)
 have bc:(aJ ((L.set i (lo q)).set j ⟨none,.dead⟩)).Perm (aJ (lo q :: R)):=by
  have:=tm (Nb.trans ((MD.symm.cons _).cons _))
  simpa [aJ] using this
 refine aW.put (by simpa using aL) (I.mono _ (.drop fun k hm=> ?_) ax)
 rcases List.mem_append.1 hm with hm | hm
 ·exact List.mem_append.2 (.inl (bc.mem_iff.1 hm))
 ·exact List.mem_append.2 (.inr hm)
theorem GA {L:List aF} {i:Nat} {x e:aF} (h:L[i]? =some x):(L.set i e)[i]? =some e:=by
 rw [List.getElem?_set_self (List.getElem?_eq_some_iff.1 h).1]
theorem MS {L:List aF} {i j:Nat} {r:Option aF} {e:aF} (aL:Nat.beq j i=false) (h:L[i]? =r):(L.set j e)[i]? =r:=by
 rw [List.getElem?_set_ne (fun e=>by rw [e,Nat.beq_refl] at aL; cases aL)]; exact h
theorem Rc {p lo cap:Nat} {α:Type} [ae α] (a7:a4 c E L y (.eq (g2 (some p) lo 0 cap (ae.size α)))):Src c E L y 0 ([]:List α):=fun a W s=>by
 have J:a.eval y=_:=a7 a W s
 have aj:=run_loadCells_list (P:=c.P) W (if cap=lo then(⟨p,0,none⟩:Addr) else⟨p,lo * ae.size α,none⟩) [] (fun j v a3=>by simp at a3)
 refine⟨by rw [J]; rfl,[],?_,⟨by simp,fun i aq=>by simp at aq⟩,by simp⟩
 rw [J]
 simp only [g2,Builtin.firstCells,List.length_nil,Nat.zero_mul]
 exact aj
theorem ag.LS {rest:List Oper} {i e p a9 m N cap T:Nat} {α:Type} [ae α] {xs vs r:List α} (hu:c.P.underlying t=some (.slice e)) (eg:bq c.P e α)
 (ak:a4 c E L x (.eq (a5 (some p) m cap))) (a7:Src c E L y N vs) (jr:vs.length=N) (an:L[i]? =some ⟨some p,.row T xs cap⟩) (hm:m + N≤xs.length) (aQ:xs.take m ++ vs ++ xs.drop (m + N)=r) (aL:Nat.blt a9 c.n=true)
 (k:ag c ops Q rest ((a9,.eq (a5 (some p) (m + N) cap)) :: E) (L.set i ⟨some p,.row T r cap⟩)):
 ag c ops Q (⟨some a9,.call ⟨.builtin .append,#[x,y],#[t,t]⟩,ty,pos,af,none⟩ :: rest) E L:=fun a W s=>by
 subst jr
 subst aQ
 have J:a.eval x=_:=ak a W s
 obtain⟨ar,cells,aj,nw,wI⟩:=a7 a W s
 obtain⟨o,a6,b3⟩:=s.own _ (List.mem_of_getElem? an)
 have WQ:=b3
 obtain⟨p0,rfl,ay,bf,bJ,dz⟩:=b3
 obtain⟨cs,eW,Cx,n4⟩:=EB (lo:=m) hm WQ nw
 have su:cs=p0:=by injection eW with h _; exact h.symm
 subst su
 obtain⟨fy,dP,dL⟩:=eg.info
 have eY:=run_storeCells_at (P:=c.P) p (m * ae.size α) T cells 0 cs W a6 Cx wI
 simp only [Nat.add_zero] at eY
 have Up:m + vs.length≤cap:=by omega
 have jg:(execOp a.eval ⟨some a9,.call ⟨.builtin .append,#[x,y],#[t,t]⟩,ty,pos,af,none⟩).run c.P W= .ok (.value (a5 (some p) (m + vs.length) cap)) (W.setRow p (cs.toList.take (m * ae.size α) ++ cells ++ cs.toList.drop (m * ae.size α + cells.length)).toArray):=by
  simp [execOp,resolve,invoke,builtin,Builtin.append_,J,a5,run_underlying hu,ar,Go.sizeOf,typeInfo,dP,dL,Up,aj,ig,eY]
 refine hA rfl (R:=fun v gD=>v=a5 (some p) (m + vs.length) cap∧gD=W.setRow p (cs.toList.take (m * ae.size α) ++ cells ++ cs.toList.drop (m * ae.size α + cells.length)).toArray) (.k2 jg ⟨rfl,rfl⟩) fun v gD ⟨a3,hw⟩=> ?_
 subst a3
 subst hw
 exact k _ _ ((s.store an a6 n4).put (by simpa using aL) rfl)
theorem QX {i T cap:Nat} {key:Option Nat} {α:Type} [ae α] {xs:List α} {e:TypeId} {lo aq HN:Operand} {m n k:Nat} (hu:c.P.underlying t=some (.slice e)) (eg:bq c.P e α) (ak:a4 c E L x (.eq (a5 key xs.length cap)))
 (an:L[i]? =some ⟨key,.row T xs cap⟩) (fC:a4 c E L lo (.of (m:Int))) (c6:a4 c E L aq (.of (n:Int))) (WR:a4 c E L HN (.of (k:Int))) (h:m≤n∧n≤k∧k≤xs.length):
 bO c E L ⟨d,.slice t x (some lo) (some aq) (some HN),ty,pos,af,g⟩ .any:= .pure fun a W s=>by
 obtain⟨ad,ax,aR⟩:=h
 obtain⟨fy,dP,dL⟩:=eg.info
 have J:a.eval x=_:=ak a W s
 have aE:=of_int.1 (fC a W s)
 have bd:=of_int.1 (c6 a W s)
 have ej:=of_int.1 (WR a W s)
 have sa:∃ XK rq,a5 key xs.length cap= .slice XK rq cap∨ (a5 key xs.length cap= .slice none 0 0∧k=0):=by
  cases key with
  | some p=>exact⟨_,_,.inl rfl⟩
  | none=>
    have a6:=s.own _ (List.mem_of_getElem? an)
    have gR:xs= []:=a6.1
    subst gR
    exact⟨none,0,.inr ⟨rfl,by simpa using aR⟩⟩
 have WS:xs.length≤cap∨key=none:=by
  cases key with
  | none=>exact .inr rfl
  | some p=>
    obtain⟨o,a6,cs,rfl,ay,bf,_⟩:=s.own _ (List.mem_of_getElem? an)
    exact .inl bf
 cases key with
 | none=>
   have a6:=s.own _ (List.mem_of_getElem? an)
   have gR:xs= []:=a6.1
   subst gR
   have WT:k=0:=by simpa using aR
   subst WT
   have pX:n=0:=by omega
   subst pX
   have gk:m=0:=by omega
   subst gk
   have hb:∀ (code:BoundsCode),(Instr.sliceBound (.int .i64 0) 0 code).run c.P W= .ok 0 W:=fun code=>nL (n:=0) (m:=0) (Nat.le_refl _) rfl
   have WU:a.eval lo= .int .i64 0:=aE
   have WV:a.eval aq= .int .i64 0:=bd
   have WW:a.eval HN= .int .i64 0:=ej
   refine⟨.slice none 0 0,?_,trivial⟩
   simp [execOp,Instr.sliceAt,Instr.slice,Instr.sliceBounds,J,a5,run_underlying hu,Go.sizeOf,typeInfo,dP,WU,WV,WW,hb]
 | some p=>
   have VT:k≤cap:=by
    rcases WS with h | h
    ·omega
    ·cases h
   refine⟨.slice (some (if k=m then⟨p,0,none⟩ else⟨p,m * ae.size α,none⟩)) (n - m) (k - m),?_,trivial⟩
   have hb:∀ (a b:Nat) (code:BoundsCode),a≤b→ (Instr.sliceBound (.int .i64 (a:Int)) b code).run c.P W= .ok a W:=fun a b code h=>nL h rfl
   simp [execOp,Instr.sliceAt,Instr.slice,Instr.sliceBounds,J,a5,run_underlying hu,Go.sizeOf,typeInfo,dP,dL,aE,bd,ej,hb k cap _ VT,hb n k _ ax,hb m n _ ad,ig]
   split <;> rfl
theorem Se {p n cap e:Nat} (hu:c.P.underlying t=some (.slice e)) (ak:a4 c E L x (.eq (a5 (some p) n cap))):bO c E L ⟨d,.call ⟨.builtin .len,#[x],#[t]⟩,ty,pos,af,g⟩ (.of (n:Int)):= .pure fun a W s=>by
 have J:a.eval x=_:=ak a W s
 refine⟨.int .i64 n,?_,of_int.2 rfl⟩
 simp [execOp,resolve,invoke,builtin,Builtin.len_,J,a5,run_underlying hu,goInt]
theorem ag.Sd {rest:List Oper} {i e p a9 m n cap T:Nat} {α:Type} [ae α] {xs:List α} (hu:c.P.underlying t=some (.slice e)) (eg:bq c.P e α)
 (ak:a4 c E L x (.eq (g2 (some p) 0 (m - 0) cap (ae.size α)))) (a7:a4 c E L y (.eq (g2 (some p) n (xs.length - n) cap (ae.size α)))) (an:L[i]? =some ⟨some p,.row T xs cap⟩) (qS:m < n) (aL:n≤xs.length) (hd:Nat.blt a9 c.n=true)
 (k:ag c ops Q rest ((a9,.eq (a5 (some p) (m + (xs.length - n)) cap)) :: E) (L.set i ⟨some p,.row T (xs.take m ++ xs.drop n ++ xs.drop (m + (xs.length - n))) cap⟩)):
 ag c ops Q (⟨some a9,.call ⟨.builtin .append,#[x,y],#[t,t]⟩,ty,pos,af,none⟩ :: rest) E L:=by
 have nz:a4 c E L x (.eq (a5 (some p) m cap)):=by
  rw [xX,Nat.sub_zero] at ak; exact ak
 rcases Nat.lt_or_ge n xs.length with pZ | pZ
 ·have hs:=BA (k:=xs.length - n) a7 an (by omega) (by omega)
  rw [show(xs.drop n).take (xs.length - n)=xs.drop n by rw [List.take_of_length_le (by simp)]] at hs
  exact ag.LS hu eg nz hs (by simp) an (by omega) rfl hd k
 ·have bB:xs.length - n=0:=by omega
  rw [bB] at a7 k
  have hs:=Rc (α:=α) a7
  rw [show([]:List α)=xs.drop n by rw [List.drop_of_length_le pZ]] at hs
  exact ag.LS hu eg nz hs (by simp; omega) an (by omega) rfl hd k
theorem ah.again {z:Exit} {key:Option Nat} {cp:dA} (cp':dA) (i:Nat) (an:L[i]? =some ⟨key,cp⟩) (h:∀ A W o,cp.holds A W o→cp'.holds A W o) (aL:cp.mF→cp'.mF) (k:ah c Q z E (L.set i ⟨key,cp'⟩)):ah c Q z E L:=fun a W s=>
 k a W (s.again an h aL)
end
def zc {α:Type} (xs:List α) (i j:Int):Option (List α):=if 0≤i∧i≤j∧j≤xs.length then some (xs.take i.toNat ++ xs.drop j.toNat) else none
theorem Ql {α:Type} {xs r:List α} {i j:Int} (h:zc xs i j=some r):∃ m n:Nat,i=m∧j=n∧m≤n∧n≤xs.length∧r=xs.take m ++ xs.drop n:=by
 unfold zc at h
 split at h
 ·rename_i aj
  refine⟨i.toNat,j.toNat,by omega,by omega,by omega,by omega,?_⟩
  cases h; rfl
 ·cases h
end Gv
namespace Gv
open Go
set_option linter.unusedVariables false
set_option linter.unusedSimpArgs false
abbrev ao (α:Type):=(α→Prop)→Prop
def ao.of {α:Type} (o:Option α):ao α:=fun Q=> ∃ r,o=some r∧Q r
def ao.bind {α β:Type} (m:ao α) (k:α→ao β):ao β:=fun Q=>m fun r=>k r Q
def ao.ret {α:Type} (x:α):ao α:=fun Q=>Q x
def nh {σ ε:Type} :Nat→ (σ→ao (σ ⊕ ε))→σ→ao ε
 | 0,_,_=>fun _=>False
 | n + 1,b,s=>fun Q=>b s fun r=>match r with
   | .inl bW=>nh n b bW Q
   | .inr e=>Q e
abbrev aI (bN:Type):=List (Nat × bN)
abbrev Ref:=Option Nat
instance XW:ae Ref:= .scalar (fun x=>Value.pointer (x.map fun p=>⟨p,0,none⟩)) fun _=>rfl
theorem rW {A W v} {x:Ref} :(I.of x).holds A W v↔v= .pointer (x.map fun p=>⟨p,0,none⟩):=
 ⟨fun h=>m6 h.1 h.2,fun h=>by subst h; exact⟨rfl,rfl⟩⟩
instance:a2 Ref:=⟨[.pointer none],fun _ _=>rfl⟩
def ao.mk {bN:Type} (hp:aI bN) (k:bN):ao (Nat × aI bN):=fun Q=> ∀ a:Nat × aI bN,a.1 ∉ hp.map (·.1)∧a.2=(a.1,k) :: hp→Q a
theorem ao.pA {bN α:Type} {hp:aI bN} {c:bN} {k:Nat × aI bN→ao α} {R:α→Prop} (h:ao.bind (ao.mk hp c) k R) (a:Nat × aI bN) (bg:a.1 ∉ hp.map (·.1)∧a.2=(a.1,c) :: hp):k a R:=h a bg
class eI (bN:Type) where
 g5:Nat→bN→List aF
 root:∀ p k,∃ e∈g5 p k,e.key=some p
def aY {bN:Type} [eI bN]:aI bN→List aF
 | []=> []
 | (p,k) :: r=>eI.g5 p k ++ aY r
def pat {bN:Type} :aI bN→Nat→Option bN
 | [],_=>none
 | (q,k) :: r,p=>if q=p then some k else pat r p
def cx {bN:Type} :aI bN→Nat→bN→aI bN
 | [],_,_=> []
 | (q,k) :: r,p,k'=>if q=p then(q,k') :: r else(q,k) :: cx r p k'
def dQ {bN:Type} (hp:aI bN):List Nat:=hp.map (·.1)
theorem s9 {bN:Type} [eI bN]:∀ {hp:aI bN} {p:Nat} {k:bN},pat hp p=some k→ ∃ R,(aY hp).Perm (eI.g5 p k ++ R)∧ ∀ k',(aY (cx hp p k')).Perm (eI.g5 p k' ++ R)
 | [],_,_,h=>by simp [pat] at h
 | (q,HO) :: r,p,k,h=>by
   simp only [pat] at h
   split at h
   ·rename_i e
    subst e
    simp only [Option.some.injEq] at h
    subst h
    exact⟨aY r,.refl _,fun k'=>by simp only [cx,if_pos]; exact .refl _⟩
   ·rename_i e
    obtain⟨R,J,ad⟩:=s9 h
    refine⟨eI.g5 q HO ++ R,?_,fun k'=> ?_⟩
    ·exact(J.append_left (eI.g5 q HO)).trans (by rw [← List.append_assoc,← List.append_assoc]; exact List.perm_append_comm.append_right R)
    ·simp only [cx,if_neg e]
     exact((ad k').append_left (eI.g5 q HO)).trans (by rw [← List.append_assoc,← List.append_assoc]; exact List.perm_append_comm.append_right R)
theorem KK {bN:Type} [eI bN] {hp:aI bN} {p:Nat} (h:p∈dQ hp):p∈aJ (aY hp):=by
 induction hp with
 | nil=>simp [dQ] at h
 | cons x r bz=>
   obtain⟨q,k⟩:=x
   simp only [dQ,List.map_cons,List.mem_cons] at h
   simp only [aY,eF,List.mem_append]
   rcases h with h | h
   ·subst h
    obtain⟨e,he,au⟩:=eI.root p k
    exact .inl (km.2 ⟨e,he,au⟩)
   ·exact .inr (bz h)
theorem hU {bN:Type} {hp:aI bN} {p:Nat} {k:bN} (h:pat hp p=some k):p∈dQ hp:=by
 induction hp with
 | nil=>simp [pat] at h
 | cons x r bz=>
   simp only [pat] at h
   split at h
   ·rename_i e; simp [dQ,e]
   ·simp only [dQ,List.map_cons,List.mem_cons]; exact .inr (bz h)
theorem pB {bN:Type} {hp:aI bN} {p:Nat} {k:bN} :dQ (cx hp p k)=dQ hp:=by
 induction hp with
 | nil=>rfl
 | cons x r bz=>simp only [cx]; split <;> simp_all [dQ]
theorem yl {bN:Type} {hp:aI bN} {p q:Nat} {k:bN} :pat (cx hp p k) q=if p=q then(pat hp p).map (fun _=>k) else pat hp q:=by
 induction hp with
 | nil=>simp [cx,pat]
 | cons x r bz=>
   simp only [cx]
   by_cases e:x.1=p
   ·rw [if_pos e]
    by_cases h:p=q
    ·simp [pat,e,h]
    ·have: ¬ x.1=q:=fun cV=>h (e ▸ cV)
     simp [pat,e,h]
   ·rw [if_neg e]
    by_cases h:p=q
    ·subst h
     rw [if_pos rfl] at bz ⊢
     simp [pat,e,bz]
    ·rw [if_neg h] at bz ⊢
     simp [pat,bz]
section
variable {c:cT} {E:List (Nat × I)} {L:List aF} {ops:Array Oper} {Q:Exit→Act→World→Prop}
variable {d:Option Tmp} {ty:TypeId} {pos:String} {af:Array Edge} {g:Option (Nat × Bool)} {x y:Operand} {t t2:TypeId}
theorem Rd {L av:List aF} (p:L.Perm av) {A:List Nat} (k:Nat):k∈aJ L ++ A↔k∈aJ av ++ A:=by
 simp only [List.mem_append]; rw [(tm p).mem_iff]
theorem lU {L av:List aF} (p:L.Perm av) {A:List Nat} {W:World} :Ext (aJ L ++ A) W (aJ av ++ A) W:= .drop fun k hm=>(Rd p k).2 hm
theorem a4.perm {av:List aF} {x:Operand} {τ:I} (p:L.Perm av) (h:a4 c E L x τ):a4 c E av x τ:=fun a W s=>
 τ.mono (lU p) (h a W (s.perm p.symm))
theorem bO.perm {av:List aF} {o:Oper} {τ:I} (p:L.Perm av) (h:bO c E L o τ):bO c E av o τ:=fun a W s=>by
 have:=h a W (s.perm p.symm)
 unfold fR at this ⊢
 exact Oper.wp_mono (fun fK W' ⟨v,J,ad,ax⟩=>⟨v,J,ad,τ.mono (lU p) ax⟩) this
theorem ag.perm {l:List Oper} {av:List aF} (p:L.Perm av) (h:ag c ops Q l E L):ag c ops Q l E av:=fun a W s=>h a W (s.perm p.symm)
theorem dO {x:Operand} {r:Ref} {p:Nat} (ak:a4 c E L x (.of r)) (h:r=some p):a4 c E L x (.eq (.pointer (some ⟨p,0,none⟩))):=fun a W s=>by
 subst h
 exact rW.1 (ak a W s)
theorem nK:a4 c E L (.const (.pointer none)) (.of (none:Ref)):=fun a W s=>rW.2 rfl
variable {bN:Type} [eI bN] {hp:aI bN} {loc:List aF}
theorem ei {p n:Nat} {k:bN} {e:aF} (an:L.drop n=aY hp) (h:pat hp p=some k) (au:eI.g5 p k= [e]):e∈L:=by
 obtain⟨R,J,_⟩:=s9 h
 rw [au] at J
 have:e∈L.drop n:=by rw [an]; exact J.mem_iff.2 (by simp)
 exact List.mem_of_mem_drop this
theorem jx {av:List aF} {e:aF} (an:∀ (i:Nat) (e:aF),L[i]? =some e→av[i]? =some e) (h:e∈L):e∈av:=by
 obtain⟨i,aq⟩:=List.mem_iff_getElem?.1 h
 exact List.mem_of_getElem? (an i e aq)
theorem e7 {x:Operand} {t:TypeId} {p o:Nat} {β γ:Type} [ae β] [ae γ] {b:β} (l:aO β γ) {r:γ} (ef:bq c.P t γ) (ak:a4 c E L x (.eq (.pointer (some ⟨p,o,none⟩))))
 (hm:(⟨some p,.var b⟩:aF)∈L) (a6:o=l.off) (aQ:l.get b=r):bO c E L ⟨d,.load t x,ty,pos,af,g⟩ (.of r):=by
 obtain⟨i,aq⟩:=List.mem_iff_getElem?.1 hm
 exact fE (i:=i) l ef ak aq a6 aQ
theorem ag.RO {x y:Operand} {t:TypeId} {rest:List Oper} {p o:Nat} {k k':bN} {β γ:Type} [ae β] [ae γ] {b b':β} {v:γ} (l:aO β γ) (ef:bq c.P t γ) (ak:a4 c E (loc ++ aY hp) x (.eq (.pointer (some ⟨p,o,none⟩))))
 (a7:a4 c E (loc ++ aY hp) y (.of v)) (hp':pat hp p=some k) (au:eI.g5 p k= [⟨some p,.var b⟩]) (iy:eI.g5 p k'= [⟨some p,.var b'⟩]) (a6:o=l.off) (hb:l.set b v=b')
 (nD:ag c ops Q rest E (loc ++ aY (cx hp p k'))):ag c ops Q (⟨none,.store t x y,ty,pos,af,none⟩ :: rest) E (loc ++ aY hp):=by
 obtain⟨R,J,ad⟩:=s9 hp'
 have ad:=ad k'
 rw [au] at J
 rw [iy] at ad
 have cX:∀ {z:β} {M:List aF},M.Perm ([⟨some p,.var z⟩] ++ R)→ (loc ++ M).Perm (⟨some p,.var z⟩ :: (loc ++ R)):=fun h=>(h.append_left loc).trans (by simp only [List.singleton_append]; exact List.perm_middle)
 exact ag.perm (cX J).symm (ag.store (i:=0) l ef (ak.perm (cX J)) (a7.perm (cX J)) rfl a6 hb (ag.perm (cX ad) nD))
theorem ag.lY {x y:Operand} {t:TypeId} {rest:List Oper} {p o:Nat} {k k':bN} {cq:aI bN} {β γ:Type} [ae β] [ae γ] {b b':β} {v:γ} (n:Nat) (an:L.drop n=aY hp) (l:aO β γ) (ef:bq c.P t γ) (ak:a4 c E L x (.eq (.pointer (some ⟨p,o,none⟩)))) (a7:a4 c E L y (.of v)) (hp':pat hp p=some k) (au:eI.g5 p k= [⟨some p,.var b⟩]) (iy:eI.g5 p k'= [⟨some p,.var b'⟩]) (a6:o=l.off) (hb:l.set b v=b') (dg:cx hp p k'=cq) (nD:ag c ops Q rest E (L.take n ++ aY cq)):ag c ops Q (⟨none,.store t x y,ty,pos,af,none⟩ :: rest) E L:=by
 subst dg
 have e:L=L.take n ++ aY hp:=by rw [← an,List.take_append_drop]
 clear an
 generalize L.take n=loc at *
 subst e
 exact ag.RO l ef ak a7 hp' au iy a6 hb nD
theorem bs.fresh {a:Act} {W:World} (s:bs c E (loc ++ aY hp) a W):W.heap.size ∉ dQ hp:=fun h=>by
 have:=s.lt _ (by rw [eF]; exact List.mem_append.2 (.inr (KK h)))
 omega
theorem ag.Uq {t:TypeId} {x:Operand} {rest:List Oper} {a9:Nat} {α:Type} [ae α] {z:α} (mk:bN) (au:∀ p,eI.g5 p mk= [⟨some p,.var z⟩]) (ak:a4 c E (loc ++ aY hp) x (.of z)) (aL:Nat.blt a9 c.n=true)
 (k:∀ p,p ∉ dQ hp→ag c ops Q rest ((a9,.of (some p:Ref)) :: E) (loc ++ aY ((p,mk) :: hp))):ag c ops Q (⟨some a9,.box t x,ty,pos,af,none⟩ :: rest) E (loc ++ aY hp):=fun a W s=>by
 refine hA rfl (R:=fun v W'=>v= .pointer (some ⟨W.heap.size,0,none⟩)∧W'=W.alloc (.cells (a.eval x).cells t)) (.k2 ?_ ⟨rfl,rfl⟩) fun v W' ⟨a3,hw⟩=> ?_
 ·simp [execOp,Instr.box,newVar,newRow]
 ·subst a3
  subst hw
  refine k _ s.fresh _ _ (bs.put ?_ (by simpa using aL) (rW.2 rfl))
  refine(s.alloc (cp:= .var z) ⟨_,t,rfl,(ak a W s).2⟩).perm ?_
  simp only [aY,au,List.singleton_append]
  exact List.perm_middle.symm
theorem ag.wb {t:TypeId} {x:Operand} {rest:List Oper} {a9:Nat} {α:Type} [ae α] {z:α} (n:Nat) (an:L.drop n=aY hp) (mk:bN) (au:∀ p,eI.g5 p mk= [⟨some p,.var z⟩]) (ak:a4 c E L x (.of z)) (aL:Nat.blt a9 c.n=true) (k:∀ a:Nat × aI bN,a.1 ∉ hp.map (·.1)∧a.2=(a.1,mk) :: hp→ag c ops Q rest ((a9,.of (some a.1:Ref)) :: E) (L.take n ++ aY a.2)):ag c ops Q (⟨some a9,.box t x,ty,pos,af,none⟩ :: rest) E L:=by
 have e:L=L.take n ++ aY hp:=by rw [← an,List.take_append_drop]
 clear an
 generalize L.take n=loc at *
 subst e
 exact ag.Uq mk au ak aL fun p h=>k (p,(p,mk) :: hp) ⟨h,rfl⟩
theorem mu {A B C:List aF} :((A ++ B) ++ C).Perm ((A ++ C) ++ B):=by
 rw [List.append_assoc,List.append_assoc]; exact List.perm_append_comm.append_left A
theorem ag.gZ {rest:List Oper} {a9:Nat} {f:FuncId} {xs:List Operand} {ats:Array TypeId} {τs:List I} {Lin Lr:List aF} {δ:Type} {ρ:δ→I} {Lo:δ→List aF} {hq:δ→aI bN} (ea:bR c.P f) (h:bF c.P f τs (Lin ++ aY hp) ρ (fun d=>Lo d ++ aY (hq d)))
 (ak:gV c E ((Lin ++ Lr) ++ aY hp) xs τs) (aL:Nat.blt a9 c.n=true) (k:∀ q,ag c ops Q rest ((a9,ρ q) :: E) ((Lo q ++ Lr) ++ aY (hq q))):
 ag c ops Q (⟨some a9,.call ⟨.value (.func f),xs.toArray,ats⟩,ty,pos,af,none⟩ :: rest) E ((Lin ++ Lr) ++ aY hp):=fun a W s=>
 hA rfl (xW (Lr:=Lr) ea h (s.perm mu) ((ak.holds a W s).mono (lU mu))) fun v W' ⟨q,bW,a3⟩=>
  k q _ _ ((bW.perm mu).put (by simpa using aL) ((ρ q).mono (lU mu) a3))
theorem ag.im {rest:List Oper} {a9:Nat} {f:FuncId} {xs:List Operand} {ats:Array TypeId} {τs:List I} {Lin Lr:List aF} {δ:Type} {ρ:δ→I} {Lo:δ→List aF} {hq:δ→aI bN} (n m:Nat) (an:L.drop n=aY hp) (ea:bR c.P f) (h:bF c.P f τs (Lin ++ aY hp) ρ (fun d=>Lo d ++ aY (hq d)))
 (J:(L.take n).take m=Lin) (ad:(L.take n).drop m=Lr) (ak:gV c E L xs τs) (aL:Nat.blt a9 c.n=true) (k:∀ q,ag c ops Q rest ((a9,ρ q) :: E) ((Lo q ++ Lr) ++ aY (hq q))):
 ag c ops Q (⟨some a9,.call ⟨.value (.func f),xs.toArray,ats⟩,ty,pos,af,none⟩ :: rest) E L:=by
 have e:L=(Lin ++ Lr) ++ aY hp:=by rw [← J,← ad,List.take_append_drop,← an,List.take_append_drop]
 clear an J ad
 subst e
 exact ag.gZ ea h ak aL k
theorem eP.SB {f:FuncId} {xs:List Operand} {ats:Array TypeId} {τs:List I} {ρ:I} (ea:bR c.P f) (h:bF c.P f τs (aY hp) (fun _:Unit=>ρ) (fun _=>aY hp))
 (ak:gV c E (loc ++ aY hp) xs τs):eP c E (loc ++ aY hp) ⟨d,.call ⟨.value (.func f),xs.toArray,ats⟩,ty,pos,af,g⟩ ρ:=fun a W s=>by
 have cX:(loc ++ aY hp).Perm (aY hp ++ loc):=List.perm_append_comm
 have a6:=xW (d:=d) (ty:=ty) (pos:=pos) (af:=af) (g:=g) (ats:=ats) (Lr:=loc) ea h (s.perm cX) ((ak.holds a W s).mono (lU cX))
 unfold fR at a6 ⊢
 exact Oper.wp_mono (fun fK W' ⟨v,J,_,ad,ax⟩=>⟨v,J,ad.perm cX.symm,ρ.mono (lU cX.symm) ax⟩) a6
theorem eP.gZ {f:FuncId} {xs:List Operand} {ats:Array TypeId} {τs:List I} {ρ:I} (n:Nat) (an:L.drop n=aY hp) (ea:bR c.P f) (h:bF c.P f τs (aY hp) (fun _:Unit=>ρ) (fun _=>aY hp)) (ak:gV c E L xs τs):eP c E L ⟨d,.call ⟨.value (.func f),xs.toArray,ats⟩,ty,pos,af,g⟩ ρ:=by
 have e:L=L.take n ++ aY hp:=by rw [← an,List.take_append_drop]
 clear an
 generalize L.take n=loc at *
 subst e
 exact eP.SB ea h ak
theorem D2 {P:Program} {e:TypeId} (W:World) (n:Nat) {t:TypeId} (a:Option Addr) (h:P.underlying t=some (.pointer e)):(Op.equalIn (n + 1) t (.pointer a) (.pointer none)).run P W= .ok a.isNone W:=by
 cases a <;> simp [Op.equalIn,run_underlying h]
theorem lT {r:Ref} {e:TypeId} (hu:c.P.underlying t=some (.pointer e)) (ak:a4 c E L x (.of r)):bO c E L ⟨d,.binOp .eql t x (.const (.pointer none)) t2,ty,pos,af,g⟩ (.of r.isNone):= .pure fun a W s=>by
 have J:=rW.1 (ak a W s)
 refine⟨.bool r.isNone,?_,of_bool.2 rfl⟩
 have aL:a.eval (.const (.pointer none))= .pointer none:=rfl
 simp only [execOp,eqGuard,binOp,J,aL,Op.equal,Op.maxDepth]
 have:=D2 (P:=c.P) W 9999 (r.map fun p=>⟨p,0,none⟩) hu
 simp only [Option.isNone_map] at this
 simp [this]
theorem En {r:Ref} {e:TypeId} (hu:c.P.underlying t=some (.pointer e)) (ak:a4 c E L x (.of r)):bO c E L ⟨d,.binOp .neq t x (.const (.pointer none)) t2,ty,pos,af,g⟩ (.of r.isSome):= .pure fun a W s=>by
 have J:=rW.1 (ak a W s)
 refine⟨.bool r.isSome,?_,of_bool.2 rfl⟩
 have aL:a.eval (.const (.pointer none))= .pointer none:=rfl
 simp only [execOp,eqGuard,binOp,J,aL,Op.equal,Op.maxDepth]
 have:=D2 (P:=c.P) W 9999 (r.map fun p=>⟨p,0,none⟩) hu
 simp only [Option.isNone_map] at this
 simp [this]
end
theorem P9 {P:Program} {t e el:TypeId} {n:Nat} (h:P.underlying t=some (.array n e)) (eg:bq P e Ref) (hu:P.underlying e=some (.pointer el)) {A:List Nat} {W:World} {u v:Value} {x y:Vector Ref n} (ak:(I.of x).holds A W u) (a7:(I.of y).holds A W v)
 (aL:∀ i,i < n→cg y i=none) (d:Nat) (hd:2≤d):(Op.equalIn d t u v).run P W= .ok (decide (x=y)) W:=by
 obtain⟨d,rfl⟩:∃ e,d=e + 1:=⟨d - 1,by omega⟩
 obtain⟨J,ad⟩:=ak
 obtain⟨ax,aR⟩:=a7
 obtain⟨xs,rfl⟩:∃ cs,u= .agg cs:=by simpa [shaped,ae.agg] using J
 obtain⟨ys,rfl⟩:∃ cs,v= .agg cs:=by simpa [shaped,ae.agg] using ax
 simp only [Value.cells] at ad aR
 have q2:xs.toList.length=n * ae.size Ref:=ae.len ad
 have zG:ys.toList.length=n * ae.size Ref:=ae.len aR
 have qE:∀ i∈List.range' 0 n,((do
  let a ← part e xs (i * ae.size Ref)
  let b ← part e ys (i * ae.size Ref)
  Op.equalIn d e a b):Sem Bool).run P W= .ok (decide (cg x i=cg y i)) W:=by
  intro i aq
  have fY:i < n:=by simpa using aq
  have ec:i * ae.size Ref + ae.size Ref≤n * ae.size Ref:=(aO.idx (α:=Ref) n i fY).fI
  obtain⟨a,bg,q3⟩:=qh (A:=A) (P:=P) (W:=W) (cs:=xs) (off:=i * ae.size Ref) eg (by simp at q2; omega) ((aO.idx (α:=Ref) n i fY).hN ad)
  obtain⟨b,hb,zH⟩:=qh (A:=A) (P:=P) (W:=W) (cs:=ys) (off:=i * ae.size Ref) eg (by simp at zG; omega) ((aO.idx (α:=Ref) n i fY).hN aR)
  simp only [Sem.run_bind,bg,hb,Result.andThen_ok]
  obtain⟨d,rfl⟩:∃ e,d=e + 1:=⟨d - 1,by omega⟩
  have aE:=rW.1 q3
  have bd:=rW.1 zH
  subst aE; subst bd
  have WX:(aO.idx (α:=Ref) n i fY).get y=none:=aL i fY
  rw [WX,Option.map_none,D2 W d _ hu]
  have ej:cg y i=none:=aL i fY
  rw [ej]
  show Result.ok ((cg x i).map _).isNone W=_
  congr 1
  cases cg x i <;> rfl
 have a0:=D1 (P:=P) (W:=W) _ _ _ qE
 have jN:(List.range' 0 n).all (fun i=>decide (cg x i=cg y i))=decide (x=y):=by
  rw [Bool.eq_iff_iff,List.all_eq_true,decide_eq_true_eq]
  constructor
  ·intro h
   apply Vector.ext
   intro i aq
   have:=h i (by simpa using aq)
   simpa [cg,aq] using this
  ·rintro rfl i _
   simp
 rw [jN] at a0
 simp only [Op.equalIn,Sem.run_bind,run_underlying h,Result.andThen_ok,eg.sizeOf,Std.Legacy.Range.forIn_eq_forIn_range']
 simp only [Std.Legacy.Range.size,Nat.sub_zero,Nat.add_one_sub_one,Nat.div_one] at a0 ⊢
 simp only [bind_assoc] at a0
 rw [a0]
 by_cases zI:x=y
 ·simp [zI]
 ·simp [zI]
theorem Q0 {c:cT} {E:List (Nat × I)} {L:List aF} {d:Option Tmp} {ty:TypeId} {pos:String} {af:Array Edge} {g:Option (Nat × Bool)} {x y:Operand} {t t2 e el:TypeId} {n:Nat} {a b:Vector Ref n} (h:c.P.underlying t=some (.array n e)) (eg:bq c.P e Ref) (hu:c.P.underlying e=some (.pointer el)) (bx:c.P.eqGuardType c.P.depth t=false)
 (ak:a4 c E L x (.of a)) (a7:a4 c E L y (.of b)) (aL:∀ i,i < n→cg b i=none):bO c E L ⟨d,.binOp .eql t x y t2,ty,pos,af,g⟩ (.of (decide (a=b))):= .pure fun A W s=>by
 have J:=ak A W s
 have ad:=a7 A W s
 obtain⟨xs,gR⟩:∃ cs,A.eval x= .agg cs:=by simpa [shaped,ae.agg] using J.1
 obtain⟨ys,sv⟩:∃ cs,A.eval y= .agg cs:=by simpa [shaped,ae.agg] using ad.1
 have ax:=P9 h eg hu J ad aL 10000 (by decide)
 rw [gR,sv] at ax
 refine⟨.bool (decide (a=b)),?_,of_bool.2 rfl⟩
 simp only [execOp,gR,sv,Sem.run_bind,run_eqGuard_agg W .eql t x y xs ys bx,Result.andThen_ok,run_eql_struct,ax,Sem.run_pure]
section
variable {c:cT} {E:List (Nat × I)} {L:List aF} {ops:Array Oper} {Q:Exit→Act→World→Prop}
theorem ao.bX {α β:Type} {o:Option α} {k:α→ao β} {R:β→Prop} (h:ao.bind (ao.of o) k R):∃ r,o=some r∧k r R:=h
theorem Qa {F:Fence} {n:Nat} {P:Program} {body:Code} {σ ε:Type} (b:σ→ao (σ ⊕ ε)) (fa:σ→Act→World→Prop) (X:ε→Exit→Act→World→Prop)
 (pF:∀ s R,b s R→ ∀ a W,fa s a W→body.wpIn F n P (fun x a W=>(∃ bW,R (.inl bW)∧x= .normal∧fa bW a W)∨ ∃ e,R (.inr e)∧x≠ .normal∧X e x a W) a W)
 (Q:Exit→Act→World→Prop) (R:ε→Prop) (nd:∀ e x a W,R e→X e x a W→Q x a W) {b0:σ} {N:Nat} (ar:nh N b b0 R) {hy:Act} {iC:World} (bB:fa b0 hy iC):
 (Code.loop body).wpIn F n P Q hy iC:=by
 intro dm k cs wG hb aQ
 have key:∀ N s,nh N b s R→ ∀ a W,fa s a W→
  ∃ x fK W',Q x fK W'∧ArrivesIn (Machine.fenced P F) P (lone (dm.atR a (.code body :: .inLoop body :: k)) cs W) dm k cs x fK W':=by
  intro N
  induction N with
  | zero=>intro s h; exact h.elim
  | succ N bz=>
    intro s h a W kY
    obtain⟨x,wh,wi,hq,pQ⟩:=pF s _ h a W kY dm (.inLoop body :: k) cs wG hb aQ
    rcases hq with⟨bW,J,ak,GC⟩ | ⟨e,J,ak,HC⟩
    ·subst ak
     obtain⟨Gd,Ge,Gf,FM,E0⟩:=bz bW J wh wi GC
     exact⟨Gd,Ge,Gf,FM,.of_steps (StepsIn.trans pQ (.one (fenced_calm hb aQ rfl) stepR_inLoop)) E0⟩
    ·exact⟨x,wh,wi,nd _ _ _ _ J HC,.pass (x:= .inLoop body) rfl (fun _ _=> .inl ak) pQ⟩
 obtain⟨x,fK,W',hq,pQ⟩:=key N b0 ar hy iC bB
 exact⟨x,fK,W',hq,.of_steps (.one (fenced_calm hb aQ rfl) stepR_loop) pQ⟩
def CY {σ ε γ δ:Type} (c:cT) (E:σ→γ→List (Nat × I)) (L:σ→γ→List aF) (xs:ε→Exit) (fj:ε→δ→List (Nat × I)) (Lx:ε→δ→List aF) (R:σ ⊕ ε→Prop):Exit→Act→World→Prop:=fun x a W=>
 (∃ s,R (.inl s)∧x= .normal∧ ∃ g,bs c (E s g) (L s g) a W)∨ ∃ e,R (.inr e)∧x≠ .normal∧x=xs e∧ ∃ g,bs c (fj e g) (Lx e g) a W
theorem ah.vM {σ ε γ δ:Type} {E':σ→γ→List (Nat × I)} {av:σ→γ→List aF} {xs:ε→Exit} {fj:ε→δ→List (Nat × I)} {Lx:ε→δ→List aF} {R:σ ⊕ ε→Prop} {s:σ} (iE:R (.inl s)) (g:γ) (n:Nat)
 (an:L.drop n=av s g) (h:gT E (E' s g)):ah c (CY c E' av xs fj Lx R) .normal E L:=fun a W st=> .inl ⟨s,iE,rfl,g,by rw [← an]; exact(st.n1 n).less h.look⟩
theorem ah.pE {σ ε γ δ:Type} {E':σ→γ→List (Nat × I)} {av:σ→γ→List aF} {xs:ε→Exit} {fj:ε→δ→List (Nat × I)} {Lx:ε→δ→List aF} {R:σ ⊕ ε→Prop} {e:ε} {x:Exit} (iE:R (.inr e)) (g:δ) (n:Nat)
 (ak:x=xs e) (aL:x≠ .normal) (an:L.drop n=Lx e g) (h:gT E (fj e g)):ah c (CY c E' av xs fj Lx R) x E L:=fun a W st=> .inr ⟨e,iE,aL,ak,g,by rw [← an]; exact(st.n1 n).less h.look⟩
theorem ai.nh {σ ε γ δ:Type} {body:Code} {N:Nat} {b:σ→ao (σ ⊕ ε)} {b0:σ} {R:ε→Prop} (ar:Gv.nh N b b0 R)
 (E':σ→γ→List (Nat × I)) (av:σ→γ→List aF) (xs:ε→Exit) (fj:ε→δ→List (Nat × I)) (Lx:ε→δ→List aF) (g0:γ) (an:L=av b0 g0) (aw:gT E (E' b0 g0))
 (qD:∀ s R,b s R→ ∀ g,ai c (CY c E' av xs fj Lx R) body (E' s g) (av s g))
 (nd:∀ e,R e→ ∀ g,ah c Q (xs e) (fj e g) (Lx e g)):ai c Q (.loop body) E L:=fun a W st=>by
 subst an
 exact Qa b (fun s a W=> ∃ g,bs c (E' s g) (av s g) a W) (fun e x a W=>x=xs e∧ ∃ g,bs c (fj e g) (Lx e g) a W)
  (fun s R hs a W ⟨g,kY⟩=>wpIn_mono (qD s R hs g a W kY) (fun x a W h=>by
   rcases h with⟨bW,J,ad,ax⟩ | ⟨e',J,ad,ax,aR⟩
   ·exact .inl ⟨bW,J,ad,ax⟩
   ·exact .inr ⟨e',J,ad,ax,aR⟩)) Q R (fun e x a W iE ⟨ak,g,hs⟩=>by subst ak; exact nd e iE g a W hs) ar ⟨g0,st.less aw.look⟩
theorem jt {α:Type} {b:Bool} {m n:ao α} {R:α→Prop} (hb:b=true) (h:cond b m n R):m R:=by subst hb; exact h
theorem ju {α:Type} {b:Bool} {m n:ao α} {R:α→Prop} (hb:b=false) (h:cond b m n R):n R:=by subst hb; exact h
theorem ai.vL {β γ ρ:Type} {mj:ρ→Prop} {x:Operand} {b:Bool} {y z:Code} {a8 bn:ao β} {k:β→ao ρ} (h:ao.bind (bif b then a8 else bn) k mj) (E':β→γ→List (Nat × I)) (av:β→γ→List aF) (ar:a4 c E L x (.of b))
 (sD:∀ m g,k m mj→ah c Q .normal (E' m g) (av m g))
 (bI:(∀ m g,k m mj→ah c Q .normal (E' m g) (av m g))→b=true→a8 (fun m=>k m mj)→ai c Q y E L) (a0:(∀ m g,k m mj→ah c Q .normal (E' m g) (av m g))→b=false→bn (fun m=>k m mj)→ai c Q z E L):ai c Q (.cond x y z) E L:=
 ai.cond ar (fun hb=>bI sD hb (jt hb h)) (fun hb=>a0 sD hb (ju hb h))
theorem ai.BL {σ ε γ δ ρ:Type} {body:Code} {N:Nat} {b:σ→ao (σ ⊕ ε)} {b0:σ} {k:ε→ao ρ} {mj:ρ→Prop} (ar:ao.bind (Gv.nh N b b0) k mj)
 (E':σ→γ→List (Nat × I)) (av:σ→γ→List aF) (xs:ε→Exit) (fj:ε→δ→List (Nat × I)) (Lx:ε→δ→List aF) (g0:γ) (an:L=av b0 g0) (aw:gT E (E' b0 g0))
 (qD:∀ s R,b s R→ ∀ g,ai c (CY c E' av xs fj Lx R) body (E' s g) (av s g))
 (nd:∀ e,k e mj→ ∀ g,ah c Q (xs e) (fj e g) (Lx e g)):ai c Q (.loop body) E L:=
 ai.nh (R:=fun e=>k e mj) ar E' av xs fj Lx g0 an aw qD nd
theorem Tv {n:Nat} :∀ i,i < n→cg (default:Vector Ref n) i=none:=fun i aq=>by
 have:(default:Vector Ref n)=Vector.replicate n none:=rfl
 rw [this]
 simp [cg,aq]
end
end Gv
namespace Gv
open Go
set_option linter.unusedVariables false
set_option linter.unusedSimpArgs false
structure eV where
 p:Option Nat
 deriving DecidableEq,Inhabited
instance XV:ae eV:= .scalar (fun x=>Value.map x.p) fun _=>rfl
instance:a2 eV:=⟨[.map none],fun _ _=>rfl⟩
theorem tn {A W v} {x:eV} :(I.of x).holds A W v↔v= .map x.p:=
 ⟨fun h=>m6 h.1 h.2,fun h=>by subst h; exact⟨rfl,rfl⟩⟩
theorem kI {c:cT} {E:List (Nat × I)} {L:List aF} {x:Operand} {r:eV} {p:Nat} (ak:a4 c E L x (.of r)) (h:r.p=some p):a4 c E L x (.of (⟨some p⟩:eV)):=fun a W s=>by
 have:=tn.1 (ak a W s)
 rw [h] at this
 exact tn.2 this
inductive kc {α β:Type} [ae α] [ae β] (A:List Nat) (W:World):List MapEntry→List (α × β)→Prop
 | nil:kc A W [] []
 | cons {e k v es r} :(I.of k).holds A W e.key→ (I.of v).holds A W e.val→kc A W es r→kc A W (e :: es) ((k,v) :: r)
theorem kc.mono {α β:Type} [ae α] [ae β] {A W cN W'} (h:Ext A W cN W'):∀ {es:List MapEntry} {dq:List (α × β)},kc A W es dq→kc cN W' es dq
 | _,_,.nil=> .nil
 | _,_,.cons J ad r=> .cons (I.mono _ h J) (I.mono _ h ad) (r.mono h)
def dA.map {α β:Type} [ae α] [ae β] (dq:List (α × β)):dA where
 holds A W o:= ∃ es clock,o= .map es clock∧kc A W es.toList dq∧ (∀ x∈es.toList,x.born < clock)∧ (es.toList.map MapEntry.born).Nodup
 mF:=False
 mono e h:=let⟨es,clock,J,ad,ax⟩:=h; ⟨es,clock,J,ad.mono e,ax⟩
def dt {α β:Type} [DecidableEq α]:List (α × β)→α→Option β
 | [],_=>none
 | (k,v) :: r,x=>if x=k then some v else dt r x
def fo {α β:Type} [DecidableEq α]:List (α × β)→α→β→List (α × β)
 | [],x,y=> [(x,y)]
 | (k,v) :: r,x,y=>if x=k then(x,y) :: r else(k,v) :: fo r x y
def g3 {α β:Type} [DecidableEq α]:List (α × β)→α→List (α × β)
 | [],_=> []
 | (k,v) :: r,x=>if x=k then r else(k,v) :: g3 r x
class kf (α:Type) [ae α]:Prop where
 uniq:∀ {A W cs cN W' dx} {x:α},ae.rep A W cs x→ae.rep cN W' dx x→cs=dx
 plain:∀ {A W cs} {x:α},ae.rep A W cs x→ ∀ v∈cs,∀ n,Instr.sameBits n v v=true
instance:kf Int:=⟨fun h cV=>h.trans cV.symm,fun h v a3 n=>by subst h; rw [List.mem_singleton.1 a3]; simp [Instr.sameBits]⟩
instance:kf (BitVec 64):=⟨fun h cV=>h.trans cV.symm,fun h v a3 n=>by subst h; rw [List.mem_singleton.1 a3]; simp [Instr.sameBits]⟩
instance:kf Bool:=⟨fun h cV=>h.trans cV.symm,fun h v a3 n=>by subst h; rw [List.mem_singleton.1 a3]; simp [Instr.sameBits]⟩
instance {α:Type} [ae α] [Inhabited α] [kf α] {n:Nat} :kf (Vector α n):=⟨fun {A W cs cN W' dx x} h cV=>by
 have Al:cs.length=n * ae.size α:=ae.len h
 have XL:dx.length=n * ae.size α:=ae.len cV
 have key:∀ m,m≤n→cs.take (m * ae.size α)=dx.take (m * ae.size α):=by
  intro m
  induction m with
  | zero=>intro _; simp
  | succ m bz=>
    intro hm
    have q5:m < n:=hm
    have aE:=(aO.idx (α:=α) n m q5).hN h
    have bd:=(aO.idx (α:=α) n m q5).hN cV
    have ej:=kf.uniq aE bd
    rw [Nat.succ_mul,List.take_add,List.take_add,bz (by omega)]
    congr 1
 have:=key n (Nat.le_refl _)
 rwa [← Al,List.take_length,Al,← XL,List.take_length] at this,
 fun {A W cs x} h v a3 k=>by
  have Al:cs.length=n * ae.size α:=ae.len h
  obtain⟨i,aq,rfl⟩:=List.getElem_of_mem a3
  by_cases hs:ae.size α=0
  ·rw [hs,Nat.mul_zero] at Al; omega
  have hq:i / ae.size α < n:=Nat.div_lt_of_lt_mul (by rw [Al,Nat.mul_comm] at aq; exact aq)
  have aE:=(aO.idx (α:=α) n (i / ae.size α) hq).hN h
  refine kf.plain aE _ ?_ k
  have aQ:i % ae.size α < ae.size α:=Nat.mod_lt _ (by omega)
  have hd:=Nat.div_add_mod i (ae.size α)
  refine List.mem_iff_getElem?.2 ⟨i % ae.size α,?_⟩
  simp only [aO.idx]
  rw [List.getElem?_take,if_pos aQ,List.getElem?_drop,Nat.mul_comm,hd]
  exact List.getElem?_eq_getElem aq⟩
theorem Jv {cs dx:List Value} (o s:Nat) (h:(cs.drop o).take s=(dx.drop o).take s) (k:cs.drop (o + s)=dx.drop (o + s)):cs.drop o=dx.drop o:=by
 rw [← List.take_append_drop s (cs.drop o),← List.take_append_drop s (dx.drop o),h,List.drop_drop,List.drop_drop,k]
theorem RP {cs dx:List Value} {n:Nat} (h:cs.length=n) (cV:dx.length=n) (k:cs.drop 0=dx.drop 0):cs=dx:=by simpa using k
theorem RQ {cs dx:List Value} {n m:Nat} (h:cs.length=n) (cV:dx.length=n) (k:n≤m):cs.drop m=dx.drop m:=by
 rw [List.drop_eq_nil_of_le (by omega),List.drop_eq_nil_of_le (by omega)]
theorem Qb {α:Type} [ae α] [kf α] {A W cN W' u v} {x:α} (h:(I.of x).holds A W u) (cV:(I.of x).holds cN W' v):u=v:=by
 obtain⟨J,ad⟩:=h
 obtain⟨ax,aR⟩:=cV
 have aW:=kf.uniq ad aR
 by_cases bg:ae.agg α=true
 ·simp only [shaped,bg,if_true] at J ax
  obtain⟨a,rfl⟩:=J
  obtain⟨b,rfl⟩:=ax
  simp only [Value.cells] at aW
  congr 1
  exact Array.toList_inj.1 aW
 ·simp only [Bool.not_eq_true] at bg
  simp only [shaped,bg,Bool.false_eq_true,if_false] at J ax
  rw [nM J,nM ax] at aW
  simpa using aW
theorem Jw {P:Value→Value→Bool} :∀ {cs:List Value},(∀ v∈cs,P v v=true)→ ((cs.zip cs).all fun(x,y)=>P x y)=true
 | [],_=>rfl
 | a :: r,h=>by
   simp only [List.zip_cons_cons,List.all_cons,Bool.and_eq_true]
   exact⟨h a (by simp),Jw fun v a3=>h v (by simp [a3])⟩
theorem Qc {α:Type} [ae α] [kf α] {A W u} {x:α} (h:(I.of x).holds A W u) (n:Nat):Instr.sameBits (n + 1) u u=true:=by
 obtain⟨J,ad⟩:=h
 by_cases bg:ae.agg α=true
 ·simp only [shaped,bg,if_true] at J
  obtain⟨a,rfl⟩:=J
  simp only [Value.cells] at ad
  simp only [Instr.sameBits,beq_self_eq_true,Bool.true_and]
  exact Jw fun v a3=>kf.plain ad v a3 n
 ·simp only [Bool.not_eq_true] at bg
  simp only [shaped,bg,Bool.false_eq_true,if_false] at J
  rw [nM J] at ad
  exact kf.plain ad u (by simp) _
theorem QG {α:Type} [ae α] [kf α] {P:Program} {A W cN W' u v} {x:α} (h:(I.of x).holds A W u) (cV:(I.of x).holds cN W' v) (iC:World):(Instr.keyThatStays u v).run P iC= .ok v iC:=by
 have:=Qb h cV
 subst this
 simp [Instr.keyThatStays,Qc h 9999]
def p4 (P:Program) (t:TypeId) (α:Type) [ae α] (n:Nat):Prop:= ∀ b d A W u (x:α),n≤d→ (I.of x).holds A W u→ (Instr.checkKey b d t u).run P W= .ok () W
theorem Jf {P:Program} {t:TypeId} {α:Type} [ae α] {D:TypeDesc} (h:P.underlying t=some D) (hd:(match (motive:=TypeDesc→Bool) D with | .interface _ | .array _ _ | .struct _=>false | _=>true)=true):p4 P t α 1:=by
 intro b d A W u x aL ak
 obtain⟨d,rfl⟩:∃ e,d=e + 1:=⟨d - 1,by omega⟩
 simp only [Instr.checkKey,Sem.run_bind,run_underlying h,Result.andThen_ok]
 cases D <;> simp at hd <;> rfl
theorem Iw {P:Program} {W:World} {Am:Type} (f:Am→Sem Unit):∀ (l:List Am),(∀ i∈l,(f i).run P W= .ok () W)→
 (forIn (m:=Sem) l () (fun i _=>do f i; pure (ForInStep.yield ()))).run P W= .ok () W
 | [],_=>by simp
 | i :: r,h=>by
   have J:=h i (by simp)
   have ad:=Iw (P:=P) (W:=W) f r (fun j aC=>h j (by simp [aC]))
   rw [List.forIn_cons]
   simp only [Sem.run_bind,J,Result.andThen_ok,Sem.run_pure]
   rw [ad]
theorem Iq {P:Program} {W:World} {Am:Type} (f:Am→PUnit→Sem (ForInStep PUnit)):∀ (l:List Am),(∀ i∈l,(f i ()).run P W= .ok (.yield ()) W)→ (forIn (m:=Sem) l PUnit.unit f).run P W= .ok () W
 | [],_=>by simp
 | i :: r,h=>by
   have J:=h i (by simp)
   have ad:=Iq (P:=P) (W:=W) f r (fun j aC=>h j (by simp [aC]))
   rw [List.forIn_cons]
   simp only [Sem.run_bind,J,Result.andThen_ok]
   exact ad
theorem KL {P:Program} {t e n k:Nat} {α:Type} [ae α] [Inhabited α] (h:P.underlying t=some (.array n e)) (eg:bq P e α) (he:p4 P e α k):p4 P t (Vector α n) (k + 1):=by
 intro b d A W u x hd ak
 obtain⟨d,rfl⟩:∃ e,d=e + 1:=⟨d - 1,by omega⟩
 obtain⟨J,ad⟩:=ak
 obtain⟨xs,rfl⟩:∃ cs,u= .agg cs:=by simpa [shaped,ae.agg] using J
 simp only [Value.cells] at ad
 have q2:xs.toList.length=n * ae.size α:=ae.len ad
 have qE:∀ i∈List.range' 0 n,((do
  let z ← Go.sizeOf e
  let a ← part e xs (i * z)
  Instr.checkKey b d e a):Sem Unit).run P W= .ok () W:=by
  intro i aq
  have fY:i < n:=by simpa using aq
  have ec:i * ae.size α + ae.size α≤n * ae.size α:=(aO.idx (α:=α) n i fY).fI
  obtain⟨a,bg,q3⟩:=qh (A:=A) (P:=P) (W:=W) (cs:=xs) (off:=i * ae.size α) eg (by simp at q2; omega) ((aO.idx (α:=α) n i fY).hN ad)
  simp only [Sem.run_bind,eg.sizeOf,bg,Result.andThen_ok]
  exact he b d A W a _ (by omega) q3
 have a0:=Iw (P:=P) (W:=W) _ _ qE
 simp only [Instr.checkKey,Sem.run_bind,run_underlying h,Result.andThen_ok,Std.Legacy.Range.forIn_eq_forIn_range']
 simp only [Std.Legacy.Range.size,Nat.sub_zero,Nat.add_one_sub_one,Nat.div_one] at a0 ⊢
 simp only [bind_assoc] at a0
 rw [a0]
 rfl
inductive z2 (P:Program) (β:Type) [ae β] (k:Nat):List Field→Prop
 | nil:z2 P β k []
 | cons {γ:Type} [ae γ] {f r} (l:aO β γ):l.off=f.offset→bq P f.type γ→p4 P f.type γ k→z2 P β k r→z2 P β k (f :: r)
theorem QH {P:Program} {t k:Nat} {β:Type} [ae β] {fs:Array Field} (bg:ae.agg β=true) (h:P.underlying t=some (.struct fs)) (aj:z2 P β k fs.toList):p4 P t β (k + 1):=by
 intro b d A W u x hd ak
 obtain⟨d,rfl⟩:∃ e,d=e + 1:=⟨d - 1,by omega⟩
 obtain⟨J,ad⟩:=ak
 obtain⟨xs,rfl⟩:∃ cs,u= .agg cs:=by simpa [shaped,bg] using J
 simp only [Value.cells] at ad
 have q2:xs.toList.length=ae.size β:=ae.len ad
 have qE:∀ f∈fs.toList,((do
  if f.name≠ "_" then do
   let a ← part f.type xs f.offset
   Instr.checkKey b d f.type a):Sem Unit).run P W= .ok () W:=by
  have key:∀ l,z2 P β k l→ ∀ f∈l,((do
   if f.name≠ "_" then do
    let a ← part f.type xs f.offset
    Instr.checkKey b d f.type a):Sem Unit).run P W= .ok () W:=by
   intro l ar
   induction ar with
   | nil=>simp
   | cons l a6 eg au r bz=>
     rename_i f kG
     intro wW o9
     rcases List.mem_cons.1 o9 with rfl | o9
     ·split
      ·obtain⟨a,bg,q3⟩:=qh (A:=A) (P:=P) (W:=W) (cs:=xs) (off:=l.off) eg (by have:=l.fI; simp at q2; omega) (l.hN ad)
       rw [← a6]
       simp only [Sem.run_bind,bg,Result.andThen_ok]
       exact au b d A W a _ (by omega) q3
      ·rfl
     ·exact bz wW o9
  exact key _ aj
 simp only [Instr.checkKey,Sem.run_bind,run_underlying h,Result.andThen_ok]
 rw [← Array.forIn_toList,Iq]
 ·rfl
 ·intro f a0
  have:=qE f a0
  split
  ·rename_i aL
   rw [if_pos aL] at this
   simp only [Sem.run_bind] at this ⊢
   revert this
   generalize (part f.type xs f.offset).run P W=r
   cases r <;> simp only [Result.andThen] <;> intro h <;> first | rw [h]; rfl | cases h
  ·rfl
structure m0 (P:Program) (t:TypeId) (α:Type) [ae α] [DecidableEq α]:Prop where
 check:∀ b A W u (x:α),(I.of x).holds A W u→ (Instr.checkKey b 10000 t u).run P W= .ok () W
 same:∀ A W u v (x y:α),(I.of x).holds A W u→ (I.of y).holds A W v→ (Op.equal t u v).run P W= .ok (decide (x=y)) W
 now:∃ D,P.underlying t=some D∧ ∀ A W u v (x y:α),(I.of x).holds A W u→ (I.of y).holds A W v→Instr.sameNow D u v=none∨Instr.sameNow D u v=some (decide (x=y))
def kp {α β:Type} [DecidableEq α]:List (α × β)→α→Nat→Option (Nat × β)
 | [],_,_=>none
 | (k,v) :: r,x,i=>if x=k then some (i,v) else kp r x (i + 1)
def Found {α β:Type} [ae α] [ae β] (A:List Nat) (W:World) (dq:List (α × β)):Option (Nat × Value)→Option (Nat × β)→Prop
 | none,none=>True
 | some (i,u),some (j,v)=>i=j∧ (I.of v).holds A W u
 | _,_=>False
theorem IA {α β:Type} [ae α] [ae β] [DecidableEq α] {D:TypeDesc} {A:List Nat} {W:World} {u:Value} {x:α} (hu:(I.of x).holds A W u)
 (hs:∀ v (y:α),(I.of y).holds A W v→Instr.sameNow D u v=none∨Instr.sameNow D u v=some (decide (x=y))) (z3:List (α × β)):∀ {es:List MapEntry} {dq:List (α × β)} (i:Nat),kc A W es dq→
 Instr.findNow D u es i=none∨ ∃ r,Instr.findNow D u es i=some r∧Found A W z3 r (kp dq x i)
 | [],_,i,h=>by cases h; exact .inr ⟨none,rfl,trivial⟩
 | e :: es,_,i,h=>by
   cases h with
   | cons J ad ax=>
     rename_i k v r
     rcases hs e.key k J with aR | aR
     ·exact .inl (by simp [Instr.findNow,aR])
     ·by_cases au:x=k
      ·exact .inr ⟨some (i,e.val),by simp [Instr.findNow,aR,au],by simp only [kp,if_pos au]; exact⟨rfl,ad⟩⟩
      ·rcases IA hu hs z3 (i + 1) ax with aW | ⟨kG,aW,bc⟩
       ·exact .inl (by simp [Instr.findNow,aR,au,aW])
       ·exact .inr ⟨kG,by simp [Instr.findNow,aR,au,aW],by simp only [kp,if_neg au]; exact bc⟩
theorem Im {α β:Type} [ae α] [ae β] [DecidableEq α] {P:Program} {t:TypeId} (jF:m0 P t α) {A:List Nat} {W:World} {u:Value} {x:α} (hu:(I.of x).holds A W u) (z3:List (α × β)):∀ {es:List MapEntry} {dq:List (α × β)} (i:Nat),kc A W es dq→
 ∃ r,(Instr.findAsking t u es i).run P W= .ok r W∧Found A W z3 r (kp dq x i)
 | [],_,i,h=>by cases h; exact⟨none,rfl,trivial⟩
 | e :: es,_,i,h=>by
   cases h with
   | cons J ad ax=>
     rename_i k v r
     have aR:=jF.same A W u e.key x k hu J
     by_cases au:x=k
     ·exact⟨some (i,e.val),by simp [Instr.findAsking,Sem.run_bind,aR,au],by simp only [kp,if_pos au]; exact⟨rfl,ad⟩⟩
     ·obtain⟨kG,aW,bc⟩:=Im jF hu z3 (i + 1) ax
      exact⟨kG,by simp [Instr.findAsking,Sem.run_bind,aR,au,aW],by simp only [kp,if_neg au]; exact bc⟩
theorem D3 {α β:Type} [ae α] [ae β] [DecidableEq α] {P:Program} {t:TypeId} (jF:m0 P t α) {A:List Nat} {W:World} {u:Value} {x:α} (hu:(I.of x).holds A W u) {es:List MapEntry} {dq:List (α × β)} (h:kc A W es dq):
 ∃ r,(Instr.findKey t u es).run P W= .ok r W∧Found A W dq r (kp dq x 0):=by
 obtain⟨D,kd,hs⟩:=jF.now
 rcases IA hu (fun v y a7=>hs A W u v x y hu a7) dq 0 h with J | ⟨r,J,ad⟩
 ·obtain⟨r,ax,aR⟩:=Im jF hu dq 0 h
  exact⟨r,by simp [Instr.findKey,Sem.run_bind,run_underlying kd,J,ax],aR⟩
 ·exact⟨r,by simp [Instr.findKey,Sem.run_bind,run_underlying kd,J],ad⟩
theorem EJ {α β:Type} [ae α] [ae β] [DecidableEq α] {A:List Nat} {W:World} {x:α} :∀ {es:List MapEntry} {dq:List (α × β)} {j i:Nat} {v:β},kc A W es dq→kp dq x j=some (i,v)→
 ∃ m e,i=j + m∧es[m]? =some e∧ (I.of x).holds A W e.key∧ (∀ (e':MapEntry) (y:β),(I.of x).holds A W e'.key→ (I.of y).holds A W e'.val→kc A W (es.set m e') (fo dq x y))∧kc A W (es.eraseIdx m) (g3 dq x)
 | [],_,j,i,v,h,a0=>by cases h; cases a0
 | e :: es,_,j,i,v,h,a0=>by
   cases h with
   | cons J ad ax=>
     rename_i k Dg r
     by_cases au:x=k
     ·subst au
      simp only [kp,if_pos] at a0
      simp only [Option.some.injEq,Prod.mk.injEq] at a0
      exact⟨0,e,by omega,rfl,J,fun e' y ay bf=>by simp only [fo,if_pos]; exact .cons ay bf ax,by simp only [g3,if_pos]; exact ax⟩
     ·simp only [kp,if_neg au] at a0
      obtain⟨m,e',ay,bf,bJ,dz,oo⟩:=EJ ax a0
      exact⟨m + 1,e',by omega,by simpa using bf,bJ,fun G3 y aM eK=>by simp only [fo,if_neg au]; exact .cons J ad (dz G3 y aM eK),by simp only [g3,if_neg au]; exact .cons J ad oo⟩
theorem Ek {α β:Type} [ae α] [ae β] [DecidableEq α] {A:List Nat} {W:World} {x:α} :∀ {es:List MapEntry} {dq:List (α × β)} {j:Nat},kc A W es dq→kp dq x j=none→
 (∀ (e':MapEntry) (y:β),(I.of x).holds A W e'.key→ (I.of y).holds A W e'.val→kc A W (es ++ [e']) (fo dq x y))∧g3 dq x=dq
 | [],_,j,h,_=>by cases h; exact⟨fun e' y J ad=> .cons J ad .nil,rfl⟩
 | e :: es,_,j,h,a0=>by
   cases h with
   | cons J ad ax=>
     rename_i k Dg r
     by_cases au:x=k
     ·simp [kp,au] at a0
     ·simp only [kp,if_neg au] at a0
      obtain⟨ay,bf⟩:=Ek ax a0
      exact⟨fun e' y aM eK=>by simp only [fo,if_neg au]; exact .cons J ad (ay e' y aM eK),by simp only [g3,if_neg au,bf]⟩
theorem kc.length {α β:Type} [ae α] [ae β] {A W} :∀ {es:List MapEntry} {dq:List (α × β)},kc A W es dq→es.length=dq.length
 | _,_,.nil=>rfl
 | _,_,.cons _ _ r=>by simp [r.length]
theorem IW {α β:Type} [DecidableEq α]:∀ (dq:List (α × β)) (x:α) (i:Nat),(kp dq x i).map (·.2)=dt dq x
 | [],_,_=>rfl
 | (k,v) :: r,x,i=>by simp only [kp,dt]; split <;> simp [IW]
section
variable {c:cT} {E:List (Nat × I)} {L:List aF} {ops:Array Oper} {Q:Exit→Act→World→Prop}
variable {d:Option Tmp} {ty:TypeId} {pos:String} {af:Array Edge} {g:Option (Nat × Bool)} {x y z:Operand} {t t2:TypeId}
variable {bN:Type} [eI bN] {hp:aI bN} {loc:List aF}
theorem ag.RR {α β:Type} [ae α] [ae β] {rest:List Oper} {a9:Nat} (mk:bN) (au:∀ p,eI.g5 p mk= [⟨some p,.map ([]:List (α × β))⟩]) (aL:Nat.blt a9 c.n=true)
 (k:∀ p,p ∉ dQ hp→ag c ops Q rest ((a9,.of (⟨some p⟩:eV)) :: E) (loc ++ aY ((p,mk) :: hp))):ag c ops Q (⟨some a9,.makeMap t none,ty,pos,af,none⟩ :: rest) E (loc ++ aY hp):=fun a W s=>by
 refine hA rfl (R:=fun v W'=>v= .map (some W.heap.size)∧W'=W.alloc (.map #[] 0)) (.k2 ?_ ⟨rfl,rfl⟩) fun v W' ⟨a3,hw⟩=> ?_
 ·simp only [execOp,Instr.makeMap,newObj,Sem.run_bind,Sem.run_pure]; rfl
 ·subst a3
  subst hw
  refine k _ s.fresh _ _ (bs.put ?_ (by simpa using aL) (tn.2 rfl))
  refine(s.alloc (cp:= .map ([]:List (α × β))) ⟨#[],0,rfl,.nil,by simp,by simp⟩).perm ?_
  simp only [aY,au,List.singleton_append]
  exact List.perm_middle.symm
theorem ag.BH {α β:Type} [ae α] [ae β] {rest:List Oper} {a9:Nat} (n:Nat) (an:L.drop n=aY hp) (mk:bN) (au:∀ p,eI.g5 p mk= [⟨some p,.map ([]:List (α × β))⟩]) (aL:Nat.blt a9 c.n=true) (k:∀ a:Nat × aI bN,a.1 ∉ hp.map (·.1)∧a.2=(a.1,mk) :: hp→ag c ops Q rest ((a9,.of (⟨some a.1⟩:eV)) :: E) (L.take n ++ aY a.2)):ag c ops Q (⟨some a9,.makeMap t none,ty,pos,af,none⟩ :: rest) E L:=by
 have e:L=L.take n ++ aY hp:=by rw [← an,List.take_append_drop]
 clear an
 generalize L.take n=loc at *
 subst e
 exact ag.RR (α:=α) (β:=β) mk au aL fun p h=>k (p,(p,mk) :: hp) ⟨h,rfl⟩
theorem bs.Ch {a:Act} {W:World} (s:bs c E L a W) {p:Nat} {α β:Type} [ae α] [ae β] {dq:List (α × β)} (hm:(⟨some p,.map dq⟩:aF)∈L):
 ∃ es clock,W.heap[p]? =some (.map es clock)∧kc (aJ L ++ c.bM) W es.toList dq∧ (∀ x∈es.toList,x.born < clock)∧ (es.toList.map MapEntry.born).Nodup:=by
 obtain⟨o,a6,es,clock,rfl,ad,ax,aR⟩:=s.own _ hm
 exact⟨es,clock,a6,ad,ax,aR⟩
theorem IX {a:Act} {W:World} (s:bs c E L a W) {p key elem:Nat} {α β:Type} [ae α] [ae β] [DecidableEq α] [Inhabited β] {dq:List (α × β)} {i:α} (hu:c.P.underlying t=some (.map key elem)) (jF:m0 c.P key α) (fV:cc c.P elem (default:β))
 (ak:a4 c E L x (.of (⟨some p⟩:eV))) (a7:a4 c E L y (.of i)) (hm:(⟨some p,.map dq⟩:aF)∈L):
 ∃ u,(I.of ((dt dq i).getD default)).holds (aJ L ++ c.bM) W u∧ ∀ ok,(Instr.lookup t (a.eval x) (a.eval y) ok).run c.P W= .ok (if ok then .tuple #[u,.bool (dt dq i).isSome] else u) W:=by
 obtain⟨es,clock,a6,ad,ax,aR⟩:=s.Ch hm
 have nz:=tn.1 (ak a W s)
 have pb:=a7 a W s
 obtain⟨r,aQ,a0⟩:=D3 jF pb ad
 obtain⟨fy,dN,dP,dg,GL⟩:=fV.zero
 have bx:(getObj p).run c.P W= .ok (.map es clock) W:=by simp [getObj,Sem.run,a6]
 have aj:=fun b=>jF.check b _ W _ i pb
 have wM:=IW dq i 0
 cases og:kp dq i 0 with
 | none=>
   rw [og] at a0 wM
   cases r with
   | some q=>exact a0.elim
   | none=>
     refine⟨dN,by rw [← wM]; exact GL _ W,fun ok=> ?_⟩
     rw [← wM]
     simp [Instr.lookup,Sem.run_bind,run_underlying hu,nz,bx,aj,aQ,zeroValue,typeInfo,dP,dg]
 | some q=>
   rw [og] at a0 wM
   cases r with
   | none=>exact a0.elim
   | some kZ=>
     refine⟨kZ.2,by rw [← wM]; exact a0.2,fun ok=> ?_⟩
     rw [← wM]
     simp [Instr.lookup,Sem.run_bind,run_underlying hu,nz,bx,aj,aQ]
theorem tk {p key elem:Nat} {α β:Type} [ae α] [ae β] [DecidableEq α] [Inhabited β] {dq:List (α × β)} {i:α} {r:β} (hu:c.P.underlying t=some (.map key elem)) (jF:m0 c.P key α) (fV:cc c.P elem (default:β))
 (ak:a4 c E L x (.of (⟨some p⟩:eV))) (a7:a4 c E L y (.of i)) (hm:(⟨some p,.map dq⟩:aF)∈L) (aQ:(dt dq i).getD default=r):
 bO c E L ⟨d,.lookup t x y false,ty,pos,af,g⟩ (.of r):= .pure fun a W s=>by
 subst aQ
 obtain⟨u,J,ad⟩:=IX s hu jF fV ak a7 hm
 have ax:=ad false
 exact⟨u,by simp only [execOp,Sem.run_bind,ax,Result.andThen_ok]; rfl,J⟩
theorem Ez {p key elem:Nat} {α β:Type} [ae α] [ae β] [DecidableEq α] [Inhabited β] {dq:List (α × β)} {i:α} {r:Option β} (hu:c.P.underlying t=some (.map key elem)) (jF:m0 c.P key α) (fV:cc c.P elem (default:β))
 (ak:a4 c E L x (.of (⟨some p⟩:eV))) (a7:a4 c E L y (.of i)) (hm:(⟨some p,.map dq⟩:aF)∈L) (aQ:dt dq i=r):
 bO c E L ⟨d,.lookup t x y true,ty,pos,af,g⟩ (.eA [.of (r.getD default),.of r.isSome]):= .pure fun a W s=>by
 subst aQ
 obtain⟨u,J,ad⟩:=IX s hu jF fV ak a7 hm
 have ax:=ad true
 exact⟨_,by simp only [execOp,Sem.run_bind,ax,Result.andThen_ok]; rfl,_,rfl,.cons J (.cons (of_bool.2 rfl) .nil)⟩
theorem Re {es:List MapEntry} {m:Nat} {e e':MapEntry} (h:es[m]? =some e) (hb:e'.born=e.born):(es.set m e').map MapEntry.born=es.map MapEntry.born:=by
 apply List.ext_getElem?
 intro j
 simp only [List.getElem?_map,List.getElem?_set]
 split
 ·rename_i aC
  subst aC
  have:=(List.getElem?_eq_some_iff.1 h).1
  rw [if_pos this,h]
  simp [hb]
 ·rfl
theorem ag.SC {rest:List Oper} {op:Op} (qZ:op= .mapUpdate t x y z∨op= .insert t x y z) {p key elem:Nat} {k k':bN} {α β:Type} [ae α] [ae β] [kf α] [DecidableEq α] {dq pc:List (α × β)} {i:α} {v:β} (hu:c.P.underlying t=some (.map key elem)) (jF:m0 c.P key α)
 (ak:a4 c E (loc ++ aY hp) x (.of (⟨some p⟩:eV))) (a7:a4 c E (loc ++ aY hp) y (.of i)) (dg:a4 c E (loc ++ aY hp) z (.of v)) (hp':pat hp p=some k) (au:eI.g5 p k= [⟨some p,.map dq⟩]) (uI:fo dq i v=pc) (iy:eI.g5 p k'= [⟨some p,.map pc⟩])
 (nD:ag c ops Q rest E (loc ++ aY (cx hp p k'))):ag c ops Q (⟨none,op,ty,pos,af,none⟩ :: rest) E (loc ++ aY hp):=fun a W s=>by
 subst uI
 obtain⟨es,clock,a6,ad,ax,aR⟩:=s.Ch (ei (n:=loc.length) (by simp) hp' au)
 have nz:=tn.1 (ak a W s)
 have pb:=a7 a W s
 have Nc:=dg a W s
 obtain⟨r,aQ,a0⟩:=D3 jF pb ad
 have bx:(getObj p).run c.P W= .ok (.map es clock) W:=by simp [getObj,Sem.run,a6]
 have aj:=jF.check false _ W _ i pb
 have b5:p < W.heap.size:=(Array.getElem?_eq_some_iff.1 a6).1
 have kN:∀ o,(setObj p o).run c.P W= .ok () (W.putObj p o):=fun o=>by simp only [setObj,Sem.run,a6]; rfl
 have key:∃ lp vR,(Instr.mapUpdate t (a.eval x) (a.eval y) (a.eval z)).run c.P W= .ok () (W.putObj p (.map lp vR))∧kc (aJ (loc ++ aY hp) ++ c.bM) W lp.toList (fo dq i v)∧ (∀ x∈lp.toList,x.born < vR)∧ (lp.toList.map MapEntry.born).Nodup:=by
  cases og:kp dq i 0 with
  | none=>
    rw [og] at a0
    cases r with
    | some q=>exact a0.elim
    | none=>
      obtain⟨ay,_⟩:=Ek ad og
      refine⟨es.push { key:=a.eval y,val:=a.eval z,born:=clock },clock + 1,by simp [Instr.mapUpdate,Sem.run_bind,run_underlying hu,nz,bx,aj,aQ,kN],by simpa using ay { key:=a.eval y,val:=a.eval z,born:=clock } v pb Nc,?_,?_⟩
      ·intro q hq
       simp only [Array.toList_push,List.mem_append,List.mem_singleton] at hq
       rcases hq with hq | rfl
       ·exact Nat.lt_succ_of_lt (ax q hq)
       ·exact Nat.lt_succ_self _
      ·simp only [Array.toList_push,List.map_append,List.map_cons,List.map_nil]
       refine List.nodup_append.2 ⟨aR,by simp,fun b hb b' CO=> ?_⟩
       simp only [List.mem_singleton] at CO
       subst CO
       obtain⟨q,hq,rfl⟩:=List.mem_map.1 hb
       exact Nat.ne_of_lt (ax q hq)
  | some q=>
    rw [og] at a0
    cases r with
    | none=>exact a0.elim
    | some kZ=>
      obtain⟨m,e,ay,bf,bJ,dz,_⟩:=EJ ad og
      have iA:kZ.1=m:=by have:=a0.1; omega
      have hq:es[m]? =some e:=by simpa using bf
      have eY:=QG (P:=c.P) bJ pb W
      let e':MapEntry:= { e with key:=a.eval y,val:=a.eval z }
      have zh:(es.modify m fun e=> { e with key:=a.eval y,val:=a.eval z }).toList=es.toList.set m e':=by
       apply List.ext_getElem?
       intro j
       rw [Array.getElem?_toList,Array.getElem?_modify,List.getElem?_set,Array.getElem?_toList]
       by_cases aC:m=j
       ·subst aC
        rw [if_pos rfl,if_pos rfl,hq,if_pos (by simpa using (Array.getElem?_eq_some_iff.1 hq).1)]
        rfl
       ·rw [if_neg aC,if_neg aC]
      refine⟨es.modify m fun e=> { e with key:=a.eval y,val:=a.eval z },clock,by simp [Instr.mapUpdate,Sem.run_bind,run_underlying hu,nz,bx,aj,aQ,kN,iA,hq,eY],by rw [zh]; exact dz e' v pb Nc,?_,?_⟩
      ·rw [zh]
       intro w hw
       rcases List.mem_or_eq_of_mem_set hw with hw | rfl
       ·exact ax w hw
       ·exact ax e (List.mem_of_getElem? bf)
      ·rw [zh,Re (e':=e') bf rfl]; exact aR
 obtain⟨lp,vR,jg,aE,bd,ej⟩:=key
 obtain⟨R,a8,bn⟩:=s9 hp'
 have bn:=bn k'
 rw [au] at a8
 rw [iy] at bn
 have cX:∀ {z:List (α × β)} {M:List aF},M.Perm ([⟨some p,.map z⟩] ++ R)→ (loc ++ M).Perm (⟨some p,.map z⟩ :: (loc ++ R)):=fun h=>(h.append_left loc).trans (by simp only [List.singleton_append]; exact List.perm_middle)
 have bW:=(s.perm (cX a8)).pS (i:=0) (cp':= .map (fo dq i v)) rfl (o':= .map lp vR) ⟨lp,vR,rfl,aE.mono (lU (cX a8)),bd,ej⟩
 refine hA rfl (R:=fun v W'=>W'=W.putObj p (.map lp vR)) (.vG ?_ rfl) fun v W' hw=> ?_
 ·rcases qZ with rfl | rfl <;> simp [execOp,jg]
 ·subst hw
  exact nD _ _ (bW.perm (cX bn).symm)
theorem ag.B0 {rest:List Oper} {op:Op} (n:Nat) (an:L.drop n=aY hp) (qZ:op= .mapUpdate t x y z∨op= .insert t x y z) {p key elem:Nat} {k k':bN} {cq:aI bN} {α β:Type} [ae α] [ae β] [kf α] [DecidableEq α] {dq pc:List (α × β)} {i:α} {v:β} (hu:c.P.underlying t=some (.map key elem)) (jF:m0 c.P key α) (ak:a4 c E L x (.of (⟨some p⟩:eV))) (a7:a4 c E L y (.of i)) (dg:a4 c E L z (.of v)) (hp':pat hp p=some k) (au:eI.g5 p k= [⟨some p,.map dq⟩]) (uI:fo dq i v=pc) (iy:eI.g5 p k'= [⟨some p,.map pc⟩]) (dg:cx hp p k'=cq) (nD:ag c ops Q rest E (L.take n ++ aY cq)):ag c ops Q (⟨none,op,ty,pos,af,none⟩ :: rest) E L:=by
 subst dg
 have e:L=L.take n ++ aY hp:=by rw [← an,List.take_append_drop]
 clear an
 generalize L.take n=loc at *
 subst e
 exact ag.SC qZ hu jF ak a7 dg hp' au uI iy nD
theorem ag.SD {rest:List Oper} {p key elem:Nat} {k k':bN} {α β:Type} [ae α] [ae β] [DecidableEq α] {dq pc:List (α × β)} {i:α} (hu:c.P.underlying t=some (.map key elem)) (jF:m0 c.P key α)
 (ak:a4 c E (loc ++ aY hp) x (.of (⟨some p⟩:eV))) (a7:a4 c E (loc ++ aY hp) y (.of i)) (hp':pat hp p=some k) (au:eI.g5 p k= [⟨some p,.map dq⟩]) (uI:g3 dq i=pc) (iy:eI.g5 p k'= [⟨some p,.map pc⟩])
 (nD:ag c ops Q rest E (loc ++ aY (cx hp p k'))):ag c ops Q (⟨none,.call ⟨.builtin .delete,#[x,y],#[t,t2]⟩,ty,pos,af,none⟩ :: rest) E (loc ++ aY hp):=fun a W s=>by
 subst uI
 obtain⟨es,clock,a6,ad,ax,aR⟩:=s.Ch (ei (n:=loc.length) (by simp) hp' au)
 have nz:=tn.1 (ak a W s)
 have pb:=a7 a W s
 obtain⟨r,aQ,a0⟩:=D3 jF pb ad
 have bx:(getObj p).run c.P W= .ok (.map es clock) W:=by simp [getObj,Sem.run,a6]
 have aj:=fun b=>jF.check b _ W _ i pb
 have kN:∀ o,(setObj p o).run c.P W= .ok () (W.putObj p o):=fun o=>by simp only [setObj,Sem.run,a6]; rfl
 have key:∃ lp,(Builtin.delete_ #[t,t2] ty #[a.eval x,a.eval y]).run c.P W= .ok (.tuple #[]) (W.putObj p (.map lp clock))∧kc (aJ (loc ++ aY hp) ++ c.bM) W lp.toList (g3 dq i)∧ (∀ x∈lp.toList,x.born < clock)∧ (lp.toList.map MapEntry.born).Nodup:=by
  cases og:kp dq i 0 with
  | none=>
    rw [og] at a0
    cases r with
    | some q=>exact a0.elim
    | none=>
      obtain⟨_,ay⟩:=Ek ad og
      exact⟨es,by simp [Builtin.delete_,Sem.run_bind,run_underlying hu,nz,bx,aj,aQ,kN],by rw [ay]; exact ad,ax,aR⟩
  | some q=>
    rw [og] at a0
    cases r with
    | none=>exact a0.elim
    | some kZ=>
      obtain⟨m,e,ay,bf,_,_,oo⟩:=EJ ad og
      have iA:kZ.1=m:=by have:=a0.1; omega
      have hm:m < es.size:=by simpa using (List.getElem?_eq_some_iff.1 bf).1
      have he:(es.eraseIdxIfInBounds m).toList=es.toList.eraseIdx m:=by simp [Array.eraseIdxIfInBounds,hm]
      have j5:(es.toList.eraseIdx m).Sublist es.toList:=List.eraseIdx_sublist _ _
      exact⟨es.eraseIdxIfInBounds m,by simp [Builtin.delete_,Sem.run_bind,run_underlying hu,nz,bx,aj,aQ,kN,iA],by rw [he]; exact oo,by rw [he]; exact fun w hw=>ax w (j5.subset hw),by rw [he]; exact(j5.map _).nodup aR⟩
 obtain⟨lp,jg,aE,bd,ej⟩:=key
 obtain⟨R,a8,bn⟩:=s9 hp'
 have bn:=bn k'
 rw [au] at a8
 rw [iy] at bn
 have cX:∀ {z:List (α × β)} {M:List aF},M.Perm ([⟨some p,.map z⟩] ++ R)→ (loc ++ M).Perm (⟨some p,.map z⟩ :: (loc ++ R)):=fun h=>(h.append_left loc).trans (by simp only [List.singleton_append]; exact List.perm_middle)
 have bW:=(s.perm (cX a8)).pS (i:=0) (cp':= .map (g3 dq i)) rfl (o':= .map lp clock) ⟨lp,clock,rfl,aE.mono (lU (cX a8)),bd,ej⟩
 refine hA rfl (R:=fun v W'=>W'=W.putObj p (.map lp clock)) (.k2 (v:= .tuple #[]) ?_ rfl) fun v W' hw=> ?_
 ·simp [execOp,resolve,invoke,builtin,jg]
 ·subst hw
  exact nD _ _ (bW.perm (cX bn).symm)
theorem ag.FE {rest:List Oper} {p key elem:Nat} {k k':bN} {cq:aI bN} {α β:Type} [ae α] [ae β] [DecidableEq α] {dq pc:List (α × β)} {i:α} (n:Nat) (an:L.drop n=aY hp) (hu:c.P.underlying t=some (.map key elem)) (jF:m0 c.P key α) (ak:a4 c E L x (.of (⟨some p⟩:eV))) (a7:a4 c E L y (.of i)) (hp':pat hp p=some k) (au:eI.g5 p k= [⟨some p,.map dq⟩]) (uI:g3 dq i=pc) (iy:eI.g5 p k'= [⟨some p,.map pc⟩]) (dg:cx hp p k'=cq) (nD:ag c ops Q rest E (L.take n ++ aY cq)):ag c ops Q (⟨none,.call ⟨.builtin .delete,#[x,y],#[t,t2]⟩,ty,pos,af,none⟩ :: rest) E L:=by
 subst dg
 have e:L=L.take n ++ aY hp:=by rw [← an,List.take_append_drop]
 clear an
 generalize L.take n=loc at *
 subst e
 exact ag.SD hu jF ak a7 hp' au uI iy nD
theorem Rt {p key elem:Nat} {α β:Type} [ae α] [ae β] {dq:List (α × β)} (hu:c.P.underlying t=some (.map key elem)) (ak:a4 c E L x (.of (⟨some p⟩:eV))) (hm:(⟨some p,.map dq⟩:aF)∈L):
 bO c E L ⟨d,.call ⟨.builtin .len,#[x],#[t]⟩,ty,pos,af,g⟩ (.of (dq.length:Int)):= .pure fun a W s=>by
 obtain⟨es,clock,a6,ad,ax,aR⟩:=s.Ch hm
 have nz:=tn.1 (ak a W s)
 have bx:(getObj p).run c.P W= .ok (.map es clock) W:=by simp [getObj,Sem.run,a6]
 have ar:es.size=dq.length:=by simpa using ad.length
 refine⟨.int .i64 dq.length,?_,of_int.2 rfl⟩
 simp [execOp,resolve,invoke,builtin,Builtin.len_,nz,bx,ar,run_underlying hu,goInt]
end
theorem SE {P:Program} {t:TypeId} (h:P.underlying t=some (.int .i64)):m0 P t Int where
 check b A W u x ak:=Jf (α:=Int) h rfl b 10000 A W u x (by decide) ak
 same A W u v x y ak a7:=by
  have:=(J6 h).run 10000 (by decide) A W u v x y ak a7
  simpa [Op.equal,Op.maxDepth] using this
 now:=⟨_,h,fun A W u v x y ak a7=> .inr (by
  rw [of_int.1 ak,of_int.1 a7]
  simp only [Instr.sameNow,if_pos]
  rfl)⟩
theorem KM {P:Program} {t:TypeId} {α:Type} [ae α] [DecidableEq α] {D:TypeDesc} {n m:Nat} (h:P.underlying t=some D) (kd:(match (motive:=TypeDesc→Bool) D with | .array _ _ | .struct _=>true | _=>false)=true) (XM:p4 P t α n) (uV:lk P t α m) (aL:Nat.ble n 10000=true) (hm:Nat.ble m 10000=true):m0 P t α where
 check b A W u x ak:=XM b 10000 A W u x (Nat.le_of_ble_eq_true aL) ak
 same A W u v x y ak a7:=by
  have:=uV.run 10000 (Nat.le_of_ble_eq_true hm) A W u v x y ak a7
  simpa [Op.equal,Op.maxDepth] using this
 now:=⟨_,h,fun A W u v x y ak a7=> .inl (by cases D <;> simp at kd <;> rfl)⟩
end Gv
namespace Gv
open Go
set_option linter.unusedVariables false
set_option linter.unusedSimpArgs false
structure iU (P:Program) (t:TypeId) (name:String) (f:FuncId):Prop where
 run:∀ v W args,(callMethod (.iface t v) name args).run P W= .ok (.enter f (#[v] ++ args)) W
theorem iU.of {P:Program} {t:TypeId} {name:String} {f:FuncId} {i:TypeInfo} {D:TypeDesc} {m:Method} (aq:P.info? t=some i) (hm:i.methods.find? (fun x=>x.name ==name)=some m) (hp:m.path= #[]) (a0:m.func=some (f,false)) (kd:P.underlying t=some D)
 (aL:(match (motive:=TypeDesc→Bool) D with | .pointer _=>false | _=>true)=true) (ea:bR P f):iU P t name f where
 run v W args:=by
  have WY:∀ args,(callFunc f args).run P W= .ok (.enter f args) W:=fun args=>ea.run ..
  have ek:∀ n,(method (n + 1) t v name).run P W= .ok (f,v) W:=fun n=>by
   simp only [method,Sem.run_bind,typeInfo,run_program,Result.andThen_ok,aq,Sem.run_pure,hm,hp,a0,follow,receiverAt,run_underlying kd]
   cases D <;> simp at aL <;> simp [Place.get]
  obtain⟨n,aL⟩:∃ n,P.types.size + Made.depth=n + 1:=⟨P.types.size + Made.depth - 1,by simp [Made.depth]⟩
  simp only [callMethod,Sem.run_bind,run_program,Result.andThen_ok,aL,ek,WY]
theorem iU.q9 {P:Program} {t:TypeId} {name:String} {f:FuncId} {D:TypeDesc} (hm:((P.info? t).bind fun i=>(i.methods.find? (fun x=>x.name ==name)).map fun m=>(m.path.size,m.func))=some (0,some (f,false))) (kd:P.underlying t=some D)
 (aL:(match (motive:=TypeDesc→Bool) D with | .pointer _=>false | _=>true)=true) (ea:bR P f):iU P t name f:=by
 cases aq:P.info? t with
 | none=>rw [aq] at hm; cases hm
 | some i=>
   rw [aq] at hm
   simp only [Option.bind_some] at hm
   cases ad:i.methods.find? (fun x=>x.name ==name) with
   | none=>rw [ad] at hm; cases hm
   | some m=>
     rw [ad] at hm
     simp only [Option.map_some,Option.some.injEq,Prod.mk.injEq] at hm
     exact iU.of aq ad (Array.eq_empty_of_size_eq_zero hm.1) hm.2 kd aL ea
theorem bF.map {P:Program} {f:FuncId} {τs:List I} {Lin:List aF} {δ G4:Type} {ρ:δ→I} {Lo:δ→List aF} {Nd:G4→I} {Nf:G4→List aF} (F:δ→G4) (aQ:∀ d,Nd (F d)=ρ d) (ar:∀ d,Nf (F d)=Lo d) (h:bF P f τs Lin ρ Lo):bF P f τs Lin Nd Nf:=
 fun A W vs J ad ax aR aW=>(h A W vs J ad ax aR aW).mono fun e W' ⟨v,d,aM,eK,eu,lr,cY,kD⟩=>⟨v,F d,aM,eK,by rw [ar]; exact eu,by rw [ar]; exact lr,by rw [ar]; exact cY,by rw [ar,aQ]; exact kD⟩
structure k1 (P:Program) (name:String) (τ:I) (τs:List I) (Lin:List aF) {δ:Type} (ρ:δ→I) (Lo:δ→List aF):Prop where
 go:∀ (A:List Nat) (W:World) (u:Value) (vs:List Value),(∀ k∈A,k < W.heap.size∧k ∉ aJ Lin)→ (aJ Lin).Nodup→ (∀ k∈aJ Lin,k < W.heap.size)→ (∀ e∈Lin,e.ok (aJ Lin ++ A) W)→fM (aJ Lin ++ A) W (τ :: τs) (u :: vs)→
  ∃ f v,(∀ args,(callMethod u name args).run P W= .ok (.enter f (#[v] ++ args)) W)∧Calls P f (v :: vs).toArray W (jL (aJ Lin) A W ρ Lo)
theorem k1.of {P:Program} {name:String} {t:TypeId} {f:FuncId} {τ σ:I} {τs:List I} {Lin:List aF} {δ:Type} {ρ:δ→I} {Lo:δ→List aF} (mt:iU P t name f) (G5:∀ A W u,τ.holds A W u→ ∃ v,u= .iface t v∧σ.holds A W v)
 (h:bF P f (σ :: τs) Lin ρ Lo):k1 P name τ τs Lin ρ Lo where
 go A W u vs J ad ax aR aW:=by
  cases aW with
  | cons bc cn=>
    obtain⟨v,rfl,eo⟩:=G5 _ _ _ bc
    exact⟨f,v,fun args=>mt.run v W args,h A W (v :: vs) J ad ax aR (.cons eo cn)⟩
section
variable {c:cT} {E:List (Nat × I)} {L:List aF} {ops:Array Oper} {Q:Exit→Act→World→Prop}
variable {d:Option Tmp} {ty:TypeId} {pos:String} {af:Array Edge} {g:Option (Nat × Bool)} {x y z:Operand} {t t2:TypeId}
theorem Jx {a:Act} {W:World} {name:String} {xs:List Operand} {ats:Array TypeId} {τ:I} {τs:List I} {Lin Lr:List aF} {δ:Type} {ρ:δ→I} {Lo:δ→List aF} (h:k1 c.P name τ τs Lin ρ Lo)
 (s:bs c E (Lin ++ Lr) a W) (ak:fM (aJ (Lin ++ Lr) ++ c.bM) W (τ :: τs) ((x :: xs).map a.eval)):
 fR c.P ⟨d,.call ⟨.invoke x name,xs.toArray,ats⟩,ty,pos,af,g⟩ a W fun v W'=> ∃ a9,bs c E (Lo a9 ++ Lr) a W'∧ (ρ a9).holds (aJ (Lo a9 ++ Lr) ++ c.bM) W' v:=by
 have k7:=s.nodup
 rw [eF] at k7
 obtain⟨iO,ln,o6⟩:=List.nodup_append.1 k7
 have kN:Ext (aJ (Lin ++ Lr) ++ c.bM) W (aJ Lin ++ (aJ Lr ++ c.bM)) W:=yk
 have fk:∀ k∈aJ Lr ++ c.bM,k < W.heap.size∧k ∉ aJ Lin:=fun k hm=>by
  rcases List.mem_append.1 hm with hm | hm
  ·exact⟨s.lt k (by rw [eF]; exact List.mem_append.2 (.inr hm)),fun h=>o6 k h k hm rfl⟩
  ·obtain⟨J,ad⟩:=s.eC k hm
   exact⟨J,fun h=>ad (by rw [eF]; exact List.mem_append.2 (.inl h))⟩
 have b5:∀ k∈aJ Lin,k < W.heap.size:=fun k hm=>s.lt k (by rw [eF]; exact List.mem_append.2 (.inl hm))
 obtain⟨f,v,jg,aj⟩:=h.go (aJ Lr ++ c.bM) W (a.eval x) (xs.map a.eval) fk iO b5 (fun e he=>aF.rN (s.own e (List.mem_append.2 (.inl he))) kN fun _ _=>rfl) (by simpa using ak.mono kN)
 refine .te (f:=f) (args:=(v :: xs.map a.eval).toArray) (W':=W) ?_ (aj.mono fun e W' ⟨v,a9,he,a0,J,ad,ax,aR⟩=> ?_)
 ·have:=jg (xs.map a.eval).toArray
  simp only [execOp,resolve,Sem.run_bind,Sem.run_pure,Result.andThen_ok,invoke]
  simp only [List.map_toArray] at this ⊢
  simp
  rw [List.take_of_length_le (by simp),this]
  simp
 ·refine⟨v,he,a9,s.after a0 J ad ax,(ρ a9).mono EI aR⟩
variable {bN:Type} [eI bN] {hp:aI bN}
theorem ag.y9 {rest:List Oper} {a9:Nat} {name:String} {xs:List Operand} {ats:Array TypeId} {τ:I} {τs:List I} {Lin Lr:List aF} {δ:Type} {ρ:δ→I} {Lo:δ→List aF} {hq:δ→aI bN} (n m:Nat) (an:L.drop n=aY hp) (h:k1 c.P name τ τs (Lin ++ aY hp) ρ (fun d=>Lo d ++ aY (hq d)))
 (J:(L.take n).take m=Lin) (ad:(L.take n).drop m=Lr) (ak:gV c E L (x :: xs) (τ :: τs)) (aL:Nat.blt a9 c.n=true) (k:∀ q,ag c ops Q rest ((a9,ρ q) :: E) ((Lo q ++ Lr) ++ aY (hq q))):
 ag c ops Q (⟨some a9,.call ⟨.invoke x name,xs.toArray,ats⟩,ty,pos,af,none⟩ :: rest) E L:=by
 have e:L=(Lin ++ Lr) ++ aY hp:=by rw [← J,← ad,List.take_append_drop,← an,List.take_append_drop]
 clear an J ad
 subst e
 exact fun a W s=>hA rfl (Jx (Lr:=Lr) h (s.perm mu) ((ak.holds a W s).mono (lU mu))) fun v W' ⟨q,bW,a3⟩=>
  k q _ _ ((bW.perm mu).put (by simpa using aL) ((ρ q).mono (lU mu) a3))
theorem eP.y9 {name:String} {xs:List Operand} {ats:Array TypeId} {τ:I} {τs:List I} {ρ:I} (n:Nat) (an:L.drop n=aY hp) (h:k1 c.P name τ τs (aY hp) (fun _:Unit=>ρ) (fun _=>aY hp))
 (ak:gV c E L (x :: xs) (τ :: τs)):eP c E L ⟨d,.call ⟨.invoke x name,xs.toArray,ats⟩,ty,pos,af,g⟩ ρ:=fun a W s=>by
 have e:L=L.take n ++ aY hp:=by rw [← an,List.take_append_drop]
 have cX:L.Perm (aY hp ++ L.take n):=by
  conv=>lhs; rw [e]
  exact List.perm_append_comm
 have a6:=Jx (d:=d) (ty:=ty) (pos:=pos) (af:=af) (g:=g) (ats:=ats) (Lr:=L.take n) h (s.perm cX) ((ak.holds a W s).mono (lU cX))
 unfold fR at a6 ⊢
 exact Oper.wp_mono (fun fK W' ⟨v,J,_,ad,ax⟩=>⟨v,J,ad.perm cX.symm,ρ.mono (lU cX.symm) ax⟩) a6
theorem Fb {D:TypeDesc} {σ τ:I} (hu:c.P.underlying t=some D) (kd:(match (motive:=TypeDesc→Bool) D with | .interface _=>false | _=>true)=true) (ak:a4 c E L x σ) (G5:∀ A W v,σ.holds A W v→τ.holds A W (.iface t v)):
 bO c E L ⟨d,.makeInterface t x,ty,pos,af,g⟩ τ:= .pure fun a W s=>
 ⟨.iface t (a.eval x),by
   simp only [execOp,Instr.makeInterface,Sem.run_bind,run_underlying hu,Result.andThen_ok]
   cases D <;> simp at kd <;> rfl,G5 _ _ _ (ak a W s)⟩
end
end Gv
