/-
  The library of the decompiler, as far as it is needed here. Conditions: none.
-/
import Derived.Lib.AppendZerosOnto
import Derived.Lib.Overlaps
import Derived.MapKept
import Derived.Test.YtmnggbjcnoffeaaGreatMl0
namespace Gv
open Go
set_option linter.unusedVariables false
set_option linter.unusedSimpArgs false
def iQ:Value:= .slice none 0 0
def blank:List (Nat × Value)→List Value→List Value
 | [],cs=>cs
 | o :: r,cs=>blank r (cs.set o.1 iQ)
theorem wY:∀ {os:List (Nat × Value)} {cs:List Value},(blank os cs).length=cs.length
 | [],_=>rfl
 | o :: r,cs=>by rw [blank,wY,List.length_set]
theorem oC:∀ {os:List (Nat × Value)} {cs:List Value} (i:Nat),(blank os cs)[i]? =if os.any (fun h=>Nat.beq h.1 i)=true then cs[i]?.map (fun _=>iQ) else cs[i]?
 | [],_,i=>by simp [blank]
 | o :: r,cs,i=>by
   rw [blank,oC i,List.any_cons]
   by_cases h:o.1=i
   ·subst h
    simp only [Nat.beq_refl,Bool.true_or,if_true,List.getElem?_set]
    by_cases aq:o.1 < cs.length
    ·simp [aq]
    ·simp [aq]
   ·have hb:Nat.beq o.1 i=false:=by
     cases hb:Nat.beq o.1 i
     ·rfl
     ·exact absurd (eF.1 hb) h
    rw [hb,Bool.false_or,List.getElem?_set_ne h]
def q3 (os:List (Nat × Value)) (off n:Nat):Bool:=os.all fun h=>Nat.blt h.1 off || Nat.ble (off + n) h.1
theorem Is {os:List (Nat × Value)} {off n i:Nat} (h:q3 os off n=true) (J:off≤i) (ab:i < off + n):os.any (fun h=>Nat.beq h.1 i)=false:=by
 rw [List.any_eq_false]
 intro x an hb
 have aC:=List.all_eq_true.1 h x an
 have aU:=eF.1 hb
 simp only [Bool.or_eq_true,Nat.blt_eq,Nat.ble_eq] at aC
 omega
theorem PR {os:List (Nat × Value)} {off n:Nat} {cs:List Value} (h:q3 os off n=true):((blank os cs).drop off).take n=(cs.drop off).take n:=by
 apply List.ext_getElem?
 intro i
 simp only [List.getElem?_take,List.getElem?_drop]
 split
 ·rw [oC,Is h (by omega) (by omega)]; rfl
 ·rfl
theorem sf {cs ds:List Value} {off:Nat} (h:off + ds.length≤cs.length) (i:Nat):(fm cs off ds)[i]? =if i < off then cs[i]? else if i < off + ds.length then ds[i - off]? else cs[i]? :=by
 have J:(cs.take off).length=off:=by rw [List.length_take]; omega
 unfold fm
 rw [List.append_assoc]
 by_cases al:i < off
 ·rw [if_pos al,List.getElem?_append_left (by omega),List.getElem?_take,if_pos al]
 ·rw [if_neg al,List.getElem?_append_right (by omega),J]
  by_cases ab:i < off + ds.length
  ·rw [if_pos ab,List.getElem?_append_left (by omega)]
  ·rw [if_neg ab,List.getElem?_append_right (by omega),List.getElem?_drop]
   congr 1; omega
theorem OM {os:List (Nat × Value)} {off:Nat} {cs ds:List Value} (h:q3 os off ds.length=true) (hs:off + ds.length≤cs.length):blank os (fm cs off ds)=fm (blank os cs) off ds:=by
 apply List.ext_getElem?
 intro i
 rw [oC,sf hs,sf (by rw [wY]; exact hs),oC]
 by_cases J:i < off
 ·simp only [if_pos J]
 ·simp only [if_neg J]
  by_cases ab:i < off + ds.length
  ·simp only [if_pos ab,Is h (Nat.not_lt.1 J) ab]; rfl
  ·simp only [if_neg ab]
def qY (os:List (Nat × Value)) (o:Nat) (u:Value):List (Nat × Value):=
 bif os.any (fun h=>Nat.beq h.1 o) then os.map (fun h=>bif Nat.beq h.1 o then(o,u) else h) else(o,u) :: os
theorem O4 {os:List (Nat × Value)} {o:Nat} {u:Value} {h:Nat × Value} (hm:h∈qY os o u):h=(o,u)∨ (h∈os∧h.1≠o):=by
 unfold qY at hm
 cases hb:os.any (fun h=>Nat.beq h.1 o)
 ·rw [hb] at hm
  simp only [cond_false] at hm
  rcases List.mem_cons.1 hm with hm | hm
  ·exact .inl hm
  ·refine .inr ⟨hm,fun e=> ?_⟩
   have:=List.any_eq_false.1 hb h hm
   exact this (eF.2 e)
 ·rw [hb] at hm
  simp only [cond_true] at hm
  obtain⟨x,an,he⟩:=List.mem_map.1 hm
  cases J:Nat.beq x.1 o
  ·rw [J] at he
   simp only [cond_false] at he
   subst he
   exact .inr ⟨an,fun e=>by rw [eF.2 e] at J; cases J⟩
  ·rw [J] at he
   exact .inl he.symm
theorem O5 {os:List (Nat × Value)} {o i:Nat} {u:Value} :(qY os o u).any (fun h=>Nat.beq h.1 i)=(Nat.beq o i || os.any (fun h=>Nat.beq h.1 i)):=by
 unfold qY
 cases hb:os.any (fun h=>Nat.beq h.1 o)
 ·simp only [cond_false,List.any_cons]
 ·simp only [cond_true,List.any_map]
  rw [Bool.eq_iff_iff,Bool.or_eq_true,List.any_eq_true,List.any_eq_true]
  constructor
  ·rintro ⟨x,an,he⟩
   simp only [Function.comp] at he
   cases J:Nat.beq x.1 o
   ·rw [J] at he
    exact .inr ⟨x,an,he⟩
   ·rw [J] at he
    exact .inl he
  ·rintro (h | ⟨x,an,he⟩)
   ·obtain⟨x,an,J⟩:=List.any_eq_true.1 hb
    exact⟨x,an,by simp only [Function.comp,J,cond_true]; exact h⟩
   ·refine⟨x,an,?_⟩
    simp only [Function.comp]
    cases J:Nat.beq x.1 o
    ·exact he
    ·have az:=eF.1 J; have aX:=eF.1 he
     simp only [cond_true]; exact eF.2 (by omega)
def l1 (os:List (Nat × Value)) (o:Nat):List (Nat × Value):=os.filter (fun h=> !Nat.beq h.1 o)
theorem O6 {os:List (Nat × Value)} {o i:Nat} :(l1 os o).any (fun h=>Nat.beq h.1 i)=(!(Nat.beq o i) && os.any (fun h=>Nat.beq h.1 i)):=by
 rw [Bool.eq_iff_iff]
 simp only [List.any_eq_true,Bool.and_eq_true,Bool.not_eq_true',l1,List.mem_filter]
 constructor
 ·rintro ⟨x,⟨J,ab⟩,aC⟩
  refine⟨?_,x,J,aC⟩
  cases hb:Nat.beq o i
  ·rfl
  ·have:=eF.1 hb; have aU:=eF.1 aC
   rw [aU,← this,Nat.beq_refl] at ab; cases ab
 ·rintro ⟨bJ,x,J,aC⟩
  refine⟨x,⟨J,?_⟩,aC⟩
  cases hb:Nat.beq x.1 o
  ·rfl
  ·have:=eF.1 hb; have aU:=eF.1 aC
   rw [← this,aU,Nat.beq_refl] at bJ; cases bJ
def jV {α:Type} [ad α] (A:List Nat) (W:World) (cs:List Value) (x:α) (os:List (Nat × Value)):Prop:=ad.rep A W (blank os cs) x∧ ∀ h∈os,cs[h.1]? =some h.2∧h.2.oneCell'=true
theorem jV.len {α:Type} [ad α] {A W} {cs:List Value} {x:α} {os:List (Nat × Value)} (h:jV A W cs x os):cs.length=ad.size α:=by rw [← wY (os:=os)]; exact ad.len h.1
theorem jV.mono {α:Type} [ad α] {A W cH W'} {cs:List Value} {x:α} {os:List (Nat × Value)} (e:Ext A W cH W') (h:jV A W cs x os):jV cH W' cs x os:=⟨ad.mono e h.1,h.2⟩
theorem jV.one {α:Type} [ad α] {A W} {cs:List Value} {x:α} {os:List (Nat × Value)} (h:jV A W cs x os):∀ u∈cs,u.oneCell'=true:=by
 intro u hu
 obtain⟨i,al⟩:=List.mem_iff_getElem?.1 hu
 by_cases hb:os.any (fun h=>Nat.beq h.1 i)=true
 ·obtain⟨o,bm,he⟩:=List.any_eq_true.1 hb
  have he:=eF.1 he
  obtain⟨J,ab⟩:=h.2 o bm
  rw [he,al] at J
  cases J; exact ab
 ·have J:=oC (os:=os) (cs:=cs) i
  rw [if_neg hb,al] at J
  exact ad.one h.1 u (List.mem_of_getElem? J)
def dn.cj {α:Type} [ad α] (x:α) (os:List (Nat × Value)):dn where
 holds A W o:= ∃ cs T,o= .cells cs T (0,0)∧jV A W cs.toList x os
 l7:=False
 mono e h:=let⟨cs,T,bm,aS⟩:=h; ⟨cs,T,bm,aS.mono e⟩
def I.Gg {α:Type} [ad α] (x:α) (os:List (Nat × Value)):I where
 holds A W v:=shaped (ad.agg α) v∧jV A W v.cells.toList x os
 mono e h:=⟨h.1,h.2.mono e⟩
structure fc where
 v:Value
instance:ad fc where
 size:=1
 agg:=false
 rep _ _ cs x:=cs= [x.v]∧x.v.oneCell'=true
 len h:=by rw [h.1]; rfl
 one h:=by rw [h.1]; intro u hu; rw [List.mem_singleton.1 hu]; exact h.2
 flat _:=rfl
 mono _ h:=h
theorem Le {A W v} {u:Value} :(I.of (⟨u⟩:fc)).holds A W v↔v=u∧u.oneCell'=true:=by
 constructor
 ·rintro ⟨J,ab,aC⟩
  have J:v.oneCell'=true:=J
  exact⟨na J ab,aC⟩
 ·rintro ⟨rfl,h⟩
  exact⟨h,by show v.cells.toList= [v]∧_; rw [nb h]; exact⟨rfl,h⟩⟩
theorem bt.ex {P:Program} {t:TypeId} {γ:Type} [ad γ] (h:bt P t (List γ)):bt P t fc:=⟨h.size,h.Md⟩
theorem hO {key:Option Nat} {n cap:Nat} :(aV key n cap).oneCell'=true:=by cases key <;> rfl
theorem Q4 {A W} {γ:Type} [ad γ]:ad.rep A W [iQ] ([]:List γ):=⟨iQ,rfl,.inl ⟨rfl,rfl⟩⟩
theorem I9 {α γ:Type} [ad α] [ad γ] {A W} {cs ds:List Value} {x:α} {v:γ} {os:List (Nat × Value)} (l:aL α γ) (h:jV A W cs x os) (hd:ad.rep A W ds v) (bh:q3 os l.off (ad.size γ)=true):jV A W (fm cs l.off ds) (l.set x v) os:=by
 have J:=h.len
 have eQ:=l.fC
 have aq:=ad.len hd
 refine⟨?_,fun o hm=> ?_⟩
 ·have bn:=l.jO h.1 hd
  rw [OM (by rw [aq]; exact bh) (by rw [aq]; omega)]
  simpa [fm,aq] using bn
 ·refine⟨?_,(h.2 o hm).2⟩
  rw [sf (by rw [aq]; omega)]
  have cE:=List.all_eq_true.1 bh o hm
  simp only [Bool.or_eq_true,Nat.blt_eq,Nat.ble_eq] at cE
  rw [aq]
  by_cases dW:o.1 < l.off
  ·rw [if_pos dW]; exact(h.2 o hm).1
  ·rw [if_neg dW,if_neg (by omega)]; exact(h.2 o hm).1
theorem IU {α γ:Type} [ad α] [ad γ] {A W} {cs:List Value} {x:α} {u:Value} {os:List (Nat × Value)} (l:aL α (List γ)) (h:jV A W cs x os) (hu:u.oneCell'=true):jV A W (fm cs l.off [u]) (l.set x []) (qY os l.off u):=by
 have J:=h.len
 have eQ:l.off + 1≤ad.size α:=l.fC
 refine⟨?_,fun o hm=> ?_⟩
 ·have bn:ad.rep A W ((blank os cs).take l.off ++ [iQ] ++ (blank os cs).drop (l.off + 1)) (l.set x []):=l.jO h.1 (Q4 (γ:=γ))
  have e:blank (qY os l.off u) (fm cs l.off [u])=fm (blank os cs) l.off [iQ]:=by
   apply List.ext_getElem?
   intro i
   rw [oC,sf (by simp; omega),sf (by rw [wY]; simp; omega),oC]
   rw [O5]
   by_cases al:l.off=i
   ·subst al
    simp
   ·have hb:Nat.beq l.off i=false:=by
     cases hb:Nat.beq l.off i
     ·rfl
     ·exact absurd (eF.1 hb) al
    rw [hb]
    simp only [Bool.false_or,List.length_singleton]
    by_cases ab:i < l.off
    ·simp only [if_pos ab]
    ·have fl: ¬ i < l.off + 1:=by omega
     simp only [if_neg ab,if_neg fl]
  rw [e]
  simpa [fm] using bn
 ·rw [sf (by simp; omega)]
  rcases O4 hm with rfl | ⟨aC,dv⟩
  ·exact⟨by simp,hu⟩
  ·
   simp only [List.length_singleton]
   refine⟨?_,(h.2 o aC).2⟩
   by_cases dW:o.1 < l.off
   ·rw [if_pos dW]; exact(h.2 o aC).1
   ·rw [if_neg dW,if_neg (by omega)]; exact(h.2 o aC).1
theorem IV {α γ:Type} [ad α] [ad γ] {A W} {cs:List Value} {x:α} {u:Value} {xs:List γ} {os:List (Nat × Value)} (l:aL α (List γ)) (h:jV A W cs x os) (hm:(l.off,u)∈os) (hs:mv A W u xs):jV A W cs (l.set x xs) (l1 os l.off):=by
 have J:=h.len
 have eQ:l.off + 1≤ad.size α:=l.fC
 have VI:=(h.2 _ hm).1
 refine⟨?_,fun o bm=>h.2 o (List.mem_filter.1 bm).1⟩
 have bn:ad.rep A W ((blank os cs).take l.off ++ [u] ++ (blank os cs).drop (l.off + 1)) (l.set x xs):=l.jO h.1 (ds:= [u]) (g:=xs) ⟨u,rfl,hs⟩
 have e:blank (l1 os l.off) cs=fm (blank os cs) l.off [u]:=by
  apply List.ext_getElem?
  intro i
  rw [oC,sf (by rw [wY]; simp; omega),oC,O6]
  by_cases al:l.off=i
  ·subst al
   simp [VI]
  ·have hb:Nat.beq l.off i=false:=by
    cases hb:Nat.beq l.off i
    ·rfl
    ·exact absurd (eF.1 hb) al
   rw [hb]
   simp only [Bool.not_false,Bool.true_and,List.length_singleton]
   by_cases ab:i < l.off
   ·simp only [if_pos ab]
   ·have fl: ¬ i < l.off + 1:=by omega
    simp only [if_neg ab,if_neg fl]
 rw [e]
 simpa [fm] using bn
section
variable {c:cU} {E:List (Nat × I)} {L:List aH} {ops:Array Oper} {Q:Exit→Act→World→Prop}
variable {d:Option Tmp} {ty:TypeId} {pos:String} {af:Array Edge} {g:Option (Nat × Bool)} {x y:Operand} {t t2:TypeId}
theorem bC.uR {a:Act} {W:World} (s:bC c E L a W) {i:Nat} {key:Option Nat} {cp cp':dn} (au:L[i]? =some ⟨key,cp⟩) (h:∀ o,cp.holds (aJ L ++ c.bP) W o→cp'.holds (aJ L ++ c.bP) W o) (aO:cp.l7→cp'.l7):bC c E (L.set i ⟨key,cp'⟩) a W:=by
 have gq:aJ (L.set i ⟨key,cp'⟩)=aJ L:=uO (e:=⟨key,cp⟩) (cp:=cp') au
 exact
 {defers:=s.defers
  size:=s.size
  env:=fun t τ aq=>by rw [gq]; exact s.env t τ aq
  dd:=s.dd
  own:=fun e he=>by
   rw [gq]
   obtain⟨j,aF⟩:=List.mem_iff_getElem?.1 he
   rw [List.getElem?_set] at aF
   split at aF
   ·split at aF
    ·simp only [Option.some.injEq] at aF
     subst aF
     have bm:=s.own _ (List.mem_of_getElem? au)
     cases key with
     | none=>exact aO bm
     | some p=>obtain⟨o,J,ab⟩:=bm; exact⟨o,J,h _ ab⟩
    ·cases aF
   ·exact s.own e (List.mem_of_getElem? aF)
  nodup:=by rw [gq]; exact s.nodup
  lt:=by rw [gq]; exact s.lt
  fs:=by rw [gq]; exact s.fs
  er:=by rw [gq]; exact s.er }
theorem ah.mI {l:List Oper} {p:Nat} {β:Type} [ad β] {b:β} (i:Nat) (au:L[i]? =some ⟨some p,.cj b []⟩) (k:ah c ops Q l E (L.set i ⟨some p,.var b⟩)):ah c ops Q l E L:=fun a W s=>
 k a W (s.uR au (fun o ⟨cs,T,J,ab⟩=>⟨cs,T,J,ab.1⟩) id)
theorem ag.mI {z:Exit} {p:Nat} {β:Type} [ad β] {b:β} (i:Nat) (au:L[i]? =some ⟨some p,.cj b []⟩) (k:ag c Q z E (L.set i ⟨some p,.var b⟩)):ag c Q z E L:=fun a W s=>
 k a W (s.uR au (fun o ⟨cs,T,J,ab⟩=>⟨cs,T,J,ab.1⟩) id)
theorem ai.mI {z:Code} {p:Nat} {β:Type} [ad β] {b:β} (i:Nat) (au:L[i]? =some ⟨some p,.cj b []⟩) (k:ai c Q z E (L.set i ⟨some p,.var b⟩)):ai c Q z E L:=fun a W s=>
 k a W (s.uR au (fun o ⟨cs,T,J,ab⟩=>⟨cs,T,J,ab.1⟩) id)
def Ek:Option Value→Bool
 | some (.slice none 0 0)=>true
 | _=>false
theorem It {v:Option Value} (h:Ek v=true):v=some iQ:=by
 unfold Ek at h
 split at h
 ·rfl
 ·cases h
def iW (P:Program) (t:TypeId) (hs:List Nat):Prop:=((P.info? t).bind (·.zero)).any (fun v=>hs.all fun o=>Ek v.cells.toList[o]?)=true
theorem Dj:∀ {os:List (Nat × Value)} {cs:List Value},(∀ h∈os,cs[h.1]? =some iQ)→blank os cs=cs
 | [],_,_=>rfl
 | o :: r,cs,h=>by
   have J:=h o (by simp)
   have e:cs.set o.1 iQ=cs:=by
    apply List.ext_getElem?
    intro i
    rw [List.getElem?_set]
    split
    ·rename_i he; subst he
     have:=(List.getElem?_eq_some_iff.1 J).1
     rw [if_pos this,J]
    ·rfl
   rw [blank,e]
   exact Dj fun x an=>h x (by simp [an])
theorem ah.nU {rest:List Oper} {a6:Nat} {α:Type} [ad α] {z:α} (hs:List Nat) (qu:iW c.P t hs) (fN:cx c.P t z) (aO:Nat.blt a6 c.n=true)
 (k:∀ p,ah c ops Q rest ((a6,.eq (.pointer (some ⟨p,0,none⟩))) :: E) (⟨some p,.cj z (hs.map fun o=>(o,iQ))⟩ :: L)):ah c ops Q (⟨some a6,.alloc t,ty,pos,af,none⟩ :: rest) E L:=fun a W s=>by
 obtain⟨i,dB,J,ab,aC⟩:=fN.zero
 have ct:∀ o∈hs,dB.cells.toList[o]? =some iQ:=fun o bm=>by
  unfold iW at qu
  rw [J] at qu
  simp only [Option.bind_some,ab,Option.any_some] at qu
  exact It (List.all_eq_true.1 qu o bm)
 have Ml:∀ h∈hs.map (fun o=>(o,iQ)),dB.cells.toList[h.1]? =some h.2:=fun h hm=>by
  obtain⟨o,bm,rfl⟩:=List.mem_map.1 hm
  exact ct o bm
 refine hH rfl (R:=fun v W'=>v= .pointer (some ⟨W.heap.size,0,none⟩)∧W'=W.alloc (.cells dB.cells t)) (.lr ?_ ⟨rfl,rfl⟩) fun v W' ⟨aY,hw⟩=> ?_
 ·simp [execOp,Instr.alloc,zeroValue,typeInfo,J,ab,newVar,newRow]
 ·subst aY
  subst hw
  refine k _ _ _ ((s.alloc (cp:= .cj z (hs.map fun o=>(o,iQ))) ⟨dB.cells,t,rfl,?_,fun h hm=>⟨Ml h hm,by obtain⟨o,_,rfl⟩:=List.mem_map.1 hm; rfl⟩⟩).put (by simpa using aO) rfl)
  rw [Dj fun h hm=>by rw [Ml h hm]; obtain⟨o,_,rfl⟩:=List.mem_map.1 hm; rfl]
  exact(aC _ _).2
theorem ah.Uk {rest:List Oper} {a6:Nat} {α:Type} [ad α] {z:α} {os:List (Nat × Value)} (an:ba c E L x (.Gg z os)) (aO:Nat.blt a6 c.n=true)
 (k:∀ p,ah c ops Q rest ((a6,.eq (.pointer (some ⟨p,0,none⟩))) :: E) (⟨some p,.cj z os⟩ :: L)):ah c ops Q (⟨some a6,.box t x,ty,pos,af,none⟩ :: rest) E L:=fun a W s=>by
 refine hH rfl (R:=fun v W'=>v= .pointer (some ⟨W.heap.size,0,none⟩)∧W'=W.alloc (.cells (a.eval x).cells t)) (.lr ?_ ⟨rfl,rfl⟩) fun v W' ⟨aY,hw⟩=> ?_
 ·simp [execOp,Instr.box,newVar,newRow]
 ·subst aY
  subst hw
  obtain⟨J,ab⟩:=an a W s
  exact k _ _ _ ((s.alloc (cp:= .cj z os) ⟨_,t,rfl,ab⟩).put (by simpa using aO) rfl)
theorem DQ {t:TypeId} {i p o:Nat} {β γ:Type} [ad β] [ad γ] {b:β} {os:List (Nat × Value)} (l:aL β γ) {r:γ} (dN:bt c.P t γ) (an:ba c E L x (.eq (.pointer (some ⟨p,o,none⟩))))
 (au:L[i]? =some ⟨some p,.cj b os⟩) (bm:o=l.off) (aS:l.get b=r) (bh:q3 os l.off (ad.size γ)=true):bX c E L ⟨d,.load t x,ty,pos,af,g⟩ (.of r):= .pure fun a W s=>by
 subst bm
 subst aS
 obtain⟨iI,dV,cs,T,rfl,ff⟩:=s.own _ (List.mem_of_getElem? au)
 have J:cs.toList.length=ad.size β:=ff.len
 have aZ:=l.hI ff.1
 rw [PR bh] at aZ
 obtain⟨v,ab,aC⟩:=r5 (A:=aJ L ++ c.bP) dN dV (by have:=l.fC; simp at J; omega) aZ
 refine⟨v,?_,aC⟩
 have aU:a.eval x=_:=an a W s
 simp [execOp,Instr.loadAt,Instr.sureAddr,aU,ab]
theorem Q5 {cs:List Value} {o:Nat} {u:Value} (h:cs[o]? =some u):(cs.drop o).take 1= [u]:=by
 apply List.ext_getElem?
 intro i
 rw [List.getElem?_take,List.getElem?_drop]
 cases i with
 | zero=>simpa using h
 | succ i=>simp
theorem ie {t:TypeId} {i p o q:Nat} {β γ:Type} [ad β] [ad γ] {b:β} {os:List (Nat × Value)} {u:Value} (dN:bt c.P t (List γ)) (an:ba c E L x (.eq (.pointer (some ⟨p,o,none⟩))))
 (au:L[i]? =some ⟨some p,.cj b os⟩) (hq:os[q]? =some (o,u)):bX c E L ⟨d,.load t x,ty,pos,af,g⟩ (.eq u):= .pure fun a W s=>by
 obtain⟨iI,dV,cs,T,rfl,ff,ct⟩:=s.own _ (List.mem_of_getElem? au)
 obtain⟨aZ,hu⟩:=ct _ (List.mem_of_getElem? hq)
 have cq:o < cs.size:=by have:=(List.getElem?_eq_some_iff.1 aZ).1; simpa using this
 obtain⟨v,ab,aC⟩:=r5 (α:=fc) (x:=⟨u⟩) (A:=aJ L ++ c.bP) dN.ex dV (show o + 1≤cs.size by omega) ⟨Q5 aZ,hu⟩
 refine⟨v,?_,(Le.1 aC).1⟩
 have aU:a.eval x=_:=an a W s
 simp [execOp,Instr.loadAt,Instr.sureAddr,aU,ab]
theorem ah.q1 {t:TypeId} {rest:List Oper} {i p o:Nat} {β γ:Type} [ad β] [ad γ] {b b':β} {v:γ} {os:List (Nat × Value)} (l:aL β γ) (dN:bt c.P t γ) (an:ba c E L x (.eq (.pointer (some ⟨p,o,none⟩))))
 (a9:ba c E L y (.of v)) (au:L[i]? =some ⟨some p,.cj b os⟩) (bm:o=l.off) (hb:l.set b v=b') (bh:q3 os l.off (ad.size γ)=true)
 (k:ah c ops Q rest E (L.set i ⟨some p,.cj b' os⟩)):ah c ops Q (⟨none,.store t x y,ty,pos,af,none⟩ :: rest) E L:=fun a W s=>by
 subst bm
 subst hb
 obtain⟨iI,dV,cs,T,rfl,ff⟩:=s.own _ (List.mem_of_getElem? au)
 have J:cs.toList.length=ad.size β:=ff.len
 have eQ:=l.fC
 have aY:=a9 a W s
 have ab:=wM (A:=aJ L ++ c.bP) dN dV (off:=l.off) (by simp at J; omega) aY
 have aU:a.eval x=_:=an a W s
 refine hH rfl (R:=fun v W'=>W'=W.setRow p (fm cs.toList l.off (a.eval y).cells.toList).toArray) (.uG ?_ rfl) fun v W' hw=> ?_
 ·simp [execOp,Instr.storeAt,Instr.sureAddr,aU,ab]
 ·subst hw
  exact k _ _ (s.store au dV ⟨_,T,rfl,by rw [List.toList_toArray]; exact I9 l ff aY.2 bh⟩)
theorem ah.iz {t:TypeId} {rest:List Oper} {i p o:Nat} {β γ:Type} [ad β] [ad γ] {b b':β} {u:Value} {os os':List (Nat × Value)} (l:aL β (List γ)) (dN:bt c.P t (List γ)) (an:ba c E L x (.eq (.pointer (some ⟨p,o,none⟩))))
 (a9:ba c E L y (.eq u)) (hu:u.oneCell'=true) (au:L[i]? =some ⟨some p,.cj b os⟩) (bm:o=l.off) (hb:l.set b []=b') (jk:qY os o u=os')
 (k:ah c ops Q rest E (L.set i ⟨some p,.cj b' os'⟩)):ah c ops Q (⟨none,.store t x y,ty,pos,af,none⟩ :: rest) E L:=fun a W s=>by
 subst bm
 subst hb
 subst jk
 obtain⟨iI,dV,cs,T,rfl,ff⟩:=s.own _ (List.mem_of_getElem? au)
 have J:cs.toList.length=ad.size β:=ff.len
 have eQ:l.off + 1≤ad.size β:=l.fC
 have Mm:a.eval y=u:=a9 a W s
 have aY:(I.of (⟨u⟩:fc)).holds (aJ L ++ c.bP) W (a.eval y):=Le.2 ⟨Mm,hu⟩
 have ab:=wM (A:=aJ L ++ c.bP) dN.ex dV (off:=l.off) (show l.off + 1≤cs.size by simp at J; omega) aY
 have aU:a.eval x=_:=an a W s
 have kN:(a.eval y).cells.toList= [u]:=by rw [Mm,nb hu]
 rw [kN] at ab
 refine hH rfl (R:=fun v W'=>W'=W.setRow p (fm cs.toList l.off [u]).toArray) (.uG ?_ rfl) fun v W' hw=> ?_
 ·simp [execOp,Instr.storeAt,Instr.sureAddr,aU,ab]
 ·subst hw
  exact k _ _ (s.store au dV ⟨_,T,rfl,by rw [List.toList_toArray]; exact IU l ff hu⟩)
theorem Od {P:Program} {W:World} {b off:Nat} {cur:Array Value} {T t:TypeId} {α:Type} [ad α] {v:Value} (ty:bt P t α)
 (hb:W.heap[b]? =some (.cells cur T (0,0))) (hs:off + ad.size α≤cur.size) (aq:v.cells.toList.length=ad.size α) (J:∀ u∈v.cells.toList,u.oneCell'=true):
 (storeVar t ⟨b,off,none⟩ v).run P W= .ok () (W.setRow b (fm cur.toList off v.cells.toList).toArray):=by
 have ab:=run_storeCells_at P b off T v.cells.toList 0 cur W hb (by rw [aq]; omega) J
 have en:v.cells.size=ad.size α:=by simpa using aq
 simp only [Nat.add_zero] at ab
 simp only [storeVar,Sem.run_bind,ty.sizeOf,Result.andThen_ok,en]
 simp only [ne_eq,not_true_eq_false,↓reduceIte,Sem.run_pure,Sem.run_bind,Result.andThen_ok]
 simpa [fm] using ab
theorem ah.pE {t:TypeId} {rest:List Oper} {i p:Nat} {β:Type} [ad β] {b b':β} {os os':List (Nat × Value)} (dN:bt c.P t β) (an:ba c E L x (.eq (.pointer (some ⟨p,0,none⟩))))
 (a9:ba c E L y (.Gg b' os')) (au:L[i]? =some ⟨some p,.cj b os⟩)
 (k:ah c ops Q rest E (L.set i ⟨some p,.cj b' os'⟩)):ah c ops Q (⟨none,.store t x y,ty,pos,af,none⟩ :: rest) E L:=fun a W s=>by
 obtain⟨iI,dV,cs,T,rfl,ff⟩:=s.own _ (List.mem_of_getElem? au)
 have J:cs.toList.length=ad.size β:=ff.len
 obtain⟨ax,a1⟩:=a9 a W s
 have aq:=a1.len
 have ab:=Od dN dV (off:=0) (by simp at J; omega) aq a1.one
 have aU:a.eval x=_:=an a W s
 have e:fm cs.toList 0 (a.eval y).cells.toList=(a.eval y).cells.toList:=by
  unfold fm
  rw [List.take_zero,List.nil_append,Nat.zero_add,aq,← J,List.drop_length,List.append_nil]
 rw [e] at ab
 refine hH rfl (R:=fun v W'=>W'=W.setRow p (a.eval y).cells.toList.toArray) (.uG ?_ rfl) fun v W' hw=> ?_
 ·simp [execOp,Instr.storeAt,Instr.sureAddr,aU,ab]
 ·subst hw
  exact k _ _ (s.store au dV ⟨_,T,rfl,by rw [List.toList_toArray]; exact a1⟩)
theorem fw {p:Addr} (an:ba c E L x (.eq (.pointer (some p)))):bX c E L ⟨d,.nilCheck x,ty,pos,af,g⟩ (.eq (.pointer (some p))):= .pure fun a W s=>by
 have aU:a.eval x=_:=an a W s
 exact⟨_,by simp [execOp,aU],rfl⟩
theorem xz {γ:Type} [ad γ] {r:γ} (an:ba c E L x (.ptr r)):bX c E L ⟨d,.nilCheck x,ty,pos,af,g⟩ (.ptr r):= .pure fun a W s=>by
 have hp:=an a W s
 obtain⟨b,off,cur,T,g9,aU,aZ⟩:=hp
 exact⟨_,by simp [execOp,aU],b,off,cur,T,g9,rfl,aZ⟩
theorem bC.ih {a:Act} {W:World} (s:bC c E L a W) {i j p cap T:Nat} {key:Option Nat} {β γ:Type} [ad β] [ad γ] {b b':β} {xs:List γ} {os os':List (Nat × Value)} (l:aL β (List γ)) (eW:i≠j) (au:L[i]? =some ⟨some p,.cj b os⟩) (jI:L[j]? =some ⟨key,.row T xs cap⟩)
 (q:Nat) (hq:os[q]? =some (l.off,aV key xs.length cap)) (hb:l.set b xs=b') (jk:l1 os l.off=os'):bC c E ((L.set j ⟨none,.dead⟩).set i ⟨some p,.cj b' os'⟩) a W:=by
 subst hb
 subst jk
 have av:=s.kill j
 have al:(L.set j ⟨none,.dead⟩)[i]? =some ⟨some p,.cj b os⟩:=by rw [List.getElem?_set_ne (fun e=>eW e.symm)]; exact au
 have kH:=ua (L:=L) (i:=j) (cp:= .dead)
 have kM:mv (aJ (L.set j ⟨none,.dead⟩) ++ c.bP) W (aV key xs.length cap) xs:=by
  have bm:=s.own _ (List.mem_of_getElem? jI)
  cases key with
  | none=>exact .inl ⟨rfl,bm.1⟩
  | some p=>
    obtain⟨o,dV,cs,rfl,en,aO,nE,aS⟩:=bm
    obtain⟨aC,aU⟩:=Db en aO aS
    refine .inr ⟨p,0,cap,cs,T,(0,0),rfl,s.xg jI,dV,aO,by omega,aC,?_⟩
    exact aU.mono (.drop fun k hm=>by
     rcases List.mem_append.1 hm with hm | hm
     ·exact List.mem_append.2 (.inl (kH.subset hm))
     ·exact List.mem_append.2 (.inr hm))
 exact av.uR al (fun o ⟨cs,T,J,ab⟩=>⟨cs,T,J,IV l ab (List.mem_of_getElem? hq) kM⟩) id
theorem ah.ih {mw:List Oper} {p cap T:Nat} {key:Option Nat} {β γ:Type} [ad β] [ad γ] {b b':β} {xs:List γ} {os os':List (Nat × Value)} (l:aL β (List γ)) (i j q:Nat) (eW:Nat.beq i j=false) (au:L[i]? =some ⟨some p,.cj b os⟩) (jI:L[j]? =some ⟨key,.row T xs cap⟩)
 (hq:os[q]? =some (l.off,aV key xs.length cap)) (hb:l.set b xs=b') (jk:l1 os l.off=os') (k:ah c ops Q mw E ((L.set j ⟨none,.dead⟩).set i ⟨some p,.cj b' os'⟩)):ah c ops Q mw E L:=
 fun a W s=>k a W (s.ih l (fun e=>by rw [e,Nat.beq_refl] at eW; cases eW) au jI q hq hb jk)
theorem ag.ih {z:Exit} {p cap T:Nat} {key:Option Nat} {β γ:Type} [ad β] [ad γ] {b b':β} {xs:List γ} {os os':List (Nat × Value)} (l:aL β (List γ)) (i j q:Nat) (eW:Nat.beq i j=false) (au:L[i]? =some ⟨some p,.cj b os⟩) (jI:L[j]? =some ⟨key,.row T xs cap⟩)
 (hq:os[q]? =some (l.off,aV key xs.length cap)) (hb:l.set b xs=b') (jk:l1 os l.off=os') (k:ag c Q z E ((L.set j ⟨none,.dead⟩).set i ⟨some p,.cj b' os'⟩)):ag c Q z E L:=
 fun a W s=>k a W (s.ih l (fun e=>by rw [e,Nat.beq_refl] at eW; cases eW) au jI q hq hb jk)
theorem ai.ih {z:Code} {p cap T:Nat} {key:Option Nat} {β γ:Type} [ad β] [ad γ] {b b':β} {xs:List γ} {os os':List (Nat × Value)} (l:aL β (List γ)) (i j q:Nat) (eW:Nat.beq i j=false) (au:L[i]? =some ⟨some p,.cj b os⟩) (jI:L[j]? =some ⟨key,.row T xs cap⟩)
 (hq:os[q]? =some (l.off,aV key xs.length cap)) (hb:l.set b xs=b') (jk:l1 os l.off=os') (k:ai c Q z E ((L.set j ⟨none,.dead⟩).set i ⟨some p,.cj b' os'⟩)):ai c Q z E L:=
 fun a W s=>k a W (s.ih l (fun e=>by rw [e,Nat.beq_refl] at eW; cases eW) au jI q hq hb jk)
theorem bC.rf {a:Act} {W:World} (s:bC c E L a W) {i j p cap T eM:Nat} {key:Option Nat} {β γ:Type} [ad β] [ad γ] {b b':β} {xs:List γ} {os os':List (Nat × Value)} (l:aL β (List γ)) (eW:i≠j) (au:L[i]? =some ⟨some p,.cj b os⟩) (jI:L[j]? =some ⟨key,.row T xs cap⟩)
 (q:Nat) (hq:os[q]? =some (l.off,aV key xs.length cap)) (hb:l.set b xs=b') (jk:l1 os l.off=os') (kM:look E eM=some (.eq (aV key xs.length cap))):bC c ((eM,.of xs) :: E) ((L.set j ⟨none,.dead⟩).set i ⟨some p,.cj b' os'⟩) a W:=by
 have J:=s.freeze kM jI
 subst hb
 subst jk
 have al:(L.set j ⟨none,.dead⟩)[i]? =some ⟨some p,.cj b os⟩:=by rw [List.getElem?_set_ne (fun e=>eW e.symm)]; exact au
 obtain⟨v,ab,aC⟩:=J.env eM (.of xs) (by simp [look,Nat.beq_refl])
 obtain⟨Cz,aU,aZ⟩:=s.env eM _ kM
 rw [ab] at aU
 cases aU
 have aZ:v=_:=aZ
 subst aZ
 exact J.uR al (fun o ⟨cs,T,ax,a1⟩=>⟨cs,T,ax,IV l a1 (List.mem_of_getElem? hq) (ln.1 aC)⟩) id
theorem ah.rf {mw:List Oper} {p cap T:Nat} {key:Option Nat} {β γ:Type} [ad β] [ad γ] {b b':β} {xs:List γ} {os os':List (Nat × Value)} (l:aL β (List γ)) (i j q eM:Nat) (eW:Nat.beq i j=false) (au:L[i]? =some ⟨some p,.cj b os⟩) (jI:L[j]? =some ⟨key,.row T xs cap⟩)
 (hq:os[q]? =some (l.off,aV key xs.length cap)) (hb:l.set b xs=b') (jk:l1 os l.off=os') (kM:look E eM=some (.eq (aV key xs.length cap))) (k:ah c ops Q mw ((eM,.of xs) :: E) ((L.set j ⟨none,.dead⟩).set i ⟨some p,.cj b' os'⟩)):ah c ops Q mw E L:=
 fun a W s=>k a W (s.rf l (fun e=>by rw [e,Nat.beq_refl] at eW; cases eW) au jI q hq hb jk kM)
theorem ai.rf {z:Code} {p cap T:Nat} {key:Option Nat} {β γ:Type} [ad β] [ad γ] {b b':β} {xs:List γ} {os os':List (Nat × Value)} (l:aL β (List γ)) (i j q eM:Nat) (eW:Nat.beq i j=false) (au:L[i]? =some ⟨some p,.cj b os⟩) (jI:L[j]? =some ⟨key,.row T xs cap⟩)
 (hq:os[q]? =some (l.off,aV key xs.length cap)) (hb:l.set b xs=b') (jk:l1 os l.off=os') (kM:look E eM=some (.eq (aV key xs.length cap))) (k:ai c Q z ((eM,.of xs) :: E) ((L.set j ⟨none,.dead⟩).set i ⟨some p,.cj b' os'⟩)):ai c Q z E L:=
 fun a W s=>k a W (s.rf l (fun e=>by rw [e,Nat.beq_refl] at eW; cases eW) au jI q hq hb jk kM)
theorem ag.rf {z:Exit} {p cap T:Nat} {key:Option Nat} {β γ:Type} [ad β] [ad γ] {b b':β} {xs:List γ} {os os':List (Nat × Value)} (l:aL β (List γ)) (i j q eM:Nat) (eW:Nat.beq i j=false) (au:L[i]? =some ⟨some p,.cj b os⟩) (jI:L[j]? =some ⟨key,.row T xs cap⟩)
 (hq:os[q]? =some (l.off,aV key xs.length cap)) (hb:l.set b xs=b') (jk:l1 os l.off=os') (kM:look E eM=some (.eq (aV key xs.length cap))) (k:ag c Q z ((eM,.of xs) :: E) ((L.set j ⟨none,.dead⟩).set i ⟨some p,.cj b' os'⟩)):ag c Q z E L:=
 fun a W s=>k a W (s.rf l (fun e=>by rw [e,Nat.beq_refl] at eW; cases eW) au jI q hq hb jk kM)
inductive q4 (c:cU) (E:List (Nat × I)) (L:List aH) (place:Nat→Option (Nat × Nat)) {β:Type} [ad β]:β→List (Nat × Value)→List (Nat × Operand)→β→List (Nat × Value)→Prop
 | nil {b os} :q4 c E L place b os [] b os
 | cons {b eu b':β} {os os':List (Nat × Value)} {γ:Type} [ad γ] {v:γ} {i:Nat} {x:Operand} {r:List (Nat × Operand)} (l:aL β γ):place i=some (l.off,ad.size γ)→ba c E L x (.of v)→l.set b v=eu→q3 os l.off (ad.size γ)=true→q4 c E L place eu os r b' os'→q4 c E L place b os ((i,x) :: r) b' os'
 | hole {b eu b':β} {os Gh os':List (Nat × Value)} {γ:Type} [ad γ] {u:Value} {i:Nat} {x:Operand} {r:List (Nat × Operand)} (l:aL β (List γ)):place i=some (l.off,1)→ba c E L x (.eq u)→u.oneCell'=true→l.set b []=eu→qY os l.off u=Gh→q4 c E L place eu Gh r b' os'→q4 c E L place b os ((i,x) :: r) b' os'
theorem q4.run {place:Nat→Option (Nat × Nat)} {β:Type} [ad β] {b b':β} {os os':List (Nat × Value)} {bl:List (Nat × Operand)} (h:q4 c E L place b os bl b' os'):∀ a W,bC c E L a W→ ∀ cs:Array Value,jV (aJ L ++ c.bP) W cs.toList b os→
 ∃ dk,Instr.fill place cs (bl.map fun(i,x)=>(i,a.eval x))=some dk∧jV (aJ L ++ c.bP) W dk.toList b' os':=by
 induction h with
 | nil=>intro a W s cs aS; exact⟨cs,rfl,aS⟩
 | @cons b eu b' os os' γ _ v i x r l J ab aC aU _ bI=>
   intro a W s cs aS
   subst aC
   have aY:=ab a W s
   have en:(a.eval x).cells.size=ad.size γ:=by have:=ad.len aY.2; simpa using this
   have aq:cs.toList.length=ad.size β:=aS.len
   have eQ:=l.fC
   rw [List.map_cons,AV J en (by simp at aq; omega)]
   refine bI a W s _ ?_
   have:=I9 l aS aY.2 aU
   simpa [fm,ad.len aY.2] using this
 | @hole b eu b' os Gh os' γ _ u i x r l J ab aC aU aZ _ bI=>
   intro a W s cs aS
   subst aU
   subst aZ
   have aY:a.eval x=u:=ab a W s
   have ar:(a.eval x).cells.toList= [u]:=by rw [aY,nb aC]
   have en:(a.eval x).cells.size=1:=by have:=congrArg List.length ar; simpa using this
   have aq:cs.toList.length=ad.size β:=aS.len
   have eQ:l.off + 1≤ad.size β:=l.fC
   rw [List.map_cons,AV J en (by simp at aq; omega)]
   refine bI a W s _ ?_
   have:=IU l aS aC
   simpa [fm,ar] using this
theorem oD {β:Type} [ad β] {z b:β} {bl:List (Nat × Operand)} {pl:Array (Nat × Nat)} {os:List (Nat × Value)} (im:List Nat) (qu:iW c.P t im) (bh:ad.agg β=true) (zI:gX c.P t pl) (fN:cx c.P t z)
 (a8:q4 c E L (pl[·]?) z (im.map fun o=>(o,iQ)) bl b os):bX c E L ⟨d,.build t bl.toArray,ty,pos,af,g⟩ (.Gg b os):= .pure fun a W s=>by
 obtain⟨fW,hu,hs,rfl⟩:=zI.at_
 obtain⟨i,dB,J,ab,aC⟩:=fN.zero
 have ct:∀ o∈im,dB.cells.toList[o]? =some iQ:=fun o bm=>by
  unfold iW at qu
  rw [J] at qu
  simp only [Option.bind_some,ab,Option.any_some] at qu
  exact It (List.all_eq_true.1 qu o bm)
 obtain⟨dk,aU,aZ⟩:=a8.run a W s dB.cells ⟨by
  rw [Dj fun h hm=>by obtain⟨o,bm,rfl⟩:=List.mem_map.1 hm; exact ct o bm]
  exact(aC _ _).2,fun h hm=>by obtain⟨o,bm,rfl⟩:=List.mem_map.1 hm; exact⟨ct o bm,rfl⟩⟩
 refine⟨.agg dk,?_,by simp [shaped,bh],by simpa [Value.cells] using aZ⟩
 have hm:(bl.toArray.map fun(x:Nat × Operand)=>(x.1,a.eval x.2)).toList=bl.map fun(i,x)=>(i,a.eval x):=by simp
 simp only [execOp,Instr.build,Sem.run_bind,zeroValue,typeInfo,run_program,Result.andThen_ok,J,ab,Sem.run_pure,run_underlying hu,HS fW hs]
 rw [hm,aU]
 rfl
def qe {α:Type} [Inhabited α] (bytes:Nat) (n:Int):Option (List α):=if 0≤n∧n≤140737488355328∧bytes * n≤140737488355328 then some (List.replicate n.toNat default) else none
theorem Qn {α:Type} [Inhabited α] {bytes:Nat} {n:Int} {r:List α} (h:qe bytes n=some r):0≤n∧n≤140737488355328∧bytes * n≤140737488355328∧List.replicate n.toNat default=r:=by
 unfold qe at h
 split at h
 ·rename_i ar; exact⟨ar.1,ar.2.1,ar.2.2,aI h⟩
 ·cases h
theorem ah.B5 {α:Type} [ad α] [Inhabited α] {rest:List Oper} {a6 e bytes:Nat} {r:List α} {n:Int} (hu:c.P.underlying t=some (.slice e)) (e5:bt c.P e α) (fN:cx c.P e (default:α)) (hs:Nat.beq (ad.size α) 0=false) (hb:(c.P.info? e).map (·.bytes)=some bytes)
 (an:ba c E L x (.of n)) (a9:ba c E L y (.of n)) (hm:qe bytes n=some r) (j7:Nat.blt a6 c.n=true) (k:∀ p,ah c ops Q rest ((a6,.eq (aV p r.length r.length)) :: E) (⟨p,.row e r r.length⟩ :: L)):
 ah c ops Q (⟨some a6,.makeSlice t x y,ty,pos,af,none⟩ :: rest) E L:=fun a W s=>by
 obtain⟨bJ,aO,Xj,rfl⟩:=Qn hm
 obtain⟨m,rfl⟩:=Int.eq_ofNat_of_zero_le bJ
 obtain⟨fG,dB,dJ,dR,o5⟩:=fN.zero
 have lz:fG.size=ad.size α:=by
  obtain⟨i2,J,ab⟩:=e5.info
  rw [dJ] at J; cases J; exact ab
 have te:fG.bytes=bytes:=by rw [dJ] at hb; simpa using hb
 have eP:ad.size α≠0:=fun h=>by rw [h] at hs; cases hs
 have oi:=xa (o5 (aJ L ++ c.bP) W) m eP
 have J:=of_int.1 (an a W s)
 have ab:=of_int.1 (a9 a W s)
 have hw:IntKind.i64.wrap (m:Int)=m:=by have:bD (m:Int)=m:=hQ (by omega) (by omega); exact this
 have hp:(2:Int) ^ 48=281474976710656:=by decide
 simp only [Int.toNat_natCast,List.length_replicate] at k
 generalize jH:(Array.range (m * ad.size α)).map (dB.cells[· % dB.cells.size]!)=D at oi
 refine hH rfl (R:=fun v W'=>v= .slice (some ⟨W.heap.size,0,none⟩) m m∧W'=W.alloc (.cells D e)) (.lr (v:= .slice (some ⟨W.heap.size,0,none⟩) m m) (W':=W.alloc (.cells D e)) ?_ ⟨rfl,rfl⟩) fun v W' ⟨aC,aU⟩=> ?_
 ·have hg:((decide ((m:Int) < 0) || decide ((fG.bytes:Int) * m > 2 ^ 48)) || decide ((m:Int) < 0) || decide ((m:Int) > m))=false:=by
   rw [te,hp]; simp; omega
  have Ch:((Array.range (m * fG.size)).map fun i=>(if m * fG.size=0 then(#[]:Array Value) else dB.cells)[i % (if m * fG.size=0 then(#[]:Array Value) else dB.cells).size]!)=D:=by
   rw [← jH,lz]
   by_cases hB:m * ad.size α=0
   ·rw [hB]; simp
   ·simp only [if_neg hB]
  have bh:(asInt (.int .i64 (m:Int)):Sem Int).run c.P W= .ok (m:Int) W:=by simp [asInt,asIntOf]
  simp only [execOp,Instr.makeSlice,Sem.run_bind,run_underlying hu,Result.andThen_ok,J,ab,bh,Sem.run_pure,typeInfo,run_program,dJ,hw,hg,Bool.false_eq_true,if_false,run_askRoom,Go.sizeOf,Int.toNat_natCast]
  by_cases hB:m * fG.size=0
  ·simp only [hB,if_true,Sem.run_pure,Result.andThen_ok,Sem.run_bind,newRow] at Ch ⊢
   rw [Ch]
   simp
  ·simp only [hB,if_false,Sem.run_pure,Result.andThen_ok,Sem.run_bind,newRow,zeroValue,typeInfo,run_program,dJ,dR] at Ch ⊢
   rw [Ch]
   simp
 ·subst aC aU
  have yF:m≤maxLen:=by
   have:maxLen=9223372036854775807:=rfl
   omega
  have en:D.size=m * ad.size α:=by have:=oi.1; simpa using this
  have bV:=s.alloc (o:= .cells D e) (cp:= .row e (List.replicate m (default:α)) m) ⟨D,rfl,en,by simp,yF,by
   have bn:=oi.1
   rw [List.length_replicate] at bn ⊢
   rw [← bn,List.take_length]
   exact oi⟩
  exact k (some W.heap.size) _ _ (bV.put (τ:= .eq (aV (some W.heap.size) m m)) (by simpa using j7) rfl)
theorem ag.pN {fn:Func} {δ:Type} {ρ:δ→I} {Lo:δ→List aH} (a6:δ) (hs:(Lo a6).Sublist L) (aS:fn.results= #[]) (th:ρ a6= .cF []) (hA:c.ds= []:=by rfl):ag c (bodyPost c.P fn (ja c.X c.bP c.hY ρ Lo)) .ret E L:=fun a W s=>
 ⟨s.uz hA,.tuple #[],by simp [uu,aS],s.ends a6 hs (by rw [th]; exact⟨_,rfl,.nil⟩)⟩
end
end Gv
namespace Gv
open Go
set_option linter.unusedVariables false
set_option linter.unusedSimpArgs false
abbrev Hid:=Nat→Option Nat
def ft (l:List (Option Nat)):Hid:=fun i=>(l[i]?).getD none
structure dG where
 slot:Option Nat
 up:List Nat
 rd:List Nat
 wr:List Nat
 τ:(Nat→Hid)→I
 fp:(Nat→Hid)→Nat→aH
def gD (up:List Nat) (i:Nat) (hd:Nat→Hid):Nat→Hid:=fun j=>bif Nat.beq j i || up.any (fun k=>Nat.beq k j) then hd j else fun _=>none
def kO (hd:Nat→Hid) (i:Nat) (x:Hid):Nat→Hid:=fun j=>bif Nat.beq j i then x else hd j
theorem PS {up:List Nat} {i:Nat} {hd hd':Nat→Hid} (h:hd i=hd' i) (cJ:∀ k∈up,hd k=hd' k):gD up i hd=gD up i hd':=by
 funext j
 unfold gD
 cases J:Nat.beq j i
 ·cases ab:up.any (fun k=>Nat.beq k j)
  ·rfl
  ·obtain⟨k,av,he⟩:=List.any_eq_true.1 ab
   have:=eF.1 he
   subst this
   simp only [Bool.false_or,cond_true]
   exact cJ k av
 ·have:=eF.1 J
  subst this
  simp only [Bool.true_or,cond_true]
  exact h
def lB:List aH→ (Nat→aH)→List Nat→List aH
 | L,_,[]=>L
 | L,f,j :: r=>lB (L.set j (f j)) f r
theorem Ig:∀ {L:List aH} {f:Nat→aH} {eo:List Nat},(lB L f eo).length=L.length
 | _,_,[]=>rfl
 | L,f,j :: r=>by rw [lB,Ig,List.length_set]
theorem DA:∀ {L:List aH} {f:Nat→aH} {eo:List Nat} (i:Nat),(lB L f eo)[i]? =if eo.contains i=true then L[i]?.map (fun _=>f i) else L[i]?
 | _,_,[],i=>by simp [lB]
 | L,f,j :: r,i=>by
   rw [lB,DA i]
   by_cases h:j=i
   ·subst h
    simp only [List.contains_cons,BEq.rfl,Bool.true_or,if_true,List.getElem?_set]
    by_cases aq:j < L.length
    ·simp [aq]
    ·simp [aq]
   ·have hb:(i ==j)=false:=by simp; exact fun e=>h e.symm
    rw [List.contains_cons,hb,Bool.false_or,List.getElem?_set_ne h]
def hN (ls:Nat→Bool) (hd:Nat→Hid):Nat→List dG→List aH→List aH
 | _,[],L=>L
 | k,h :: r,L=>hN ls hd (k + 1) r (bif ls k then lB L (h.fp (gD h.up k hd)) h.wr else L)
def iC (ls:Nat→Bool) (hd:Nat→Hid) (E:List (Nat × I)):Nat→List dG→List (Nat × I)
 | _,[]=>E
 | k,h :: r=>match ls k,h.slot with
   | true,some s=>(s,h.τ (gD h.up k hd)) :: iC ls hd E (k + 1) r
   | _,_=>iC ls hd E (k + 1) r
def ki (ls:Nat→Bool) (hd:Nat→Hid) (j:Nat):Nat→List dG→Option aH→Option aH
 | _,[],v=>v
 | k,h :: r,v=>ki ls hd j (k + 1) r (bif ls k && h.wr.contains j then v.map (fun _=>h.fp (gD h.up k hd) j) else v)
theorem Bf {ls:Nat→Bool} {hd:Nat→Hid} (j:Nat):∀ {k:Nat} {hs:List dG} {L:List aH},(hN ls hd k hs L)[j]? =ki ls hd j k hs L[j]?
 | _,[],_=>rfl
 | k,h :: r,L=>by
   rw [hN,ki,Bf j]
   congr 1
   cases ls k
   ·rfl
   ·simp only [cond_true,Bool.true_and]
    rw [DA]
    cases h.wr.contains j <;> rfl
theorem Dp {ls:Nat→Bool} {hd:Nat→Hid} {j:Nat} :∀ {k:Nat} {hs:List dG} {v:Option aH},(∀ m h,hs[m]? =some h→h.wr.contains j=true→ls (k + m)=false)→ki ls hd j k hs v=v
 | _,[],_,_=>rfl
 | k,h :: r,v,aO=>by
   rw [ki,Dp fun m x hm an=>by have:=aO (m + 1) x (by simpa using hm) an; rw [← this]; congr 1; omega]
   cases hw:h.wr.contains j
   ·simp
   ·have:=aO 0 h rfl hw
    simp only [Nat.add_zero] at this
    rw [this]; rfl
theorem Dc {ls:Nat→Bool} {hd:Nat→Hid} {j:Nat} :∀ {k:Nat} {hs rs:List dG} {v:Option aH},ki ls hd j k (hs ++ rs) v=ki ls hd j (k + hs.length) rs (ki ls hd j k hs v)
 | _,[],_,_=>rfl
 | k,h :: r,rs,v=>by
   rw [List.cons_append,ki,Dc,ki,List.length_cons]
   congr 1; omega
theorem AO {ls ls':Nat→Bool} {hd hd':Nat→Hid} {j:Nat} :∀ {k:Nat} {hs:List dG} {v:Option aH},(∀ m h,hs[m]? =some h→h.wr.contains j=true→ls (k + m)=ls' (k + m)∧ (ls (k + m)=true→gD h.up (k + m) hd=gD h.up (k + m) hd'))→ki ls hd j k hs v=ki ls' hd' j k hs v
 | _,[],_,_=>rfl
 | k,h :: r,v,aO=>by
   have bI:=AO (ls:=ls) (ls':=ls') (hd:=hd) (hd':=hd') (j:=j) (k:=k + 1) (hs:=r) (v:=bif ls k && h.wr.contains j then v.map (fun _=>h.fp (gD h.up k hd) j) else v) fun m x hm an=>by
    have:=aO (m + 1) x (by simpa using hm) an
    rw [show k + 1 + m=k + (m + 1) by omega]; exact this
   rw [ki,ki,bI]
   congr 1
   cases hw:h.wr.contains j
   ·simp
   ·have:=aO 0 h rfl hw
    simp only [Nat.add_zero] at this
    rw [← this.1]
    cases aq:ls k
    ·rfl
    ·rw [this.2 aq]
theorem Dq {ls:Nat→Bool} {hd:Nat→Hid} {E:List (Nat × I)} {t:Nat} :∀ {k:Nat} {hs:List dG},(∀ (m:Nat) (h:dG),hs[m]? =some h→ls (k + m)=true→h.slot≠some t)→look (iC ls hd E k hs) t=look E t
 | _,[],_=>rfl
 | k,h :: r,aO=>by
   have bI:=Dq (ls:=ls) (hd:=hd) (E:=E) (t:=t) (k:=k + 1) (hs:=r) fun m x hm aq=>aO (m + 1) x (by simpa using hm) (by rw [← aq]; congr 1; omega)
   unfold iC
   split
   ·rename_i s J ab
    have dv:Nat.beq s t=false:=by
     cases hb:Nat.beq s t
     ·rfl
     ·have:=eF.1 hb; subst this; exact absurd ab (aO 0 h rfl J)
    simp only [look,dv,cond_false]
    exact bI
   ·exact bI
theorem DB {ls:Nat→Bool} {hd:Nat→Hid} {E:List (Nat × I)} {s:Nat} :∀ {k:Nat} {hs:List dG} {j:Nat} {h:dG},hs[j]? =some h→ls (k + j)=true→h.slot=some s→ (∀ m x,hs[m]? =some x→x.slot=some s→m=j)→look (iC ls hd E k hs) s=some (h.τ (gD h.up (k + j) hd))
 | _,[],_,_,h,_,_,_=>by simp at h
 | k,x :: r,0,h,aF,aq,hs,_=>by
   simp only [List.getElem?_cons_zero,Option.some.injEq] at aF
   subst aF
   simp only [Nat.add_zero] at aq
   unfold iC
   rw [aq,hs]
   simp [look,Nat.beq_refl]
 | k,x :: r,j + 1,h,aF,aq,hs,hu=>by
   have bI:=DB (ls:=ls) (hd:=hd) (E:=E) (s:=s) (k:=k + 1) (hs:=r) (j:=j) (h:=h) (by simpa using aF) (by rw [← aq]; congr 1; omega) hs fun m y hm a9=>by
    have:=hu (m + 1) y (by simpa using hm) a9; omega
   rw [show k + 1 + j=k + (j + 1) by omega] at bI
   unfold iC
   split
   ·rename_i bV J ab
    have dv:Nat.beq bV s=false:=by
     cases hb:Nat.beq bV s
     ·rfl
     ·have:=eF.1 hb; subst this
      have:=hu 0 x rfl ab; omega
    simp only [look,dv,cond_false]
    exact bI
   ·exact bI
theorem Ja {ls:Nat→Bool} {hd:Nat→Hid} {E:List (Nat × I)} {t:Nat} {τ:I} :∀ {k:Nat} {hs:List dG},look (iC ls hd E k hs) t=some τ→ (∃ (j:Nat) (h:dG),hs[j]? =some h∧ls (k + j)=true∧h.slot=some t∧τ=h.τ (gD h.up (k + j) hd))∨ (look E t=some τ∧ ∀ (m:Nat) (h:dG),hs[m]? =some h→ls (k + m)=true→h.slot≠some t)
 | _,[],h=> .inr ⟨h,fun m h hm=>by simp at hm⟩
 | k,x :: r,h=>by
   unfold iC at h
   have go:(ls k=true→x.slot≠some t)→look (iC ls hd E (k + 1) r) t=some τ→ (∃ (j:Nat) (h:dG),(x :: r)[j]? =some h∧ls (k + j)=true∧h.slot=some t∧τ=h.τ (gD h.up (k + j) hd))∨ (look E t=some τ∧ ∀ (m:Nat) (h:dG),(x :: r)[m]? =some h→ls (k + m)=true→h.slot≠some t):=fun an h=>by
    rcases Ja h with⟨j,y,J,ab,aC,aU⟩ | ⟨J,ab⟩
    ·exact .inl ⟨j + 1,y,by simpa using J,by rw [← ab]; congr 1; omega,aC,by rw [aU]; congr 2; omega⟩
    ·refine .inr ⟨J,fun m y hm aq=> ?_⟩
     cases m with
     | zero=>simp only [List.getElem?_cons_zero,Option.some.injEq] at hm; subst hm; exact an aq
     | succ m=>exact ab m y (by simpa using hm) (by rw [← aq]; congr 1; omega)
   split at h
   ·rename_i s J ab
    simp only [look] at h
    by_cases e:Nat.beq s t=true
    ·rw [e] at h
     simp only [cond_true,Option.some.injEq] at h
     have:=eF.1 e
     subst this
     exact .inl ⟨0,x,rfl,J,ab,h.symm⟩
    ·rw [Bool.not_eq_true] at e
     rw [e] at h
     exact go (fun _ eP=>by rw [ab] at eP; cases eP; rw [Nat.beq_refl] at e; cases e) h
   ·rename_i fU
    exact go (fun aq eP=>fU t aq eP) h
def ld (hd:Nat→Hid) (hs:List dG) (E:List (Nat × I)):List Nat→List (Nat × I)
 | []=>E
 | j :: r=>match hs[j]? with
   | some h=>match h.slot with
     | some s=>(s,h.τ (gD h.up j hd)) :: ld hd hs E r
     | none=>ld hd hs E r
   | none=>ld hd hs E r
theorem JN {hd:Nat→Hid} {hs:List dG} {E:List (Nat × I)} {t:Nat} {τ:I} :∀ {ds:List Nat},look (ld hd hs E ds) t=some τ→ (∃ j∈ds,∃ h:dG,hs[j]? =some h∧h.slot=some t∧τ=h.τ (gD h.up j hd))∨look E t=some τ
 | [],h=> .inr h
 | j :: r,h=>by
   have go:look (ld hd hs E r) t=some τ→ (∃ i∈j :: r,∃ h:dG,hs[i]? =some h∧h.slot=some t∧τ=h.τ (gD h.up i hd))∨look E t=some τ:=fun h=>by
    rcases JN h with⟨i,J,ab⟩ | J
    ·exact .inl ⟨i,by simp [J],ab⟩
    ·exact .inr J
   unfold ld at h
   split at h
   ·rename_i x an
    split at h
    ·rename_i s kM
     simp only [look] at h
     by_cases e:Nat.beq s t=true
     ·rw [e] at h
      simp only [cond_true,Option.some.injEq] at h
      have:=eF.1 e
      subst this
      exact .inl ⟨j,by simp,x,an,kM,h.symm⟩
     ·simp only [Bool.not_eq_true] at e
      rw [e] at h
      exact go h
    ·exact go h
   ·exact go h
def rh (E:List (Nat × I)) (v:Value):List Nat→Prop
 | []=>True
 | s :: r=>look E s=some (.eq v)∧rh E v r
theorem rh.get {E:List (Nat × I)} {v:Value} :∀ {hr:List Nat},rh E v hr→ ∀ s∈hr,look E s=some (.eq v)
 | _ :: _,h,s,hs=>by
   rcases List.mem_cons.1 hs with rfl | hs
   ·exact h.1
   ·exact rh.get h.2 s hs
def ti (τ:I) (E:List (Nat × I)):List Nat→List (Nat × I)
 | []=>E
 | s :: r=>(s,τ) :: ti τ E r
theorem Jb {τ:I} {E:List (Nat × I)} {t:Nat} {σ:I} :∀ {hr:List Nat},look (ti τ E hr) t=some σ→ (t∈hr∧σ=τ)∨look E t=some σ
 | [],h=> .inr h
 | s :: r,h=>by
   simp only [ti,look] at h
   by_cases e:Nat.beq s t=true
   ·rw [e] at h
    simp only [cond_true,Option.some.injEq] at h
    have:=eF.1 e
    subst this
    exact .inl ⟨by simp,h.symm⟩
   ·simp only [Bool.not_eq_true] at e
    rw [e] at h
    rcases Jb h with⟨J,ab⟩ | J
    ·exact .inl ⟨by simp [J],ab⟩
    ·exact .inr J
def sV {w:Nat} (a b:BitVec w):BitVec w:=if a≤b then a else b
def p3:Option Nat→I→List (Nat × I)→List (Nat × I)
 | some s,τ,E=>(s,τ) :: E
 | none,_,E=>E
section
variable {c:cU} {E:List (Nat × I)} {L:List aH} {ops:Array Oper} {Q:Exit→Act→World→Prop}
theorem bC.kV {a:Act} {W:World} {α:Type} [ad α] {i cap T:Nat} {hr:List Nat} {key:Option Nat} {xs:List α} (h:bC c E L a W) (aq:rh E (aV key xs.length cap) hr) (au:L[i]? =some ⟨key,.row T xs cap⟩):
 bC c (ti (.of xs) E hr) (L.set i ⟨none,.dead⟩) a W:=by
 have av:=h.kill i
 refine { av with env:=fun t τ dQ=> ?_ }
 rcases Jb dQ with⟨hm,rfl⟩ | J
 ·obtain⟨v,J,ab⟩:=h.env t _ (aq.get t hm)
  refine⟨v,J,ln.2 ?_⟩
  have kq:v=aV key xs.length cap:=ab
  subst kq
  have bm:=h.own _ (List.mem_of_getElem? au)
  cases key with
  | none=>exact .inl ⟨rfl,bm.1⟩
  | some p=>
    obtain⟨o,dV,cs,rfl,en,aO,nE,aS⟩:=bm
    obtain⟨aC,aU⟩:=Db en aO aS
    refine .inr ⟨p,0,cap,cs,T,(0,0),rfl,h.xg au,dV,aO,by omega,aC,?_⟩
    have kH:=ua (L:=L) (i:=i) (cp:= .dead)
    exact aU.mono (.drop fun k hm=>by
     rcases List.mem_append.1 hm with hm | hm
     ·exact List.mem_append.2 (.inl (kH.subset hm))
     ·exact List.mem_append.2 (.inr hm))
 ·exact av.env t τ J
theorem ah.kV {l:List Oper} {α:Type} [ad α] {key:Option Nat} {xs:List α} {cap T:Nat} (i:Nat) (hr:List Nat) (aq:rh E (aV key xs.length cap) hr) (au:L[i]? =some ⟨key,.row T xs cap⟩)
 (k:ah c ops Q l (ti (.of xs) E hr) (L.set i ⟨none,.dead⟩)):ah c ops Q l E L:=fun a W st=>k a W (st.kV aq au)
theorem ag.kV {x:Exit} {α:Type} [ad α] {key:Option Nat} {xs:List α} {cap T:Nat} (i:Nat) (hr:List Nat) (aq:rh E (aV key xs.length cap) hr) (au:L[i]? =some ⟨key,.row T xs cap⟩)
 (k:ag c Q x (ti (.of xs) E hr) (L.set i ⟨none,.dead⟩)):ag c Q x E L:=fun a W st=>k a W (st.kV aq au)
theorem ai.kV {code:Code} {α:Type} [ad α] {key:Option Nat} {xs:List α} {cap T:Nat} (i:Nat) (hr:List Nat) (aq:rh E (aV key xs.length cap) hr) (au:L[i]? =some ⟨key,.row T xs cap⟩)
 (k:ai c Q code (ti (.of xs) E hr) (L.set i ⟨none,.dead⟩)):ai c Q code E L:=fun a W st=>k a W (st.kV aq au)
def eT (c:cU) (ops:Array Oper) (Q:Exit→Act→World→Prop) (hs:List dG) (E:List (Nat × I)) (L:List aH) (i:Nat) (o:Oper) (h:dG):Prop:=
 ∀ (hd:Nat→Hid) (E':List (Nat × I)) (ay:List aH),(∀ t τ,look (ld hd hs E h.up) t=some τ→look E' t=some τ)→
   (∀ j e,(hN (fun _=>true) hd 0 (hs.take i) L)[j]? =some e→h.rd.contains j=true→ay[j]? =some e)→
   ah c ops (rT (fun a W=> ∃ x,bC c (p3 h.slot (h.τ (gD h.up i (kO hd i x))) E') (lB ay (h.fp (gD h.up i (kO hd i x))) h.wr) a W) Q) [o] E' ay
def q5 (c:cU) (ops:Array Oper) (Q:Exit→Act→World→Prop) (hs:List dG) (E:List (Nat × I)) (L:List aH):Nat→List Oper→List dG→Prop
 | _,[],[]=>True
 | i,o :: os,h :: r=>eT c ops Q hs E L i o h∧q5 c ops Q hs E L (i + 1) os r
 | _,_,_=>False
theorem q5.get {hs:List dG} :∀ {k:Nat} {os:List Oper} {rs:List dG},q5 c ops Q hs E L k os rs→ ∀ i h o,rs[i]? =some h→os[i]? =some o→eT c ops Q hs E L (k + i) o h
 | k,[],[],_,i,h,o,al,_=>by simp at al
 | k,WE :: os,bJ :: r,ct,i,h,o,al,bm=>by
   cases i with
   | zero=>
     simp only [List.getElem?_cons_zero,Option.some.injEq] at al bm
     subst al; subst bm; exact ct.1
   | succ i=>
     have:=q5.get ct.2 i h o (by simpa using al) (by simpa using bm)
     rw [show k + 1 + i=k + (i + 1) by omega] at this
     exact this
 | k,[],_ :: _,ct,_,_,_,_,_=>ct.elim
 | k,_ :: _,[],ct,_,_,_,_,_=>ct.elim
def jS (ops:Array Oper) (hs:List (Option Nat × List Nat × List Nat × List Nat)) (E:List Nat):Bool:=
 decide (hs.length=ops.size) && decide (hs.filterMap (·.1)).Nodup && ((List.range ops.size).all fun m=>match hs[m]? with | some (some s,up,_)=> !E.contains s || (List.range ops.size).all fun k=>decide (k=m) || up.contains k | _=>true) &&
 ((List.range ops.size).all fun i=>match hs[i]? with
   | none=>false
   | some (_,up,rd,wr)=>
     (((ops[i]?).map fun o=>(o.dst ==(hs[i]?).bind (·.1)) && o.after.all fun e=> !Region.binds .any e || decide (e.on < i)).getD false) &&
     (up.all fun k=>Region.waitsFor .any ops i k || (List.range i).any fun m=>Region.waitsFor .any ops i m && ((hs[m]?).map fun h=>h.2.1.contains k).getD false) &&
     ((List.range ops.size).all fun k=>match hs[k]? with
       | none=>true
       | some (_,VJ,_,Mn)=>
         (!(decide (k < i) && Mn.any rd.contains) || up.contains k) && (!(decide (i < k) && Mn.any fun j=>rd.contains j || wr.contains j) || VJ.contains i)))
theorem Iu {ls ls':Nat→Bool} {hd:Nat→Hid} :∀ {k:Nat} {hs:List dG},(∀ m,m < hs.length→ls (k + m)=ls' (k + m))→iC ls hd E k hs=iC ls' hd E k hs
 | _,[],_=>rfl
 | k,h :: r,aO=>by
   have bI:=Iu (ls:=ls) (ls':=ls') (hd:=hd) (k:=k + 1) (hs:=r) fun m hm=>by
    have:=aO (m + 1) (by simp; omega)
    rw [show k + 1 + m=k + (m + 1) by omega]; exact this
   have bJ:=aO 0 (by simp)
   simp only [Nat.add_zero] at bJ
   unfold iC
   rw [bJ,bI]
theorem Jc {ls ls':Nat→Bool} {hd:Nat→Hid} :∀ {k:Nat} {hs:List dG} {L:List aH},(∀ m,m < hs.length→ls (k + m)=ls' (k + m))→hN ls hd k hs L=hN ls' hd k hs L
 | _,[],_,_=>rfl
 | k,h :: r,L,aO=>by
   have bJ:=aO 0 (by simp)
   simp only [Nat.add_zero] at bJ
   rw [hN,hN,bJ]
   exact Jc fun m hm=>by
    have:=aO (m + 1) (by simp; omega)
    rw [show k + 1 + m=k + (m + 1) by omega]; exact this
def lK (hs:List dG):List (Option Nat × List Nat × List Nat × List Nat):=hs.map fun h=>(h.slot,h.up,h.rd,h.wr)
theorem D0 {hs:List dG} {i:Nat} {h:dG} (al:hs[i]? =some h):(lK hs)[i]? =some (h.slot,h.up,h.rd,h.wr):=by simp [lK,al]
def El (c:cU) (ops:Array Oper) (Q:Exit→Act→World→Prop) (hs:List dG) (E:List (Nat × I)) (L:List aH) (np:Nat) (i:Nat) (o:Oper) (h:dG):Prop:=
 ∀ (hd:Nat→Hid) (E':List (Nat × I)) (ay:List aH),(∀ t τ,look (ld hd hs E h.up) t=some τ→look E' t=some τ)→
   (∀ j e,(hN (fun _=>true) hd 0 (hs.take i) L)[j]? =some e→h.rd.contains j=true→ay[j]? =some e)→ay.drop np=L.drop np→
   ah c ops (rT (fun a W=> ∃ x,bC c (p3 h.slot (h.τ (gD h.up i (kO hd i x))) E') (lB ay (h.fp (gD h.up i (kO hd i x))) h.wr) a W) Q) [o] E' ay
def pA (c:cU) (ops:Array Oper) (Q:Exit→Act→World→Prop) (hs:List dG) (E:List (Nat × I)) (L:List aH) (np:Nat):Nat→List Oper→List dG→Prop
 | _,[],[]=>True
 | i,o :: os,h :: r=>El c ops Q hs E L np i o h∧pA c ops Q hs E L np (i + 1) os r
 | _,_,_=>False
theorem pA.get {hs:List dG} {np:Nat} :∀ {k:Nat} {os:List Oper} {rs:List dG},pA c ops Q hs E L np k os rs→ ∀ i h o,rs[i]? =some h→os[i]? =some o→El c ops Q hs E L np (k + i) o h
 | k,[],[],_,i,h,o,al,_=>by simp at al
 | k,WE :: os,bJ :: r,ct,i,h,o,al,bm=>by
   cases i with
   | zero=>
     simp only [List.getElem?_cons_zero,Option.some.injEq] at al bm
     subst al; subst bm; exact ct.1
   | succ i=>
     have:=pA.get ct.2 i h o (by simpa using al) (by simpa using bm)
     rw [show k + 1 + i=k + (i + 1) by omega] at this
     exact this
 | k,[],_ :: _,ct,_,_,_,_,_=>ct.elim
 | k,_ :: _,[],ct,_,_,_,_,_=>ct.elim
theorem q5.Mo {hs:List dG} {np:Nat} :∀ {k:Nat} {os:List Oper} {rs:List dG},q5 c ops Q hs E L k os rs→pA c ops Q hs E L np k os rs
 | _,[],[],_=>trivial
 | _,_ :: _,_ :: _,h=>⟨fun hd E' ay J ab _=>h.1 hd E' ay J ab,q5.Mo h.2⟩
 | _,[],_ :: _,h=>h.elim
 | _,_ :: _,[],h=>h.elim
theorem IW {n:Nat} :∀ {L:List aH} {f:Nat→aH} {eo:List Nat},(∀ j∈eo,j < n∨L.length≤j)→ (lB L f eo).drop n=L.drop n
 | _,_,[],_=>rfl
 | L,f,j :: r,h=>by
   rw [lB,IW (fun k av=>by rw [List.length_set]; exact h k (by simp [av]))]
   rcases h j (by simp) with J | J
   ·rw [List.drop_set_of_lt J]
   ·rw [List.set_eq_of_length_le J]
theorem D1 {ls:Nat→Bool} {hd:Nat→Hid} {n:Nat} :∀ {k:Nat} {hs:List dG} {L:List aH},(∀ h∈hs,∀ j∈h.wr,j < n∨L.length≤j)→ (hN ls hd k hs L).drop n=L.drop n
 | _,[],_,_=>rfl
 | k,h :: r,L,hw=>by
   rw [hN]
   cases aq:ls k
   ·exact D1 fun x an=>hw x (by simp [an])
   ·simp only [cond_true]
    rw [D1 (fun x an j aF=>by rw [Ig]; exact hw x (by simp [an]) j aF),IW (hw h (by simp))]
theorem Po {hs:List dG} {np:Nat} (hw:∀ h∈hs,∀ j∈h.wr,j < np∨L.length≤j) (ir:jS ops (lK hs) (E.map (·.1))=true) (ct:pA c ops Q hs E L np 0 ops.toList hs)
 (b9:∀ hd,ag c Q .normal (iC (fun _=>true) hd E 0 hs) (hN (fun _=>true) hd 0 hs L)):
 ∀ m (bL:Array Bool) (hd:Nat→Hid) (a:Act) (W:World),((List.range ops.size).filter fun i=> !bL.getD i true).length≤m→HeadInv .any ops ops.size bL→
   bC c (iC (fun i=>bL.getD i false) hd E 0 hs) (hN (fun i=>bL.getD i false) hd 0 hs L) a W→wpAnyIn c.F 9 c.P .any ops Q m bL a W:=by
 simp only [jS,Bool.and_eq_true,decide_eq_true_eq] at ir
 obtain⟨⟨⟨TG,h8⟩,LQ⟩,jy⟩:=ir
 have hlen:hs.length=ops.size:=by simpa [lK] using TG
 have s0:∀ i,i < ops.size→ ∃ h o,hs[i]? =some h∧ops[i]? =some o:=fun i al=>⟨hs[i]'(by omega),ops[i],by simp,by simp⟩
 have yg:∀ (i:Nat) (h:dG) (o:Oper),hs[i]? =some h→ops[i]? =some o→
  o.dst=h.slot∧ (∀ e∈o.after,Region.binds .any e=true→e.on < i)∧
  (∀ k∈h.up,Region.waitsFor .any ops i k=true∨ ∃ m,m < i∧Region.waitsFor .any ops i m=true∧ ∃ x,hs[m]? =some x∧k∈x.up)∧
  (∀ (k:Nat) (x:dG),hs[k]? =some x→ (k < i→ (∃ j∈x.wr,h.rd.contains j=true)→k∈h.up)∧ (i < k→ (∃ j∈x.wr,h.rd.contains j=true∨h.wr.contains j=true)→i∈x.up)):=by
  intro i h o al bm
  have cq:i < ops.size:=(Array.getElem?_eq_some_iff.1 bm).1
  have J:=List.all_eq_true.1 jy i (List.mem_range.2 cq)
  rw [D0 al] at J
  simp only [Bool.and_eq_true] at J
  obtain⟨⟨ab,aC⟩,aU⟩:=J
  simp only [bm,Option.map_some,Option.getD_some,Bool.and_eq_true,Option.bind_some,beq_iff_eq] at ab
  refine⟨ab.1,fun e he hb=> ?_,fun k av=> ?_,fun k x an=> ?_⟩
  ·have:=Array.all_eq_true_iff_forall_mem.1 ab.2 e he
   simp [hb] at this
   exact this
  ·have:=List.all_eq_true.1 aC k av
   simp only [Bool.or_eq_true,List.any_eq_true,Bool.and_eq_true,List.mem_range] at this
   rcases this with aZ | ⟨m,aZ,bn,cE⟩
   ·exact .inl aZ
   ·have hm:m < hs.length:=by omega
    rw [D0 (List.getElem?_eq_getElem hm)] at cE
    exact .inr ⟨m,aZ,bn,hs[m],List.getElem?_eq_getElem hm,by simpa using cE⟩
  ·have F3:k < ops.size:=by have:=(List.getElem?_eq_some_iff.1 an).1; omega
   have:=List.all_eq_true.1 aU k (List.mem_range.2 F3)
   rw [D0 an] at this
   simp only [Bool.and_eq_true,Bool.or_eq_true,Bool.not_eq_true',Bool.and_eq_false_iff,decide_eq_false_iff_not,List.contains_iff_mem] at this
   refine⟨fun zg ⟨j,aF,aS⟩=> ?_,fun jj ⟨j,aF,aS⟩=> ?_⟩
   ·rcases this.1 with(aZ | aZ) | aZ
    ·exact absurd zg aZ
    ·have:=List.any_eq_false.1 aZ j aF
     exact absurd aS this
    ·exact aZ
   ·rcases this.2 with(aZ | aZ) | aZ
    ·exact absurd jj aZ
    ·have:=List.any_eq_false.1 aZ j aF
     simp only [Bool.or_eq_true] at this
     exact absurd aS this
    ·exact aZ
 have E1:∀ (i j s:Nat) (x y:dG),hs[i]? =some x→hs[j]? =some y→x.slot=some s→y.slot=some s→i=j:=by
  have key:∀ (l:List dG),((lK l).filterMap (·.1)).Nodup→ ∀ (i j s:Nat) (x y:dG),l[i]? =some x→l[j]? =some y→x.slot=some s→y.slot=some s→i=j:=by
   intro l
   induction l with
   | nil=>intro _ i j s x y h; simp at h
   | cons z r bI=>
     intro h8 i j s x y al aF an a9
     have aS:((lK r).filterMap (·.1)).Nodup:=by
      cases dR:z.slot with
      | none=>simpa [lK,dR] using h8
      | some w=>
        simp only [lK,List.map_cons,List.filterMap_cons,dR] at h8
        exact(List.nodup_cons.1 h8).2
     have rl:z.slot=some s→ ∀ (q:Nat) (v:dG),r[q]? =some v→v.slot≠some s:=fun dR q v hq aY=>by
      simp only [lK,List.map_cons,List.filterMap_cons,dR] at h8
      exact(List.nodup_cons.1 h8).1 (List.mem_filterMap.2 ⟨_,List.mem_map.2 ⟨v,List.mem_of_getElem? hq,rfl⟩,aY⟩)
     cases i with
     | zero=>
       simp only [List.getElem?_cons_zero,Option.some.injEq] at al
       subst al
       cases j with
       | zero=>rfl
       | succ j=>simp only [List.getElem?_cons_succ] at aF; exact absurd a9 (rl an j y aF)
     | succ i=>
       simp only [List.getElem?_cons_succ] at al
       cases j with
       | zero=>
         simp only [List.getElem?_cons_zero,Option.some.injEq] at aF
         subst aF
         exact absurd an (rl a9 i x al)
       | succ j=>simp only [List.getElem?_cons_succ] at aF; rw [bI aS i j s x y al aF an a9]
  exact key hs h8
 have TH:∀ (t:Nat) (τ:I),look E t=some τ→ ∀ (m:Nat) (h:dG),hs[m]? =some h→h.slot=some t→ ∀ k,k < ops.size→k≠m→k∈h.up:=by
  intro t τ aq m h hm eP k av zh
  have oc:m < ops.size:=by have:=(List.getElem?_eq_some_iff.1 hm).1; omega
  have J:=List.all_eq_true.1 LQ m (List.mem_range.2 oc)
  rw [show(lK hs)[m]? =some (h.slot,h.up,h.rd,h.wr) by simp [lK,hm],eP] at J
  have vp:t∈E.map (·.1):=by
   clear LQ J ct b9 hm eP
   induction E with
   | nil=>simp [look] at aq
   | cons x r bI=>
     obtain⟨s,σ⟩:=x
     simp only [look] at aq
     by_cases e:Nat.beq s t=true
     ·have:=eF.1 e; subst this; simp
     ·simp only [Bool.not_eq_true] at e
      rw [e] at aq
      simp only [List.map_cons,List.mem_cons]
      exact .inr (bI aq)
  replace J:(!(E.map (·.1)).contains t || (List.range ops.size).all fun k=>decide (k=m) || h.up.contains k)=true:=J
  rw [show(E.map (·.1)).contains t=true by simpa using vp] at J
  have ab:∀ x,x < ops.size→x=m∨x∈h.up:=by simpa using J
  exact(ab k av).resolve_left zh
 have Ci:∀ (bL:Array Bool),HeadInv .any ops ops.size bL→ ∀ (d i:Nat),i≤d→ ∀ (h:dG) (o:Oper),hs[i]? =some h→ops[i]? =some o→ (∀ e∈o.after,Region.binds .any e=true→bL.getD e.on false=true)→ ∀ k∈h.up,bL.getD k false=true:=by
  intro bL inv d
  induction d with
  | zero=>
    intro i al h o eb tj hw k av
    rcases (yg i h o eb tj).2.2.1 k av with J | ⟨m,hm,_⟩
    ·obtain⟨nK,lb,e,he,hb,og⟩:=Region.waitsFor_spec J
     rw [tj] at lb; cases lb
     rw [← og]; exact hw e he hb
    ·omega
  | succ d bI=>
    intro i al h o eb tj hw k av
    rcases (yg i h o eb tj).2.2.1 k av with J | ⟨m,hm,J,x,an,VK⟩
    ·obtain⟨nK,lb,e,he,hb,og⟩:=Region.waitsFor_spec J
     rw [tj] at lb; cases lb
     rw [← og]; exact hw e he hb
    ·obtain⟨nK,lb,e,he,hb,og⟩:=Region.waitsFor_spec J
     rw [tj] at lb; cases lb
     have oc:=hw e he hb
     rw [og] at oc
     obtain⟨aR,zM,Xk,zi⟩:=s0 m (by have:=(Array.getElem?_eq_some_iff.1 tj).1; omega)
     exact bI m (by omega) x zM an zi (fun e he hb=>inv.closed m zM zi oc e he hb) k VK
 have oR:∀ (bL:Array Bool) (hd:Nat→Hid) (a:Act) (W:World),(∀ i,i < ops.size→bL.getD i true=true)→HeadInv .any ops ops.size bL→
  bC c (iC (fun i=>bL.getD i false) hd E 0 hs) (hN (fun i=>bL.getD i false) hd 0 hs L) a W→Region.ready .any ops bL= []∧Q .normal a W:=by
  intro bL hd a W Lf inv st
  refine⟨?_,?_⟩
  ·refine List.eq_nil_iff_forall_not_mem.2 fun i al=> ?_
   obtain⟨J,o,bm,_⟩:=mem_ready.1 al
   rw [Lf i (Array.getElem?_eq_some_iff.1 bm).1] at J
   cases J
  ·have aq:∀ m,m < hs.length→bL.getD (0 + m) false=true:=fun m hm=>by
    have J:=Lf m (by omega)
    have ab:m < bL.size:=by rw [inv.size]; omega
    simpa [ab] using J
   rw [Iu (ls':=fun _=>true) aq,Jc (ls':=fun _=>true) aq] at st
   exact b9 hd a W st
 intro m
 induction m with
 | zero=>
   intro bL hd a W hm inv st
   refine oR bL hd a W (fun i al=> ?_) inv st
   cases h:bL.getD i true with
   | true=>rfl
   | false=>
     have:i∈ (List.range ops.size).filter fun i=> !bL.getD i true:=List.mem_filter.2 ⟨List.mem_range.2 al,by rw [h]; rfl⟩
     rw [List.length_eq_zero_iff.1 (Nat.le_zero.1 hm)] at this
     cases this
 | succ m bI=>
   intro bL hd a W hm inv st
   refine⟨fun bJ=> ?_,fun i al=> ?_⟩
   ·refine(oR bL hd a W (fun i al=> ?_) inv st).2
    have key:∀ d i,i≤d→i < ops.size→bL.getD i true=true:=by
     intro d
     induction d with
     | zero=>
       intro i FX al
       cases aq:bL.getD i true with
       | true=>rfl
       | false=>
         obtain⟨h,o,eb,bm⟩:=s0 i al
         have:i∈Region.ready .any ops bL:=mem_ready.2 ⟨aq,o,bm,fun e he hb=>by have:=(yg i h o eb bm).2.1 e he hb; omega⟩
         rw [bJ] at this; cases this
     | succ d VL=>
       intro i FX al
       cases aq:bL.getD i true with
       | true=>rfl
       | false=>
         obtain⟨h,o,eb,bm⟩:=s0 i al
         have:i∈Region.ready .any ops bL:=mem_ready.2 ⟨aq,o,bm,fun e he hb=>by
          have J:=(yg i h o eb bm).2.1 e he hb
          have ab:=VL e.on (by omega) (by omega)
          have aC:e.on < bL.size:=by rw [inv.size]; omega
          simpa [aC] using ab⟩
         rw [bJ] at this; cases this
    exact key i i (Nat.le_refl _) al
   ·obtain⟨oe,o,bm,qW⟩:=mem_ready.1 al
    have eQ:i < ops.size:=(Array.getElem?_eq_some_iff.1 bm).1
    obtain⟨h,_,eb,_⟩:=s0 i eQ
    have ly:bL.getD i false=false:=getD_both oe
    have BR:i < bL.size:=by rw [inv.size]; omega
    have sX:((List.range ops.size).filter fun j=> !(bL.setIfInBounds i true).getD j true).length≤m:=by
     have:((List.range ops.size).filter fun j=> !(bL.setIfInBounds i true).getD j true).length < ((List.range ops.size).filter fun j=> !bL.getD j true).length:=by
      refine Kk (fun j=> !bL.getD j true) (fun j=> !(bL.setIfInBounds i true).getD j true) i (by simp only [oe]; rfl) ?_ (fun j aF=> ?_) ops.size eQ
      ·simp [BR]
      ·by_cases e:i=j
       ·subst e; simp only [oe]; rfl
       ·rw [getD_set_ne true e] at aF; exact aF
     omega
    have sY:=inv.set al eQ
    obtain⟨BV,Be,W2,yL⟩:=yg i h o eb bm
    have LR:=Ci bL inv i i (Nat.le_refl _) h o eb bm qW
    have Kn:∀ (k:Nat) (x:dG),hs[k]? =some x→i < k→ (∃ j∈x.wr,h.rd.contains j=true∨h.wr.contains j=true)→bL.getD k false=false:=fun k x an jj aF=>by
     have J:=(yL k x an).2 jj aF
     cases av:bL.getD k false with
     | false=>rfl
     | true=>
       obtain⟨_,ok,_,hC⟩:=s0 k (by have:=(List.getElem?_eq_some_iff.1 an).1; omega)
       have:=Ci bL inv k k (Nat.le_refl _) x ok an hC (fun e he hb=>inv.closed k ok hC av e he hb) i J
       rw [ly] at this; cases this
    have Ko:hs=hs.take i ++ h :: hs.drop (i + 1):=by
     have Mp:i < hs.length:=by omega
     rw [List.getElem?_eq_getElem Mp] at eb
     cases eb
     rw [List.getElem_cons_drop]
     exact(List.take_append_drop i hs).symm
    have Mq:(hs.take i).length=i:=by rw [List.length_take]; omega
    have zd:∀ (t:Nat) (τ:I),look E t=some τ→ ∀ (m:Nat) (x:dG),hs[m]? =some x→bL.getD (0 + m) false=true→x.slot≠some t:=fun t τ aq m x an Cj eP=>by
     rw [Nat.zero_add] at Cj
     have VM:i≠m:=fun e=>by subst e; rw [ly] at Cj; cases Cj
     obtain⟨_,zM,_,zi⟩:=s0 m (by have:=(List.getElem?_eq_some_iff.1 an).1; omega)
     have:=Ci bL inv m m (Nat.le_refl _) x zM an zi (fun e he hb=>inv.closed m zM zi Cj e he hb) i (TH t τ aq m x an eP i eQ VM)
     rw [ly] at this; cases this
    have Lg:=(pA.get ct i h o eb (by rw [Array.getElem?_toList]; exact bm))
    rw [Nat.zero_add] at Lg
    have VN:=Lg hd (iC (fun i=>bL.getD i false) hd E 0 hs) (hN (fun i=>bL.getD i false) hd 0 hs L) (fun t τ aq=> ?_) (fun j e aF aS=> ?_) (D1 hw)
    ·have hw:=H7 (K:=fun a W=> ∃ x,bC c (p3 h.slot (h.τ (gD h.up i (kO hd i x))) (iC (fun i=>bL.getD i false) hd E 0 hs)) (lB (hN (fun i=>bL.getD i false) hd 0 hs L) (h.fp (gD h.up i (kO hd i x))) h.wr) a W) bm (VN a W st)
     refine wpOpIn_mono (fun hZ W' ⟨x,om⟩=> ?_) hw
     have Mr:∀ j,j≠i→kO hd i x j=hd j:=fun j aF=>by
      have:Nat.beq j i=false:=by
       cases hb:Nat.beq j i
       ·rfl
       ·exact absurd (eF.1 hb) aF
      simp only [kO,this,cond_false]
     have Gi:∀ (j:Nat) (y:dG),hs[j]? =some y→bL.getD j false=true→gD y.up j (kO hd i x)=gD y.up j hd:=fun j y a9 aF=>by
      obtain⟨_,nK,_,lb⟩:=s0 j (by have:=(List.getElem?_eq_some_iff.1 a9).1; omega)
      refine PS (Mr j fun e=>by subst e; rw [ly] at aF; cases aF) fun k av=>Mr k fun e=> ?_
      have:=Ci bL inv j j (Nat.le_refl _) y nK a9 lb (fun e he hb=>inv.closed j nK lb aF e he hb) k av
      subst e
      rw [ly] at this; cases this
     have Ms:(bL.setIfInBounds i true).getD i false=true:=by simp [BR]
     have hi:∀ j,j≠i→ (bL.setIfInBounds i true).getD j false=bL.getD j false:=fun j aF=>getD_set_ne false (fun e=>aF e.symm)
     refine bI _ (kO hd i x) hZ W' sX sY ?_
     have UZ:hN (fun j=>(bL.setIfInBounds i true).getD j false) (kO hd i x) 0 hs L=lB (hN (fun i=>bL.getD i false) hd 0 hs L) (h.fp (gD h.up i (kO hd i x))) h.wr:=by
      apply List.ext_getElem?
      intro j
      rw [Bf,DA,Bf]
      by_cases aF:h.wr.contains j=true
      ·rw [if_pos aF]
       have az:∀ (ls:Nat→Bool) (g:Nat→Hid) (v:Option aH),(∀ k x,hs[k]? =some x→i < k→x.wr.contains j=true→ls k=false)→ki ls g j 0 hs v=(bif ls i then(ki ls g j 0 (hs.take i) v).map (fun _=>h.fp (gD h.up i g) j) else ki ls g j 0 (hs.take i) v):=fun ls g v Gf=>by
        conv=>lhs; rw [Ko]
        rw [Dc,Mq,Nat.zero_add,ki,aF,Bool.and_true,Dp]
        intro k x an hw
        rw [List.getElem?_drop] at an
        exact Gf (i + 1 + k) x an (by omega) hw
       have fU:∀ k x,hs[k]? =some x→i < k→x.wr.contains j=true→bL.getD k false=false:=fun k x an jj hw=>Kn k x an jj ⟨j,by simpa using hw,.inr aF⟩
       rw [az (fun j=>(bL.setIfInBounds i true).getD j false) (kO hd i x) _ (fun k x an jj hw=>by rw [hi k (by omega)]; exact fU k x an jj hw),az (fun j=>bL.getD j false) hd _ fU]
       simp only [Ms,ly,cond_true,cond_false]
       rw [AO (ls':=fun j=>bL.getD j false) (hd':=hd) fun q x an _=>by
        have hq:q < i:=by have:=(List.getElem?_eq_some_iff.1 an).1; omega
        rw [List.getElem?_take,if_pos hq] at an
        rw [Nat.zero_add]
        exact⟨hi q (by omega),fun aq=>Gi q x an (by rw [hi q (by omega)] at aq; exact aq)⟩]
      ·rw [if_neg aF]
       refine AO fun q x an hw=> ?_
       rw [Nat.zero_add]
       have hq:q≠i:=fun e=>by subst e; rw [eb] at an; cases an; exact aF hw
       exact⟨hi q hq,fun aq=>Gi q x an (by rw [hi q hq] at aq; exact aq)⟩
     rw [UZ]
     refine om.less fun t τ aq=> ?_
     rcases Ja aq with⟨j,y,J,ab,aC,aU⟩ | ⟨J,fU⟩
     ·rw [Nat.zero_add] at ab aU
      by_cases kr:j=i
      ·subst kr
       rw [eb] at J
       cases J
       exact⟨τ,by rw [aC,aU]; simp [p3,look,Nat.beq_refl],fun _ _ _ h=>h⟩
      ·rw [hi j kr] at ab
       rw [Gi j y J ab] at aU
       have aZ:=DB (ls:=fun i=>bL.getD i false) (hd:=hd) (E:=E) (k:=0) J (by rw [Nat.zero_add]; exact ab) aC fun q z hq dR=>E1 q j t z y hq J dR aC
       rw [Nat.zero_add,← aU] at aZ
       refine⟨τ,?_,fun _ _ _ h=>h⟩
       cases y3:h.slot with
       | none=>exact aZ
       | some s=>
         have dv:Nat.beq s t=false:=by
          cases hb:Nat.beq s t
          ·rfl
          ·have:=eF.1 hb; subst this
           exact absurd (E1 j i s y h J eb aC y3) kr
         simp only [p3,look,dv,cond_false]
         exact aZ
     ·have hb:=zd t τ J
      have aZ:=Dq (ls:=fun i=>bL.getD i false) (hd:=hd) (E:=E) (k:=0) hb
      refine⟨τ,?_,fun _ _ _ h=>h⟩
      cases y3:h.slot with
      | none=>simp only [p3]; rw [aZ]; exact J
      | some s=>
        have dv:Nat.beq s t=false:=by
         cases ob:Nat.beq s t
         ·rfl
         ·have:=eF.1 ob; subst this
          exact absurd y3 (fU i h eb (by rw [Nat.zero_add]; exact Ms))
        simp only [p3,look,dv,cond_false]
        rw [aZ]; exact J
    ·rcases JN aq with⟨j,aF,y,J,ab,aC⟩ | J
     ·have aZ:=DB (ls:=fun i=>bL.getD i false) (hd:=hd) (E:=E) (k:=0) J (by rw [Nat.zero_add]; exact LR j aF) ab fun q z hq dR=>E1 q j t z y hq J dR ab
      rw [Nat.zero_add,← aC] at aZ
      exact aZ
     ·rw [Dq (zd t τ J)]; exact J
    ·rw [Bf] at aF ⊢
     rw [← aF]
     conv=>lhs; rw [Ko]
     rw [Dc,Dp]
     ·refine AO fun q x an hw=> ?_
      rw [Nat.zero_add]
      have hq:q < i:=by have:=(List.getElem?_eq_some_iff.1 an).1; omega
      rw [List.getElem?_take,if_pos hq] at an
      exact⟨LR q ((yL q x an).1 hq ⟨j,by simpa using hw,aS⟩),fun _=>rfl⟩
     ·intro q x an hw
      rw [Mq,Nat.zero_add]
      cases q with
      | zero=>exact ly
      | succ q=>
        simp only [List.getElem?_cons_succ] at an
        rw [List.getElem?_drop] at an
        exact Kn (i + (q + 1)) x (by rw [← an]; congr 1; omega) (by omega) ⟨j,by simpa using hw,.inl aS⟩
theorem ai.Kp {np:Nat} {qj:Nat} {l:List Oper} (hm:c.P.follows .mixedOrders=true) (hs:List dG) (ds:List (Option Nat × List Nat × List Nat × List Nat)) (es:List Nat) (hA:lK hs=ds) (zj:E.map (·.1)=es) (ir:Gv.jS l.toArray ds es=true) (hw:∀ h∈hs,∀ j∈h.wr,j < np∨L.length≤j)
 (ct:pA c l.toArray Q hs E L np 0 l hs) (b9:∀ hd,ag c Q .normal (iC (fun _=>true) hd E 0 hs) (hN (fun _=>true) hd 0 hs L)):ai c Q (.region qj l.toArray true) E L:=fun a W s=>by
 subst hA zj
 refine wpIn_region_any hm ?_
 have Fy:HeadInv .any l.toArray l.toArray.size (Array.replicate l.toArray.size false):=
  {size:=by simp
   closed:=fun j nK _ aq=>by rw [getD_replicate_false] at aq; cases aq
   tail:=fun t J ab=>by omega }
 refine Po hw (ops:=l.toArray) (Q:=Q) ir (by simpa using ct) b9 l.toArray.size (Array.replicate l.toArray.size false) (fun _ _=>none) a W.drew (Nat.le_trans (List.length_filter_le _ _) (by simp)) Fy ?_
 have J:∀ (hs:List dG) (k:Nat),iC (fun i=>(Array.replicate l.toArray.size false).getD i false) (fun _ _=>none) E k hs=E:=by
  intro hs
  induction hs with
  | nil=>intro k; rfl
  | cons h r bI=>
    intro k
    have ab:=bI (k + 1)
    simp only [getD_replicate_false] at ab
    unfold iC
    simp only [getD_replicate_false]
    exact ab
 have ab:∀ (hs:List dG) (k:Nat) (L:List aH),hN (fun i=>(Array.replicate l.toArray.size false).getD i false) (fun _ _=>none) k hs L=L:=by
  intro hs
  induction hs with
  | nil=>intro k L; rfl
  | cons h r bI=>intro k L; rw [hN,bI]; simp only [getD_replicate_false,cond_false]
 rw [J,ab]
 exact s.world (Fr.drew W)
theorem ai.jS {qj:Nat} {l:List Oper} (hm:c.P.follows .mixedOrders=true) (hs:List dG) (ds:List (Option Nat × List Nat × List Nat × List Nat)) (es:List Nat) (hA:lK hs=ds) (zj:E.map (·.1)=es) (ir:Gv.jS l.toArray ds es=true)
 (ct:q5 c l.toArray Q hs E L 0 l hs) (b9:∀ hd,ag c Q .normal (iC (fun _=>true) hd E 0 hs) (hN (fun _=>true) hd 0 hs L)):ai c Q (.region qj l.toArray true) E L:=
 ai.Kp (np:=L.length) hm hs ds es hA zj ir (fun _ _ j _=>by omega) ct.Mo b9
theorem TI {hs:List dG} {ds:List (Option Nat × List Nat × List Nat × List Nat)} {np:Nat} (hA:lK hs=ds) (h:(ds.all fun d=>d.2.2.2.all fun j=>Nat.blt j np)=true):∀ h∈hs,∀ j∈h.wr,j < np∨L.length≤j:=fun x an j aF=>by
 subst hA
 have J:=List.all_eq_true.1 h (x.slot,x.up,x.rd,x.wr) (List.mem_map.2 ⟨x,an,rfl⟩)
 have ab:=List.all_eq_true.1 J j aF
 exact .inl (Nat.blt_eq.mp ab)
theorem ai.Bn {qj:Nat} {l:List Oper} (np:Nat) (hm:c.P.follows .mixedOrders=true) (hs:List dG) (ds:List (Option Nat × List Nat × List Nat × List Nat)) (es:List Nat) (hA:lK hs=ds) (zj:E.map (·.1)=es) (ir:Gv.jS l.toArray ds es=true) (hw:(ds.all fun d=>d.2.2.2.all fun j=>Nat.blt j np)=true)
 (ct:pA c l.toArray Q hs E L np 0 l hs) (b9:∀ hd,ag c Q .normal (iC (fun _=>true) hd E 0 hs) (hN (fun _=>true) hd 0 hs L)):ai c Q (.region qj l.toArray true) E L:=
 ai.Kp hm hs ds es hA zj ir (TI hA hw) ct b9
theorem ag.fin {slot:Option Nat} {up wr:List Nat} {i:Nat} {hd:Nat→Hid} {τ:(Nat→Hid)→I} {fp:(Nat→Hid)→Nat→aH} {E' zN:List (Nat × I)} {ay L2:List aH} (x:Hid) (aK:zN=p3 slot (τ (gD up i (kO hd i x))) E') (au:L2=lB ay (fp (gD up i (kO hd i x))) wr):
 ag c (rT (fun a W=> ∃ x,bC c (p3 slot (τ (gD up i (kO hd i x))) E') (lB ay (fp (gD up i (kO hd i x))) wr) a W) Q) .normal zN L2:=fun a W s=>by
 subst aK au
 exact⟨x,s⟩
theorem ag.place {z:Exit} {e:aH} (j:Nat) (aF:L[j]? =some ⟨none,.dead⟩) (k:ag c Q z E (L.set j e)):ag c Q z E (e :: L):=fun a W s=>by
 refine k a W (s.sub (fun x an=> ?_) ?_)
 ·rcases List.mem_or_eq_of_mem_set an with h | h
  ·exact List.mem_cons.2 (.inr h)
  ·exact List.mem_cons.2 (.inl h)
 ·have J:=qJ aF
  have ab:(L.set j e).Perm (e :: L.eraseIdx j):=by
   have aC:(L.set j e)[j]? =some e:=by rw [List.getElem?_set_self (List.getElem?_eq_some_iff.1 aF).1]
   have aU:=qJ aC
   rwa [List.eraseIdx_set_eq] at aU
  have aZ:=sk (J.cons e)
  have bn:aJ (e :: ⟨none,.dead⟩ :: L.eraseIdx j)=aJ (e :: L.eraseIdx j):=by cases av:e.key <;> simp [aJ,av]
  rw [bn] at aZ
  exact(sk ab).nodup_iff.2 (aZ.nodup_iff.1 s.nodup)
theorem ag.back {z:Exit} {e kR:aH} (j:Nat) (aF:L[j]? =some kR) (k:ag c Q z E (L.set j e)):ag c Q z E (e :: L.eraseIdx j):=fun a W s=>by
 have aC:(L.set j e)[j]? =some e:=by rw [List.getElem?_set_self (List.getElem?_eq_some_iff.1 aF).1]
 have aU:=qJ aC
 rw [List.eraseIdx_set_eq] at aU
 exact k a W (s.perm aU.symm)
theorem ai.pY {z:Code} (n:Nat) (k:ai c Q z E (L ++ List.replicate n ⟨none,.dead⟩)):ai c Q z E L:=fun a W s=>by
 refine k a W ?_
 have av:aJ (L ++ List.replicate n ⟨none,.dead⟩)=aJ L:=by
  rw [eA]
  have:∀ n,aJ (List.replicate n (⟨none,.dead⟩:aH))= []:=fun n=>by
   induction n with
   | zero=>rfl
   | succ n bI=>rw [List.replicate_succ]; simp [aJ,bI]
  rw [this,List.append_nil]
 exact
 {defers:=s.defers
  size:=s.size
  env:=fun t τ aq=>by rw [av]; exact s.env t τ aq
  dd:=s.dd
  own:=fun e he=>by
   rw [av]
   rcases List.mem_append.1 he with he | he
   ·exact s.own e he
   ·rw [(List.mem_replicate.1 he).2]; trivial
  nodup:=by rw [av]; exact s.nodup
  lt:=by rw [av]; exact s.lt
  fs:=by rw [av]; exact s.fs
  er:=by rw [av]; exact s.er }
theorem ai.Tx {z:Code} (n m:Nat) (k:ai c Q z E (L.take m ++ (List.replicate n ⟨none,.dead⟩ ++ L.drop m))):ai c Q z E L:=by
 refine ai.pY n fun a W s=>k a W (s.perm ?_)
 have e:L=L.take m ++ L.drop m:=(List.take_append_drop m L).symm
 conv=>lhs; rw [e]
 rw [List.append_assoc]
 exact List.perm_append_comm.append_left _
theorem ag.fg {z:Exit} {L2:List aH} (h:L=L2) (k:ag c Q z E L2):ag c Q z E L:=by subst h; exact k
theorem ag.ke {z:Exit} {key:Option Nat} {n m cap:Nat} (eM:Nat) (aq:look E eM=some (.eq (aV key n cap))) (aO:n=m) (k:ag c Q z ((eM,.eq (aV key m cap)) :: E) L):ag c Q z E L:=fun a W s=>by
 subst aO
 refine k a W (s.less fun t τ h=> ?_)
 simp only [look] at h
 by_cases e:Nat.beq eM t=true
 ·rw [e] at h
  simp only [cond_true] at h
  have:=eF.1 e
  subst this
  exact⟨τ,by rw [aq,h],fun _ _ _ h=>h⟩
 ·simp only [Bool.not_eq_true] at e
  rw [e] at h
  exact⟨τ,h,fun _ _ _ h=>h⟩
variable {hs:List dG} {i d:Nat} {up rd:List Nat} {fp:(Nat→Hid)→Nat→aH} {o:Oper}
theorem iP {τ:I} (b0:o.guard=none) (hd:o.dst=some d) (aO:Nat.blt d c.n=true)
 (h:∀ (hd:Nat→Hid) (E':List (Nat × I)) (ay:List aH),(∀ t τ,look (ld hd hs E up) t=some τ→look E' t=some τ)→ (∀ j e,(hN (fun _=>true) hd 0 (hs.take i) L)[j]? =some e→rd.contains j=true→ay[j]? =some e)→bX c E' ay o τ):
 eT c ops Q hs E L i o ⟨some d,up,rd,[],fun _=>τ,fp⟩:=fun VO E' ay aK au=>
 ah.v (h VO E' ay aK au) b0 hd aO (ah.nil (ag.fin (fun _=>none) rfl rfl))
variable {ty t:TypeId} {pos:String} {af:Array Edge}
theorem ah.LB {α:Type} [ad α] {rest:List Oper} {a6 e n:Nat} {z:α} {r0 r:List α} {bl:List (Nat × Operand)} (hu:c.P.underlying t=some (.slice e)) (e5:bt c.P e α) (fN:cx c.P e z) (hs:Nat.beq (ad.size α) 0=false) (aO:Nat.ble (n * ad.size α) 16777216=true)
 (a8:l2 c E L (List.replicate n z) bl r0) (aS:r0=r) (j7:Nat.blt a6 c.n=true) (k:∀ p,ah c ops Q rest ((a6,.eq (aV p r.length n)) :: E) (⟨p,.row e r n⟩ :: L)):
 ah c ops Q (⟨some a6,.buildSlice t n bl.toArray,ty,pos,af,none⟩ :: rest) E L:=by subst aS; exact ah.oT hu e5 fN hs aO a8 j7 k
variable {g:Option (Nat × Bool)} {x y:Operand}
theorem Qe {a b:BitVec 64} {a6:Option Tmp} {ats:Array TypeId} (an:ba c E L x (.of a)) (a9:ba c E L y (.of b)):bX c E L ⟨a6,.call ⟨.builtin .min,#[x,y],ats⟩,ty,pos,af,g⟩ (.of (sV a b)):= .pure fun A W s=>
 ⟨.int .u64 (sV a b).toNat,by
   simp [execOp,resolve,invoke,builtin,Builtin.min_,Builtin.min2,gm.1 (an A W s),gm.1 (a9 A W s)]
   unfold sV
   split <;> split <;> first | rfl | (rename_i J ab; simp only [BitVec.le_def] at *; omega),gm.2 rfl⟩
end
end Gv
namespace Gv
open Go
set_option linter.unusedVariables false
set_option linter.unusedSimpArgs false
section
variable {c:cU} {E:List (Nat × I)} {L:List aH} {ops:Array Oper} {Q:Exit→Act→World→Prop}
variable {d:Option Tmp} {ty:TypeId} {pos:String} {af:Array Edge} {g:Option (Nat × Bool)} {x y:Operand} {t t2:TypeId}
def Src (c:cU) (E:List (Nat × I)) (L:List aH) (y:Operand) (N:Nat) {α:Type} [ad α] (vs:List α):Prop:=
 ∀ a W,bC c E L a W→ (Builtin.lenOf (a.eval y)).run c.P W= .ok N W∧ ∃ cells:List Value,(Builtin.firstCells (ad.size α) vs.length (a.eval y)).run c.P W= .ok cells.toArray W∧fJ (aJ L ++ c.bP) W cells vs∧ ∀ v∈cells,v.oneCell'=true
theorem ah.BC {rest:List Oper} {i e p off a6 dLen dCap N T:Nat} {cp cp':dn} {α:Type} [ad α] {vs:List α} (hu:c.P.underlying t=some (.slice e)) (e5:bt c.P e α)
 (an:ba c E L x (.eq (.slice (some ⟨p,off,none⟩) dLen dCap))) (a9:Src c E L y N vs) (Fx:Nat.min N dLen=vs.length) (au:L[i]? =some ⟨some p,cp⟩) (aO:Nat.blt a6 c.n=true)
 (FV:∀ A W o cells,cp.holds A W o→fJ A W cells vs→ ∃ cs,o= .cells cs T (0,0)∧off + cells.length≤cs.size∧cp'.holds A W (.cells (cs.toList.take off ++ cells ++ cs.toList.drop (off + cells.length)).toArray T (0,0)))
 (k:ah c ops Q rest ((a6,.of (vs.length:Int)) :: E) (L.set i ⟨some p,cp'⟩)):
 ah c ops Q (⟨some a6,.call ⟨.builtin .copy,#[x,y],#[t,t2]⟩,ty,pos,af,none⟩ :: rest) E L:=fun a W s=>by
 have j7:a6 < c.n:=by simpa using aO
 have J:a.eval x=_:=an a W s
 obtain⟨aq,cells,ar,aS,Ce⟩:=a9 a W s
 obtain⟨o,bm,ct⟩:=s.own _ (List.mem_of_getElem? au)
 obtain⟨cs,rfl,LO,yI⟩:=FV _ _ _ _ ct aS
 obtain⟨fG,dJ,en⟩:=e5.info
 have j0:=run_storeCells_at (P:=c.P) p off T cells 0 cs W bm (by omega) Ce
 simp only [Nat.add_zero] at j0
 have jU:(execOp a.eval ⟨some a6,.call ⟨.builtin .copy,#[x,y],#[t,t2]⟩,ty,pos,af,none⟩).run c.P W= .ok (.value (goInt vs.length)) (W.setRow p (cs.toList.take off ++ cells ++ cs.toList.drop (off + cells.length)).toArray):=by
  simp [execOp,resolve,invoke,builtin,Builtin.copy_,J,run_underlying hu,aq,Fx,Go.sizeOf,typeInfo,dJ,en,ar,j0]
 refine hH rfl (R:=fun v gY=>v=goInt vs.length∧gY=W.setRow p (cs.toList.take off ++ cells ++ cs.toList.drop (off + cells.length)).toArray) (.lr jU ⟨rfl,rfl⟩) fun v gY ⟨aY,hw⟩=> ?_
 subst aY
 subst hw
 exact k _ _ ((s.store au bm yI).put j7 (of_int.2 rfl))
theorem DT {i T cap lo N k:Nat} {key:Option Nat} {α:Type} [ad α] {xs:List α} (a9:ba c E L y (.eq (hT key lo N cap (ad.size α)))) (au:L[i]? =some ⟨key,.row T xs cap⟩) (av:0 < k) (hi:lo + k≤xs.length):
 Src c E L y N ((xs.drop lo).take k):=fun a W s=>by
 obtain⟨p,cs,rfl,dV,ax,a1,br,cr⟩:=s.rowAt au (by omega)
 have J:a.eval y=_:=a9 a W s
 have kN:cap≠lo:=by omega
 have aY:a.eval y= .slice (some ⟨p,lo * ad.size α,none⟩) N (cap - lo):=by rw [J]; simp [hT,kN]
 have hlen:((xs.drop lo).take k).length=k:=by rw [List.length_take,List.length_drop]; omega
 have qk:cs.toList.length=cap * ad.size α:=by simpa using ax
 have U0:(lo + k) * ad.size α≤xs.length * ad.size α:=Nat.mul_le_mul_right _ hi
 have BW:xs.length * ad.size α≤cap * ad.size α:=Nat.mul_le_mul_right _ a1
 rw [Nat.add_mul] at U0
 have LS:((cs.toList.drop (lo * ad.size α)).take (k * ad.size α)).length=k * ad.size α:=by rw [List.length_take,List.length_drop]; omega
 have ff:fJ (aJ L ++ c.bP) W ((cs.toList.drop (lo * ad.size α)).take (k * ad.size α)) ((xs.drop lo).take k):=by
  refine⟨by rw [LS,hlen],fun j aF=> ?_⟩
  rw [hlen] at aF
  have aZ:=cr.2 (lo + j) (by omega)
  have eQ:=uQ (s:=ad.size α) aF
  have W7:=uQ (s:=ad.size α) (show lo + j < xs.length by omega)
  rw [List.drop_take,List.take_take,Nat.min_eq_left (by omega)] at aZ
  rw [List.drop_take,List.take_take,Nat.min_eq_left (by omega),List.drop_drop,← Nat.add_mul]
  simpa using aZ
 have fl:=run_loadCells_list (P:=c.P) W ⟨p,lo * ad.size α,none⟩ ((cs.toList.drop (lo * ad.size α)).take (k * ad.size α)) fun j v aY=>by
  rw [iw,cell_of_row W p _ cs T (0,0) dV]
  rw [List.getElem?_take] at aY
  split at aY
  ·rw [List.getElem?_drop] at aY; simpa using aY
  ·cases aY
 rw [LS] at fl
 refine⟨by rw [aY]; rfl,(cs.toList.drop (lo * ad.size α)).take (k * ad.size α),?_,ff,ff.one⟩
 rw [aY]
 simp only [Builtin.firstCells]
 rw [hlen]
 exact fl
theorem DS {p lo n cap size:Nat} (h:cap≠lo):hT (some p) lo n cap size=Value.slice (some ⟨p,lo * size,none⟩) n (cap - lo):=by simp [hT,h]
theorem JF {i T cap:Nat} {key:Option Nat} {α:Type} [ad α] {xs:List α} (a9:ba c E L y (.eq (aV key xs.length cap))) (au:L[i]? =some ⟨key,.row T xs cap⟩) (an:0 < xs.length):Src c E L y xs.length xs:=by
 have:=DT (lo:=0) (k:=xs.length) (N:=xs.length) (by rw [w7]; exact a9) au an (by omega)
 simpa using this
theorem Ba {key:Option Nat} {n cap size:Nat} (h:ba c E L x (.eq (hT key 0 n cap size))):ba c E L x (.eq (aV key n cap)):=by rw [← w7 (size:=size)]; exact h
theorem Eg {p lo n cap size:Nat} (ar:cap≠lo) (h:ba c E L x (.eq (hT (some p) lo n cap size))):ba c E L x (.eq (.slice (some ⟨p,lo * size,none⟩) n (cap - lo))):=by rw [← DS ar]; exact h
def dn.y1 {α:Type} [ad α] (T:TypeId) (xs:List α) (i m cap:Nat):dn where
 holds A W o:= ∃ cs,o= .cells cs T (0,0)∧cs.size=cap * ad.size α∧xs.length + m≤cap∧cap≤maxLen∧fJ A W (cs.toList.take (i * ad.size α)) (xs.take i)∧
  fJ A W ((cs.toList.drop ((i + m) * ad.size α)).take ((xs.length - i) * ad.size α)) (xs.drop i)
 l7:=False
 mono e h:=let⟨cs,J,ab,aC,aU,aZ,bn⟩:=h; ⟨cs,J,ab,aC,aU,aZ.mono e,bn.mono e⟩
theorem QP {α:Type} [ad α] {T i m cap:Nat} {xs:List α} (al:i≤xs.length) (hm:xs.length + m≤cap) {A W o cells} (h:(dn.row T xs cap).holds A W o) (ar:fJ A W cells (xs.drop i)):
 ∃ cs,o= .cells cs T (0,0)∧ (i + m) * ad.size α + cells.length≤cs.size∧ (dn.y1 T xs i m cap).holds A W (.cells (cs.toList.take ((i + m) * ad.size α) ++ cells ++ cs.toList.drop ((i + m) * ad.size α + cells.length)).toArray T (0,0)):=by
 obtain⟨cs,rfl,ax,a1,br,cr⟩:=h
 have qk:cs.toList.length=cap * ad.size α:=by simpa using ax
 have kN:cells.length=(xs.length - i) * ad.size α:=by rw [ar.1,List.length_drop]
 have az:(i + m) * ad.size α + (xs.length - i) * ad.size α=(xs.length + m) * ad.size α:=by rw [← Nat.add_mul]; congr 1; omega
 have aX:(xs.length + m) * ad.size α≤cap * ad.size α:=Nat.mul_le_mul_right _ hm
 have cP:i * ad.size α≤ (i + m) * ad.size α:=Nat.mul_le_mul_right _ (by omega)
 have eZ:i * ad.size α≤xs.length * ad.size α:=Nat.mul_le_mul_right _ al
 have gk:(cs.toList.take ((i + m) * ad.size α)).length=(i + m) * ad.size α:=by rw [List.length_take]; omega
 refine⟨cs,rfl,by omega,_,rfl,?_,hm,br,?_,?_⟩
 ·simp only [List.size_toArray,List.length_append,List.length_take,List.length_drop]; omega
 ·rw [List.toList_toArray,List.append_assoc,List.take_append_of_le_length (by rw [gk]; omega),List.take_take,Nat.min_eq_left cP]
  have:=Dz al (⟨cs,rfl,ax,a1,br,cr⟩:(dn.row T xs cap).holds A W (.cells cs T (0,0)))
  obtain⟨VP,J,_,_,_,aZ⟩:=this
  cases J
  rwa [List.length_take,Nat.min_eq_left al] at aZ
 ·rw [List.toList_toArray,List.append_assoc,List.drop_left' gk,← kN,List.take_left]
  exact ar
theorem Qc {α:Type} [ad α] {T i cap:Nat} {xs vs:List α} (al:i≤xs.length) {A W o cells} (h:(dn.y1 T xs i vs.length cap).holds A W o) (ar:fJ A W cells vs):
 ∃ cs,o= .cells cs T (0,0)∧i * ad.size α + cells.length≤cs.size∧ (dn.row T (xs.take i ++ vs ++ xs.drop i) cap).holds A W (.cells (cs.toList.take (i * ad.size α) ++ cells ++ cs.toList.drop (i * ad.size α + cells.length)).toArray T (0,0)):=by
 obtain⟨cs,rfl,ax,a1,br,cr,g7⟩:=h
 have qk:cs.toList.length=cap * ad.size α:=by simpa using ax
 have kN:cells.length=vs.length * ad.size α:=ar.1
 have kR:i * ad.size α + vs.length * ad.size α=(i + vs.length) * ad.size α:=by rw [← Nat.add_mul]
 have az:(i + vs.length) * ad.size α + (xs.length - i) * ad.size α=(xs.length + vs.length) * ad.size α:=by rw [← Nat.add_mul]; congr 1; omega
 have aX:(xs.length + vs.length) * ad.size α≤cap * ad.size α:=Nat.mul_le_mul_right _ a1
 have hlen:(xs.take i ++ vs ++ xs.drop i).length=xs.length + vs.length:=by simp; omega
 refine⟨cs,rfl,by omega,_,rfl,?_,by rw [hlen]; exact a1,br,?_⟩
 ·simp only [List.size_toArray,List.length_append,List.length_take,List.length_drop]; omega
 ·rw [List.toList_toArray,hlen]
  have jy:=qI (qI cr ar) g7
  have gk:(cs.toList.take (i * ad.size α) ++ cells).length=(i + vs.length) * ad.size α:=by rw [List.length_append,List.length_take]; omega
  have gU:(cs.toList.take (i * ad.size α) ++ cells ++ cs.toList.drop (i * ad.size α + cells.length)).take ((xs.length + vs.length) * ad.size α)=cs.toList.take (i * ad.size α) ++ cells ++ (cs.toList.drop ((i + vs.length) * ad.size α)).take ((xs.length - i) * ad.size α):=by
   rw [List.take_append,gk,List.take_of_length_le (by omega),kN,kR]
   congr 2
   omega
  rw [gU]
  exact jy
theorem I6 {α:Type} [ad α] {T lo cap:Nat} {xs vs:List α} (av:lo + vs.length≤xs.length) {A W o cells} (h:(dn.row T xs cap).holds A W o) (ar:fJ A W cells vs):
 ∃ cs,o= .cells cs T (0,0)∧lo * ad.size α + cells.length≤cs.size∧ (dn.row T (xs.take lo ++ vs ++ xs.drop (lo + vs.length)) cap).holds A W (.cells (cs.toList.take (lo * ad.size α) ++ cells ++ cs.toList.drop (lo * ad.size α + cells.length)).toArray T (0,0)):=by
 obtain⟨cs,rfl,ax,a1,br,cr⟩:=h
 have qk:cs.toList.length=cap * ad.size α:=by simpa using ax
 have kN:cells.length=vs.length * ad.size α:=ar.1
 have kR:lo * ad.size α + vs.length * ad.size α=(lo + vs.length) * ad.size α:=by rw [← Nat.add_mul]
 have az:(lo + vs.length) * ad.size α≤xs.length * ad.size α:=Nat.mul_le_mul_right _ av
 have aX:xs.length * ad.size α≤cap * ad.size α:=Nat.mul_le_mul_right _ a1
 have hlen:(xs.take lo ++ vs ++ xs.drop (lo + vs.length)).length=xs.length:=by simp; omega
 refine⟨cs,rfl,by omega,_,rfl,?_,by rw [hlen]; exact a1,br,?_⟩
 ·simp only [List.size_toArray,List.length_append,List.length_take,List.length_drop]; omega
 ·rw [List.toList_toArray,hlen]
  have g7:=IT (lo:=lo) cr ar av
  have e:(cs.toList.take (lo * ad.size α) ++ cells ++ cs.toList.drop (lo * ad.size α + cells.length)).take (xs.length * ad.size α)=(cs.toList.take (xs.length * ad.size α)).take (lo * ad.size α) ++ cells ++ (cs.toList.take (xs.length * ad.size α)).drop (lo * ad.size α + cells.length):=by
   have cP:(cs.toList.take (lo * ad.size α) ++ cells).length=lo * ad.size α + cells.length:=by rw [List.length_append,List.length_take]; omega
   rw [List.take_append,cP,List.take_of_length_le (by omega),List.take_take,Nat.min_eq_left (by omega),List.drop_take]
  rw [e]
  exact g7
theorem RG {p n cap e:Nat} (hu:c.P.underlying t=some (.slice e)) (an:ba c E L x (.eq (aV (some p) n cap))):bX c E L ⟨d,.call ⟨.builtin .cap,#[x],#[t]⟩,ty,pos,af,g⟩ (.of (cap:Int)):= .pure fun a W s=>by
 have J:a.eval x=_:=an a W s
 exact⟨.int .i64 cap,by simp [execOp,resolve,invoke,builtin,Builtin.cap_,J,aV,run_underlying hu,goInt],of_int.2 rfl⟩
theorem qQ {p n cap:Nat} {α:Type} [ad α] {e:TypeId} {lo al:Option Operand} {m h:Nat} {zK zL:Int} (hu:c.P.underlying t=some (.slice e)) (e5:bt c.P e α) (an:ba c E L x (.eq (aV (some p) n cap)))
 (hi:rR c E L lo zK 0) (eb:rR c E L al zL n) (hm:zK=m) (aO:zL=h) (ct:m≤h∧h≤cap):
 bX c E L ⟨d,.slice t x lo al none,ty,pos,af,g⟩ (.eq (hT (some p) m (h - m) cap (ad.size α))):= .pure fun a W s=>by
 subst hm; subst aO
 obtain⟨vF,mi⟩:=ct
 obtain⟨fG,dJ,en⟩:=e5.info
 have J:a.eval x=_:=an a W s
 refine⟨_,?_,rfl⟩
 simp only [hT]
 have au:∀ v,v=Value.int .i64 m→ (Instr.sliceBound v h .sliceB).run c.P W= .ok m W:=fun v aY=>oB vF aY
 have iu:∀ v,v=Value.int .i64 h→ (Instr.sliceBound v cap .sliceAcap).run c.P W= .ok h W:=fun v aY=>oB (by omega) aY
 generalize eQ:(h:Int)=MQ at eb
 generalize y8:(m:Int)=MR at hi
 generalize y9:(n:Int)=MS at eb
 generalize Mg:(0:Int)=MT at hi
 cases hi with
 | none=>
   have hB:m=0:=by omega
   cases eb with
   | none=>
     have mi:h=n:=by omega
     subst mi
     subst hB
     simp [execOp,Instr.sliceAt,Instr.slice,Instr.sliceBounds,J,aV,run_underlying hu,Go.sizeOf,typeInfo,dJ,en,iw]
   | some ct=>
     subst eQ
     subst hB
     simp [execOp,Instr.sliceAt,Instr.slice,Instr.sliceBounds,J,aV,run_underlying hu,Go.sizeOf,typeInfo,dJ,en,iw,iu _ (of_int.1 (ct a W s))]
 | some aq=>
   subst y8
   cases eb with
   | none=>
     have mi:h=n:=by omega
     subst mi
     simp [execOp,Instr.sliceAt,Instr.slice,Instr.sliceBounds,J,aV,run_underlying hu,Go.sizeOf,typeInfo,dJ,en,iw,au _ (of_int.1 (aq a W s))]
     split <;> rfl
   | some ct=>
     subst eQ
     simp [execOp,Instr.sliceAt,Instr.slice,Instr.sliceBounds,J,aV,run_underlying hu,Go.sizeOf,typeInfo,dJ,en,iw,au _ (of_int.1 (aq a W s)),iu _ (of_int.1 (ct a W s))]
     split <;> rfl
theorem S6 {f:FuncId} {fn:Func} {p q T U cap cap' i j e tR ox MY ha lP MZ iI:Nat} {α:Type} [ad α] {xs vs:List α} (yN:Nat.beq (ad.size α) 0=false)
 (a8:c.P.funcs[f]? =some fn) (TJ:(fn.name == "runtime.NumGoroutine")=false) (hb:fn.body.isNone=true) (aO:Extern.findNext fn=none)
 (he:Extern.find fn=some (Extern.SlicesOverlaps.overlaps #[t,t] #[tR])) (hu:c.P.underlying t=some (.slice e)) (e5:bt c.P e α)
 (an:ba c E L x (.eq (.slice (some ⟨q,MZ,none⟩) ox MY))) (a9:ba c E L y (.eq (.slice (some ⟨p,iI,none⟩) ha lP)))
 (al:L[i]? =some ⟨some p,.row T xs cap⟩) (aF:L[j]? =some ⟨some q,.row U vs cap'⟩) (B9:p≠q) (yF:0 < cap):
 bX c E L ⟨d,.call ⟨.value (.func f),#[x,y],#[t,t]⟩,ty,pos,af,g⟩ (.of false):= .pure fun a W s=>by
 obtain⟨o,bm,cs,rfl,ax,a1,br,cr⟩:=s.own _ (List.mem_of_getElem? al)
 obtain⟨o',qg,dk,rfl,a4,bZ,dj,hj⟩:=s.own _ (List.mem_of_getElem? aF)
 obtain⟨fG,dJ,en⟩:=e5.info
 have J:a.eval x=_:=an a W s
 have ab:a.eval y=_:=a9 a W s
 have im:ad.size α≠0:=fun h=>by rw [h] at yN; cases yN
 have dv:cs.size≠0:=by rw [ax]; exact Nat.mul_ne_zero (by omega) im
 have VQ:=Lib.run_overlaps_apart (P:=c.P) W t tR e hu (ad.size α) (fun w=>by simp [Go.sizeOf,typeInfo,dJ,en]) ⟨q,MZ,none⟩ ⟨p,iI,none⟩ ox MY ha lP (fun h=>B9 h.symm) U T dk.size cs.size
  (by simp [World.shape?,qg]) (by simp [World.shape?,bm]) dv (by simp [World.frozen?,qg]) (by simp [World.frozen?,qg])
 refine⟨.bool false,?_,by exact of_bool.2 rfl⟩
 have bJ:a.eval (.func f)= .func (.func f) #[] #[]:=rfl
 simp [execOp,resolve,Deferred.ofValue,bJ,invoke,run_callFunc_extern a8 TJ hb aO he,J,ab,VQ]
theorem ah.Uw {α:Type} [ad α] {rest:List Oper} {a6 i e bytes cap m k p T:Nat} {M0:IntKind} {xs:List α} {z:α} (hu:c.P.underlying t=some (.slice e)) (oe:c.P.underlying t2=some (.int M0)) (e5:bt c.P e α) (fN:cx c.P e z) (yN:Nat.beq (ad.size α) 0=false)
 (te:(c.P.info? e).map (·.bytes)=some bytes) (an:ba c E L x (.eq (hT (some p) 0 m cap (ad.size α)))) (a9:ba c E L y (.of (k:Int))) (au:L[i]? =some ⟨some p,.row T xs cap⟩) (hm:m≤xs.length) (av:0 < k) (b0:cap < m + k)
 (s8:(m + k) * bytes≤140737488355328) (ob:m + k≤maxLen) (aO:Nat.blt a6 c.n=true)
 (qv:∀ q cap',ah c ops Q rest ((a6,.eq (aV (some q) (m + k) cap')) :: E) (⟨some q,.row e (xs.take m ++ List.replicate k z) cap'⟩ :: L)):
 ah c ops Q (⟨some a6,.call ⟨.builtin .append,#[x,y],#[t,t2]⟩,ty,pos,af,none⟩ :: rest) E L:=fun a W s=>by
 obtain⟨fG,dB,dJ,dR,o5⟩:=fN.zero
 have lz:fG.size=ad.size α:=by
  obtain⟨i2,J,ab⟩:=e5.info
  rw [dJ] at J; cases J; exact ab
 have Ej:fG.bytes=bytes:=by simpa [dJ] using te
 subst Ej
 have tf:dB.cells.size=ad.size α:=by have:=ad.len (o5 [] W).2; simpa using this
 have im:ad.size α≠0:=fun h=>by rw [h] at yN; cases yN
 have j7:a6 < c.n:=by simpa using aO
 have J:a.eval x= .slice (some ⟨p,0,none⟩) m cap:=by
  have:=an a W s
  rw [w7] at this
  exact this
 obtain⟨o,bm,cs,rfl,ax,a1,br,cr⟩:=s.own _ (List.mem_of_getElem? au)
 have oc:maxLen=9223372036854775807:=rfl
 have ab:a.eval y= .int .i64 k:=of_int.1 (a9 a W s)
 have U1:=Dz hm (⟨cs,rfl,ax,a1,br,cr⟩:(dn.row T xs cap).holds (aJ L ++ c.bP) W (.cells cs T (0,0)))
 obtain⟨VP,az,_,_,_,Gj⟩:=U1
 cases az
 have FB:(xs.take m).length=m:=by rw [List.length_take]; omega
 rw [FB] at Gj
 have sI:∀ (j:Nat) u,(cs.toList.take (m * ad.size α))[j]? =some u→W.drew.cell? ((⟨p,0,none⟩:Addr).add j)=some u:=by
  intro j u mW
  rw [List.getElem?_take] at mW
  split at mW
  ·rw [iw,Nat.zero_add,cell_of_row W.drew p j cs T (0,0) bm]; simpa using mW
  ·cases mW
 have hold:=run_loadCells_list (P:=c.P) W.drew ⟨p,0,none⟩ _ sI
 rw [Gj.1,FB] at hold
 have aS:=Lib.run_append_grow_zeros (P:=c.P) W t t2 ty e fG dB .i64 M0 hu oe dJ dR (some ⟨p,0,none⟩) m cap _ (by simp only [Builtin.firstCells]; rw [lz]; exact hold) k av (by omega) b0 (by omega)
  (by have:k * fG.bytes≤ (m + k) * fG.bytes:=Nat.mul_le_mul_right _ (by omega)
      omega) (growslice_fits b0 s8)
 have za:=grownCap_ge W (m + k) cap e
 have hle:=grownCap_le_maxLen W (m + k) cap e ob
 have Cg:=o5 (aJ L ++ c.bP) W
 have oi:=xa Cg k im
 have Ge:Builtin.zeroCells dB.cells k=(Array.range (k * ad.size α)).map (dB.cells[· % dB.cells.size]!):=by rw [Builtin.zeroCells,tf]
 rw [← Ge] at oi
 have vo:=(qI Gj oi).mono (Ext.dd (Fr.drew W))
 have hlen:(xs.take m ++ List.replicate k z).length=m + k:=by rw [List.length_append,FB,List.length_replicate]
 have j0:=(s.world (Fr.drew W)).alloc (o:= .cells ((cs.toList.take (m * ad.size α)).toArray ++ Builtin.zeroCells dB.cells k ++ Builtin.zeroCells dB.cells (grownCap W (m + k) cap e - (m + k))) e)
  (cp:= .row e (xs.take m ++ List.replicate k z) (grownCap W (m + k) cap e))
  (DZ (T:=e) vo (ds:=(Builtin.zeroCells dB.cells (grownCap W (m + k) cap e - (m + k))).toList) (by rw [Array.length_toList,size_zeroCells,tf,hlen]) (by rw [hlen]; exact za) hle (by simp))
 refine hH rfl (R:=fun v gY=>v=aV (some W.heap.size) (m + k) (grownCap W (m + k) cap e)∧gY=W.drew.alloc (.cells ((cs.toList.take (m * ad.size α)).toArray ++ Builtin.zeroCells dB.cells k ++ Builtin.zeroCells dB.cells (grownCap W (m + k) cap e - (m + k))) e)) (.lr ?_ ⟨rfl,rfl⟩) fun v gY ⟨aY,hw⟩=> ?_
 ·simp only [execOp,resolve,invoke,builtin,Sem.run_bind,Sem.run_pure,Result.andThen_ok]
  have az:(#[x,y]:Array Operand).map a.eval= #[a.eval x,a.eval y]:=by simp
  rw [az,J,ab,aS]
  rfl
 ·subst aY
  subst hw
  exact qv _ _ _ _ (j0.put j7 rfl)
theorem ai.some {code:Code} {i T cap:Nat} {key:Option Nat} {α:Type} [ad α] {xs:List α} (au:L[i]? =Option.some ⟨key,.row T xs cap⟩) (an:0 < xs.length) (k:∀ p,key=Option.some p→xs.length≤cap→cap≤maxLen→ai c Q code E L):ai c Q code E L:=fun a W s=>by
 obtain⟨p,cs,rfl,dV,ax,a1,br,cr⟩:=s.rowAt au an
 exact k p rfl a1 br a W s
theorem ai.apart {code:Code} {p q:Nat} {cp cp':dn} {ay:List aH} (au:L=⟨Option.some p,cp⟩ :: ⟨Option.some q,cp'⟩ :: ay) (k:p≠q→ai c Q code E L):ai c Q code E L:=fun a W s=>by
 refine k (fun e=> ?_) a W s
 have:=s.nodup
 rw [au,e] at this
 simp [aJ] at this
theorem DC {α γ:Type} [ad α] [ad γ] {A W} {cs:List Value} {x:α} {os:List (Nat × Value)} {u:Value} (l:aL α (List γ)) (h:jV A W cs x os) (hq:(l.off,u)∈os):jV A W cs (l.set x []) os:=by
 refine⟨?_,h.2⟩
 have J:=l.jO (ds:= [iQ]) (g:=([]:List γ)) h.1 (show ad.rep A W [iQ] ([]:List γ) from by
  have:=(ln (A:=A) (W:=W) (v:=iQ) (xs:=([]:List γ))).2 (.inl ⟨rfl,rfl⟩)
  exact this.2)
 have hb:(blank os cs)[l.off]? =some iQ:=by
  rw [oC,if_pos (List.any_eq_true.2 ⟨_,hq,by simp⟩),(h.2 _ hq).1]; rfl
 have cq:l.off < (blank os cs).length:=(List.getElem?_eq_some_iff.1 hb).1
 have he:(blank os cs).take l.off ++ [iQ] ++ (blank os cs).drop (l.off + ad.size (List γ))=blank os cs:=by
  show(blank os cs).take l.off ++ [iQ] ++ (blank os cs).drop (l.off + 1)=blank os cs
  have ab:(blank os cs)[l.off]=iQ:=(List.getElem?_eq_some_iff.1 hb).2
  rw [← ab,List.append_assoc,List.singleton_append,List.getElem_cons_drop,List.take_append_drop]
 rwa [he] at J
theorem ah.FL {mw:List Oper} {p:Nat} {β γ:Type} [ad β] [ad γ] {b b':β} {os:List (Nat × Value)} {u:Value} (l:aL β (List γ)) (i q:Nat) (au:L[i]? =some ⟨some p,.cj b os⟩) (hq:os[q]? =some (l.off,u)) (hb:l.set b []=b')
 (k:ah c ops Q mw E (L.set i ⟨some p,.cj b' os⟩)):ah c ops Q mw E L:=fun a W s=>
 k a W (s.again au (fun A W o ⟨cs,T,J,ab⟩=>⟨cs,T,J,hb ▸ DC l ab (List.mem_of_getElem? hq)⟩) id)
theorem ag.FL {z:Exit} {p:Nat} {β γ:Type} [ad β] [ad γ] {b b':β} {os:List (Nat × Value)} {u:Value} (l:aL β (List γ)) (i q:Nat) (au:L[i]? =some ⟨some p,.cj b os⟩) (hq:os[q]? =some (l.off,u)) (hb:l.set b []=b')
 (k:ag c Q z E (L.set i ⟨some p,.cj b' os⟩)):ag c Q z E L:=fun a W s=>
 k a W (s.again au (fun A W o ⟨cs,T,J,ab⟩=>⟨cs,T,J,hb ▸ DC l ab (List.mem_of_getElem? hq)⟩) id)
end
def yG {α:Type} (bytes:Nat) (xs:List α) (i:Int) (vs:List α):Option (List α):=
 if 0≤i∧i≤xs.length∧0 < vs.length∧ (xs.length + vs.length) * bytes≤140737488355328∧xs.length + vs.length≤maxLen then some (xs.take i.toNat ++ vs ++ xs.drop i.toNat) else none
theorem PC {α:Type} {bytes:Nat} {xs vs r:List α} {i:Int} (h:yG bytes xs i vs=some r):
 ∃ k:Nat,i=k∧k≤xs.length∧0 < vs.length∧ (xs.length + vs.length) * bytes≤140737488355328∧xs.length + vs.length≤maxLen∧r=xs.take k ++ vs ++ xs.drop k:=by
 unfold yG at h
 split at h
 ·rename_i ar
  obtain⟨J,ab,aC,aU,aZ⟩:=ar
  exact⟨i.toNat,by omega,by omega,aC,aU,aZ,(by simp only [Option.some.injEq] at h; exact h.symm)⟩
 ·cases h
end Gv
namespace Gv
open Go
set_option linter.unusedVariables false
set_option linter.unusedSimpArgs false
section
variable {c:cU} {E:List (Nat × I)} {L:List aH} {ops:Array Oper} {Q:Exit→Act→World→Prop} {rest:List Oper} {o:Oper} {a6:Nat}
variable {ty:TypeId} {pos:String} {af:Array Edge} {x y:Operand} {t t2:TypeId}
theorem aD {id:Nat} {l:List Oper} {y:Code} (h:ah c l.toArray (Exit.then (c.wp y Q) Q) l E L):ai c Q (.seq (.region id l.toArray false) y) E L:= .seq (.cl h)
theorem aN {y:Code} (h:ai c Q y E L):ah c ops (Exit.then (c.wp y Q) Q) [] E L:= .nil (.next h)
theorem bM {y z:Code} (h:ai c (Exit.then (c.wp z Q) Q) y E L):ah c ops (Exit.then (c.wp (Code.seq y z) Q) Q) [] E L:= .nil (.next (.seq h))
theorem bS {id:Nat} {l:List Oper} {z:Code} (h:ah c l.toArray (Exit.then (c.wp z Q) Q) l E L):ah c ops (Exit.then (c.wp (Code.seq (.region id l.toArray false) z) Q) Q) [] E L:= .nil (.next (.seq (.cl h)))
theorem cO {y:Code} (h:ai c Q y E L):ai c (Exit.then (c.wp y Q) Q) .skip E L:= .skip (.next h)
theorem aw {α β:Type} {m:Option α} {f:α→Option β} {r:β} (h:m.bind f=some r):∃ y,m=some y∧f y=some r:=bind_some h
theorem ck {R:Type} {b:Bool} {A B:Option R} {r:R} {y z:Code} (h:cond b A B=some r) (b9:A=some r→ai c Q y E L) (a8:B=some r→ai c Q z E L)
 (aq:ba c E L x (.of b):=by first | exact ae rfl | exact fr _):ai c Q (.cond x y z) E L:=
 .cond aq (fun hb=>b9 (ht hb h)) (fun hb=>a8 (hv hb h))
theorem bp {τ:I} (h:bX c E L o τ) (k:ah c ops Q rest ((a6,τ) :: E) L) (b0:o.guard=none:=by rfl) (hd:o.dst=some a6:=by rfl) (aO:Nat.blt a6 c.n=true:=by rfl):ah c ops Q (o :: rest) E L:= .v h b0 hd aO k
theorem aB {τ:I} (k:ah c ops Q rest ((a6,τ) :: E) L) (an:ba c E L x τ:=by first | exact ae rfl | exact bz _ | exact fr _ | exact de _) (aO:Nat.blt a6 c.n=true:=by rfl):
 ah c ops Q (⟨some a6,.move x,ty,pos,af,none⟩ :: rest) E L:= .v (cQ an) rfl rfl aO k
theorem aQ {τ:I} (k:ah c ops Q rest ((a6,τ) :: E) L) (an:ba c E L x τ:=by first | exact ae rfl | exact bz _ | exact fr _ | exact de _) (aO:Nat.blt a6 c.n=true:=by rfl):
 ah c ops Q (⟨some a6,.assign x,ty,pos,af,none⟩ :: rest) E L:= .v (eG an) rfl rfl aO k
theorem aW {σ τ:I} (h:ba c E L x σ→bX c E L o τ) (k:ah c ops Q rest ((a6,τ) :: E) L) (an:ba c E L x σ:=by first | exact ae rfl | exact bz _ | exact fr _ | exact de _)
 (b0:o.guard=none:=by rfl) (hd:o.dst=some a6:=by rfl) (aO:Nat.blt a6 c.n=true:=by rfl):ah c ops Q (o :: rest) E L:= .v (h an) b0 hd aO k
theorem bj {σ oo τ:I} (h:ba c E L x σ→ba c E L y oo→bX c E L o τ) (k:ah c ops Q rest ((a6,τ) :: E) L) (an:ba c E L x σ:=by first | exact ae rfl | exact bz _ | exact fr _ | exact de _)
 (a9:ba c E L y oo:=by first | exact ae rfl | exact bz _ | exact fr _ | exact de _)
 (b0:o.guard=none:=by rfl) (hd:o.dst=some a6:=by rfl) (aO:Nat.blt a6 c.n=true:=by rfl):ah c ops Q (o :: rest) E L:= .v (h an a9) b0 hd aO k
theorem cZ {α:Type} [ad α] {a b:α} (e:some a=some b) (h:bX c E L o (.of a)) (k:ah c ops Q rest ((a6,.of b) :: E) L) (b0:o.guard=none:=by rfl) (hd:o.dst=some a6:=by rfl) (aO:Nat.blt a6 c.n=true:=by rfl):
 ah c ops Q (o :: rest) E L:= .v (h.as (aI e)) b0 hd aO k
theorem gf {i:Nat} {τs:List I} {τ:I} (k:ah c ops Q rest ((a6,τ) :: E) L) (an:ba c E L x (.cF τs):=by exact ae rfl) (al:τs[i]? =some τ:=by rfl) (aO:Nat.blt a6 c.n=true:=by rfl):
 ah c ops Q (⟨some a6,.extract x i,ty,pos,af,none⟩ :: rest) E L:= .v (nk an al) rfl rfl aO k
theorem b3 {p o:Nat} {β γ:Type} [ad β] [ad γ] {b:β} (j:Nat) (l:aL β γ) (dN:bt c.P t γ) (k:ah c ops Q rest ((a6,.of (l.get b)) :: E) L) (an:ba c E L x (.eq (.pointer (some ⟨p,o,none⟩))):=by exact ae rfl)
 (au:L[j]? =some ⟨some p,.var b⟩:=by rfl) (bm:o=l.off:=by rfl) (aO:Nat.blt a6 c.n=true:=by rfl):ah c ops Q (⟨some a6,.load t x,ty,pos,af,none⟩ :: rest) E L:= .v (gx l dN an au bm rfl) rfl rfl aO k
theorem cc {p:Nat} {β:Type} [ad β] {b:β} (j:Nat) (dN:bt c.P t β) (k:ah c ops Q rest ((a6,.of b) :: E) L) (an:ba c E L x (.eq (.pointer (some ⟨p,0,none⟩))):=by exact ae rfl)
 (au:L[j]? =some ⟨some p,.var b⟩:=by rfl) (aO:Nat.blt a6 c.n=true:=by rfl):ah c ops Q (⟨some a6,.load t x,ty,pos,af,none⟩ :: rest) E L:= .v (gx (aL.id β) dN an au rfl rfl) rfl rfl aO k
theorem L3 {p o:Nat} {β γ:Type} [ad β] [ad γ] {b:β} {os:List (Nat × Value)} (j:Nat) (l:aL β γ) (dN:bt c.P t γ) (k:ah c ops Q rest ((a6,.of (l.get b)) :: E) L) (an:ba c E L x (.eq (.pointer (some ⟨p,o,none⟩))):=by exact ae rfl)
 (au:L[j]? =some ⟨some p,.cj b os⟩:=by rfl) (bm:o=l.off:=by rfl) (bh:q3 os l.off (ad.size γ)=true:=by rfl) (aO:Nat.blt a6 c.n=true:=by rfl):ah c ops Q (⟨some a6,.load t x,ty,pos,af,none⟩ :: rest) E L:= .v (DQ l dN an au bm rfl bh) rfl rfl aO k
theorem vy {s f o:Nat} {β γ:Type} [ad β] [ad γ] {b:β} (l:aL β γ) (fd:b8 c.P s f o) (k:ah c ops Q rest ((a6,.ptr (l.get b)) :: E) L) (an:ba c E L x (.ptr b):=by exact ae rfl) (bm:l.off=o:=by rfl) (aO:Nat.blt a6 c.n=true:=by rfl):
 ah c ops Q (⟨some a6,.fieldAddr s x f,ty,pos,af,none⟩ :: rest) E L:= .v (xY l fd an bm rfl) rfl rfl aO k
theorem fL {α:Type} [ad α] [Inhabited α] {xs:List α} {e:TypeId} {i:Int} {j:Nat} (av:idx xs.length i=some j) (hu:c.P.underlying t=some (.slice e)) (e5:bt c.P e α) (k:ah c ops Q rest ((a6,.ptr (aA xs j)) :: E) L)
 (an:ba c E L x (.of xs):=by exact ae rfl) (a9:ba c E L y (.of i):=by first | exact ae rfl | exact bz _) (aO:Nat.blt a6 c.n=true:=by rfl):
 ah c ops Q (⟨some a6,.indexAddr t x y,ty,pos,af,none⟩ :: rest) E L:= .v (oK hu e5 an a9 (cu av)) rfl rfl aO k
theorem o1 {b e:Bool} {p:Prop} (k:ah c ops Q rest ((a6,.of (b || e)) :: E) L) (an:ba c E L x (.of b):=by exact ae rfl) (a9:ba c E L y (.cond p (.of e)):=by exact ae rfl) (hp:b=false→p:=by exact fun h=>h) (aO:Nat.blt a6 c.n=true:=by rfl):
 ah c ops Q (⟨some a6,.pick x (.const (.bool true)) y,ty,pos,af,none⟩ :: rest) E L:= .v (vi an a9 hp) rfl rfl aO k
theorem k6 {b e:Bool} {p:Prop} (k:ah c ops Q rest ((a6,.of (b && e)) :: E) L) (an:ba c E L x (.of b):=by exact ae rfl) (a9:ba c E L y (.cond p (.of e)):=by exact ae rfl) (hp:b=true→p:=by exact fun h=>h) (aO:Nat.blt a6 c.n=true:=by rfl):
 ah c ops Q (⟨some a6,.pick x y (.const (.bool false)),ty,pos,af,none⟩ :: rest) E L:= .v (oJ an a9 hp) rfl rfl aO k
theorem eY {τ:I} {j g:Nat} {b want:Bool} (h:b=want→bX c E L o τ) (k:ah c ops Q rest ((a6,.cond (b=want) τ) :: E) L) (b0:o.guard=some (j,want):=by rfl) (aF:(ops[j]?).bind (·.dst)=some g:=by rfl) (aq:look E g=some (.of b):=by rfl)
 (hd:o.dst=some a6:=by rfl) (aO:Nat.blt a6 c.n=true:=by rfl):ah c ops Q (o :: rest) E L:= .g h b0 aF aq hd aO k
theorem dU {σ τ:I} {j g:Nat} {b want:Bool} (h:ba c E L x σ→bX c E L o τ) (k:ah c ops Q rest ((a6,.cond (b=want) τ) :: E) L)
 (an:b=want→ba c E L x σ:=by first | exact fun hb=>cY rfl hb | exact fun _=>ae rfl | exact fun _=>bz _ | exact fun _=>fr _)
 (b0:o.guard=some (j,want):=by rfl) (aF:(ops[j]?).bind (·.dst)=some g:=by rfl) (aq:look E g=some (.of b):=by rfl)
 (hd:o.dst=some a6:=by rfl) (aO:Nat.blt a6 c.n=true:=by rfl):ah c ops Q (o :: rest) E L:= .g (fun hb=>h (an hb)) b0 aF aq hd aO k
theorem jX {σ oo τ:I} {j g:Nat} {b want:Bool} (h:ba c E L x σ→ba c E L y oo→bX c E L o τ) (k:ah c ops Q rest ((a6,.cond (b=want) τ) :: E) L)
 (an:b=want→ba c E L x σ:=by first | exact fun hb=>cY rfl hb | exact fun _=>ae rfl | exact fun _=>bz _ | exact fun _=>fr _)
 (a9:b=want→ba c E L y oo:=by first | exact fun hb=>cY rfl hb | exact fun _=>ae rfl | exact fun _=>bz _ | exact fun _=>fr _)
 (b0:o.guard=some (j,want):=by rfl) (aF:(ops[j]?).bind (·.dst)=some g:=by rfl) (aq:look E g=some (.of b):=by rfl)
 (hd:o.dst=some a6:=by rfl) (aO:Nat.blt a6 c.n=true:=by rfl):ah c ops Q (o :: rest) E L:= .g (fun hb=>h (an hb) (a9 hb)) b0 aF aq hd aO k
theorem cG {α:Type} [ad α] {z:α} (fN:cx c.P t z) (k:∀ p,ah c ops Q rest ((a6,.eq (.pointer (some ⟨p,0,none⟩))) :: E) (⟨some p,.var z⟩ :: L)) (aO:Nat.blt a6 c.n=true:=by rfl):
 ah c ops Q (⟨some a6,.alloc t,ty,pos,af,none⟩ :: rest) E L:= .alloc fN aO k
theorem cd {α:Type} [ad α] {z:α} (k:∀ p,ah c ops Q rest ((a6,.eq (.pointer (some ⟨p,0,none⟩))) :: E) (⟨some p,.var z⟩ :: L)) (an:ba c E L x (.of z):=by first | exact ae rfl | exact bz _ | exact fr _) (aO:Nat.blt a6 c.n=true:=by rfl):
 ah c ops Q (⟨some a6,.box t x,ty,pos,af,none⟩ :: rest) E L:= .box an aO k
theorem nB {p o:Nat} {β γ:Type} [ad β] [ad γ] {b:β} {v:γ} (i:Nat) (l:aL β γ) (dN:bt c.P t γ) (k:ah c ops Q rest E (L.set i ⟨some p,.var (l.set b v)⟩)) (an:ba c E L x (.eq (.pointer (some ⟨p,o,none⟩))):=by exact ae rfl)
 (a9:ba c E L y (.of v):=by first | exact ae rfl | exact bz _ | exact fr _ | exact look_nil | exact de _) (au:L[i]? =some ⟨some p,.var b⟩:=by rfl) (bm:o=l.off:=by rfl):
 ah c ops Q (⟨none,.store t x y,ty,pos,af,none⟩ :: rest) E L:= .store l dN an a9 au bm rfl k
theorem ca {p:Nat} {β:Type} [ad β] {b v:β} (i:Nat) (dN:bt c.P t β) (k:ah c ops Q rest E (L.set i ⟨some p,.var v⟩)) (an:ba c E L x (.eq (.pointer (some ⟨p,0,none⟩))):=by exact ae rfl)
 (a9:ba c E L y (.of v):=by first | exact ae rfl | exact bz _ | exact fr _ | exact look_nil | exact de _) (au:L[i]? =some ⟨some p,.var b⟩:=by rfl):
 ah c ops Q (⟨none,.store t x y,ty,pos,af,none⟩ :: rest) E L:= .store (aL.id β) dN an a9 au rfl rfl k
theorem B3 {p o:Nat} {β γ:Type} [ad β] [ad γ] {b b':β} {v:γ} (i:Nat) (l:aL β γ) (dN:bt c.P t γ) (k:ah c ops Q rest E (L.set i ⟨some p,.var b'⟩)) (an:ba c E L x (.eq (.pointer (some ⟨p,o,none⟩))):=by exact ae rfl)
 (a9:ba c E L y (.of v):=by first | exact ae rfl | exact bz _ | exact fr _ | exact look_nil | exact de _) (au:L[i]? =some ⟨some p,.var b⟩:=by rfl) (bm:o=l.off:=by rfl) (hb:some (l.set b v)=some b'):
 ah c ops Q (⟨none,.store t x y,ty,pos,af,none⟩ :: rest) E L:= .store l dN an a9 au bm (aI hb) k
theorem dF {f:FuncId} {xs:List Operand} {ats:Array TypeId} {τs:List I} {ρ:I} (dO:bQ c.P f) (h:bx c.P f τs ρ) (k:ah c ops Q rest ((a6,ρ) :: E) L)
 (an:hf c E L xs τs:=by repeat (first | exact trivial | refine⟨ae rfl,?_⟩ | refine⟨bz _,?_⟩ | refine⟨fr _,?_⟩ | refine⟨look_nil,?_⟩ | refine⟨de _,?_⟩)) (aO:Nat.blt a6 c.n=true:=by rfl):
 ah c ops Q (⟨some a6,.call ⟨.value (.func f),xs.toArray,ats⟩,ty,pos,af,none⟩ :: rest) E L:= .v (hP dO h an) rfl rfl aO k
theorem eD {f:FuncId} {xs:List Operand} {ats:Array TypeId} {τs:List I} {δ:Type} {ρ:δ→I} {Lo:δ→List aH} (n:Nat) (dO:bQ c.P f) (h:cz c.P f τs (L.take n) ρ Lo)
 (k:∀ q,ah c ops Q rest ((a6,ρ q) :: E) (Lo q ++ L.drop n)) (an:hf c E L xs τs:=by repeat (first | exact trivial | refine⟨ae rfl,?_⟩ | refine⟨bz _,?_⟩ | refine⟨fr _,?_⟩ | refine⟨look_nil,?_⟩ | refine⟨qO,?_⟩ | refine⟨de _,?_⟩)) (aO:Nat.blt a6 c.n=true:=by rfl):
 ah c ops Q (⟨some a6,.call ⟨.value (.func f),xs.toArray,ats⟩,ty,pos,af,none⟩ :: rest) E L:=by
 have e:=List.take_append_drop n L
 have:=ah.lu (ty:=ty) (pos:=pos) (af:=af) (ats:=ats) (xs:=xs) (Lin:=L.take n) (Lr:=L.drop n) (E:=E) (Q:=Q) (ops:=ops) dO h (by rw [e]; exact an) aO k
 rwa [e] at this
theorem je {α:Type} [ad α] {e bytes cap:Nat} {key:Option Nat} {xs ys r:List α} {z:α} (j:Nat) (hu:c.P.underlying t=some (.slice e)) (e5:bt c.P e α) (fN:cx c.P e z) (h:fT bytes xs ys=some r)
 (k:∀ n7 cap',ah c ops Q rest ((a6,.eq (aV n7 r.length cap')) :: E) (L.set j ⟨n7,.row e r cap'⟩)) (te:(c.P.info? e).map (·.bytes)=some bytes:=by kernel_rfl)
 (hs:ba c E L x (.eq (aV key xs.length cap)):=by first | exact ae rfl | exact qO) (au:L[j]? =some ⟨key,.row e xs cap⟩:=by rfl) (a9:ba c E L y (.of ys):=by exact ae rfl) (aO:Nat.blt a6 c.n=true:=by rfl):
 ah c ops Q (⟨some a6,.call ⟨.builtin .append,#[x,y],#[t,t]⟩,ty,pos,af,none⟩ :: rest) E L:= .app hu e5 fN te hs au a9 h aO k
theorem ij {place:Nat→Option (Nat × Nat)} {β:Type} [ad β] {b b':β} {γ:Type} [ad γ] {v:γ} {i:Nat} {r:List (Nat × Operand)} (l:aL β γ) (k:oQ c E L place (l.set b v) r b')
 (hp:place i=some (l.off,ad.size γ):=by rfl) (an:ba c E L x (.of v):=by first | exact ae rfl | exact bz _ | exact fr _ | exact look_nil | exact de _):oQ c E L place b ((i,x) :: r) b':= .cons l hp an rfl k
theorem g2 {β:Type} [ad β] {z b:β} {bl:List (Nat × Operand)} {pl:Array (Nat × Nat)} (zI:gX c.P t pl) (fN:cx c.P t z) (M1:β) (a8:oQ c E L (pl[·]?) z bl b) (k:ah c ops Q rest ((a6,.of M1) :: E) L) (bh:ad.agg β=true:=by rfl) (hb:b=M1:=by rfl) (aO:Nat.blt a6 c.n=true:=by rfl):
 ah c ops Q (⟨some a6,.build t bl.toArray,ty,pos,af,none⟩ :: rest) E L:= .v ((cC bh zI fN a8).as hb) rfl rfl aO k
theorem fM {α:Type} [ad α] {e n:Nat} {z:α} {bl:List (Nat × Operand)} (r:List α) (hu:c.P.underlying t=some (.slice e)) (e5:bt c.P e α) (fN:cx c.P e z) (k:ah c ops Q rest ((a6,.of r) :: E) L)
 (a8:l2 c E L (List.replicate n z) bl r:=by repeat (first | exact l2.nil | refine l2.cons (by simp) (ae rfl) ?_ | refine l2.cons (by simp) (bz _) ?_ | refine l2.cons (by simp) (fr _) ?_ | refine l2.cons (by simp) (de _) ?_))
 (hs:Nat.beq (ad.size α) 0=false:=by rfl) (ql:Nat.ble (n * ad.size α) 16777216=true:=by rfl) (aO:Nat.blt a6 c.n=true:=by rfl):
 ah c ops Q (⟨some a6,.buildSlice t n bl.toArray,ty,pos,af,none⟩ :: rest) E L:= .v (iZ hu e5 fN hs ql a8) rfl rfl aO k
inductive kS (E:List (Nat × I)):List Nat→List (Nat × I)→Prop
 | nil:kS E [] []
 | cons {t:Nat} {gE:List Nat} {τ:I} {zN:List (Nat × I)} :look E t=some τ→kS E gE zN→kS E (t :: gE) ((t,τ) :: zN)
theorem kS.le:∀ {gE:List Nat} {iJ:List (Nat × I)},kS E gE iJ→gP E iJ
 | _,_,.nil=> .nil
 | _,_,.cons h k=> .same h k.le
theorem k5 {code:Code} {iJ:List (Nat × I)} (gE:List Nat) (k:ai c Q code iJ L) (aK:kS E gE iJ:=by repeat (first | exact kS.nil | (apply kS.cons; rfl))):ai c Q code E L:= .le aK.le k
theorem lD {z:Exit} {iJ:List (Nat × I)} (gE:List Nat) (k:ag c Q z iJ L) (aK:kS E gE iJ:=by repeat (first | exact kS.nil | (apply kS.cons; rfl))):ag c Q z E L:= .le aK.le k
theorem dI {z:Exit} {E':List (Nat × I)} {ay:List aH} (n:Nat) (k:ag c Q z E' ay) (au:L.drop n=ay:=by rfl) (h:gP E E':=by repeat (first | exact gP.nil | refine gP.same rfl ?_)):ag c Q z E L:= .meet n au h k
theorem fo {σ ε γ δ:Type} {E':σ→γ→List (Nat × I)} {ay:σ→γ→List aH} {xs:ε→Exit} {fc:ε→δ→List (Nat × I)} {Lx:ε→δ→List aH} {s:σ} (g:γ) (n:Nat) (au:L.drop n=ay s g:=by rfl)
 (h:gP E (E' s g):=by repeat (first | exact gP.nil | refine gP.same rfl ?_)):ag c (vG c E' ay xs fc Lx (.inl s)) .normal E L:= .RQ g n au h
theorem eh {σ ε γ δ:Type} {E':σ→γ→List (Nat × I)} {ay:σ→γ→List aH} {xs:ε→Exit} {fc:ε→δ→List (Nat × I)} {Lx:ε→δ→List aH} {e:ε} {z:Exit} (g:δ) (n:Nat) (an:z=xs e:=by rfl) (aO:z≠ .normal:=by simp) (au:L.drop n=Lx e g:=by rfl)
 (h:gP E (fc e g):=by repeat (first | exact gP.nil | refine gP.same rfl ?_)):ag c (vG c E' ay xs fc Lx (.inr e)) z E L:= .RR g n an aO au h
theorem eL {t:Nat} {p:Nat} {α:Type} [ad α] {v:α} (i:Nat) (dN:bt c.P ty α) (h:look E t=some (.eq (.pointer (some ⟨p,0,none⟩))):=by rfl) (au:L[i]? =some ⟨some p,.var v⟩:=by rfl):qs c E L (.cell t ty) (.of v):=US dN h au
theorem c9 {fn:Func} {t:Nat} {τ:I} (aS:fn.results= #[.tmp t]:=by rfl) (h:look E t=some τ:=by rfl) (hA:c.ds= []:=by rfl):ag c (bodyPost c.P fn (sZ c τ)) .ret E L:= .gG aS (kh h) hA
theorem s3 {fn:Func} {t u:Nat} {τ oh:I} (aS:fn.results= #[.tmp t,.tmp u]:=by rfl) (h:look E t=some τ:=by rfl) (ab:look E u=some oh:=by rfl) (hA:c.ds= []:=by rfl):ag c (bodyPost c.P fn (sZ c (.cF [τ,oh]))) .ret E L:= .oU aS (kh h) (kh ab) hA
theorem kj {fn:Func} {t:Nat} {τ:I} {δ:Type} {ρ:δ→I} {Lo:δ→List aH} (a6:δ) (hs:(Lo a6).Sublist L:=by repeat (first | exact List.nil_sublist _ | refine List.Sublist.cons_cons _ ?_)) (aS:fn.results= #[.tmp t]:=by rfl) (h:look E t=some τ:=by rfl) (th:ρ a6=τ:=by rfl) (hA:c.ds= []:=by rfl):
 ag c (bodyPost c.P fn (ja c.X c.bP c.hY ρ Lo)) .ret E L:= .gR a6 hs aS th (fP h) hA
def ny:List aH→List (Nat × aH)→List aH
 | L,[]=>L
 | L,(i,e) :: r=>ny (L.set i e) r
inductive oy:List aH→List aH→Prop
 | nil:oy [] []
 | cons {e:aH} {r s:List aH} :oy r s→oy (e :: r) (e :: s)
theorem oy.eq:∀ {l m:List aH},oy l m→l=m
 | _,_,.nil=>rfl
 | _,_,.cons h=>by rw [h.eq]
theorem gB {σ ε γ δ:Type} {body:Code} {N:Nat} {b:σ→Option (σ ⊕ ε)} {b2:σ} {e:ε} {iJ:List (Nat × I)} {iK:List aH} (aq:ej N b b2=some e) (gE:List Nat) (u:σ→γ→List (Nat × I)) (ul:σ→γ→List (Nat × aH)) (xs:ε→Exit)
 (Hb:ε→δ→List (Nat × I)) (Gk:ε→δ→List (Nat × aH)) (g0:γ)
 (pU:∀ s r,b s=some r→ ∀ g,ai c (vG c (fun s g=>u s g ++ iJ) (fun s g=>ny iK (ul s g)) xs (fun e d=>Hb e d ++ iJ) (fun e d=>ny iK (Gk e d)) r) body (u s g ++ iJ) (ny iK (ul s g)))
 (mG:∀ g,ag c Q (xs e) (Hb e g ++ iJ) (ny iK (Gk e g)))
 (tb:oy L iK:=by repeat (first | exact oy.nil | apply oy.cons))
 (VR:kS E gE iJ:=by repeat (first | exact kS.nil | (apply kS.cons; rfl))) (aK:gP E (u b2 g0 ++ iJ):=by repeat (first | exact gP.nil | refine gP.same rfl ?_)) (au:iK=ny iK (ul b2 g0):=by rfl):ai c Q (.loop body) E L:=
 ai.uY aq (fun s g=>u s g ++ iJ) (fun s g=>ny iK (ul s g)) xs (fun e d=>Hb e d ++ iJ) (fun e d=>ny iK (Gk e d)) g0 (tb.eq.trans au) aK pU mG
theorem jd {γ:Type} {b:Bool} {y z:Code} {iJ:List (Nat × I)} {iK:List aH} (gE:List Nat) (u:γ→List (Nat × I)) (ul:γ→List (Nat × aH)) (rS:∀ g,ag c Q .normal (u g ++ iJ) (ny iK (ul g)))
 (b9:(∀ g,ag c Q .normal (u g ++ iJ) (ny iK (ul g)))→b=true→ai c Q y E iK) (a8:(∀ g,ag c Q .normal (u g ++ iJ) (ny iK (ul g)))→b=false→ai c Q z E iK)
 (tb:oy L iK:=by repeat (first | exact oy.nil | apply oy.cons))
 (VR:kS E gE iJ:=by repeat (first | exact kS.nil | (apply kS.cons; rfl))) (aq:ba c E iK x (.of b):=by first | exact ae rfl | exact fr _):ai c Q (.cond x y z) E L:=by
 cases tb.eq
 exact ai.dt (fun g=>u g ++ iJ) (fun g=>ny L (ul g)) aq rS b9 a8
section
variable {all:List eI} {w:Nat→Bool}
theorem dT {τ:I} {hyp:List aH→Prop} (h:∀ ay,hyp ay→bX c E ay o τ) (b0:o.guard=none:=by rfl):∀ ay,hyp ay→jo c ops E ay o τ:=fun ay au=> .v (h ay au) b0
theorem cW {τ:I} {hyp:List aH→Prop} (an:∀ ay,ba c E ay x τ:=by first | exact fun _=>ae rfl | exact fun _=>bz _ | exact fun _=>fr _ | exact fun _=>de _):∀ ay,hyp ay→jo c ops E ay ⟨some a6,.move x,ty,pos,af,none⟩ τ:=fun ay _=> .v (cQ (an ay)) rfl
theorem GV {τ:I} {hyp:List aH→Prop} (an:∀ ay,ba c E ay x τ:=by first | exact fun _=>ae rfl | exact fun _=>bz _ | exact fun _=>fr _ | exact fun _=>de _):∀ ay,hyp ay→jo c ops E ay ⟨some a6,.assign x,ty,pos,af,none⟩ τ:=fun ay _=> .v (eG (an ay)) rfl
theorem H1 {σ τ:I} {hyp:List aH→Prop} (h:∀ {ay},ba c E ay x σ→bX c E ay o τ) (b0:o.guard=none:=by rfl) (an:∀ ay,ba c E ay x σ:=by first | exact fun _=>ae rfl | exact fun _=>bz _ | exact fun _=>fr _ | exact fun _=>de _):
 ∀ ay,hyp ay→jo c ops E ay o τ:=fun ay _=> .v (h (an ay)) b0
theorem mZ {σ oo τ:I} {hyp:List aH→Prop} (h:∀ {ay},ba c E ay x σ→ba c E ay y oo→bX c E ay o τ) (b0:o.guard=none:=by rfl) (an:∀ ay,ba c E ay x σ:=by first | exact fun _=>ae rfl | exact fun _=>bz _ | exact fun _=>fr _ | exact fun _=>de _)
 (a9:∀ ay,ba c E ay y oo:=by first | exact fun _=>ae rfl | exact fun _=>bz _ | exact fun _=>fr _ | exact fun _=>de _):∀ ay,hyp ay→jo c ops E ay o τ:=fun ay _=> .v (h (an ay) (a9 ay)) b0
theorem ee {p o:Nat} {β γ:Type} [ad β] [ad γ] {b:β} (i:Nat) (l:aL β γ) (dN:bt c.P t γ) (an:∀ ay,ba c E ay x (.eq (.pointer (some ⟨p,o,none⟩))):=by exact fun _=>ae rfl) (au:L[i]? =some ⟨some p,.var b⟩:=by rfl) (bm:o=l.off:=by rfl)
 (hu:nu w i 0 all=true:=by first | rfl | kernel_rfl):∀ ay:List aH,(∀ (j:Nat) (e:aH),L[j]? =some e→nu w j 0 all=true→ay[j]? =some e)→jo c ops E ay ⟨some a6,.load t x,ty,pos,af,none⟩ (.of (l.get b)):=
 fun ay o4=> .v (gx l dN (an ay) (o4 _ _ au hu) bm rfl) rfl
theorem fA {p:Nat} {β:Type} [ad β] {b:β} (i:Nat) (dN:bt c.P t β) (an:∀ ay,ba c E ay x (.eq (.pointer (some ⟨p,0,none⟩))):=by exact fun _=>ae rfl) (au:L[i]? =some ⟨some p,.var b⟩:=by rfl)
 (hu:nu w i 0 all=true:=by first | rfl | kernel_rfl):∀ ay:List aH,(∀ (j:Nat) (e:aH),L[j]? =some e→nu w j 0 all=true→ay[j]? =some e)→jo c ops E ay ⟨some a6,.load t x,ty,pos,af,none⟩ (.of b):=
 fun ay o4=> .v (gx (aL.id β) dN (an ay) (o4 _ _ au hu) rfl rfl) rfl
theorem fb {f:FuncId} {xs:List Operand} {ats:Array TypeId} {τs:List I} {ρ:I} {hyp:List aH→Prop} (dO:bQ c.P f) (h:bx c.P f τs ρ)
 (an:∀ ay,hf c E ay xs τs:=by intro ay; repeat (first | exact trivial | refine⟨ae rfl,?_⟩ | refine⟨bz _,?_⟩ | refine⟨fr _,?_⟩ | refine⟨look_nil,?_⟩ | refine⟨de _,?_⟩)):
 ∀ ay,hyp ay→jo c ops E ay ⟨some a6,.call ⟨.value (.func f),xs.toArray,ats⟩,ty,pos,af,none⟩ ρ:=fun ay _=> .v (hP dO h (an ay)) rfl
theorem mg {α:Type} [ad α] [Inhabited α] {xs:List α} {e:TypeId} {i:Int} {j:Nat} {hyp:List aH→Prop} (av:idx xs.length i=some j) (hu:c.P.underlying t=some (.slice e)) (e5:bt c.P e α)
 (an:∀ ay,ba c E ay x (.of xs):=by exact fun _=>ae rfl) (a9:∀ ay,ba c E ay y (.of i):=by first | exact fun _=>ae rfl | exact fun _=>bz _):
 ∀ ay,hyp ay→jo c ops E ay ⟨some a6,.indexAddr t x y,ty,pos,af,none⟩ (.ptr (aA xs j)):=fun ay _=> .v (oK hu e5 (an ay) (a9 ay) (cu av)) rfl
theorem nC {s f o:Nat} {β γ:Type} [ad β] [ad γ] {b:β} {hyp:List aH→Prop} (l:aL β γ) (fd:b8 c.P s f o) (an:∀ ay,ba c E ay x (.ptr b):=by exact fun _=>ae rfl) (bm:l.off=o:=by rfl):
 ∀ ay,hyp ay→jo c ops E ay ⟨some a6,.fieldAddr s x f,ty,pos,af,none⟩ (.ptr (l.get b)):=fun ay _=> .v (xY l fd (an ay) bm rfl) rfl
theorem GX {α:Type} [ad α] {a b:α} {hyp:List aH→Prop} (e:some a=some b) (h:∀ ay,hyp ay→bX c E ay o (.of a)) (b0:o.guard=none:=by rfl):∀ ay,hyp ay→jo c ops E ay o (.of b):=fun ay au=> .v ((h ay au).as (aI e)) b0
theorem rr {i:Nat} {τs:List I} {τ:I} {hyp:List aH→Prop} (an:∀ ay,ba c E ay x (.cF τs):=by exact fun _=>ae rfl) (al:τs[i]? =some τ:=by rfl):∀ ay,hyp ay→jo c ops E ay ⟨some a6,.extract x i,ty,pos,af,none⟩ τ:=fun ay _=> .v (nk (an ay) al) rfl
theorem hX {τ:I} {j g:Nat} {b want:Bool} {hyp:List aH→Prop} (h:∀ ay,hyp ay→b=want→bX c E ay o τ) (b0:o.guard=some (j,want):=by rfl) (aF:(ops[j]?).bind (·.dst)=some g:=by rfl) (aq:look E g=some (.of b):=by rfl):
 ∀ ay,hyp ay→jo c ops E ay o (.cond (b=want) τ):=fun ay au=> .g (h ay au) b0 aF aq
end
def bq (s:Nat) (up rd:List Nat) (τ:I):dG:=⟨some s,up,rd,[],fun _=>τ,fun _ _=>⟨none,.dead⟩⟩
section
variable {hs:List dG} {i:Nat} {up rd:List Nat}
theorem gW {τ:I} (an:∀ (hd:Nat→Hid) (E':List (Nat × I)) (ay:List aH),(∀ t τ,look (ld hd hs E up) t=some τ→look E' t=some τ)→ba c E' ay x τ:=by first | exact fun _ _ _ aK=>ae (aK _ _ rfl) | exact fun _ _ _ _=>bz _ | exact fun _ _ _ _=>fr _ | exact fun _ _ _ _=>de _)
 (aO:Nat.blt a6 c.n=true:=by rfl):eT c ops Q hs E L i ⟨some a6,.move x,ty,pos,af,none⟩ (bq a6 up rd τ):=iP rfl rfl aO fun hd E' ay aK _=>cQ (an hd E' ay aK)
theorem fD {σ τ:I} (h:∀ {E' ay},ba c E' ay x σ→bX c E' ay o τ) (b0:o.guard=none:=by rfl) (hd:o.dst=some a6:=by rfl)
 (an:∀ (hd:Nat→Hid) (E':List (Nat × I)) (ay:List aH),(∀ t τ,look (ld hd hs E up) t=some τ→look E' t=some τ)→ba c E' ay x σ:=by first | exact fun _ _ _ aK=>ae (aK _ _ rfl) | exact fun _ _ _ _=>bz _ | exact fun _ _ _ _=>fr _ | exact fun _ _ _ _=>de _)
 (aO:Nat.blt a6 c.n=true:=by rfl):eT c ops Q hs E L i o (bq a6 up rd τ):=iP b0 hd aO fun hd E' ay aK _=>h (an hd E' ay aK)
theorem Cx {σ oo τ:I} (h:∀ {E' ay},ba c E' ay x σ→ba c E' ay y oo→bX c E' ay o τ) (b0:o.guard=none:=by rfl) (hd:o.dst=some a6:=by rfl)
 (an:∀ (hd:Nat→Hid) (E':List (Nat × I)) (ay:List aH),(∀ t τ,look (ld hd hs E up) t=some τ→look E' t=some τ)→ba c E' ay x σ:=by first | exact fun _ _ _ aK=>ae (aK _ _ rfl) | exact fun _ _ _ _=>bz _ | exact fun _ _ _ _=>fr _ | exact fun _ _ _ _=>de _)
 (a9:∀ (hd:Nat→Hid) (E':List (Nat × I)) (ay:List aH),(∀ t τ,look (ld hd hs E up) t=some τ→look E' t=some τ)→ba c E' ay y oo:=by first | exact fun _ _ _ aK=>ae (aK _ _ rfl) | exact fun _ _ _ _=>bz _ | exact fun _ _ _ _=>fr _ | exact fun _ _ _ _=>de _)
 (aO:Nat.blt a6 c.n=true:=by rfl):eT c ops Q hs E L i o (bq a6 up rd τ):=iP b0 hd aO fun hd E' ay aK _=>h (an hd E' ay aK) (a9 hd E' ay aK)
theorem oZ {p o:Nat} {β γ:Type} [ad β] [ad γ] {b:β} (k:Nat) (l:aL β γ) (dN:bt c.P t γ)
 (an:∀ (hd:Nat→Hid) (E':List (Nat × I)) (ay:List aH),(∀ t τ,look (ld hd hs E up) t=some τ→look E' t=some τ)→ba c E' ay x (.eq (.pointer (some ⟨p,o,none⟩))):=by exact fun _ _ _ aK=>ae (aK _ _ rfl))
 (au:∀ hd:Nat→Hid,(hN (fun _=>true) hd 0 (hs.take i) L)[k]? =some ⟨some p,.var b⟩:=by exact fun _=>rfl) (aS:rd.contains k=true:=by rfl) (bm:o=l.off:=by rfl)
 (aO:Nat.blt a6 c.n=true:=by rfl):eT c ops Q hs E L i ⟨some a6,.load t x,ty,pos,af,none⟩ (bq a6 up rd (.of (l.get b))):=iP rfl rfl aO fun hd E' ay aK o4=>gx l dN (an hd E' ay aK) (o4 _ _ (au hd) aS) bm rfl
theorem o0 {p:Nat} {β:Type} [ad β] {b:β} (k:Nat) (dN:bt c.P t β)
 (an:∀ (hd:Nat→Hid) (E':List (Nat × I)) (ay:List aH),(∀ t τ,look (ld hd hs E up) t=some τ→look E' t=some τ)→ba c E' ay x (.eq (.pointer (some ⟨p,0,none⟩))):=by exact fun _ _ _ aK=>ae (aK _ _ rfl))
 (au:∀ hd:Nat→Hid,(hN (fun _=>true) hd 0 (hs.take i) L)[k]? =some ⟨some p,.var b⟩:=by exact fun _=>rfl) (aS:rd.contains k=true:=by rfl)
 (aO:Nat.blt a6 c.n=true:=by rfl):eT c ops Q hs E L i ⟨some a6,.load t x,ty,pos,af,none⟩ (bq a6 up rd (.of b)):=iP rfl rfl aO fun hd E' ay aK o4=>gx (aL.id β) dN (an hd E' ay aK) (o4 _ _ (au hd) aS) rfl rfl
theorem cS {τ:I} (h:∀ (hd:Nat→Hid) (E':List (Nat × I)) (ay:List aH),(∀ t τ,look (ld hd hs E up) t=some τ→look E' t=some τ)→ (∀ j e,(hN (fun _=>true) hd 0 (hs.take i) L)[j]? =some e→rd.contains j=true→ay[j]? =some e)→bX c E' ay o τ)
 (b0:o.guard=none:=by rfl) (hd:o.dst=some a6:=by rfl) (aO:Nat.blt a6 c.n=true:=by rfl):eT c ops Q hs E L i o (bq a6 up rd τ):=iP b0 hd aO h
end
end
end Gv
namespace Gv
open Go
set_option linter.unusedVariables false
set_option linter.unusedSimpArgs false
theorem AS {F:Fence} {n Hc:Nat} {P:Program} {code:Code} {Q:Exit→Act→World→Prop} {a:Act} {W:World} (hd:F.depth=none) (h:code.wpIn F n P Q a W):code.wpIn F Hc P Q a W:=
 fun b k cs vC hb _=>h b k cs vC hb (fun d hd'=>by rw [hd] at hd'; cases hd')
def dn.is (o:Obj):dn where
 holds _ _ x:=x=o
 l7:=False
 mono _ h:=h
abbrev dn.di:dn:= .is (.deferred (some []))
def I.gT (f:FuncId) (τs:List I):I where
 holds A W v:= ∃ ha:List Value,v= .func (.func f) #[] ha.toArray∧gl A W τs ha
 mono e h:=let⟨ha,J,ab⟩:=h; ⟨ha,J,ab.mono e⟩
theorem bC.p4 {c E L a W} (h:bC c E L a W) {i p:Nat} {cp cp':dn} (al:L[i]? =some ⟨some p,cp⟩) {o':Obj} (ar:cp'.holds (aJ L ++ c.bP) W o'):
 bC c E (L.set i ⟨some p,cp'⟩) a (W.putObj p o'):=by
 have gq:aJ (L.set i ⟨some p,cp'⟩)=aJ L:=uO (cp:=cp') al
 have hp:p∈aJ L:=jR.2 ⟨_,List.mem_of_getElem? al,rfl⟩
 have gn:Ext (aJ L ++ c.bP) W (aJ L ++ c.bP) (W.putObj p o'):=
  ⟨by simp,fun k _ bh=>World.putObj_heap_other (fun e=>bh (e ▸ List.mem_append.2 (.inl hp))),fun _ h _=>h⟩
 exact
 {defers:=h.defers
  size:=h.size
  env:=fun t τ aq=>by rw [gq]; exact let⟨v,J,ab⟩:=h.env t τ aq; ⟨v,J,τ.mono gn ab⟩
  dd:=⟨h.dd.os,h.dd.tape,h.dd.output,by simpa using h.dd.size,fun k av an=>by
   rw [World.putObj_heap_other (fun e:k=p=>an (by subst e; exact h.fs _ hp av))]
   exact h.dd.block k av an⟩
  own:=fun e he=>by
   rw [gq]
   obtain⟨j,aF⟩:=List.mem_iff_getElem?.1 he
   rw [List.getElem?_set] at aF
   split at aF
   ·rename_i eW
    subst eW
    split at aF
    ·simp only [Option.some.injEq] at aF
     subst aF
     exact⟨_,World.putObj_heap_same (h.lt p hp),cp'.mono gn ar⟩
    ·cases aF
   ·rename_i eW
    have J:=h.own e (List.mem_of_getElem? aF)
    unfold aH.ok at *
    split at J
    ·rename_i q hq
     obtain⟨o',qg,ct⟩:=J
     have dv:q≠p:=fun e'=>eW (Ei h.nodup al aF rfl (e' ▸ hq))
     exact⟨o',by rw [World.putObj_heap_other dv]; exact qg,dn.mono _ gn ct⟩
    ·exact J
  nodup:=by rw [gq]; exact h.nodup
  lt:=by rw [gq]; simpa using h.lt
  fs:=by rw [gq]; exact h.fs
  er:=by rw [gq]; simpa using h.er }
theorem KF {c:cU} {E:List (Nat × I)} {L:List aH} {d:Option Tmp} {ty:TypeId} {pos:String} {af:Array Edge} {g:Option (Nat × Bool)} {f:FuncId} {xs:List Operand} {τs:List I} (an:hf c E L xs τs):
 bX c E L ⟨d,.makeFunc (.func f) #[] xs.toArray,ty,pos,af,g⟩ (.gT f τs):= .pure fun a W s=>
 ⟨.func (.func f) #[] (xs.map a.eval).toArray,by simp [execOp,Instr.makeFunc],_,rfl,an.holds a W s⟩
structure vr (A:List Nat) (W:World) (L:List aH):Prop where
 er:∀ k∈A,k < W.heap.size∧k ∉ aJ L
 nodup:(aJ L).Nodup
 lt:∀ k∈aJ L,k < W.heap.size
 ok:∀ e∈L,e.ok (aJ L ++ A) W
def tk (P:Program) (u:Value) {α σ ε γ:Type} (τ:α→I) (Ls:σ→γ→List aH) (Lx:ε→γ→List aH) (step:α→σ→Option (σ ⊕ ε)) (R:List Nat→World→Prop):Prop:=
 ∃ l,u= .func (.yield l) #[] #[]∧ ∀ x s r,step x s=some r→ ∀ g A W v,R (aJ (Ls s g) ++ A) W→vr A W (Ls s g)→ (τ x).holds (aJ (Ls s g) ++ A) W v→
   YieldAt Fence.wide 8 P l #[v] W (match r with
    | .inl bV=>ja (aJ (Ls s g)) A W (fun _:γ=>I.of true) (fun g=>Ls bV g)
    | .inr q=>ja (aJ (Ls s g)) A W (fun _:γ=>I.of false) (fun g=>Lx q g))
def Lr {σ ε γ:Type} (Ls:σ→γ→List aH) (Lx:ε→γ→List aH):σ ⊕ ε→γ→List aH
 | .inl s,g=>Ls s g
 | .inr q,g=>Lx q g
structure xA (P:Program) (f:FuncId) (τs:List I) (Lin:List aH) {α:Type} (τ:α→I) (run:∀ {σ ε:Type},(α→σ→Option (σ ⊕ ε))→σ→Option (σ ⊕ ε)):Prop where
 go:∀ {σ ε γ:Type} (Ls:σ→γ→List aH) (Lx:ε→γ→List aH) (step:α→σ→Option (σ ⊕ ε)) (b2:σ) (g0:γ) (r:σ ⊕ ε),run step b2=some r→
  ∀ (A:List Nat) (W:World) (u:Value) (vs:List Value),vr A W (Lin ++ Ls b2 g0)→gl (aJ (Lin ++ Ls b2 g0) ++ A) W τs vs→
    tk P u τ Ls Lx step (fun cH W'=>Ext (aJ (Lin ++ Ls b2 g0) ++ A) W cH W')→
    Calls P f (u :: vs).toArray W (ja (aJ (Lin ++ Ls b2 g0)) A W (fun _:γ=> .cF []) (fun g=>Lin ++ Lr Ls Lx r g))
theorem xA.of {P:Program} {f:FuncId} {fn:Func} {code:Code} {n:Nat} {τs:List I} {Lin:List aH} {α:Type} {τ:α→I} {run:∀ {σ ε:Type},(α→σ→Option (σ ⊕ ε))→σ→Option (σ ⊕ ε)}
 (a8:P.funcs[f]? =some fn) (hb:fn.body=some code) (aO:fn.ntmps=n) (hlen:Nat.ble (τs.length + 1) n=true)
 (h:∀ {σ ε γ:Type} (Ls:σ→γ→List aH) (Lx:ε→γ→List aH) (step:α→σ→Option (σ ⊕ ε)) (b2:σ) (g0:γ) (r:σ ⊕ ε),run step b2=some r→
  ∀ W A u,tk P u τ Ls Lx step (fun cH W'=>Ext (aJ (Lin ++ Ls b2 g0) ++ A) W cH W')→
    ai ⟨P,n,W,aJ (Lin ++ Ls b2 g0),A,none,[]⟩ (bodyPost P fn (ja (aJ (Lin ++ Ls b2 g0)) A W (fun _:γ=> .cF []) (fun g=>Lin ++ Lr Ls Lx r g))) code (params 0 (.eq u :: τs)) (Lin ++ Ls b2 g0)):xA P f τs Lin τ run:=by
 refine⟨?_⟩
 intro σ ε γ Ls Lx step b2 g0 r aS A W u vs aq aY a9
 refine calls_of_wp a8 hb (wpIn_wide.1 (h Ls Lx step b2 g0 r aS W A u a9 _ _ ?_))
 have nH:gl (aJ (Lin ++ Ls b2 g0) ++ A) W (.eq u :: τs) (u :: vs):= .cons rfl aY
 have ko:=nH.length
 have hle:τs.length + 1≤n:=Nat.le_of_ble_eq_true hlen
 exact
 {defers:=rfl
  size:=by simp at ko; simp [aO,ko]; omega
  env:=fun t τ dQ=>by
   obtain⟨_,v,ab,aC⟩:=sc nH 0 t τ dQ
   refine⟨v,?_,aC⟩
   have cq:t < (u :: vs).length:=(List.getElem?_eq_some_iff.1 ab).1
   rw [Array.getElem?_append_left (by simpa using cq)]
   simpa using ab
  dd:= .refl _ _
  own:=aq.ok
  nodup:=aq.nodup
  lt:=aq.lt
  fs:=fun k av _=>av
  er:=aq.er }
section
variable {c:cU} {E:List (Nat × I)} {L:List aH} {ops:Array Oper} {Q:Exit→Act→World→Prop}
variable {d:Option Tmp} {ty:TypeId} {pos:String} {af:Array Edge} {g:Option (Nat × Bool)} {x y:Operand} {t t2:TypeId}
theorem bC.Lh {a:Act} {W:World} (s:bC c E L a W):Ext (c.X ++ c.bP) c.hY (aJ L ++ c.bP) W:=
 ⟨s.dd.size,fun k av bh=>s.dd.block k av fun an=>bh (List.mem_append.2 (.inl an)),fun k hm cq=>by
   rcases List.mem_append.1 hm with hm | hm
   ·exact List.mem_append.2 (.inl (s.fs k hm cq))
   ·exact List.mem_append.2 (.inr hm)⟩
theorem bC.BX {a:Act} {W:World} {Lin Lr:List aH} (s:bC c E (Lin ++ Lr) a W):vr (aJ Lr ++ c.bP) W Lin:=by
 have kI:=s.nodup
 rw [eA] at kI
 obtain⟨lJ,o6,oj⟩:=List.nodup_append.1 kI
 exact
 {er:=fun k hm=>by
   rcases List.mem_append.1 hm with hm | hm
   ·exact⟨s.lt k (by rw [eA]; exact List.mem_append.2 (.inr hm)),fun h=>oj k h k hm rfl⟩
   ·obtain⟨J,ab⟩:=s.er k hm
    exact⟨J,fun h=>ab (by rw [eA]; exact List.mem_append.2 (.inl h))⟩
  nodup:=lJ
  lt:=fun k hm=>s.lt k (by rw [eA]; exact List.mem_append.2 (.inl hm))
  ok:=fun e he=>aH.qX (s.own e (List.mem_append.2 (.inl he))) (.drop fun k hm=>by
   rw [eA]
   simp only [List.mem_append] at hm ⊢
   rcases hm with hm | hm | hm
   ·exact .inl (.inl hm)
   ·exact .inl (.inr hm)
   ·exact .inr hm) fun _ _=>rfl }
theorem xu {Lin Lr:List aH} {A:List Nat} {W:World} :Ext (aJ (Lin ++ Lr) ++ A) W (aJ Lin ++ (aJ Lr ++ A)) W:= .drop fun k hm=>by
 rw [eA]
 simp only [List.mem_append] at hm ⊢
 rcases hm with hm | hm | hm
 ·exact .inl (.inl hm)
 ·exact .inl (.inr hm)
 ·exact .inr hm
theorem DD {Lin Lr:List aH} {A:List Nat} {W:World} :Ext (aJ Lin ++ (aJ Lr ++ A)) W (aJ (Lin ++ Lr) ++ A) W:= .drop fun k hm=>by
 rw [eA] at hm
 simp only [List.mem_append] at hm ⊢
 rcases hm with(hm | hm) | hm
 ·exact .inl hm
 ·exact .inr (.inl hm)
 ·exact .inr (.inr hm)
theorem ah.yield {rest:List Oper} {a6 jJ:Nat} {ats:Array TypeId} {u:Value} {α σ ε γ:Type} {τ:α→I} {Ls:σ→γ→List aH} {Lx:ε→γ→List aH} {step:α→σ→Option (σ ⊕ ε)} {Lin:List aH} {x:Operand} {v:α} {s:σ} {gg:γ} {r:σ ⊕ ε}
 (ar:c.rd=none) (a9:tk c.P u τ Ls Lx step (fun cH W'=>Ext (c.X ++ c.bP) c.hY cH W')) (a8:look E jJ=some (.eq u)) (an:ba c E (Lin ++ Ls s gg) x (τ v)) (aS:step v s=some r) (aO:Nat.blt a6 c.n=true)
 (a4:∀ bV,r= .inl bV→ ∀ eR,ah c ops Q rest ((a6,.of true) :: E) (Lin ++ Ls bV eR)) (bZ:∀ q,r= .inr q→ ∀ eR,ah c ops Q rest ((a6,.of false) :: E) (Lin ++ Lx q eR)):
 ah c ops Q (⟨some a6,.call ⟨.value (.tmp jJ),#[x],ats⟩,ty,pos,af,none⟩ :: rest) E (Lin ++ Ls s gg):=fun a W st=>by
 obtain⟨l,rfl,a9⟩:=a9
 obtain⟨Hd,J,ab⟩:=st.env jJ _ a8
 have hu:Hd= .func (.yield l) #[] #[]:=ab
 subst hu
 have om:bC c E (Ls s gg ++ Lin) a W:=st.perm List.perm_append_comm
 have aY:=an a W st
 have nH:(τ v).holds (aJ (Ls s gg) ++ (aJ Lin ++ c.bP)) W (a.eval x):=(τ v).mono (.drop fun k hm=>by
  rw [eA]
  simp only [List.mem_append] at hm ⊢
  rcases hm with hm | hm | hm
  ·exact .inl (.inr hm)
  ·exact .inl (.inl hm)
  ·exact .inr hm) aY
 obtain⟨fn,tmps,assign,body,jU,h9⟩:=a9 v s r aS gg (aJ Lin ++ c.bP) W (a.eval x) (om.Lh.trans xu) om.BX nH
 have E2:(execOp a.eval ⟨some a6,.call ⟨.value (.tmp jJ),#[x],ats⟩,ty,pos,af,none⟩).run c.P W= .ok (.round l fn tmps assign body) W:=by
  rw [← jU]
  simp [execOp,resolve,Deferred.ofValue,Act.eval,J,invoke,Sem.run_bind,Sem.run_pure,Result.andThen]
 refine wpListIn_plain rfl fun K rQ=> ?_
 refine⟨fun _ _=>trivial,?_⟩
 rw [Oper.semAt_eq _ _ _ (fun _ h=>by cases h),E2,Oper.uponIn_round]
 refine⟨fun h=>by simp at h,?_⟩
 have Gl:RoundIn c.F (9 - 1) c.P l fn tmps assign body W _:=h9
 refine Gl.mono fun e W' he=> ?_
 cases r with
 | inl bV=>
   obtain⟨w,eR,rfl,oq,aC,aU,aZ,bn⟩:=he
   obtain rfl:=of_bool.1 bn
   refine rQ _ _ (a4 bV rfl eR _ _ ?_)
   exact(((om.after oq aC aU aZ).perm List.perm_append_comm).put (by simpa using aO) (of_bool.2 rfl))
 | inr q=>
   obtain⟨w,eR,rfl,oq,aC,aU,aZ,bn⟩:=he
   obtain rfl:=of_bool.1 bn
   refine rQ _ _ (bZ q rfl eR _ _ ?_)
   exact(((om.after oq aC aU aZ).perm List.perm_append_comm).put (by simpa using aO) (of_bool.2 rfl))
theorem ah.RF {rest:List Oper} {a6 jJ j gt:Nat} {b:Bool} {ats:Array TypeId} {u:Value} {α σ ε γ:Type} {τ:α→I} {Ls:σ→γ→List aH} {Lx:ε→γ→List aH} {step:α→σ→Option (σ ⊕ ε)} {Lin:List aH} {x:Operand} {v:α} {s:σ} {gg:γ} {r:σ ⊕ ε}
 (ar:c.rd=none) (a9:tk c.P u τ Ls Lx step (fun cH W'=>Ext (c.X ++ c.bP) c.hY cH W')) (hb:b=true) (aF:(ops[j]?).bind (·.dst)=some gt) (aq:look E gt=some (.of b)) (a8:look E jJ=some (.cond (b=true) (.eq u))) (an:ba c E (Lin ++ Ls s gg) x (τ v)) (aS:step v s=some r) (aO:Nat.blt a6 c.n=true)
 (a4:∀ bV,r= .inl bV→ ∀ eR,ah c ops Q rest ((a6,.cond (b=true) (.of true)) :: E) (Lin ++ Ls bV eR)) (bZ:∀ q,r= .inr q→ ∀ eR,ah c ops Q rest ((a6,.cond (b=true) (.of false)) :: E) (Lin ++ Lx q eR)):
 ah c ops Q (⟨some a6,.call ⟨.value (.tmp jJ),#[x],ats⟩,ty,pos,af,some (j,true)⟩ :: rest) E (Lin ++ Ls s gg):=fun a W st=>by
 have aK:look ((jJ,.eq u) :: E) jJ=some (.eq u):=by simp [look,Nat.beq_refl]
 have VS:bC c ((jJ,.eq u) :: E) (Lin ++ Ls s gg) a W:=st.less fun t la h=>by
  simp only [look] at h
  by_cases e:Nat.beq jJ t=true
  ·rw [e] at h
   simp only [cond_true,Option.some.injEq] at h
   subst h
   rw [← eF.1 e]
   exact⟨_,a8,fun A W v aY=>aY.1 hb⟩
  ·simp only [Bool.not_eq_true] at e
   rw [e] at h
   exact⟨_,h,fun _ _ _ h=>h⟩
 have key:=ah.yield (c:=c) (ops:=ops) (Q:=Q) (E:=(jJ,.eq u) :: E) (rest:=rest) (ty:=ty) (pos:=pos) (af:=af) (ats:=ats) ar a9 aK (fun a W s=>an a W (s.less fun t la h=>by
  by_cases e:Nat.beq jJ t=true
  ·have:=eF.1 e
   subst this
   rw [a8] at h
   cases h
   refine⟨_,aK,fun A W v aY=>⟨fun _=>aY,fun h=>absurd hb h⟩⟩
  ·simp only [Bool.not_eq_true] at e
   exact⟨la,by simp only [look]; rw [e]; exact h,fun _ _ _ h=>h⟩)) aS aO
  (fun bV e eR a W st=>a4 bV e eR a W (st.less fun t la h=>by
   simp only [look] at h ⊢
   by_cases e:Nat.beq a6 t=true
   ·rw [e] at h ⊢
    simp only [cond_true,Option.some.injEq] at h ⊢
    exact⟨_,rfl,fun A W v aY=>by subst h; exact⟨fun _=>aY,fun h=>absurd hb h⟩⟩
   ·simp only [Bool.not_eq_true] at e
    rw [e] at h ⊢
    simp only [cond_false] at h ⊢
    by_cases aX:Nat.beq jJ t=true
    ·have:=eF.1 aX
     subst this
     rw [a8] at h
     cases h
     rw [aX]
     exact⟨_,rfl,fun A W v aY=>⟨fun _=>aY,fun h=>absurd hb h⟩⟩
    ·simp only [Bool.not_eq_true] at aX
     rw [aX]
     exact⟨la,h,fun _ _ _ h=>h⟩))
  (fun bV e eR a W st=>bZ bV e eR a W (st.less fun t la h=>by
   simp only [look] at h ⊢
   by_cases e:Nat.beq a6 t=true
   ·rw [e] at h ⊢
    simp only [cond_true,Option.some.injEq] at h ⊢
    exact⟨_,rfl,fun A W v aY=>by subst h; exact⟨fun _=>aY,fun h=>absurd hb h⟩⟩
   ·simp only [Bool.not_eq_true] at e
    rw [e] at h ⊢
    simp only [cond_false] at h ⊢
    by_cases aX:Nat.beq jJ t=true
    ·have:=eF.1 aX
     subst this
     rw [a8] at h
     cases h
     rw [aX]
     exact⟨_,rfl,fun A W v aY=>⟨fun _=>aY,fun h=>absurd hb h⟩⟩
    ·simp only [Bool.not_eq_true] at aX
     rw [aX]
     exact⟨la,h,fun _ _ _ h=>h⟩))
 have:=key a W VS
 unfold cU.qf wpListIn at this ⊢
 rw [if_pos (by simp [Region.wanted])] at this
 rw [if_pos (by simp [Region.wanted,AM aF aq st,hb])]
 exact this
theorem ah.fg {l:List Oper} {L2:List aH} (h:L=L2) (k:ah c ops Q l E L2):ah c ops Q l E L:=by subst h; exact k
theorem ah.cases {l:List Oper} (b:Bool) (J:b=true→ah c ops Q l E L) (ab:b=false→ah c ops Q l E L):ah c ops Q l E L:=by
 cases b
 ·exact ab rfl
 ·exact J rfl
theorem ah.S0 {o:Oper} {rest:List Oper} {a6 j gt:Nat} {b:Bool} (τ:I) (hb:b=false) (b0:o.guard=some (j,true)) (hd:o.dst=some a6) (aF:(ops[j]?).bind (·.dst)=some gt) (aq:look E gt=some (.of b)) (aO:Nat.blt a6 c.n=true)
 (k:ah c ops Q rest ((a6,.cond (b=true) τ) :: E) L):ah c ops Q (o :: rest) E L:=fun a W s=>by
 unfold cU.qf wpListIn
 rw [if_neg (by simp [Region.wanted,b0,AM aF aq s,hb]),hd]
 exact⟨fun _ _=>trivial,k _ _ (s.put (by simpa using aO) ⟨fun h=>(by rw [hb] at h; cases h),fun _=>rfl⟩)⟩
theorem ai.EF {x:Operand} {b:Bool} {y z:Code} (aq:ba c E L x (.of b)) (hb:b=true) (k:ai c Q y E L):ai c Q (.cond x y z) E L:= .cond aq (fun _=>k) fun h=>by rw [hb] at h; cases h
theorem ai.uX {x:Operand} {b:Bool} {y z:Code} (aq:ba c E L x (.of b)) (hb:b=false) (k:ai c Q z E L):ai c Q (.cond x y z) E L:= .cond aq (fun h=>by rw [hb] at h; cases h) fun _=>k
def xN:Code→Exit
 | .ret=> .ret
 | .exit id=> .exit id
 | .goto t=> .goto t
 | _=> .normal
def sx:Code→Bool
 | .ret | .exit _ | .goto _=>true
 | _=>false
def zO {σ ε γ:Type} (c:cU) (eo:ε→Code) (l D:Nat) (rec:Loop) (Ls:σ→γ→List aH) (Lx:ε→γ→List aH):σ ⊕ ε→Exit→Act→World→Prop
 | .inl bV,x,a,W=>x= .normal∧ ∃ g,bC c [] (⟨some l,.is (.loop rec)⟩ :: ⟨some D,.di⟩ :: Ls bV g) a W
 | .inr q,x,a,W=>sx (eo q)=true∧x=xN (eo q)∧ ∃ g,bC c [] (⟨some l,.is (.loop rec)⟩ :: ⟨some D,.di⟩ :: Lx q g) a W
def zP (c:cU) (l:Nat) (body:Code) (Q:Exit→Act→World→Prop) (a:Act) (W:World):Prop:=
 ∃ mx,(Instr.beginRound l).run c.P W= .ok () mx∧c.wp body Q a mx
theorem ag.begin {l:Nat} {body:Code} {vM:Exit→Act→World→Prop} (i:Nat) {r:Loop} (au:L[i]? =some ⟨some l,.is (.loop r)⟩) (aS:r.state= .ready)
 (k:ai c Q body E (L.set i ⟨some l,.is (.loop { r with state:= .busy })⟩)):ag c (Exit.then (zP c l body Q) vM) .normal E L:=fun a W s=>by
 obtain⟨o,J,ab⟩:=s.own _ (List.mem_of_getElem? au)
 have kq:o= .loop r:=ab
 subst kq
 exact⟨_,run_beginRound J aS,k _ _ (s.p4 au rfl)⟩
theorem ag.L4 {σ ε γ:Type} {eo:ε→Code} {l D:Nat} {rec:Loop} {Ls:σ→γ→List aH} {Lx:ε→γ→List aH} {bV:σ} (g:γ) (n:Nat) (au:L.drop n=⟨some l,.is (.loop rec)⟩ :: ⟨some D,.di⟩ :: Ls bV g):
 ag c (zO c eo l D rec Ls Lx (.inl bV)) .normal E L:=fun a W s=>⟨rfl,g,by rw [← au]; exact(s.nv n).less (fun t τ h=>by simp [look] at h)⟩
theorem ag.RE {σ ε γ:Type} {eo:ε→Code} {l D:Nat} {rec:Loop} {Ls:σ→γ→List aH} {Lx:ε→γ→List aH} {q:ε} {x:Exit} (g:γ) (n:Nat) (aF:sx (eo q)=true) (an:x=xN (eo q)) (au:L.drop n=⟨some l,.is (.loop rec)⟩ :: ⟨some D,.di⟩ :: Lx q g):
 ag c (zO c eo l D rec Ls Lx (.inr q)) x E L:=fun a W s=>⟨aF,an,g,by rw [← au]; exact(s.nv n).less (fun t τ h=>by simp [look] at h)⟩
theorem ai.jump {j:Code} (aF:sx j=true) (k:ag c Q (xN j) E L):ai c Q j E L:=by
 cases j <;> simp only [sx] at aF <;> first | cases aF | skip
 all_goals first | exact .exit k | exact .ret k | exact fun a W s=>wpIn_goto (k a W s)
theorem HT {P:Program} {l:Nat} {R:Ending→World→Prop} {j:Code} {a:Act} {W W':World} {v:Value} (aF:sx j=true) (bn:(Instr.endRound l (some j)).run P W= .ok v W') (h9:R (.returned v) W'):
 roundPost P l R (xN j) a W:=by
 cases j <;> simp only [sx] at aF <;> first | exact⟨_,_,bn,h9⟩ | cases aF
theorem bC.mark {a:Act} {W:World} (s:bC c E L a W) (D:Nat):bC { c with ds:=D :: c.ds } E L { a with defers:=BP D :: a.defers } W:=
 {defers:=by simp [s.defers],size:=s.size,env:=s.env,dd:=s.dd,own:=s.own,nodup:=s.nodup,lt:=s.lt,fs:=s.fs,er:=s.er }
def Gm (P:Program) (f:FuncId) (τs:List I) (Lin:List aH) {α σ ε γ:Type} (τ:α→I) (run:(α→σ→Option (σ ⊕ ε))→σ→Option (σ ⊕ ε)) (Ls:σ→γ→List aH) (Lx:ε→γ→List aH):Prop:=
 ∀ (step:α→σ→Option (σ ⊕ ε)) (b2:σ) (g0:γ) (r:σ ⊕ ε),run step b2=some r→
   ∀ (A:List Nat) (W:World) (u:Value) (vs:List Value),vr A W (Lin ++ Ls b2 g0)→gl (aJ (Lin ++ Ls b2 g0) ++ A) W τs vs→
     tk P u τ Ls Lx step (fun cH W'=>Ext (aJ (Lin ++ Ls b2 g0) ++ A) W cH W')→
     Calls P f (u :: vs).toArray W (ja (aJ (Lin ++ Ls b2 g0)) A W (fun _:γ=> .cF []) (fun g=>Lin ++ Lr Ls Lx r g))
theorem IX {gt p:Nat} {assign body:Code} {f:FuncId} {k4:List I} {Lin:List aH} {α σ ε γ:Type} {τ:α→I} {run:(α→σ→Option (σ ⊕ ε))→σ→Option (σ ⊕ ε)}
 {Ls:σ→γ→List aH} {Lx:ε→γ→List aH} {step:α→σ→Option (σ ⊕ ε)} {b2:σ} {g0:γ} {r:σ ⊕ ε} (eo:ε→Code)
 (ar:c.rd=none) (dO:bQ c.P f) (b0:look E gt=some (.gT f k4)) (jG:∀ az aX lf,Gm c.P f k4 Lin τ run (fun s g=>az :: aX :: Ls s g) lf) (aS:run step b2=some r) (au:L=Lin ++ Ls b2 g0) (hp:Nat.blt p c.n=true)
 (ni:∀ x s r,step x s=some r→ ∀ g (km:World) (kv kn:List Nat) (l D:Nat) (rec:Loop),rec.state= .ready→
  ai ⟨c.P,c.n,km,kv,kn,some l,[]⟩ (Exit.then (zP ⟨c.P,c.n,km,kv,kn,some l,[]⟩ l body (zO ⟨c.P,c.n,km,kv,kn,some l,[]⟩ eo l D { rec with state:= .busy } Ls Lx r)) (fun _ _ _=>False)) assign ((p,τ x) :: E) (⟨some l,.is (.loop rec)⟩ :: ⟨some D,.di⟩ :: Ls s g))
 (oR:∀ bV,r= .inl bV→ ∀ g D,ag { c with ds:=D :: c.ds } Q .normal E (⟨some D,.di⟩ :: (Lin ++ Ls bV g)))
 (sJ:∀ q,r= .inr q→ ∀ g D,ai { c with ds:=D :: c.ds } Q (eo q) E (⟨some D,.di⟩ :: (Lin ++ Lx q g))):
 ai c Q (.rangeFunc (.tmp gt) #[p] assign body) E L:=fun a W st=>by
 subst au
 refine wpIn_rangeFunc fun fn VT=> ?_
 show ∃ l mark U2 d TK vQ args U3,(Instr.enterLoop fn a.tmps #[p] assign body c.rd).run c.P W=_∧_
 rw [ar]
 obtain⟨rec,jc⟩:∃ rec:Loop,rec= { state:= .ready,pending:=none,fn,tmps:=a.tmps,params:= #[p],assign,body,defers:=W.heap.size } :=⟨_,rfl⟩
 obtain⟨v,zk,ha,tl,VU⟩:=st.env gt _ b0
 obtain⟨gY,zl⟩:∃ gY,(W.alloc (.deferred (some []))).alloc (.loop rec)=gY:=⟨_,rfl⟩
 have s1:=(st.alloc (o:= .deferred (some [])) (cp:= .di) rfl).alloc (o:= .loop rec) (cp:= .is (.loop rec)) rfl
 rw [zl,World.size_alloc] at s1
 obtain⟨D,jH⟩:∃ D,D=W.heap.size:=⟨_,rfl⟩
 obtain⟨l,aq⟩:∃ l,l=W.heap.size + 1:=⟨_,rfl⟩
 have zm:=run_enterLoop_outer (P:=c.P) (w:=W) fn a.tmps #[p] assign body
 rw [← jc,zl,← aq,← jH] at zm
 rw [← aq,← jH] at s1
 obtain⟨j2,ot⟩:∃ j2:σ→γ→List aH,j2=fun s g=>⟨some l,.is (.loop rec)⟩ :: ⟨some D,.di⟩ :: Ls s g:=⟨_,rfl⟩
 obtain⟨lf,zn⟩:∃ lf:ε→γ→List aH,lf=fun q g=>⟨some l,.is (.loop { rec with state:= .done,pending:=some (eo q) })⟩ :: ⟨some D,.di⟩ :: Lx q g:=⟨_,rfl⟩
 have s2:bC c E (Lin ++ j2 b2 g0) a gY:=s1.perm (by
  rw [ot]
  exact(List.perm_middle.trans (List.perm_middle.cons _)).symm)
 have Gn:gl (aJ (Lin ++ j2 b2 g0) ++ c.bP) gY k4 ha:=by
  have J:(I.gT f k4).holds (aJ (Lin ++ j2 b2 g0) ++ c.bP) gY v:=by
   obtain⟨Cz,J,ab⟩:=s2.env gt _ b0
   rw [zk] at J
   cases J
   exact ab
  obtain⟨Gp,az,aX⟩:=J
  rw [tl] at az
  have:Gp=ha:=by injection az with _ _ az; injection az with az; exact az.symm
  rw [← this]; exact aX
 have zo:bC c E ((Lin ++ j2 b2 g0) ++ []) a gY:=by rw [List.append_nil]; exact s2
 have yh:=zo.BX
 simp only [aJ,List.nil_append] at yh
 have FC:tk c.P (.func (.yield l) #[] #[]) τ j2 lf step (fun cH W'=>Ext (aJ (Lin ++ j2 b2 g0) ++ c.bP) gY cH W'):=by
  refine⟨l,rfl,fun x s qw hs g A mx v2 gn hle aY=> ?_⟩
  have yO:=hle
  rw [ot] at yO
  obtain⟨o,fz,g3⟩:=yO.ok ⟨some l,.is (.loop rec)⟩ (by simp)
  have n8:o= .loop rec:=g3
  subst n8
  have a9:=run_yield (P:=c.P) (args:= #[v2]) fz (by rw [jc]; rfl)
  refine⟨_,_,_,_,a9,roundIn_of_wpIn trivial ?_⟩
  have az:rec.assign=assign:=by rw [jc]
  have aX:rec.body=body:=by rw [jc]
  have cP:rec.params= #[p]:=by rw [jc]
  have eZ:rec.tmps=a.tmps:=by rw [jc]
  rw [az,aX,cP,eZ]
  refine AS (n:=9) rfl ?_
  have E3:((#[p]:Array Tmp).zip #[v2]).foldl (fun tmps (t,a)=>tmps.setIfInBounds t a) a.tmps=a.tmps.setIfInBounds p v2:=by simp
  rw [E3]
  subst ot zn
  refine wpIn_mono ((ni x s qw hs g mx (aJ (⟨some l,.is (.loop rec)⟩ :: ⟨some D,.di⟩ :: Ls s g)) A l D rec (by rw [jc])) { tmps:=a.tmps.setIfInBounds p v2,defers:= [] } mx ?_) ?_
  ·have lg:p < c.n:=by simpa using hp
   exact
   {defers:=rfl
    size:=by simp [s2.size]
    env:=fun t la dQ=>by
     simp only [look] at dQ
     by_cases e:Nat.beq p t=true
     ·rw [e] at dQ
      simp only [cond_true,Option.some.injEq] at dQ
      subst dQ
      have:=eF.1 e
      subst this
      exact⟨v2,by simp [s2.size,lg],aY⟩
     ·simp only [Bool.not_eq_true] at e
      rw [e] at dQ
      simp only [cond_false] at dQ
      obtain⟨u,J,ab⟩:=s2.env t la dQ
      have dv:p≠t:=fun h=>by rw [eF.2 h] at e; cases e
      exact⟨u,by rw [Array.getElem?_setIfInBounds_ne dv]; exact J,la.mono gn ab⟩
    dd:= .refl _ _
    own:=hle.ok
    nodup:=hle.nodup
    lt:=hle.lt
    fs:=fun k av _=>av
    er:=hle.er }
  ·intro e jn WG hq
   cases e with
   | normal=>
     obtain⟨He,Gq,hb⟩:=hq
     refine⟨He,Gq,AS (n:=9) rfl (wpIn_mono hb ?_)⟩
     intro e qx zQ Ck
     have fin:∀ (jump:Option Code) {Lr:List aH},bC ⟨c.P,c.n,mx,aJ (⟨some l,.is (.loop rec)⟩ :: ⟨some D,.di⟩ :: Ls s g),A,some l,[]⟩ [] (⟨some l,.is (.loop { rec with state:= .busy })⟩ :: ⟨some D,.di⟩ :: Lr) qx zQ→
      ∃ m2,(Instr.endRound l jump).run c.P zQ= .ok (.bool jump.isNone) m2∧bC ⟨c.P,c.n,mx,aJ (⟨some l,.is (.loop rec)⟩ :: ⟨some D,.di⟩ :: Ls s g),A,some l,[]⟩ [] (⟨some l,.is (.loop { rec with state:=if jump.isNone then .ready else .done,pending:=jump })⟩ :: ⟨some D,.di⟩ :: Lr) qx m2:=fun jump Lr g6=>by
      obtain⟨o,J,ab⟩:=g6.own ⟨some l,.is (.loop { rec with state:= .busy })⟩ (by simp)
      have kq:o= .loop { rec with state:= .busy } :=ab
      subst kq
      exact⟨_,run_endRound jump J,g6.p4 (i:=0) rfl rfl⟩
     cases qw with
     | inl bV=>
       obtain⟨rfl,eR,g6⟩:=Ck
       obtain⟨m2,bn,hM⟩:=fin none g6
       refine⟨_,m2,bn,?_⟩
       have Gr:({ rec with state:=if (none:Option Code).isNone then .ready else .done,pending:=none } :Loop)=rec:=by rw [jc]; rfl
       rw [Gr] at hM
       exact hM.ends (ρ:=fun _:γ=>I.of true) (Lo:=fun g=>⟨some l,.is (.loop rec)⟩ :: ⟨some D,.di⟩ :: Ls bV g) eR (List.Sublist.refl _) (of_bool.2 rfl)
     | inr q=>
       obtain⟨aF,rfl,eR,g6⟩:=Ck
       obtain⟨m2,bn,hM⟩:=fin (some (eo q)) g6
       have key:ja (aJ (⟨some l,.is (.loop rec)⟩ :: ⟨some D,.di⟩ :: Ls s g)) A mx (fun _:γ=>I.of false) (fun g=>⟨some l,.is (.loop { rec with state:= .done,pending:=some (eo q) })⟩ :: ⟨some D,.di⟩ :: Lx q g) (.returned (.bool false)) m2:=
        hM.ends (ρ:=fun _:γ=>I.of false) (Lo:=fun g=>⟨some l,.is (.loop { rec with state:= .done,pending:=some (eo q) })⟩ :: ⟨some D,.di⟩ :: Lx q g) eR (List.Sublist.refl _) (of_bool.2 rfl)
       exact HT aF bn key
   | exit id=>exact hq.elim
   | goto t=>exact hq.elim
   | ret=>exact hq.elim
   | panic G2=>exact hq.elim
   | outgrown=>exact hq.elim
 have VV:Gm c.P f k4 Lin τ run j2 lf:=by rw [ot]; exact jG _ _ lf
 have yi:=VV step b2 g0 r aS c.bP gY (.func (.yield l) #[] #[]) ha yh Gn FC
 have kN:a.eval (.tmp gt)= .func (.func f) #[] ha.toArray:=by simp [Act.eval,zk,tl]
 refine⟨l,[BP D],gY,{ target:= .fn (.func f) ha.toArray,args:= #[.func (.yield l) #[] #[]] },gY,f,#[.func (.yield l) #[] #[]] ++ ha.toArray,gY,zm,?_,fun _ _=>trivial,?_,fun h=>by simp at h,?_⟩
 ·simp only [resolve,kN]
  simp [go_sem]
 ·simp [invoke,go_sem,dO.run]
 ·refine CallsIn.DU ?_
  have E4:(#[.func (.yield l) #[] #[]] ++ ha.toArray:Array Value)=(.func (.yield l) #[] #[] :: ha).toArray:=by simp
  rw [E4]
  refine yi.mono fun e Hf ⟨WH,eR,he,a8,aC,aU,aZ,bn⟩=> ?_
  subst he
  have m3:=zo.after a8 aC (by simpa [aJ] using aU) (by simpa [aJ] using aZ)
  rw [List.append_nil] at m3
  cases r with
  | inl bV=>
    simp only [Lr] at m3
    subst ot
    have zR:bC c E (⟨some l,.is (.loop rec)⟩ :: ⟨some D,.di⟩ :: (Lin ++ Ls bV eR)) a Hf:=m3.perm (by
     exact List.perm_middle.trans (List.perm_middle.cons _))
    obtain⟨o,fz,g3⟩:=zR.own ⟨some l,.is (.loop rec)⟩ (by simp)
    have n8:o= .loop rec:=g3
    subst n8
    have nz:=run_endLoop (P:=c.P) fz (by rw [jc]; simp)
    have lg:rec.pending=none:=by rw [jc]
    rw [lg] at nz
    refine⟨none,_,nz,?_⟩
    have qy:=(zR.p4 (i:=0) (cp':= .is (.loop { rec with state:= .exhausted })) (o':= .loop { rec with state:= .exhausted }) rfl rfl).nv 1
    rw [lg] at qy
    exact oR bV rfl eR D _ _ (qy.mark D)
  | inr q=>
    simp only [Lr] at m3
    subst zn
    have zR:bC c E (⟨some l,.is (.loop { rec with state:= .done,pending:=some (eo q) })⟩ :: ⟨some D,.di⟩ :: (Lin ++ Lx q eR)) a Hf:=m3.perm (by
     exact List.perm_middle.trans (List.perm_middle.cons _))
    obtain⟨o,fz,g3⟩:=zR.own ⟨some l,.is (.loop { rec with state:= .done,pending:=some (eo q) })⟩ (by simp)
    have n8:o= .loop { rec with state:= .done,pending:=some (eo q) } :=g3
    subst n8
    have nz:=run_endLoop (P:=c.P) fz (by simp)
    refine⟨some (eo q),_,nz,?_⟩
    have qy:=(zR.p4 (i:=0) (cp':= .is (.loop { rec with state:= .exhausted,pending:=some (eo q) })) (o':= .loop { rec with state:= .exhausted,pending:=some (eo q) }) rfl rfl).nv 1
    exact sJ q rfl eR D _ _ (qy.mark D)
theorem Qd {gt p:Nat} {assign body:Code} {f:FuncId} {k4:List I} {Lin:List aH} {α σ ε γ:Type} {τ:α→I} {run:∀ {σ ε:Type},(α→σ→Option (σ ⊕ ε))→σ→Option (σ ⊕ ε)}
 {Ls:σ→γ→List aH} {Lx:ε→γ→List aH} {step:α→σ→Option (σ ⊕ ε)} {b2:σ} {g0:γ} {r:σ ⊕ ε} (eo:ε→Code)
 (ar:c.rd=none) (dO:bQ c.P f) (b0:look E gt=some (.gT f k4)) (jG:xA c.P f k4 Lin τ run) (aS:run step b2=some r) (au:L=Lin ++ Ls b2 g0) (hp:Nat.blt p c.n=true)
 (ni:∀ x s r,step x s=some r→ ∀ g (km:World) (kv kn:List Nat) (l D:Nat) (rec:Loop),rec.state= .ready→
  ai ⟨c.P,c.n,km,kv,kn,some l,[]⟩ (Exit.then (zP ⟨c.P,c.n,km,kv,kn,some l,[]⟩ l body (zO ⟨c.P,c.n,km,kv,kn,some l,[]⟩ eo l D { rec with state:= .busy } Ls Lx r)) (fun _ _ _=>False)) assign ((p,τ x) :: E) (⟨some l,.is (.loop rec)⟩ :: ⟨some D,.di⟩ :: Ls s g))
 (oR:∀ bV,r= .inl bV→ ∀ g D,ag { c with ds:=D :: c.ds } Q .normal E (⟨some D,.di⟩ :: (Lin ++ Ls bV g)))
 (sJ:∀ q,r= .inr q→ ∀ g D,ai { c with ds:=D :: c.ds } Q (eo q) E (⟨some D,.di⟩ :: (Lin ++ Lx q g))):
 ai c Q (.rangeFunc (.tmp gt) #[p] assign body) E L:=
 IX (run:=run) eo ar dO b0 (fun az aX lf=>jG.go (fun s g=>az :: aX :: Ls s g) lf) aS au hp ni oR sJ
theorem ON {P:Program} {fn:Func} {R:Ending→World→Prop} {a:Act} {W:World} (h:bodyPost P fn R .ret a W):bodyPostM Fence.wide 9 P fn R .ret a W:=by
 obtain⟨J,v,ab,aC⟩:=h
 show LeavesInM Fence.wide 9 P fn a.tmps R a.defers .returning W
 rw [J]
 exact⟨v,ab,aC⟩
theorem ag.vg {P:Program} {fn:Func} {R:Ending→World→Prop} (k:ag c (bodyPost P fn R) .ret E L):ag c (bodyPost P fn R) .normal E L:=fun a W s=>k a W s
theorem ag.yA {fn:Func} {R:Ending→World→Prop} (k:ag c (bodyPost c.P fn R) .ret E L):ag c (bodyPostM Fence.wide 9 c.P fn R) .ret E L:=fun a W s=>ON (k a W s)
theorem ag.BL {fn:Func} {R:Ending→World→Prop} {D:Nat} (i:Nat) (au:L[i]? =some ⟨some D,.di⟩) (hA:c.ds= [D]) (k:ag { c with ds:= [] } (bodyPost c.P fn R) .ret E (L.set i ⟨some D,.is (.deferred none)⟩)):
 ag c (bodyPostM Fence.wide 9 c.P fn R) .ret E L:=fun a W s=>by
 obtain⟨o,J,ab⟩:=s.own _ (List.mem_of_getElem? au)
 have kq:o= .deferred (some []):=ab
 subst kq
 have s2:=s.p4 au (cp':= .is (.deferred none)) (o':= .deferred none) rfl
 have j5:bC { c with ds:= [] } E (L.set i ⟨some D,.is (.deferred none)⟩) { a with defers:= [] } (W.putObj D (.deferred none)):=
  {defers:=rfl,size:=s2.size,env:=s2.env,dd:=s2.dd,own:=s2.own,nodup:=s2.nodup,lt:=s2.lt,fs:=s2.fs,er:=s2.er }
 obtain⟨_,v,aC,aU⟩:=k _ _ j5
 show LeavesInM Fence.wide 9 c.P fn a.tmps R a.defers .returning W
 rw [s.defers,hA]
 exact⟨by simp,.inl ⟨D,_,rfl,run_takeDeferred J,v,aC,aU⟩⟩
end
theorem bx.RS {P:Program} {f:FuncId} {fn:Func} {code:Code} {n:Nat} {τs:List I} {ρ:I} (a8:P.funcs[f]? =some fn) (hb:fn.body=some code) (aO:fn.ntmps=n) (hlen:Nat.ble τs.length n=true)
 (h:∀ W A,ai ⟨P,n,W,[],A,none,[]⟩ (bodyPostM Fence.wide 9 P fn fun e W'=> ∃ v,e= .returned v∧Fr [] W W'∧ρ.holds A W' v) code (params 0 τs) []):bx P f τs ρ:=by
 intro A W vs fE aY
 refine(callsIn_wide (n:=9)).1 (callsIn_of_wp_marks a8 hb trivial (h W A _ _ ?_))
 have aq:=aY.length
 have hle:τs.length≤n:=Nat.le_of_ble_eq_true hlen
 exact
 {defers:=rfl
  size:=by simp [aO,aq]; omega
  env:=fun t τ ko=>by
   obtain⟨_,v,ab,aC⟩:=sc aY 0 t τ ko
   refine⟨v,?_,aC⟩
   have cq:t < vs.length:=(List.getElem?_eq_some_iff.1 ab).1
   rw [Array.getElem?_append_left (by simpa using cq)]
   simpa using ab
  dd:= .refl _ _
  own:=by simp
  nodup:=by simp [aJ]
  lt:=by simp [aJ]
  fs:=by simp [aJ]
  er:=fun k av=>⟨fE k av,by simp [aJ]⟩ }
theorem bx.ofM {P:Program} {f:FuncId} {fn:Func} {code:Code} {n:Nat} {τs:List I} {ρ:I} (a8:P.funcs[f]? =some fn) (hb:fn.body=some code) (aO:fn.ntmps=n) (hlen:Nat.ble τs.length n=true)
 (h:∀ W A,ai ⟨P,n,W,[],A,none,[]⟩ (bodyPostM Fence.wide 9 P fn (sZ ⟨P,n,W,[],A,none,[]⟩ ρ)) code (params 0 τs) []):bx P f τs ρ:=bx.RS a8 hb aO hlen h
theorem cz.ofM {P:Program} {f:FuncId} {fn:Func} {code:Code} {n:Nat} {τs:List I} {Lin:List aH} {δ:Type} {ρ:δ→I} {Lo:δ→List aH} (a8:P.funcs[f]? =some fn) (hb:fn.body=some code) (aO:fn.ntmps=n) (hlen:Nat.ble τs.length n=true)
 (h:∀ W A,ai ⟨P,n,W,aJ Lin,A,none,[]⟩ (bodyPostM Fence.wide 9 P fn (ja (aJ Lin) A W ρ Lo)) code (params 0 τs) Lin):cz P f τs Lin ρ Lo:=by
 intro A W vs fE h8 cq hC aY
 refine(callsIn_wide (n:=9)).1 (callsIn_of_wp_marks a8 hb trivial (h W A _ _ ?_))
 have aq:=aY.length
 have hle:τs.length≤n:=Nat.le_of_ble_eq_true hlen
 exact
 {defers:=rfl
  size:=by simp [aO,aq]; omega
  env:=fun t τ ko=>by
   obtain⟨_,v,ab,aC⟩:=sc aY 0 t τ ko
   refine⟨v,?_,aC⟩
   have cq:t < vs.length:=(List.getElem?_eq_some_iff.1 ab).1
   rw [Array.getElem?_append_left (by simpa using cq)]
   simpa using ab
  dd:= .refl _ _
  own:=hC
  nodup:=h8
  lt:=cq
  fs:=fun k av _=>av
  er:=fE }
end Gv
namespace Gv
open Go
set_option linter.unusedVariables false
set_option linter.unusedSimpArgs false
theorem AQ {τ σ:I} (h:τ.Flat) (k:σ.Flat):(I.cF [τ,σ]).Flat:=fun A W cH W' v ⟨vs,J,ab⟩=>by
 refine⟨vs,J,?_⟩
 generalize vs.toList=l at ab
 cases ab with
 | cons a r=>cases r with
   | cons b r=>cases r; exact .cons (h _ _ _ _ _ a) (.cons (k _ _ _ _ _ b) .nil)
section
variable {c:cU} {E:List (Nat × I)} {L:List aH} {ops:Array Oper} {Q:Exit→Act→World→Prop}
variable {d:Option Tmp} {ty:TypeId} {pos:String} {af:Array Edge} {g:Option (Nat × Bool)} {x y:Operand} {t t2:TypeId}
theorem bX.via {o:Oper} {τ:I} {E':List (Nat × I)} {ay:List aH} (a8:τ.Flat) (hs:∀ a W,bC c E L a W→bC c E' ay a W) (h:bX c E' ay o τ):bX c E L o τ:=fun a W st=>by
 have:=h a W (hs a W st)
 unfold fK at this ⊢
 exact Oper.wp_mono (fun hZ W' ⟨v,J,ab,aC⟩=>⟨v,J,ab,a8 _ _ _ _ _ aC⟩) this
theorem bC.tell {a:Act} {W:World} (s:bC c E L a W) {eM:Nat} {σ τ:I} (aq:look E eM=some σ) (h:∀ v,σ.holds (aJ L ++ c.bP) W v→τ.holds (aJ L ++ c.bP) W v):bC c ((eM,τ) :: E) L a W:=by
 refine { s with env:=fun t la dQ=> ?_ }
 simp only [look] at dQ
 by_cases e:Nat.beq eM t=true
 ·rw [e] at dQ
  simp only [cond_true,Option.some.injEq] at dQ
  subst dQ
  have:=eF.1 e
  subst this
  obtain⟨v,J,ab⟩:=s.env eM _ aq
  exact⟨v,J,h v ab⟩
 ·simp only [Bool.not_eq_true] at e
  rw [e] at dQ
  exact s.env t la dQ
theorem bC.Li {a:Act} {W:World} (s:bC c E L a W) {i p:Nat} {α:Type} [ad α] {z:α} (au:L[i]? =some ⟨some p,.var z⟩):
 (I.ptr z).holds (aJ (L.set i ⟨none,.dead⟩) ++ c.bP) W (.pointer (some ⟨p,0,none⟩)):=by
 obtain⟨o,dV,cs,T,rfl,aS⟩:=s.own _ (List.mem_of_getElem? au)
 have hlen:cs.toList.length=ad.size α:=ad.len aS
 refine⟨p,0,cs,T,(0,0),rfl,s.xg au,dV,by simp at hlen; omega,?_⟩
 rw [List.drop_zero,← hlen,List.take_length]
 have kH:=ua (L:=L) (i:=i) (cp:= .dead)
 exact ad.mono (.drop fun k hm=>by
  rcases List.mem_append.1 hm with hm | hm
  ·exact List.mem_append.2 (.inl (kH.subset hm))
  ·exact List.mem_append.2 (.inr hm)) aS
abbrev zp (f p:Nat):Value:= .func (.func f) #[.pointer (some ⟨p,0,none⟩)] #[]
theorem S9 {f p:Nat} (an:ba c E L x (.eq (.pointer (some ⟨p,0,none⟩)))):bX c E L ⟨d,.makeFunc (.func f) #[x] #[],ty,pos,af,g⟩ (.eq (zp f p)):= .pure fun a W s=>by
 have h:=an a W s
 refine⟨_,?_,rfl⟩
 have cJ:a.eval x= .pointer (some ⟨p,0,none⟩):=h
 simp [execOp,Instr.makeFunc,cJ,zp]
theorem Q6 {f p:Nat} {α β γ δ:Type} [ad α] [ad β] [ad γ] [ad δ] {z:δ} {F:α→β→Option γ} {P:Program} (dO:bQ P f) (h:∀ x y r,F x y=some r→bx P f [.ptr z,.of x,.of y] (.of r)) {A:List Nat} {W:World}
 (hp:(I.ptr z).holds A W (.pointer (some ⟨p,0,none⟩))):(I.vx P F).holds A W (zp f p):=
 ⟨f,_,#[],rfl,dO,fun cH W' e fE x y r m0 vN m1 aY tl=>by simpa using h x y r m1 cH W' [_,m0,vN] fE (.cons (I.mono _ e hp) (.cons aY (.cons tl .nil)))⟩
theorem bX.Lb {o:Oper} {τ σ:I} {p:Nat} {α:Type} [ad α] {z:α} (i eM:Nat) (aq:look E eM=some σ) (aY:∀ A W v,σ.holds A W v→v= .pointer (some ⟨p,0,none⟩)) (au:L[i]? =some ⟨some p,.var z⟩) (a8:τ.Flat)
 (h:bX c ((eM,.ptr z) :: E) (L.set i ⟨none,.dead⟩) o τ):bX c E L o τ:=
 .via a8 (fun a W s=>(s.kill i).tell (σ:=σ) aq (fun v ct=>by rw [aY _ _ _ ct]; exact s.Li au)) h
theorem bX.RI {o:Oper} {τ:I} {p f:Nat} {α β γ δ:Type} [ad α] [ad β] [ad γ] [ad δ] {z:δ} {F:α→β→Option γ} (i eM:Nat) (aq:look E eM=some (.eq (zp f p))) (au:L[i]? =some ⟨some p,.var z⟩) (dO:bQ c.P f)
 (m1:∀ x y r,F x y=some r→bx c.P f [.ptr z,.of x,.of y] (.of r)) (a8:τ.Flat) (h:bX c ((eM,.vx c.P F) :: E) (L.set i ⟨none,.dead⟩) o τ):bX c E L o τ:=
 .via a8 (fun a W s=>(s.kill i).tell aq (fun v ct=>by have VW:v=zp f p:=ct; rw [VW]; exact Q6 dO m1 (s.Li au))) h
theorem bX.S7 {o:Oper} {τ:I} {p cap T:Nat} {key:Option Nat} {β γ:Type} [ad β] [ad γ] {b b':β} {xs:List γ} {os os':List (Nat × Value)} (l:aL β (List γ)) (i j q:Nat) (eW:Nat.beq i j=false) (au:L[i]? =some ⟨some p,.cj b os⟩) (jI:L[j]? =some ⟨key,.row T xs cap⟩)
 (hq:os[q]? =some (l.off,aV key xs.length cap)) (hb:l.set b xs=b') (jk:l1 os l.off=os') (a8:τ.Flat) (h:bX c E ((L.set j ⟨none,.dead⟩).set i ⟨some p,.cj b' os'⟩) o τ):bX c E L o τ:=
 .via a8 (fun a W s=>s.ih l (fun e=>by rw [e,Nat.beq_refl] at eW; cases eW) au jI q hq hb jk) h
theorem bX.RH {o:Oper} {τ:I} {p cap T:Nat} {key:Option Nat} {β γ:Type} [ad β] [ad γ] {b b':β} {xs:List γ} {os os':List (Nat × Value)} (l:aL β (List γ)) (i j q eM:Nat) (eW:Nat.beq i j=false) (au:L[i]? =some ⟨some p,.cj b os⟩) (jI:L[j]? =some ⟨key,.row T xs cap⟩)
 (hq:os[q]? =some (l.off,aV key xs.length cap)) (hb:l.set b xs=b') (jk:l1 os l.off=os') (kM:look E eM=some (.eq (aV key xs.length cap))) (a8:τ.Flat) (h:bX c ((eM,.of xs) :: E) ((L.set j ⟨none,.dead⟩).set i ⟨some p,.cj b' os'⟩) o τ):bX c E L o τ:=
 .via a8 (fun a W s=>s.rf l (fun e=>by rw [e,Nat.beq_refl] at eW; cases eW) au jI q hq hb jk kM) h
theorem bX.La {o:Oper} {τ:I} {p:Nat} {β:Type} [ad β] {b:β} (i:Nat) (au:L[i]? =some ⟨some p,.cj b []⟩) (a8:τ.Flat) (h:bX c E (L.set i ⟨some p,.var b⟩) o τ):bX c E L o τ:=
 .via a8 (fun a W s=>s.uR (cp':= .var b) au (fun o ⟨cs,T,J,ab⟩=>⟨cs,T,J,ab.1⟩) id) h
theorem Iv {P:Program} {T:TypeId} {e:TypeId} (h:P.underlying T=some (.pointer e)) (p:Addr) (W:World) (n:Nat):(Op.equalIn (n + 1) T (.pointer (some p)) (.pointer none)).run P W= .ok false W:=by
 simp [Op.equalIn,run_underlying h]
theorem Kf {p:Addr} {e:TypeId} (hu:c.P.underlying t=some (.pointer e)) (an:ba c E L x (.eq (.pointer (some p)))):bX c E L ⟨d,.binOp .eql t x (.const (.pointer none)) t2,ty,pos,af,g⟩ (.of false):= .pure fun a W s=>by
 have aO:a.eval (.const (.pointer none))= .pointer none:=rfl
 have J:a.eval x= .pointer (some p):=an a W s
 refine⟨.bool false,?_,of_bool.2 rfl⟩
 simp only [execOp,eqGuard,binOp,J,aO,Op.equal,Op.maxDepth]
 simp [Iv hu p W 9999]
theorem QO {γ:Type} [ad γ] {r:γ} {e:TypeId} (hu:c.P.underlying t=some (.pointer e)) (an:ba c E L x (.ptr r)):bX c E L ⟨d,.binOp .eql t x (.const (.pointer none)) t2,ty,pos,af,g⟩ (.of false):= .pure fun a W s=>by
 have aO:a.eval (.const (.pointer none))= .pointer none:=rfl
 obtain⟨b,off,cur,T,g9,J,_⟩:=an a W s
 refine⟨.bool false,?_,of_bool.2 rfl⟩
 simp only [execOp,eqGuard,binOp,J,aO,Op.equal,Op.maxDepth]
 simp [Iv hu _ W 9999]
theorem ai.b6 {code:Code} (i:Nat) {e:aH} (h:L[i]? =Option.some e) (k:ai c Q code E (e :: L.eraseIdx i)):ai c Q code E L:=fun a W s=>k a W (s.b6 h)
theorem ai.FL {z:Code} {p:Nat} {β γ:Type} [ad β] [ad γ] {b b':β} {os:List (Nat × Value)} {u:Value} (l:aL β (List γ)) (i q:Nat) (au:L[i]? =Option.some ⟨Option.some p,.cj b os⟩) (hq:os[q]? =Option.some (l.off,u)) (hb:l.set b []=b')
 (k:ai c Q z E (L.set i ⟨Option.some p,.cj b' os⟩)):ai c Q z E L:=fun a W s=>
 k a W (s.again (cp':= .cj b' os) au (fun A W o ⟨cs,T,J,ab⟩=>⟨cs,T,J,hb ▸ DC l ab (List.mem_of_getElem? hq)⟩) id)
def iF (c:cU) (E:List (Nat × I)) (L:List aH) (o:Oper) (τ:I):Prop:=
 ∀ a W,bC c E L a W→fK c.P o a W fun v W'=>bC c E L a W'∧τ.holds (aJ L ++ c.bP) W' v
theorem ah.pa {o:Oper} {rest:List Oper} {d:Nat} {τ:I} (h:iF c E L o τ) (b0:o.guard=none) (hd:o.dst=some d) (aO:Nat.blt d c.n=true)
 (k:ah c ops Q rest ((d,τ) :: E) L):ah c ops Q (o :: rest) E L:=fun a W s=>
 hH b0 (h a W s) fun v W' ⟨f,aY⟩=>by
  rw [hd]
  exact k _ _ (f.put (by simpa using aO) aY)
def nA (L:List aH):List Nat→List aH→Prop
 | [],[]=>True
 | i :: is,e :: es=>L[i]? =some e∧nA L is es
 | _,_=>False
theorem H8 {L:List aH} {i j:Nat} (h:i≠j):(L.eraseIdx i)[if j < i then j else j - 1]? =L[j]? :=by
 rw [List.getElem?_eraseIdx]
 by_cases J:j < i
 ·simp [J]
 ·have: ¬ (j - 1 < i):=by omega
  simp only [J,if_false,this]
  congr 1; omega
theorem nA.shift {L:List aH} {i:Nat} :∀ {is:List Nat} {es:List aH},nA L is es→i ∉ is→nA (L.eraseIdx i) (is.map fun j=>if j < i then j else j - 1) es
 | [],[],_,_=>trivial
 | j :: is,e :: es,⟨J,ab⟩,aO=>by
   simp only [List.mem_cons,not_or] at aO
   exact⟨by rw [H8 aO.1]; exact J,nA.shift ab aO.2⟩
theorem Ih {i:Nat} :∀ {is:List Nat},is.Nodup→i ∉ is→ (is.map fun j=>if j < i then j else j - 1).Nodup
 | [],_,_=>by simp
 | j :: is,h,aO=>by
   simp only [List.mem_cons,not_or] at aO
   obtain⟨J,ab⟩:=List.nodup_cons.1 h
   refine List.nodup_cons.2 ⟨fun hm=> ?_,Ih ab aO.2⟩
   obtain⟨k,av,he⟩:=List.mem_map.1 hm
   have zg:k≠i:=fun e=>aO.2 (e ▸ av)
   have Xl:k≠j:=fun e=>J (e ▸ av)
   have kr:j≠i:=fun e=>aO.1 e.symm
   have Cd:(if k < i then k else k - 1)=(if j < i then j else j - 1):=he
   split at Cd <;> split at Cd <;> omega
theorem nA.perm:∀ {is:List Nat} {es L:List aH},nA L is es→is.Nodup→ ∃ R,L.Perm (es ++ R)
 | [],[],L,_,_=>⟨L,List.Perm.refl _⟩
 | i :: is,e :: es,L,⟨J,ab⟩,aO=>by
   obtain⟨lJ,o6⟩:=List.nodup_cons.1 aO
   obtain⟨R,h9⟩:=(ab.shift lJ).perm (Ih o6 lJ)
   exact⟨R,(qJ J).trans (h9.cons e)⟩
 termination_by is=>is.length
 decreasing_by simp
theorem iF.call {f:FuncId} {xs:List Operand} {ats:Array TypeId} {τs:List I} {Lin:List aH} {ρ:Unit→I} {Lo:Unit→List aH} (is:List Nat) (dO:bQ c.P f) (h:cz c.P f τs Lin ρ Lo)
 (an:hf c E L xs τs) (aO:decide is.Nodup=true) (hp:nA L is Lin) (aq:Lo ()=Lin):iF c E L ⟨d,.call ⟨.value (.func f),xs.toArray,ats⟩,ty,pos,af,g⟩ (ρ ()):=fun a W s=>by
 obtain⟨R,h9⟩:=hp.perm (of_decide_eq_true aO)
 have bV:=s.perm h9
 have Gs:=sk h9
 have Cl:∀ k,k∈aJ L ++ c.bP↔k∈aJ (Lin ++ R) ++ c.bP:=fun k=>by
  simp only [List.mem_append]; rw [Gs.mem_iff]
 have ct:gl (aJ (Lin ++ R) ++ c.bP) W τs (xs.map a.eval):=(an.Km s).mono (.drop fun k hm=>(Cl k).2 hm)
 have bm:=w5 (d:=d) (ty:=ty) (pos:=pos) (af:=af) (g:=g) (ats:=ats) dO h bV ct
 unfold fK at bm ⊢
 refine Oper.wp_mono (fun hZ W' ⟨v,J,a6,ab,aC⟩=>⟨v,J,?_,?_⟩) bm
 ·cases a6; rw [aq] at ab; exact ab.perm h9.symm
 ·cases a6
  rw [aq] at aC
  exact I.mono _ (.drop fun k hm=>(Cl k).1 hm) aC
theorem nA.set {L:List aH} {i j:Nat} {x y az aX:aH} (eW:i≠j) (al:L[i]? =some az) (aF:L[j]? =some aX):∃ R,L.Perm (az :: aX :: R)∧ ((L.set i x).set j y).Perm (x :: y :: R):=by
 have F0:nA L [i,j] [az,aX]:=⟨al,aF,trivial⟩
 have hle:∀ M:List aH,∀ u v:aH,M[i]? =some u→M[j]? =some v→M.Perm (u :: v :: (M.eraseIdx i).eraseIdx (if j < i then j else j - 1)):=fun M u v J ab=>
  (qJ J).trans ((qJ (by rw [H8 eW]; exact ab)).cons u)
 refine⟨_,hle L az aX al aF,?_⟩
 have iD:=(List.getElem?_eq_some_iff.1 al).1
 have Gt:=(List.getElem?_eq_some_iff.1 aF).1
 have J:=hle ((L.set i x).set j y) x y (by rw [List.getElem?_set_ne (Ne.symm eW),List.getElem?_set_self iD]) (by rw [List.getElem?_set_self (by simpa using Gt)])
 have ab:((L.set i x).set j y).eraseIdx i=(L.eraseIdx i).set (if j < i then j else j - 1) y:=by
  apply List.ext_getElem?
  intro k
  simp only [List.getElem?_eraseIdx,List.getElem?_set,List.length_set,List.length_eraseIdx,iD,if_true]
  by_cases av:k < i <;> by_cases kr:j < i <;> simp only [av,kr,if_true,if_false] <;> (repeat' split) <;> first | rfl | omega | skip
 rw [ab,List.eraseIdx_set_eq] at J
 exact J
theorem ah.RJ {rest:List Oper} {a6:Nat} {f:FuncId} {xs:List Operand} {ats:Array TypeId} {τs:List I} {az aX:aH} {δ:Type} {ρ:δ→I} {Lo:δ→List aH} (lo:δ→aH) (i j:Nat) (dO:bQ c.P f) (h:cz c.P f τs [az,aX] ρ Lo)
 (an:hf c E L xs τs) (eW:Nat.beq i j=false) (al:L[i]? =some az) (aF:L[j]? =some aX) (hi:∀ q,Lo q= [lo q]) (aO:Nat.blt a6 c.n=true) (k:∀ q,ah c ops Q rest ((a6,ρ q) :: E) ((L.set i (lo q)).set j ⟨none,.dead⟩)):
 ah c ops Q (⟨some a6,.call ⟨.value (.func f),xs.toArray,ats⟩,ty,pos,af,none⟩ :: rest) E L:=fun a W s=>by
 have dv:i≠j:=fun e=>by rw [e,Nat.beq_refl] at eW; cases eW
 obtain⟨R,h9,_⟩:=nA.set (x:=az) (y:=aX) dv al aF
 have bV:=s.perm h9
 have Gs:=sk h9
 have Cl:∀ k,k∈aJ L ++ c.bP↔k∈aJ ([az,aX] ++ R) ++ c.bP:=fun k=>by
  simp only [List.mem_append]; rw [Gs.mem_iff]; simp [eA]
 have ct:gl (aJ ([az,aX] ++ R) ++ c.bP) W τs (xs.map a.eval):=(an.Km s).mono (.drop fun k hm=>(Cl k).2 hm)
 refine hH rfl (w5 (Lin:= [az,aX]) dO h bV ct) fun v W' ⟨q,ab,aC⟩=> ?_
 refine k q _ _ ?_
 obtain⟨CA,VX,Mt⟩:=nA.set (x:=lo q) (y:=⟨none,.dead⟩) dv al aF
 have VY:(az :: aX :: R).Perm (az :: aX :: CA):=h9.symm.trans VX
 have LU:R.Perm CA:=(VY.cons_inv).cons_inv
 rw [hi] at ab aC
 have aU:bC c E (lo q :: ⟨none,.dead⟩ :: R) a W':= { ab with
  own:=fun e he=>by
   simp only [List.mem_cons] at he
   rcases he with rfl | rfl | he
   ·exact ab.own _ (by simp)
   ·trivial
   ·exact ab.own _ (by simp [he]) }
 have aZ:bC c E ((L.set i (lo q)).set j ⟨none,.dead⟩) a W':=aU.perm (((LU.cons _).cons _).trans Mt.symm)
 have bn:(aJ ((L.set i (lo q)).set j ⟨none,.dead⟩)).Perm (aJ (lo q :: R)):=by
  have:=sk (Mt.trans ((LU.symm.cons _).cons _))
  simpa [aJ] using this
 refine aZ.put (by simpa using aO) (I.mono _ (.drop fun k hm=> ?_) aC)
 rcases List.mem_append.1 hm with hm | hm
 ·exact List.mem_append.2 (.inl (bn.mem_iff.1 hm))
 ·exact List.mem_append.2 (.inr hm)
theorem FT {L:List aH} {i:Nat} {x e:aH} (h:L[i]? =some x):(L.set i e)[i]? =some e:=by
 rw [List.getElem?_set_self (List.getElem?_eq_some_iff.1 h).1]
theorem L6 {L:List aH} {i j:Nat} {r:Option aH} {e:aH} (aO:Nat.beq j i=false) (h:L[i]? =r):(L.set j e)[i]? =r:=by
 rw [List.getElem?_set_ne (fun e=>by rw [e,Nat.beq_refl] at aO; cases aO)]; exact h
theorem ag.again {z:Exit} {key:Option Nat} {cp:dn} (cp':dn) (i:Nat) (au:L[i]? =some ⟨key,cp⟩) (h:∀ A W o,cp.holds A W o→cp'.holds A W o) (aO:cp.l7→cp'.l7) (k:ag c Q z E (L.set i ⟨key,cp'⟩)):ag c Q z E L:=fun a W s=>
 k a W (s.again au h aO)
end
end Gv
namespace Gv
open Go
set_option linter.unusedVariables false
set_option linter.unusedSimpArgs false
abbrev aG (α:Type):=(α→Prop)→Prop
def aG.of {α:Type} (o:Option α):aG α:=fun Q=> ∃ r,o=some r∧Q r
def aG.bind {α β:Type} (m:aG α) (k:α→aG β):aG β:=fun Q=>m fun r=>k r Q
def aG.ret {α:Type} (x:α):aG α:=fun Q=>Q x
def n1 {σ ε:Type} :Nat→ (σ→aG (σ ⊕ ε))→σ→aG ε
 | 0,_,_=>fun _=>False
 | n + 1,b,s=>fun Q=>b s fun r=>match r with
   | .inl bV=>n1 n b bV Q
   | .inr e=>Q e
abbrev bb (bW:Type):=List (Nat × bW)
abbrev Ref:=Option Nat
instance WZ:ad Ref:= .scalar (fun x=>Value.pointer (x.map fun p=>⟨p,0,none⟩)) fun _=>rfl
theorem uS {A W v} {x:Ref} :(I.of x).holds A W v↔v= .pointer (x.map fun p=>⟨p,0,none⟩):=
 ⟨fun h=>na h.1 h.2,fun h=>by subst h; exact⟨rfl,rfl⟩⟩
instance:a5 Ref:=⟨[.pointer none],fun _ _=>rfl⟩
def aG.mk {bW:Type} (hp:bb bW) (k:bW):aG (Nat × bb bW):=fun Q=> ∀ a:Nat × bb bW,a.1 ∉ hp.map (·.1)∧a.2=(a.1,k) :: hp→Q a
theorem aG.qT {bW α:Type} {hp:bb bW} {c:bW} {k:Nat × bb bW→aG α} {R:α→Prop} (h:aG.bind (aG.mk hp c) k R) (a:Nat × bb bW) (bh:a.1 ∉ hp.map (·.1)∧a.2=(a.1,c) :: hp):k a R:=h a bh
class e1 (bW:Type) where
 hK:Nat→bW→List aH
 root:∀ p k,∃ e∈hK p k,e.key=some p
def bd {bW:Type} [e1 bW]:bb bW→List aH
 | []=> []
 | (p,k) :: r=>e1.hK p k ++ bd r
def pat {bW:Type} :bb bW→Nat→Option bW
 | [],_=>none
 | (q,k) :: r,p=>if q=p then some k else pat r p
def dz {bW:Type} :bb bW→Nat→bW→bb bW
 | [],_,_=> []
 | (q,k) :: r,p,k'=>if q=p then(q,k') :: r else(q,k) :: dz r p k'
def ec {bW:Type} (hp:bb bW):List Nat:=hp.map (·.1)
theorem uw {bW:Type} [e1 bW]:∀ {hp:bb bW} {p:Nat} {k:bW},pat hp p=some k→ ∃ R,(bd hp).Perm (e1.hK p k ++ R)∧ ∀ k',(bd (dz hp p k')).Perm (e1.hK p k' ++ R)
 | [],_,_,h=>by simp [pat] at h
 | (q,Hg) :: r,p,k,h=>by
   simp only [pat] at h
   split at h
   ·rename_i e
    subst e
    simp only [Option.some.injEq] at h
    subst h
    exact⟨bd r,.refl _,fun k'=>by simp only [dz,if_pos]; exact .refl _⟩
   ·rename_i e
    obtain⟨R,J,ab⟩:=uw h
    refine⟨e1.hK q Hg ++ R,?_,fun k'=> ?_⟩
    ·exact(J.append_left (e1.hK q Hg)).trans (by rw [← List.append_assoc,← List.append_assoc]; exact List.perm_append_comm.append_right R)
    ·simp only [dz,if_neg e]
     exact((ab k').append_left (e1.hK q Hg)).trans (by rw [← List.append_assoc,← List.append_assoc]; exact List.perm_append_comm.append_right R)
theorem Kq {bW:Type} [e1 bW] {hp:bb bW} {p:Nat} (h:p∈ec hp):p∈aJ (bd hp):=by
 induction hp with
 | nil=>simp [ec] at h
 | cons x r bI=>
   obtain⟨q,k⟩:=x
   simp only [ec,List.map_cons,List.mem_cons] at h
   simp only [bd,eA,List.mem_append]
   rcases h with h | h
   ·subst h
    obtain⟨e,he,av⟩:=e1.root p k
    exact .inl (jR.2 ⟨e,he,av⟩)
   ·exact .inr (bI h)
theorem kC {bW:Type} {hp:bb bW} {p:Nat} {k:bW} (h:pat hp p=some k):p∈ec hp:=by
 induction hp with
 | nil=>simp [pat] at h
 | cons x r bI=>
   simp only [pat] at h
   split at h
   ·rename_i e; simp [ec,e]
   ·simp only [ec,List.map_cons,List.mem_cons]; exact .inr (bI h)
theorem sl {bW:Type} {hp:bb bW} {p:Nat} {k:bW} :ec (dz hp p k)=ec hp:=by
 induction hp with
 | nil=>rfl
 | cons x r bI=>simp only [dz]; split <;> simp_all [ec]
theorem xv {bW:Type} {hp:bb bW} {p q:Nat} {k:bW} :pat (dz hp p k) q=if p=q then(pat hp p).map (fun _=>k) else pat hp q:=by
 induction hp with
 | nil=>simp [dz,pat]
 | cons x r bI=>
   simp only [dz]
   by_cases e:x.1=p
   ·rw [if_pos e]
    by_cases h:p=q
    ·simp [pat,e,h]
    ·have: ¬ x.1=q:=fun cJ=>h (e ▸ cJ)
     simp [pat,e,h]
   ·rw [if_neg e]
    by_cases h:p=q
    ·subst h
     rw [if_pos rfl] at bI ⊢
     simp [pat,e,bI]
    ·rw [if_neg h] at bI ⊢
     simp [pat,bI]
section
variable {c:cU} {E:List (Nat × I)} {L:List aH} {ops:Array Oper} {Q:Exit→Act→World→Prop}
variable {d:Option Tmp} {ty:TypeId} {pos:String} {af:Array Edge} {g:Option (Nat × Bool)} {x y:Operand} {t t2:TypeId}
theorem Qo {L ay:List aH} (p:L.Perm ay) {A:List Nat} (k:Nat):k∈aJ L ++ A↔k∈aJ ay ++ A:=by
 simp only [List.mem_append]; rw [(sk p).mem_iff]
theorem lY {L ay:List aH} (p:L.Perm ay) {A:List Nat} {W:World} :Ext (aJ L ++ A) W (aJ ay ++ A) W:= .drop fun k hm=>(Qo p k).2 hm
theorem ba.perm {ay:List aH} {x:Operand} {τ:I} (p:L.Perm ay) (h:ba c E L x τ):ba c E ay x τ:=fun a W s=>
 τ.mono (lY p) (h a W (s.perm p.symm))
theorem bX.perm {ay:List aH} {o:Oper} {τ:I} (p:L.Perm ay) (h:bX c E L o τ):bX c E ay o τ:=fun a W s=>by
 have:=h a W (s.perm p.symm)
 unfold fK at this ⊢
 exact Oper.wp_mono (fun hZ W' ⟨v,J,ab,aC⟩=>⟨v,J,ab,τ.mono (lY p) aC⟩) this
theorem ah.perm {l:List Oper} {ay:List aH} (p:L.Perm ay) (h:ah c ops Q l E L):ah c ops Q l E ay:=fun a W s=>h a W (s.perm p.symm)
theorem gQ {x:Operand} {r:Ref} {p:Nat} (an:ba c E L x (.of r)) (h:r=some p):ba c E L x (.eq (.pointer (some ⟨p,0,none⟩))):=fun a W s=>by
 subst h
 exact uS.1 (an a W s)
theorem qG:ba c E L (.const (.pointer none)) (.of (none:Ref)):=fun a W s=>uS.2 rfl
variable {bW:Type} [e1 bW] {hp:bb bW} {loc:List aH}
theorem h4 {p n:Nat} {k:bW} {e:aH} (au:L.drop n=bd hp) (h:pat hp p=some k) (av:e1.hK p k= [e]):e∈L:=by
 obtain⟨R,J,_⟩:=uw h
 rw [av] at J
 have:e∈L.drop n:=by rw [au]; exact J.mem_iff.2 (by simp)
 exact List.mem_of_mem_drop this
theorem nw {ay:List aH} {e:aH} (au:∀ (i:Nat) (e:aH),L[i]? =some e→ay[i]? =some e) (h:e∈L):e∈ay:=by
 obtain⟨i,al⟩:=List.mem_iff_getElem?.1 h
 exact List.mem_of_getElem? (au i e al)
theorem jt {x:Operand} {t:TypeId} {p o:Nat} {β γ:Type} [ad β] [ad γ] {b:β} (l:aL β γ) {r:γ} (dN:bt c.P t γ) (an:ba c E L x (.eq (.pointer (some ⟨p,o,none⟩))))
 (hm:(⟨some p,.var b⟩:aH)∈L) (bm:o=l.off) (aS:l.get b=r):bX c E L ⟨d,.load t x,ty,pos,af,g⟩ (.of r):=by
 obtain⟨i,al⟩:=List.mem_iff_getElem?.1 hm
 exact gx (i:=i) l dN an al bm aS
theorem ah.Q7 {x y:Operand} {t:TypeId} {rest:List Oper} {p o:Nat} {k k':bW} {β γ:Type} [ad β] [ad γ] {b b':β} {v:γ} (l:aL β γ) (dN:bt c.P t γ) (an:ba c E (loc ++ bd hp) x (.eq (.pointer (some ⟨p,o,none⟩))))
 (a9:ba c E (loc ++ bd hp) y (.of v)) (hp':pat hp p=some k) (av:e1.hK p k= [⟨some p,.var b⟩]) (ji:e1.hK p k'= [⟨some p,.var b'⟩]) (bm:o=l.off) (hb:l.set b v=b')
 (qv:ah c ops Q rest E (loc ++ bd (dz hp p k'))):ah c ops Q (⟨none,.store t x y,ty,pos,af,none⟩ :: rest) E (loc ++ bd hp):=by
 obtain⟨R,J,ab⟩:=uw hp'
 have ab:=ab k'
 rw [av] at J
 rw [ji] at ab
 have eX:∀ {z:β} {M:List aH},M.Perm ([⟨some p,.var z⟩] ++ R)→ (loc ++ M).Perm (⟨some p,.var z⟩ :: (loc ++ R)):=fun h=>(h.append_left loc).trans (by simp only [List.singleton_append]; exact List.perm_middle)
 exact ah.perm (eX J).symm (ah.store (i:=0) l dN (an.perm (eX J)) (a9.perm (eX J)) rfl bm hb (ah.perm (eX ab) qv))
theorem ah.oH {x y:Operand} {t:TypeId} {rest:List Oper} {p o:Nat} {k k':bW} {eE:bb bW} {β γ:Type} [ad β] [ad γ] {b b':β} {v:γ} (n:Nat) (au:L.drop n=bd hp) (l:aL β γ) (dN:bt c.P t γ) (an:ba c E L x (.eq (.pointer (some ⟨p,o,none⟩)))) (a9:ba c E L y (.of v)) (hp':pat hp p=some k) (av:e1.hK p k= [⟨some p,.var b⟩]) (ji:e1.hK p k'= [⟨some p,.var b'⟩]) (bm:o=l.off) (hb:l.set b v=b') (dR:dz hp p k'=eE) (qv:ah c ops Q rest E (L.take n ++ bd eE)):ah c ops Q (⟨none,.store t x y,ty,pos,af,none⟩ :: rest) E L:=by
 subst dR
 have e:L=L.take n ++ bd hp:=by rw [← au,List.take_append_drop]
 clear au
 generalize L.take n=loc at *
 subst e
 exact ah.Q7 l dN an a9 hp' av ji bm hb qv
theorem bC.fresh {a:Act} {W:World} (s:bC c E (loc ++ bd hp) a W):W.heap.size ∉ ec hp:=fun h=>by
 have:=s.lt _ (by rw [eA]; exact List.mem_append.2 (.inr (Kq h)))
 omega
theorem ah.TL {t:TypeId} {x:Operand} {rest:List Oper} {a6:Nat} {α:Type} [ad α] {z:α} (mk:bW) (av:∀ p,e1.hK p mk= [⟨some p,.var z⟩]) (an:ba c E (loc ++ bd hp) x (.of z)) (aO:Nat.blt a6 c.n=true)
 (k:∀ p,p ∉ ec hp→ah c ops Q rest ((a6,.of (some p:Ref)) :: E) (loc ++ bd ((p,mk) :: hp))):ah c ops Q (⟨some a6,.box t x,ty,pos,af,none⟩ :: rest) E (loc ++ bd hp):=fun a W s=>by
 refine hH rfl (R:=fun v W'=>v= .pointer (some ⟨W.heap.size,0,none⟩)∧W'=W.alloc (.cells (a.eval x).cells t)) (.lr ?_ ⟨rfl,rfl⟩) fun v W' ⟨aY,hw⟩=> ?_
 ·simp [execOp,Instr.box,newVar,newRow]
 ·subst aY
  subst hw
  refine k _ s.fresh _ _ (bC.put ?_ (by simpa using aO) (uS.2 rfl))
  refine(s.alloc (cp:= .var z) ⟨_,t,rfl,(an a W s).2⟩).perm ?_
  simp only [bd,av,List.singleton_append]
  exact List.perm_middle.symm
theorem ah.yl {t:TypeId} {x:Operand} {rest:List Oper} {a6:Nat} {α:Type} [ad α] {z:α} (n:Nat) (au:L.drop n=bd hp) (mk:bW) (av:∀ p,e1.hK p mk= [⟨some p,.var z⟩]) (an:ba c E L x (.of z)) (aO:Nat.blt a6 c.n=true) (k:∀ a:Nat × bb bW,a.1 ∉ hp.map (·.1)∧a.2=(a.1,mk) :: hp→ah c ops Q rest ((a6,.of (some a.1:Ref)) :: E) (L.take n ++ bd a.2)):ah c ops Q (⟨some a6,.box t x,ty,pos,af,none⟩ :: rest) E L:=by
 have e:L=L.take n ++ bd hp:=by rw [← au,List.take_append_drop]
 clear au
 generalize L.take n=loc at *
 subst e
 exact ah.TL mk av an aO fun p h=>k (p,(p,mk) :: hp) ⟨h,rfl⟩
theorem nc {A B C:List aH} :((A ++ B) ++ C).Perm ((A ++ C) ++ B):=by
 rw [List.append_assoc,List.append_assoc]; exact List.perm_append_comm.append_left A
theorem ah.q6 {rest:List Oper} {a6:Nat} {f:FuncId} {xs:List Operand} {ats:Array TypeId} {τs:List I} {Lin Lr:List aH} {δ:Type} {ρ:δ→I} {Lo:δ→List aH} {hq:δ→bb bW} (dO:bQ c.P f) (h:cz c.P f τs (Lin ++ bd hp) ρ (fun d=>Lo d ++ bd (hq d)))
 (an:hf c E ((Lin ++ Lr) ++ bd hp) xs τs) (aO:Nat.blt a6 c.n=true) (k:∀ q,ah c ops Q rest ((a6,ρ q) :: E) ((Lo q ++ Lr) ++ bd (hq q))):
 ah c ops Q (⟨some a6,.call ⟨.value (.func f),xs.toArray,ats⟩,ty,pos,af,none⟩ :: rest) E ((Lin ++ Lr) ++ bd hp):=fun a W s=>
 hH rfl (w5 (Lr:=Lr) dO h (s.perm nc) ((an.holds a W s).mono (lY nc))) fun v W' ⟨q,bV,aY⟩=>
  k q _ _ ((bV.perm nc).put (by simpa using aO) ((ρ q).mono (lY nc) aY))
theorem ah.mH {rest:List Oper} {a6:Nat} {f:FuncId} {xs:List Operand} {ats:Array TypeId} {τs:List I} {Lin Lr:List aH} {δ:Type} {ρ:δ→I} {Lo:δ→List aH} {hq:δ→bb bW} (n m:Nat) (au:L.drop n=bd hp) (dO:bQ c.P f) (h:cz c.P f τs (Lin ++ bd hp) ρ (fun d=>Lo d ++ bd (hq d)))
 (J:(L.take n).take m=Lin) (ab:(L.take n).drop m=Lr) (an:hf c E L xs τs) (aO:Nat.blt a6 c.n=true) (k:∀ q,ah c ops Q rest ((a6,ρ q) :: E) ((Lo q ++ Lr) ++ bd (hq q))):
 ah c ops Q (⟨some a6,.call ⟨.value (.func f),xs.toArray,ats⟩,ty,pos,af,none⟩ :: rest) E L:=by
 have e:L=(Lin ++ Lr) ++ bd hp:=by rw [← J,← ab,List.take_append_drop,← au,List.take_append_drop]
 clear au J ab
 subst e
 exact ah.q6 dO h an aO k
theorem iF.RT {f:FuncId} {xs:List Operand} {ats:Array TypeId} {τs:List I} {ρ:I} (dO:bQ c.P f) (h:cz c.P f τs (bd hp) (fun _:Unit=>ρ) (fun _=>bd hp))
 (an:hf c E (loc ++ bd hp) xs τs):iF c E (loc ++ bd hp) ⟨d,.call ⟨.value (.func f),xs.toArray,ats⟩,ty,pos,af,g⟩ ρ:=fun a W s=>by
 have eX:(loc ++ bd hp).Perm (bd hp ++ loc):=List.perm_append_comm
 have bm:=w5 (d:=d) (ty:=ty) (pos:=pos) (af:=af) (g:=g) (ats:=ats) (Lr:=loc) dO h (s.perm eX) ((an.holds a W s).mono (lY eX))
 unfold fK at bm ⊢
 exact Oper.wp_mono (fun hZ W' ⟨v,J,_,ab,aC⟩=>⟨v,J,ab.perm eX.symm,ρ.mono (lY eX.symm) aC⟩) bm
theorem iF.q6 {f:FuncId} {xs:List Operand} {ats:Array TypeId} {τs:List I} {ρ:I} (n:Nat) (au:L.drop n=bd hp) (dO:bQ c.P f) (h:cz c.P f τs (bd hp) (fun _:Unit=>ρ) (fun _=>bd hp)) (an:hf c E L xs τs):iF c E L ⟨d,.call ⟨.value (.func f),xs.toArray,ats⟩,ty,pos,af,g⟩ ρ:=by
 have e:L=L.take n ++ bd hp:=by rw [← au,List.take_append_drop]
 clear au
 generalize L.take n=loc at *
 subst e
 exact iF.RT dO h an
theorem HX {P:Program} {e:TypeId} (W:World) (n:Nat) {t:TypeId} (a:Option Addr) (h:P.underlying t=some (.pointer e)):(Op.equalIn (n + 1) t (.pointer a) (.pointer none)).run P W= .ok a.isNone W:=by
 cases a <;> simp [Op.equalIn,run_underlying h]
theorem qN {r:Ref} {e:TypeId} (hu:c.P.underlying t=some (.pointer e)) (an:ba c E L x (.of r)):bX c E L ⟨d,.binOp .eql t x (.const (.pointer none)) t2,ty,pos,af,g⟩ (.of r.isNone):= .pure fun a W s=>by
 have J:=uS.1 (an a W s)
 refine⟨.bool r.isNone,?_,of_bool.2 rfl⟩
 have aO:a.eval (.const (.pointer none))= .pointer none:=rfl
 simp only [execOp,eqGuard,binOp,J,aO,Op.equal,Op.maxDepth]
 have:=HX (P:=c.P) W 9999 (r.map fun p=>⟨p,0,none⟩) hu
 simp only [Option.isNone_map] at this
 simp [this]
theorem IG {r:Ref} {e:TypeId} (hu:c.P.underlying t=some (.pointer e)) (an:ba c E L x (.of r)):bX c E L ⟨d,.binOp .neq t x (.const (.pointer none)) t2,ty,pos,af,g⟩ (.of r.isSome):= .pure fun a W s=>by
 have J:=uS.1 (an a W s)
 refine⟨.bool r.isSome,?_,of_bool.2 rfl⟩
 have aO:a.eval (.const (.pointer none))= .pointer none:=rfl
 simp only [execOp,eqGuard,binOp,J,aO,Op.equal,Op.maxDepth]
 have:=HX (P:=c.P) W 9999 (r.map fun p=>⟨p,0,none⟩) hu
 simp only [Option.isNone_map] at this
 simp [this]
end
section
variable {c:cU} {E:List (Nat × I)} {L:List aH} {ops:Array Oper} {Q:Exit→Act→World→Prop}
theorem aG.cT {α β:Type} {o:Option α} {k:α→aG β} {R:β→Prop} (h:aG.bind (aG.of o) k R):∃ r,o=some r∧k r R:=h
theorem Pp {F:Fence} {n:Nat} {P:Program} {body:Code} {σ ε:Type} (b:σ→aG (σ ⊕ ε)) (e4:σ→Act→World→Prop) (X:ε→Exit→Act→World→Prop)
 (ni:∀ s R,b s R→ ∀ a W,e4 s a W→body.wpIn F n P (fun x a W=>(∃ bV,R (.inl bV)∧x= .normal∧e4 bV a W)∨ ∃ e,R (.inr e)∧x≠ .normal∧X e x a W) a W)
 (Q:Exit→Act→World→Prop) (R:ε→Prop) (mG:∀ e x a W,R e→X e x a W→Q x a W) {b2:σ} {N:Nat} (aq:n1 N b b2 R) {fu:Act} {hY:World} (bJ:e4 b2 fu hY):
 (Code.loop body).wpIn F n P Q fu hY:=by
 intro dd k cs vC hb aS
 have key:∀ N s,n1 N b s R→ ∀ a W,e4 s a W→
  ∃ x hZ W',Q x hZ W'∧ArrivesIn (Machine.fenced P F) P (lone (dd.atR a (.code body :: .inLoop body :: k)) cs W) dd k cs x hZ W':=by
  intro N
  induction N with
  | zero=>intro s h; exact h.elim
  | succ N bI=>
    intro s h a W jG
    obtain⟨x,vl,vm,hq,oX⟩:=ni s _ h a W jG dd (.inLoop body :: k) cs vC hb aS
    rcases hq with⟨bV,J,an,FU⟩ | ⟨e,J,an,G3⟩
    ·subst an
     obtain⟨Ft,Fu,Fv,EY,DV⟩:=bI bV J vl vm FU
     exact⟨Ft,Fu,Fv,EY,.of_steps (StepsIn.trans oX (.one (fenced_calm hb aS rfl) stepR_inLoop)) DV⟩
    ·exact⟨x,vl,vm,mG _ _ _ _ J G3,.pass (x:= .inLoop body) rfl (fun _ _=> .inl an) oX⟩
 obtain⟨x,hZ,W',hq,oX⟩:=key N b2 aq fu hY bJ
 exact⟨x,hZ,W',hq,.of_steps (.one (fenced_calm hb aS rfl) stepR_loop) oX⟩
def Cm {σ ε γ δ:Type} (c:cU) (E:σ→γ→List (Nat × I)) (L:σ→γ→List aH) (xs:ε→Exit) (fc:ε→δ→List (Nat × I)) (Lx:ε→δ→List aH) (R:σ ⊕ ε→Prop):Exit→Act→World→Prop:=fun x a W=>
 (∃ s,R (.inl s)∧x= .normal∧ ∃ g,bC c (E s g) (L s g) a W)∨ ∃ e,R (.inr e)∧x≠ .normal∧x=xs e∧ ∃ g,bC c (fc e g) (Lx e g) a W
theorem ag.J9 {σ ε γ δ:Type} {E':σ→γ→List (Nat × I)} {ay:σ→γ→List aH} {xs:ε→Exit} {fc:ε→δ→List (Nat × I)} {Lx:ε→δ→List aH} {R:σ ⊕ ε→Prop} {s:σ} (h9:R (.inl s)) (g:γ) (n:Nat)
 (au:L.drop n=ay s g) (h:gP E (E' s g)):ag c (Cm c E' ay xs fc Lx R) .normal E L:=fun a W st=> .inl ⟨s,h9,rfl,g,by rw [← au]; exact(st.nv n).less h.look⟩
theorem ag.Eb {σ ε γ δ:Type} {E':σ→γ→List (Nat × I)} {ay:σ→γ→List aH} {xs:ε→Exit} {fc:ε→δ→List (Nat × I)} {Lx:ε→δ→List aH} {R:σ ⊕ ε→Prop} {e:ε} {x:Exit} (h9:R (.inr e)) (g:δ) (n:Nat)
 (an:x=xs e) (aO:x≠ .normal) (au:L.drop n=Lx e g) (h:gP E (fc e g)):ag c (Cm c E' ay xs fc Lx R) x E L:=fun a W st=> .inr ⟨e,h9,aO,an,g,by rw [← au]; exact(st.nv n).less h.look⟩
theorem ai.n1 {σ ε γ δ:Type} {body:Code} {N:Nat} {b:σ→aG (σ ⊕ ε)} {b2:σ} {R:ε→Prop} (aq:Gv.n1 N b b2 R)
 (E':σ→γ→List (Nat × I)) (ay:σ→γ→List aH) (xs:ε→Exit) (fc:ε→δ→List (Nat × I)) (Lx:ε→δ→List aH) (g0:γ) (au:L=ay b2 g0) (aK:gP E (E' b2 g0))
 (pU:∀ s R,b s R→ ∀ g,ai c (Cm c E' ay xs fc Lx R) body (E' s g) (ay s g))
 (mG:∀ e,R e→ ∀ g,ag c Q (xs e) (fc e g) (Lx e g)):ai c Q (.loop body) E L:=fun a W st=>by
 subst au
 exact Pp b (fun s a W=> ∃ g,bC c (E' s g) (ay s g) a W) (fun e x a W=>x=xs e∧ ∃ g,bC c (fc e g) (Lx e g) a W)
  (fun s R hs a W ⟨g,jG⟩=>wpIn_mono (pU s R hs g a W jG) (fun x a W h=>by
   rcases h with⟨bV,J,ab,aC⟩ | ⟨e',J,ab,aC,aU⟩
   ·exact .inl ⟨bV,J,ab,aC⟩
   ·exact .inr ⟨e',J,ab,aC,aU⟩)) Q R (fun e x a W h9 ⟨an,g,hs⟩=>by subst an; exact mG e h9 g a W hs) aq ⟨g0,st.less aK.look⟩
theorem qU {α:Type} {b:Bool} {m n:aG α} {R:α→Prop} (hb:b=true) (h:cond b m n R):m R:=by subst hb; exact h
theorem qV {α:Type} {b:Bool} {m n:aG α} {R:α→Prop} (hb:b=false) (h:cond b m n R):n R:=by subst hb; exact h
theorem ai.xB {β γ ρ:Type} {lQ:ρ→Prop} {x:Operand} {b:Bool} {y z:Code} {aT a7:aG β} {k:β→aG ρ} (h:aG.bind (bif b then aT else a7) k lQ) (E':β→γ→List (Nat × I)) (ay:β→γ→List aH) (aq:ba c E L x (.of b))
 (rS:∀ m g,k m lQ→ag c Q .normal (E' m g) (ay m g))
 (b9:(∀ m g,k m lQ→ag c Q .normal (E' m g) (ay m g))→b=true→aT (fun m=>k m lQ)→ai c Q y E L) (a8:(∀ m g,k m lQ→ag c Q .normal (E' m g) (ay m g))→b=false→a7 (fun m=>k m lQ)→ai c Q z E L):ai c Q (.cond x y z) E L:=
 ai.cond aq (fun hb=>b9 rS hb (qU hb h)) (fun hb=>a8 rS hb (qV hb h))
theorem ai.J8 {σ ε γ δ ρ:Type} {body:Code} {N:Nat} {b:σ→aG (σ ⊕ ε)} {b2:σ} {k:ε→aG ρ} {lQ:ρ→Prop} (aq:aG.bind (Gv.n1 N b b2) k lQ)
 (E':σ→γ→List (Nat × I)) (ay:σ→γ→List aH) (xs:ε→Exit) (fc:ε→δ→List (Nat × I)) (Lx:ε→δ→List aH) (g0:γ) (au:L=ay b2 g0) (aK:gP E (E' b2 g0))
 (pU:∀ s R,b s R→ ∀ g,ai c (Cm c E' ay xs fc Lx R) body (E' s g) (ay s g))
 (mG:∀ e,k e lQ→ ∀ g,ag c Q (xs e) (fc e g) (Lx e g)):ai c Q (.loop body) E L:=
 ai.n1 (R:=fun e=>k e lQ) aq E' ay xs fc Lx g0 au aK pU mG
end
end Gv
namespace Gv
open Go
set_option linter.unusedVariables false
set_option linter.unusedSimpArgs false
structure fR where
 p:Option Nat
 deriving DecidableEq,Inhabited
instance WY:ad fR:= .scalar (fun x=>Value.map x.p) fun _=>rfl
instance:a5 fR:=⟨[.map none],fun _ _=>rfl⟩
theorem xw {A W v} {x:fR} :(I.of x).holds A W v↔v= .map x.p:=
 ⟨fun h=>na h.1 h.2,fun h=>by subst h; exact⟨rfl,rfl⟩⟩
theorem pv {c:cU} {E:List (Nat × I)} {L:List aH} {x:Operand} {r:fR} {p:Nat} (an:ba c E L x (.of r)) (h:r.p=some p):ba c E L x (.of (⟨some p⟩:fR)):=fun a W s=>by
 have:=xw.1 (an a W s)
 rw [h] at this
 exact xw.2 this
inductive j3 {α β:Type} [ad α] [ad β] (A:List Nat) (W:World):List MapEntry→List (α × β)→Prop
 | nil:j3 A W [] []
 | cons {e k v es r} :(I.of k).holds A W e.key→ (I.of v).holds A W e.val→j3 A W es r→j3 A W (e :: es) ((k,v) :: r)
theorem j3.mono {α β:Type} [ad α] [ad β] {A W cH W'} (h:Ext A W cH W'):∀ {es:List MapEntry} {ed:List (α × β)},j3 A W es ed→j3 cH W' es ed
 | _,_,.nil=> .nil
 | _,_,.cons J ab r=> .cons (I.mono _ h J) (I.mono _ h ab) (r.mono h)
def dn.map {α β:Type} [ad α] [ad β] (ed:List (α × β)):dn where
 holds A W o:= ∃ es clock,o= .map es clock∧j3 A W es.toList ed∧ (∀ x∈es.toList,x.born < clock)∧ (es.toList.map MapEntry.born).Nodup
 l7:=False
 mono e h:=let⟨es,clock,J,ab,aC⟩:=h; ⟨es,clock,J,ab.mono e,aC⟩
def eH {α β:Type} [DecidableEq α]:List (α × β)→α→Option β
 | [],_=>none
 | (k,v) :: r,x=>if x=k then some v else eH r x
def fS {α β:Type} [DecidableEq α]:List (α × β)→α→β→List (α × β)
 | [],x,y=> [(x,y)]
 | (k,v) :: r,x,y=>if x=k then(x,y) :: r else(k,v) :: fS r x y
def vt {α β:Type} [DecidableEq α]:List (α × β)→α→List (α × β)
 | [],_=> []
 | (k,v) :: r,x=>if x=k then r else(k,v) :: vt r x
class jK (α:Type) [ad α]:Prop where
 uniq:∀ {A W cs cH W' dk} {x:α},ad.rep A W cs x→ad.rep cH W' dk x→cs=dk
 plain:∀ {A W cs} {x:α},ad.rep A W cs x→ ∀ v∈cs,∀ n,Instr.sameBits n v v=true
instance:jK Int:=⟨fun h cJ=>h.trans cJ.symm,fun h v aY n=>by subst h; rw [List.mem_singleton.1 aY]; simp [Instr.sameBits]⟩
instance:jK (BitVec 64):=⟨fun h cJ=>h.trans cJ.symm,fun h v aY n=>by subst h; rw [List.mem_singleton.1 aY]; simp [Instr.sameBits]⟩
instance:jK Bool:=⟨fun h cJ=>h.trans cJ.symm,fun h v aY n=>by subst h; rw [List.mem_singleton.1 aY]; simp [Instr.sameBits]⟩
instance {α:Type} [ad α] [Inhabited α] [jK α] {n:Nat} :jK (Vector α n):=⟨fun {A W cs cH W' dk x} h cJ=>by
 have vR:cs.length=n * ad.size α:=ad.len h
 have M3:dk.length=n * ad.size α:=ad.len cJ
 have key:∀ m,m≤n→cs.take (m * ad.size α)=dk.take (m * ad.size α):=by
  intro m
  induction m with
  | zero=>intro _; simp
  | succ m bI=>
    intro hm
    have qm:m < n:=hm
    have az:=(aL.idx (α:=α) n m qm).hI h
    have aX:=(aL.idx (α:=α) n m qm).hI cJ
    have cP:=jK.uniq az aX
    rw [Nat.succ_mul,List.take_add,List.take_add,bI (by omega)]
    congr 1
 have:=key n (Nat.le_refl _)
 rwa [← vR,List.take_length,vR,← M3,List.take_length] at this,
 fun {A W cs x} h v aY k=>by
  have vR:cs.length=n * ad.size α:=ad.len h
  obtain⟨i,al,rfl⟩:=List.getElem_of_mem aY
  by_cases hs:ad.size α=0
  ·rw [hs,Nat.mul_zero] at vR; omega
  have hq:i / ad.size α < n:=Nat.div_lt_of_lt_mul (by rw [vR,Nat.mul_comm] at al; exact al)
  have az:=(aL.idx (α:=α) n (i / ad.size α) hq).hI h
  refine jK.plain az _ ?_ k
  have aS:i % ad.size α < ad.size α:=Nat.mod_lt _ (by omega)
  have hd:=Nat.div_add_mod i (ad.size α)
  refine List.mem_iff_getElem?.2 ⟨i % ad.size α,?_⟩
  simp only [aL.idx]
  rw [List.getElem?_take,if_pos aS,List.getElem?_drop,Nat.mul_comm,hd]
  exact List.getElem?_eq_getElem al⟩
theorem Jd {cs dk:List Value} (o s:Nat) (h:(cs.drop o).take s=(dk.drop o).take s) (k:cs.drop (o + s)=dk.drop (o + s)):cs.drop o=dk.drop o:=by
 rw [← List.take_append_drop s (cs.drop o),← List.take_append_drop s (dk.drop o),h,List.drop_drop,List.drop_drop,k]
theorem Q8 {cs dk:List Value} {n:Nat} (h:cs.length=n) (cJ:dk.length=n) (k:cs.drop 0=dk.drop 0):cs=dk:=by simpa using k
theorem Q9 {cs dk:List Value} {n m:Nat} (h:cs.length=n) (cJ:dk.length=n) (k:n≤m):cs.drop m=dk.drop m:=by
 rw [List.drop_eq_nil_of_le (by omega),List.drop_eq_nil_of_le (by omega)]
theorem Pq {α:Type} [ad α] [jK α] {A W cH W' u v} {x:α} (h:(I.of x).holds A W u) (cJ:(I.of x).holds cH W' v):u=v:=by
 obtain⟨J,ab⟩:=h
 obtain⟨aC,aU⟩:=cJ
 have aZ:=jK.uniq ab aU
 by_cases bh:ad.agg α=true
 ·simp only [shaped,bh,if_true] at J aC
  obtain⟨a,rfl⟩:=J
  obtain⟨b,rfl⟩:=aC
  simp only [Value.cells] at aZ
  congr 1
  exact Array.toList_inj.1 aZ
 ·simp only [Bool.not_eq_true] at bh
  simp only [shaped,bh,Bool.false_eq_true,if_false] at J aC
  rw [nb J,nb aC] at aZ
  simpa using aZ
theorem Je {P:Value→Value→Bool} :∀ {cs:List Value},(∀ v∈cs,P v v=true)→ ((cs.zip cs).all fun(x,y)=>P x y)=true
 | [],_=>rfl
 | a :: r,h=>by
   simp only [List.zip_cons_cons,List.all_cons,Bool.and_eq_true]
   exact⟨h a (by simp),Je fun v aY=>h v (by simp [aY])⟩
theorem Pr {α:Type} [ad α] [jK α] {A W u} {x:α} (h:(I.of x).holds A W u) (n:Nat):Instr.sameBits (n + 1) u u=true:=by
 obtain⟨J,ab⟩:=h
 by_cases bh:ad.agg α=true
 ·simp only [shaped,bh,if_true] at J
  obtain⟨a,rfl⟩:=J
  simp only [Value.cells] at ab
  simp only [Instr.sameBits,beq_self_eq_true,Bool.true_and]
  exact Je fun v aY=>jK.plain ab v aY n
 ·simp only [Bool.not_eq_true] at bh
  simp only [shaped,bh,Bool.false_eq_true,if_false] at J
  rw [nb J] at ab
  exact jK.plain ab u (by simp) _
theorem PT {α:Type} [ad α] [jK α] {P:Program} {A W cH W' u v} {x:α} (h:(I.of x).holds A W u) (cJ:(I.of x).holds cH W' v) (hY:World):(Instr.keyThatStays u v).run P hY= .ok v hY:=by
 have:=Pq h cJ
 subst this
 simp [Instr.keyThatStays,Pr h 9999]
def pe (P:Program) (t:TypeId) (α:Type) [ad α] (n:Nat):Prop:= ∀ b d A W u (x:α),n≤d→ (I.of x).holds A W u→ (Instr.checkKey b d t u).run P W= .ok () W
theorem IY {P:Program} {t:TypeId} {α:Type} [ad α] {D:TypeDesc} (h:P.underlying t=some D) (hd:(match (motive:=TypeDesc→Bool) D with | .interface _ | .array _ _ | .struct _=>false | _=>true)=true):pe P t α 1:=by
 intro b d A W u x aO an
 obtain⟨d,rfl⟩:∃ e,d=e + 1:=⟨d - 1,by omega⟩
 simp only [Instr.checkKey,Sem.run_bind,run_underlying h,Result.andThen_ok]
 cases D <;> simp at hd <;> rfl
theorem HU {P:Program} {W:World} {zS:Type} (f:zS→Sem Unit):∀ (l:List zS),(∀ i∈l,(f i).run P W= .ok () W)→
 (forIn (m:=Sem) l () (fun i _=>do f i; pure (ForInStep.yield ()))).run P W= .ok () W
 | [],_=>by simp
 | i :: r,h=>by
   have J:=h i (by simp)
   have ab:=HU (P:=P) (W:=W) f r (fun j aF=>h j (by simp [aF]))
   rw [List.forIn_cons]
   simp only [Sem.run_bind,J,Result.andThen_ok,Sem.run_pure]
   rw [ab]
theorem HN {P:Program} {W:World} {zS:Type} (f:zS→PUnit→Sem (ForInStep PUnit)):∀ (l:List zS),(∀ i∈l,(f i ()).run P W= .ok (.yield ()) W)→ (forIn (m:=Sem) l PUnit.unit f).run P W= .ok () W
 | [],_=>by simp
 | i :: r,h=>by
   have J:=h i (by simp)
   have ab:=HN (P:=P) (W:=W) f r (fun j aF=>h j (by simp [aF]))
   rw [List.forIn_cons]
   simp only [Sem.run_bind,J,Result.andThen_ok]
   exact ab
theorem Kr {P:Program} {t e n k:Nat} {α:Type} [ad α] [Inhabited α] (h:P.underlying t=some (.array n e)) (e5:bt P e α) (he:pe P e α k):pe P t (Vector α n) (k + 1):=by
 intro b d A W u x hd an
 obtain⟨d,rfl⟩:∃ e,d=e + 1:=⟨d - 1,by omega⟩
 obtain⟨J,ab⟩:=an
 obtain⟨xs,rfl⟩:∃ cs,u= .agg cs:=by simpa [shaped,ad.agg] using J
 simp only [Value.cells] at ab
 have tc:xs.toList.length=n * ad.size α:=ad.len ab
 have ye:∀ i∈List.range' 0 n,((do
  let z ← Go.sizeOf e
  let a ← part e xs (i * z)
  Instr.checkKey b d e a):Sem Unit).run P W= .ok () W:=by
  intro i al
  have iD:i < n:=by simpa using al
  have eQ:i * ad.size α + ad.size α≤n * ad.size α:=(aL.idx (α:=α) n i iD).fC
  obtain⟨a,bh,td⟩:=qR (A:=A) (P:=P) (W:=W) (cs:=xs) (off:=i * ad.size α) e5 (by simp at tc; omega) ((aL.idx (α:=α) n i iD).hI ab)
  simp only [Sem.run_bind,e5.sizeOf,bh,Result.andThen_ok]
  exact he b d A W a _ (by omega) td
 have a8:=HU (P:=P) (W:=W) _ _ ye
 simp only [Instr.checkKey,Sem.run_bind,run_underlying h,Result.andThen_ok,Std.Legacy.Range.forIn_eq_forIn_range']
 simp only [Std.Legacy.Range.size,Nat.sub_zero,Nat.add_one_sub_one,Nat.div_one] at a8 ⊢
 simp only [bind_assoc] at a8
 rw [a8]
 rfl
inductive zq (P:Program) (β:Type) [ad β] (k:Nat):List Field→Prop
 | nil:zq P β k []
 | cons {γ:Type} [ad γ] {f r} (l:aL β γ):l.off=f.offset→bt P f.type γ→pe P f.type γ k→zq P β k r→zq P β k (f :: r)
theorem PU {P:Program} {t k:Nat} {β:Type} [ad β] {fW:Array Field} (bh:ad.agg β=true) (h:P.underlying t=some (.struct fW)) (ar:zq P β k fW.toList):pe P t β (k + 1):=by
 intro b d A W u x hd an
 obtain⟨d,rfl⟩:∃ e,d=e + 1:=⟨d - 1,by omega⟩
 obtain⟨J,ab⟩:=an
 obtain⟨xs,rfl⟩:∃ cs,u= .agg cs:=by simpa [shaped,bh] using J
 simp only [Value.cells] at ab
 have tc:xs.toList.length=ad.size β:=ad.len ab
 have ye:∀ f∈fW.toList,((do
  if f.name≠ "_" then do
   let a ← part f.type xs f.offset
   Instr.checkKey b d f.type a):Sem Unit).run P W= .ok () W:=by
  have key:∀ l,zq P β k l→ ∀ f∈l,((do
   if f.name≠ "_" then do
    let a ← part f.type xs f.offset
    Instr.checkKey b d f.type a):Sem Unit).run P W= .ok () W:=by
   intro l aq
   induction aq with
   | nil=>simp
   | cons l bm e5 av r bI=>
     rename_i f qw
     intro vQ oq
     rcases List.mem_cons.1 oq with rfl | oq
     ·split
      ·obtain⟨a,bh,td⟩:=qR (A:=A) (P:=P) (W:=W) (cs:=xs) (off:=l.off) e5 (by have:=l.fC; simp at tc; omega) (l.hI ab)
       rw [← bm]
       simp only [Sem.run_bind,bh,Result.andThen_ok]
       exact av b d A W a _ (by omega) td
      ·rfl
     ·exact bI vQ oq
  exact key _ ar
 simp only [Instr.checkKey,Sem.run_bind,run_underlying h,Result.andThen_ok]
 rw [← Array.forIn_toList,HN]
 ·rfl
 ·intro f a8
  have:=ye f a8
  split
  ·rename_i aO
   rw [if_pos aO] at this
   simp only [Sem.run_bind] at this ⊢
   revert this
   generalize (part f.type xs f.offset).run P W=r
   cases r <;> simp only [Result.andThen] <;> intro h <;> first | rw [h]; rfl | cases h
  ·rfl
structure nL (P:Program) (t:TypeId) (α:Type) [ad α] [DecidableEq α]:Prop where
 check:∀ b A W u (x:α),(I.of x).holds A W u→ (Instr.checkKey b 10000 t u).run P W= .ok () W
 same:∀ A W u v (x y:α),(I.of x).holds A W u→ (I.of y).holds A W v→ (Op.equal t u v).run P W= .ok (decide (x=y)) W
 now:∃ D,P.underlying t=some D∧ ∀ A W u v (x y:α),(I.of x).holds A W u→ (I.of y).holds A W v→Instr.sameNow D u v=none∨Instr.sameNow D u v=some (decide (x=y))
def kf {α β:Type} [DecidableEq α]:List (α × β)→α→Nat→Option (Nat × β)
 | [],_,_=>none
 | (k,v) :: r,x,i=>if x=k then some (i,v) else kf r x (i + 1)
def Found {α β:Type} [ad α] [ad β] (A:List Nat) (W:World) (ed:List (α × β)):Option (Nat × Value)→Option (Nat × β)→Prop
 | none,none=>True
 | some (i,u),some (j,v)=>i=j∧ (I.of v).holds A W u
 | _,_=>False
theorem HY {α β:Type} [ad α] [ad β] [DecidableEq α] {D:TypeDesc} {A:List Nat} {W:World} {u:Value} {x:α} (hu:(I.of x).holds A W u)
 (hs:∀ v (y:α),(I.of y).holds A W v→Instr.sameNow D u v=none∨Instr.sameNow D u v=some (decide (x=y))) (zr:List (α × β)):∀ {es:List MapEntry} {ed:List (α × β)} (i:Nat),j3 A W es ed→
 Instr.findNow D u es i=none∨ ∃ r,Instr.findNow D u es i=some r∧Found A W zr r (kf ed x i)
 | [],_,i,h=>by cases h; exact .inr ⟨none,rfl,trivial⟩
 | e :: es,_,i,h=>by
   cases h with
   | cons J ab aC=>
     rename_i k v r
     rcases hs e.key k J with aU | aU
     ·exact .inl (by simp [Instr.findNow,aU])
     ·by_cases av:x=k
      ·exact .inr ⟨some (i,e.val),by simp [Instr.findNow,aU,av],by simp only [kf,if_pos av]; exact⟨rfl,ab⟩⟩
      ·rcases HY hu hs zr (i + 1) aC with aZ | ⟨qw,aZ,bn⟩
       ·exact .inl (by simp [Instr.findNow,aU,av,aZ])
       ·exact .inr ⟨qw,by simp [Instr.findNow,aU,av,aZ],by simp only [kf,if_neg av]; exact bn⟩
theorem HJ {α β:Type} [ad α] [ad β] [DecidableEq α] {P:Program} {t:TypeId} (kT:nL P t α) {A:List Nat} {W:World} {u:Value} {x:α} (hu:(I.of x).holds A W u) (zr:List (α × β)):∀ {es:List MapEntry} {ed:List (α × β)} (i:Nat),j3 A W es ed→
 ∃ r,(Instr.findAsking t u es i).run P W= .ok r W∧Found A W zr r (kf ed x i)
 | [],_,i,h=>by cases h; exact⟨none,rfl,trivial⟩
 | e :: es,_,i,h=>by
   cases h with
   | cons J ab aC=>
     rename_i k v r
     have aU:=kT.same A W u e.key x k hu J
     by_cases av:x=k
     ·exact⟨some (i,e.val),by simp [Instr.findAsking,Sem.run_bind,aU,av],by simp only [kf,if_pos av]; exact⟨rfl,ab⟩⟩
     ·obtain⟨qw,aZ,bn⟩:=HJ kT hu zr (i + 1) aC
      exact⟨qw,by simp [Instr.findAsking,Sem.run_bind,aU,av,aZ],by simp only [kf,if_neg av]; exact bn⟩
theorem HZ {α β:Type} [ad α] [ad β] [DecidableEq α] {P:Program} {t:TypeId} (kT:nL P t α) {A:List Nat} {W:World} {u:Value} {x:α} (hu:(I.of x).holds A W u) {es:List MapEntry} {ed:List (α × β)} (h:j3 A W es ed):
 ∃ r,(Instr.findKey t u es).run P W= .ok r W∧Found A W ed r (kf ed x 0):=by
 obtain⟨D,jH,hs⟩:=kT.now
 rcases HY hu (fun v y a9=>hs A W u v x y hu a9) ed 0 h with J | ⟨r,J,ab⟩
 ·obtain⟨r,aC,aU⟩:=HJ kT hu ed 0 h
  exact⟨r,by simp [Instr.findKey,Sem.run_bind,run_underlying jH,J,aC],aU⟩
 ·exact⟨r,by simp [Instr.findKey,Sem.run_bind,run_underlying jH,J],ab⟩
theorem Jf {α β:Type} [ad α] [ad β] [DecidableEq α] {A:List Nat} {W:World} {x:α} :∀ {es:List MapEntry} {ed:List (α × β)} {j i:Nat} {v:β},j3 A W es ed→kf ed x j=some (i,v)→
 ∃ m e,i=j + m∧es[m]? =some e∧ (I.of x).holds A W e.key∧ (∀ (e':MapEntry) (y:β),(I.of x).holds A W e'.key→ (I.of y).holds A W e'.val→j3 A W (es.set m e') (fS ed x y))∧j3 A W (es.eraseIdx m) (vt ed x)
 | [],_,j,i,v,h,a8=>by cases h; cases a8
 | e :: es,_,j,i,v,h,a8=>by
   cases h with
   | cons J ab aC=>
     rename_i k Cz r
     by_cases av:x=k
     ·subst av
      simp only [kf,if_pos] at a8
      simp only [Option.some.injEq,Prod.mk.injEq] at a8
      exact⟨0,e,by omega,rfl,J,fun e' y ax a1=>by simp only [fS,if_pos]; exact .cons ax a1 aC,by simp only [vt,if_pos]; exact aC⟩
     ·simp only [kf,if_neg av] at a8
      obtain⟨m,e',ax,a1,br,cr,g7⟩:=Jf aC a8
      exact⟨m + 1,e',by omega,by simpa using a1,br,fun Gu y aE da=>by simp only [fS,if_neg av]; exact .cons J ab (cr Gu y aE da),by simp only [vt,if_neg av]; exact .cons J ab g7⟩
theorem Iw {α β:Type} [ad α] [ad β] [DecidableEq α] {A:List Nat} {W:World} {x:α} :∀ {es:List MapEntry} {ed:List (α × β)} {j:Nat},j3 A W es ed→kf ed x j=none→
 (∀ (e':MapEntry) (y:β),(I.of x).holds A W e'.key→ (I.of y).holds A W e'.val→j3 A W (es ++ [e']) (fS ed x y))∧vt ed x=ed
 | [],_,j,h,_=>by cases h; exact⟨fun e' y J ab=> .cons J ab .nil,rfl⟩
 | e :: es,_,j,h,a8=>by
   cases h with
   | cons J ab aC=>
     rename_i k Cz r
     by_cases av:x=k
     ·simp [kf,av] at a8
     ·simp only [kf,if_neg av] at a8
      obtain⟨ax,a1⟩:=Iw aC a8
      exact⟨fun e' y aE da=>by simp only [fS,if_neg av]; exact .cons J ab (ax e' y aE da),by simp only [vt,if_neg av,a1]⟩
theorem j3.length {α β:Type} [ad α] [ad β] {A W} :∀ {es:List MapEntry} {ed:List (α × β)},j3 A W es ed→es.length=ed.length
 | _,_,.nil=>rfl
 | _,_,.cons _ _ r=>by simp [r.length]
theorem Ix {α β:Type} [DecidableEq α]:∀ (ed:List (α × β)) (x:α) (i:Nat),(kf ed x i).map (·.2)=eH ed x
 | [],_,_=>rfl
 | (k,v) :: r,x,i=>by simp only [kf,eH]; split <;> simp [Ix]
section
variable {c:cU} {E:List (Nat × I)} {L:List aH} {ops:Array Oper} {Q:Exit→Act→World→Prop}
variable {d:Option Tmp} {ty:TypeId} {pos:String} {af:Array Edge} {g:Option (Nat × Bool)} {x y z:Operand} {t t2:TypeId}
variable {bW:Type} [e1 bW] {hp:bb bW} {loc:List aH}
theorem ah.Ra {α β:Type} [ad α] [ad β] {rest:List Oper} {a6:Nat} (mk:bW) (av:∀ p,e1.hK p mk= [⟨some p,.map ([]:List (α × β))⟩]) (aO:Nat.blt a6 c.n=true)
 (k:∀ p,p ∉ ec hp→ah c ops Q rest ((a6,.of (⟨some p⟩:fR)) :: E) (loc ++ bd ((p,mk) :: hp))):ah c ops Q (⟨some a6,.makeMap t none,ty,pos,af,none⟩ :: rest) E (loc ++ bd hp):=fun a W s=>by
 refine hH rfl (R:=fun v W'=>v= .map (some W.heap.size)∧W'=W.alloc (.map #[] 0)) (.lr ?_ ⟨rfl,rfl⟩) fun v W' ⟨aY,hw⟩=> ?_
 ·simp only [execOp,Instr.makeMap,newObj,Sem.run_bind,Sem.run_pure]; rfl
 ·subst aY
  subst hw
  refine k _ s.fresh _ _ (bC.put ?_ (by simpa using aO) (xw.2 rfl))
  refine(s.alloc (cp:= .map ([]:List (α × β))) ⟨#[],0,rfl,.nil,by simp,by simp⟩).perm ?_
  simp only [bd,av,List.singleton_append]
  exact List.perm_middle.symm
theorem ah.D9 {α β:Type} [ad α] [ad β] {rest:List Oper} {a6:Nat} (n:Nat) (au:L.drop n=bd hp) (mk:bW) (av:∀ p,e1.hK p mk= [⟨some p,.map ([]:List (α × β))⟩]) (aO:Nat.blt a6 c.n=true) (k:∀ a:Nat × bb bW,a.1 ∉ hp.map (·.1)∧a.2=(a.1,mk) :: hp→ah c ops Q rest ((a6,.of (⟨some a.1⟩:fR)) :: E) (L.take n ++ bd a.2)):ah c ops Q (⟨some a6,.makeMap t none,ty,pos,af,none⟩ :: rest) E L:=by
 have e:L=L.take n ++ bd hp:=by rw [← au,List.take_append_drop]
 clear au
 generalize L.take n=loc at *
 subst e
 exact ah.Ra (α:=α) (β:=β) mk av aO fun p h=>k (p,(p,mk) :: hp) ⟨h,rfl⟩
theorem bC.Lj {a:Act} {W:World} (s:bC c E L a W) {p:Nat} {α β:Type} [ad α] [ad β] {ed:List (α × β)} (hm:(⟨some p,.map ed⟩:aH)∈L):
 ∃ es clock,W.heap[p]? =some (.map es clock)∧j3 (aJ L ++ c.bP) W es.toList ed∧ (∀ x∈es.toList,x.born < clock)∧ (es.toList.map MapEntry.born).Nodup:=by
 obtain⟨o,bm,es,clock,rfl,ab,aC,aU⟩:=s.own _ hm
 exact⟨es,clock,bm,ab,aC,aU⟩
theorem Iy {a:Act} {W:World} (s:bC c E L a W) {p key elem:Nat} {α β:Type} [ad α] [ad β] [DecidableEq α] [Inhabited β] {ed:List (α × β)} {i:α} (hu:c.P.underlying t=some (.map key elem)) (kT:nL c.P key α) (fN:cx c.P elem (default:β))
 (an:ba c E L x (.of (⟨some p⟩:fR))) (a9:ba c E L y (.of i)) (hm:(⟨some p,.map ed⟩:aH)∈L):
 ∃ u,(I.of ((eH ed i).getD default)).holds (aJ L ++ c.bP) W u∧ ∀ ok,(Instr.lookup t (a.eval x) (a.eval y) ok).run c.P W= .ok (if ok then .tuple #[u,.bool (eH ed i).isSome] else u) W:=by
 obtain⟨es,clock,bm,ab,aC,aU⟩:=s.Lj hm
 have zs:=xw.1 (an a W s)
 have rI:=a9 a W s
 obtain⟨r,aS,a8⟩:=HZ kT rI ab
 obtain⟨fG,dB,dJ,dR,Gd⟩:=fN.zero
 have b0:(getObj p).run c.P W= .ok (.map es clock) W:=by simp [getObj,Sem.run,bm]
 have ar:=fun b=>kT.check b _ W _ i rI
 have vI:=Ix ed i 0
 cases tm:kf ed i 0 with
 | none=>
   rw [tm] at a8 vI
   cases r with
   | some q=>exact a8.elim
   | none=>
     refine⟨dB,by rw [← vI]; exact Gd _ W,fun ok=> ?_⟩
     rw [← vI]
     simp [Instr.lookup,Sem.run_bind,run_underlying hu,zs,b0,ar,aS,zeroValue,typeInfo,dJ,dR]
 | some q=>
   rw [tm] at a8 vI
   cases r with
   | none=>exact a8.elim
   | some dX=>
     refine⟨dX.2,by rw [← vI]; exact a8.2,fun ok=> ?_⟩
     rw [← vI]
     simp [Instr.lookup,Sem.run_bind,run_underlying hu,zs,b0,ar,aS]
theorem DR {p key elem:Nat} {α β:Type} [ad α] [ad β] [DecidableEq α] [Inhabited β] {ed:List (α × β)} {i:α} {r:β} (hu:c.P.underlying t=some (.map key elem)) (kT:nL c.P key α) (fN:cx c.P elem (default:β))
 (an:ba c E L x (.of (⟨some p⟩:fR))) (a9:ba c E L y (.of i)) (hm:(⟨some p,.map ed⟩:aH)∈L) (aS:(eH ed i).getD default=r):
 bX c E L ⟨d,.lookup t x y false,ty,pos,af,g⟩ (.of r):= .pure fun a W s=>by
 subst aS
 obtain⟨u,J,ab⟩:=Iy s hu kT fN an a9 hm
 have aC:=ab false
 exact⟨u,by simp only [execOp,Sem.run_bind,aC,Result.andThen_ok]; rfl,J⟩
theorem Du {p key elem:Nat} {α β:Type} [ad α] [ad β] [DecidableEq α] [Inhabited β] {ed:List (α × β)} {i:α} {r:Option β} (hu:c.P.underlying t=some (.map key elem)) (kT:nL c.P key α) (fN:cx c.P elem (default:β))
 (an:ba c E L x (.of (⟨some p⟩:fR))) (a9:ba c E L y (.of i)) (hm:(⟨some p,.map ed⟩:aH)∈L) (aS:eH ed i=r):
 bX c E L ⟨d,.lookup t x y true,ty,pos,af,g⟩ (.cF [.of (r.getD default),.of r.isSome]):= .pure fun a W s=>by
 subst aS
 obtain⟨u,J,ab⟩:=Iy s hu kT fN an a9 hm
 have aC:=ab true
 exact⟨_,by simp only [execOp,Sem.run_bind,aC,Result.andThen_ok]; rfl,_,rfl,.cons J (.cons (of_bool.2 rfl) .nil)⟩
theorem Qp {es:List MapEntry} {m:Nat} {e e':MapEntry} (h:es[m]? =some e) (hb:e'.born=e.born):(es.set m e').map MapEntry.born=es.map MapEntry.born:=by
 apply List.ext_getElem?
 intro j
 simp only [List.getElem?_map,List.getElem?_set]
 split
 ·rename_i aF
  subst aF
  have:=(List.getElem?_eq_some_iff.1 h).1
  rw [if_pos this,h]
  simp [hb]
 ·rfl
theorem ah.RU {rest:List Oper} {op:Op} (vE:op= .mapUpdate t x y z∨op= .insert t x y z) {p key elem:Nat} {k k':bW} {α β:Type} [ad α] [ad β] [jK α] [DecidableEq α] {ed zt:List (α × β)} {i:α} {v:β} (hu:c.P.underlying t=some (.map key elem)) (kT:nL c.P key α)
 (an:ba c E (loc ++ bd hp) x (.of (⟨some p⟩:fR))) (a9:ba c E (loc ++ bd hp) y (.of i)) (dR:ba c E (loc ++ bd hp) z (.of v)) (hp':pat hp p=some k) (av:e1.hK p k= [⟨some p,.map ed⟩]) (Gw:fS ed i v=zt) (ji:e1.hK p k'= [⟨some p,.map zt⟩])
 (qv:ah c ops Q rest E (loc ++ bd (dz hp p k'))):ah c ops Q (⟨none,op,ty,pos,af,none⟩ :: rest) E (loc ++ bd hp):=fun a W s=>by
 subst Gw
 obtain⟨es,clock,bm,ab,aC,aU⟩:=s.Lj (h4 (n:=loc.length) (by simp) hp' av)
 have zs:=xw.1 (an a W s)
 have rI:=a9 a W s
 have Mu:=dR a W s
 obtain⟨r,aS,a8⟩:=HZ kT rI ab
 have b0:(getObj p).run c.P W= .ok (.map es clock) W:=by simp [getObj,Sem.run,bm]
 have ar:=kT.check false _ W _ i rI
 have cq:p < W.heap.size:=(Array.getElem?_eq_some_iff.1 bm).1
 have lA:∀ o,(setObj p o).run c.P W= .ok () (W.putObj p o):=fun o=>by simp only [setObj,Sem.run,bm]; rfl
 have key:∃ rJ uT,(Instr.mapUpdate t (a.eval x) (a.eval y) (a.eval z)).run c.P W= .ok () (W.putObj p (.map rJ uT))∧j3 (aJ (loc ++ bd hp) ++ c.bP) W rJ.toList (fS ed i v)∧ (∀ x∈rJ.toList,x.born < uT)∧ (rJ.toList.map MapEntry.born).Nodup:=by
  cases tm:kf ed i 0 with
  | none=>
    rw [tm] at a8
    cases r with
    | some q=>exact a8.elim
    | none=>
      obtain⟨ax,_⟩:=Iw ab tm
      refine⟨es.push { key:=a.eval y,val:=a.eval z,born:=clock },clock + 1,by simp [Instr.mapUpdate,Sem.run_bind,run_underlying hu,zs,b0,ar,aS,lA],by simpa using ax { key:=a.eval y,val:=a.eval z,born:=clock } v rI Mu,?_,?_⟩
      ·intro q hq
       simp only [Array.toList_push,List.mem_append,List.mem_singleton] at hq
       rcases hq with hq | rfl
       ·exact Nat.lt_succ_of_lt (aC q hq)
       ·exact Nat.lt_succ_self _
      ·simp only [Array.toList_push,List.map_append,List.map_cons,List.map_nil]
       refine List.nodup_append.2 ⟨aU,by simp,fun b hb b' rD=> ?_⟩
       simp only [List.mem_singleton] at rD
       subst rD
       obtain⟨q,hq,rfl⟩:=List.mem_map.1 hb
       exact Nat.ne_of_lt (aC q hq)
  | some q=>
    rw [tm] at a8
    cases r with
    | none=>exact a8.elim
    | some dX=>
      obtain⟨m,e,ax,a1,br,cr,_⟩:=Jf ab tm
      have ou:dX.1=m:=by have:=a8.1; omega
      have hq:es[m]? =some e:=by simpa using a1
      have j0:=PT (P:=c.P) br rI W
      let e':MapEntry:= { e with key:=a.eval y,val:=a.eval z }
      have yM:(es.modify m fun e=> { e with key:=a.eval y,val:=a.eval z }).toList=es.toList.set m e':=by
       apply List.ext_getElem?
       intro j
       rw [Array.getElem?_toList,Array.getElem?_modify,List.getElem?_set,Array.getElem?_toList]
       by_cases aF:m=j
       ·subst aF
        rw [if_pos rfl,if_pos rfl,hq,if_pos (by simpa using (Array.getElem?_eq_some_iff.1 hq).1)]
        rfl
       ·rw [if_neg aF,if_neg aF]
      refine⟨es.modify m fun e=> { e with key:=a.eval y,val:=a.eval z },clock,by simp [Instr.mapUpdate,Sem.run_bind,run_underlying hu,zs,b0,ar,aS,lA,ou,hq,j0],by rw [yM]; exact cr e' v rI Mu,?_,?_⟩
      ·rw [yM]
       intro w hw
       rcases List.mem_or_eq_of_mem_set hw with hw | rfl
       ·exact aC w hw
       ·exact aC e (List.mem_of_getElem? a1)
      ·rw [yM,Qp (e':=e') a1 rfl]; exact aU
 obtain⟨rJ,uT,jU,az,aX,cP⟩:=key
 obtain⟨R,aT,a7⟩:=uw hp'
 have a7:=a7 k'
 rw [av] at aT
 rw [ji] at a7
 have eX:∀ {z:List (α × β)} {M:List aH},M.Perm ([⟨some p,.map z⟩] ++ R)→ (loc ++ M).Perm (⟨some p,.map z⟩ :: (loc ++ R)):=fun h=>(h.append_left loc).trans (by simp only [List.singleton_append]; exact List.perm_middle)
 have bV:=(s.perm (eX aT)).p4 (i:=0) (cp':= .map (fS ed i v)) rfl (o':= .map rJ uT) ⟨rJ,uT,rfl,az.mono (lY (eX aT)),aX,cP⟩
 refine hH rfl (R:=fun v W'=>W'=W.putObj p (.map rJ uT)) (.uG ?_ rfl) fun v W' hw=> ?_
 ·rcases vE with rfl | rfl <;> simp [execOp,jU]
 ·subst hw
  exact qv _ _ (bV.perm (eX a7).symm)
theorem ah.EB {rest:List Oper} {op:Op} (n:Nat) (au:L.drop n=bd hp) (vE:op= .mapUpdate t x y z∨op= .insert t x y z) {p key elem:Nat} {k k':bW} {eE:bb bW} {α β:Type} [ad α] [ad β] [jK α] [DecidableEq α] {ed zt:List (α × β)} {i:α} {v:β} (hu:c.P.underlying t=some (.map key elem)) (kT:nL c.P key α) (an:ba c E L x (.of (⟨some p⟩:fR))) (a9:ba c E L y (.of i)) (dR:ba c E L z (.of v)) (hp':pat hp p=some k) (av:e1.hK p k= [⟨some p,.map ed⟩]) (Gw:fS ed i v=zt) (ji:e1.hK p k'= [⟨some p,.map zt⟩]) (dR:dz hp p k'=eE) (qv:ah c ops Q rest E (L.take n ++ bd eE)):ah c ops Q (⟨none,op,ty,pos,af,none⟩ :: rest) E L:=by
 subst dR
 have e:L=L.take n ++ bd hp:=by rw [← au,List.take_append_drop]
 clear au
 generalize L.take n=loc at *
 subst e
 exact ah.RU vE hu kT an a9 dR hp' av Gw ji qv
end
theorem RV {P:Program} {t:TypeId} (h:P.underlying t=some (.int .i64)):nL P t Int where
 check b A W u x an:=IY (α:=Int) h rfl b 10000 A W u x (by decide) an
 same A W u v x y an a9:=by
  have:=(JK h).run 10000 (by decide) A W u v x y an a9
  simpa [Op.equal,Op.maxDepth] using this
 now:=⟨_,h,fun A W u v x y an a9=> .inr (by
  rw [of_int.1 an,of_int.1 a9]
  simp only [Instr.sameNow,if_pos]
  rfl)⟩
theorem Ks {P:Program} {t:TypeId} {α:Type} [ad α] [DecidableEq α] {D:TypeDesc} {n m:Nat} (h:P.underlying t=some D) (jH:(match (motive:=TypeDesc→Bool) D with | .array _ _ | .struct _=>true | _=>false)=true) (WI:pe P t α n) (tw:j1 P t α m) (aO:Nat.ble n 10000=true) (hm:Nat.ble m 10000=true):nL P t α where
 check b A W u x an:=WI b 10000 A W u x (Nat.le_of_ble_eq_true aO) an
 same A W u v x y an a9:=by
  have:=tw.run 10000 (Nat.le_of_ble_eq_true hm) A W u v x y an a9
  simpa [Op.equal,Op.maxDepth] using this
 now:=⟨_,h,fun A W u v x y an a9=> .inl (by cases D <;> simp at jH <;> rfl)⟩
end Gv
namespace Gv
open Go
set_option linter.unusedVariables false
set_option linter.unusedSimpArgs false
structure kx (P:Program) (t:TypeId) (name:String) (f:FuncId):Prop where
 run:∀ v W args,(callMethod (.iface t v) name args).run P W= .ok (.enter f (#[v] ++ args)) W
theorem kx.of {P:Program} {t:TypeId} {name:String} {f:FuncId} {i:TypeInfo} {D:TypeDesc} {m:Method} (al:P.info? t=some i) (hm:i.methods.find? (fun x=>x.name ==name)=some m) (hp:m.path= #[]) (a8:m.func=some (f,false)) (jH:P.underlying t=some D)
 (aO:(match (motive:=TypeDesc→Bool) D with | .pointer _=>false | _=>true)=true) (dO:bQ P f):kx P t name f where
 run v W args:=by
  have VZ:∀ args,(callFunc f args).run P W= .ok (.enter f args) W:=fun args=>dO.run ..
  have dS:∀ n,(method (n + 1) t v name).run P W= .ok (f,v) W:=fun n=>by
   simp only [method,Sem.run_bind,typeInfo,run_program,Result.andThen_ok,al,Sem.run_pure,hm,hp,a8,follow,receiverAt,run_underlying jH]
   cases D <;> simp at aO <;> simp [Place.get]
  obtain⟨n,aO⟩:∃ n,P.types.size + Made.depth=n + 1:=⟨P.types.size + Made.depth - 1,by simp [Made.depth]⟩
  simp only [callMethod,Sem.run_bind,run_program,Result.andThen_ok,aO,dS,VZ]
theorem kx.vJ {P:Program} {t:TypeId} {name:String} {f:FuncId} {D:TypeDesc} (hm:((P.info? t).bind fun i=>(i.methods.find? (fun x=>x.name ==name)).map fun m=>(m.path.size,m.func))=some (0,some (f,false))) (jH:P.underlying t=some D)
 (aO:(match (motive:=TypeDesc→Bool) D with | .pointer _=>false | _=>true)=true) (dO:bQ P f):kx P t name f:=by
 cases al:P.info? t with
 | none=>rw [al] at hm; cases hm
 | some i=>
   rw [al] at hm
   simp only [Option.bind_some] at hm
   cases ab:i.methods.find? (fun x=>x.name ==name) with
   | none=>rw [ab] at hm; cases hm
   | some m=>
     rw [ab] at hm
     simp only [Option.map_some,Option.some.injEq,Prod.mk.injEq] at hm
     exact kx.of al ab (Array.eq_empty_of_size_eq_zero hm.1) hm.2 jH aO dO
theorem cz.map {P:Program} {f:FuncId} {τs:List I} {Lin:List aH} {δ Gx:Type} {ρ:δ→I} {Lo:δ→List aH} {Mv:Gx→I} {Mw:Gx→List aH} (F:δ→Gx) (aS:∀ d,Mv (F d)=ρ d) (aq:∀ d,Mw (F d)=Lo d) (h:cz P f τs Lin ρ Lo):cz P f τs Lin Mv Mw:=
 fun A W vs J ab aC aU aZ=>(h A W vs J ab aC aU aZ).mono fun e W' ⟨v,d,aE,da,fi,iq,dM,g8⟩=>⟨v,F d,aE,da,by rw [aq]; exact fi,by rw [aq]; exact iq,by rw [aq]; exact dM,by rw [aq,aS]; exact g8⟩
structure mE (P:Program) (name:String) (τ:I) (τs:List I) (Lin:List aH) {δ:Type} (ρ:δ→I) (Lo:δ→List aH):Prop where
 go:∀ (A:List Nat) (W:World) (u:Value) (vs:List Value),(∀ k∈A,k < W.heap.size∧k ∉ aJ Lin)→ (aJ Lin).Nodup→ (∀ k∈aJ Lin,k < W.heap.size)→ (∀ e∈Lin,e.ok (aJ Lin ++ A) W)→gl (aJ Lin ++ A) W (τ :: τs) (u :: vs)→
  ∃ f v,(∀ args,(callMethod u name args).run P W= .ok (.enter f (#[v] ++ args)) W)∧Calls P f (v :: vs).toArray W (ja (aJ Lin) A W ρ Lo)
theorem mE.of {P:Program} {name:String} {t:TypeId} {f:FuncId} {τ σ:I} {τs:List I} {Lin:List aH} {δ:Type} {ρ:δ→I} {Lo:δ→List aH} (mt:kx P t name f) (Gy:∀ A W u,τ.holds A W u→ ∃ v,u= .iface t v∧σ.holds A W v)
 (h:cz P f (σ :: τs) Lin ρ Lo):mE P name τ τs Lin ρ Lo where
 go A W u vs J ab aC aU aZ:=by
  cases aZ with
  | cons bn cE=>
    obtain⟨v,rfl,dW⟩:=Gy _ _ _ bn
    exact⟨f,v,fun args=>mt.run v W args,h A W (v :: vs) J ab aC aU (.cons dW cE)⟩
section
variable {c:cU} {E:List (Nat × I)} {L:List aH} {ops:Array Oper} {Q:Exit→Act→World→Prop}
variable {d:Option Tmp} {ty:TypeId} {pos:String} {af:Array Edge} {g:Option (Nat × Bool)} {x y z:Operand} {t t2:TypeId}
theorem Jg {a:Act} {W:World} {name:String} {xs:List Operand} {ats:Array TypeId} {τ:I} {τs:List I} {Lin Lr:List aH} {δ:Type} {ρ:δ→I} {Lo:δ→List aH} (h:mE c.P name τ τs Lin ρ Lo)
 (s:bC c E (Lin ++ Lr) a W) (an:gl (aJ (Lin ++ Lr) ++ c.bP) W (τ :: τs) ((x :: xs).map a.eval)):
 fK c.P ⟨d,.call ⟨.invoke x name,xs.toArray,ats⟩,ty,pos,af,g⟩ a W fun v W'=> ∃ a6,bC c E (Lo a6 ++ Lr) a W'∧ (ρ a6).holds (aJ (Lo a6 ++ Lr) ++ c.bP) W' v:=by
 have kI:=s.nodup
 rw [eA] at kI
 obtain⟨lJ,o6,oj⟩:=List.nodup_append.1 kI
 have lA:Ext (aJ (Lin ++ Lr) ++ c.bP) W (aJ Lin ++ (aJ Lr ++ c.bP)) W:=xu
 have fE:∀ k∈aJ Lr ++ c.bP,k < W.heap.size∧k ∉ aJ Lin:=fun k hm=>by
  rcases List.mem_append.1 hm with hm | hm
  ·exact⟨s.lt k (by rw [eA]; exact List.mem_append.2 (.inr hm)),fun h=>oj k h k hm rfl⟩
  ·obtain⟨J,ab⟩:=s.er k hm
   exact⟨J,fun h=>ab (by rw [eA]; exact List.mem_append.2 (.inl h))⟩
 have cq:∀ k∈aJ Lin,k < W.heap.size:=fun k hm=>s.lt k (by rw [eA]; exact List.mem_append.2 (.inl hm))
 obtain⟨f,v,jU,ar⟩:=h.go (aJ Lr ++ c.bP) W (a.eval x) (xs.map a.eval) fE lJ cq (fun e he=>aH.qX (s.own e (List.mem_append.2 (.inl he))) lA fun _ _=>rfl) (by simpa using an.mono lA)
 refine .sh (f:=f) (args:=(v :: xs.map a.eval).toArray) (W':=W) ?_ (ar.mono fun e W' ⟨v,a6,he,a8,J,ab,aC,aU⟩=> ?_)
 ·have:=jU (xs.map a.eval).toArray
  simp only [execOp,resolve,Sem.run_bind,Sem.run_pure,Result.andThen_ok,invoke]
  simp only [List.map_toArray] at this ⊢
  simp
  rw [List.take_of_length_le (by simp),this]
  simp
 ·refine⟨v,he,a6,s.after a8 J ab aC,(ρ a6).mono DD aU⟩
variable {bW:Type} [e1 bW] {hp:bb bW}
theorem ah.Fs {rest:List Oper} {a6:Nat} {name:String} {xs:List Operand} {ats:Array TypeId} {τ:I} {τs:List I} {Lin Lr:List aH} {δ:Type} {ρ:δ→I} {Lo:δ→List aH} {hq:δ→bb bW} (n m:Nat) (au:L.drop n=bd hp) (h:mE c.P name τ τs (Lin ++ bd hp) ρ (fun d=>Lo d ++ bd (hq d)))
 (J:(L.take n).take m=Lin) (ab:(L.take n).drop m=Lr) (an:hf c E L (x :: xs) (τ :: τs)) (aO:Nat.blt a6 c.n=true) (k:∀ q,ah c ops Q rest ((a6,ρ q) :: E) ((Lo q ++ Lr) ++ bd (hq q))):
 ah c ops Q (⟨some a6,.call ⟨.invoke x name,xs.toArray,ats⟩,ty,pos,af,none⟩ :: rest) E L:=by
 have e:L=(Lin ++ Lr) ++ bd hp:=by rw [← J,← ab,List.take_append_drop,← au,List.take_append_drop]
 clear au J ab
 subst e
 exact fun a W s=>hH rfl (Jg (Lr:=Lr) h (s.perm nc) ((an.holds a W s).mono (lY nc))) fun v W' ⟨q,bV,aY⟩=>
  k q _ _ ((bV.perm nc).put (by simpa using aO) ((ρ q).mono (lY nc) aY))
theorem iF.Fs {name:String} {xs:List Operand} {ats:Array TypeId} {τ:I} {τs:List I} {ρ:I} (n:Nat) (au:L.drop n=bd hp) (h:mE c.P name τ τs (bd hp) (fun _:Unit=>ρ) (fun _=>bd hp))
 (an:hf c E L (x :: xs) (τ :: τs)):iF c E L ⟨d,.call ⟨.invoke x name,xs.toArray,ats⟩,ty,pos,af,g⟩ ρ:=fun a W s=>by
 have e:L=L.take n ++ bd hp:=by rw [← au,List.take_append_drop]
 have eX:L.Perm (bd hp ++ L.take n):=by
  conv=>lhs; rw [e]
  exact List.perm_append_comm
 have bm:=Jg (d:=d) (ty:=ty) (pos:=pos) (af:=af) (g:=g) (ats:=ats) (Lr:=L.take n) h (s.perm eX) ((an.holds a W s).mono (lY eX))
 unfold fK at bm ⊢
 exact Oper.wp_mono (fun hZ W' ⟨v,J,_,ab,aC⟩=>⟨v,J,ab.perm eX.symm,ρ.mono (lY eX.symm) aC⟩) bm
theorem Eh {D:TypeDesc} {σ τ:I} (hu:c.P.underlying t=some D) (jH:(match (motive:=TypeDesc→Bool) D with | .interface _=>false | _=>true)=true) (an:ba c E L x σ) (Gy:∀ A W v,σ.holds A W v→τ.holds A W (.iface t v)):
 bX c E L ⟨d,.makeInterface t x,ty,pos,af,g⟩ τ:= .pure fun a W s=>
 ⟨.iface t (a.eval x),by
   simp only [execOp,Instr.makeInterface,Sem.run_bind,run_underlying hu,Result.andThen_ok]
   cases D <;> simp at jH <;> rfl,Gy _ _ _ (an a W s)⟩
end
end Gv
namespace Gv
open Go
set_option linter.unusedVariables false
set_option linter.unusedSimpArgs false
def BY (P:Program) (u:Value) {α σ ε γ:Type} (τ:α→I) (Ls:σ→γ→List aH) (Lx:ε→γ→List aH) (step:α→σ→aG (σ ⊕ ε)) (WJ:List Nat→World→Prop):Prop:=
 ∃ l,u= .func (.yield l) #[] #[]∧ ∀ x s R,step x s R→ ∀ g A W v,WJ (aJ (Ls s g) ++ A) W→vr A W (Ls s g)→ (τ x).holds (aJ (Ls s g) ++ A) W v→
   YieldAt Fence.wide 8 P l #[v] W (fun e W'=>(∃ bV,R (.inl bV)∧ja (aJ (Ls s g)) A W (fun _:γ=>I.of true) (fun g=>Ls bV g) e W')∨ ∃ q,R (.inr q)∧ja (aJ (Ls s g)) A W (fun _:γ=>I.of false) (fun g=>Lx q g) e W')
structure xx (P:Program) (f:FuncId) (τs:List I) {bW:Type} [e1 bW] {α:Type} (τ:α→I) (run:∀ {σ ε:Type},(σ→bb bW)→ (α→σ→aG (σ ⊕ ε))→σ→aG (σ ⊕ ε)):Prop where
 go:∀ {σ ε γ:Type} (Ls:σ→γ→List aH) (Lx:ε→γ→List aH) (hq:σ→bb bW) (iG:σ→γ→List aH),(∀ s g,Ls s g=iG s g ++ bd (hq s))→ ∀ (step:α→σ→aG (σ ⊕ ε)) (b2:σ) (g0:γ) (R:σ ⊕ ε→Prop),run hq step b2 R→
  ∀ (A:List Nat) (W:World) (u:Value) (vs:List Value),vr A W (Ls b2 g0)→gl (aJ (Ls b2 g0) ++ A) W τs vs→
    BY P u τ Ls Lx step (fun cH W'=>Ext (aJ (Ls b2 g0) ++ A) W cH W')→
    Calls P f (u :: vs).toArray W (ja (aJ (Ls b2 g0)) A W (δ:= {r // R r} × γ) (fun _=> .cF []) (fun d=>Lr Ls Lx d.1.1 d.2))
theorem xx.of {P:Program} {f:FuncId} {fn:Func} {code:Code} {n:Nat} {τs:List I} {bW:Type} [e1 bW] {α:Type} {τ:α→I} {run:∀ {σ ε:Type},(σ→bb bW)→ (α→σ→aG (σ ⊕ ε))→σ→aG (σ ⊕ ε)}
 (a8:P.funcs[f]? =some fn) (hb:fn.body=some code) (aO:fn.ntmps=n) (hlen:Nat.ble (τs.length + 1) n=true)
 (h:∀ {σ ε γ:Type} (Ls:σ→γ→List aH) (Lx:ε→γ→List aH) (hq:σ→bb bW) (iG:σ→γ→List aH),(∀ s g,Ls s g=iG s g ++ bd (hq s))→ ∀ (step:α→σ→aG (σ ⊕ ε)) (b2:σ) (g0:γ) (R:σ ⊕ ε→Prop),run hq step b2 R→
  ∀ W A u,BY P u τ Ls Lx step (fun cH W'=>Ext (aJ (Ls b2 g0) ++ A) W cH W')→
    ai ⟨P,n,W,aJ (Ls b2 g0),A,none,[]⟩ (bodyPost P fn (ja (aJ (Ls b2 g0)) A W (δ:= {r // R r} × γ) (fun _=> .cF []) (fun d=>Lr Ls Lx d.1.1 d.2))) code (params 0 (.eq u :: τs)) (Ls b2 g0)):xx P f τs τ run:=by
 refine⟨?_⟩
 intro σ ε γ Ls Lx hq iG lE step b2 g0 R aS A W u vs aq aY a9
 refine calls_of_wp a8 hb (wpIn_wide.1 (h Ls Lx hq iG lE step b2 g0 R aS W A u a9 _ _ ?_))
 have nH:gl (aJ (Ls b2 g0) ++ A) W (.eq u :: τs) (u :: vs):= .cons rfl aY
 have ko:=nH.length
 have hle:τs.length + 1≤n:=Nat.le_of_ble_eq_true hlen
 exact
 {defers:=rfl
  size:=by simp at ko; simp [aO,ko]; omega
  env:=fun t τ dQ=>by
   obtain⟨_,v,ab,aC⟩:=sc nH 0 t τ dQ
   refine⟨v,?_,aC⟩
   have cq:t < (u :: vs).length:=(List.getElem?_eq_some_iff.1 ab).1
   rw [Array.getElem?_append_left (by simpa using cq)]
   simpa using ab
  dd:= .refl _ _
  own:=aq.ok
  nodup:=aq.nodup
  lt:=aq.lt
  fs:=fun k av _=>av
  er:=aq.er }
section
variable {c:cU} {E:List (Nat × I)} {L:List aH} {ops:Array Oper} {Q:Exit→Act→World→Prop}
variable {d:Option Tmp} {ty:TypeId} {pos:String} {af:Array Edge} {g:Option (Nat × Bool)} {x y:Operand} {t t2:TypeId}
theorem KJ {bW:Type} [e1 bW] {σ γ:Type} {Ls iG:σ→γ→List aH} {hq:σ→bb bW} {s:σ} {g:γ} {p:Nat} {k:bW} {e:aH} (n:Nat) (au:L.drop n=Ls s g) (lE:∀ s g,Ls s g=iG s g ++ bd (hq s)) (h:pat (hq s) p=some k) (av:e1.hK p k= [e]):e∈L:=by
 obtain⟨R,J,_⟩:=uw h
 rw [av] at J
 have:e∈L.drop n:=by rw [au,lE]; exact List.mem_append.2 (.inr (J.mem_iff.2 (by simp)))
 exact List.mem_of_mem_drop this
theorem ah.Rz {rest:List Oper} {a6 jJ:Nat} {ats:Array TypeId} {u:Value} {α σ ε γ:Type} {τ:α→I} {Ls:σ→γ→List aH} {Lx:ε→γ→List aH} {step:α→σ→aG (σ ⊕ ε)} {Lin:List aH} {x:Operand} {v:α} {s:σ} {gg:γ} {R:σ ⊕ ε→Prop}
 (ar:c.rd=none) (a9:BY c.P u τ Ls Lx step (fun cH W'=>Ext (c.X ++ c.bP) c.hY cH W')) (a8:look E jJ=some (.eq u)) (an:ba c E (Lin ++ Ls s gg) x (τ v)) (aS:step v s R) (aO:Nat.blt a6 c.n=true)
 (a4:∀ bV,R (.inl bV)→ ∀ eR,ah c ops Q rest ((a6,.of true) :: E) (Lin ++ Ls bV eR)) (bZ:∀ q,R (.inr q)→ ∀ eR,ah c ops Q rest ((a6,.of false) :: E) (Lin ++ Lx q eR)):
 ah c ops Q (⟨some a6,.call ⟨.value (.tmp jJ),#[x],ats⟩,ty,pos,af,none⟩ :: rest) E (Lin ++ Ls s gg):=fun a W st=>by
 obtain⟨l,rfl,a9⟩:=a9
 obtain⟨Hd,J,ab⟩:=st.env jJ _ a8
 have hu:Hd= .func (.yield l) #[] #[]:=ab
 subst hu
 have om:bC c E (Ls s gg ++ Lin) a W:=st.perm List.perm_append_comm
 have aY:=an a W st
 have nH:(τ v).holds (aJ (Ls s gg) ++ (aJ Lin ++ c.bP)) W (a.eval x):=(τ v).mono (.drop fun k hm=>by
  rw [eA]
  simp only [List.mem_append] at hm ⊢
  rcases hm with hm | hm | hm
  ·exact .inl (.inr hm)
  ·exact .inl (.inl hm)
  ·exact .inr hm) aY
 obtain⟨fn,tmps,assign,body,jU,h9⟩:=a9 v s R aS gg (aJ Lin ++ c.bP) W (a.eval x) (om.Lh.trans xu) om.BX nH
 have E2:(execOp a.eval ⟨some a6,.call ⟨.value (.tmp jJ),#[x],ats⟩,ty,pos,af,none⟩).run c.P W= .ok (.round l fn tmps assign body) W:=by
  rw [← jU]
  simp [execOp,resolve,Deferred.ofValue,Act.eval,J,invoke,Sem.run_bind,Sem.run_pure,Result.andThen]
 refine wpListIn_plain rfl fun K rQ=> ?_
 refine⟨fun _ _=>trivial,?_⟩
 rw [Oper.semAt_eq _ _ _ (fun _ h=>by cases h),E2,Oper.uponIn_round]
 refine⟨fun h=>by simp at h,?_⟩
 have Gl:RoundIn c.F (9 - 1) c.P l fn tmps assign body W _:=h9
 refine Gl.mono fun e W' he=> ?_
 rcases he with⟨bV,hs,w,eR,rfl,oq,aC,aU,aZ,bn⟩ | ⟨q,hs,w,eR,rfl,oq,aC,aU,aZ,bn⟩
 ·obtain rfl:=of_bool.1 bn
  refine rQ _ _ (a4 bV hs eR _ _ ?_)
  exact(((om.after oq aC aU aZ).perm List.perm_append_comm).put (by simpa using aO) (of_bool.2 rfl))
 ·obtain rfl:=of_bool.1 bn
  refine rQ _ _ (bZ q hs eR _ _ ?_)
  exact(((om.after oq aC aU aZ).perm List.perm_append_comm).put (by simpa using aO) (of_bool.2 rfl))
def Mx {σ ε γ:Type} (c:cU) (eo:ε→Code) (l D:Nat) (rec:Loop) (Ls:σ→γ→List aH) (Lx:ε→γ→List aH) (R:σ ⊕ ε→Prop):Exit→Act→World→Prop:=fun x a W=>
 (∃ bV,R (.inl bV)∧x= .normal∧ ∃ g,bC c [] (⟨some l,.is (.loop rec)⟩ :: ⟨some D,.di⟩ :: Ls bV g) a W)∨
 ∃ q,R (.inr q)∧sx (eo q)=true∧x=xN (eo q)∧ ∃ g,bC c [] (⟨some l,.is (.loop rec)⟩ :: ⟨some D,.di⟩ :: Lx q g) a W
theorem ag.Ut {σ ε γ:Type} {eo:ε→Code} {l D:Nat} {rec:Loop} {Ls:σ→γ→List aH} {Lx:ε→γ→List aH} {R:σ ⊕ ε→Prop} {bV:σ} (h9:R (.inl bV)) (g:γ) (n:Nat) (au:L.drop n=⟨some l,.is (.loop rec)⟩ :: ⟨some D,.di⟩ :: Ls bV g):
 ag c (Mx c eo l D rec Ls Lx R) .normal E L:=fun a W s=> .inl ⟨bV,h9,rfl,g,by rw [← au]; exact(s.nv n).less (fun t τ h=>by simp [look] at h)⟩
theorem PB {gt p:Nat} {assign body:Code} {f:FuncId} {k4:List I} {bW:Type} [e1 bW] {α σ ε γ ρ:Type} {τ:α→I} {run:∀ {σ ε:Type},(σ→bb bW)→ (α→σ→aG (σ ⊕ ε))→σ→aG (σ ⊕ ε)}
 {Ls:σ→γ→List aH} {Lx:ε→γ→List aH} {hq:σ→bb bW} {step:α→σ→aG (σ ⊕ ε)} {b2:σ} {g0:γ} {k:σ ⊕ ε→aG ρ} {lQ:ρ→Prop} (iG:σ→γ→List aH) (eo:ε→Code)
 (ar:c.rd=none) (dO:bQ c.P f) (b0:look E gt=some (.gT f k4)) (jG:xx c.P f k4 τ run) (aS:aG.bind (run hq step b2) k lQ) (lE:∀ s g,Ls s g=iG s g ++ bd (hq s)) (au:L=Ls b2 g0) (hp:Nat.blt p c.n=true)
 (ni:∀ x s R,step x s R→ ∀ g (km:World) (kv kn:List Nat) (l D:Nat) (rec:Loop),rec.state= .ready→
  ai ⟨c.P,c.n,km,kv,kn,some l,[]⟩ (Exit.then (zP ⟨c.P,c.n,km,kv,kn,some l,[]⟩ l body (Mx ⟨c.P,c.n,km,kv,kn,some l,[]⟩ eo l D { rec with state:= .busy } Ls Lx R)) (fun _ _ _=>False)) assign ((p,τ x) :: E) (⟨some l,.is (.loop rec)⟩ :: ⟨some D,.di⟩ :: Ls s g))
 (oR:∀ bV,k (.inl bV) lQ→ ∀ g D,ag { c with ds:=D :: c.ds } Q .normal E (⟨some D,.di⟩ :: Ls bV g))
 (sJ:∀ q,k (.inr q) lQ→ ∀ g D,ai { c with ds:=D :: c.ds } Q (eo q) E (⟨some D,.di⟩ :: Lx q g)):
 ai c Q (.rangeFunc (.tmp gt) #[p] assign body) E L:=fun a W st=>by
 subst au
 refine wpIn_rangeFunc fun fn VT=> ?_
 show ∃ l mark U2 d TK vQ args U3,(Instr.enterLoop fn a.tmps #[p] assign body c.rd).run c.P W=_∧_
 rw [ar]
 obtain⟨rec,jc⟩:∃ rec:Loop,rec= { state:= .ready,pending:=none,fn,tmps:=a.tmps,params:= #[p],assign,body,defers:=W.heap.size } :=⟨_,rfl⟩
 obtain⟨v,zk,ha,tl,VU⟩:=st.env gt _ b0
 obtain⟨gY,zl⟩:∃ gY,(W.alloc (.deferred (some []))).alloc (.loop rec)=gY:=⟨_,rfl⟩
 have s1:=(st.alloc (o:= .deferred (some [])) (cp:= .di) rfl).alloc (o:= .loop rec) (cp:= .is (.loop rec)) rfl
 rw [zl,World.size_alloc] at s1
 obtain⟨D,jH⟩:∃ D,D=W.heap.size:=⟨_,rfl⟩
 obtain⟨l,aq⟩:∃ l,l=W.heap.size + 1:=⟨_,rfl⟩
 have zm:=run_enterLoop_outer (P:=c.P) (w:=W) fn a.tmps #[p] assign body
 rw [← jc,zl,← aq,← jH] at zm
 rw [← aq,← jH] at s1
 obtain⟨j2,ot⟩:∃ j2:σ→γ→List aH,j2=fun s g=>⟨some l,.is (.loop rec)⟩ :: ⟨some D,.di⟩ :: Ls s g:=⟨_,rfl⟩
 obtain⟨lf,zn⟩:∃ lf:ε→γ→List aH,lf=fun q g=>⟨some l,.is (.loop { rec with state:= .done,pending:=some (eo q) })⟩ :: ⟨some D,.di⟩ :: Lx q g:=⟨_,rfl⟩
 have s2:bC c E (j2 b2 g0) a gY:=by rw [ot]; exact s1
 have Gn:gl (aJ (j2 b2 g0) ++ c.bP) gY k4 ha:=by
  have J:(I.gT f k4).holds (aJ (j2 b2 g0) ++ c.bP) gY v:=by
   obtain⟨Cz,J,ab⟩:=s2.env gt _ b0
   rw [zk] at J
   cases J
   exact ab
  obtain⟨Gp,az,aX⟩:=J
  rw [tl] at az
  have:Gp=ha:=by injection az with _ _ az; injection az with az; exact az.symm
  rw [← this]; exact aX
 have zo:bC c E ((j2 b2 g0) ++ []) a gY:=by rw [List.append_nil]; exact s2
 have yh:=zo.BX
 simp only [aJ,List.nil_append] at yh
 have FC:BY c.P (.func (.yield l) #[] #[]) τ j2 lf step (fun cH W'=>Ext (aJ (j2 b2 g0) ++ c.bP) gY cH W'):=by
  refine⟨l,rfl,fun x s CA hs g A mx v2 gn hle aY=> ?_⟩
  have yO:=hle
  rw [ot] at yO
  obtain⟨o,fz,g3⟩:=yO.ok ⟨some l,.is (.loop rec)⟩ (by simp)
  have n8:o= .loop rec:=g3
  subst n8
  have a9:=run_yield (P:=c.P) (args:= #[v2]) fz (by rw [jc]; rfl)
  refine⟨_,_,_,_,a9,roundIn_of_wpIn trivial ?_⟩
  have az:rec.assign=assign:=by rw [jc]
  have aX:rec.body=body:=by rw [jc]
  have cP:rec.params= #[p]:=by rw [jc]
  have eZ:rec.tmps=a.tmps:=by rw [jc]
  rw [az,aX,cP,eZ]
  refine AS (n:=9) rfl ?_
  have E3:((#[p]:Array Tmp).zip #[v2]).foldl (fun tmps (t,a)=>tmps.setIfInBounds t a) a.tmps=a.tmps.setIfInBounds p v2:=by simp
  rw [E3]
  subst ot zn
  refine wpIn_mono ((ni x s CA hs g mx (aJ (⟨some l,.is (.loop rec)⟩ :: ⟨some D,.di⟩ :: Ls s g)) A l D rec (by rw [jc])) { tmps:=a.tmps.setIfInBounds p v2,defers:= [] } mx ?_) ?_
  ·have lg:p < c.n:=by simpa using hp
   exact
   {defers:=rfl
    size:=by simp [s2.size]
    env:=fun t la dQ=>by
     simp only [look] at dQ
     by_cases e:Nat.beq p t=true
     ·rw [e] at dQ
      simp only [cond_true,Option.some.injEq] at dQ
      subst dQ
      have:=eF.1 e
      subst this
      exact⟨v2,by simp [s2.size,lg],aY⟩
     ·simp only [Bool.not_eq_true] at e
      rw [e] at dQ
      simp only [cond_false] at dQ
      obtain⟨u,J,ab⟩:=s2.env t la dQ
      have dv:p≠t:=fun h=>by rw [eF.2 h] at e; cases e
      exact⟨u,by rw [Array.getElem?_setIfInBounds_ne dv]; exact J,la.mono gn ab⟩
    dd:= .refl _ _
    own:=hle.ok
    nodup:=hle.nodup
    lt:=hle.lt
    fs:=fun k av _=>av
    er:=hle.er }
  ·intro e jn WG hq
   cases e with
   | normal=>
     obtain⟨He,Gq,hb⟩:=hq
     refine⟨He,Gq,AS (n:=9) rfl (wpIn_mono hb ?_)⟩
     intro e qx zQ Ck
     have fin:∀ (jump:Option Code) {Lr:List aH},bC ⟨c.P,c.n,mx,aJ (⟨some l,.is (.loop rec)⟩ :: ⟨some D,.di⟩ :: Ls s g),A,some l,[]⟩ [] (⟨some l,.is (.loop { rec with state:= .busy })⟩ :: ⟨some D,.di⟩ :: Lr) qx zQ→
      ∃ m2,(Instr.endRound l jump).run c.P zQ= .ok (.bool jump.isNone) m2∧bC ⟨c.P,c.n,mx,aJ (⟨some l,.is (.loop rec)⟩ :: ⟨some D,.di⟩ :: Ls s g),A,some l,[]⟩ [] (⟨some l,.is (.loop { rec with state:=if jump.isNone then .ready else .done,pending:=jump })⟩ :: ⟨some D,.di⟩ :: Lr) qx m2:=fun jump Lr g6=>by
      obtain⟨o,J,ab⟩:=g6.own ⟨some l,.is (.loop { rec with state:= .busy })⟩ (by simp)
      have kq:o= .loop { rec with state:= .busy } :=ab
      subst kq
      exact⟨_,run_endRound jump J,g6.p4 (i:=0) rfl rfl⟩
     rcases Ck with⟨bV,eP,rfl,eR,g6⟩ | ⟨q,eP,aF,rfl,eR,g6⟩
     ·obtain⟨m2,bn,hM⟩:=fin none g6
      refine⟨_,m2,bn,.inl ⟨bV,eP,?_⟩⟩
      have Gr:({ rec with state:=if (none:Option Code).isNone then .ready else .done,pending:=none } :Loop)=rec:=by rw [jc]; rfl
      rw [Gr] at hM
      exact hM.ends (ρ:=fun _:γ=>I.of true) (Lo:=fun g=>⟨some l,.is (.loop rec)⟩ :: ⟨some D,.di⟩ :: Ls bV g) eR (List.Sublist.refl _) (of_bool.2 rfl)
     ·obtain⟨m2,bn,hM⟩:=fin (some (eo q)) g6
      have key:ja (aJ (⟨some l,.is (.loop rec)⟩ :: ⟨some D,.di⟩ :: Ls s g)) A mx (fun _:γ=>I.of false) (fun g=>⟨some l,.is (.loop { rec with state:= .done,pending:=some (eo q) })⟩ :: ⟨some D,.di⟩ :: Lx q g) (.returned (.bool false)) m2:=
       hM.ends (ρ:=fun _:γ=>I.of false) (Lo:=fun g=>⟨some l,.is (.loop { rec with state:= .done,pending:=some (eo q) })⟩ :: ⟨some D,.di⟩ :: Lx q g) eR (List.Sublist.refl _) (of_bool.2 rfl)
      exact HT aF bn (.inr ⟨q,eP,key⟩)
   | exit id=>exact hq.elim
   | goto t=>exact hq.elim
   | ret=>exact hq.elim
   | panic G2=>exact hq.elim
   | outgrown=>exact hq.elim
 have yi:=jG.go j2 lf hq (fun s g=>⟨some l,.is (.loop rec)⟩ :: ⟨some D,.di⟩ :: iG s g) (fun s g=>by rw [ot]; simp only [lE,List.cons_append]) step b2 g0 (fun r=>k r lQ) aS c.bP gY (.func (.yield l) #[] #[]) ha yh Gn FC
 have kN:a.eval (.tmp gt)= .func (.func f) #[] ha.toArray:=by simp [Act.eval,zk,tl]
 refine⟨l,[BP D],gY,{ target:= .fn (.func f) ha.toArray,args:= #[.func (.yield l) #[] #[]] },gY,f,#[.func (.yield l) #[] #[]] ++ ha.toArray,gY,zm,?_,fun _ _=>trivial,?_,fun h=>by simp at h,?_⟩
 ·simp only [resolve,kN]
  simp [go_sem]
 ·simp [invoke,go_sem,dO.run]
 ·refine CallsIn.DU ?_
  have E4:(#[.func (.yield l) #[] #[]] ++ ha.toArray:Array Value)=(.func (.yield l) #[] #[] :: ha).toArray:=by simp
  rw [E4]
  refine yi.mono fun e Hf ⟨WH,⟨⟨r,My⟩,eR⟩,he,a8,aC,aU,aZ,bn⟩=> ?_
  subst he
  have m3:=zo.after a8 aC (by simpa [aJ] using aU) (by simpa [aJ] using aZ)
  rw [List.append_nil] at m3
  cases r with
  | inl bV=>
    simp only [Lr] at m3
    subst ot
    obtain⟨o,fz,g3⟩:=m3.own ⟨some l,.is (.loop rec)⟩ (by simp)
    have n8:o= .loop rec:=g3
    subst n8
    have nz:=run_endLoop (P:=c.P) fz (by rw [jc]; simp)
    have lg:rec.pending=none:=by rw [jc]
    rw [lg] at nz
    refine⟨none,_,nz,?_⟩
    have qy:=(m3.p4 (i:=0) (cp':= .is (.loop { rec with state:= .exhausted })) (o':= .loop { rec with state:= .exhausted }) rfl rfl).nv 1
    rw [lg] at qy
    exact oR bV My eR D _ _ (qy.mark D)
  | inr q=>
    simp only [Lr] at m3
    subst zn
    obtain⟨o,fz,g3⟩:=m3.own ⟨some l,.is (.loop { rec with state:= .done,pending:=some (eo q) })⟩ (by simp)
    have n8:o= .loop { rec with state:= .done,pending:=some (eo q) } :=g3
    subst n8
    have nz:=run_endLoop (P:=c.P) fz (by simp)
    refine⟨some (eo q),_,nz,?_⟩
    have qy:=(m3.p4 (i:=0) (cp':= .is (.loop { rec with state:= .exhausted,pending:=some (eo q) })) (o':= .loop { rec with state:= .exhausted,pending:=some (eo q) }) rfl rfl).nv 1
    exact sJ q My eR D _ _ (qy.mark D)
end
end Gv
