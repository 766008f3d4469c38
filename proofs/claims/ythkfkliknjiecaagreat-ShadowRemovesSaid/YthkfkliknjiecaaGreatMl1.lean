/-
  The library of the decompiler, as far as it is needed here. Conditions: none.
-/
import Derived.Lib.AppendZerosOnto
import Derived.Lib.Overlaps
import Derived.MapKept
import Derived.Test.YthkfkliknjiecaaGreatMl0
namespace Gv
open Go
def kD:Value:= .slice none 0 0
def blank:List (Nat×Value)→List Value→List Value
 | [],cs=>cs
 | o::r,cs=>blank r (cs.set o.1 kD)
theorem Ay:∀ {os:List (Nat×Value)} {cs:List Value},(blank os cs).length=cs.length
 | [],_=>rfl
 | o::r,cs=>by rw [blank,Ay,List.length_set]
theorem rn:∀ {os:List (Nat×Value)} {cs:List Value} (i:Nat),(blank os cs)[i]? =if os.any (fun h=>Nat.beq h.1 i)=true then cs[i]?.map (fun _=>kD) else cs[i]?
 | [],_,i=>by simp [blank]
 | o::r,cs,i=>by
   rw [blank,rn i,List.any_cons]
   by_cases h:o.1=i
   ·subst h
    simp only [Nat.beq_refl,Bool.true_or,if_true,List.getElem?_set]
    by_cases ao:o.1<cs.length
    ·simp [ao]
    simp [ao]
   have hb:Nat.beq o.1 i=false:=by
    cases hb:Nat.beq o.1 i
    ·rfl
    exact absurd (eD.1 hb) h
   rw [hb,Bool.false_or,List.getElem?_set_ne h]
def uw (os:List (Nat×Value)) (off n:Nat):Bool:=os.all fun h=>Nat.blt h.1 off||Nat.ble (off+n) h.1
theorem M4 {os:List (Nat×Value)} {off n i:Nat} (h:uw os off n=true) (aa:off≤i) (ad:i<off+n):os.any (fun h=>Nat.beq h.1 i)=false:=by
 rw [List.any_eq_false]
 intro x aq hb
 have aF:=List.all_eq_true.1 h x aq
 have aX:=eD.1 hb
 simp only [Bool.or_eq_true,Nat.blt_eq,Nat.ble_eq] at aF
 omega
theorem VT {os:List (Nat×Value)} {off n:Nat} {cs:List Value} (h:uw os off n=true):((blank os cs).drop off).take n=(cs.drop off).take n:=by
 apply List.ext_getElem?
 intro i
 simp only [List.getElem?_take,List.getElem?_drop]
 split
 ·rw [rn,M4 h (by omega) (by omega)]; rfl
 rfl
theorem vF {cs ds:List Value} {off:Nat} (h:off+ds.length≤cs.length) (i:Nat):(gq cs off ds)[i]? =if i<off then cs[i]? else if i<off+ds.length then ds[i - off]? else cs[i]? :=by
 have aa:(cs.take off).length=off:=by rw [List.length_take]; omega
 unfold gq
 rw [List.append_assoc]
 by_cases ak:i<off
 ·rw [if_pos ak,List.getElem?_append_left (by omega),List.getElem?_take,if_pos ak]
 rw [if_neg ak,List.getElem?_append_right (by omega),aa]
 by_cases ad:i<off+ds.length
 ·rw [if_pos ad,List.getElem?_append_left (by omega)]
 rw [if_neg ad,List.getElem?_append_right (by omega),List.getElem?_drop]
 congr 1; omega
theorem UD {os:List (Nat×Value)} {off:Nat} {cs ds:List Value} (h:uw os off ds.length=true) (hs:off+ds.length≤cs.length):blank os (gq cs off ds)=gq (blank os cs) off ds:=by
 apply List.ext_getElem?
 intro i
 rw [rn,vF hs,vF (by rw [Ay]; exact hs),rn]
 by_cases aa:i<off
 ·simp only [if_pos aa]
 simp only [if_neg aa]
 by_cases ad:i<off+ds.length
 ·simp only [if_pos ad,M4 h (Nat.not_lt.1 aa) ad]; rfl
 simp only [if_neg ad]
def um (os:List (Nat×Value)) (o:Nat) (u:Value):List (Nat×Value):=
 bif os.any (fun h=>Nat.beq h.1 o) then os.map (fun h=>bif Nat.beq h.1 o then(o,u) else h) else(o,u)::os
theorem UR {os:List (Nat×Value)} {o:Nat} {u:Value} {h:Nat×Value} (hm:h∈um os o u):h=(o,u)∨ (h∈os∧h.1≠o):=by
 unfold um at hm
 cases hb:os.any (fun h=>Nat.beq h.1 o)
 ·rw [hb] at hm
  simp only [cond_false] at hm
  rcases List.mem_cons.1 hm with hm | hm
  ·exact .inl hm
  refine .inr ⟨hm,fun e=>?_⟩
  have:=List.any_eq_false.1 hb h hm
  exact this (eD.2 e)
 rw [hb] at hm
 simp only [cond_true] at hm
 obtain⟨x,aq,he⟩:=List.mem_map.1 hm
 cases aa:Nat.beq x.1 o
 ·rw [aa] at he
  simp only [cond_false] at he
  subst he
  exact .inr ⟨aq,fun e=>by rw [eD.2 e] at aa; cases aa⟩
 rw [aa] at he
 exact .inl he.symm
theorem US {os:List (Nat×Value)} {o i:Nat} {u:Value} :(um os o u).any (fun h=>Nat.beq h.1 i)=(Nat.beq o i||os.any (fun h=>Nat.beq h.1 i)):=by
 unfold um
 cases hb:os.any (fun h=>Nat.beq h.1 o)
 ·simp only [cond_false,List.any_cons]
 simp only [cond_true,List.any_map]
 rw [Bool.eq_iff_iff,Bool.or_eq_true,List.any_eq_true,List.any_eq_true]
 constructor
 ·rintro ⟨x,aq,he⟩
  simp only [Function.comp] at he
  cases aa:Nat.beq x.1 o
  ·rw [aa] at he
   exact .inr ⟨x,aq,he⟩
  rw [aa] at he
  exact .inl he
 rintro (h | ⟨x,aq,he⟩)
 ·obtain⟨x,aq,aa⟩:=List.any_eq_true.1 hb
  exact⟨x,aq,by simp only [Function.comp,aa,cond_true]; exact h⟩
 refine⟨x,aq,?_⟩
 simp only [Function.comp]
 cases aa:Nat.beq x.1 o
 ·exact he
 have ay:=eD.1 aa; have aO:=eD.1 he
 simp only [cond_true]; exact eD.2 (by omega)
def rz (os:List (Nat×Value)) (o:Nat):List (Nat×Value):=os.filter (fun h=> !Nat.beq h.1 o)
theorem UT {os:List (Nat×Value)} {o i:Nat} :(rz os o).any (fun h=>Nat.beq h.1 i)=(!(Nat.beq o i)&&os.any (fun h=>Nat.beq h.1 i)):=by
 rw [Bool.eq_iff_iff]
 simp only [List.any_eq_true,Bool.and_eq_true,Bool.not_eq_true',rz,List.mem_filter]
 constructor
 ·rintro ⟨x,⟨aa,ad⟩,aF⟩
  refine⟨?_,x,aa,aF⟩
  cases hb:Nat.beq o i
  ·rfl
  have:=eD.1 hb; have aX:=eD.1 aF
  rw [aX,← this,Nat.beq_refl] at ad; cases ad
 rintro ⟨bT,x,aa,aF⟩
 refine⟨x,⟨aa,?_⟩,aF⟩
 cases hb:Nat.beq x.1 o
 ·rfl
 have:=eD.1 hb; have aX:=eD.1 aF
 rw [← this,aX,Nat.beq_refl] at bT; cases bT
def lF {α:Type} [aj α] (A:List Nat) (W:World) (cs:List Value) (x:α) (os:List (Nat×Value)):Prop:=aj.rep A W (blank os cs) x∧ ∀ h∈os,cs[h.1]? =some h.2∧h.2.oneCell'=true
theorem lF.len {α:Type} [aj α] {A W} {cs:List Value} {x:α} {os:List (Nat×Value)} (h:lF A W cs x os):cs.length=aj.size α:=by rw [← Ay (os:=os)]; exact aj.len h.1
theorem lF.mono {α:Type} [aj α] {A W dh W'} {cs:List Value} {x:α} {os:List (Nat×Value)} (e:Ext A W dh W') (h:lF A W cs x os):lF dh W' cs x os:=⟨aj.mono e h.1,h.2⟩
theorem lF.one {α:Type} [aj α] {A W} {cs:List Value} {x:α} {os:List (Nat×Value)} (h:lF A W cs x os):∀ u∈cs,u.oneCell'=true:=by
 intro u hu
 obtain⟨i,ak⟩:=List.mem_iff_getElem?.1 hu
 by_cases hb:os.any (fun h=>Nat.beq h.1 i)=true
 ·obtain⟨o,bm,he⟩:=List.any_eq_true.1 hb
  have he:=eD.1 he
  obtain⟨aa,ad⟩:=h.2 o bm
  rw [he,ak] at aa
  cases aa; exact ad
 have aa:=rn (os:=os) (cs:=cs) i
 rw [if_neg hb,ak] at aa
 exact aj.one h.1 u (List.mem_of_getElem? aa)
def dZ.cj {α:Type} [aj α] (x:α) (os:List (Nat×Value)):dZ where
 holds A W o:= ∃ cs T,o= .cells cs T (0,0)∧lF A W cs.toList x os
 m4:=False
 mono e h:=let⟨cs,T,bm,aQ⟩:=h; ⟨cs,T,bm,aQ.mono e⟩
def I.KF {α:Type} [aj α] (x:α) (os:List (Nat×Value)):I where
 holds A W v:=shaped (aj.agg α) v∧lF A W v.cells.toList x os
 mono e h:=⟨h.1,h.2.mono e⟩
structure gY where
 v:Value
instance:aj gY where
 size:=1
 agg:=false
 rep _ _ cs x:=cs= [x.v]∧x.v.oneCell'=true
 len h:=by rw [h.1]; rfl
 one h:=by rw [h.1]; intro u hu; rw [List.mem_singleton.1 hu]; exact h.2
 flat _:=rfl
 mono _ h:=h
theorem Qx {A W v} {u:Value} :(I.of (⟨u⟩:gY)).holds A W v↔v=u∧u.oneCell'=true:=by
 constructor
 ·rintro ⟨aa,ad,aF⟩
  have aa:v.oneCell'=true:=aa
  exact⟨oO aa ad,aF⟩
 rintro ⟨rfl,h⟩
 exact⟨h,by show v.cells.toList= [v]∧_; rw [oP h]; exact⟨rfl,h⟩⟩
theorem bF.ex {P:Program} {t:TypeId} {γ:Type} [aj γ] (h:bF P t (List γ)):bF P t gY:=⟨h.size,h.RC⟩
theorem h9 {key:Option Nat} {n cap:Nat} :(aS key n cap).oneCell'=true:=by cases key <;> rfl
theorem Xl {A W} {γ:Type} [aj γ]:aj.rep A W [kD] ([]:List γ):=⟨kD,rfl,.inl ⟨rfl,rfl⟩⟩
theorem NL {α γ:Type} [aj α] [aj γ] {A W} {cs ds:List Value} {x:α} {v:γ} {os:List (Nat×Value)} (l:aN α γ) (h:lF A W cs x os) (hd:aj.rep A W ds v) (bp:uw os l.off (aj.size γ)=true):lF A W (gq cs l.off ds) (l.set x v) os:=by
 have aa:=h.len
 have eE:=l.gI
 have ao:=aj.len hd
 refine⟨?_,fun o hm=>?_⟩
 ·have bn:=l.lA h.1 hd
  rw [UD (by rw [ao]; exact bp) (by rw [ao]; omega)]
  simpa [gq,ao] using bn
 refine⟨?_,(h.2 o hm).2⟩
 rw [vF (by rw [ao]; omega)]
 have cZ:=List.all_eq_true.1 bp o hm
 simp only [Bool.or_eq_true,Nat.blt_eq,Nat.ble_eq] at cZ
 rw [ao]
 by_cases e5:o.1<l.off
 ·rw [if_pos e5]; exact(h.2 o hm).1
 rw [if_neg e5,if_neg (by omega)]; exact(h.2 o hm).1
theorem Nn {α γ:Type} [aj α] [aj γ] {A W} {cs:List Value} {x:α} {u:Value} {os:List (Nat×Value)} (l:aN α (List γ)) (h:lF A W cs x os) (hu:u.oneCell'=true):lF A W (gq cs l.off [u]) (l.set x []) (um os l.off u):=by
 have aa:=h.len
 have eE:l.off+1≤aj.size α:=l.gI
 refine⟨?_,fun o hm=>?_⟩
 ·have bn:aj.rep A W ((blank os cs).take l.off++[kD]++(blank os cs).drop (l.off+1)) (l.set x []):=l.lA h.1 (Xl (γ:=γ))
  have e:blank (um os l.off u) (gq cs l.off [u])=gq (blank os cs) l.off [kD]:=by
   apply List.ext_getElem?
   intro i
   rw [rn,vF (by simp; omega),vF (by rw [Ay]; simp; omega),rn]
   rw [US]
   by_cases ak:l.off=i
   ·subst ak
    simp
   have hb:Nat.beq l.off i=false:=by
    cases hb:Nat.beq l.off i
    ·rfl
    exact absurd (eD.1 hb) ak
   rw [hb]
   simp only [Bool.false_or,List.length_singleton]
   by_cases ad:i<l.off
   ·simp only [if_pos ad]
   have fX: ¬ i<l.off+1:=by omega
   simp only [if_neg ad,if_neg fX]
  rw [e]
  simpa [gq] using bn
 rw [vF (by simp; omega)]
 rcases UR hm with rfl | ⟨aF,dm⟩
 ·exact⟨by simp,hu⟩
  
 simp only [List.length_singleton]
 refine⟨?_,(h.2 o aF).2⟩
 by_cases e5:o.1<l.off
 ·rw [if_pos e5]; exact(h.2 o aF).1
 rw [if_neg e5,if_neg (by omega)]; exact(h.2 o aF).1
theorem No {α γ:Type} [aj α] [aj γ] {A W} {cs:List Value} {x:α} {u:Value} {xs:List γ} {os:List (Nat×Value)} (l:aN α (List γ)) (h:lF A W cs x os) (hm:(l.off,u)∈os) (hs:oG A W u xs):lF A W cs (l.set x xs) (rz os l.off):=by
 have aa:=h.len
 have eE:l.off+1≤aj.size α:=l.gI
 have acK:=(h.2 _ hm).1
 refine⟨?_,fun o bm=>h.2 o (List.mem_filter.1 bm).1⟩
 have bn:aj.rep A W ((blank os cs).take l.off++[u]++(blank os cs).drop (l.off+1)) (l.set x xs):=l.lA h.1 (ds:= [u]) (g:=xs) ⟨u,rfl,hs⟩
 have e:blank (rz os l.off) cs=gq (blank os cs) l.off [u]:=by
  apply List.ext_getElem?
  intro i
  rw [rn,vF (by rw [Ay]; simp; omega),rn,UT]
  by_cases ak:l.off=i
  ·subst ak
   simp [acK]
  have hb:Nat.beq l.off i=false:=by
   cases hb:Nat.beq l.off i
   ·rfl
   exact absurd (eD.1 hb) ak
  rw [hb]
  simp only [Bool.not_false,Bool.true_and,List.length_singleton]
  by_cases ad:i<l.off
  ·simp only [if_pos ad]
  have fX: ¬ i<l.off+1:=by omega
  simp only [if_neg ad,if_neg fX]
 rw [e]
 simpa [gq] using bn
section
variable {c:dp} {E:List (Nat×I)} {L:List aT} {ops:Array Oper} {Q:Exit→Act→World→Prop}
variable {d:Option Tmp} {ty:TypeId} {pos:String} {af:Array Edge} {g:Option (Nat×Bool)} {x y:Operand} {t t2:TypeId}
theorem bV.Bk {a:Act} {W:World} (s:bV c E L a W) {i:Nat} {key:Option Nat} {cp cp':dZ} (ar:L[i]? =some ⟨key,cp⟩) (h:∀ o,cp.holds (aV L++c.ca) W o→cp'.holds (aV L++c.ca) W o) (aR:cp.m4→cp'.m4):bV c E (L.set i ⟨key,cp'⟩) a W:=by
 have hQ:aV (L.set i ⟨key,cp'⟩)=aV L:=yq (e:=⟨key,cp⟩) (cp:=cp') ar
 exact
 {defers:=s.defers
  size:=s.size
  env:=fun t τ ao=>by rw [hQ]; exact s.env t τ ao
  dQ:=s.dQ
  own:=fun e he=>by
   rw [hQ]
   obtain⟨j,aE⟩:=List.mem_iff_getElem?.1 he
   rw [List.getElem?_set] at aE
   split at aE
   ·split at aE
    ·simp only [Option.some.injEq] at aE
     subst aE
     have bm:=s.own _ (List.mem_of_getElem? ar)
     cases key with
     | none=>exact aR bm
     | some p=>obtain⟨o,aa,ad⟩:=bm; exact⟨o,aa,h _ ad⟩
    cases aE
   exact s.own e (List.mem_of_getElem? aE)
  nodup:=by rw [hQ]; exact s.nodup
  lt:=by rw [hQ]; exact s.lt
  gl:=by rw [hQ]; exact s.gl
  fg:=by rw [hQ]; exact s.fg }
theorem ai.o0 {l:List Oper} {p:Nat} {β:Type} [aj β] {b:β} (i:Nat) (ar:L[i]? =some ⟨some p,.cj b []⟩) (k:ai c ops Q l E (L.set i ⟨some p,.var b⟩)):ai c ops Q l E L:=fun a W s=>
 k a W (s.Bk ar (fun o ⟨cs,T,aa,ad⟩=>⟨cs,T,aa,ad.1⟩) id)
theorem ae.o0 {z:Exit} {p:Nat} {β:Type} [aj β] {b:β} (i:Nat) (ar:L[i]? =some ⟨some p,.cj b []⟩) (k:ae c Q z E (L.set i ⟨some p,.var b⟩)):ae c Q z E L:=fun a W s=>
 k a W (s.Bk ar (fun o ⟨cs,T,aa,ad⟩=>⟨cs,T,aa,ad.1⟩) id)
def IT:Option Value→Bool
 | some (.slice none 0 0)=>true
 | _=>false
theorem M5 {v:Option Value} (h:IT v=true):v=some kD:=by
 unfold IT at h
 split at h
 ·rfl
 cases h
def je (P:Program) (t:TypeId) (hs:List Nat):Prop:=((P.info? t).bind (·.zero)).any (fun v=>hs.all fun o=>IT v.cells.toList[o]?)=true
theorem HF:∀ {os:List (Nat×Value)} {cs:List Value},(∀ h∈os,cs[h.1]? =some kD)→blank os cs=cs
 | [],_,_=>rfl
 | o::r,cs,h=>by
   have aa:=h o (by simp)
   have e:cs.set o.1 kD=cs:=by
    apply List.ext_getElem?
    intro i
    rw [List.getElem?_set]
    split
    ·rename_i he; subst he
     have:=(List.getElem?_eq_some_iff.1 aa).1
     rw [if_pos this,aa]
    rfl
   rw [blank,e]
   exact HF fun x aq=>h x (by simp [aq])
theorem ai.n9 {rest:List Oper} {bf:Nat} {α:Type} [aj α] {z:α} (hs:List Nat) (tG:je c.P t hs) (g9:cP c.P t z) (aR:Nat.blt bf c.n=true)
 (k:∀ p,ai c ops Q rest ((bf,.eq (.pointer (some ⟨p,0,none⟩)))::E) (⟨some p,.cj z (hs.map fun o=>(o,kD))⟩::L)):ai c ops Q (⟨some bf,.alloc t,ty,pos,af,none⟩::rest) E L:=fun a W s=>by
 obtain⟨i,eF,aa,ad,aF⟩:=g9.zero
 have cE:∀ o∈hs,eF.cells.toList[o]? =some kD:=fun o bm=>by
  unfold je at tG
  rw [aa] at tG
  simp only [Option.bind_some,ad,Option.any_some] at tG
  exact M5 (List.all_eq_true.1 tG o bm)
 have RI:∀ h∈hs.map (fun o=>(o,kD)),eF.cells.toList[h.1]? =some h.2:=fun h hm=>by
  obtain⟨o,bm,rfl⟩:=List.mem_map.1 hm
  exact cE o bm
 refine iD rfl (R:=fun v W'=>v= .pointer (some ⟨W.heap.size,0,none⟩)∧W'=W.alloc (.cells eF.cells t)) (.l1 ?_ ⟨rfl,rfl⟩) fun v W' ⟨a2,hw⟩=>?_
 ·simp [execOp,Instr.alloc,zeroValue,typeInfo,aa,ad,newVar,newRow]
 subst a2
 subst hw
 refine k _ _ _ ((s.alloc (cp:= .cj z (hs.map fun o=>(o,kD))) ⟨eF.cells,t,rfl,?_,fun h hm=>⟨RI h hm,by obtain⟨o,_,rfl⟩:=List.mem_map.1 hm; rfl⟩⟩).put (by simpa using aR) rfl)
 rw [HF fun h hm=>by rw [RI h hm]; obtain⟨o,_,rfl⟩:=List.mem_map.1 hm; rfl]
 exact(aF _ _).2
theorem ai.aaR {rest:List Oper} {bf:Nat} {α:Type} [aj α] {z:α} {os:List (Nat×Value)} (aq:bd c E L x (.KF z os)) (aR:Nat.blt bf c.n=true)
 (k:∀ p,ai c ops Q rest ((bf,.eq (.pointer (some ⟨p,0,none⟩)))::E) (⟨some p,.cj z os⟩::L)):ai c ops Q (⟨some bf,.box t x,ty,pos,af,none⟩::rest) E L:=fun a W s=>by
 refine iD rfl (R:=fun v W'=>v= .pointer (some ⟨W.heap.size,0,none⟩)∧W'=W.alloc (.cells (a.eval x).cells t)) (.l1 ?_ ⟨rfl,rfl⟩) fun v W' ⟨a2,hw⟩=>?_
 ·simp [execOp,Instr.box,newVar,newRow]
 subst a2
 subst hw
 obtain⟨aa,ad⟩:=aq a W s
 exact k _ _ _ ((s.alloc (cp:= .cj z os) ⟨_,t,rfl,ad⟩).put (by simpa using aR) rfl)
theorem EN {t:TypeId} {i p o:Nat} {β γ:Type} [aj β] [aj γ] {b:β} {os:List (Nat×Value)} (l:aN β γ) {r:γ} (eQ:bF c.P t γ) (aq:bd c E L x (.eq (.pointer (some ⟨p,o,none⟩))))
 (ar:L[i]? =some ⟨some p,.cj b os⟩) (bm:o=l.off) (aQ:l.get b=r) (bp:uw os l.off (aj.size γ)=true):cf c E L ⟨d,.load t x,ty,pos,af,g⟩ (.of r):= .pure fun a W s=>by
 subst bm
 subst aQ
 obtain⟨kt,e3,cs,T,rfl,gm⟩:=s.own _ (List.mem_of_getElem? ar)
 have aa:cs.toList.length=aj.size β:=gm.len
 have a0:=l.iO gm.1
 rw [VT bp] at a0
 obtain⟨v,ad,aF⟩:=vw (A:=aV L++c.ca) eQ e3 (by have:=l.gI; simp at aa; omega) a0
 refine⟨v,?_,aF⟩
 have aX:a.eval x=_:=aq a W s
 simp [execOp,Instr.loadAt,Instr.sureAddr,aX,ad]
theorem Xm {cs:List Value} {o:Nat} {u:Value} (h:cs[o]? =some u):(cs.drop o).take 1= [u]:=by
 apply List.ext_getElem?
 intro i
 rw [List.getElem?_take,List.getElem?_drop]
 cases i with
 | zero=>simpa using h
 | succ i=>simp
theorem ho {t:TypeId} {i p o q:Nat} {β γ:Type} [aj β] [aj γ] {b:β} {os:List (Nat×Value)} {u:Value} (eQ:bF c.P t (List γ)) (aq:bd c E L x (.eq (.pointer (some ⟨p,o,none⟩))))
 (ar:L[i]? =some ⟨some p,.cj b os⟩) (hq:os[q]? =some (o,u)):cf c E L ⟨d,.load t x,ty,pos,af,g⟩ (.eq u):= .pure fun a W s=>by
 obtain⟨kt,e3,cs,T,rfl,gm,cE⟩:=s.own _ (List.mem_of_getElem? ar)
 obtain⟨a0,hu⟩:=cE _ (List.mem_of_getElem? hq)
 have cD:o<cs.size:=by have:=(List.getElem?_eq_some_iff.1 a0).1; simpa using this
 obtain⟨v,ad,aF⟩:=vw (α:=gY) (x:=⟨u⟩) (A:=aV L++c.ca) eQ.ex e3 (show o+1≤cs.size by omega) ⟨Xm a0,hu⟩
 refine⟨v,?_,(Qx.1 aF).1⟩
 have aX:a.eval x=_:=aq a W s
 simp [execOp,Instr.loadAt,Instr.sureAddr,aX,ad]
theorem ai.uu {t:TypeId} {rest:List Oper} {i p o:Nat} {β γ:Type} [aj β] [aj γ] {b b':β} {v:γ} {os:List (Nat×Value)} (l:aN β γ) (eQ:bF c.P t γ) (aq:bd c E L x (.eq (.pointer (some ⟨p,o,none⟩))))
 (a6:bd c E L y (.of v)) (ar:L[i]? =some ⟨some p,.cj b os⟩) (bm:o=l.off) (hb:l.set b v=b') (bp:uw os l.off (aj.size γ)=true)
 (k:ai c ops Q rest E (L.set i ⟨some p,.cj b' os⟩)):ai c ops Q (⟨none,.store t x y,ty,pos,af,none⟩::rest) E L:=fun a W s=>by
 subst bm
 subst hb
 obtain⟨kt,e3,cs,T,rfl,gm⟩:=s.own _ (List.mem_of_getElem? ar)
 have aa:cs.toList.length=aj.size β:=gm.len
 have eE:=l.gI
 have a2:=a6 a W s
 have ad:=Ag (A:=aV L++c.ca) eQ e3 (off:=l.off) (by simp at aa; omega) a2
 have aX:a.eval x=_:=aq a W s
 refine iD rfl (R:=fun v W'=>W'=W.setRow p (gq cs.toList l.off (a.eval y).cells.toList).toArray) (.yi ?_ rfl) fun v W' hw=>?_
 ·simp [execOp,Instr.storeAt,Instr.sureAddr,aX,ad]
 subst hw
 exact k _ _ (s.store ar e3 ⟨_,T,rfl,by rw [List.toList_toArray]; exact NL l gm a2.2 bp⟩)
theorem ai.iP {t:TypeId} {rest:List Oper} {i p o:Nat} {β γ:Type} [aj β] [aj γ] {b b':β} {u:Value} {os os':List (Nat×Value)} (l:aN β (List γ)) (eQ:bF c.P t (List γ)) (aq:bd c E L x (.eq (.pointer (some ⟨p,o,none⟩))))
 (a6:bd c E L y (.eq u)) (hu:u.oneCell'=true) (ar:L[i]? =some ⟨some p,.cj b os⟩) (bm:o=l.off) (hb:l.set b []=b') (pg:um os o u=os')
 (k:ai c ops Q rest E (L.set i ⟨some p,.cj b' os'⟩)):ai c ops Q (⟨none,.store t x y,ty,pos,af,none⟩::rest) E L:=fun a W s=>by
 subst bm
 subst hb
 subst pg
 obtain⟨kt,e3,cs,T,rfl,gm⟩:=s.own _ (List.mem_of_getElem? ar)
 have aa:cs.toList.length=aj.size β:=gm.len
 have eE:l.off+1≤aj.size β:=l.gI
 have RJ:a.eval y=u:=a6 a W s
 have a2:(I.of (⟨u⟩:gY)).holds (aV L++c.ca) W (a.eval y):=Qx.2 ⟨RJ,hu⟩
 have ad:=Ag (A:=aV L++c.ca) eQ.ex e3 (off:=l.off) (show l.off+1≤cs.size by simp at aa; omega) a2
 have aX:a.eval x=_:=aq a W s
 have lp:(a.eval y).cells.toList= [u]:=by rw [RJ,oP hu]
 rw [lp] at ad
 refine iD rfl (R:=fun v W'=>W'=W.setRow p (gq cs.toList l.off [u]).toArray) (.yi ?_ rfl) fun v W' hw=>?_
 ·simp [execOp,Instr.storeAt,Instr.sureAddr,aX,ad]
 subst hw
 exact k _ _ (s.store ar e3 ⟨_,T,rfl,by rw [List.toList_toArray]; exact Nn l gm hu⟩)
theorem TS {P:Program} {W:World} {b off:Nat} {cur:Array Value} {T t:TypeId} {α:Type} [aj α] {v:Value} (ty:bF P t α)
 (hb:W.heap[b]? =some (.cells cur T (0,0))) (hs:off+aj.size α≤cur.size) (ao:v.cells.toList.length=aj.size α) (aa:∀ u∈v.cells.toList,u.oneCell'=true):
 (storeVar t ⟨b,off,none⟩ v).run P W= .ok () (W.setRow b (gq cur.toList off v.cells.toList).toArray):=by
 have ad:=run_storeCells_at P b off T v.cells.toList 0 cur W hb (by rw [ao]; omega) aa
 have eX:v.cells.size=aj.size α:=by simpa using ao
 simp only [Nat.add_zero] at ad
 simp only [storeVar,Sem.run_bind,ty.sizeOf,Result.andThen_ok,eX]
 simp only [ne_eq,not_true_eq_false,↓reduceIte,Sem.run_pure,Sem.run_bind,Result.andThen_ok]
 simpa [gq] using ad
theorem ai.sI {t:TypeId} {rest:List Oper} {i p:Nat} {β:Type} [aj β] {b b':β} {os os':List (Nat×Value)} (eQ:bF c.P t β) (aq:bd c E L x (.eq (.pointer (some ⟨p,0,none⟩))))
 (a6:bd c E L y (.KF b' os')) (ar:L[i]? =some ⟨some p,.cj b os⟩)
 (k:ai c ops Q rest E (L.set i ⟨some p,.cj b' os'⟩)):ai c ops Q (⟨none,.store t x y,ty,pos,af,none⟩::rest) E L:=fun a W s=>by
 obtain⟨kt,e3,cs,T,rfl,gm⟩:=s.own _ (List.mem_of_getElem? ar)
 have aa:cs.toList.length=aj.size β:=gm.len
 obtain⟨av,aW⟩:=a6 a W s
 have ao:=aW.len
 have ad:=TS eQ e3 (off:=0) (by simp at aa; omega) ao aW.one
 have aX:a.eval x=_:=aq a W s
 have e:gq cs.toList 0 (a.eval y).cells.toList=(a.eval y).cells.toList:=by
  unfold gq
  rw [List.take_zero,List.nil_append,Nat.zero_add,ao,← aa,List.drop_length,List.append_nil]
 rw [e] at ad
 refine iD rfl (R:=fun v W'=>W'=W.setRow p (a.eval y).cells.toList.toArray) (.yi ?_ rfl) fun v W' hw=>?_
 ·simp [execOp,Instr.storeAt,Instr.sureAddr,aX,ad]
 subst hw
 exact k _ _ (s.store ar e3 ⟨_,T,rfl,by rw [List.toList_toArray]; exact aW⟩)
theorem dV {p:Addr} (aq:bd c E L x (.eq (.pointer (some p)))):cf c E L ⟨d,.nilCheck x,ty,pos,af,g⟩ (.eq (.pointer (some p))):= .pure fun a W s=>by
 have aX:a.eval x=_:=aq a W s
 exact⟨_,by simp [execOp,aX],rfl⟩
theorem Bd {γ:Type} [aj γ] {r:γ} (aq:bd c E L x (.ptr r)):cf c E L ⟨d,.nilCheck x,ty,pos,af,g⟩ (.ptr r):= .pure fun a W s=>by
 have hp:=aq a W s
 obtain⟨b,off,cur,T,hA,aX,a0⟩:=hp
 exact⟨_,by simp [execOp,aX],b,off,cur,T,hA,rfl,a0⟩
theorem bV.lf {a:Act} {W:World} (s:bV c E L a W) {i j p cap T:Nat} {key:Option Nat} {β γ:Type} [aj β] [aj γ] {b b':β} {xs:List γ} {os os':List (Nat×Value)} (l:aN β (List γ)) (hR:i≠j) (ar:L[i]? =some ⟨some p,.cj b os⟩) (p4:L[j]? =some ⟨key,.row T xs cap⟩)
 (q:Nat) (hq:os[q]? =some (l.off,aS key xs.length cap)) (hb:l.set b xs=b') (pg:rz os l.off=os'):bV c E ((L.set j ⟨none,.dead⟩).set i ⟨some p,.cj b' os'⟩) a W:=by
 subst hb
 subst pg
 have aw:=s.kill j
 have ak:(L.set j ⟨none,.dead⟩)[i]? =some ⟨some p,.cj b os⟩:=by rw [List.getElem?_set_ne (fun e=>hR e.symm)]; exact ar
 have lh:=xS (L:=L) (i:=j) (cp:= .dead)
 have pb:oG (aV (L.set j ⟨none,.dead⟩)++c.ca) W (aS key xs.length cap) xs:=by
  have bm:=s.own _ (List.mem_of_getElem? p4)
  cases key with
  | none=>exact .inl ⟨rfl,bm.1⟩
  | some p=>
    obtain⟨o,e3,cs,rfl,eX,aR,o4,aQ⟩:=bm
    obtain⟨aF,aX⟩:=HB eX aR aQ
    refine .inr ⟨p,0,cap,cs,T,(0,0),rfl,s.AX p4,e3,aR,by omega,aF,?_⟩
    exact aX.mono (.drop fun k hm=>by
     rcases List.mem_append.1 hm with hm | hm
     ·exact List.mem_append.2 (.inl (lh.subset hm))
     exact List.mem_append.2 (.inr hm))
 exact aw.Bk ak (fun o ⟨cs,T,aa,ad⟩=>⟨cs,T,aa,No l ad (List.mem_of_getElem? hq) pb⟩) id
theorem ai.lf {q7:List Oper} {p cap T:Nat} {key:Option Nat} {β γ:Type} [aj β] [aj γ] {b b':β} {xs:List γ} {os os':List (Nat×Value)} (l:aN β (List γ)) (i j q:Nat) (hR:Nat.beq i j=false) (ar:L[i]? =some ⟨some p,.cj b os⟩) (p4:L[j]? =some ⟨key,.row T xs cap⟩)
 (hq:os[q]? =some (l.off,aS key xs.length cap)) (hb:l.set b xs=b') (pg:rz os l.off=os') (k:ai c ops Q q7 E ((L.set j ⟨none,.dead⟩).set i ⟨some p,.cj b' os'⟩)):ai c ops Q q7 E L:=
 fun a W s=>k a W (s.lf l (fun e=>by rw [e,Nat.beq_refl] at hR; cases hR) ar p4 q hq hb pg)
theorem bV.BH {a:Act} {W:World} (s:bV c E L a W) {i j p cap T gK:Nat} {key:Option Nat} {β γ:Type} [aj β] [aj γ] {b b':β} {xs:List γ} {os os':List (Nat×Value)} (l:aN β (List γ)) (hR:i≠j) (ar:L[i]? =some ⟨some p,.cj b os⟩) (p4:L[j]? =some ⟨key,.row T xs cap⟩)
 (q:Nat) (hq:os[q]? =some (l.off,aS key xs.length cap)) (hb:l.set b xs=b') (pg:rz os l.off=os') (pb:look E gK=some (.eq (aS key xs.length cap))):bV c ((gK,.of xs)::E) ((L.set j ⟨none,.dead⟩).set i ⟨some p,.cj b' os'⟩) a W:=by
 have aa:=s.freeze pb p4
 subst hb
 subst pg
 have ak:(L.set j ⟨none,.dead⟩)[i]? =some ⟨some p,.cj b os⟩:=by rw [List.getElem?_set_ne (fun e=>hR e.symm)]; exact ar
 obtain⟨v,ad,aF⟩:=aa.env gK (.of xs) (by simp [look,Nat.beq_refl])
 obtain⟨xk,aX,a0⟩:=s.env gK _ pb
 rw [ad] at aX
 cases aX
 have a0:v=_:=a0
 subst a0
 exact aa.Bk ak (fun o ⟨cs,T,av,aW⟩=>⟨cs,T,av,No l aW (List.mem_of_getElem? hq) (nu.1 aF)⟩) id
theorem ae.BH {z:Exit} {p cap T:Nat} {key:Option Nat} {β γ:Type} [aj β] [aj γ] {b b':β} {xs:List γ} {os os':List (Nat×Value)} (l:aN β (List γ)) (i j q gK:Nat) (hR:Nat.beq i j=false) (ar:L[i]? =some ⟨some p,.cj b os⟩) (p4:L[j]? =some ⟨key,.row T xs cap⟩)
 (hq:os[q]? =some (l.off,aS key xs.length cap)) (hb:l.set b xs=b') (pg:rz os l.off=os') (pb:look E gK=some (.eq (aS key xs.length cap))) (k:ae c Q z ((gK,.of xs)::E) ((L.set j ⟨none,.dead⟩).set i ⟨some p,.cj b' os'⟩)):ae c Q z E L:=
 fun a W s=>k a W (s.BH l (fun e=>by rw [e,Nat.beq_refl] at hR; cases hR) ar p4 q hq hb pg pb)
inductive ux (c:dp) (E:List (Nat×I)) (L:List aT) (place:Nat→Option (Nat×Nat)) {β:Type} [aj β]:β→List (Nat×Value)→List (Nat×Operand)→β→List (Nat×Value)→Prop
 | nil {b os} :ux c E L place b os [] b os
 | cons {b eo b':β} {os os':List (Nat×Value)} {γ:Type} [aj γ] {v:γ} {i:Nat} {x:Operand} {r:List (Nat×Operand)} (l:aN β γ):place i=some (l.off,aj.size γ)→bd c E L x (.of v)→l.set b v=eo→uw os l.off (aj.size γ)=true→ux c E L place eo os r b' os'→ux c E L place b os ((i,x)::r) b' os'
 | hole {b eo b':β} {os KG os':List (Nat×Value)} {γ:Type} [aj γ] {u:Value} {i:Nat} {x:Operand} {r:List (Nat×Operand)} (l:aN β (List γ)):place i=some (l.off,1)→bd c E L x (.eq u)→u.oneCell'=true→l.set b []=eo→um os l.off u=KG→ux c E L place eo KG r b' os'→ux c E L place b os ((i,x)::r) b' os'
theorem ux.run {place:Nat→Option (Nat×Nat)} {β:Type} [aj β] {b b':β} {os os':List (Nat×Value)} {bz:List (Nat×Operand)} (h:ux c E L place b os bz b' os'):∀ a W,bV c E L a W→ ∀ cs:Array Value,lF (aV L++c.ca) W cs.toList b os→
 ∃ eh,Instr.fill place cs (bz.map fun(i,x)=>(i,a.eval x))=some eh∧lF (aV L++c.ca) W eh.toList b' os':=by
 induction h with
 | nil=>intro a W s cs aQ; exact⟨cs,rfl,aQ⟩
 | @cons b eo b' os os' γ _ v i x r l aa ad aF aX _ bR=>
   intro a W s cs aQ
   subst aF
   have a2:=ad a W s
   have eX:(a.eval x).cells.size=aj.size γ:=by have:=aj.len a2.2; simpa using this
   have ao:cs.toList.length=aj.size β:=aQ.len
   have eE:=l.gI
   rw [List.map_cons,EE aa eX (by simp at ao; omega)]
   refine bR a W s _ ?_
   have:=NL l aQ a2.2 aX
   simpa [gq,aj.len a2.2] using this
 | @hole b eo b' os KG os' γ _ u i x r l aa ad aF aX a0 _ bR=>
   intro a W s cs aQ
   subst aX
   subst a0
   have a2:a.eval x=u:=ad a W s
   have al:(a.eval x).cells.toList= [u]:=by rw [a2,oP aF]
   have eX:(a.eval x).cells.size=1:=by have:=congrArg List.length al; simpa using this
   have ao:cs.toList.length=aj.size β:=aQ.len
   have eE:l.off+1≤aj.size β:=l.gI
   rw [List.map_cons,EE aa eX (by simp at ao; omega)]
   refine bR a W s _ ?_
   have:=Nn l aQ aF
   simpa [gq,al] using this
theorem rp {β:Type} [aj β] {z b:β} {bz:List (Nat×Operand)} {pl:Array (Nat×Nat)} {os:List (Nat×Value)} (j6:List Nat) (tG:je c.P t j6) (bp:aj.agg β=true) (Dd:h8 c.P t pl) (g9:cP c.P t z)
 (a7:ux c E L (pl[·]?) z (j6.map fun o=>(o,kD)) bz b os):cf c E L ⟨d,.build t bz.toArray,ty,pos,af,g⟩ (.KF b os):= .pure fun a W s=>by
 obtain⟨fs,hu,hs,rfl⟩:=Dd.at_
 obtain⟨i,eF,aa,ad,aF⟩:=g9.zero
 have cE:∀ o∈j6,eF.cells.toList[o]? =some kD:=fun o bm=>by
  unfold je at tG
  rw [aa] at tG
  simp only [Option.bind_some,ad,Option.any_some] at tG
  exact M5 (List.all_eq_true.1 tG o bm)
 obtain⟨eh,aX,a0⟩:=a7.run a W s eF.cells ⟨by
  rw [HF fun h hm=>by obtain⟨o,bm,rfl⟩:=List.mem_map.1 hm; exact cE o bm]
  exact(aF _ _).2,fun h hm=>by obtain⟨o,bm,rfl⟩:=List.mem_map.1 hm; exact⟨cE o bm,rfl⟩⟩
 refine⟨.agg eh,?_,by simp [shaped,bp],by simpa [Value.cells] using a0⟩
 have hm:(bz.toArray.map fun(x:Nat×Operand)=>(x.1,a.eval x.2)).toList=bz.map fun(i,x)=>(i,a.eval x):=by simp
 simp only [execOp,Instr.build,Sem.run_bind,zeroValue,typeInfo,run_program,Result.andThen_ok,aa,ad,Sem.run_pure,run_underlying hu,Mx fs hs]
 rw [hm,aX]
 rfl
def tf {α:Type} [Inhabited α] (bytes:Nat) (n:Int):Option (List α):=if 0≤n∧n≤140737488355328∧bytes * n≤140737488355328 then some (List.replicate n.toNat default) else none
theorem Wy {α:Type} [Inhabited α] {bytes:Nat} {n:Int} {r:List α} (h:tf bytes n=some r):0≤n∧n≤140737488355328∧bytes * n≤140737488355328∧List.replicate n.toNat default=r:=by
 unfold tf at h
 split at h
 ·rename_i al; exact⟨al.1,al.2.1,al.2.2,aH h⟩
 cases h
theorem ai.F8 {α:Type} [aj α] [Inhabited α] {rest:List Oper} {bf e bytes:Nat} {r:List α} {n:Int} (hu:c.P.underlying t=some (.slice e)) (e6:bF c.P e α) (g9:cP c.P e (default:α)) (hs:Nat.beq (aj.size α) 0=false) (hb:(c.P.info? e).map (·.bytes)=some bytes)
 (aq:bd c E L x (.of n)) (a6:bd c E L y (.of n)) (hm:tf bytes n=some r) (k4:Nat.blt bf c.n=true) (k:∀ p,ai c ops Q rest ((bf,.eq (aS p r.length r.length))::E) (⟨p,.row e r r.length⟩::L)):
 ai c ops Q (⟨some bf,.makeSlice t x y,ty,pos,af,none⟩::rest) E L:=fun a W s=>by
 obtain⟨bT,aR,aew,rfl⟩:=Wy hm
 obtain⟨m,rfl⟩:=Int.eq_ofNat_of_zero_le bT
 obtain⟨gB,eF,er,df,r2⟩:=g9.zero
 have nz:gB.size=aj.size α:=by
  obtain⟨i2,aa,ad⟩:=e6.info
  rw [er] at aa; cases aa; exact ad
 have w4:gB.bytes=bytes:=by rw [er] at hb; simpa using hb
 have fl:aj.size α≠0:=fun h=>by rw [h] at hs; cases hs
 have qN:=AN (r2 (aV L++c.ca) W) m fl
 have aa:=of_int.1 (aq a W s)
 have ad:=of_int.1 (a6 a W s)
 have hw:IntKind.i64.wrap (m:Int)=m:=by have:bs (m:Int)=m:=hC (by omega) (by omega); exact this
 have hp:(2:Int) ^ 48=281474976710656:=by decide
 simp only [Int.toNat_natCast,List.length_replicate] at k
 generalize lr:(Array.range (m * aj.size α)).map (eF.cells[· % eF.cells.size]!)=D at qN
 refine iD rfl (R:=fun v W'=>v= .slice (some ⟨W.heap.size,0,none⟩) m m∧W'=W.alloc (.cells D e)) (.l1 (v:= .slice (some ⟨W.heap.size,0,none⟩) m m) (W':=W.alloc (.cells D e)) ?_ ⟨rfl,rfl⟩) fun v W' ⟨aF,aX⟩=>?_
 ·have ed:((decide ((m:Int)<0)||decide ((gB.bytes:Int) * m>2 ^ 48))||decide ((m:Int)<0)||decide ((m:Int)>m))=false:=by
   rw [w4,hp]; simp; omega
  have Gn:((Array.range (m * gB.size)).map fun i=>(if m * gB.size=0 then(#[]:Array Value) else eF.cells)[i % (if m * gB.size=0 then(#[]:Array Value) else eF.cells).size]!)=D:=by
   rw [← lr,nz]
   by_cases g8:m * aj.size α=0
   ·rw [g8]; simp
   simp only [if_neg g8]
  have bp:(asInt (.int .i64 (m:Int)):Sem Int).run c.P W= .ok (m:Int) W:=by simp [asInt,asIntOf]
  simp only [execOp,Instr.makeSlice,Sem.run_bind,run_underlying hu,Result.andThen_ok,aa,ad,bp,Sem.run_pure,typeInfo,run_program,er,hw,ed,Bool.false_eq_true,if_false,run_askRoom,Go.sizeOf,Int.toNat_natCast]
  by_cases g8:m * gB.size=0
  ·simp only [g8,if_true,Sem.run_pure,Result.andThen_ok,Sem.run_bind,newRow] at Gn ⊢
   rw [Gn]
   simp
  simp only [g8,if_false,Sem.run_pure,Result.andThen_ok,Sem.run_bind,newRow,zeroValue,typeInfo,run_program,er,df] at Gn ⊢
  rw [Gn]
  simp
 subst aF aX
 have uI:m≤maxLen:=by
  have:maxLen=9223372036854775807:=rfl
  omega
 have eX:D.size=m * aj.size α:=by have:=qN.1; simpa using this
 have cl:=s.alloc (o:= .cells D e) (cp:= .row e (List.replicate m (default:α)) m) ⟨D,rfl,eX,by simp,uI,by
  have bn:=qN.1
  rw [List.length_replicate] at bn ⊢
  rw [← bn,List.take_length]
  exact qN⟩
 exact k (some W.heap.size) _ _ (cl.put (τ:= .eq (aS (some W.heap.size) m m)) (by simpa using k4) rfl)
theorem ae.lD {fn:Func} {δ:Type} {ρ:δ→I} {Lo:δ→List aT} (bf:δ) (hs:(Lo bf).Sublist L) (aQ:fn.results= #[]) (tp:ρ bf= .ep []) (ie:c.ds= []:=by rfl):ae c (bodyPost c.P fn (ky c.X c.ca c.jr ρ Lo)) .ret E L:=fun a W s=>
 ⟨s.vL ie,.tuple #[],by simp [vE,aQ],s.ends bf hs (by rw [tp]; exact⟨_,rfl,.nil⟩)⟩
end
abbrev Hid:=Nat→Option Nat
def eP (l:List (Option Nat)):Hid:=fun i=>(l[i]?).getD none
structure dO where
 slot:Option Nat
 up:List Nat
 rd:List Nat
 wr:List Nat
 τ:(Nat→Hid)→I
 eV:(Nat→Hid)→Nat→aT
def gX (up:List Nat) (i:Nat) (hd:Nat→Hid):Nat→Hid:=fun j=>bif Nat.beq j i||up.any (fun k=>Nat.beq k j) then hd j else fun _=>none
def jy (hd:Nat→Hid) (i:Nat) (x:Hid):Nat→Hid:=fun j=>bif Nat.beq j i then x else hd j
theorem Np {up:List Nat} {i:Nat} {hd hd':Nat→Hid} (h:hd i=hd' i) (dc:∀ k∈up,hd k=hd' k):gX up i hd=gX up i hd':=by
 funext j
 unfold gX
 cases aa:Nat.beq j i
 ·cases ad:up.any (fun k=>Nat.beq k j)
  ·rfl
  obtain⟨k,aw,he⟩:=List.any_eq_true.1 ad
  have:=eD.1 he
  subst this
  simp only [Bool.false_or,cond_true]
  exact dc k aw
 have:=eD.1 aa
 subst this
 simp only [Bool.true_or,cond_true]
 exact h
def mE:List aT→ (Nat→aT)→List Nat→List aT
 | L,_,[]=>L
 | L,f,j::r=>mE (L.set j (f j)) f r
theorem MP:∀ {L:List aT} {f:Nat→aT} {fo:List Nat},(mE L f fo).length=L.length
 | _,_,[]=>rfl
 | L,f,j::r=>by rw [mE,MP,List.length_set]
theorem EF:∀ {L:List aT} {f:Nat→aT} {fo:List Nat} (i:Nat),(mE L f fo)[i]? =if fo.contains i=true then L[i]?.map (fun _=>f i) else L[i]?
 | _,_,[],i=>by simp [mE]
 | L,f,j::r,i=>by
   rw [mE,EF i]
   by_cases h:j=i
   ·subst h
    simp only [List.contains_cons,BEq.rfl,Bool.true_or,if_true,List.getElem?_set]
    by_cases ao:j<L.length
    ·simp [ao]
    simp [ao]
   have hb:(i==j)=false:=by simp; exact fun e=>h e.symm
   rw [List.contains_cons,hb,Bool.false_or,List.getElem?_set_ne h]
def hB (ls:Nat→Bool) (hd:Nat→Hid):Nat→List dO→List aT→List aT
 | _,[],L=>L
 | k,h::r,L=>hB ls hd (k+1) r (bif ls k then mE L (h.eV (gX h.up k hd)) h.wr else L)
def iu (ls:Nat→Bool) (hd:Nat→Hid) (E:List (Nat×I)):Nat→List dO→List (Nat×I)
 | _,[]=>E
 | k,h::r=>match ls k,h.slot with
   | true,some s=>(s,h.τ (gX h.up k hd))::iu ls hd E (k+1) r
   | _,_=>iu ls hd E (k+1) r
def kE (ls:Nat→Bool) (hd:Nat→Hid) (j:Nat):Nat→List dO→Option aT→Option aT
 | _,[],v=>v
 | k,h::r,v=>kE ls hd j (k+1) r (bif ls k&&h.wr.contains j then v.map (fun _=>h.eV (gX h.up k hd) j) else v)
theorem v9 {ls:Nat→Bool} {hd:Nat→Hid} (j:Nat):∀ {k:Nat} {hs:List dO} {L:List aT},(hB ls hd k hs L)[j]? =kE ls hd j k hs L[j]?
 | _,[],_=>rfl
 | k,h::r,L=>by
   rw [hB,kE,v9 j]
   congr 1
   cases ls k
   ·rfl
   simp only [cond_true,Bool.true_and]
   rw [EF]
   cases h.wr.contains j <;> rfl
theorem AO {ls:Nat→Bool} {hd:Nat→Hid} {j:Nat} :∀ {k:Nat} {hs:List dO} {v:Option aT},(∀ m h,hs[m]? =some h→h.wr.contains j=true→ls (k+m)=false)→kE ls hd j k hs v=v
 | _,[],_,_=>rfl
 | k,h::r,v,aR=>by
   rw [kE,AO fun m x hm aq=>by have:=aR (m+1) x (by simpa using hm) aq; rw [← this]; congr 1; omega]
   cases hw:h.wr.contains j
   ·simp
   have:=aR 0 h rfl hw
   simp only [Nat.add_zero] at this
   rw [this]; rfl
theorem AA {ls:Nat→Bool} {hd:Nat→Hid} {j:Nat} :∀ {k:Nat} {hs rs:List dO} {v:Option aT},kE ls hd j k (hs++rs) v=kE ls hd j (k+hs.length) rs (kE ls hd j k hs v)
 | _,[],_,_=>rfl
 | k,h::r,rs,v=>by
   rw [List.cons_append,kE,AA,kE,List.length_cons]
   congr 1; omega
theorem vG {ls ls':Nat→Bool} {hd hd':Nat→Hid} {j:Nat} :∀ {k:Nat} {hs:List dO} {v:Option aT},(∀ m h,hs[m]? =some h→h.wr.contains j=true→ls (k+m)=ls' (k+m)∧ (ls (k+m)=true→gX h.up (k+m) hd=gX h.up (k+m) hd'))→kE ls hd j k hs v=kE ls' hd' j k hs v
 | _,[],_,_=>rfl
 | k,h::r,v,aR=>by
   have bR:=vG (ls:=ls) (ls':=ls') (hd:=hd) (hd':=hd') (j:=j) (k:=k+1) (hs:=r) (v:=bif ls k&&h.wr.contains j then v.map (fun _=>h.eV (gX h.up k hd) j) else v) fun m x hm aq=>by
    have:=aR (m+1) x (by simpa using hm) aq
    rw [show k+1+m=k+(m+1) by omega]; exact this
   rw [kE,kE,bR]
   congr 1
   cases hw:h.wr.contains j
   ·simp
   have:=aR 0 h rfl hw
   simp only [Nat.add_zero] at this
   rw [← this.1]
   cases ao:ls k
   ·rfl
   rw [this.2 ao]
theorem AP {ls:Nat→Bool} {hd:Nat→Hid} {E:List (Nat×I)} {t:Nat} :∀ {k:Nat} {hs:List dO},(∀ (m:Nat) (h:dO),hs[m]? =some h→ls (k+m)=true→h.slot≠some t)→look (iu ls hd E k hs) t=look E t
 | _,[],_=>rfl
 | k,h::r,aR=>by
   have bR:=AP (ls:=ls) (hd:=hd) (E:=E) (t:=t) (k:=k+1) (hs:=r) fun m x hm ao=>aR (m+1) x (by simpa using hm) (by rw [← ao]; congr 1; omega)
   unfold iu
   split
   ·rename_i s aa ad
    have dm:Nat.beq s t=false:=by
     cases hb:Nat.beq s t
     ·rfl
     have:=eD.1 hb; subst this; exact absurd ad (aR 0 h rfl aa)
    simp only [look,dm,cond_false]
    exact bR
   exact bR
theorem A0 {ls:Nat→Bool} {hd:Nat→Hid} {E:List (Nat×I)} {s:Nat} :∀ {k:Nat} {hs:List dO} {j:Nat} {h:dO},hs[j]? =some h→ls (k+j)=true→h.slot=some s→ (∀ m x,hs[m]? =some x→x.slot=some s→m=j)→look (iu ls hd E k hs) s=some (h.τ (gX h.up (k+j) hd))
 | _,[],_,_,h,_,_,_=>by simp at h
 | k,x::r,0,h,aE,ao,hs,_=>by
   simp only [List.getElem?_cons_zero,Option.some.injEq] at aE
   subst aE
   simp only [Nat.add_zero] at ao
   unfold iu
   rw [ao,hs]
   simp [look,Nat.beq_refl]
 | k,x::r,j+1,h,aE,ao,hs,hu=>by
   have bR:=A0 (ls:=ls) (hd:=hd) (E:=E) (s:=s) (k:=k+1) (hs:=r) (j:=j) (h:=h) (by simpa using aE) (by rw [← ao]; congr 1; omega) hs fun m y hm a6=>by
    have:=hu (m+1) y (by simpa using hm) a6; omega
   rw [show k+1+j=k+(j+1) by omega] at bR
   unfold iu
   split
   ·rename_i cl aa ad
    have dm:Nat.beq cl s=false:=by
     cases hb:Nat.beq cl s
     ·rfl
     have:=eD.1 hb; subst this
     have:=hu 0 x rfl ad; omega
    simp only [look,dm,cond_false]
    exact bR
   exact bR
theorem HY {ls:Nat→Bool} {hd:Nat→Hid} {E:List (Nat×I)} {t:Nat} {τ:I} :∀ {k:Nat} {hs:List dO},look (iu ls hd E k hs) t=some τ→ (∃ (j:Nat) (h:dO),hs[j]? =some h∧ls (k+j)=true∧h.slot=some t∧τ=h.τ (gX h.up (k+j) hd))∨ (look E t=some τ∧ ∀ (m:Nat) (h:dO),hs[m]? =some h→ls (k+m)=true→h.slot≠some t)
 | _,[],h=>.inr ⟨h,fun m h hm=>by simp at hm⟩
 | k,x::r,h=>by
   unfold iu at h
   have go:(ls k=true→x.slot≠some t)→look (iu ls hd E (k+1) r) t=some τ→ (∃ (j:Nat) (h:dO),(x::r)[j]? =some h∧ls (k+j)=true∧h.slot=some t∧τ=h.τ (gX h.up (k+j) hd))∨ (look E t=some τ∧ ∀ (m:Nat) (h:dO),(x::r)[m]? =some h→ls (k+m)=true→h.slot≠some t):=fun aq h=>by
    rcases HY h with⟨j,y,aa,ad,aF,aX⟩ | ⟨aa,ad⟩
    ·exact .inl ⟨j+1,y,by simpa using aa,by rw [← ad]; congr 1; omega,aF,by rw [aX]; congr 2; omega⟩
    refine .inr ⟨aa,fun m y hm ao=>?_⟩
    cases m with
    | zero=>simp only [List.getElem?_cons_zero,Option.some.injEq] at hm; subst hm; exact aq ao
    | succ m=>exact ad m y (by simpa using hm) (by rw [← ao]; congr 1; omega)
   split at h
   ·rename_i s aa ad
    simp only [look] at h
    by_cases e:Nat.beq s t=true
    ·rw [e] at h
     simp only [cond_true,Option.some.injEq] at h
     have:=eD.1 e
     subst this
     exact .inl ⟨0,x,rfl,aa,ad,h.symm⟩
    rw [Bool.not_eq_true] at e
    rw [e] at h
    exact go (fun _ fl=>by rw [ad] at fl; cases fl; rw [Nat.beq_refl] at e; cases e) h
   rename_i fq
   exact go (fun ao fl=>fq t ao fl) h
def ni (hd:Nat→Hid) (hs:List dO) (E:List (Nat×I)):List Nat→List (Nat×I)
 | []=>E
 | j::r=>match hs[j]? with
   | some h=>match h.slot with
     | some s=>(s,h.τ (gX h.up j hd))::ni hd hs E r
     | none=>ni hd hs E r
   | none=>ni hd hs E r
theorem Is {hd:Nat→Hid} {hs:List dO} {E:List (Nat×I)} {t:Nat} {τ:I} :∀ {ds:List Nat},look (ni hd hs E ds) t=some τ→ (∃ j∈ds,∃ h:dO,hs[j]? =some h∧h.slot=some t∧τ=h.τ (gX h.up j hd))∨look E t=some τ
 | [],h=>.inr h
 | j::r,h=>by
   have go:look (ni hd hs E r) t=some τ→ (∃ i∈j::r,∃ h:dO,hs[i]? =some h∧h.slot=some t∧τ=h.τ (gX h.up i hd))∨look E t=some τ:=fun h=>by
    rcases Is h with⟨i,aa,ad⟩ | aa
    ·exact .inl ⟨i,by simp [aa],ad⟩
    exact .inr aa
   unfold ni at h
   split at h
   ·rename_i x aq
    split at h
    ·rename_i s pb
     simp only [look] at h
     by_cases e:Nat.beq s t=true
     ·rw [e] at h
      simp only [cond_true,Option.some.injEq] at h
      have:=eD.1 e
      subst this
      exact .inl ⟨j,by simp,x,aq,pb,h.symm⟩
     simp only [Bool.not_eq_true] at e
     rw [e] at h
     exact go h
    exact go h
   exact go h
def wy (E:List (Nat×I)) (v:Value):List Nat→Prop
 | []=>True
 | s::r=>look E s=some (.eq v)∧wy E v r
theorem wy.get {E:List (Nat×I)} {v:Value} :∀ {hI:List Nat},wy E v hI→ ∀ s∈hI,look E s=some (.eq v)
 | _::_,h,s,hs=>by
   rcases List.mem_cons.1 hs with rfl | hs
   ·exact h.1
   exact wy.get h.2 s hs
def y6 (τ:I) (E:List (Nat×I)):List Nat→List (Nat×I)
 | []=>E
 | s::r=>(s,τ)::y6 τ E r
theorem NM {τ:I} {E:List (Nat×I)} {t:Nat} {σ:I} :∀ {hI:List Nat},look (y6 τ E hI) t=some σ→ (t∈hI∧σ=τ)∨look E t=some σ
 | [],h=>.inr h
 | s::r,h=>by
   simp only [y6,look] at h
   by_cases e:Nat.beq s t=true
   ·rw [e] at h
    simp only [cond_true,Option.some.injEq] at h
    have:=eD.1 e
    subst this
    exact .inl ⟨by simp,h.symm⟩
   simp only [Bool.not_eq_true] at e
   rw [e] at h
   rcases NM h with⟨aa,ad⟩ | aa
   ·exact .inl ⟨by simp [aa],ad⟩
   exact .inr aa
def wO {w:Nat} (a b:BitVec w):BitVec w:=if a≤b then a else b
def ow:Option Nat→I→List (Nat×I)→List (Nat×I)
 | some s,τ,E=>(s,τ)::E
 | none,_,E=>E
section
variable {c:dp} {E:List (Nat×I)} {L:List aT} {ops:Array Oper} {Q:Exit→Act→World→Prop}
theorem bV.n4 {a:Act} {W:World} {α:Type} [aj α] {i cap T:Nat} {hI:List Nat} {key:Option Nat} {xs:List α} (h:bV c E L a W) (ao:wy E (aS key xs.length cap) hI) (ar:L[i]? =some ⟨key,.row T xs cap⟩):
 bV c (y6 (.of xs) E hI) (L.set i ⟨none,.dead⟩) a W:=by
 have aw:=h.kill i
 refine { aw with env:=fun t τ eU=>?_ }
 rcases NM eU with⟨hm,rfl⟩ | aa
 ·obtain⟨v,aa,ad⟩:=h.env t _ (ao.get t hm)
  refine⟨v,aa,nu.2 ?_⟩
  have kn:v=aS key xs.length cap:=ad
  subst kn
  have bm:=h.own _ (List.mem_of_getElem? ar)
  cases key with
  | none=>exact .inl ⟨rfl,bm.1⟩
  | some p=>
    obtain⟨o,e3,cs,rfl,eX,aR,o4,aQ⟩:=bm
    obtain⟨aF,aX⟩:=HB eX aR aQ
    refine .inr ⟨p,0,cap,cs,T,(0,0),rfl,h.AX ar,e3,aR,by omega,aF,?_⟩
    have lh:=xS (L:=L) (i:=i) (cp:= .dead)
    exact aX.mono (.drop fun k hm=>by
     rcases List.mem_append.1 hm with hm | hm
     ·exact List.mem_append.2 (.inl (lh.subset hm))
     exact List.mem_append.2 (.inr hm))
 exact aw.env t τ aa
theorem ai.n4 {l:List Oper} {α:Type} [aj α] {key:Option Nat} {xs:List α} {cap T:Nat} (i:Nat) (hI:List Nat) (ao:wy E (aS key xs.length cap) hI) (ar:L[i]? =some ⟨key,.row T xs cap⟩)
 (k:ai c ops Q l (y6 (.of xs) E hI) (L.set i ⟨none,.dead⟩)):ai c ops Q l E L:=fun a W st=>k a W (st.n4 ao ar)
theorem ae.n4 {x:Exit} {α:Type} [aj α] {key:Option Nat} {xs:List α} {cap T:Nat} (i:Nat) (hI:List Nat) (ao:wy E (aS key xs.length cap) hI) (ar:L[i]? =some ⟨key,.row T xs cap⟩)
 (k:ae c Q x (y6 (.of xs) E hI) (L.set i ⟨none,.dead⟩)):ae c Q x E L:=fun a W st=>k a W (st.n4 ao ar)
def cI (c:dp) (ops:Array Oper) (Q:Exit→Act→World→Prop) (hs:List dO) (E:List (Nat×I)) (L:List aT) (i:Nat) (o:Oper) (h:dO):Prop:=
 ∀ (hd:Nat→Hid) (E':List (Nat×I)) (ax:List aT),(∀ t τ,look (ni hd hs E h.up) t=some τ→look E' t=some τ)→
   (∀ j e,(hB (fun _=>true) hd 0 (hs.take i) L)[j]? =some e→h.rd.contains j=true→ax[j]? =some e)→
   ai c ops (tF (fun a W=> ∃ x,bV c (ow h.slot (h.τ (gX h.up i (jy hd i x))) E') (mE ax (h.eV (gX h.up i (jy hd i x))) h.wr) a W) Q) [o] E' ax
def Bl (c:dp) (ops:Array Oper) (Q:Exit→Act→World→Prop) (hs:List dO) (E:List (Nat×I)) (L:List aT):Nat→List Oper→List dO→Prop
 | _,[],[]=>True
 | i,o::os,h::r=>cI c ops Q hs E L i o h∧Bl c ops Q hs E L (i+1) os r
 | _,_,_=>False
def kP (ops:Array Oper) (hs:List (Option Nat×List Nat×List Nat×List Nat)) (E:List Nat):Bool:=
 decide (hs.length=ops.size)&&decide (hs.filterMap (·.1)).Nodup&&((List.range ops.size).all fun m=>match hs[m]? with | some (some s,up,_)=> !E.contains s||(List.range ops.size).all fun k=>decide (k=m)||up.contains k | _=>true)&&
 ((List.range ops.size).all fun i=>match hs[i]? with
   | none=>false
   | some (_,up,rd,wr)=>
     (((ops[i]?).map fun o=>(o.dst==(hs[i]?).bind (·.1))&&o.after.all fun e=> !Region.binds .any e||decide (e.on<i)).getD false)&&
     (up.all fun k=>Region.waitsFor .any ops i k||(List.range i).any fun m=>Region.waitsFor .any ops i m&&((hs[m]?).map fun h=>h.2.1.contains k).getD false)&&
     ((List.range ops.size).all fun k=>match hs[k]? with
       | none=>true
       | some (_,KH,_,CK)=>
         (!(decide (k<i)&&CK.any rd.contains)||up.contains k)&&(!(decide (i<k)&&CK.any fun j=>rd.contains j||wr.contains j)||KH.contains i)))
theorem HG {ls ls':Nat→Bool} {hd:Nat→Hid} :∀ {k:Nat} {hs:List dO},(∀ m,m<hs.length→ls (k+m)=ls' (k+m))→iu ls hd E k hs=iu ls' hd E k hs
 | _,[],_=>rfl
 | k,h::r,aR=>by
   have bR:=HG (ls:=ls) (ls':=ls') (hd:=hd) (k:=k+1) (hs:=r) fun m hm=>by
    have:=aR (m+1) (by simp; omega)
    rw [show k+1+m=k+(m+1) by omega]; exact this
   have bT:=aR 0 (by simp)
   simp only [Nat.add_zero] at bT
   unfold iu
   rw [bT,bR]
theorem HZ {ls ls':Nat→Bool} {hd:Nat→Hid} :∀ {k:Nat} {hs:List dO} {L:List aT},(∀ m,m<hs.length→ls (k+m)=ls' (k+m))→hB ls hd k hs L=hB ls' hd k hs L
 | _,[],_,_=>rfl
 | k,h::r,L,aR=>by
   have bT:=aR 0 (by simp)
   simp only [Nat.add_zero] at bT
   rw [hB,hB,bT]
   exact HZ fun m hm=>by
    have:=aR (m+1) (by simp; omega)
    rw [show k+1+m=k+(m+1) by omega]; exact this
def jM (hs:List dO):List (Option Nat×List Nat×List Nat×List Nat):=hs.map fun h=>(h.slot,h.up,h.rd,h.wr)
theorem yj {hs:List dO} {i:Nat} {h:dO} (ak:hs[i]? =some h):(jM hs)[i]? =some (h.slot,h.up,h.rd,h.wr):=by simp [jM,ak]
def IU (c:dp) (ops:Array Oper) (Q:Exit→Act→World→Prop) (hs:List dO) (E:List (Nat×I)) (L:List aT) (np:Nat) (i:Nat) (o:Oper) (h:dO):Prop:=
 ∀ (hd:Nat→Hid) (E':List (Nat×I)) (ax:List aT),(∀ t τ,look (ni hd hs E h.up) t=some τ→look E' t=some τ)→
   (∀ j e,(hB (fun _=>true) hd 0 (hs.take i) L)[j]? =some e→h.rd.contains j=true→ax[j]? =some e)→ax.drop np=L.drop np→
   ai c ops (tF (fun a W=> ∃ x,bV c (ow h.slot (h.τ (gX h.up i (jy hd i x))) E') (mE ax (h.eV (gX h.up i (jy hd i x))) h.wr) a W) Q) [o] E' ax
def pB (c:dp) (ops:Array Oper) (Q:Exit→Act→World→Prop) (hs:List dO) (E:List (Nat×I)) (L:List aT) (np:Nat):Nat→List Oper→List dO→Prop
 | _,[],[]=>True
 | i,o::os,h::r=>IU c ops Q hs E L np i o h∧pB c ops Q hs E L np (i+1) os r
 | _,_,_=>False
theorem pB.get {hs:List dO} {np:Nat} :∀ {k:Nat} {os:List Oper} {rs:List dO},pB c ops Q hs E L np k os rs→ ∀ i h o,rs[i]? =some h→os[i]? =some o→IU c ops Q hs E L np (k+i) o h
 | k,[],[],_,i,h,o,ak,_=>by simp at ak
 | k,aeS::os,bT::r,cE,i,h,o,ak,bm=>by
   cases i with
   | zero=>
     simp only [List.getElem?_cons_zero,Option.some.injEq] at ak bm
     subst ak; subst bm; exact cE.1
   | succ i=>
     have:=pB.get cE.2 i h o (by simpa using ak) (by simpa using bm)
     rw [show k+1+i=k+(i+1) by omega] at this
     exact this
 | k,[],_::_,cE,_,_,_,_,_=>cE.elim
 | k,_::_,[],cE,_,_,_,_,_=>cE.elim
theorem Bl.RK {hs:List dO} {np:Nat} :∀ {k:Nat} {os:List Oper} {rs:List dO},Bl c ops Q hs E L k os rs→pB c ops Q hs E L np k os rs
 | _,[],[],_=>trivial
 | _,_::_,_::_,h=>⟨fun hd E' ax aa ad _=>h.1 hd E' ax aa ad,Bl.RK h.2⟩
 | _,[],_::_,h=>h.elim
 | _,_::_,[],h=>h.elim
theorem Nq {n:Nat} :∀ {L:List aT} {f:Nat→aT} {fo:List Nat},(∀ j∈fo,j<n∨L.length≤j)→ (mE L f fo).drop n=L.drop n
 | _,_,[],_=>rfl
 | L,f,j::r,h=>by
   rw [mE,Nq (fun k aw=>by rw [List.length_set]; exact h k (by simp [aw]))]
   rcases h j (by simp) with aa | aa
   ·rw [List.drop_set_of_lt aa]
   rw [List.set_eq_of_length_le aa]
theorem ET {ls:Nat→Bool} {hd:Nat→Hid} {n:Nat} :∀ {k:Nat} {hs:List dO} {L:List aT},(∀ h∈hs,∀ j∈h.wr,j<n∨L.length≤j)→ (hB ls hd k hs L).drop n=L.drop n
 | _,[],_,_=>rfl
 | k,h::r,L,hw=>by
   rw [hB]
   cases ao:ls k
   ·exact ET fun x aq=>hw x (by simp [aq])
   simp only [cond_true]
   rw [ET (fun x aq j aE=>by rw [MP]; exact hw x (by simp [aq]) j aE),Nq (hw h (by simp))]
theorem Va {hs:List dO} {np:Nat} (hw:∀ h∈hs,∀ j∈h.wr,j<np∨L.length≤j) (h1:kP ops (jM hs) (E.map (·.1))=true) (cE:pB c ops Q hs E L np 0 ops.toList hs)
 (b1:∀ hd,ae c Q .normal (iu (fun _=>true) hd E 0 hs) (hB (fun _=>true) hd 0 hs L)):
 ∀ m (a9:Array Bool) (hd:Nat→Hid) (a:Act) (W:World),((List.range ops.size).filter fun i=> !a9.getD i true).length≤m→HeadInv .any ops ops.size a9→
   bV c (iu (fun i=>a9.getD i false) hd E 0 hs) (hB (fun i=>a9.getD i false) hd 0 hs L) a W→wpAnyIn c.F 9 c.P .any ops Q m a9 a W:=by
 simp only [kP,Bool.and_eq_true,decide_eq_true_eq] at h1
 obtain⟨⟨⟨Jx,gW⟩,Cc⟩,jG⟩:=h1
 have hlen:hs.length=ops.size:=by simpa [jM] using Jx
 have l9:∀ i,i<ops.size→ ∃ h o,hs[i]? =some h∧ops[i]? =some o:=fun i ak=>⟨hs[i]'(by omega),ops[i],by simp,by simp⟩
 have qn:∀ (i:Nat) (h:dO) (o:Oper),hs[i]? =some h→ops[i]? =some o→
  o.dst=h.slot∧ (∀ e∈o.after,Region.binds .any e=true→e.on<i)∧
  (∀ k∈h.up,Region.waitsFor .any ops i k=true∨ ∃ m,m<i∧Region.waitsFor .any ops i m=true∧ ∃ x,hs[m]? =some x∧k∈x.up)∧
  (∀ (k:Nat) (x:dO),hs[k]? =some x→ (k<i→ (∃ j∈x.wr,h.rd.contains j=true)→k∈h.up)∧ (i<k→ (∃ j∈x.wr,h.rd.contains j=true∨h.wr.contains j=true)→i∈x.up)):=by
  intro i h o ak bm
  have cD:i<ops.size:=(Array.getElem?_eq_some_iff.1 bm).1
  have aa:=List.all_eq_true.1 jG i (List.mem_range.2 cD)
  rw [yj ak] at aa
  simp only [Bool.and_eq_true] at aa
  obtain⟨⟨ad,aF⟩,aX⟩:=aa
  simp only [bm,Option.map_some,Option.getD_some,Bool.and_eq_true,Option.bind_some,beq_iff_eq] at ad
  refine⟨ad.1,fun e he hb=>?_,fun k aw=>?_,fun k x aq=>?_⟩
  ·have:=Array.all_eq_true_iff_forall_mem.1 ad.2 e he
   simp [hb] at this
   exact this
  ·have:=List.all_eq_true.1 aF k aw
   simp only [Bool.or_eq_true,List.any_eq_true,Bool.and_eq_true,List.mem_range] at this
   rcases this with a0 | ⟨m,a0,bn,cZ⟩
   ·exact .inl a0
   have hm:m<hs.length:=by omega
   rw [yj (List.getElem?_eq_getElem hm)] at cZ
   exact .inr ⟨m,a0,bn,hs[m],List.getElem?_eq_getElem hm,by simpa using cZ⟩
  have Cz:k<ops.size:=by have:=(List.getElem?_eq_some_iff.1 aq).1; omega
  have:=List.all_eq_true.1 aX k (List.mem_range.2 Cz)
  rw [yj aq] at this
  simp only [Bool.and_eq_true,Bool.or_eq_true,Bool.not_eq_true',Bool.and_eq_false_iff,decide_eq_false_iff_not,List.contains_iff_mem] at this
  refine⟨fun pX ⟨j,aE,aQ⟩=>?_,fun iS ⟨j,aE,aQ⟩=>?_⟩
  ·rcases this.1 with(a0 | a0) | a0
   ·exact absurd pX a0
   ·have:=List.any_eq_false.1 a0 j aE
    exact absurd aQ this
   exact a0
  rcases this.2 with(a0 | a0) | a0
  ·exact absurd iS a0
  ·have:=List.any_eq_false.1 a0 j aE
   simp only [Bool.or_eq_true] at this
   exact absurd aQ this
  exact a0
 have wz:∀ (i j s:Nat) (x y:dO),hs[i]? =some x→hs[j]? =some y→x.slot=some s→y.slot=some s→i=j:=by
  have key:∀ (l:List dO),((jM l).filterMap (·.1)).Nodup→ ∀ (i j s:Nat) (x y:dO),l[i]? =some x→l[j]? =some y→x.slot=some s→y.slot=some s→i=j:=by
   intro l
   induction l with
   | nil=>intro _ i j s x y h; simp at h
   | cons z r bR=>
     intro gW i j s x y ak aE aq a6
     have aQ:((jM r).filterMap (·.1)).Nodup:=by
      cases df:z.slot with
      | none=>simpa [jM,df] using gW
      | some w=>
        simp only [jM,List.map_cons,List.filterMap_cons,df] at gW
        exact(List.nodup_cons.1 gW).2
     have qu:z.slot=some s→ ∀ (q:Nat) (v:dO),r[q]? =some v→v.slot≠some s:=fun df q v hq a2=>by
      simp only [jM,List.map_cons,List.filterMap_cons,df] at gW
      exact(List.nodup_cons.1 gW).1 (List.mem_filterMap.2 ⟨_,List.mem_map.2 ⟨v,List.mem_of_getElem? hq,rfl⟩,a2⟩)
     cases i with
     | zero=>
       simp only [List.getElem?_cons_zero,Option.some.injEq] at ak
       subst ak
       cases j with
       | zero=>rfl
       | succ j=>simp only [List.getElem?_cons_succ] at aE; exact absurd a6 (qu aq j y aE)
     | succ i=>
       simp only [List.getElem?_cons_succ] at ak
       cases j with
       | zero=>
         simp only [List.getElem?_cons_zero,Option.some.injEq] at aE
         subst aE
         exact absurd aq (qu a6 i x ak)
       | succ j=>simp only [List.getElem?_cons_succ] at aE; rw [bR aQ i j s x y ak aE aq a6]
  exact key hs gW
 have Jy:∀ (t:Nat) (τ:I),look E t=some τ→ ∀ (m:Nat) (h:dO),hs[m]? =some h→h.slot=some t→ ∀ k,k<ops.size→k≠m→k∈h.up:=by
  intro t τ ao m h hm fl k aw tq
  have nd:m<ops.size:=by have:=(List.getElem?_eq_some_iff.1 hm).1; omega
  have aa:=List.all_eq_true.1 Cc m (List.mem_range.2 nd)
  rw [show(jM hs)[m]? =some (h.slot,h.up,h.rd,h.wr) by simp [jM,hm],fl] at aa
  have uO:t∈E.map (·.1):=by
   clear Cc aa cE b1 hm fl
   induction E with
   | nil=>simp [look] at ao
   | cons x r bR=>
     obtain⟨s,σ⟩:=x
     simp only [look] at ao
     by_cases e:Nat.beq s t=true
     ·have:=eD.1 e; subst this; simp
     simp only [Bool.not_eq_true] at e
     rw [e] at ao
     simp only [List.map_cons,List.mem_cons]
     exact .inr (bR ao)
  replace aa:(!(E.map (·.1)).contains t||(List.range ops.size).all fun k=>decide (k=m)||h.up.contains k)=true:=aa
  rw [show(E.map (·.1)).contains t=true by simpa using uO] at aa
  have ad:∀ x,x<ops.size→x=m∨x∈h.up:=by simpa using aa
  exact(ad k aw).resolve_left tq
 have tr:∀ (a9:Array Bool),HeadInv .any ops ops.size a9→ ∀ (d i:Nat),i≤d→ ∀ (h:dO) (o:Oper),hs[i]? =some h→ops[i]? =some o→ (∀ e∈o.after,Region.binds .any e=true→a9.getD e.on false=true)→ ∀ k∈h.up,a9.getD k false=true:=by
  intro a9 inv d
  induction d with
  | zero=>
    intro i ak h o dD oC hw k aw
    rcases (qn i h o dD oC).2.2.1 k aw with aa | ⟨m,hm,_⟩
    ·obtain⟨k3,ix,e,he,hb,lK⟩:=Region.waitsFor_spec aa
     rw [oC] at ix; cases ix
     rw [← lK]; exact hw e he hb
    omega
  | succ d bR=>
    intro i ak h o dD oC hw k aw
    rcases (qn i h o dD oC).2.2.1 k aw with aa | ⟨m,hm,aa,x,aq,KI⟩
    ·obtain⟨k3,ix,e,he,hb,lK⟩:=Region.waitsFor_spec aa
     rw [oC] at ix; cases ix
     rw [← lK]; exact hw e he hb
    obtain⟨k3,ix,e,he,hb,lK⟩:=Region.waitsFor_spec aa
    rw [oC] at ix; cases ix
    have nd:=hw e he hb
    rw [lK] at nd
    obtain⟨aP,q8,acL,qQ⟩:=l9 m (by have:=(Array.getElem?_eq_some_iff.1 oC).1; omega)
    exact bR m (by omega) x q8 aq qQ (fun e he hb=>inv.closed m q8 qQ nd e he hb) k KI
 have m7:∀ (a9:Array Bool) (hd:Nat→Hid) (a:Act) (W:World),(∀ i,i<ops.size→a9.getD i true=true)→HeadInv .any ops ops.size a9→
  bV c (iu (fun i=>a9.getD i false) hd E 0 hs) (hB (fun i=>a9.getD i false) hd 0 hs L) a W→Region.ready .any ops a9= []∧Q .normal a W:=by
  intro a9 hd a W qo inv st
  refine⟨?_,?_⟩
  ·refine List.eq_nil_iff_forall_not_mem.2 fun i ak=>?_
   obtain⟨aa,o,bm,_⟩:=mem_ready.1 ak
   rw [qo i (Array.getElem?_eq_some_iff.1 bm).1] at aa
   cases aa
  have ao:∀ m,m<hs.length→a9.getD (0+m) false=true:=fun m hm=>by
   have aa:=qo m (by omega)
   have ad:m<a9.size:=by rw [inv.size]; omega
   simpa [ad] using aa
  rw [HG (ls':=fun _=>true) ao,HZ (ls':=fun _=>true) ao] at st
  exact b1 hd a W st
 intro m
 induction m with
 | zero=>
   intro a9 hd a W hm inv st
   refine m7 a9 hd a W (fun i ak=>?_) inv st
   cases h:a9.getD i true with
   | true=>rfl
   | false=>
     have:i∈ (List.range ops.size).filter fun i=> !a9.getD i true:=List.mem_filter.2 ⟨List.mem_range.2 ak,by rw [h]; rfl⟩
     rw [List.length_eq_zero_iff.1 (Nat.le_zero.1 hm)] at this
     cases this
 | succ m bR=>
   intro a9 hd a W hm inv st
   refine⟨fun bT=>?_,fun i ak=>?_⟩
   ·refine(m7 a9 hd a W (fun i ak=>?_) inv st).2
    have key:∀ d i,i≤d→i<ops.size→a9.getD i true=true:=by
     intro d
     induction d with
     | zero=>
       intro i w2 ak
       cases ao:a9.getD i true with
       | true=>rfl
       | false=>
         obtain⟨h,o,dD,bm⟩:=l9 i ak
         have:i∈Region.ready .any ops a9:=mem_ready.2 ⟨ao,o,bm,fun e he hb=>by have:=(qn i h o dD bm).2.1 e he hb; omega⟩
         rw [bT] at this; cases this
     | succ d CL=>
       intro i w2 ak
       cases ao:a9.getD i true with
       | true=>rfl
       | false=>
         obtain⟨h,o,dD,bm⟩:=l9 i ak
         have:i∈Region.ready .any ops a9:=mem_ready.2 ⟨ao,o,bm,fun e he hb=>by
          have aa:=(qn i h o dD bm).2.1 e he hb
          have ad:=CL e.on (by omega) (by omega)
          have aF:e.on<a9.size:=by rw [inv.size]; omega
          simpa [aF] using ad⟩
         rw [bT] at this; cases this
    exact key i i (Nat.le_refl _) ak
   obtain⟨iT,o,bm,n7⟩:=mem_ready.1 ak
   have eE:i<ops.size:=(Array.getElem?_eq_some_iff.1 bm).1
   obtain⟨h,_,dD,_⟩:=l9 i eE
   have kk:a9.getD i false=false:=getD_both iT
   have qx:i<a9.size:=by rw [inv.size]; omega
   have qw:((List.range ops.size).filter fun j=> !(a9.setIfInBounds i true).getD j true).length≤m:=by
    have:((List.range ops.size).filter fun j=> !(a9.setIfInBounds i true).getD j true).length<((List.range ops.size).filter fun j=> !a9.getD j true).length:=by
     refine Fe (fun j=> !a9.getD j true) (fun j=> !(a9.setIfInBounds i true).getD j true) i (by simp only [iT]; rfl) ?_ (fun j aE=>?_) ops.size eE
     ·simp [qx]
     by_cases e:i=j
     ·subst e; simp only [iT]; rfl
     rw [getD_set_ne true e] at aE; exact aE
    omega
   have s9:=inv.set ak eE
   obtain⟨B9,Bj,Z0,uN⟩:=qn i h o dD bm
   have wS:=tr a9 inv i i (Nat.le_refl _) h o dD bm n7
   have Bm:∀ (k:Nat) (x:dO),hs[k]? =some x→i<k→ (∃ j∈x.wr,h.rd.contains j=true∨h.wr.contains j=true)→a9.getD k false=false:=fun k x aq iS aE=>by
    have aa:=(uN k x aq).2 iS aE
    cases aw:a9.getD k false with
    | false=>rfl
    | true=>
      obtain⟨_,ok,_,hS⟩:=l9 k (by have:=(List.getElem?_eq_some_iff.1 aq).1; omega)
      have:=tr a9 inv k k (Nat.le_refl _) x ok aq hS (fun e he hb=>inv.closed k ok hS aw e he hb) i aa
      rw [kk] at this; cases this
   have Bn:hs=hs.take i++h::hs.drop (i+1):=by
    have Gp:i<hs.length:=by omega
    rw [List.getElem?_eq_getElem Gp] at dD
    cases dD
    rw [List.getElem_cons_drop]
    exact(List.take_append_drop i hs).symm
   have CM:(hs.take i).length=i:=by rw [List.length_take]; omega
   have qO:∀ (t:Nat) (τ:I),look E t=some τ→ ∀ (m:Nat) (x:dO),hs[m]? =some x→a9.getD (0+m) false=true→x.slot≠some t:=fun t τ ao m x aq ts fl=>by
    rw [Nat.zero_add] at ts
    have CN:i≠m:=fun e=>by subst e; rw [kk] at ts; cases ts
    obtain⟨_,q8,_,qQ⟩:=l9 m (by have:=(List.getElem?_eq_some_iff.1 aq).1; omega)
    have:=tr a9 inv m m (Nat.le_refl _) x q8 aq qQ (fun e he hb=>inv.closed m q8 qQ ts e he hb) i (Jy t τ ao m x aq fl i eE CN)
    rw [kk] at this; cases this
   have BK:=(pB.get cE i h o dD (by rw [Array.getElem?_toList]; exact bm))
   rw [Nat.zero_add] at BK
   have CO:=BK hd (iu (fun i=>a9.getD i false) hd E 0 hs) (hB (fun i=>a9.getD i false) hd 0 hs L) (fun t τ ao=>?_) (fun j e aE aQ=>?_) (ET hw)
   ·have hw:=Ax (K:=fun a W=> ∃ x,bV c (ow h.slot (h.τ (gX h.up i (jy hd i x))) (iu (fun i=>a9.getD i false) hd E 0 hs)) (mE (hB (fun i=>a9.getD i false) hd 0 hs L) (h.eV (gX h.up i (jy hd i x))) h.wr) a W) bm (CO a W st)
    refine wpOpIn_mono (fun gz W' ⟨x,nI⟩=>?_) hw
    have CP:∀ j,j≠i→jy hd i x j=hd j:=fun j aE=>by
     have:Nat.beq j i=false:=by
      cases hb:Nat.beq j i
      ·rfl
      exact absurd (eD.1 hb) aE
     simp only [jy,this,cond_false]
    have w7:∀ (j:Nat) (y:dO),hs[j]? =some y→a9.getD j false=true→gX y.up j (jy hd i x)=gX y.up j hd:=fun j y a6 aE=>by
     obtain⟨_,k3,_,ix⟩:=l9 j (by have:=(List.getElem?_eq_some_iff.1 a6).1; omega)
     refine Np (CP j fun e=>by subst e; rw [kk] at aE; cases aE) fun k aw=>CP k fun e=>?_
     have:=tr a9 inv j j (Nat.le_refl _) y k3 a6 ix (fun e he hb=>inv.closed j k3 ix aE e he hb) k aw
     subst e
     rw [kk] at this; cases this
    have w8:(a9.setIfInBounds i true).getD i false=true:=by simp [qx]
    have fW:∀ j,j≠i→ (a9.setIfInBounds i true).getD j false=a9.getD j false:=fun j aE=>getD_set_ne false (fun e=>aE e.symm)
    refine bR _ (jy hd i x) gz W' qw s9 ?_
    have J2:hB (fun j=>(a9.setIfInBounds i true).getD j false) (jy hd i x) 0 hs L=mE (hB (fun i=>a9.getD i false) hd 0 hs L) (h.eV (gX h.up i (jy hd i x))) h.wr:=by
     apply List.ext_getElem?
     intro j
     rw [v9,EF,v9]
     by_cases aE:h.wr.contains j=true
     ·rw [if_pos aE]
      have ay:∀ (ls:Nat→Bool) (g:Nat→Hid) (v:Option aT),(∀ k x,hs[k]? =some x→i<k→x.wr.contains j=true→ls k=false)→kE ls g j 0 hs v=(bif ls i then(kE ls g j 0 (hs.take i) v).map (fun _=>h.eV (gX h.up i g) j) else kE ls g j 0 (hs.take i) v):=fun ls g v CJ=>by
       conv=>lhs; rw [Bn]
       rw [AA,CM,Nat.zero_add,kE,aE,Bool.and_true,AO]
       intro k x aq hw
       rw [List.getElem?_drop] at aq
       exact CJ (i+1+k) x aq (by omega) hw
      have fq:∀ k x,hs[k]? =some x→i<k→x.wr.contains j=true→a9.getD k false=false:=fun k x aq iS hw=>Bm k x aq iS ⟨j,by simpa using hw,.inr aE⟩
      rw [ay (fun j=>(a9.setIfInBounds i true).getD j false) (jy hd i x) _ (fun k x aq iS hw=>by rw [fW k (by omega)]; exact fq k x aq iS hw),ay (fun j=>a9.getD j false) hd _ fq]
      simp only [w8,kk,cond_true,cond_false]
      rw [vG (ls':=fun j=>a9.getD j false) (hd':=hd) fun q x aq _=>by
       have hq:q<i:=by have:=(List.getElem?_eq_some_iff.1 aq).1; omega
       rw [List.getElem?_take,if_pos hq] at aq
       rw [Nat.zero_add]
       exact⟨fW q (by omega),fun ao=>w7 q x aq (by rw [fW q (by omega)] at ao; exact ao)⟩]
     rw [if_neg aE]
     refine vG fun q x aq hw=>?_
     rw [Nat.zero_add]
     have hq:q≠i:=fun e=>by subst e; rw [dD] at aq; cases aq; exact aE hw
     exact⟨fW q hq,fun ao=>w7 q x aq (by rw [fW q hq] at ao; exact ao)⟩
    rw [J2]
    refine nI.less fun t τ ao=>?_
    rcases HY ao with⟨j,y,aa,ad,aF,aX⟩ | ⟨aa,fq⟩
    ·rw [Nat.zero_add] at ad aX
     by_cases hE:j=i
     ·subst hE
      rw [dD] at aa
      cases aa
      exact⟨τ,by rw [aF,aX]; simp [ow,look,Nat.beq_refl],fun _ _ _ h=>h⟩
     rw [fW j hE] at ad
     rw [w7 j y aa ad] at aX
     have a0:=A0 (ls:=fun i=>a9.getD i false) (hd:=hd) (E:=E) (k:=0) aa (by rw [Nat.zero_add]; exact ad) aF fun q z hq df=>wz q j t z y hq aa df aF
     rw [Nat.zero_add,← aX] at a0
     refine⟨τ,?_,fun _ _ _ h=>h⟩
     cases pa:h.slot with
     | none=>exact a0
     | some s=>
       have dm:Nat.beq s t=false:=by
        cases hb:Nat.beq s t
        ·rfl
        have:=eD.1 hb; subst this
        exact absurd (wz j i s y h aa dD aF pa) hE
       simp only [ow,look,dm,cond_false]
       exact a0
    have hb:=qO t τ aa
    have a0:=AP (ls:=fun i=>a9.getD i false) (hd:=hd) (E:=E) (k:=0) hb
    refine⟨τ,?_,fun _ _ _ h=>h⟩
    cases pa:h.slot with
    | none=>simp only [ow]; rw [a0]; exact aa
    | some s=>
      have dm:Nat.beq s t=false:=by
       cases mL:Nat.beq s t
       ·rfl
       have:=eD.1 mL; subst this
       exact absurd pa (fq i h dD (by rw [Nat.zero_add]; exact w8))
      simp only [ow,look,dm,cond_false]
      rw [a0]; exact aa
   ·rcases Is ao with⟨j,aE,y,aa,ad,aF⟩ | aa
    ·have a0:=A0 (ls:=fun i=>a9.getD i false) (hd:=hd) (E:=E) (k:=0) aa (by rw [Nat.zero_add]; exact wS j aE) ad fun q z hq df=>wz q j t z y hq aa df ad
     rw [Nat.zero_add,← aF] at a0
     exact a0
    rw [AP (qO t τ aa)]; exact aa
   rw [v9] at aE ⊢
   rw [← aE]
   conv=>lhs; rw [Bn]
   rw [AA,AO]
   ·refine vG fun q x aq hw=>?_
    rw [Nat.zero_add]
    have hq:q<i:=by have:=(List.getElem?_eq_some_iff.1 aq).1; omega
    rw [List.getElem?_take,if_pos hq] at aq
    exact⟨wS q ((uN q x aq).1 hq ⟨j,by simpa using hw,aQ⟩),fun _=>rfl⟩
   intro q x aq hw
   rw [CM,Nat.zero_add]
   cases q with
   | zero=>exact kk
   | succ q=>
     simp only [List.getElem?_cons_succ] at aq
     rw [List.getElem?_drop] at aq
     exact Bm (i+(q+1)) x (by rw [← aq]; congr 1; omega) (by omega) ⟨j,by simpa using hw,.inl aQ⟩
theorem ag.Ph {np:Nat} {pe:Nat} {l:List Oper} (hm:c.P.follows .mixedOrders=true) (hs:List dO) (ds:List (Option Nat×List Nat×List Nat×List Nat)) (es:List Nat) (ie:jM hs=ds) (tt:E.map (·.1)=es) (h1:Gv.kP l.toArray ds es=true) (hw:∀ h∈hs,∀ j∈h.wr,j<np∨L.length≤j)
 (cE:pB c l.toArray Q hs E L np 0 l hs) (b1:∀ hd,ae c Q .normal (iu (fun _=>true) hd E 0 hs) (hB (fun _=>true) hd 0 hs L)):ag c Q (.region pe l.toArray true) E L:=fun a W s=>by
 subst ie tt
 refine wpIn_region_any hm ?_
 have Ca:HeadInv .any l.toArray l.toArray.size (Array.replicate l.toArray.size false):=
  {size:=by simp
   closed:=fun j k3 _ ao=>by rw [getD_replicate_false] at ao; cases ao
   tail:=fun t aa ad=>by omega }
 refine Va hw (ops:=l.toArray) (Q:=Q) h1 (by simpa using cE) b1 l.toArray.size (Array.replicate l.toArray.size false) (fun _ _=>none) a W.drew (Nat.le_trans (List.length_filter_le _ _) (by simp)) Ca ?_
 have aa:∀ (hs:List dO) (k:Nat),iu (fun i=>(Array.replicate l.toArray.size false).getD i false) (fun _ _=>none) E k hs=E:=by
  intro hs
  induction hs with
  | nil=>intro k; rfl
  | cons h r bR=>
    intro k
    have ad:=bR (k+1)
    simp only [getD_replicate_false] at ad
    unfold iu
    simp only [getD_replicate_false]
    exact ad
 have ad:∀ (hs:List dO) (k:Nat) (L:List aT),hB (fun i=>(Array.replicate l.toArray.size false).getD i false) (fun _ _=>none) k hs L=L:=by
  intro hs
  induction hs with
  | nil=>intro k L; rfl
  | cons h r bR=>intro k L; rw [hB,bR]; simp only [getD_replicate_false,cond_false]
 rw [aa,ad]
 exact s.world (Fr.drew W)
theorem ag.kP {pe:Nat} {l:List Oper} (hm:c.P.follows .mixedOrders=true) (hs:List dO) (ds:List (Option Nat×List Nat×List Nat×List Nat)) (es:List Nat) (ie:jM hs=ds) (tt:E.map (·.1)=es) (h1:Gv.kP l.toArray ds es=true)
 (cE:Bl c l.toArray Q hs E L 0 l hs) (b1:∀ hd,ae c Q .normal (iu (fun _=>true) hd E 0 hs) (hB (fun _=>true) hd 0 hs L)):ag c Q (.region pe l.toArray true) E L:=
 ag.Ph (np:=L.length) hm hs ds es ie tt h1 (fun _ _ j _=>by omega) cE.RK b1
theorem Qy {hs:List dO} {ds:List (Option Nat×List Nat×List Nat×List Nat)} {np:Nat} (ie:jM hs=ds) (h:(ds.all fun d=>d.2.2.2.all fun j=>Nat.blt j np)=true):∀ h∈hs,∀ j∈h.wr,j<np∨L.length≤j:=fun x aq j aE=>by
 subst ie
 have aa:=List.all_eq_true.1 h (x.slot,x.up,x.rd,x.wr) (List.mem_map.2 ⟨x,aq,rfl⟩)
 have ad:=List.all_eq_true.1 aa j aE
 exact .inl (Nat.blt_eq.mp ad)
theorem ag.qk {pe:Nat} {l:List Oper} (np:Nat) (hm:c.P.follows .mixedOrders=true) (hs:List dO) (ds:List (Option Nat×List Nat×List Nat×List Nat)) (es:List Nat) (ie:jM hs=ds) (tt:E.map (·.1)=es) (h1:Gv.kP l.toArray ds es=true) (hw:(ds.all fun d=>d.2.2.2.all fun j=>Nat.blt j np)=true)
 (cE:pB c l.toArray Q hs E L np 0 l hs) (b1:∀ hd,ae c Q .normal (iu (fun _=>true) hd E 0 hs) (hB (fun _=>true) hd 0 hs L)):ag c Q (.region pe l.toArray true) E L:=
 ag.Ph hm hs ds es ie tt h1 (Qy ie hw) cE b1
theorem ae.fin {slot:Option Nat} {up wr:List Nat} {i:Nat} {hd:Nat→Hid} {τ:(Nat→Hid)→I} {eV:(Nat→Hid)→Nat→aT} {E' zd:List (Nat×I)} {ax L2:List aT} (x:Hid) (aG:zd=ow slot (τ (gX up i (jy hd i x))) E') (ar:L2=mE ax (eV (gX up i (jy hd i x))) wr):
 ae c (tF (fun a W=> ∃ x,bV c (ow slot (τ (gX up i (jy hd i x))) E') (mE ax (eV (gX up i (jy hd i x))) wr) a W) Q) .normal zd L2:=fun a W s=>by
 subst aG ar
 exact⟨x,s⟩
theorem ae.place {z:Exit} {e:aT} (j:Nat) (aE:L[j]? =some ⟨none,.dead⟩) (k:ae c Q z E (L.set j e)):ae c Q z E (e::L):=fun a W s=>by
 refine k a W (s.sub (fun x aq=>?_) ?_)
 ·rcases List.mem_or_eq_of_mem_set aq with h | h
  ·exact List.mem_cons.2 (.inr h)
  exact List.mem_cons.2 (.inl h)
 have aa:=ub aE
 have ad:(L.set j e).Perm (e::L.eraseIdx j):=by
  have aF:(L.set j e)[j]? =some e:=by rw [List.getElem?_set_self (List.getElem?_eq_some_iff.1 aE).1]
  have aX:=ub aF
  rwa [List.eraseIdx_set_eq] at aX
 have a0:=vR (aa.cons e)
 have bn:aV (e::⟨none,.dead⟩::L.eraseIdx j)=aV (e::L.eraseIdx j):=by cases aw:e.key <;> simp [aV,aw]
 rw [bn] at a0
 exact(vR ad).nodup_iff.2 (a0.nodup_iff.1 s.nodup)
theorem ae.back {z:Exit} {e kJ:aT} (j:Nat) (aE:L[j]? =some kJ) (k:ae c Q z E (L.set j e)):ae c Q z E (e::L.eraseIdx j):=fun a W s=>by
 have aF:(L.set j e)[j]? =some e:=by rw [List.getElem?_set_self (List.getElem?_eq_some_iff.1 aE).1]
 have aX:=ub aF
 rw [List.eraseIdx_set_eq] at aX
 exact k a W (s.perm aX.symm)
theorem ag.uJ {z:Code} (n:Nat) (k:ag c Q z E (L++List.replicate n ⟨none,.dead⟩)):ag c Q z E L:=fun a W s=>by
 refine k a W ?_
 have aw:aV (L++List.replicate n ⟨none,.dead⟩)=aV L:=by
  rw [fv]
  have:∀ n,aV (List.replicate n (⟨none,.dead⟩:aT))= []:=fun n=>by
   induction n with
   | zero=>rfl
   | succ n bR=>rw [List.replicate_succ]; simp [aV,bR]
  rw [this,List.append_nil]
 exact
 {defers:=s.defers
  size:=s.size
  env:=fun t τ ao=>by rw [aw]; exact s.env t τ ao
  dQ:=s.dQ
  own:=fun e he=>by
   rw [aw]
   rcases List.mem_append.1 he with he | he
   ·exact s.own e he
   rw [(List.mem_replicate.1 he).2]; trivial
  nodup:=by rw [aw]; exact s.nodup
  lt:=by rw [aw]; exact s.lt
  gl:=by rw [aw]; exact s.gl
  fg:=by rw [aw]; exact s.fg }
theorem ag.ZK {z:Code} (n m:Nat) (k:ag c Q z E (L.take m++(List.replicate n ⟨none,.dead⟩++L.drop m))):ag c Q z E L:=by
 refine ag.uJ n fun a W s=>k a W (s.perm ?_)
 have e:L=L.take m++L.drop m:=(List.take_append_drop m L).symm
 conv=>lhs; rw [e]
 rw [List.append_assoc]
 exact List.perm_append_comm.append_left _
theorem ae.ez {z:Exit} {L2:List aT} (h:L=L2) (k:ae c Q z E L2):ae c Q z E L:=by subst h; exact k
theorem ae.l3 {z:Exit} {key:Option Nat} {n m cap:Nat} (gK:Nat) (ao:look E gK=some (.eq (aS key n cap))) (aR:n=m) (k:ae c Q z ((gK,.eq (aS key m cap))::E) L):ae c Q z E L:=fun a W s=>by
 subst aR
 refine k a W (s.less fun t τ h=>?_)
 simp only [look] at h
 by_cases e:Nat.beq gK t=true
 ·rw [e] at h
  simp only [cond_true] at h
  have:=eD.1 e
  subst this
  exact⟨τ,by rw [ao,h],fun _ _ _ h=>h⟩
 simp only [Bool.not_eq_true] at e
 rw [e] at h
 exact⟨τ,h,fun _ _ _ h=>h⟩
variable {hs:List dO} {i d:Nat} {up rd:List Nat} {eV:(Nat→Hid)→Nat→aT} {o:Oper}
theorem iQ {τ:I} (bQ:o.guard=none) (hd:o.dst=some d) (aR:Nat.blt d c.n=true)
 (h:∀ (hd:Nat→Hid) (E':List (Nat×I)) (ax:List aT),(∀ t τ,look (ni hd hs E up) t=some τ→look E' t=some τ)→ (∀ j e,(hB (fun _=>true) hd 0 (hs.take i) L)[j]? =some e→rd.contains j=true→ax[j]? =some e)→cf c E' ax o τ):
 cI c ops Q hs E L i o ⟨some d,up,rd,[],fun _=>τ,eV⟩:=fun acM E' ax aG ar=>
 ai.v (h acM E' ax aG ar) bQ hd aR (ai.nil (ae.fin (fun _=>none) rfl rfl))
variable {ty t:TypeId} {pos:String} {af:Array Edge}
theorem ai.QZ {α:Type} [aj α] {rest:List Oper} {bf e n:Nat} {z:α} {r0 r:List α} {bz:List (Nat×Operand)} (hu:c.P.underlying t=some (.slice e)) (e6:bF c.P e α) (g9:cP c.P e z) (hs:Nat.beq (aj.size α) 0=false) (aR:Nat.ble (n * aj.size α) 16777216=true)
 (a7:ob c E L (List.replicate n z) bz r0) (aQ:r0=r) (k4:Nat.blt bf c.n=true) (k:∀ p,ai c ops Q rest ((bf,.eq (aS p r.length n))::E) (⟨p,.row e r n⟩::L)):
 ai c ops Q (⟨some bf,.buildSlice t n bz.toArray,ty,pos,af,none⟩::rest) E L:=by subst aQ; exact ai.pN hu e6 g9 hs aR a7 k4 k
variable {g:Option (Nat×Bool)} {x y:Operand}
theorem Wq {a b:BitVec 64} {bf:Option Tmp} {ats:Array TypeId} (aq:bd c E L x (.of a)) (a6:bd c E L y (.of b)):cf c E L ⟨bf,.call ⟨.builtin .min,#[x,y],ats⟩,ty,pos,af,g⟩ (.of (wO a b)):= .pure fun A W s=>
 ⟨.int .u64 (wO a b).toNat,by
   simp [execOp,resolve,invoke,builtin,Builtin.min_,Builtin.min2,gj.1 (aq A W s),gj.1 (a6 A W s)]
   unfold wO
   split <;> split <;> first | rfl | (rename_i aa ad; simp only [BitVec.le_def] at *; omega),gj.2 rfl⟩
end
section
variable {c:dp} {E:List (Nat×I)} {L:List aT} {ops:Array Oper} {Q:Exit→Act→World→Prop}
variable {d:Option Tmp} {ty:TypeId} {pos:String} {af:Array Edge} {g:Option (Nat×Bool)} {x y:Operand} {t t2:TypeId}
def Src (c:dp) (E:List (Nat×I)) (L:List aT) (y:Operand) (N:Nat) {α:Type} [aj α] (vs:List α):Prop:=
 ∀ a W,bV c E L a W→ (Builtin.lenOf (a.eval y)).run c.P W= .ok N W∧ ∃ cells:List Value,(Builtin.firstCells (aj.size α) vs.length (a.eval y)).run c.P W= .ok cells.toArray W∧g4 (aV L++c.ca) W cells vs∧ ∀ v∈cells,v.oneCell'=true
theorem ai.FB {rest:List Oper} {i e p off bf dLen dCap N T:Nat} {cp cp':dZ} {α:Type} [aj α] {vs:List α} (hu:c.P.underlying t=some (.slice e)) (e6:bF c.P e α)
 (aq:bd c E L x (.eq (.slice (some ⟨p,off,none⟩) dLen dCap))) (a6:Src c E L y N vs) (J0:Nat.min N dLen=vs.length) (ar:L[i]? =some ⟨some p,cp⟩) (aR:Nat.blt bf c.n=true)
 (Ks:∀ A W o cells,cp.holds A W o→g4 A W cells vs→ ∃ cs,o= .cells cs T (0,0)∧off+cells.length≤cs.size∧cp'.holds A W (.cells (cs.toList.take off++cells++cs.toList.drop (off+cells.length)).toArray T (0,0)))
 (k:ai c ops Q rest ((bf,.of (vs.length:Int))::E) (L.set i ⟨some p,cp'⟩)):
 ai c ops Q (⟨some bf,.call ⟨.builtin .copy,#[x,y],#[t,t2]⟩,ty,pos,af,none⟩::rest) E L:=fun a W s=>by
 have k4:bf<c.n:=by simpa using aR
 have aa:a.eval x=_:=aq a W s
 obtain⟨ao,cells,al,aQ,y1⟩:=a6 a W s
 obtain⟨o,bm,cE⟩:=s.own _ (List.mem_of_getElem? ar)
 obtain⟨cs,rfl,FW,wQ⟩:=Ks _ _ _ _ cE aQ
 obtain⟨gB,er,eX⟩:=e6.info
 have kH:=run_storeCells_at (P:=c.P) p off T cells 0 cs W bm (by omega) y1
 simp only [Nat.add_zero] at kH
 have kl:(execOp a.eval ⟨some bf,.call ⟨.builtin .copy,#[x,y],#[t,t2]⟩,ty,pos,af,none⟩).run c.P W= .ok (.value (goInt vs.length)) (W.setRow p (cs.toList.take off++cells++cs.toList.drop (off+cells.length)).toArray):=by
  simp [execOp,resolve,invoke,builtin,Builtin.copy_,aa,run_underlying hu,ao,J0,Go.sizeOf,typeInfo,er,eX,al,kH]
 refine iD rfl (R:=fun v hW=>v=goInt vs.length∧hW=W.setRow p (cs.toList.take off++cells++cs.toList.drop (off+cells.length)).toArray) (.l1 kl ⟨rfl,rfl⟩) fun v hW ⟨a2,hw⟩=>?_
 subst a2
 subst hw
 exact k _ _ ((s.store ar bm wQ).put k4 (of_int.2 rfl))
theorem ER {i T cap lo N k:Nat} {key:Option Nat} {α:Type} [aj α] {xs:List α} (a6:bd c E L y (.eq (ib key lo N cap (aj.size α)))) (ar:L[i]? =some ⟨key,.row T xs cap⟩) (aw:0<k) (fW:lo+k≤xs.length):
 Src c E L y N ((xs.drop lo).take k):=fun a W s=>by
 obtain⟨p,cs,rfl,e3,av,aW,bB,cn⟩:=s.rowAt ar (by omega)
 have aa:a.eval y=_:=a6 a W s
 have lp:cap≠lo:=by omega
 have a2:a.eval y= .slice (some ⟨p,lo * aj.size α,none⟩) N (cap - lo):=by rw [aa]; simp [ib,lp]
 have hlen:((xs.drop lo).take k).length=k:=by rw [List.length_take,List.length_drop]; omega
 have qL:cs.toList.length=cap * aj.size α:=by simpa using av
 have abW:(lo+k) * aj.size α≤xs.length * aj.size α:=Nat.mul_le_mul_right _ fW
 have FV:xs.length * aj.size α≤cap * aj.size α:=Nat.mul_le_mul_right _ aW
 rw [Nat.add_mul] at abW
 have Rl:((cs.toList.drop (lo * aj.size α)).take (k * aj.size α)).length=k * aj.size α:=by rw [List.length_take,List.length_drop]; omega
 have gm:g4 (aV L++c.ca) W ((cs.toList.drop (lo * aj.size α)).take (k * aj.size α)) ((xs.drop lo).take k):=by
  refine⟨by rw [Rl,hlen],fun j aE=>?_⟩
  rw [hlen] at aE
  have a0:=cn.2 (lo+j) (by omega)
  have eE:=yr (s:=aj.size α) aE
  have ael:=yr (s:=aj.size α) (show lo+j<xs.length by omega)
  rw [List.drop_take,List.take_take,Nat.min_eq_left (by omega)] at a0
  rw [List.drop_take,List.take_take,Nat.min_eq_left (by omega),List.drop_drop,← Nat.add_mul]
  simpa using a0
 have fX:=run_loadCells_list (P:=c.P) W ⟨p,lo * aj.size α,none⟩ ((cs.toList.drop (lo * aj.size α)).take (k * aj.size α)) fun j v a2=>by
  rw [jE,cell_of_row W p _ cs T (0,0) e3]
  rw [List.getElem?_take] at a2
  split at a2
  ·rw [List.getElem?_drop] at a2; simpa using a2
  cases a2
 rw [Rl] at fX
 refine⟨by rw [a2]; rfl,(cs.toList.drop (lo * aj.size α)).take (k * aj.size α),?_,gm,gm.one⟩
 rw [a2]
 simp only [Builtin.firstCells]
 rw [hlen]
 exact fX
theorem Ik {p lo n cap size:Nat} (h:cap≠lo):ib (some p) lo n cap size=Value.slice (some ⟨p,lo * size,none⟩) n (cap - lo):=by simp [ib,h]
theorem Oo {i T cap:Nat} {key:Option Nat} {α:Type} [aj α] {xs:List α} (a6:bd c E L y (.eq (aS key xs.length cap))) (ar:L[i]? =some ⟨key,.row T xs cap⟩) (aq:0<xs.length):Src c E L y xs.length xs:=by
 have:=ER (lo:=0) (k:=xs.length) (N:=xs.length) (by rw [x9]; exact a6) ar aq (by omega)
 simpa using this
theorem Fb {key:Option Nat} {n cap size:Nat} (h:bd c E L x (.eq (ib key 0 n cap size))):bd c E L x (.eq (aS key n cap)):=by rw [← x9 (size:=size)]; exact h
theorem IM {p lo n cap size:Nat} (al:cap≠lo) (h:bd c E L x (.eq (ib (some p) lo n cap size))):bd c E L x (.eq (.slice (some ⟨p,lo * size,none⟩) n (cap - lo))):=by rw [← Ik al]; exact h
def dZ.Co {α:Type} [aj α] (T:TypeId) (xs:List α) (i m cap:Nat):dZ where
 holds A W o:= ∃ cs,o= .cells cs T (0,0)∧cs.size=cap * aj.size α∧xs.length+m≤cap∧cap≤maxLen∧g4 A W (cs.toList.take (i * aj.size α)) (xs.take i)∧
  g4 A W ((cs.toList.drop ((i+m) * aj.size α)).take ((xs.length - i) * aj.size α)) (xs.drop i)
 m4:=False
 mono e h:=let⟨cs,aa,ad,aF,aX,a0,bn⟩:=h; ⟨cs,aa,ad,aF,aX,a0.mono e,bn.mono e⟩
theorem W5 {α:Type} [aj α] {T i m cap:Nat} {xs:List α} (ak:i≤xs.length) (hm:xs.length+m≤cap) {A W o cells} (h:(dZ.row T xs cap).holds A W o) (al:g4 A W cells (xs.drop i)):
 ∃ cs,o= .cells cs T (0,0)∧ (i+m) * aj.size α+cells.length≤cs.size∧ (dZ.Co T xs i m cap).holds A W (.cells (cs.toList.take ((i+m) * aj.size α)++cells++cs.toList.drop ((i+m) * aj.size α+cells.length)).toArray T (0,0)):=by
 obtain⟨cs,rfl,av,aW,bB,cn⟩:=h
 have qL:cs.toList.length=cap * aj.size α:=by simpa using av
 have lp:cells.length=(xs.length - i) * aj.size α:=by rw [al.1,List.length_drop]
 have ay:(i+m) * aj.size α+(xs.length - i) * aj.size α=(xs.length+m) * aj.size α:=by rw [← Nat.add_mul]; congr 1; omega
 have aO:(xs.length+m) * aj.size α≤cap * aj.size α:=Nat.mul_le_mul_right _ hm
 have cK:i * aj.size α≤ (i+m) * aj.size α:=Nat.mul_le_mul_right _ (by omega)
 have di:i * aj.size α≤xs.length * aj.size α:=Nat.mul_le_mul_right _ ak
 have fQ:(cs.toList.take ((i+m) * aj.size α)).length=(i+m) * aj.size α:=by rw [List.length_take]; omega
 refine⟨cs,rfl,by omega,_,rfl,?_,hm,bB,?_,?_⟩
 ·simp only [List.size_toArray,List.length_append,List.length_take,List.length_drop]; omega
 ·rw [List.toList_toArray,List.append_assoc,List.take_append_of_le_length (by rw [fQ]; omega),List.take_take,Nat.min_eq_left cK]
  have:=ED ak (⟨cs,rfl,av,aW,bB,cn⟩:(dZ.row T xs cap).holds A W (.cells cs T (0,0)))
  obtain⟨acN,aa,_,_,_,a0⟩:=this
  cases aa
  rwa [List.length_take,Nat.min_eq_left ak] at a0
 rw [List.toList_toArray,List.append_assoc,List.drop_left' fQ,← lp,List.take_left]
 exact al
theorem Wp {α:Type} [aj α] {T i cap:Nat} {xs vs:List α} (ak:i≤xs.length) {A W o cells} (h:(dZ.Co T xs i vs.length cap).holds A W o) (al:g4 A W cells vs):
 ∃ cs,o= .cells cs T (0,0)∧i * aj.size α+cells.length≤cs.size∧ (dZ.row T (xs.take i++vs++xs.drop i) cap).holds A W (.cells (cs.toList.take (i * aj.size α)++cells++cs.toList.drop (i * aj.size α+cells.length)).toArray T (0,0)):=by
 obtain⟨cs,rfl,av,aW,bB,cn,gy⟩:=h
 have qL:cs.toList.length=cap * aj.size α:=by simpa using av
 have lp:cells.length=vs.length * aj.size α:=al.1
 have kJ:i * aj.size α+vs.length * aj.size α=(i+vs.length) * aj.size α:=by rw [← Nat.add_mul]
 have ay:(i+vs.length) * aj.size α+(xs.length - i) * aj.size α=(xs.length+vs.length) * aj.size α:=by rw [← Nat.add_mul]; congr 1; omega
 have aO:(xs.length+vs.length) * aj.size α≤cap * aj.size α:=Nat.mul_le_mul_right _ aW
 have hlen:(xs.take i++vs++xs.drop i).length=xs.length+vs.length:=by simp; omega
 refine⟨cs,rfl,by omega,_,rfl,?_,by rw [hlen]; exact aW,bB,?_⟩
 ·simp only [List.size_toArray,List.length_append,List.length_take,List.length_drop]; omega
 rw [List.toList_toArray,hlen]
 have jG:=tZ (tZ cn al) gy
 have fQ:(cs.toList.take (i * aj.size α)++cells).length=(i+vs.length) * aj.size α:=by rw [List.length_append,List.length_take]; omega
 have ig:(cs.toList.take (i * aj.size α)++cells++cs.toList.drop (i * aj.size α+cells.length)).take ((xs.length+vs.length) * aj.size α)=cs.toList.take (i * aj.size α)++cells++(cs.toList.drop ((i+vs.length) * aj.size α)).take ((xs.length - i) * aj.size α):=by
  rw [List.take_append,fQ,List.take_of_length_le (by omega),lp,kJ]
  congr 2
  omega
 rw [ig]
 exact jG
theorem HU {α:Type} [aj α] {T lo cap:Nat} {xs vs:List α} (aw:lo+vs.length≤xs.length) {A W o cells} (h:(dZ.row T xs cap).holds A W o) (al:g4 A W cells vs):
 ∃ cs,o= .cells cs T (0,0)∧lo * aj.size α+cells.length≤cs.size∧ (dZ.row T (xs.take lo++vs++xs.drop (lo+vs.length)) cap).holds A W (.cells (cs.toList.take (lo * aj.size α)++cells++cs.toList.drop (lo * aj.size α+cells.length)).toArray T (0,0)):=by
 obtain⟨cs,rfl,av,aW,bB,cn⟩:=h
 have qL:cs.toList.length=cap * aj.size α:=by simpa using av
 have lp:cells.length=vs.length * aj.size α:=al.1
 have kJ:lo * aj.size α+vs.length * aj.size α=(lo+vs.length) * aj.size α:=by rw [← Nat.add_mul]
 have ay:(lo+vs.length) * aj.size α≤xs.length * aj.size α:=Nat.mul_le_mul_right _ aw
 have aO:xs.length * aj.size α≤cap * aj.size α:=Nat.mul_le_mul_right _ aW
 have hlen:(xs.take lo++vs++xs.drop (lo+vs.length)).length=xs.length:=by simp; omega
 refine⟨cs,rfl,by omega,_,rfl,?_,by rw [hlen]; exact aW,bB,?_⟩
 ·simp only [List.size_toArray,List.length_append,List.length_take,List.length_drop]; omega
 rw [List.toList_toArray,hlen]
 have gy:=Nm (lo:=lo) cn al aw
 have e:(cs.toList.take (lo * aj.size α)++cells++cs.toList.drop (lo * aj.size α+cells.length)).take (xs.length * aj.size α)=(cs.toList.take (xs.length * aj.size α)).take (lo * aj.size α)++cells++(cs.toList.take (xs.length * aj.size α)).drop (lo * aj.size α+cells.length):=by
  have cK:(cs.toList.take (lo * aj.size α)++cells).length=lo * aj.size α+cells.length:=by rw [List.length_append,List.length_take]; omega
  rw [List.take_append,cK,List.take_of_length_le (by omega),List.take_take,Nat.min_eq_left (by omega),List.drop_take]
 rw [e]
 exact gy
theorem XT {p n cap e:Nat} (hu:c.P.underlying t=some (.slice e)) (aq:bd c E L x (.eq (aS (some p) n cap))):cf c E L ⟨d,.call ⟨.builtin .cap,#[x],#[t]⟩,ty,pos,af,g⟩ (.of (cap:Int)):= .pure fun a W s=>by
 have aa:a.eval x=_:=aq a W s
 exact⟨.int .i64 cap,by simp [execOp,resolve,invoke,builtin,Builtin.cap_,aa,aS,run_underlying hu,goInt],of_int.2 rfl⟩
theorem sw {p n cap:Nat} {α:Type} [aj α] {e:TypeId} {lo ak:Option Operand} {m h:Nat} {Df Dg:Int} (hu:c.P.underlying t=some (.slice e)) (e6:bF c.P e α) (aq:bd c E L x (.eq (aS (some p) n cap)))
 (fW:vc c E L lo Df 0) (dD:vc c E L ak Dg n) (hm:Df=m) (aR:Dg=h) (cE:m≤h∧h≤cap):
 cf c E L ⟨d,.slice t x lo ak none,ty,pos,af,g⟩ (.eq (ib (some p) m (h - m) cap (aj.size α))):= .pure fun a W s=>by
 subst hm; subst aR
 obtain⟨rW,nh⟩:=cE
 obtain⟨gB,er,eX⟩:=e6.info
 have aa:a.eval x=_:=aq a W s
 refine⟨_,?_,rfl⟩
 simp only [ib]
 have ar:∀ v,v=Value.int .i64 m→ (Instr.sliceBound v h .sliceB).run c.P W= .ok m W:=fun v a2=>px rW a2
 have j8:∀ v,v=Value.int .i64 h→ (Instr.sliceBound v cap .sliceAcap).run c.P W= .ok h W:=fun v a2=>px (by omega) a2
 generalize eE:(h:Int)=Sd at dD
 generalize CE:(m:Int)=Se at fW
 generalize CF:(n:Int)=Sf at dD
 generalize RD:(0:Int)=Sg at fW
 cases fW with
 | none=>
   have g8:m=0:=by omega
   cases dD with
   | none=>
     have nh:h=n:=by omega
     subst nh
     subst g8
     simp [execOp,Instr.sliceAt,Instr.slice,Instr.sliceBounds,aa,aS,run_underlying hu,Go.sizeOf,typeInfo,er,eX,jE]
   | some cE=>
     subst eE
     subst g8
     simp [execOp,Instr.sliceAt,Instr.slice,Instr.sliceBounds,aa,aS,run_underlying hu,Go.sizeOf,typeInfo,er,eX,jE,j8 _ (of_int.1 (cE a W s))]
 | some ao=>
   subst CE
   cases dD with
   | none=>
     have nh:h=n:=by omega
     subst nh
     simp [execOp,Instr.sliceAt,Instr.slice,Instr.sliceBounds,aa,aS,run_underlying hu,Go.sizeOf,typeInfo,er,eX,jE,ar _ (of_int.1 (ao a W s))]
     split <;> rfl
   | some cE=>
     subst eE
     simp [execOp,Instr.sliceAt,Instr.slice,Instr.sliceBounds,aa,aS,run_underlying hu,Go.sizeOf,typeInfo,er,eX,jE,ar _ (of_int.1 (ao a W s)),j8 _ (of_int.1 (cE a W s))]
     split <;> rfl
theorem Zq {f:FuncId} {fn:Func} {p q T U cap cap' i j e tR q9 Sl iA lS Sm kt:Nat} {α:Type} [aj α] {xs vs:List α} (Cd:Nat.beq (aj.size α) 0=false)
 (a7:c.P.funcs[f]? =some fn) (Z1:(fn.name== "runtime.NumGoroutine")=false) (hb:fn.body.isNone=true) (aR:Extern.findNext fn=none)
 (he:Extern.find fn=some (Extern.SlicesOverlaps.overlaps #[t,t] #[tR])) (hu:c.P.underlying t=some (.slice e)) (e6:bF c.P e α)
 (aq:bd c E L x (.eq (.slice (some ⟨q,Sm,none⟩) q9 Sl))) (a6:bd c E L y (.eq (.slice (some ⟨p,kt,none⟩) iA lS)))
 (ak:L[i]? =some ⟨some p,.row T xs cap⟩) (aE:L[j]? =some ⟨some q,.row U vs cap'⟩) (Gc:p≠q) (uI:0<cap):
 cf c E L ⟨d,.call ⟨.value (.func f),#[x,y],#[t,t]⟩,ty,pos,af,g⟩ (.of false):= .pure fun a W s=>by
 obtain⟨o,bm,cs,rfl,av,aW,bB,cn⟩:=s.own _ (List.mem_of_getElem? ak)
 obtain⟨o',tg,eh,rfl,aZ,bP,cT,eY⟩:=s.own _ (List.mem_of_getElem? aE)
 obtain⟨gB,er,eX⟩:=e6.info
 have aa:a.eval x=_:=aq a W s
 have ad:a.eval y=_:=a6 a W s
 have j6:aj.size α≠0:=fun h=>by rw [h] at Cd; cases Cd
 have dm:cs.size≠0:=by rw [av]; exact Nat.mul_ne_zero (by omega) j6
 have acO:=Lib.run_overlaps_apart (P:=c.P) W t tR e hu (aj.size α) (fun w=>by simp [Go.sizeOf,typeInfo,er,eX]) ⟨q,Sm,none⟩ ⟨p,kt,none⟩ q9 Sl iA lS (fun h=>Gc h.symm) U T eh.size cs.size
  (by simp [World.shape?,tg]) (by simp [World.shape?,bm]) dm (by simp [World.frozen?,tg]) (by simp [World.frozen?,tg])
 refine⟨.bool false,?_,by exact of_bool.2 rfl⟩
 have bT:a.eval (.func f)= .func (.func f) #[] #[]:=rfl
 simp [execOp,resolve,Deferred.ofValue,bT,invoke,run_callFunc_extern a7 Z1 hb aR he,aa,ad,acO]
theorem ai.aa8 {α:Type} [aj α] {rest:List Oper} {bf i e bytes cap m k p T:Nat} {GM:IntKind} {xs:List α} {z:α} (hu:c.P.underlying t=some (.slice e)) (iT:c.P.underlying t2=some (.int GM)) (e6:bF c.P e α) (g9:cP c.P e z) (Cd:Nat.beq (aj.size α) 0=false)
 (w4:(c.P.info? e).map (·.bytes)=some bytes) (aq:bd c E L x (.eq (ib (some p) 0 m cap (aj.size α)))) (a6:bd c E L y (.of (k:Int))) (ar:L[i]? =some ⟨some p,.row T xs cap⟩) (hm:m≤xs.length) (aw:0<k) (bQ:cap<m+k)
 (te:(m+k) * bytes≤140737488355328) (mL:m+k≤maxLen) (aR:Nat.blt bf c.n=true)
 (po:∀ q cap',ai c ops Q rest ((bf,.eq (aS (some q) (m+k) cap'))::E) (⟨some q,.row e (xs.take m++List.replicate k z) cap'⟩::L)):
 ai c ops Q (⟨some bf,.call ⟨.builtin .append,#[x,y],#[t,t2]⟩,ty,pos,af,none⟩::rest) E L:=fun a W s=>by
 obtain⟨gB,eF,er,df,r2⟩:=g9.zero
 have nz:gB.size=aj.size α:=by
  obtain⟨i2,aa,ad⟩:=e6.info
  rw [er] at aa; cases aa; exact ad
 have IS:gB.bytes=bytes:=by simpa [er] using w4
 subst IS
 have w5:eF.cells.size=aj.size α:=by have:=aj.len (r2 [] W).2; simpa using this
 have j6:aj.size α≠0:=fun h=>by rw [h] at Cd; cases Cd
 have k4:bf<c.n:=by simpa using aR
 have aa:a.eval x= .slice (some ⟨p,0,none⟩) m cap:=by
  have:=aq a W s
  rw [x9] at this
  exact this
 obtain⟨o,bm,cs,rfl,av,aW,bB,cn⟩:=s.own _ (List.mem_of_getElem? ar)
 have nd:maxLen=9223372036854775807:=rfl
 have ad:a.eval y= .int .i64 k:=of_int.1 (a6 a W s)
 have abX:=ED hm (⟨cs,rfl,av,aW,bB,cn⟩:(dZ.row T xs cap).holds (aV L++c.ca) W (.cells cs T (0,0)))
 obtain⟨acN,ay,_,_,_,KJ⟩:=abX
 cases ay
 have J3:(xs.take m).length=m:=by rw [List.length_take]; omega
 rw [J3] at KJ
 have sW:∀ (j:Nat) u,(cs.toList.take (m * aj.size α))[j]? =some u→W.drew.cell? ((⟨p,0,none⟩:Addr).add j)=some u:=by
  intro j u mM
  rw [List.getElem?_take] at mM
  split at mM
  ·rw [jE,Nat.zero_add,cell_of_row W.drew p j cs T (0,0) bm]; simpa using mM
  cases mM
 have hold:=run_loadCells_list (P:=c.P) W.drew ⟨p,0,none⟩ _ sW
 rw [KJ.1,J3] at hold
 have aQ:=Lib.run_append_grow_zeros (P:=c.P) W t t2 ty e gB eF .i64 GM hu iT er df (some ⟨p,0,none⟩) m cap _ (by simp only [Builtin.firstCells]; rw [nz]; exact hold) k aw (by omega) bQ (by omega)
  (by have:k * gB.bytes≤ (m+k) * gB.bytes:=Nat.mul_le_mul_right _ (by omega)
      omega) (growslice_fits bQ te)
 have qM:=grownCap_ge W (m+k) cap e
 have hle:=grownCap_le_maxLen W (m+k) cap e mL
 have Gm:=r2 (aV L++c.ca) W
 have qN:=AN Gm k j6
 have KE:Builtin.zeroCells eF.cells k=(Array.range (k * aj.size α)).map (eF.cells[· % eF.cells.size]!):=by rw [Builtin.zeroCells,w5]
 rw [← KE] at qN
 have yR:=(tZ KJ qN).mono (Ext.dQ (Fr.drew W))
 have hlen:(xs.take m++List.replicate k z).length=m+k:=by rw [List.length_append,J3,List.length_replicate]
 have kH:=(s.world (Fr.drew W)).alloc (o:= .cells ((cs.toList.take (m * aj.size α)).toArray++Builtin.zeroCells eF.cells k++Builtin.zeroCells eF.cells (grownCap W (m+k) cap e - (m+k))) e)
  (cp:= .row e (xs.take m++List.replicate k z) (grownCap W (m+k) cap e))
  (Ir (T:=e) yR (ds:=(Builtin.zeroCells eF.cells (grownCap W (m+k) cap e - (m+k))).toList) (by rw [Array.length_toList,size_zeroCells,w5,hlen]) (by rw [hlen]; exact qM) hle (by simp))
 refine iD rfl (R:=fun v hW=>v=aS (some W.heap.size) (m+k) (grownCap W (m+k) cap e)∧hW=W.drew.alloc (.cells ((cs.toList.take (m * aj.size α)).toArray++Builtin.zeroCells eF.cells k++Builtin.zeroCells eF.cells (grownCap W (m+k) cap e - (m+k))) e)) (.l1 ?_ ⟨rfl,rfl⟩) fun v hW ⟨a2,hw⟩=>?_
 ·simp only [execOp,resolve,invoke,builtin,Sem.run_bind,Sem.run_pure,Result.andThen_ok]
  have ay:(#[x,y]:Array Operand).map a.eval= #[a.eval x,a.eval y]:=by simp
  rw [ay,aa,ad,aQ]
  rfl
 subst a2
 subst hw
 exact po _ _ _ _ (kH.put k4 rfl)
def I.va (τ:I):I where
 holds A W v:= ∃ b cur T hA u,v= .pointer (some ⟨b,0,none⟩)∧b ∉ A∧W.heap[b]? =some (.cells cur T hA)∧cur[0]? =some u∧u.oneCell'=true∧τ.holds A W u
 mono e h:=by
  obtain⟨b,cur,T,hA,u,rfl,hb,cE,hs,aa,aQ⟩:=h
  have cD:b<_:=(Array.getElem?_eq_some_iff.1 cE).1
  exact⟨b,cur,T,hA,u,rfl,fun hm=>hb (e.new b hm cD),by rw [e.block b cD hb]; exact cE,hs,aa,τ.mono e aQ⟩
theorem ai.aaW {rest:List Oper} {bf:Nat} {τ:I} (aq:bd c E L x τ) (aa:∀ A W v,τ.holds A W v→v.oneCell'=true) (aR:Nat.blt bf c.n=true)
 (k:ai c ops Q rest ((bf,.va τ)::E) L):ai c ops Q (⟨some bf,.box t x,ty,pos,af,none⟩::rest) E L:=fun a W s=>by
 have a2:=aq a W s
 have bm:=aa _ _ _ a2
 refine iD rfl (R:=fun v W'=>v= .pointer (some ⟨W.heap.size,0,none⟩)∧W'=W.alloc (.cells (a.eval x).cells t)) (.l1 ?_ ⟨rfl,rfl⟩) fun v W' ⟨nj,hw⟩=>?_
 ·simp [execOp,Instr.box,newVar,newRow]
 subst nj
 subst hw
 have s1:=((s.alloc (o:= .cells (a.eval x).cells t) (cp:= .dead) trivial).kill 0).o1 1
 refine k _ _ (bV.put s1 (by simpa using aR) ?_)
 refine⟨W.heap.size,(a.eval x).cells,t,(0,0),a.eval x,rfl,fun hm=>?_,IP W _,by rw [oP bm]; rfl,bm,τ.mono (A:=aV L++c.ca) (W:=W) ⟨by simp,fun k aw _=>Bh W _ k aw,fun k h _=>h⟩ a2⟩
 rcases List.mem_append.1 hm with hm | hm
 ·exact Nat.lt_irrefl _ (s.lt _ hm)
 exact Nat.lt_irrefl _ (s.fg _ hm).1
theorem On {τ:I} {D:TypeDesc} (hu:c.P.underlying t=some D) (hd:(match (motive:=TypeDesc→Bool) D with | .struct _ | .array _ _=>true | _=>false)=false) (aq:bd c E L x (.va τ)):cf c E L ⟨d,.load t x,ty,pos,af,g⟩ τ:= .pure fun a W s=>by
 obtain⟨b,cur,T,hA,u,aa,hb,cE,hs,ad,aQ⟩:=aq a W s
 have Gq:(isAgg t).run c.P W= .ok false W:=by
  unfold Go.isAgg
  rw [Sem.run_bind,run_underlying hu W]
  simp only [Result.andThen_ok]
  cases D <;> simp_all
 have sW:W.cell? ⟨b,0,none⟩=some u:=by rw [cell_of_row W b 0 cur T hA cE]; exact hs
 refine⟨u,?_,aQ⟩
 simp [execOp,Instr.loadAt,Instr.sureAddr,aa,loadVar,Sem.run_bind,Gq,sW]
theorem ag.some {code:Code} {i T cap:Nat} {key:Option Nat} {α:Type} [aj α] {xs:List α} (ar:L[i]? =Option.some ⟨key,.row T xs cap⟩) (aq:0<xs.length) (k:∀ p,key=Option.some p→xs.length≤cap→cap≤maxLen→ag c Q code E L):ag c Q code E L:=fun a W s=>by
 obtain⟨p,cs,rfl,e3,av,aW,bB,cn⟩:=s.rowAt ar aq
 exact k p rfl aW bB a W s
theorem ag.apart {code:Code} {p q:Nat} {cp cp':dZ} {ax:List aT} (ar:L=⟨Option.some p,cp⟩::⟨Option.some q,cp'⟩::ax) (k:p≠q→ag c Q code E L):ag c Q code E L:=fun a W s=>by
 refine k (fun e=>?_) a W s
 have:=s.nodup
 rw [ar,e] at this
 simp [aV] at this
theorem NN {α γ:Type} [aj α] [aj γ] {A W} {cs:List Value} {x:α} {os:List (Nat×Value)} {u:Value} (l:aN α (List γ)) (h:lF A W cs x os) (hq:(l.off,u)∈os):lF A W cs (l.set x []) os:=by
 refine⟨?_,h.2⟩
 have aa:=l.lA (ds:= [kD]) (g:=([]:List γ)) h.1 (show aj.rep A W [kD] ([]:List γ) from by
  have:=(nu (A:=A) (W:=W) (v:=kD) (xs:=([]:List γ))).2 (.inl ⟨rfl,rfl⟩)
  exact this.2)
 have hb:(blank os cs)[l.off]? =some kD:=by
  rw [rn,if_pos (List.any_eq_true.2 ⟨_,hq,by simp⟩),(h.2 _ hq).1]; rfl
 have cD:l.off<(blank os cs).length:=(List.getElem?_eq_some_iff.1 hb).1
 have he:(blank os cs).take l.off++[kD]++(blank os cs).drop (l.off+aj.size (List γ))=blank os cs:=by
  show(blank os cs).take l.off++[kD]++(blank os cs).drop (l.off+1)=blank os cs
  have ad:(blank os cs)[l.off]=kD:=(List.getElem?_eq_some_iff.1 hb).2
  rw [← ad,List.append_assoc,List.singleton_append,List.getElem_cons_drop,List.take_append_drop]
 rwa [he] at aa
theorem ai.Ki {q7:List Oper} {p:Nat} {β γ:Type} [aj β] [aj γ] {b b':β} {os:List (Nat×Value)} {u:Value} (l:aN β (List γ)) (i q:Nat) (ar:L[i]? =some ⟨some p,.cj b os⟩) (hq:os[q]? =some (l.off,u)) (hb:l.set b []=b')
 (k:ai c ops Q q7 E (L.set i ⟨some p,.cj b' os⟩)):ai c ops Q q7 E L:=fun a W s=>
 k a W (s.again ar (fun A W o ⟨cs,T,aa,ad⟩=>⟨cs,T,aa,hb ▸ NN l ad (List.mem_of_getElem? hq)⟩) id)
theorem ae.Ki {z:Exit} {p:Nat} {β γ:Type} [aj β] [aj γ] {b b':β} {os:List (Nat×Value)} {u:Value} (l:aN β (List γ)) (i q:Nat) (ar:L[i]? =some ⟨some p,.cj b os⟩) (hq:os[q]? =some (l.off,u)) (hb:l.set b []=b')
 (k:ae c Q z E (L.set i ⟨some p,.cj b' os⟩)):ae c Q z E L:=fun a W s=>
 k a W (s.again ar (fun A W o ⟨cs,T,aa,ad⟩=>⟨cs,T,aa,hb ▸ NN l ad (List.mem_of_getElem? hq)⟩) id)
end
def B3 {α:Type} (bytes:Nat) (xs:List α) (i:Int) (vs:List α):Option (List α):=
 if 0≤i∧i≤xs.length∧0<vs.length∧ (xs.length+vs.length) * bytes≤140737488355328∧xs.length+vs.length≤maxLen then some (xs.take i.toNat++vs++xs.drop i.toNat) else none
theorem Vx {α:Type} {bytes:Nat} {xs vs r:List α} {i:Int} (h:B3 bytes xs i vs=some r):
 ∃ k:Nat,i=k∧k≤xs.length∧0<vs.length∧ (xs.length+vs.length) * bytes≤140737488355328∧xs.length+vs.length≤maxLen∧r=xs.take k++vs++xs.drop k:=by
 unfold B3 at h
 split at h
 ·rename_i al
  obtain⟨aa,ad,aF,aX,a0⟩:=al
  exact⟨i.toNat,by omega,by omega,aF,aX,a0,(by simp only [Option.some.injEq] at h; exact h.symm)⟩
 cases h
section
variable {c:dp} {E:List (Nat×I)} {L:List aT} {ops:Array Oper} {Q:Exit→Act→World→Prop} {rest:List Oper} {o:Oper} {bf:Nat}
variable {ty:TypeId} {pos:String} {af:Array Edge} {x y:Operand} {t t2:TypeId}
theorem aC {id:Nat} {l:List Oper} {y:Code} (h:ai c l.toArray (Exit.then (c.wp y Q) Q) l E L):ag c Q (.seq (.region id l.toArray false) y) E L:= .seq (.cm h)
theorem aL {y:Code} (h:ag c Q y E L):ai c ops (Exit.then (c.wp y Q) Q) [] E L:= .nil (.next h)
theorem bD {y z:Code} (h:ag c (Exit.then (c.wp z Q) Q) y E L):ai c ops (Exit.then (c.wp (Code.seq y z) Q) Q) [] E L:= .nil (.next (.seq h))
theorem bW {id:Nat} {l:List Oper} {z:Code} (h:ai c l.toArray (Exit.then (c.wp z Q) Q) l E L):ai c ops (Exit.then (c.wp (Code.seq (.region id l.toArray false) z) Q) Q) [] E L:= .nil (.next (.seq (.cm h)))
theorem cO {y:Code} (h:ag c Q y E L):ag c (Exit.then (c.wp y Q) Q) .skip E L:= .skip (.next h)
theorem au {α β:Type} {m:Option α} {f:α→Option β} {r:β} (h:m.bind f=some r):∃ y,m=some y∧f y=some r:=bind_some h
theorem cg {R:Type} {b:Bool} {A B:Option R} {r:R} {y z:Code} (h:cond b A B=some r) (b1:A=some r→ag c Q y E L) (a7:B=some r→ag c Q z E L)
 (ao:bd c E L x (.of b):=by first | exact ab rfl | exact gi _):ag c Q (.cond x y z) E L:=
 .cond ao (fun hb=>b1 (gQ hb h)) (fun hb=>a7 (gR hb h))
theorem bh {τ:I} (h:cf c E L o τ) (k:ai c ops Q rest ((bf,τ)::E) L) (bQ:o.guard=none:=by rfl) (hd:o.dst=some bf:=by rfl) (aR:Nat.blt bf c.n=true:=by rfl):ai c ops Q (o::rest) E L:= .v h bQ hd aR k
theorem aB {τ:I} (k:ai c ops Q rest ((bf,τ)::E) L) (aq:bd c E L x τ:=by first | exact ab rfl | exact bU _ | exact gi _ | exact dU _) (aR:Nat.blt bf c.n=true:=by rfl):
 ai c ops Q (⟨some bf,.move x,ty,pos,af,none⟩::rest) E L:= .v (cV aq) rfl rfl aR k
theorem aM {τ:I} (k:ai c ops Q rest ((bf,τ)::E) L) (aq:bd c E L x τ:=by first | exact ab rfl | exact bU _ | exact gi _ | exact dU _) (aR:Nat.blt bf c.n=true:=by rfl):
 ai c ops Q (⟨some bf,.assign x,ty,pos,af,none⟩::rest) E L:= .v (ew aq) rfl rfl aR k
theorem aY {σ τ:I} (h:bd c E L x σ→cf c E L o τ) (k:ai c ops Q rest ((bf,τ)::E) L) (aq:bd c E L x σ:=by first | exact ab rfl | exact bU _ | exact gi _ | exact dU _)
 (bQ:o.guard=none:=by rfl) (hd:o.dst=some bf:=by rfl) (aR:Nat.blt bf c.n=true:=by rfl):ai c ops Q (o::rest) E L:= .v (h aq) bQ hd aR k
theorem bj {σ qR τ:I} (h:bd c E L x σ→bd c E L y qR→cf c E L o τ) (k:ai c ops Q rest ((bf,τ)::E) L) (aq:bd c E L x σ:=by first | exact ab rfl | exact bU _ | exact gi _ | exact dU _)
 (a6:bd c E L y qR:=by first | exact ab rfl | exact bU _ | exact gi _ | exact dU _)
 (bQ:o.guard=none:=by rfl) (hd:o.dst=some bf:=by rfl) (aR:Nat.blt bf c.n=true:=by rfl):ai c ops Q (o::rest) E L:= .v (h aq a6) bQ hd aR k
theorem dG {α:Type} [aj α] {a b:α} (e:some a=some b) (h:cf c E L o (.of a)) (k:ai c ops Q rest ((bf,.of b)::E) L) (bQ:o.guard=none:=by rfl) (hd:o.dst=some bf:=by rfl) (aR:Nat.blt bf c.n=true:=by rfl):
 ai c ops Q (o::rest) E L:= .v (h.as (aH e)) bQ hd aR k
theorem eO {i:Nat} {τs:List I} {τ:I} (k:ai c ops Q rest ((bf,τ)::E) L) (aq:bd c E L x (.ep τs):=by exact ab rfl) (ak:τs[i]? =some τ:=by rfl) (aR:Nat.blt bf c.n=true:=by rfl):
 ai c ops Q (⟨some bf,.extract x i,ty,pos,af,none⟩::rest) E L:= .v (lC aq ak) rfl rfl aR k
theorem cc {p o:Nat} {β γ:Type} [aj β] [aj γ] {b:β} (j:Nat) (l:aN β γ) (eQ:bF c.P t γ) (k:ai c ops Q rest ((bf,.of (l.get b))::E) L) (aq:bd c E L x (.eq (.pointer (some ⟨p,o,none⟩))):=by exact ab rfl)
 (ar:L[j]? =some ⟨some p,.var b⟩:=by rfl) (bm:o=l.off:=by rfl) (aR:Nat.blt bf c.n=true:=by rfl):ai c ops Q (⟨some bf,.load t x,ty,pos,af,none⟩::rest) E L:= .v (fa l eQ aq ar bm rfl) rfl rfl aR k
theorem cr {p:Nat} {β:Type} [aj β] {b:β} (j:Nat) (eQ:bF c.P t β) (k:ai c ops Q rest ((bf,.of b)::E) L) (aq:bd c E L x (.eq (.pointer (some ⟨p,0,none⟩))):=by exact ab rfl)
 (ar:L[j]? =some ⟨some p,.var b⟩:=by rfl) (aR:Nat.blt bf c.n=true:=by rfl):ai c ops Q (⟨some bf,.load t x,ty,pos,af,none⟩::rest) E L:= .v (fa (aN.id β) eQ aq ar rfl rfl) rfl rfl aR k
theorem Rs {p o:Nat} {β γ:Type} [aj β] [aj γ] {b:β} {os:List (Nat×Value)} (j:Nat) (l:aN β γ) (eQ:bF c.P t γ) (k:ai c ops Q rest ((bf,.of (l.get b))::E) L) (aq:bd c E L x (.eq (.pointer (some ⟨p,o,none⟩))):=by exact ab rfl)
 (ar:L[j]? =some ⟨some p,.cj b os⟩:=by rfl) (bm:o=l.off:=by rfl) (bp:uw os l.off (aj.size γ)=true:=by rfl) (aR:Nat.blt bf c.n=true:=by rfl):ai c ops Q (⟨some bf,.load t x,ty,pos,af,none⟩::rest) E L:= .v (EN l eQ aq ar bm rfl bp) rfl rfl aR k
theorem Cl {s f o:Nat} {β γ:Type} [aj β] [aj γ] {b:β} (l:aN β γ) (fd:cB c.P s f o) (k:ai c ops Q rest ((bf,.ptr (l.get b))::E) L) (aq:bd c E L x (.ptr b):=by exact ab rfl) (bm:l.off=o:=by rfl) (aR:Nat.blt bf c.n=true:=by rfl):
 ai c ops Q (⟨some bf,.fieldAddr s x f,ty,pos,af,none⟩::rest) E L:= .v (BF l fd aq bm rfl) rfl rfl aR k
theorem g5 {α:Type} [aj α] [Inhabited α] {xs:List α} {e:TypeId} {i:Int} {j:Nat} (aw:idx xs.length i=some j) (hu:c.P.underlying t=some (.slice e)) (e6:bF c.P e α) (k:ai c ops Q rest ((bf,.ptr (az xs j))::E) L)
 (aq:bd c E L x (.of xs):=by exact ab rfl) (a6:bd c E L y (.of i):=by first | exact ab rfl | exact bU _) (aR:Nat.blt bf c.n=true:=by rfl):
 ai c ops Q (⟨some bf,.indexAddr t x y,ty,pos,af,none⟩::rest) E L:= .v (ql hu e6 aq a6 (bZ aw)) rfl rfl aR k
theorem rV {b e:Bool} {p:Prop} (k:ai c ops Q rest ((bf,.of (b||e))::E) L) (aq:bd c E L x (.of b):=by exact ab rfl) (a6:bd c E L y (.cond p (.of e)):=by exact ab rfl) (hp:b=false→p:=by exact fun h=>h) (aR:Nat.blt bf c.n=true:=by rfl):
 ai c ops Q (⟨some bf,.pick x (.const (.bool true)) y,ty,pos,af,none⟩::rest) E L:= .v (s0 aq a6 hp) rfl rfl aR k
theorem iG {b e:Bool} {p:Prop} (k:ai c ops Q rest ((bf,.of (b&&e))::E) L) (aq:bd c E L x (.of b):=by exact ab rfl) (a6:bd c E L y (.cond p (.of e)):=by exact ab rfl) (hp:b=true→p:=by exact fun h=>h) (aR:Nat.blt bf c.n=true:=by rfl):
 ai c ops Q (⟨some bf,.pick x y (.const (.bool false)),ty,pos,af,none⟩::rest) E L:= .v (rF aq a6 hp) rfl rfl aR k
theorem eI {τ:I} {j g:Nat} {b want:Bool} (h:b=want→cf c E L o τ) (k:ai c ops Q rest ((bf,.cond (b=want) τ)::E) L) (bQ:o.guard=some (j,want):=by rfl) (aE:(ops[j]?).bind (·.dst)=some g:=by rfl) (ao:look E g=some (.of b):=by rfl)
 (hd:o.dst=some bf:=by rfl) (aR:Nat.blt bf c.n=true:=by rfl):ai c ops Q (o::rest) E L:= .g h bQ aE ao hd aR k
theorem dE {σ τ:I} {j g:Nat} {b want:Bool} (h:bd c E L x σ→cf c E L o τ) (k:ai c ops Q rest ((bf,.cond (b=want) τ)::E) L)
 (aq:b=want→bd c E L x σ:=by first | exact fun hb=>cJ rfl hb | exact fun _=>ab rfl | exact fun _=>bU _ | exact fun _=>gi _)
 (bQ:o.guard=some (j,want):=by rfl) (aE:(ops[j]?).bind (·.dst)=some g:=by rfl) (ao:look E g=some (.of b):=by rfl)
 (hd:o.dst=some bf:=by rfl) (aR:Nat.blt bf c.n=true:=by rfl):ai c ops Q (o::rest) E L:= .g (fun hb=>h (aq hb)) bQ aE ao hd aR k
theorem jw {σ qR τ:I} {j g:Nat} {b want:Bool} (h:bd c E L x σ→bd c E L y qR→cf c E L o τ) (k:ai c ops Q rest ((bf,.cond (b=want) τ)::E) L)
 (aq:b=want→bd c E L x σ:=by first | exact fun hb=>cJ rfl hb | exact fun _=>ab rfl | exact fun _=>bU _ | exact fun _=>gi _)
 (a6:b=want→bd c E L y qR:=by first | exact fun hb=>cJ rfl hb | exact fun _=>ab rfl | exact fun _=>bU _ | exact fun _=>gi _)
 (bQ:o.guard=some (j,want):=by rfl) (aE:(ops[j]?).bind (·.dst)=some g:=by rfl) (ao:look E g=some (.of b):=by rfl)
 (hd:o.dst=some bf:=by rfl) (aR:Nat.blt bf c.n=true:=by rfl):ai c ops Q (o::rest) E L:= .g (fun hb=>h (aq hb) (a6 hb)) bQ aE ao hd aR k
theorem cC {α:Type} [aj α] {z:α} (g9:cP c.P t z) (k:∀ p,ai c ops Q rest ((bf,.eq (.pointer (some ⟨p,0,none⟩)))::E) (⟨some p,.var z⟩::L)) (aR:Nat.blt bf c.n=true:=by rfl):
 ai c ops Q (⟨some bf,.alloc t,ty,pos,af,none⟩::rest) E L:= .alloc g9 aR k
theorem b7 {α:Type} [aj α] {z:α} (k:∀ p,ai c ops Q rest ((bf,.eq (.pointer (some ⟨p,0,none⟩)))::E) (⟨some p,.var z⟩::L)) (aq:bd c E L x (.of z):=by first | exact ab rfl | exact bU _ | exact gi _) (aR:Nat.blt bf c.n=true:=by rfl):
 ai c ops Q (⟨some bf,.box t x,ty,pos,af,none⟩::rest) E L:= .box aq aR k
theorem nc {p o:Nat} {β γ:Type} [aj β] [aj γ] {b:β} {v:γ} (i:Nat) (l:aN β γ) (eQ:bF c.P t γ) (k:ai c ops Q rest E (L.set i ⟨some p,.var (l.set b v)⟩)) (aq:bd c E L x (.eq (.pointer (some ⟨p,o,none⟩))):=by exact ab rfl)
 (a6:bd c E L y (.of v):=by first | exact ab rfl | exact bU _ | exact gi _ | exact look_nil | exact dU _) (ar:L[i]? =some ⟨some p,.var b⟩:=by rfl) (bm:o=l.off:=by rfl):
 ai c ops Q (⟨none,.store t x y,ty,pos,af,none⟩::rest) E L:= .store l eQ aq a6 ar bm rfl k
theorem b8 {p:Nat} {β:Type} [aj β] {b v:β} (i:Nat) (eQ:bF c.P t β) (k:ai c ops Q rest E (L.set i ⟨some p,.var v⟩)) (aq:bd c E L x (.eq (.pointer (some ⟨p,0,none⟩))):=by exact ab rfl)
 (a6:bd c E L y (.of v):=by first | exact ab rfl | exact bU _ | exact gi _ | exact look_nil | exact dU _) (ar:L[i]? =some ⟨some p,.var b⟩:=by rfl):
 ai c ops Q (⟨none,.store t x y,ty,pos,af,none⟩::rest) E L:= .store (aN.id β) eQ aq a6 ar rfl rfl k
theorem wW {p o:Nat} {β γ:Type} [aj β] [aj γ] {b b':β} {v:γ} (i:Nat) (l:aN β γ) (eQ:bF c.P t γ) (k:ai c ops Q rest E (L.set i ⟨some p,.var b'⟩)) (aq:bd c E L x (.eq (.pointer (some ⟨p,o,none⟩))):=by exact ab rfl)
 (a6:bd c E L y (.of v):=by first | exact ab rfl | exact bU _ | exact gi _ | exact look_nil | exact dU _) (ar:L[i]? =some ⟨some p,.var b⟩:=by rfl) (bm:o=l.off:=by rfl) (hb:some (l.set b v)=some b'):
 ai c ops Q (⟨none,.store t x y,ty,pos,af,none⟩::rest) E L:= .store l eQ aq a6 ar bm (aH hb) k
theorem du {f:FuncId} {xs:List Operand} {ats:Array TypeId} {τs:List I} {ρ:I} (eR:bM c.P f) (h:bw c.P f τs ρ) (k:ai c ops Q rest ((bf,ρ)::E) L)
 (aq:iq c E L xs τs:=by repeat (first | exact trivial | refine⟨ab rfl,?_⟩ | refine⟨bU _,?_⟩ | refine⟨gi _,?_⟩ | refine⟨look_nil,?_⟩ | refine⟨dU _,?_⟩)) (aR:Nat.blt bf c.n=true:=by rfl):
 ai c ops Q (⟨some bf,.call ⟨.value (.func f),xs.toArray,ats⟩,ty,pos,af,none⟩::rest) E L:= .v (hZ eR h aq) rfl rfl aR k
theorem ff {f:FuncId} {xs:List Operand} {ats:Array TypeId} {τs:List I} {δ:Type} {ρ:δ→I} {Lo:δ→List aT} (n:Nat) (eR:bM c.P f) (h:b9 c.P f τs (L.take n) ρ Lo)
 (k:∀ q,ai c ops Q rest ((bf,ρ q)::E) (Lo q++L.drop n)) (aq:iq c E L xs τs:=by repeat (first | exact trivial | refine⟨ab rfl,?_⟩ | refine⟨bU _,?_⟩ | refine⟨gi _,?_⟩ | refine⟨look_nil,?_⟩ | refine⟨qb,?_⟩ | refine⟨dU _,?_⟩)) (aR:Nat.blt bf c.n=true:=by rfl):
 ai c ops Q (⟨some bf,.call ⟨.value (.func f),xs.toArray,ats⟩,ty,pos,af,none⟩::rest) E L:=by
 have e:=List.take_append_drop n L
 have:=ai.nw (ty:=ty) (pos:=pos) (af:=af) (ats:=ats) (xs:=xs) (Lin:=L.take n) (Lr:=L.drop n) (E:=E) (Q:=Q) (ops:=ops) eR h (by rw [e]; exact aq) aR k
 rwa [e] at this
theorem jI {α:Type} [aj α] {e bytes cap:Nat} {key:Option Nat} {xs ys r:List α} {z:α} (j:Nat) (hu:c.P.underlying t=some (.slice e)) (e6:bF c.P e α) (g9:cP c.P e z) (h:fV bytes xs ys=some r)
 (k:∀ qy cap',ai c ops Q rest ((bf,.eq (aS qy r.length cap'))::E) (L.set j ⟨qy,.row e r cap'⟩)) (w4:(c.P.info? e).map (·.bytes)=some bytes:=by kernel_rfl)
 (hs:bd c E L x (.eq (aS key xs.length cap)):=by first | exact ab rfl | exact qb) (ar:L[j]? =some ⟨key,.row e xs cap⟩:=by rfl) (a6:bd c E L y (.of ys):=by exact ab rfl) (aR:Nat.blt bf c.n=true:=by rfl):
 ai c ops Q (⟨some bf,.call ⟨.builtin .append,#[x,y],#[t,t]⟩,ty,pos,af,none⟩::rest) E L:= .app hu e6 g9 w4 hs ar a6 h aR k
theorem j5 {place:Nat→Option (Nat×Nat)} {β:Type} [aj β] {b b':β} {γ:Type} [aj γ] {v:γ} {i:Nat} {r:List (Nat×Operand)} (l:aN β γ) (k:rN c E L place (l.set b v) r b')
 (hp:place i=some (l.off,aj.size γ):=by rfl) (aq:bd c E L x (.of v):=by first | exact ab rfl | exact bU _ | exact gi _ | exact look_nil | exact dU _):rN c E L place b ((i,x)::r) b':= .cons l hp aq rfl k
theorem hg {β:Type} [aj β] {z b:β} {bz:List (Nat×Operand)} {pl:Array (Nat×Nat)} (Dd:h8 c.P t pl) (g9:cP c.P t z) (Sn:β) (a7:rN c E L (pl[·]?) z bz b) (k:ai c ops Q rest ((bf,.of Sn)::E) L) (bp:aj.agg β=true:=by rfl) (hb:b=Sn:=by rfl) (aR:Nat.blt bf c.n=true:=by rfl):
 ai c ops Q (⟨some bf,.build t bz.toArray,ty,pos,af,none⟩::rest) E L:= .v ((c9 bp Dd g9 a7).as hb) rfl rfl aR k
theorem gV {α:Type} [aj α] {e n:Nat} {z:α} {bz:List (Nat×Operand)} (r:List α) (hu:c.P.underlying t=some (.slice e)) (e6:bF c.P e α) (g9:cP c.P e z) (k:ai c ops Q rest ((bf,.of r)::E) L)
 (a7:ob c E L (List.replicate n z) bz r:=by repeat (first | exact ob.nil | refine ob.cons (by simp) (ab rfl) ?_ | refine ob.cons (by simp) (bU _) ?_ | refine ob.cons (by simp) (gi _) ?_ | refine ob.cons (by simp) (dU _) ?_))
 (hs:Nat.beq (aj.size α) 0=false:=by rfl) (tm:Nat.ble (n * aj.size α) 16777216=true:=by rfl) (aR:Nat.blt bf c.n=true:=by rfl):
 ai c ops Q (⟨some bf,.buildSlice t n bz.toArray,ty,pos,af,none⟩::rest) E L:= .v (jv hu e6 g9 hs tm a7) rfl rfl aR k
inductive mT (E:List (Nat×I)):List Nat→List (Nat×I)→Prop
 | nil:mT E [] []
 | cons {t:Nat} {h2:List Nat} {τ:I} {zd:List (Nat×I)} :look E t=some τ→mT E h2 zd→mT E (t::h2) ((t,τ)::zd)
theorem mT.le:∀ {h2:List Nat} {jW:List (Nat×I)},mT E h2 jW→hk E jW
 | _,_,.nil=>.nil
 | _,_,.cons h k=>.same h k.le
theorem jk {code:Code} {jW:List (Nat×I)} (h2:List Nat) (k:ag c Q code jW L) (aG:mT E h2 jW:=by repeat (first | exact mT.nil | (apply mT.cons; rfl))):ag c Q code E L:= .le aG.le k
theorem km {z:Exit} {jW:List (Nat×I)} (h2:List Nat) (k:ae c Q z jW L) (aG:mT E h2 jW:=by repeat (first | exact mT.nil | (apply mT.cons; rfl))):ae c Q z E L:= .le aG.le k
theorem dq {z:Exit} {E':List (Nat×I)} {ax:List aT} (n:Nat) (k:ae c Q z E' ax) (ar:L.drop n=ax:=by rfl) (h:hk E E':=by repeat (first | exact hk.nil | refine hk.same rfl ?_)):ae c Q z E L:= .meet n ar h k
theorem fc {σ ε γ δ:Type} {E':σ→γ→List (Nat×I)} {ax:σ→γ→List aT} {xs:ε→Exit} {gY:ε→δ→List (Nat×I)} {Lx:ε→δ→List aT} {s:σ} (g:γ) (n:Nat) (ar:L.drop n=ax s g:=by rfl)
 (h:hk E (E' s g):=by repeat (first | exact hk.nil | refine hk.same rfl ?_)):ae c (y3 c E' ax xs gY Lx (.inl s)) .normal E L:= .X3 g n ar h
theorem dY {σ ε γ δ:Type} {E':σ→γ→List (Nat×I)} {ax:σ→γ→List aT} {xs:ε→Exit} {gY:ε→δ→List (Nat×I)} {Lx:ε→δ→List aT} {e:ε} {z:Exit} (g:δ) (n:Nat) (aq:z=xs e:=by rfl) (aR:z≠ .normal:=by simp) (ar:L.drop n=Lx e g:=by rfl)
 (h:hk E (gY e g):=by repeat (first | exact hk.nil | refine hk.same rfl ?_)):ae c (y3 c E' ax xs gY Lx (.inr e)) z E L:= .X4 g n aq aR ar h
theorem fw {t:Nat} {p:Nat} {α:Type} [aj α] {v:α} (i:Nat) (eQ:bF c.P ty α) (h:look E t=some (.eq (.pointer (some ⟨p,0,none⟩))):=by rfl) (ar:L[i]? =some ⟨some p,.var v⟩:=by rfl):tD c E L (.cell t ty) (.of v):=abP eQ h ar
theorem cX {fn:Func} {t:Nat} {τ:I} (aQ:fn.results= #[.tmp t]:=by rfl) (h:look E t=some τ:=by rfl) (ie:c.ds= []:=by rfl):ae c (bodyPost c.P fn (wR c τ)) .ret E L:= .hM aQ (l5 h) ie
theorem wU {fn:Func} {t u:Nat} {τ oB:I} (aQ:fn.results= #[.tmp t,.tmp u]:=by rfl) (h:look E t=some τ:=by rfl) (ad:look E u=some oB:=by rfl) (ie:c.ds= []:=by rfl):ae c (bodyPost c.P fn (wR c (.ep [τ,oB]))) .ret E L:= .rP aQ (l5 h) (l5 ad) ie
theorem kW {fn:Func} {t:Nat} {τ:I} {δ:Type} {ρ:δ→I} {Lo:δ→List aT} (bf:δ) (hs:(Lo bf).Sublist L:=by repeat (first | exact List.nil_sublist _ | refine List.Sublist.cons_cons _ ?_)) (aQ:fn.results= #[.tmp t]:=by rfl) (h:look E t=some τ:=by rfl) (tp:ρ bf=τ:=by rfl) (ie:c.ds= []:=by rfl):
 ae c (bodyPost c.P fn (ky c.X c.ca c.jr ρ Lo)) .ret E L:= .gr bf hs aQ tp (ej h) ie
def pQ:List aT→List (Nat×aT)→List aT
 | L,[]=>L
 | L,(i,e)::r=>pQ (L.set i e) r
inductive ra:List aT→List aT→Prop
 | nil:ra [] []
 | cons {e:aT} {r s:List aT} :ra r s→ra (e::r) (e::s)
theorem ra.eq:∀ {l m:List aT},ra l m→l=m
 | _,_,.nil=>rfl
 | _,_,.cons h=>by rw [h.eq]
theorem gE {σ ε γ δ:Type} {body:Code} {N:Nat} {b:σ→Option (σ ⊕ ε)} {cw:σ} {e:ε} {jW:List (Nat×I)} {hJ:List aT} (ao:ey N b cw=some e) (h2:List Nat) (u:σ→γ→List (Nat×I)) (ul:σ→γ→List (Nat×aT)) (xs:ε→Exit)
 (LG:ε→δ→List (Nat×I)) (KK:ε→δ→List (Nat×aT)) (g0:γ)
 (wx:∀ s r,b s=some r→ ∀ g,ag c (y3 c (fun s g=>u s g++jW) (fun s g=>pQ hJ (ul s g)) xs (fun e d=>LG e d++jW) (fun e d=>pQ hJ (KK e d)) r) body (u s g++jW) (pQ hJ (ul s g)))
 (qh:∀ g,ae c Q (xs e) (LG e g++jW) (pQ hJ (KK e g)))
 (w3:ra L hJ:=by repeat (first | exact ra.nil | apply ra.cons))
 (acP:mT E h2 jW:=by repeat (first | exact mT.nil | (apply mT.cons; rfl))) (aG:hk E (u cw g0++jW):=by repeat (first | exact hk.nil | refine hk.same rfl ?_)) (ar:hJ=pQ hJ (ul cw g0):=by rfl):ag c Q (.loop body) E L:=
 ag.qm ao (fun s g=>u s g++jW) (fun s g=>pQ hJ (ul s g)) xs (fun e d=>LG e d++jW) (fun e d=>pQ hJ (KK e d)) g0 (w3.eq.trans ar) aG wx qh
theorem jj {γ:Type} {b:Bool} {y z:Code} {jW:List (Nat×I)} {hJ:List aT} (h2:List Nat) (u:γ→List (Nat×I)) (ul:γ→List (Nat×aT)) (vd:∀ g,ae c Q .normal (u g++jW) (pQ hJ (ul g)))
 (b1:(∀ g,ae c Q .normal (u g++jW) (pQ hJ (ul g)))→b=true→ag c Q y E hJ) (a7:(∀ g,ae c Q .normal (u g++jW) (pQ hJ (ul g)))→b=false→ag c Q z E hJ)
 (w3:ra L hJ:=by repeat (first | exact ra.nil | apply ra.cons))
 (acP:mT E h2 jW:=by repeat (first | exact mT.nil | (apply mT.cons; rfl))) (ao:bd c E hJ x (.of b):=by first | exact ab rfl | exact gi _):ag c Q (.cond x y z) E L:=by
 cases w3.eq
 exact ag.c0 (fun g=>u g++jW) (fun g=>pQ L (ul g)) ao vd b1 a7
section
variable {all:List fD} {w:Nat→Bool}
theorem c1 {τ:I} {hyp:List aT→Prop} (h:∀ ax,hyp ax→cf c E ax o τ) (bQ:o.guard=none:=by rfl):∀ ax,hyp ax→lR c ops E ax o τ:=fun ax ar=>.v (h ax ar) bQ
theorem ct {τ:I} {hyp:List aT→Prop} (aq:∀ ax,bd c E ax x τ:=by first | exact fun _=>ab rfl | exact fun _=>bU _ | exact fun _=>gi _ | exact fun _=>dU _):∀ ax,hyp ax→lR c ops E ax ⟨some bf,.move x,ty,pos,af,none⟩ τ:=fun ax _=>.v (cV (aq ax)) rfl
theorem xh {τ:I} {hyp:List aT→Prop} (aq:∀ ax,bd c E ax x τ:=by first | exact fun _=>ab rfl | exact fun _=>bU _ | exact fun _=>gi _ | exact fun _=>dU _):∀ ax,hyp ax→lR c ops E ax ⟨some bf,.assign x,ty,pos,af,none⟩ τ:=fun ax _=>.v (ew (aq ax)) rfl
theorem H1 {σ τ:I} {hyp:List aT→Prop} (h:∀ {ax},bd c E ax x σ→cf c E ax o τ) (bQ:o.guard=none:=by rfl) (aq:∀ ax,bd c E ax x σ:=by first | exact fun _=>ab rfl | exact fun _=>bU _ | exact fun _=>gi _ | exact fun _=>dU _):
 ∀ ax,hyp ax→lR c ops E ax o τ:=fun ax _=>.v (h (aq ax)) bQ
theorem jc {σ qR τ:I} {hyp:List aT→Prop} (h:∀ {ax},bd c E ax x σ→bd c E ax y qR→cf c E ax o τ) (bQ:o.guard=none:=by rfl) (aq:∀ ax,bd c E ax x σ:=by first | exact fun _=>ab rfl | exact fun _=>bU _ | exact fun _=>gi _ | exact fun _=>dU _)
 (a6:∀ ax,bd c E ax y qR:=by first | exact fun _=>ab rfl | exact fun _=>bU _ | exact fun _=>gi _ | exact fun _=>dU _):∀ ax,hyp ax→lR c ops E ax o τ:=fun ax _=>.v (h (aq ax) (a6 ax)) bQ
theorem dg {p o:Nat} {β γ:Type} [aj β] [aj γ] {b:β} (i:Nat) (l:aN β γ) (eQ:bF c.P t γ) (aq:∀ ax,bd c E ax x (.eq (.pointer (some ⟨p,o,none⟩))):=by exact fun _=>ab rfl) (ar:L[i]? =some ⟨some p,.var b⟩:=by rfl) (bm:o=l.off:=by rfl)
 (hu:pL w i 0 all=true:=by first | rfl | kernel_rfl):∀ ax:List aT,(∀ (j:Nat) (e:aT),L[j]? =some e→pL w j 0 all=true→ax[j]? =some e)→lR c ops E ax ⟨some bf,.load t x,ty,pos,af,none⟩ (.of (l.get b)):=
 fun ax rZ=>.v (fa l eQ (aq ax) (rZ _ _ ar hu) bm rfl) rfl
theorem eG {p:Nat} {β:Type} [aj β] {b:β} (i:Nat) (eQ:bF c.P t β) (aq:∀ ax,bd c E ax x (.eq (.pointer (some ⟨p,0,none⟩))):=by exact fun _=>ab rfl) (ar:L[i]? =some ⟨some p,.var b⟩:=by rfl)
 (hu:pL w i 0 all=true:=by first | rfl | kernel_rfl):∀ ax:List aT,(∀ (j:Nat) (e:aT),L[j]? =some e→pL w j 0 all=true→ax[j]? =some e)→lR c ops E ax ⟨some bf,.load t x,ty,pos,af,none⟩ (.of b):=
 fun ax rZ=>.v (fa (aN.id β) eQ (aq ax) (rZ _ _ ar hu) rfl rfl) rfl
theorem eH {f:FuncId} {xs:List Operand} {ats:Array TypeId} {τs:List I} {ρ:I} {hyp:List aT→Prop} (eR:bM c.P f) (h:bw c.P f τs ρ)
 (aq:∀ ax,iq c E ax xs τs:=by intro ax; repeat (first | exact trivial | refine⟨ab rfl,?_⟩ | refine⟨bU _,?_⟩ | refine⟨gi _,?_⟩ | refine⟨look_nil,?_⟩ | refine⟨dU _,?_⟩)):
 ∀ ax,hyp ax→lR c ops E ax ⟨some bf,.call ⟨.value (.func f),xs.toArray,ats⟩,ty,pos,af,none⟩ ρ:=fun ax _=>.v (hZ eR h (aq ax)) rfl
theorem kX {α:Type} [aj α] [Inhabited α] {xs:List α} {e:TypeId} {i:Int} {j:Nat} {hyp:List aT→Prop} (aw:idx xs.length i=some j) (hu:c.P.underlying t=some (.slice e)) (e6:bF c.P e α)
 (aq:∀ ax,bd c E ax x (.of xs):=by exact fun _=>ab rfl) (a6:∀ ax,bd c E ax y (.of i):=by first | exact fun _=>ab rfl | exact fun _=>bU _):
 ∀ ax,hyp ax→lR c ops E ax ⟨some bf,.indexAddr t x y,ty,pos,af,none⟩ (.ptr (az xs j)):=fun ax _=>.v (ql hu e6 (aq ax) (a6 ax) (bZ aw)) rfl
theorem oy {s f o:Nat} {β γ:Type} [aj β] [aj γ] {b:β} {hyp:List aT→Prop} (l:aN β γ) (fd:cB c.P s f o) (aq:∀ ax,bd c E ax x (.ptr b):=by exact fun _=>ab rfl) (bm:l.off=o:=by rfl):
 ∀ ax,hyp ax→lR c ops E ax ⟨some bf,.fieldAddr s x f,ty,pos,af,none⟩ (.ptr (l.get b)):=fun ax _=>.v (BF l fd (aq ax) bm rfl) rfl
theorem u9 {α:Type} [aj α] {a b:α} {hyp:List aT→Prop} (e:some a=some b) (h:∀ ax,hyp ax→cf c E ax o (.of a)) (bQ:o.guard=none:=by rfl):∀ ax,hyp ax→lR c ops E ax o (.of b):=fun ax ar=>.v ((h ax ar).as (aH e)) bQ
theorem uV {i:Nat} {τs:List I} {τ:I} {hyp:List aT→Prop} (aq:∀ ax,bd c E ax x (.ep τs):=by exact fun _=>ab rfl) (ak:τs[i]? =some τ:=by rfl):∀ ax,hyp ax→lR c ops E ax ⟨some bf,.extract x i,ty,pos,af,none⟩ τ:=fun ax _=>.v (lC (aq ax) ak) rfl
theorem fz {τ:I} {j g:Nat} {b want:Bool} {hyp:List aT→Prop} (h:∀ ax,hyp ax→b=want→cf c E ax o τ) (bQ:o.guard=some (j,want):=by rfl) (aE:(ops[j]?).bind (·.dst)=some g:=by rfl) (ao:look E g=some (.of b):=by rfl):
 ∀ ax,hyp ax→lR c ops E ax o (.cond (b=want) τ):=fun ax ar=>.g (h ax ar) bQ aE ao
end
def bg (s:Nat) (up rd:List Nat) (τ:I):dO:=⟨some s,up,rd,[],fun _=>τ,fun _ _=>⟨none,.dead⟩⟩
section
variable {hs:List dO} {i:Nat} {up rd:List Nat}
theorem fP {τ:I} (aq:∀ (hd:Nat→Hid) (E':List (Nat×I)) (ax:List aT),(∀ t τ,look (ni hd hs E up) t=some τ→look E' t=some τ)→bd c E' ax x τ:=by first | exact fun _ _ _ aG=>ab (aG _ _ rfl) | exact fun _ _ _ _=>bU _ | exact fun _ _ _ _=>gi _ | exact fun _ _ _ _=>dU _)
 (aR:Nat.blt bf c.n=true:=by rfl):cI c ops Q hs E L i ⟨some bf,.move x,ty,pos,af,none⟩ (bg bf up rd τ):=iQ rfl rfl aR fun hd E' ax aG _=>cV (aq hd E' ax aG)
theorem fy {σ τ:I} (h:∀ {E' ax},bd c E' ax x σ→cf c E' ax o τ) (bQ:o.guard=none:=by rfl) (hd:o.dst=some bf:=by rfl)
 (aq:∀ (hd:Nat→Hid) (E':List (Nat×I)) (ax:List aT),(∀ t τ,look (ni hd hs E up) t=some τ→look E' t=some τ)→bd c E' ax x σ:=by first | exact fun _ _ _ aG=>ab (aG _ _ rfl) | exact fun _ _ _ _=>bU _ | exact fun _ _ _ _=>gi _ | exact fun _ _ _ _=>dU _)
 (aR:Nat.blt bf c.n=true:=by rfl):cI c ops Q hs E L i o (bg bf up rd τ):=iQ bQ hd aR fun hd E' ax aG _=>h (aq hd E' ax aG)
theorem zb {σ qR τ:I} (h:∀ {E' ax},bd c E' ax x σ→bd c E' ax y qR→cf c E' ax o τ) (bQ:o.guard=none:=by rfl) (hd:o.dst=some bf:=by rfl)
 (aq:∀ (hd:Nat→Hid) (E':List (Nat×I)) (ax:List aT),(∀ t τ,look (ni hd hs E up) t=some τ→look E' t=some τ)→bd c E' ax x σ:=by first | exact fun _ _ _ aG=>ab (aG _ _ rfl) | exact fun _ _ _ _=>bU _ | exact fun _ _ _ _=>gi _ | exact fun _ _ _ _=>dU _)
 (a6:∀ (hd:Nat→Hid) (E':List (Nat×I)) (ax:List aT),(∀ t τ,look (ni hd hs E up) t=some τ→look E' t=some τ)→bd c E' ax y qR:=by first | exact fun _ _ _ aG=>ab (aG _ _ rfl) | exact fun _ _ _ _=>bU _ | exact fun _ _ _ _=>gi _ | exact fun _ _ _ _=>dU _)
 (aR:Nat.blt bf c.n=true:=by rfl):cI c ops Q hs E L i o (bg bf up rd τ):=iQ bQ hd aR fun hd E' ax aG _=>h (aq hd E' ax aG) (a6 hd E' ax aG)
theorem o3 {p o:Nat} {β γ:Type} [aj β] [aj γ] {b:β} (k:Nat) (l:aN β γ) (eQ:bF c.P t γ)
 (aq:∀ (hd:Nat→Hid) (E':List (Nat×I)) (ax:List aT),(∀ t τ,look (ni hd hs E up) t=some τ→look E' t=some τ)→bd c E' ax x (.eq (.pointer (some ⟨p,o,none⟩))):=by exact fun _ _ _ aG=>ab (aG _ _ rfl))
 (ar:∀ hd:Nat→Hid,(hB (fun _=>true) hd 0 (hs.take i) L)[k]? =some ⟨some p,.var b⟩:=by exact fun _=>rfl) (aQ:rd.contains k=true:=by rfl) (bm:o=l.off:=by rfl)
 (aR:Nat.blt bf c.n=true:=by rfl):cI c ops Q hs E L i ⟨some bf,.load t x,ty,pos,af,none⟩ (bg bf up rd (.of (l.get b))):=iQ rfl rfl aR fun hd E' ax aG rZ=>fa l eQ (aq hd E' ax aG) (rZ _ _ (ar hd) aQ) bm rfl
theorem lG {p:Nat} {β:Type} [aj β] {b:β} (k:Nat) (eQ:bF c.P t β)
 (aq:∀ (hd:Nat→Hid) (E':List (Nat×I)) (ax:List aT),(∀ t τ,look (ni hd hs E up) t=some τ→look E' t=some τ)→bd c E' ax x (.eq (.pointer (some ⟨p,0,none⟩))):=by exact fun _ _ _ aG=>ab (aG _ _ rfl))
 (ar:∀ hd:Nat→Hid,(hB (fun _=>true) hd 0 (hs.take i) L)[k]? =some ⟨some p,.var b⟩:=by exact fun _=>rfl) (aQ:rd.contains k=true:=by rfl)
 (aR:Nat.blt bf c.n=true:=by rfl):cI c ops Q hs E L i ⟨some bf,.load t x,ty,pos,af,none⟩ (bg bf up rd (.of b)):=iQ rfl rfl aR fun hd E' ax aG rZ=>fa (aN.id β) eQ (aq hd E' ax aG) (rZ _ _ (ar hd) aQ) rfl rfl
theorem cz {τ:I} (h:∀ (hd:Nat→Hid) (E':List (Nat×I)) (ax:List aT),(∀ t τ,look (ni hd hs E up) t=some τ→look E' t=some τ)→ (∀ j e,(hB (fun _=>true) hd 0 (hs.take i) L)[j]? =some e→rd.contains j=true→ax[j]? =some e)→cf c E' ax o τ)
 (bQ:o.guard=none:=by rfl) (hd:o.dst=some bf:=by rfl) (aR:Nat.blt bf c.n=true:=by rfl):cI c ops Q hs E L i o (bg bf up rd τ):=iQ bQ hd aR h
end
end
theorem Ew {F:Fence} {n tH:Nat} {P:Program} {code:Code} {Q:Exit→Act→World→Prop} {a:Act} {W:World} (hd:F.depth=none) (h:code.wpIn F n P Q a W):code.wpIn F tH P Q a W:=
 fun b k cs yY hb _=>h b k cs yY hb (fun d hd'=>by rw [hd] at hd'; cases hd')
def dZ.is (o:Obj):dZ where
 holds _ _ x:=x=o
 m4:=False
 mono _ h:=h
abbrev dZ.dx:dZ:= .is (.deferred (some []))
def I.gU (f:FuncId) (τs:List I):I where
 holds A W v:= ∃ iA:List Value,v= .func (.func f) #[] iA.toArray∧g2 A W τs iA
 mono e h:=let⟨iA,aa,ad⟩:=h; ⟨iA,aa,ad.mono e⟩
theorem bV.rT {c E L a W} (h:bV c E L a W) {i p:Nat} {cp cp':dZ} (ak:L[i]? =some ⟨some p,cp⟩) {o':Obj} (al:cp'.holds (aV L++c.ca) W o'):
 bV c E (L.set i ⟨some p,cp'⟩) a (W.putObj p o'):=by
 have hQ:aV (L.set i ⟨some p,cp'⟩)=aV L:=yq (cp:=cp') ak
 have hp:p∈aV L:=lB.2 ⟨_,List.mem_of_getElem? ak,rfl⟩
 have hP:Ext (aV L++c.ca) W (aV L++c.ca) (W.putObj p o'):=
  ⟨by simp,fun k _ bp=>World.putObj_heap_other (fun e=>bp (e ▸ List.mem_append.2 (.inl hp))),fun _ h _=>h⟩
 exact
 {defers:=h.defers
  size:=h.size
  env:=fun t τ ao=>by rw [hQ]; exact let⟨v,aa,ad⟩:=h.env t τ ao; ⟨v,aa,τ.mono hP ad⟩
  dQ:=⟨h.dQ.os,h.dQ.tape,h.dQ.output,by simpa using h.dQ.size,fun k aw aq=>by
   rw [World.putObj_heap_other (fun e:k=p=>aq (by subst e; exact h.gl _ hp aw))]
   exact h.dQ.block k aw aq⟩
  own:=fun e he=>by
   rw [hQ]
   obtain⟨j,aE⟩:=List.mem_iff_getElem?.1 he
   rw [List.getElem?_set] at aE
   split at aE
   ·rename_i hR
    subst hR
    split at aE
    ·simp only [Option.some.injEq] at aE
     subst aE
     exact⟨_,World.putObj_heap_same (h.lt p hp),cp'.mono hP al⟩
    cases aE
   rename_i hR
   have aa:=h.own e (List.mem_of_getElem? aE)
   unfold aT.ok at *
   split at aa
   ·rename_i q hq
    obtain⟨o',tg,cE⟩:=aa
    have dm:q≠p:=fun e'=>hR (IQ h.nodup ak aE rfl (e' ▸ hq))
    exact⟨o',by rw [World.putObj_heap_other dm]; exact tg,dZ.mono _ hP cE⟩
   exact aa
  nodup:=by rw [hQ]; exact h.nodup
  lt:=by rw [hQ]; simpa using h.lt
  gl:=by rw [hQ]; exact h.gl
  fg:=by rw [hQ]; simpa using h.fg }
theorem I2 {c:dp} {E:List (Nat×I)} {L:List aT} {d:Option Tmp} {ty:TypeId} {pos:String} {af:Array Edge} {g:Option (Nat×Bool)} {f:FuncId} {xs:List Operand} {τs:List I} (aq:iq c E L xs τs):
 cf c E L ⟨d,.makeFunc (.func f) #[] xs.toArray,ty,pos,af,g⟩ (.gU f τs):= .pure fun a W s=>
 ⟨.func (.func f) #[] (xs.map a.eval).toArray,by simp [execOp,Instr.makeFunc],_,rfl,aq.holds a W s⟩
structure yT (A:List Nat) (W:World) (L:List aT):Prop where
 fg:∀ k∈A,k<W.heap.size∧k ∉ aV L
 nodup:(aV L).Nodup
 lt:∀ k∈aV L,k<W.heap.size
 ok:∀ e∈L,e.ok (aV L++A) W
def w9 (P:Program) (u:Value) {α σ ε γ:Type} (τ:α→I) (Ls:σ→γ→List aT) (Lx:ε→γ→List aT) (step:α→σ→Option (σ ⊕ ε)) (R:List Nat→World→Prop):Prop:=
 ∃ l,u= .func (.yield l) #[] #[]∧ ∀ x s r,step x s=some r→ ∀ g A W v,R (aV (Ls s g)++A) W→yT A W (Ls s g)→ (τ x).holds (aV (Ls s g)++A) W v→
   YieldAt Fence.wide 8 P l #[v] W (match r with
    | .inl cl=>ky (aV (Ls s g)) A W (fun _:γ=>I.of true) (fun g=>Ls cl g)
    | .inr q=>ky (aV (Ls s g)) A W (fun _:γ=>I.of false) (fun g=>Lx q g))
def Lr {σ ε γ:Type} (Ls:σ→γ→List aT) (Lx:ε→γ→List aT):σ ⊕ ε→γ→List aT
 | .inl s,g=>Ls s g
 | .inr q,g=>Lx q g
structure v5 (P:Program) (f:FuncId) (τs:List I) (Lin:List aT) {α:Type} (τ:α→I) (run:∀ {σ ε:Type},(α→σ→Option (σ ⊕ ε))→σ→Option (σ ⊕ ε)):Prop where
 go:∀ {σ ε γ:Type} (Ls:σ→γ→List aT) (Lx:ε→γ→List aT) (step:α→σ→Option (σ ⊕ ε)) (cw:σ) (g0:γ) (r:σ ⊕ ε),run step cw=some r→
  ∀ (A:List Nat) (W:World) (u:Value) (vs:List Value),yT A W (Lin++Ls cw g0)→g2 (aV (Lin++Ls cw g0)++A) W τs vs→
    w9 P u τ Ls Lx step (fun dh W'=>Ext (aV (Lin++Ls cw g0)++A) W dh W')→
    Calls P f (u::vs).toArray W (ky (aV (Lin++Ls cw g0)) A W (fun _:γ=>.ep []) (fun g=>Lin++Lr Ls Lx r g))
theorem v5.of {P:Program} {f:FuncId} {fn:Func} {code:Code} {n:Nat} {τs:List I} {Lin:List aT} {α:Type} {τ:α→I} {run:∀ {σ ε:Type},(α→σ→Option (σ ⊕ ε))→σ→Option (σ ⊕ ε)}
 (a7:P.funcs[f]? =some fn) (hb:fn.body=some code) (aR:fn.ntmps=n) (hlen:Nat.ble (τs.length+1) n=true)
 (h:∀ {σ ε γ:Type} (Ls:σ→γ→List aT) (Lx:ε→γ→List aT) (step:α→σ→Option (σ ⊕ ε)) (cw:σ) (g0:γ) (r:σ ⊕ ε),run step cw=some r→
  ∀ W A u,w9 P u τ Ls Lx step (fun dh W'=>Ext (aV (Lin++Ls cw g0)++A) W dh W')→
    ag ⟨P,n,W,aV (Lin++Ls cw g0),A,none,[]⟩ (bodyPost P fn (ky (aV (Lin++Ls cw g0)) A W (fun _:γ=>.ep []) (fun g=>Lin++Lr Ls Lx r g))) code (params 0 (.eq u::τs)) (Lin++Ls cw g0)):v5 P f τs Lin τ run:=by
 refine⟨?_⟩
 intro σ ε γ Ls Lx step cw g0 r aQ A W u vs ao a2 a6
 refine calls_of_wp a7 hb (wpIn_wide.1 (h Ls Lx step cw g0 r aQ W A u a6 _ _ ?_))
 have nj:g2 (aV (Lin++Ls cw g0)++A) W (.eq u::τs) (u::vs):= .cons rfl a2
 have ln:=nj.length
 have hle:τs.length+1≤n:=Nat.le_of_ble_eq_true hlen
 exact
 {defers:=rfl
  size:=by simp at ln; simp [aR,ln]; omega
  env:=fun t τ eU=>by
   obtain⟨_,v,ad,aF⟩:=vB nj 0 t τ eU
   refine⟨v,?_,aF⟩
   have cD:t<(u::vs).length:=(List.getElem?_eq_some_iff.1 ad).1
   rw [Array.getElem?_append_left (by simpa using cD)]
   simpa using ad
  dQ:= .refl _ _
  own:=ao.ok
  nodup:=ao.nodup
  lt:=ao.lt
  gl:=fun k aw _=>aw
  fg:=ao.fg }
section
variable {c:dp} {E:List (Nat×I)} {L:List aT} {ops:Array Oper} {Q:Exit→Act→World→Prop}
variable {d:Option Tmp} {ty:TypeId} {pos:String} {af:Array Edge} {g:Option (Nat×Bool)} {x y:Operand} {t t2:TypeId}
theorem bV.Qz {a:Act} {W:World} (s:bV c E L a W):Ext (c.X++c.ca) c.jr (aV L++c.ca) W:=
 ⟨s.dQ.size,fun k aw bp=>s.dQ.block k aw fun aq=>bp (List.mem_append.2 (.inl aq)),fun k hm cD=>by
   rcases List.mem_append.1 hm with hm | hm
   ·exact List.mem_append.2 (.inl (s.gl k hm cD))
   exact List.mem_append.2 (.inr hm)⟩
theorem bV.FX {a:Act} {W:World} {Lin Lr:List aT} (s:bV c E (Lin++Lr) a W):yT (aV Lr++c.ca) W Lin:=by
 have mD:=s.nodup
 rw [fv] at mD
 obtain⟨nH,pf,qP⟩:=List.nodup_append.1 mD
 exact
 {fg:=fun k hm=>by
   rcases List.mem_append.1 hm with hm | hm
   ·exact⟨s.lt k (by rw [fv]; exact List.mem_append.2 (.inr hm)),fun h=>qP k h k hm rfl⟩
   obtain⟨aa,ad⟩:=s.fg k hm
   exact⟨aa,fun h=>ad (by rw [fv]; exact List.mem_append.2 (.inl h))⟩
  nodup:=nH
  lt:=fun k hm=>s.lt k (by rw [fv]; exact List.mem_append.2 (.inl hm))
  ok:=fun e he=>aT.uk (s.own e (List.mem_append.2 (.inl he))) (.drop fun k hm=>by
   rw [fv]
   simp only [List.mem_append] at hm ⊢
   rcases hm with hm | hm | hm
   ·exact .inl (.inl hm)
   ·exact .inl (.inr hm)
   exact .inr hm) fun _ _=>rfl }
theorem Ba {Lin Lr:List aT} {A:List Nat} {W:World} :Ext (aV (Lin++Lr)++A) W (aV Lin++(aV Lr++A)) W:= .drop fun k hm=>by
 rw [fv]
 simp only [List.mem_append] at hm ⊢
 rcases hm with hm | hm | hm
 ·exact .inl (.inl hm)
 ·exact .inl (.inr hm)
 exact .inr hm
theorem H0 {Lin Lr:List aT} {A:List Nat} {W:World} :Ext (aV Lin++(aV Lr++A)) W (aV (Lin++Lr)++A) W:= .drop fun k hm=>by
 rw [fv] at hm
 simp only [List.mem_append] at hm ⊢
 rcases hm with(hm | hm) | hm
 ·exact .inl hm
 ·exact .inr (.inl hm)
 exact .inr (.inr hm)
theorem ai.yield {rest:List Oper} {bf lu:Nat} {ats:Array TypeId} {u:Value} {α σ ε γ:Type} {τ:α→I} {Ls:σ→γ→List aT} {Lx:ε→γ→List aT} {step:α→σ→Option (σ ⊕ ε)} {Lin:List aT} {x:Operand} {v:α} {s:σ} {gg:γ} {r:σ ⊕ ε}
 (al:c.rd=none) (a6:w9 c.P u τ Ls Lx step (fun dh W'=>Ext (c.X++c.ca) c.jr dh W')) (a7:look E lu=some (.eq u)) (aq:bd c E (Lin++Ls s gg) x (τ v)) (aQ:step v s=some r) (aR:Nat.blt bf c.n=true)
 (aZ:∀ cl,r= .inl cl→ ∀ eZ,ai c ops Q rest ((bf,.of true)::E) (Lin++Ls cl eZ)) (bP:∀ q,r= .inr q→ ∀ eZ,ai c ops Q rest ((bf,.of false)::E) (Lin++Lx q eZ)):
 ai c ops Q (⟨some bf,.call ⟨.value (.tmp lu),#[x],ats⟩,ty,pos,af,none⟩::rest) E (Lin++Ls s gg):=fun a W st=>by
 obtain⟨l,rfl,a6⟩:=a6
 obtain⟨LH,aa,ad⟩:=st.env lu _ a7
 have hu:LH= .func (.yield l) #[] #[]:=ad
 subst hu
 have nI:bV c E (Ls s gg++Lin) a W:=st.perm List.perm_append_comm
 have a2:=aq a W st
 have nj:(τ v).holds (aV (Ls s gg)++(aV Lin++c.ca)) W (a.eval x):=(τ v).mono (.drop fun k hm=>by
  rw [fv]
  simp only [List.mem_append] at hm ⊢
  rcases hm with hm | hm | hm
  ·exact .inl (.inr hm)
  ·exact .inl (.inl hm)
  exact .inr hm) a2
 obtain⟨fn,tmps,assign,body,kl,jX⟩:=a6 v s r aQ gg (aV Lin++c.ca) W (a.eval x) (nI.Qz.trans Ba) nI.FX nj
 have Jz:(execOp a.eval ⟨some bf,.call ⟨.value (.tmp lu),#[x],ats⟩,ty,pos,af,none⟩).run c.P W= .ok (.round l fn tmps assign body) W:=by
  rw [← kl]
  simp [execOp,resolve,Deferred.ofValue,Act.eval,aa,invoke,Sem.run_bind,Sem.run_pure,Result.andThen]
 refine wpListIn_plain rfl fun K vb=>?_
 refine⟨fun _ _=>trivial,?_⟩
 rw [Oper.semAt_eq _ _ _ (fun _ h=>by cases h),Jz,Oper.uponIn_round]
 refine⟨fun h=>by simp at h,?_⟩
 have KL:RoundIn c.F (9 - 1) c.P l fn tmps assign body W _:=jX
 refine KL.mono fun e W' he=>?_
 cases r with
 | inl cl=>
   obtain⟨w,eZ,rfl,qS,aF,aX,a0,bn⟩:=he
   obtain rfl:=of_bool.1 bn
   refine vb _ _ (aZ cl rfl eZ _ _ ?_)
   exact(((nI.after qS aF aX a0).perm List.perm_append_comm).put (by simpa using aR) (of_bool.2 rfl))
 | inr q=>
   obtain⟨w,eZ,rfl,qS,aF,aX,a0,bn⟩:=he
   obtain rfl:=of_bool.1 bn
   refine vb _ _ (bP q rfl eZ _ _ ?_)
   exact(((nI.after qS aF aX a0).perm List.perm_append_comm).put (by simpa using aR) (of_bool.2 rfl))
theorem ai.O1 {rest:List Oper} {bf lu j gt:Nat} {b:Bool} {ats:Array TypeId} {u:Value} {α σ ε γ:Type} {τ:α→I} {Ls:σ→γ→List aT} {Lx:ε→γ→List aT} {step:α→σ→Option (σ ⊕ ε)} {Lin:List aT} {x:Operand} {v:α} {s:σ} {gg:γ} {r:σ ⊕ ε}
 (al:c.rd=none) (a6:w9 c.P u τ Ls Lx step (fun dh W'=>Ext (c.X++c.ca) c.jr dh W')) (hb:b=true) (aE:(ops[j]?).bind (·.dst)=some gt) (ao:look E gt=some (.of b)) (a7:look E lu=some (.cond (b=true) (.eq u))) (aq:bd c E (Lin++Ls s gg) x (τ v)) (aQ:step v s=some r) (aR:Nat.blt bf c.n=true)
 (aZ:∀ cl,r= .inl cl→ ∀ eZ,ai c ops Q rest ((bf,.cond (b=true) (.of true))::E) (Lin++Ls cl eZ)) (bP:∀ q,r= .inr q→ ∀ eZ,ai c ops Q rest ((bf,.cond (b=true) (.of false))::E) (Lin++Lx q eZ)):
 ai c ops Q (⟨some bf,.call ⟨.value (.tmp lu),#[x],ats⟩,ty,pos,af,some (j,true)⟩::rest) E (Lin++Ls s gg):=fun a W st=>by
 have aG:look ((lu,.eq u)::E) lu=some (.eq u):=by simp [look,Nat.beq_refl]
 have KM:bV c ((lu,.eq u)::E) (Lin++Ls s gg) a W:=st.less fun t ng h=>by
  simp only [look] at h
  by_cases e:Nat.beq lu t=true
  ·rw [e] at h
   simp only [cond_true,Option.some.injEq] at h
   subst h
   rw [← eD.1 e]
   exact⟨_,a7,fun A W v a2=>a2.1 hb⟩
  simp only [Bool.not_eq_true] at e
  rw [e] at h
  exact⟨_,h,fun _ _ _ h=>h⟩
 have key:=ai.yield (c:=c) (ops:=ops) (Q:=Q) (E:=(lu,.eq u)::E) (rest:=rest) (ty:=ty) (pos:=pos) (af:=af) (ats:=ats) al a6 aG (fun a W s=>aq a W (s.less fun t ng h=>by
  by_cases e:Nat.beq lu t=true
  ·have:=eD.1 e
   subst this
   rw [a7] at h
   cases h
   refine⟨_,aG,fun A W v a2=>⟨fun _=>a2,fun h=>absurd hb h⟩⟩
  ·simp only [Bool.not_eq_true] at e
   exact⟨ng,by simp only [look]; rw [e]; exact h,fun _ _ _ h=>h⟩)) aQ aR
  (fun cl e eZ a W st=>aZ cl e eZ a W (st.less fun t ng h=>by
   simp only [look] at h ⊢
   by_cases e:Nat.beq bf t=true
   ·rw [e] at h ⊢
    simp only [cond_true,Option.some.injEq] at h ⊢
    exact⟨_,rfl,fun A W v a2=>by subst h; exact⟨fun _=>a2,fun h=>absurd hb h⟩⟩
   simp only [Bool.not_eq_true] at e
   rw [e] at h ⊢
   simp only [cond_false] at h ⊢
   by_cases aO:Nat.beq lu t=true
   ·have:=eD.1 aO
    subst this
    rw [a7] at h
    cases h
    rw [aO]
    exact⟨_,rfl,fun A W v a2=>⟨fun _=>a2,fun h=>absurd hb h⟩⟩
   simp only [Bool.not_eq_true] at aO
   rw [aO]
   exact⟨ng,h,fun _ _ _ h=>h⟩))
  (fun cl e eZ a W st=>bP cl e eZ a W (st.less fun t ng h=>by
   simp only [look] at h ⊢
   by_cases e:Nat.beq bf t=true
   ·rw [e] at h ⊢
    simp only [cond_true,Option.some.injEq] at h ⊢
    exact⟨_,rfl,fun A W v a2=>by subst h; exact⟨fun _=>a2,fun h=>absurd hb h⟩⟩
   simp only [Bool.not_eq_true] at e
   rw [e] at h ⊢
   simp only [cond_false] at h ⊢
   by_cases aO:Nat.beq lu t=true
   ·have:=eD.1 aO
    subst this
    rw [a7] at h
    cases h
    rw [aO]
    exact⟨_,rfl,fun A W v a2=>⟨fun _=>a2,fun h=>absurd hb h⟩⟩
   simp only [Bool.not_eq_true] at aO
   rw [aO]
   exact⟨ng,h,fun _ _ _ h=>h⟩))
 have:=key a W KM
 unfold dp.qI wpListIn at this ⊢
 rw [if_pos (by simp [Region.wanted])] at this
 rw [if_pos (by simp [Region.wanted,AG aE ao st,hb])]
 exact this
theorem ai.ez {l:List Oper} {L2:List aT} (h:L=L2) (k:ai c ops Q l E L2):ai c ops Q l E L:=by subst h; exact k
theorem ai.cases {l:List Oper} (b:Bool) (aa:b=true→ai c ops Q l E L) (ad:b=false→ai c ops Q l E L):ai c ops Q l E L:=by
 cases b
 ·exact ad rfl
 exact aa rfl
theorem ai.P9 {o:Oper} {rest:List Oper} {bf j gt:Nat} {b:Bool} (τ:I) (hb:b=false) (bQ:o.guard=some (j,true)) (hd:o.dst=some bf) (aE:(ops[j]?).bind (·.dst)=some gt) (ao:look E gt=some (.of b)) (aR:Nat.blt bf c.n=true)
 (k:ai c ops Q rest ((bf,.cond (b=true) τ)::E) L):ai c ops Q (o::rest) E L:=fun a W s=>by
 unfold dp.qI wpListIn
 rw [if_neg (by simp [Region.wanted,bQ,AG aE ao s,hb]),hd]
 exact⟨fun _ _=>trivial,k _ _ (s.put (by simpa using aR) ⟨fun h=>(by rw [hb] at h; cases h),fun _=>rfl⟩)⟩
theorem ag.Fx {x:Operand} {b:Bool} {y z:Code} (ao:bd c E L x (.of b)) (hb:b=true) (k:ag c Q y E L):ag c Q (.cond x y z) E L:= .cond ao (fun _=>k) fun h=>by rw [hb] at h; cases h
theorem ag.rG {x:Operand} {b:Bool} {y z:Code} (ao:bd c E L x (.of b)) (hb:b=false) (k:ag c Q z E L):ag c Q (.cond x y z) E L:= .cond ao (fun h=>by rw [hb] at h; cases h) fun _=>k
def Bo:Code→Exit
 | .ret=>.ret
 | .exit id=>.exit id
 | .goto t=>.goto t
 | _=>.normal
def wa:Code→Bool
 | .ret | .exit _ | .goto _=>true
 | _=>false
def Dh {σ ε γ:Type} (c:dp) (fo:ε→Code) (l D:Nat) (rec:Loop) (Ls:σ→γ→List aT) (Lx:ε→γ→List aT):σ ⊕ ε→Exit→Act→World→Prop
 | .inl cl,x,a,W=>x= .normal∧ ∃ g,bV c [] (⟨some l,.is (.loop rec)⟩::⟨some D,.dx⟩::Ls cl g) a W
 | .inr q,x,a,W=>wa (fo q)=true∧x=Bo (fo q)∧ ∃ g,bV c [] (⟨some l,.is (.loop rec)⟩::⟨some D,.dx⟩::Lx q g) a W
def Di (c:dp) (l:Nat) (body:Code) (Q:Exit→Act→World→Prop) (a:Act) (W:World):Prop:=
 ∃ oI,(Instr.beginRound l).run c.P W= .ok () oI∧c.wp body Q a oI
theorem ae.begin {l:Nat} {body:Code} {tC:Exit→Act→World→Prop} (i:Nat) {r:Loop} (ar:L[i]? =some ⟨some l,.is (.loop r)⟩) (aQ:r.state= .ready)
 (k:ag c Q body E (L.set i ⟨some l,.is (.loop { r with state:= .busy })⟩)):ae c (Exit.then (Di c l body Q) tC) .normal E L:=fun a W s=>by
 obtain⟨o,aa,ad⟩:=s.own _ (List.mem_of_getElem? ar)
 have kn:o= .loop r:=ad
 subst kn
 exact⟨_,run_beginRound aa aQ,k _ _ (s.rT ar rfl)⟩
theorem ae.Ga {σ ε γ:Type} {fo:ε→Code} {l D:Nat} {rec:Loop} {Ls:σ→γ→List aT} {Lx:ε→γ→List aT} {cl:σ} (g:γ) (n:Nat) (ar:L.drop n=⟨some l,.is (.loop rec)⟩::⟨some D,.dx⟩::Ls cl g):
 ae c (Dh c fo l D rec Ls Lx (.inl cl)) .normal E L:=fun a W s=>⟨rfl,g,by rw [← ar]; exact(s.o1 n).less (fun t τ h=>by simp [look] at h)⟩
theorem ae.IK {σ ε γ:Type} {fo:ε→Code} {l D:Nat} {rec:Loop} {Ls:σ→γ→List aT} {Lx:ε→γ→List aT} {q:ε} {x:Exit} (g:γ) (n:Nat) (aE:wa (fo q)=true) (aq:x=Bo (fo q)) (ar:L.drop n=⟨some l,.is (.loop rec)⟩::⟨some D,.dx⟩::Lx q g):
 ae c (Dh c fo l D rec Ls Lx (.inr q)) x E L:=fun a W s=>⟨aE,aq,g,by rw [← ar]; exact(s.o1 n).less (fun t τ h=>by simp [look] at h)⟩
theorem ag.jump {j:Code} (aE:wa j=true) (k:ae c Q (Bo j) E L):ag c Q j E L:=by
 cases j <;> simp only [wa] at aE <;> first | cases aE | skip
 all_goals first | exact .exit k | exact .ret k | exact fun a W s=>wpIn_goto (k a W s)
theorem My {P:Program} {l:Nat} {R:Ending→World→Prop} {j:Code} {a:Act} {W W':World} {v:Value} (aE:wa j=true) (bn:(Instr.endRound l (some j)).run P W= .ok v W') (jX:R (.returned v) W'):
 roundPost P l R (Bo j) a W:=by
 cases j <;> simp only [wa] at aE <;> first | exact⟨_,_,bn,jX⟩ | cases aE
theorem bV.mark {a:Act} {W:World} (s:bV c E L a W) (D:Nat):bV { c with ds:=D::c.ds } E L { a with defers:=FP D::a.defers } W:=
 {defers:=by simp [s.defers],size:=s.size,env:=s.env,dQ:=s.dQ,own:=s.own,nodup:=s.nodup,lt:=s.lt,gl:=s.gl,fg:=s.fg }
def KN (P:Program) (f:FuncId) (τs:List I) (Lin:List aT) {α σ ε γ:Type} (τ:α→I) (run:(α→σ→Option (σ ⊕ ε))→σ→Option (σ ⊕ ε)) (Ls:σ→γ→List aT) (Lx:ε→γ→List aT):Prop:=
 ∀ (step:α→σ→Option (σ ⊕ ε)) (cw:σ) (g0:γ) (r:σ ⊕ ε),run step cw=some r→
   ∀ (A:List Nat) (W:World) (u:Value) (vs:List Value),yT A W (Lin++Ls cw g0)→g2 (aV (Lin++Ls cw g0)++A) W τs vs→
     w9 P u τ Ls Lx step (fun dh W'=>Ext (aV (Lin++Ls cw g0)++A) W dh W')→
     Calls P f (u::vs).toArray W (ky (aV (Lin++Ls cw g0)) A W (fun _:γ=>.ep []) (fun g=>Lin++Lr Ls Lx r g))
theorem Nr {gt p:Nat} {assign body:Code} {f:FuncId} {na:List I} {Lin:List aT} {α σ ε γ:Type} {τ:α→I} {run:(α→σ→Option (σ ⊕ ε))→σ→Option (σ ⊕ ε)}
 {Ls:σ→γ→List aT} {Lx:ε→γ→List aT} {step:α→σ→Option (σ ⊕ ε)} {cw:σ} {g0:γ} {r:σ ⊕ ε} (fo:ε→Code)
 (al:c.rd=none) (eR:bM c.P f) (bQ:look E gt=some (.gU f na)) (ml:∀ ay aO nk,KN c.P f na Lin τ run (fun s g=>ay::aO::Ls s g) nk) (aQ:run step cw=some r) (ar:L=Lin++Ls cw g0) (hp:Nat.blt p c.n=true)
 (pE:∀ x s r,step x s=some r→ ∀ g (kY:World) (k2 kZ:List Nat) (l D:Nat) (rec:Loop),rec.state= .ready→
  ag ⟨c.P,c.n,kY,k2,kZ,some l,[]⟩ (Exit.then (Di ⟨c.P,c.n,kY,k2,kZ,some l,[]⟩ l body (Dh ⟨c.P,c.n,kY,k2,kZ,some l,[]⟩ fo l D { rec with state:= .busy } Ls Lx r)) (fun _ _ _=>False)) assign ((p,τ x)::E) (⟨some l,.is (.loop rec)⟩::⟨some D,.dx⟩::Ls s g))
 (m7:∀ cl,r= .inl cl→ ∀ g D,ae { c with ds:=D::c.ds } Q .normal E (⟨some D,.dx⟩::(Lin++Ls cl g)))
 (wA:∀ q,r= .inr q→ ∀ g D,ag { c with ds:=D::c.ds } Q (fo q) E (⟨some D,.dx⟩::(Lin++Lx q g))):
 ag c Q (.rangeFunc (.tmp gt) #[p] assign body) E L:=fun a W st=>by
 subst ar
 refine wpIn_rangeFunc fun fn acQ=>?_
 show ∃ l mark abY d Z2 zj args abZ,(Instr.enterLoop fn a.tmps #[p] assign body c.rd).run c.P W=_∧_
 rw [al]
 obtain⟨rec,kV⟩:∃ rec:Loop,rec= { state:= .ready,pending:=none,fn,tmps:=a.tmps,params:= #[p],assign,body,defers:=W.heap.size } :=⟨_,rfl⟩
 obtain⟨v,CQ,iA,xa,acR⟩:=st.env gt _ bQ
 obtain⟨hW,CR⟩:∃ hW,(W.alloc (.deferred (some []))).alloc (.loop rec)=hW:=⟨_,rfl⟩
 have s1:=(st.alloc (o:= .deferred (some [])) (cp:= .dx) rfl).alloc (o:= .loop rec) (cp:= .is (.loop rec)) rfl
 rw [CR,World.size_alloc] at s1
 obtain⟨D,lr⟩:∃ D,D=W.heap.size:=⟨_,rfl⟩
 obtain⟨l,ao⟩:∃ l,l=W.heap.size+1:=⟨_,rfl⟩
 have CS:=run_enterLoop_outer (P:=c.P) (w:=W) fn a.tmps #[p] assign body
 rw [← kV,CR,← ao,← lr] at CS
 rw [← ao,← lr] at s1
 obtain⟨lN,qT⟩:∃ lN:σ→γ→List aT,lN=fun s g=>⟨some l,.is (.loop rec)⟩::⟨some D,.dx⟩::Ls s g:=⟨_,rfl⟩
 obtain⟨nk,CT⟩:∃ nk:ε→γ→List aT,nk=fun q g=>⟨some l,.is (.loop { rec with state:= .done,pending:=some (fo q) })⟩::⟨some D,.dx⟩::Lx q g:=⟨_,rfl⟩
 have s2:bV c E (Lin++lN cw g0) a hW:=s1.perm (by
  rw [qT]
  exact(List.perm_middle.trans (List.perm_middle.cons _)).symm)
 have KO:g2 (aV (Lin++lN cw g0)++c.ca) hW na iA:=by
  have aa:(I.gU f na).holds (aV (Lin++lN cw g0)++c.ca) hW v:=by
   obtain⟨xk,aa,ad⟩:=s2.env gt _ bQ
   rw [CQ] at aa
   cases aa
   exact ad
  obtain⟨KP,ay,aO⟩:=aa
  rw [xa] at ay
  have:KP=iA:=by injection ay with _ _ ay; injection ay with ay; exact ay.symm
  rw [← this]; exact aO
 have CU:bV c E ((Lin++lN cw g0)++[]) a hW:=by rw [List.append_nil]; exact s2
 have BL:=CU.FX
 simp only [aV,List.nil_append] at BL
 have J4:w9 c.P (.func (.yield l) #[] #[]) τ lN nk step (fun dh W'=>Ext (aV (Lin++lN cw g0)++c.ca) hW dh W'):=by
  refine⟨l,rfl,fun x s lT hs g A oI v2 hP hle a2=>?_⟩
  have Ce:=hle
  rw [qT] at Ce
  obtain⟨o,dF,fx⟩:=Ce.ok ⟨some l,.is (.loop rec)⟩ (by simp)
  have qz:o= .loop rec:=fx
  subst qz
  have a6:=run_yield (P:=c.P) (args:= #[v2]) dF (by rw [kV]; rfl)
  refine⟨_,_,_,_,a6,roundIn_of_wpIn trivial ?_⟩
  have ay:rec.assign=assign:=by rw [kV]
  have aO:rec.body=body:=by rw [kV]
  have cK:rec.params= #[p]:=by rw [kV]
  have di:rec.tmps=a.tmps:=by rw [kV]
  rw [ay,aO,cK,di]
  refine Ew (n:=9) rfl ?_
  have JA:((#[p]:Array Tmp).zip #[v2]).foldl (fun tmps (t,a)=>tmps.setIfInBounds t a) a.tmps=a.tmps.setIfInBounds p v2:=by simp
  rw [JA]
  subst qT CT
  refine wpIn_mono ((pE x s lT hs g oI (aV (⟨some l,.is (.loop rec)⟩::⟨some D,.dx⟩::Ls s g)) A l D rec (by rw [kV])) { tmps:=a.tmps.setIfInBounds p v2,defers:= [] } oI ?_) ?_
  ·have jz:p<c.n:=by simpa using hp
   exact
   {defers:=rfl
    size:=by simp [s2.size]
    env:=fun t ng eU=>by
     simp only [look] at eU
     by_cases e:Nat.beq p t=true
     ·rw [e] at eU
      simp only [cond_true,Option.some.injEq] at eU
      subst eU
      have:=eD.1 e
      subst this
      exact⟨v2,by simp [s2.size,jz],a2⟩
     simp only [Bool.not_eq_true] at e
     rw [e] at eU
     simp only [cond_false] at eU
     obtain⟨u,aa,ad⟩:=s2.env t ng eU
     have dm:p≠t:=fun h=>by rw [eD.2 h] at e; cases e
     exact⟨u,by rw [Array.getElem?_setIfInBounds_ne dm]; exact aa,ng.mono hP ad⟩
    dQ:= .refl _ _
    own:=hle.ok
    nodup:=hle.nodup
    lt:=hle.lt
    gl:=fun k aw _=>aw
    fg:=hle.fg }
  intro e hH adV hq
  cases e with
  | normal=>
    obtain⟨LI,KQ,hb⟩:=hq
    refine⟨LI,KQ,Ew (n:=9) rfl (wpIn_mono hb ?_)⟩
    intro e pq Dj Gr
    have fin:∀ (jump:Option Code) {Lr:List aT},bV ⟨c.P,c.n,oI,aV (⟨some l,.is (.loop rec)⟩::⟨some D,.dx⟩::Ls s g),A,some l,[]⟩ [] (⟨some l,.is (.loop { rec with state:= .busy })⟩::⟨some D,.dx⟩::Lr) pq Dj→
     ∃ pr,(Instr.endRound l jump).run c.P Dj= .ok (.bool jump.isNone) pr∧bV ⟨c.P,c.n,oI,aV (⟨some l,.is (.loop rec)⟩::⟨some D,.dx⟩::Ls s g),A,some l,[]⟩ [] (⟨some l,.is (.loop { rec with state:=if jump.isNone then .ready else .done,pending:=jump })⟩::⟨some D,.dx⟩::Lr) pq pr:=fun jump Lr fY=>by
     obtain⟨o,aa,ad⟩:=fY.own ⟨some l,.is (.loop { rec with state:= .busy })⟩ (by simp)
     have kn:o= .loop { rec with state:= .busy } :=ad
     subst kn
     exact⟨_,run_endRound jump aa,fY.rT (i:=0) rfl rfl⟩
    cases lT with
    | inl cl=>
      obtain⟨rfl,eZ,fY⟩:=Gr
      obtain⟨pr,bn,jq⟩:=fin none fY
      refine⟨_,pr,bn,?_⟩
      have KR:({ rec with state:=if (none:Option Code).isNone then .ready else .done,pending:=none } :Loop)=rec:=by rw [kV]; rfl
      rw [KR] at jq
      exact jq.ends (ρ:=fun _:γ=>I.of true) (Lo:=fun g=>⟨some l,.is (.loop rec)⟩::⟨some D,.dx⟩::Ls cl g) eZ (List.Sublist.refl _) (of_bool.2 rfl)
    | inr q=>
      obtain⟨aE,rfl,eZ,fY⟩:=Gr
      obtain⟨pr,bn,jq⟩:=fin (some (fo q)) fY
      have key:ky (aV (⟨some l,.is (.loop rec)⟩::⟨some D,.dx⟩::Ls s g)) A oI (fun _:γ=>I.of false) (fun g=>⟨some l,.is (.loop { rec with state:= .done,pending:=some (fo q) })⟩::⟨some D,.dx⟩::Lx q g) (.returned (.bool false)) pr:=
       jq.ends (ρ:=fun _:γ=>I.of false) (Lo:=fun g=>⟨some l,.is (.loop { rec with state:= .done,pending:=some (fo q) })⟩::⟨some D,.dx⟩::Lx q g) eZ (List.Sublist.refl _) (of_bool.2 rfl)
      exact My aE bn key
  | exit id=>exact hq.elim
  | goto t=>exact hq.elim
  | ret=>exact hq.elim
  | panic Lv=>exact hq.elim
  | outgrown=>exact hq.elim
 have KS:KN c.P f na Lin τ run lN nk:=by rw [qT]; exact ml _ _ nk
 have BM:=KS step cw g0 r aQ c.ca hW (.func (.yield l) #[] #[]) iA BL KO J4
 have lp:a.eval (.tmp gt)= .func (.func f) #[] iA.toArray:=by simp [Act.eval,CQ,xa]
 refine⟨l,[FP D],hW,{ target:= .fn (.func f) iA.toArray,args:= #[.func (.yield l) #[] #[]] },hW,f,#[.func (.yield l) #[] #[]]++iA.toArray,hW,CS,?_,fun _ _=>trivial,?_,fun h=>by simp at h,?_⟩
 ·simp only [resolve,lp]
  simp [go_sem]
 ·simp [invoke,go_sem,eR.run]
 refine CallsIn.Il ?_
 have JB:(#[.func (.yield l) #[] #[]]++iA.toArray:Array Value)=(.func (.yield l) #[] #[]::iA).toArray:=by simp
 rw [JB]
 refine BM.mono fun e LJ ⟨adW,eZ,he,a7,aF,aX,a0,bn⟩=>?_
 subst he
 have ps:=CU.after a7 aF (by simpa [aV] using aX) (by simpa [aV] using a0)
 rw [List.append_nil] at ps
 cases r with
 | inl cl=>
   simp only [Lr] at ps
   subst qT
   have Dk:bV c E (⟨some l,.is (.loop rec)⟩::⟨some D,.dx⟩::(Lin++Ls cl eZ)) a LJ:=ps.perm (by
    exact List.perm_middle.trans (List.perm_middle.cons _))
   obtain⟨o,dF,fx⟩:=Dk.own ⟨some l,.is (.loop rec)⟩ (by simp)
   have qz:o= .loop rec:=fx
   subst qz
   have ox:=run_endLoop (P:=c.P) dF (by rw [kV]; simp)
   have jz:rec.pending=none:=by rw [kV]
   rw [jz] at ox
   refine⟨none,_,ox,?_⟩
   have tI:=(Dk.rT (i:=0) (cp':= .is (.loop { rec with state:= .exhausted })) (o':= .loop { rec with state:= .exhausted }) rfl rfl).o1 1
   rw [jz] at tI
   exact m7 cl rfl eZ D _ _ (tI.mark D)
 | inr q=>
   simp only [Lr] at ps
   subst CT
   have Dk:bV c E (⟨some l,.is (.loop { rec with state:= .done,pending:=some (fo q) })⟩::⟨some D,.dx⟩::(Lin++Lx q eZ)) a LJ:=ps.perm (by
    exact List.perm_middle.trans (List.perm_middle.cons _))
   obtain⟨o,dF,fx⟩:=Dk.own ⟨some l,.is (.loop { rec with state:= .done,pending:=some (fo q) })⟩ (by simp)
   have qz:o= .loop { rec with state:= .done,pending:=some (fo q) } :=fx
   subst qz
   have ox:=run_endLoop (P:=c.P) dF (by simp)
   refine⟨some (fo q),_,ox,?_⟩
   have tI:=(Dk.rT (i:=0) (cp':= .is (.loop { rec with state:= .exhausted,pending:=some (fo q) })) (o':= .loop { rec with state:= .exhausted,pending:=some (fo q) }) rfl rfl).o1 1
   exact wA q rfl eZ D _ _ (tI.mark D)
theorem NG {gt p:Nat} {assign body:Code} {f:FuncId} {na:List I} {Lin:List aT} {α σ ε γ:Type} {τ:α→I} {run:∀ {σ ε:Type},(α→σ→Option (σ ⊕ ε))→σ→Option (σ ⊕ ε)}
 {Ls:σ→γ→List aT} {Lx:ε→γ→List aT} {step:α→σ→Option (σ ⊕ ε)} {cw:σ} {g0:γ} {r:σ ⊕ ε} (fo:ε→Code)
 (al:c.rd=none) (eR:bM c.P f) (bQ:look E gt=some (.gU f na)) (ml:v5 c.P f na Lin τ run) (aQ:run step cw=some r) (ar:L=Lin++Ls cw g0) (hp:Nat.blt p c.n=true)
 (pE:∀ x s r,step x s=some r→ ∀ g (kY:World) (k2 kZ:List Nat) (l D:Nat) (rec:Loop),rec.state= .ready→
  ag ⟨c.P,c.n,kY,k2,kZ,some l,[]⟩ (Exit.then (Di ⟨c.P,c.n,kY,k2,kZ,some l,[]⟩ l body (Dh ⟨c.P,c.n,kY,k2,kZ,some l,[]⟩ fo l D { rec with state:= .busy } Ls Lx r)) (fun _ _ _=>False)) assign ((p,τ x)::E) (⟨some l,.is (.loop rec)⟩::⟨some D,.dx⟩::Ls s g))
 (m7:∀ cl,r= .inl cl→ ∀ g D,ae { c with ds:=D::c.ds } Q .normal E (⟨some D,.dx⟩::(Lin++Ls cl g)))
 (wA:∀ q,r= .inr q→ ∀ g D,ag { c with ds:=D::c.ds } Q (fo q) E (⟨some D,.dx⟩::(Lin++Lx q g))):
 ag c Q (.rangeFunc (.tmp gt) #[p] assign body) E L:=
 Nr (run:=run) fo al eR bQ (fun ay aO nk=>ml.go (fun s g=>ay::aO::Ls s g) nk) aQ ar hp pE m7 wA
theorem UE {P:Program} {fn:Func} {R:Ending→World→Prop} {a:Act} {W:World} (h:bodyPost P fn R .ret a W):bodyPostM Fence.wide 9 P fn R .ret a W:=by
 obtain⟨aa,v,ad,aF⟩:=h
 show LeavesInM Fence.wide 9 P fn a.tmps R a.defers .returning W
 rw [aa]
 exact⟨v,ad,aF⟩
theorem ae.ou {P:Program} {fn:Func} {R:Ending→World→Prop} (k:ae c (bodyPost P fn R) .ret E L):ae c (bodyPost P fn R) .normal E L:=fun a W s=>k a W s
theorem ae.wL {fn:Func} {R:Ending→World→Prop} (k:ae c (bodyPost c.P fn R) .ret E L):ae c (bodyPostM Fence.wide 9 c.P fn R) .ret E L:=fun a W s=>UE (k a W s)
theorem ae.s6 {fn:Func} {R:Ending→World→Prop} {D:Nat} (i:Nat) (ar:L[i]? =some ⟨some D,.dx⟩) (ie:c.ds= [D]) (k:ae { c with ds:= [] } (bodyPost c.P fn R) .ret E (L.set i ⟨some D,.is (.deferred none)⟩)):
 ae c (bodyPostM Fence.wide 9 c.P fn R) .ret E L:=fun a W s=>by
 obtain⟨o,aa,ad⟩:=s.own _ (List.mem_of_getElem? ar)
 have kn:o= .deferred (some []):=ad
 subst kn
 have s2:=s.rT ar (cp':= .is (.deferred none)) (o':= .deferred none) rfl
 have hV:bV { c with ds:= [] } E (L.set i ⟨some D,.is (.deferred none)⟩) { a with defers:= [] } (W.putObj D (.deferred none)):=
  {defers:=rfl,size:=s2.size,env:=s2.env,dQ:=s2.dQ,own:=s2.own,nodup:=s2.nodup,lt:=s2.lt,gl:=s2.gl,fg:=s2.fg }
 obtain⟨_,v,aF,aX⟩:=k _ _ hV
 show LeavesInM Fence.wide 9 c.P fn a.tmps R a.defers .returning W
 rw [s.defers,ie]
 exact⟨by simp,.inl ⟨D,_,rfl,run_takeDeferred aa,v,aF,aX⟩⟩
end
theorem bw.X5 {P:Program} {f:FuncId} {fn:Func} {code:Code} {n:Nat} {τs:List I} {ρ:I} (a7:P.funcs[f]? =some fn) (hb:fn.body=some code) (aR:fn.ntmps=n) (hlen:Nat.ble τs.length n=true)
 (h:∀ W A,ag ⟨P,n,W,[],A,none,[]⟩ (bodyPostM Fence.wide 9 P fn fun e W'=> ∃ v,e= .returned v∧Fr [] W W'∧ρ.holds A W' v) code (params 0 τs) []):bw P f τs ρ:=by
 intro A W vs gA a2
 refine(callsIn_wide (n:=9)).1 (callsIn_of_wp_marks a7 hb trivial (h W A _ _ ?_))
 have ao:=a2.length
 have hle:τs.length≤n:=Nat.le_of_ble_eq_true hlen
 exact
 {defers:=rfl
  size:=by simp [aR,ao]; omega
  env:=fun t τ ln=>by
   obtain⟨_,v,ad,aF⟩:=vB a2 0 t τ ln
   refine⟨v,?_,aF⟩
   have cD:t<vs.length:=(List.getElem?_eq_some_iff.1 ad).1
   rw [Array.getElem?_append_left (by simpa using cD)]
   simpa using ad
  dQ:= .refl _ _
  own:=by simp
  nodup:=by simp [aV]
  lt:=by simp [aV]
  gl:=by simp [aV]
  fg:=fun k aw=>⟨gA k aw,by simp [aV]⟩ }
theorem bw.ofM {P:Program} {f:FuncId} {fn:Func} {code:Code} {n:Nat} {τs:List I} {ρ:I} (a7:P.funcs[f]? =some fn) (hb:fn.body=some code) (aR:fn.ntmps=n) (hlen:Nat.ble τs.length n=true)
 (h:∀ W A,ag ⟨P,n,W,[],A,none,[]⟩ (bodyPostM Fence.wide 9 P fn (wR ⟨P,n,W,[],A,none,[]⟩ ρ)) code (params 0 τs) []):bw P f τs ρ:=bw.X5 a7 hb aR hlen h
theorem b9.ofM {P:Program} {f:FuncId} {fn:Func} {code:Code} {n:Nat} {τs:List I} {Lin:List aT} {δ:Type} {ρ:δ→I} {Lo:δ→List aT} (a7:P.funcs[f]? =some fn) (hb:fn.body=some code) (aR:fn.ntmps=n) (hlen:Nat.ble τs.length n=true)
 (h:∀ W A,ag ⟨P,n,W,aV Lin,A,none,[]⟩ (bodyPostM Fence.wide 9 P fn (ky (aV Lin) A W ρ Lo)) code (params 0 τs) Lin):b9 P f τs Lin ρ Lo:=by
 intro A W vs gA gW cD hS a2
 refine(callsIn_wide (n:=9)).1 (callsIn_of_wp_marks a7 hb trivial (h W A _ _ ?_))
 have ao:=a2.length
 have hle:τs.length≤n:=Nat.le_of_ble_eq_true hlen
 exact
 {defers:=rfl
  size:=by simp [aR,ao]; omega
  env:=fun t τ ln=>by
   obtain⟨_,v,ad,aF⟩:=vB a2 0 t τ ln
   refine⟨v,?_,aF⟩
   have cD:t<vs.length:=(List.getElem?_eq_some_iff.1 ad).1
   rw [Array.getElem?_append_left (by simpa using cD)]
   simpa using ad
  dQ:= .refl _ _
  own:=hS
  nodup:=gW
  lt:=cD
  gl:=fun k aw _=>aw
  fg:=gA }
theorem HK {τ σ:I} (h:τ.Flat) (k:σ.Flat):(I.ep [τ,σ]).Flat:=fun A W dh W' v ⟨vs,aa,ad⟩=>by
 refine⟨vs,aa,?_⟩
 generalize vs.toList=l at ad
 cases ad with
 | cons a r=>cases r with
   | cons b r=>cases r; exact .cons (h _ _ _ _ _ a) (.cons (k _ _ _ _ _ b) .nil)
section
variable {c:dp} {E:List (Nat×I)} {L:List aT} {ops:Array Oper} {Q:Exit→Act→World→Prop}
variable {d:Option Tmp} {ty:TypeId} {pos:String} {af:Array Edge} {g:Option (Nat×Bool)} {x y:Operand} {t t2:TypeId}
theorem cf.via {o:Oper} {τ:I} {E':List (Nat×I)} {ax:List aT} (a7:τ.Flat) (hs:∀ a W,bV c E L a W→bV c E' ax a W) (h:cf c E' ax o τ):cf c E L o τ:=fun a W st=>by
 have:=h a W (hs a W st)
 unfold ht at this ⊢
 exact Oper.wp_mono (fun gz W' ⟨v,aa,ad,aF⟩=>⟨v,aa,ad,a7 _ _ _ _ _ aF⟩) this
theorem bV.tell {a:Act} {W:World} (s:bV c E L a W) {gK:Nat} {σ τ:I} (ao:look E gK=some σ) (h:∀ v,σ.holds (aV L++c.ca) W v→τ.holds (aV L++c.ca) W v):bV c ((gK,τ)::E) L a W:=by
 refine { s with env:=fun t ng eU=>?_ }
 simp only [look] at eU
 by_cases e:Nat.beq gK t=true
 ·rw [e] at eU
  simp only [cond_true,Option.some.injEq] at eU
  subst eU
  have:=eD.1 e
  subst this
  obtain⟨v,aa,ad⟩:=s.env gK _ ao
  exact⟨v,aa,h v ad⟩
 simp only [Bool.not_eq_true] at e
 rw [e] at eU
 exact s.env t ng eU
theorem bV.QA {a:Act} {W:World} (s:bV c E L a W) {i p:Nat} {α:Type} [aj α] {z:α} (ar:L[i]? =some ⟨some p,.var z⟩):
 (I.ptr z).holds (aV (L.set i ⟨none,.dead⟩)++c.ca) W (.pointer (some ⟨p,0,none⟩)):=by
 obtain⟨o,e3,cs,T,rfl,aQ⟩:=s.own _ (List.mem_of_getElem? ar)
 have hlen:cs.toList.length=aj.size α:=aj.len aQ
 refine⟨p,0,cs,T,(0,0),rfl,s.AX ar,e3,by simp at hlen; omega,?_⟩
 rw [List.drop_zero,← hlen,List.take_length]
 have lh:=xS (L:=L) (i:=i) (cp:= .dead)
 exact aj.mono (.drop fun k hm=>by
  rcases List.mem_append.1 hm with hm | hm
  ·exact List.mem_append.2 (.inl (lh.subset hm))
  exact List.mem_append.2 (.inr hm)) aQ
abbrev CV (f p:Nat):Value:= .func (.func f) #[.pointer (some ⟨p,0,none⟩)] #[]
theorem Zs {f p:Nat} (aq:bd c E L x (.eq (.pointer (some ⟨p,0,none⟩)))):cf c E L ⟨d,.makeFunc (.func f) #[x] #[],ty,pos,af,g⟩ (.eq (CV f p)):= .pure fun a W s=>by
 have h:=aq a W s
 refine⟨_,?_,rfl⟩
 have dc:a.eval x= .pointer (some ⟨p,0,none⟩):=h
 simp [execOp,Instr.makeFunc,dc,CV]
theorem Xn {f p:Nat} {α β γ δ:Type} [aj α] [aj β] [aj γ] [aj δ] {z:δ} {F:α→β→Option γ} {P:Program} (eR:bM P f) (h:∀ x y r,F x y=some r→bw P f [.ptr z,.of x,.of y] (.of r)) {A:List Nat} {W:World}
 (hp:(I.ptr z).holds A W (.pointer (some ⟨p,0,none⟩))):(I.yW P F).holds A W (CV f p):=
 ⟨f,_,#[],rfl,eR,fun dh W' e gA x y r pn zg nL a2 xa=>by simpa using h x y r nL dh W' [_,pn,zg] gA (.cons (I.mono _ e hp) (.cons a2 (.cons xa .nil)))⟩
theorem cf.Qd {o:Oper} {τ σ:I} {p:Nat} {α:Type} [aj α] {z:α} (i gK:Nat) (ao:look E gK=some σ) (a2:∀ A W v,σ.holds A W v→v= .pointer (some ⟨p,0,none⟩)) (ar:L[i]? =some ⟨some p,.var z⟩) (a7:τ.Flat)
 (h:cf c ((gK,.ptr z)::E) (L.set i ⟨none,.dead⟩) o τ):cf c E L o τ:=
 .via a7 (fun a W s=>(s.kill i).tell (σ:=σ) ao (fun v cE=>by rw [a2 _ _ _ cE]; exact s.QA ar)) h
theorem cf.XV {o:Oper} {τ:I} {p f:Nat} {α β γ δ:Type} [aj α] [aj β] [aj γ] [aj δ] {z:δ} {F:α→β→Option γ} (i gK:Nat) (ao:look E gK=some (.eq (CV f p))) (ar:L[i]? =some ⟨some p,.var z⟩) (eR:bM c.P f)
 (nL:∀ x y r,F x y=some r→bw c.P f [.ptr z,.of x,.of y] (.of r)) (a7:τ.Flat) (h:cf c ((gK,.yW c.P F)::E) (L.set i ⟨none,.dead⟩) o τ):cf c E L o τ:=
 .via a7 (fun a W s=>(s.kill i).tell ao (fun v cE=>by have acS:v=CV f p:=cE; rw [acS]; exact Xn eR nL (s.QA ar))) h
theorem cf.Zr {o:Oper} {τ:I} {p cap T:Nat} {key:Option Nat} {β γ:Type} [aj β] [aj γ] {b b':β} {xs:List γ} {os os':List (Nat×Value)} (l:aN β (List γ)) (i j q:Nat) (hR:Nat.beq i j=false) (ar:L[i]? =some ⟨some p,.cj b os⟩) (p4:L[j]? =some ⟨key,.row T xs cap⟩)
 (hq:os[q]? =some (l.off,aS key xs.length cap)) (hb:l.set b xs=b') (pg:rz os l.off=os') (a7:τ.Flat) (h:cf c E ((L.set j ⟨none,.dead⟩).set i ⟨some p,.cj b' os'⟩) o τ):cf c E L o τ:=
 .via a7 (fun a W s=>s.lf l (fun e=>by rw [e,Nat.beq_refl] at hR; cases hR) ar p4 q hq hb pg) h
theorem cf.XU {o:Oper} {τ:I} {p cap T:Nat} {key:Option Nat} {β γ:Type} [aj β] [aj γ] {b b':β} {xs:List γ} {os os':List (Nat×Value)} (l:aN β (List γ)) (i j q gK:Nat) (hR:Nat.beq i j=false) (ar:L[i]? =some ⟨some p,.cj b os⟩) (p4:L[j]? =some ⟨key,.row T xs cap⟩)
 (hq:os[q]? =some (l.off,aS key xs.length cap)) (hb:l.set b xs=b') (pg:rz os l.off=os') (pb:look E gK=some (.eq (aS key xs.length cap))) (a7:τ.Flat) (h:cf c ((gK,.of xs)::E) ((L.set j ⟨none,.dead⟩).set i ⟨some p,.cj b' os'⟩) o τ):cf c E L o τ:=
 .via a7 (fun a W s=>s.BH l (fun e=>by rw [e,Nat.beq_refl] at hR; cases hR) ar p4 q hq hb pg pb) h
theorem cf.Qc {o:Oper} {τ:I} {p:Nat} {β:Type} [aj β] {b:β} (i:Nat) (ar:L[i]? =some ⟨some p,.cj b []⟩) (a7:τ.Flat) (h:cf c E (L.set i ⟨some p,.var b⟩) o τ):cf c E L o τ:=
 .via a7 (fun a W s=>s.Bk (cp':= .var b) ar (fun o ⟨cs,T,aa,ad⟩=>⟨cs,T,aa,ad.1⟩) id) h
theorem M6 {P:Program} {T:TypeId} {e:TypeId} (h:P.underlying T=some (.pointer e)) (p:Addr) (W:World) (n:Nat):(Op.equalIn (n+1) T (.pointer (some p)) (.pointer none)).run P W= .ok false W:=by
 simp [Op.equalIn,run_underlying h]
theorem E9 {p:Addr} {e:TypeId} (hu:c.P.underlying t=some (.pointer e)) (aq:bd c E L x (.eq (.pointer (some p)))):cf c E L ⟨d,.binOp .eql t x (.const (.pointer none)) t2,ty,pos,af,g⟩ (.of false):= .pure fun a W s=>by
 have aR:a.eval (.const (.pointer none))= .pointer none:=rfl
 have aa:a.eval x= .pointer (some p):=aq a W s
 refine⟨.bool false,?_,of_bool.2 rfl⟩
 simp only [execOp,eqGuard,binOp,aa,aR,Op.equal,Op.maxDepth]
 simp [M6 hu p W 9999]
theorem WX {γ:Type} [aj γ] {r:γ} {e:TypeId} (hu:c.P.underlying t=some (.pointer e)) (aq:bd c E L x (.ptr r)):cf c E L ⟨d,.binOp .eql t x (.const (.pointer none)) t2,ty,pos,af,g⟩ (.of false):= .pure fun a W s=>by
 have aR:a.eval (.const (.pointer none))= .pointer none:=rfl
 obtain⟨b,off,cur,T,hA,aa,_⟩:=aq a W s
 refine⟨.bool false,?_,of_bool.2 rfl⟩
 simp only [execOp,eqGuard,binOp,aa,aR,Op.equal,Op.maxDepth]
 simp [M6 hu _ W 9999]
theorem ag.bI {code:Code} (i:Nat) {e:aT} (h:L[i]? =Option.some e) (k:ag c Q code E (e::L.eraseIdx i)):ag c Q code E L:=fun a W s=>k a W (s.bI h)
theorem W3 {p:Option Addr} :∀ A W v,(I.eq (.pointer p)).holds A W v→v.oneCell'=true:=fun A W v h=>by
 have dc:v= .pointer p:=h
 rw [dc]; rfl
def gJ (c:dp) (E:List (Nat×I)) (L:List aT) (o:Oper) (τ:I):Prop:=
 ∀ a W,bV c E L a W→ht c.P o a W fun v W'=>bV c E L a W'∧τ.holds (aV L++c.ca) W' v
theorem ai.jC {o:Oper} {rest:List Oper} {d:Nat} {τ:I} (h:gJ c E L o τ) (bQ:o.guard=none) (hd:o.dst=some d) (aR:Nat.blt d c.n=true)
 (k:ai c ops Q rest ((d,τ)::E) L):ai c ops Q (o::rest) E L:=fun a W s=>
 iD bQ (h a W s) fun v W' ⟨f,a2⟩=>by
  rw [hd]
  exact k _ _ (f.put (by simpa using aR) a2)
theorem ai.adR {o:Oper} {rest:List Oper} {d j g:Nat} {b want:Bool} {τ:I} (h:b=want→gJ c E L o τ) (bQ:o.guard=some (j,want)) (aE:(ops[j]?).bind (·.dst)=some g)
 (ao:look E g=some (.of b)) (hd:o.dst=some d) (aR:Nat.blt d c.n=true)
 (k:ai c ops Q rest ((d,.cond (b=want) τ)::E) L):ai c ops Q (o::rest) E L:=fun a W s=>by
 have a6:=AG aE ao s
 unfold dp.qI wpListIn
 by_cases hb:b=want
 ·rw [if_pos (by simp [Region.wanted,bQ,a6,hb])]
  refine((h hb a W s).wpIn fun v W' ⟨f,a2⟩=>?_)
  rw [hd]
  exact k _ _ (f.put (by simpa using aR) ⟨fun _=>a2,fun h=>absurd hb h⟩)
 rw [if_neg (by simp [Region.wanted,bQ,a6,hb])]
 rw [hd]
 exact⟨fun _ _=>trivial,k _ _ (s.put (by simpa using aR) ⟨fun h=>absurd h hb,fun _=>rfl⟩)⟩
def pR (L:List aT):List Nat→List aT→Prop
 | [],[]=>True
 | i::is,e::es=>L[i]? =some e∧pR L is es
 | _,_=>False
theorem MK {L:List aT} {i j:Nat} (h:i≠j):(L.eraseIdx i)[if j<i then j else j - 1]? =L[j]? :=by
 rw [List.getElem?_eraseIdx]
 by_cases aa:j<i
 ·simp [aa]
 have: ¬ (j - 1<i):=by omega
 simp only [aa,if_false,this]
 congr 1; omega
theorem pR.shift {L:List aT} {i:Nat} :∀ {is:List Nat} {es:List aT},pR L is es→i ∉ is→pR (L.eraseIdx i) (is.map fun j=>if j<i then j else j - 1) es
 | [],[],_,_=>trivial
 | j::is,e::es,⟨aa,ad⟩,aR=>by
   simp only [List.mem_cons,not_or] at aR
   exact⟨by rw [MK aR.1]; exact aa,pR.shift ad aR.2⟩
theorem MQ {i:Nat} :∀ {is:List Nat},is.Nodup→i ∉ is→ (is.map fun j=>if j<i then j else j - 1).Nodup
 | [],_,_=>by simp
 | j::is,h,aR=>by
   simp only [List.mem_cons,not_or] at aR
   obtain⟨aa,ad⟩:=List.nodup_cons.1 h
   refine List.nodup_cons.2 ⟨fun hm=>?_,MQ ad aR.2⟩
   obtain⟨k,aw,he⟩:=List.mem_map.1 hm
   have pX:k≠i:=fun e=>aR.2 (e ▸ aw)
   have aex:k≠j:=fun e=>aa (e ▸ aw)
   have hE:j≠i:=fun e=>aR.1 e.symm
   have Gi:(if k<i then k else k - 1)=(if j<i then j else j - 1):=he
   split at Gi <;> split at Gi <;> omega
theorem pR.perm:∀ {is:List Nat} {es L:List aT},pR L is es→is.Nodup→ ∃ R,L.Perm (es++R)
 | [],[],L,_,_=>⟨L,List.Perm.refl _⟩
 | i::is,e::es,L,⟨aa,ad⟩,aR=>by
   obtain⟨nH,pf⟩:=List.nodup_cons.1 aR
   obtain⟨R,jX⟩:=(ad.shift nH).perm (MQ pf nH)
   exact⟨R,(ub aa).trans (jX.cons e)⟩
 termination_by is=>is.length
 decreasing_by simp
theorem gJ.call {f:FuncId} {xs:List Operand} {ats:Array TypeId} {τs:List I} {Lin:List aT} {ρ:Unit→I} {Lo:Unit→List aT} (is:List Nat) (eR:bM c.P f) (h:b9 c.P f τs Lin ρ Lo)
 (aq:iq c E L xs τs) (aR:decide is.Nodup=true) (hp:pR L is Lin) (ao:Lo ()=Lin):gJ c E L ⟨d,.call ⟨.value (.func f),xs.toArray,ats⟩,ty,pos,af,g⟩ (ρ ()):=fun a W s=>by
 obtain⟨R,jX⟩:=hp.perm (of_decide_eq_true aR)
 have cl:=s.perm jX
 have KT:=vR jX
 have Gs:∀ k,k∈aV L++c.ca↔k∈aV (Lin++R)++c.ca:=fun k=>by
  simp only [List.mem_append]; rw [KT.mem_iff]
 have cE:g2 (aV (Lin++R)++c.ca) W τs (xs.map a.eval):=(aq.Pg s).mono (.drop fun k hm=>(Gs k).2 hm)
 have bm:=AI (d:=d) (ty:=ty) (pos:=pos) (af:=af) (g:=g) (ats:=ats) eR h cl cE
 unfold ht at bm ⊢
 refine Oper.wp_mono (fun gz W' ⟨v,aa,bf,ad,aF⟩=>⟨v,aa,?_,?_⟩) bm
 ·cases bf; rw [ao] at ad; exact ad.perm jX.symm
 cases bf
 rw [ao] at aF
 exact I.mono _ (.drop fun k hm=>(Gs k).1 hm) aF
theorem pR.set {L:List aT} {i j:Nat} {x y ay aO:aT} (hR:i≠j) (ak:L[i]? =some ay) (aE:L[j]? =some aO):∃ R,L.Perm (ay::aO::R)∧ ((L.set i x).set j y).Perm (x::y::R):=by
 have Kw:pR L [i,j] [ay,aO]:=⟨ak,aE,trivial⟩
 have hle:∀ M:List aT,∀ u v:aT,M[i]? =some u→M[j]? =some v→M.Perm (u::v::(M.eraseIdx i).eraseIdx (if j<i then j else j - 1)):=fun M u v aa ad=>
  (ub aa).trans ((ub (by rw [MK hR]; exact ad)).cons u)
 refine⟨_,hle L ay aO ak aE,?_⟩
 have g7:=(List.getElem?_eq_some_iff.1 ak).1
 have r5:=(List.getElem?_eq_some_iff.1 aE).1
 have aa:=hle ((L.set i x).set j y) x y (by rw [List.getElem?_set_ne (Ne.symm hR),List.getElem?_set_self g7]) (by rw [List.getElem?_set_self (by simpa using r5)])
 have ad:((L.set i x).set j y).eraseIdx i=(L.eraseIdx i).set (if j<i then j else j - 1) y:=by
  apply List.ext_getElem?
  intro k
  simp only [List.getElem?_eraseIdx,List.getElem?_set,List.length_set,List.length_eraseIdx,g7,if_true]
  by_cases aw:k<i <;> by_cases hE:j<i <;> simp only [aw,hE,if_true,if_false] <;> (repeat' split) <;> first | rfl | omega | skip
 rw [ad,List.eraseIdx_set_eq] at aa
 exact aa
theorem ai.XW {rest:List Oper} {bf:Nat} {f:FuncId} {xs:List Operand} {ats:Array TypeId} {τs:List I} {ay aO:aT} {δ:Type} {ρ:δ→I} {Lo:δ→List aT} (lo:δ→aT) (i j:Nat) (eR:bM c.P f) (h:b9 c.P f τs [ay,aO] ρ Lo)
 (aq:iq c E L xs τs) (hR:Nat.beq i j=false) (ak:L[i]? =some ay) (aE:L[j]? =some aO) (fW:∀ q,Lo q= [lo q]) (aR:Nat.blt bf c.n=true) (k:∀ q,ai c ops Q rest ((bf,ρ q)::E) ((L.set i (lo q)).set j ⟨none,.dead⟩)):
 ai c ops Q (⟨some bf,.call ⟨.value (.func f),xs.toArray,ats⟩,ty,pos,af,none⟩::rest) E L:=fun a W s=>by
 have dm:i≠j:=fun e=>by rw [e,Nat.beq_refl] at hR; cases hR
 obtain⟨R,jX,_⟩:=pR.set (x:=ay) (y:=aO) dm ak aE
 have cl:=s.perm jX
 have KT:=vR jX
 have Gs:∀ k,k∈aV L++c.ca↔k∈aV ([ay,aO]++R)++c.ca:=fun k=>by
  simp only [List.mem_append]; rw [KT.mem_iff]; simp [fv]
 have cE:g2 (aV ([ay,aO]++R)++c.ca) W τs (xs.map a.eval):=(aq.Pg s).mono (.drop fun k hm=>(Gs k).2 hm)
 refine iD rfl (AI (Lin:= [ay,aO]) eR h cl cE) fun v W' ⟨q,ad,aF⟩=>?_
 refine k q _ _ ?_
 obtain⟨GN,acT,RL⟩:=pR.set (x:=lo q) (y:=⟨none,.dead⟩) dm ak aE
 have acU:(ay::aO::R).Perm (ay::aO::GN):=jX.symm.trans acT
 have Rm:R.Perm GN:=(acU.cons_inv).cons_inv
 rw [fW] at ad aF
 have aX:bV c E (lo q::⟨none,.dead⟩::R) a W':= { ad with
  own:=fun e he=>by
   simp only [List.mem_cons] at he
   rcases he with rfl | rfl | he
   ·exact ad.own _ (by simp)
   ·trivial
   exact ad.own _ (by simp [he]) }
 have a0:bV c E ((L.set i (lo q)).set j ⟨none,.dead⟩) a W':=aX.perm (((Rm.cons _).cons _).trans RL.symm)
 have bn:(aV ((L.set i (lo q)).set j ⟨none,.dead⟩)).Perm (aV (lo q::R)):=by
  have:=vR (RL.trans ((Rm.symm.cons _).cons _))
  simpa [aV] using this
 refine a0.put (by simpa using aR) (I.mono _ (.drop fun k hm=>?_) aF)
 rcases List.mem_append.1 hm with hm | hm
 ·exact List.mem_append.2 (.inl (bn.mem_iff.1 hm))
 exact List.mem_append.2 (.inr hm)
theorem Kl {L:List aT} {i:Nat} {x e:aT} (h:L[i]? =some x):(L.set i e)[i]? =some e:=by
 rw [List.getElem?_set_self (List.getElem?_eq_some_iff.1 h).1]
theorem Ru {L:List aT} {i j:Nat} {r:Option aT} {e:aT} (aR:Nat.beq j i=false) (h:L[i]? =r):(L.set j e)[i]? =r:=by
 rw [List.getElem?_set_ne (fun e=>by rw [e,Nat.beq_refl] at aR; cases aR)]; exact h
theorem Wz {p lo cap:Nat} {α:Type} [aj α] (a6:bd c E L y (.eq (ib (some p) lo 0 cap (aj.size α)))):Src c E L y 0 ([]:List α):=fun a W s=>by
 have aa:a.eval y=_:=a6 a W s
 have al:=run_loadCells_list (P:=c.P) W (if cap=lo then(⟨p,0,none⟩:Addr) else⟨p,lo * aj.size α,none⟩) [] (fun j v a2=>by simp at a2)
 refine⟨by rw [aa]; rfl,[],?_,⟨by simp,fun i ak=>by simp at ak⟩,by simp⟩
 rw [aa]
 simp only [ib,Builtin.firstCells,List.length_nil,Nat.zero_mul]
 exact al
theorem ai.QB {rest:List Oper} {i e p bf m N cap T:Nat} {α:Type} [aj α] {xs vs r:List α} (hu:c.P.underlying t=some (.slice e)) (e6:bF c.P e α)
 (aq:bd c E L x (.eq (aS (some p) m cap))) (a6:Src c E L y N vs) (k4:vs.length=N) (ar:L[i]? =some ⟨some p,.row T xs cap⟩) (hm:m+N≤xs.length) (aQ:xs.take m++vs++xs.drop (m+N)=r) (aR:Nat.blt bf c.n=true)
 (k:ai c ops Q rest ((bf,.eq (aS (some p) (m+N) cap))::E) (L.set i ⟨some p,.row T r cap⟩)):
 ai c ops Q (⟨some bf,.call ⟨.builtin .append,#[x,y],#[t,t]⟩,ty,pos,af,none⟩::rest) E L:=fun a W s=>by
 subst k4
 subst aQ
 have aa:a.eval x=_:=aq a W s
 obtain⟨ao,cells,al,pd,y1⟩:=a6 a W s
 obtain⟨o,bm,cE⟩:=s.own _ (List.mem_of_getElem? ar)
 have acV:=cE
 obtain⟨r4,rfl,av,aW,bB,cn⟩:=cE
 obtain⟨cs,fx,FW,wQ⟩:=HU (lo:=m) hm acV pd
 have qL:cs=r4:=by injection fx with h _; exact h.symm
 subst qL
 obtain⟨gB,er,eX⟩:=e6.info
 have kH:=run_storeCells_at (P:=c.P) p (m * aj.size α) T cells 0 cs W bm FW y1
 simp only [Nat.add_zero] at kH
 have Z3:m+vs.length≤cap:=by omega
 have kl:(execOp a.eval ⟨some bf,.call ⟨.builtin .append,#[x,y],#[t,t]⟩,ty,pos,af,none⟩).run c.P W= .ok (.value (aS (some p) (m+vs.length) cap)) (W.setRow p (cs.toList.take (m * aj.size α)++cells++cs.toList.drop (m * aj.size α+cells.length)).toArray):=by
  simp [execOp,resolve,invoke,builtin,Builtin.append_,aa,aS,run_underlying hu,ao,Go.sizeOf,typeInfo,er,eX,Z3,al,jE,kH]
 refine iD rfl (R:=fun v hW=>v=aS (some p) (m+vs.length) cap∧hW=W.setRow p (cs.toList.take (m * aj.size α)++cells++cs.toList.drop (m * aj.size α+cells.length)).toArray) (.l1 kl ⟨rfl,rfl⟩) fun v hW ⟨a2,hw⟩=>?_
 subst a2
 subst hw
 exact k _ _ ((s.store ar bm wQ).put (by simpa using aR) rfl)
theorem Wn {i T cap:Nat} {key:Option Nat} {α:Type} [aj α] {xs:List α} {e:TypeId} {lo ak LK:Operand} {m n k:Nat} (hu:c.P.underlying t=some (.slice e)) (e6:bF c.P e α) (aq:bd c E L x (.eq (aS key xs.length cap)))
 (ar:L[i]? =some ⟨key,.row T xs cap⟩) (fW:bd c E L lo (.of (m:Int))) (dD:bd c E L ak (.of (n:Int))) (acW:bd c E L LK (.of (k:Int))) (h:m≤n∧n≤k∧k≤xs.length):
 cf c E L ⟨d,.slice t x (some lo) (some ak) (some LK),ty,pos,af,g⟩ .any:= .pure fun a W s=>by
 obtain⟨ad,aF,aX⟩:=h
 obtain⟨gB,er,eX⟩:=e6.info
 have aa:a.eval x=_:=aq a W s
 have ay:=of_int.1 (fW a W s)
 have aO:=of_int.1 (dD a W s)
 have cK:=of_int.1 (acW a W s)
 have uI:∃ adX tH,aS key xs.length cap= .slice adX tH cap∨ (aS key xs.length cap= .slice none 0 0∧k=0):=by
  cases key with
  | some p=>exact⟨_,_,.inl rfl⟩
  | none=>
    have bm:=s.own _ (List.mem_of_getElem? ar)
    have h6:xs= []:=bm.1
    subst h6
    exact⟨none,0,.inr ⟨rfl,by simpa using aX⟩⟩
 have acX:xs.length≤cap∨key=none:=by
  cases key with
  | none=>exact .inr rfl
  | some p=>
    obtain⟨o,bm,cs,rfl,av,aW,_⟩:=s.own _ (List.mem_of_getElem? ar)
    exact .inl aW
 cases key with
 | none=>
   have bm:=s.own _ (List.mem_of_getElem? ar)
   have h6:xs= []:=bm.1
   subst h6
   have acY:k=0:=by simpa using aX
   subst acY
   have r1:n=0:=by omega
   subst r1
   have g8:m=0:=by omega
   subst g8
   have hb:∀ (code:BoundsCode),(Instr.sliceBound (.int .i64 0) 0 code).run c.P W= .ok 0 W:=fun code=>px (n:=0) (m:=0) (Nat.le_refl _) rfl
   have acZ:a.eval lo= .int .i64 0:=ay
   have ac0:a.eval ak= .int .i64 0:=aO
   have ac1:a.eval LK= .int .i64 0:=cK
   refine⟨.slice none 0 0,?_,trivial⟩
   simp [execOp,Instr.sliceAt,Instr.slice,Instr.sliceBounds,aa,aS,run_underlying hu,Go.sizeOf,typeInfo,er,acZ,ac0,ac1,hb]
 | some p=>
   have ab0:k≤cap:=by
    rcases acX with h | h
    ·omega
    cases h
   refine⟨.slice (some (if k=m then⟨p,0,none⟩ else⟨p,m * aj.size α,none⟩)) (n - m) (k - m),?_,trivial⟩
   have hb:∀ (a b:Nat) (code:BoundsCode),a≤b→ (Instr.sliceBound (.int .i64 (a:Int)) b code).run c.P W= .ok a W:=fun a b code h=>px h rfl
   simp [execOp,Instr.sliceAt,Instr.slice,Instr.sliceBounds,aa,aS,run_underlying hu,Go.sizeOf,typeInfo,er,eX,ay,aO,cK,hb k cap _ ab0,hb n k _ aF,hb m n _ ad,jE]
   split <;> rfl
theorem XO {p n cap e:Nat} (hu:c.P.underlying t=some (.slice e)) (aq:bd c E L x (.eq (aS (some p) n cap))):cf c E L ⟨d,.call ⟨.builtin .len,#[x],#[t]⟩,ty,pos,af,g⟩ (.of (n:Int)):= .pure fun a W s=>by
 have aa:a.eval x=_:=aq a W s
 refine⟨.int .i64 n,?_,of_int.2 rfl⟩
 simp [execOp,resolve,invoke,builtin,Builtin.len_,aa,aS,run_underlying hu,goInt]
theorem ai.XN {rest:List Oper} {i e p bf m n cap T:Nat} {α:Type} [aj α] {xs:List α} (hu:c.P.underlying t=some (.slice e)) (e6:bF c.P e α)
 (aq:bd c E L x (.eq (ib (some p) 0 (m - 0) cap (aj.size α)))) (a6:bd c E L y (.eq (ib (some p) n (xs.length - n) cap (aj.size α)))) (ar:L[i]? =some ⟨some p,.row T xs cap⟩) (rW:m<n) (aR:n≤xs.length) (hd:Nat.blt bf c.n=true)
 (k:ai c ops Q rest ((bf,.eq (aS (some p) (m+(xs.length - n)) cap))::E) (L.set i ⟨some p,.row T (xs.take m++xs.drop n++xs.drop (m+(xs.length - n))) cap⟩)):
 ai c ops Q (⟨some bf,.call ⟨.builtin .append,#[x,y],#[t,t]⟩,ty,pos,af,none⟩::rest) E L:=by
 have qU:bd c E L x (.eq (aS (some p) m cap)):=by
  rw [x9,Nat.sub_zero] at aq; exact aq
 rcases Nat.lt_or_ge n xs.length with r3 | r3
 ·have hs:=ER (k:=xs.length - n) a6 ar (by omega) (by omega)
  rw [show(xs.drop n).take (xs.length - n)=xs.drop n by rw [List.take_of_length_le (by simp)]] at hs
  exact ai.QB hu e6 qU hs (by simp) ar (by omega) rfl hd k
 have bT:xs.length - n=0:=by omega
 rw [bT] at a6 k
 have hs:=Wz (α:=α) a6
 rw [show([]:List α)=xs.drop n by rw [List.drop_of_length_le r3]] at hs
 exact ai.QB hu e6 qU hs (by simp; omega) ar (by omega) rfl hd k
theorem ae.again {z:Exit} {key:Option Nat} {cp:dZ} (cp':dZ) (i:Nat) (ar:L[i]? =some ⟨key,cp⟩) (h:∀ A W o,cp.holds A W o→cp'.holds A W o) (aR:cp.m4→cp'.m4) (k:ae c Q z E (L.set i ⟨key,cp'⟩)):ae c Q z E L:=fun a W s=>
 k a W (s.again ar h aR)
end
def B6 {α:Type} (xs:List α) (i j:Int):Option (List α):=if 0≤i∧i≤j∧j≤xs.length then some (xs.take i.toNat++xs.drop j.toNat) else none
theorem Vw {α:Type} {xs r:List α} {i j:Int} (h:B6 xs i j=some r):∃ m n:Nat,i=m∧j=n∧m≤n∧n≤xs.length∧r=xs.take m++xs.drop n:=by
 unfold B6 at h
 split at h
 ·rename_i al
  refine⟨i.toNat,j.toNat,by omega,by omega,by omega,by omega,?_⟩
  cases h; rfl
 cases h
abbrev aI (α:Type):=(α→Prop)→Prop
def aI.of {α:Type} (o:Option α):aI α:=fun Q=> ∃ r,o=some r∧Q r
def aI.bind {α β:Type} (m:aI α) (k:α→aI β):aI β:=fun Q=>m fun r=>k r Q
def aI.ret {α:Type} (x:α):aI α:=fun Q=>Q x
def pK {σ ε:Type} :Nat→ (σ→aI (σ ⊕ ε))→σ→aI ε
 | 0,_,_=>fun _=>False
 | n+1,b,s=>fun Q=>b s fun r=>match r with
   | .inl cl=>pK n b cl Q
   | .inr e=>Q e
abbrev a1 (cd:Type):=List (Nat×cd)
abbrev Ref:=Option Nat
instance aed:aj Ref:= .scalar (fun x=>Value.pointer (x.map fun p=>⟨p,0,none⟩)) fun _=>rfl
theorem uy {A W v} {x:Ref} :(I.of x).holds A W v↔v= .pointer (x.map fun p=>⟨p,0,none⟩):=
 ⟨fun h=>oO h.1 h.2,fun h=>by subst h; exact⟨rfl,rfl⟩⟩
instance:bk Ref:=⟨[.pointer none],fun _ _=>rfl⟩
def aI.mk {cd:Type} (hp:a1 cd) (k:cd):aI (Nat×a1 cd):=fun Q=> ∀ a:Nat×a1 cd,a.1 ∉ hp.map (·.1)∧a.2=(a.1,k)::hp→Q a
theorem aI.uh {cd α:Type} {hp:a1 cd} {c:cd} {k:Nat×a1 cd→aI α} {R:α→Prop} (h:aI.bind (aI.mk hp c) k R) (a:Nat×a1 cd) (bp:a.1 ∉ hp.map (·.1)∧a.2=(a.1,c)::hp):k a R:=h a bp
class fr (cd:Type) where
 iv:Nat→cd→List aT
 root:∀ p k,∃ e∈iv p k,e.key=some p
def a8 {cd:Type} [fr cd]:a1 cd→List aT
 | []=>[]
 | (p,k)::r=>fr.iv p k++a8 r
def pat {cd:Type} :a1 cd→Nat→Option cd
 | [],_=>none
 | (q,k)::r,p=>if q=p then some k else pat r p
def dr {cd:Type} :a1 cd→Nat→cd→a1 cd
 | [],_,_=>[]
 | (q,k)::r,p,k'=>if q=p then(q,k')::r else(q,k)::dr r p k'
def fh {cd:Type} (hp:a1 cd):List Nat:=hp.map (·.1)
theorem vI {cd:Type} [fr cd]:∀ {hp:a1 cd} {p:Nat} {k:cd},pat hp p=some k→ ∃ R,(a8 hp).Perm (fr.iv p k++R)∧ ∀ k',(a8 (dr hp p k')).Perm (fr.iv p k'++R)
 | [],_,_,h=>by simp [pat] at h
 | (q,LL)::r,p,k,h=>by
   simp only [pat] at h
   split at h
   ·rename_i e
    subst e
    simp only [Option.some.injEq] at h
    subst h
    exact⟨a8 r,.refl _,fun k'=>by simp only [dr,if_pos]; exact .refl _⟩
   rename_i e
   obtain⟨R,aa,ad⟩:=vI h
   refine⟨fr.iv q LL++R,?_,fun k'=>?_⟩
   ·exact(aa.append_left (fr.iv q LL)).trans (by rw [← List.append_assoc,← List.append_assoc]; exact List.perm_append_comm.append_right R)
   simp only [dr,if_neg e]
   exact((ad k').append_left (fr.iv q LL)).trans (by rw [← List.append_assoc,← List.append_assoc]; exact List.perm_append_comm.append_right R)
theorem Pj {cd:Type} [fr cd] {hp:a1 cd} {p:Nat} (h:p∈fh hp):p∈aV (a8 hp):=by
 induction hp with
 | nil=>simp [fh] at h
 | cons x r bR=>
   obtain⟨q,k⟩:=x
   simp only [fh,List.map_cons,List.mem_cons] at h
   simp only [a8,fv,List.mem_append]
   rcases h with h | h
   ·subst h
    obtain⟨e,he,aw⟩:=fr.root p k
    exact .inl (lB.2 ⟨e,he,aw⟩)
   exact .inr (bR h)
theorem k7 {cd:Type} {hp:a1 cd} {p:Nat} {k:cd} (h:pat hp p=some k):p∈fh hp:=by
 induction hp with
 | nil=>simp [pat] at h
 | cons x r bR=>
   simp only [pat] at h
   split at h
   ·rename_i e; simp [fh,e]
   simp only [fh,List.map_cons,List.mem_cons]; exact .inr (bR h)
theorem vS {cd:Type} {hp:a1 cd} {p:Nat} {k:cd} :fh (dr hp p k)=fh hp:=by
 induction hp with
 | nil=>rfl
 | cons x r bR=>simp only [dr]; split <;> simp_all [fh]
theorem Bb {cd:Type} {hp:a1 cd} {p q:Nat} {k:cd} :pat (dr hp p k) q=if p=q then(pat hp p).map (fun _=>k) else pat hp q:=by
 induction hp with
 | nil=>simp [dr,pat]
 | cons x r bR=>
   simp only [dr]
   by_cases e:x.1=p
   ·rw [if_pos e]
    by_cases h:p=q
    ·simp [pat,e,h]
    have: ¬ x.1=q:=fun dc=>h (e ▸ dc)
    simp [pat,e,h]
   rw [if_neg e]
   by_cases h:p=q
   ·subst h
    rw [if_pos rfl] at bR ⊢
    simp [pat,e,bR]
   rw [if_neg h] at bR ⊢
   simp [pat,bR]
section
variable {c:dp} {E:List (Nat×I)} {L:List aT} {ops:Array Oper} {Q:Exit→Act→World→Prop}
variable {d:Option Tmp} {ty:TypeId} {pos:String} {af:Array Edge} {g:Option (Nat×Bool)} {x y:Operand} {t t2:TypeId}
theorem WA {L ax:List aT} (p:L.Perm ax) {A:List Nat} (k:Nat):k∈aV L++A↔k∈aV ax++A:=by
 simp only [List.mem_append]; rw [(vR p).mem_iff]
theorem n0 {L ax:List aT} (p:L.Perm ax) {A:List Nat} {W:World} :Ext (aV L++A) W (aV ax++A) W:= .drop fun k hm=>(WA p k).2 hm
theorem bd.perm {ax:List aT} {x:Operand} {τ:I} (p:L.Perm ax) (h:bd c E L x τ):bd c E ax x τ:=fun a W s=>
 τ.mono (n0 p) (h a W (s.perm p.symm))
theorem ai.perm {l:List Oper} {ax:List aT} (p:L.Perm ax) (h:ai c ops Q l E L):ai c ops Q l E ax:=fun a W s=>h a W (s.perm p.symm)
theorem eL {x:Operand} {r:Ref} {p:Nat} (aq:bd c E L x (.of r)) (h:r=some p):bd c E L x (.eq (.pointer (some ⟨p,0,none⟩))):=fun a W s=>by
 subst h
 exact uy.1 (aq a W s)
theorem rl:bd c E L (.const (.pointer none)) (.of (none:Ref)):=fun a W s=>uy.2 rfl
variable {cd:Type} [fr cd] {hp:a1 cd} {loc:List aT}
theorem fk {p n:Nat} {k:cd} {e:aT} (ar:L.drop n=a8 hp) (h:pat hp p=some k) (aw:fr.iv p k= [e]):e∈L:=by
 obtain⟨R,aa,_⟩:=vI h
 rw [aw] at aa
 have:e∈L.drop n:=by rw [ar]; exact aa.mem_iff.2 (by simp)
 exact List.mem_of_mem_drop this
theorem kB {ax:List aT} {e:aT} (ar:∀ (i:Nat) (e:aT),L[i]? =some e→ax[i]? =some e) (h:e∈L):e∈ax:=by
 obtain⟨i,ak⟩:=List.mem_iff_getElem?.1 h
 exact List.mem_of_getElem? (ar i e ak)
theorem gd {x:Operand} {t:TypeId} {p o:Nat} {β γ:Type} [aj β] [aj γ] {b:β} (l:aN β γ) {r:γ} (eQ:bF c.P t γ) (aq:bd c E L x (.eq (.pointer (some ⟨p,o,none⟩))))
 (hm:(⟨some p,.var b⟩:aT)∈L) (bm:o=l.off) (aQ:l.get b=r):cf c E L ⟨d,.load t x,ty,pos,af,g⟩ (.of r):=by
 obtain⟨i,ak⟩:=List.mem_iff_getElem?.1 hm
 exact fa (i:=i) l eQ aq ak bm aQ
theorem ai.Xo {x y:Operand} {t:TypeId} {rest:List Oper} {p o:Nat} {k k':cd} {β γ:Type} [aj β] [aj γ] {b b':β} {v:γ} (l:aN β γ) (eQ:bF c.P t γ) (aq:bd c E (loc++a8 hp) x (.eq (.pointer (some ⟨p,o,none⟩))))
 (a6:bd c E (loc++a8 hp) y (.of v)) (hp':pat hp p=some k) (aw:fr.iv p k= [⟨some p,.var b⟩]) (jL:fr.iv p k'= [⟨some p,.var b'⟩]) (bm:o=l.off) (hb:l.set b v=b')
 (po:ai c ops Q rest E (loc++a8 (dr hp p k'))):ai c ops Q (⟨none,.store t x y,ty,pos,af,none⟩::rest) E (loc++a8 hp):=by
 obtain⟨R,aa,ad⟩:=vI hp'
 have ad:=ad k'
 rw [aw] at aa
 rw [jL] at ad
 have dw:∀ {z:β} {M:List aT},M.Perm ([⟨some p,.var z⟩]++R)→ (loc++M).Perm (⟨some p,.var z⟩::(loc++R)):=fun h=>(h.append_left loc).trans (by simp only [List.singleton_append]; exact List.perm_middle)
 exact ai.perm (dw aa).symm (ai.store (i:=0) l eQ (aq.perm (dw aa)) (a6.perm (dw aa)) rfl bm hb (ai.perm (dw ad) po))
theorem ai.oa {x y:Operand} {t:TypeId} {rest:List Oper} {p o:Nat} {k k':cd} {dk:a1 cd} {β γ:Type} [aj β] [aj γ] {b b':β} {v:γ} (n:Nat) (ar:L.drop n=a8 hp) (l:aN β γ) (eQ:bF c.P t γ) (aq:bd c E L x (.eq (.pointer (some ⟨p,o,none⟩)))) (a6:bd c E L y (.of v)) (hp':pat hp p=some k) (aw:fr.iv p k= [⟨some p,.var b⟩]) (jL:fr.iv p k'= [⟨some p,.var b'⟩]) (bm:o=l.off) (hb:l.set b v=b') (df:dr hp p k'=dk) (po:ai c ops Q rest E (L.take n++a8 dk)):ai c ops Q (⟨none,.store t x y,ty,pos,af,none⟩::rest) E L:=by
 subst df
 have e:L=L.take n++a8 hp:=by rw [← ar,List.take_append_drop]
 clear ar
 generalize L.take n=loc at *
 subst e
 exact ai.Xo l eQ aq a6 hp' aw jL bm hb po
theorem bV.fresh {a:Act} {W:World} (s:bV c E (loc++a8 hp) a W):W.heap.size ∉ fh hp:=fun h=>by
 have:=s.lt _ (by rw [fv]; exact List.mem_append.2 (.inr (Pj h)))
 omega
theorem ai.Z4 {t:TypeId} {x:Operand} {rest:List Oper} {bf:Nat} {α:Type} [aj α] {z:α} (mk:cd) (aw:∀ p,fr.iv p mk= [⟨some p,.var z⟩]) (aq:bd c E (loc++a8 hp) x (.of z)) (aR:Nat.blt bf c.n=true)
 (k:∀ p,p ∉ fh hp→ai c ops Q rest ((bf,.of (some p:Ref))::E) (loc++a8 ((p,mk)::hp))):ai c ops Q (⟨some bf,.box t x,ty,pos,af,none⟩::rest) E (loc++a8 hp):=fun a W s=>by
 refine iD rfl (R:=fun v W'=>v= .pointer (some ⟨W.heap.size,0,none⟩)∧W'=W.alloc (.cells (a.eval x).cells t)) (.l1 ?_ ⟨rfl,rfl⟩) fun v W' ⟨a2,hw⟩=>?_
 ·simp [execOp,Instr.box,newVar,newRow]
 subst a2
 subst hw
 refine k _ s.fresh _ _ (bV.put ?_ (by simpa using aR) (uy.2 rfl))
 refine(s.alloc (cp:= .var z) ⟨_,t,rfl,(aq a W s).2⟩).perm ?_
 simp only [a8,aw,List.singleton_append]
 exact List.perm_middle.symm
theorem ai.BR {t:TypeId} {x:Operand} {rest:List Oper} {bf:Nat} {α:Type} [aj α] {z:α} (n:Nat) (ar:L.drop n=a8 hp) (mk:cd) (aw:∀ p,fr.iv p mk= [⟨some p,.var z⟩]) (aq:bd c E L x (.of z)) (aR:Nat.blt bf c.n=true) (k:∀ a:Nat×a1 cd,a.1 ∉ hp.map (·.1)∧a.2=(a.1,mk)::hp→ai c ops Q rest ((bf,.of (some a.1:Ref))::E) (L.take n++a8 a.2)):ai c ops Q (⟨some bf,.box t x,ty,pos,af,none⟩::rest) E L:=by
 have e:L=L.take n++a8 hp:=by rw [← ar,List.take_append_drop]
 clear ar
 generalize L.take n=loc at *
 subst e
 exact ai.Z4 mk aw aq aR fun p h=>k (p,(p,mk)::hp) ⟨h,rfl⟩
theorem n1 {A B C:List aT} :((A++B)++C).Perm ((A++C)++B):=by
 rw [List.append_assoc,List.append_assoc]; exact List.perm_append_comm.append_left A
theorem ai.kO {rest:List Oper} {bf:Nat} {f:FuncId} {xs:List Operand} {ats:Array TypeId} {τs:List I} {Lin Lr:List aT} {δ:Type} {ρ:δ→I} {Lo:δ→List aT} {hq:δ→a1 cd} (eR:bM c.P f) (h:b9 c.P f τs (Lin++a8 hp) ρ (fun d=>Lo d++a8 (hq d)))
 (aq:iq c E ((Lin++Lr)++a8 hp) xs τs) (aR:Nat.blt bf c.n=true) (k:∀ q,ai c ops Q rest ((bf,ρ q)::E) ((Lo q++Lr)++a8 (hq q))):
 ai c ops Q (⟨some bf,.call ⟨.value (.func f),xs.toArray,ats⟩,ty,pos,af,none⟩::rest) E ((Lin++Lr)++a8 hp):=fun a W s=>
 iD rfl (AI (Lr:=Lr) eR h (s.perm n1) ((aq.holds a W s).mono (n0 n1))) fun v W' ⟨q,cl,a2⟩=>
  k q _ _ ((cl.perm n1).put (by simpa using aR) ((ρ q).mono (n0 n1) a2))
theorem ai.m1 {rest:List Oper} {bf:Nat} {f:FuncId} {xs:List Operand} {ats:Array TypeId} {τs:List I} {Lin Lr:List aT} {δ:Type} {ρ:δ→I} {Lo:δ→List aT} {hq:δ→a1 cd} (n m:Nat) (ar:L.drop n=a8 hp) (eR:bM c.P f) (h:b9 c.P f τs (Lin++a8 hp) ρ (fun d=>Lo d++a8 (hq d)))
 (aa:(L.take n).take m=Lin) (ad:(L.take n).drop m=Lr) (aq:iq c E L xs τs) (aR:Nat.blt bf c.n=true) (k:∀ q,ai c ops Q rest ((bf,ρ q)::E) ((Lo q++Lr)++a8 (hq q))):
 ai c ops Q (⟨some bf,.call ⟨.value (.func f),xs.toArray,ats⟩,ty,pos,af,none⟩::rest) E L:=by
 have e:L=(Lin++Lr)++a8 hp:=by rw [← aa,← ad,List.take_append_drop,← ar,List.take_append_drop]
 clear ar aa ad
 subst e
 exact ai.kO eR h aq aR k
theorem gJ.X6 {f:FuncId} {xs:List Operand} {ats:Array TypeId} {τs:List I} {ρ:I} (eR:bM c.P f) (h:b9 c.P f τs (a8 hp) (fun _:Unit=>ρ) (fun _=>a8 hp))
 (aq:iq c E (loc++a8 hp) xs τs):gJ c E (loc++a8 hp) ⟨d,.call ⟨.value (.func f),xs.toArray,ats⟩,ty,pos,af,g⟩ ρ:=fun a W s=>by
 have dw:(loc++a8 hp).Perm (a8 hp++loc):=List.perm_append_comm
 have bm:=AI (d:=d) (ty:=ty) (pos:=pos) (af:=af) (g:=g) (ats:=ats) (Lr:=loc) eR h (s.perm dw) ((aq.holds a W s).mono (n0 dw))
 unfold ht at bm ⊢
 exact Oper.wp_mono (fun gz W' ⟨v,aa,_,ad,aF⟩=>⟨v,aa,ad.perm dw.symm,ρ.mono (n0 dw.symm) aF⟩) bm
theorem gJ.kO {f:FuncId} {xs:List Operand} {ats:Array TypeId} {τs:List I} {ρ:I} (n:Nat) (ar:L.drop n=a8 hp) (eR:bM c.P f) (h:b9 c.P f τs (a8 hp) (fun _:Unit=>ρ) (fun _=>a8 hp)) (aq:iq c E L xs τs):gJ c E L ⟨d,.call ⟨.value (.func f),xs.toArray,ats⟩,ty,pos,af,g⟩ ρ:=by
 have e:L=L.take n++a8 hp:=by rw [← ar,List.take_append_drop]
 clear ar
 generalize L.take n=loc at *
 subst e
 exact gJ.X6 eR h aq
theorem Hw {P:Program} {e:TypeId} (W:World) (n:Nat) {t:TypeId} (a:Option Addr) (h:P.underlying t=some (.pointer e)):(Op.equalIn (n+1) t (.pointer a) (.pointer none)).run P W= .ok a.isNone W:=by
 cases a <;> simp [Op.equalIn,run_underlying h]
theorem oR {r:Ref} {e:TypeId} (hu:c.P.underlying t=some (.pointer e)) (aq:bd c E L x (.of r)):cf c E L ⟨d,.binOp .eql t x (.const (.pointer none)) t2,ty,pos,af,g⟩ (.of r.isNone):= .pure fun a W s=>by
 have aa:=uy.1 (aq a W s)
 refine⟨.bool r.isNone,?_,of_bool.2 rfl⟩
 have aR:a.eval (.const (.pointer none))= .pointer none:=rfl
 simp only [execOp,eqGuard,binOp,aa,aR,Op.equal,Op.maxDepth]
 have:=Hw (P:=c.P) W 9999 (r.map fun p=>⟨p,0,none⟩) hu
 simp only [Option.isNone_map] at this
 simp [this]
theorem Ep {r:Ref} {e:TypeId} (hu:c.P.underlying t=some (.pointer e)) (aq:bd c E L x (.of r)):cf c E L ⟨d,.binOp .neq t x (.const (.pointer none)) t2,ty,pos,af,g⟩ (.of r.isSome):= .pure fun a W s=>by
 have aa:=uy.1 (aq a W s)
 refine⟨.bool r.isSome,?_,of_bool.2 rfl⟩
 have aR:a.eval (.const (.pointer none))= .pointer none:=rfl
 simp only [execOp,eqGuard,binOp,aa,aR,Op.equal,Op.maxDepth]
 have:=Hw (P:=c.P) W 9999 (r.map fun p=>⟨p,0,none⟩) hu
 simp only [Option.isNone_map] at this
 simp [this]
end
theorem Vb {P:Program} {t e el:TypeId} {n:Nat} (h:P.underlying t=some (.array n e)) (e6:bF P e Ref) (hu:P.underlying e=some (.pointer el)) {A:List Nat} {W:World} {u v:Value} {x y:Vector Ref n} (aq:(I.of x).holds A W u) (a6:(I.of y).holds A W v)
 (aR:∀ i,i<n→br y i=none) (d:Nat) (hd:2≤d):(Op.equalIn d t u v).run P W= .ok (decide (x=y)) W:=by
 obtain⟨d,rfl⟩:∃ e,d=e+1:=⟨d - 1,by omega⟩
 obtain⟨aa,ad⟩:=aq
 obtain⟨aF,aX⟩:=a6
 obtain⟨xs,rfl⟩:∃ cs,u= .agg cs:=by simpa [shaped,aj.agg] using aa
 obtain⟨ys,rfl⟩:∃ cs,v= .agg cs:=by simpa [shaped,aj.agg] using aF
 simp only [Value.cells] at ad aX
 have tk:xs.toList.length=n * aj.size Ref:=aj.len ad
 have CB:ys.toList.length=n * aj.size Ref:=aj.len aX
 have sX:∀ i∈List.range' 0 n,((do
  let a ← part e xs (i * aj.size Ref)
  let b ← part e ys (i * aj.size Ref)
  Op.equalIn d e a b):Sem Bool).run P W= .ok (decide (br x i=br y i)) W:=by
  intro i ak
  have g7:i<n:=by simpa using ak
  have eE:i * aj.size Ref+aj.size Ref≤n * aj.size Ref:=(aN.idx (α:=Ref) n i g7).gI
  obtain⟨a,bp,tl⟩:=rq (A:=A) (P:=P) (W:=W) (cs:=xs) (off:=i * aj.size Ref) e6 (by simp at tk; omega) ((aN.idx (α:=Ref) n i g7).iO ad)
  obtain⟨b,hb,CC⟩:=rq (A:=A) (P:=P) (W:=W) (cs:=ys) (off:=i * aj.size Ref) e6 (by simp at CB; omega) ((aN.idx (α:=Ref) n i g7).iO aX)
  simp only [Sem.run_bind,bp,hb,Result.andThen_ok]
  obtain⟨d,rfl⟩:∃ e,d=e+1:=⟨d - 1,by omega⟩
  have ay:=uy.1 tl
  have aO:=uy.1 CC
  subst ay; subst aO
  have ac2:(aN.idx (α:=Ref) n i g7).get y=none:=aR i g7
  rw [ac2,Option.map_none,Hw W d _ hu]
  have cK:br y i=none:=aR i g7
  rw [cK]
  show Result.ok ((br x i).map _).isNone W=_
  congr 1
  cases br x i <;> rfl
 have a7:=Hv (P:=P) (W:=W) _ _ _ sX
 have jG:(List.range' 0 n).all (fun i=>decide (br x i=br y i))=decide (x=y):=by
  rw [Bool.eq_iff_iff,List.all_eq_true,decide_eq_true_eq]
  constructor
  ·intro h
   apply Vector.ext
   intro i ak
   have:=h i (by simpa using ak)
   simpa [br,ak] using this
  rintro rfl i _
  simp
 rw [jG] at a7
 simp only [Op.equalIn,Sem.run_bind,run_underlying h,Result.andThen_ok,e6.sizeOf,Std.Legacy.Range.forIn_eq_forIn_range']
 simp only [Std.Legacy.Range.size,Nat.sub_zero,Nat.add_one_sub_one,Nat.div_one] at a7 ⊢
 simp only [bind_assoc] at a7
 rw [a7]
 by_cases CD:x=y
 ·simp [CD]
 simp [CD]
theorem Wo {c:dp} {E:List (Nat×I)} {L:List aT} {d:Option Tmp} {ty:TypeId} {pos:String} {af:Array Edge} {g:Option (Nat×Bool)} {x y:Operand} {t t2 e el:TypeId} {n:Nat} {a b:Vector Ref n} (h:c.P.underlying t=some (.array n e)) (e6:bF c.P e Ref) (hu:c.P.underlying e=some (.pointer el)) (bQ:c.P.eqGuardType c.P.depth t=false)
 (aq:bd c E L x (.of a)) (a6:bd c E L y (.of b)) (aR:∀ i,i<n→br b i=none):cf c E L ⟨d,.binOp .eql t x y t2,ty,pos,af,g⟩ (.of (decide (a=b))):= .pure fun A W s=>by
 have aa:=aq A W s
 have ad:=a6 A W s
 obtain⟨xs,h6⟩:∃ cs,A.eval x= .agg cs:=by simpa [shaped,aj.agg] using aa.1
 obtain⟨ys,u3⟩:∃ cs,A.eval y= .agg cs:=by simpa [shaped,aj.agg] using ad.1
 have aF:=Vb h e6 hu aa ad aR 10000 (by decide)
 rw [h6,u3] at aF
 refine⟨.bool (decide (a=b)),?_,of_bool.2 rfl⟩
 simp only [execOp,h6,u3,Sem.run_bind,run_eqGuard_agg W .eql t x y xs ys bQ,Result.andThen_ok,run_eql_struct,aF,Sem.run_pure]
section
variable {c:dp} {E:List (Nat×I)} {L:List aT} {ops:Array Oper} {Q:Exit→Act→World→Prop}
theorem aI.c2 {α β:Type} {o:Option α} {k:α→aI β} {R:β→Prop} (h:aI.bind (aI.of o) k R):∃ r,o=some r∧k r R:=h
theorem Vc {F:Fence} {n:Nat} {P:Program} {body:Code} {σ ε:Type} (b:σ→aI (σ ⊕ ε)) (fS:σ→Act→World→Prop) (X:ε→Exit→Act→World→Prop)
 (pE:∀ s R,b s R→ ∀ a W,fS s a W→body.wpIn F n P (fun x a W=>(∃ cl,R (.inl cl)∧x= .normal∧fS cl a W)∨ ∃ e,R (.inr e)∧x≠ .normal∧X e x a W) a W)
 (Q:Exit→Act→World→Prop) (R:ε→Prop) (qh:∀ e x a W,R e→X e x a W→Q x a W) {cw:σ} {N:Nat} (ao:pK N b cw R) {fJ:Act} {jr:World} (bT:fS cw fJ jr):
 (Code.loop body).wpIn F n P Q fJ jr:=by
 intro dQ k cs yY hb aQ
 have key:∀ N s,pK N b s R→ ∀ a W,fS s a W→
  ∃ x gz W',Q x gz W'∧ArrivesIn (Machine.fenced P F) P (lone (dQ.atR a (.code body::.inLoop body::k)) cs W) dQ k cs x gz W':=by
  intro N
  induction N with
  | zero=>intro s h; exact h.elim
  | succ N bR=>
    intro s h a W ml
    obtain⟨x,yO,yP,hq,rR⟩:=pE s _ h a W ml dQ (.inLoop body::k) cs yY hb aQ
    rcases hq with⟨cl,aa,aq,Kr⟩ | ⟨e,aa,aq,Lw⟩
    ·subst aq
     obtain⟨JX,JY,JZ,Jt,Im⟩:=bR cl aa yO yP Kr
     exact⟨JX,JY,JZ,Jt,.of_steps (StepsIn.trans rR (.one (fenced_calm hb aQ rfl) stepR_inLoop)) Im⟩
    exact⟨x,yO,yP,qh _ _ _ _ aa Lw,.pass (x:= .inLoop body) rfl (fun _ _=>.inl aq) rR⟩
 obtain⟨x,gz,W',hq,rR⟩:=key N cw ao fJ jr bT
 exact⟨x,gz,W',hq,.of_steps (.one (fenced_calm hb aQ rfl) stepR_loop) rR⟩
def Gt {σ ε γ δ:Type} (c:dp) (E:σ→γ→List (Nat×I)) (L:σ→γ→List aT) (xs:ε→Exit) (gY:ε→δ→List (Nat×I)) (Lx:ε→δ→List aT) (R:σ ⊕ ε→Prop):Exit→Act→World→Prop:=fun x a W=>
 (∃ s,R (.inl s)∧x= .normal∧ ∃ g,bV c (E s g) (L s g) a W)∨ ∃ e,R (.inr e)∧x≠ .normal∧x=xs e∧ ∃ g,bV c (gY e g) (Lx e g) a W
theorem ae.IJ {σ ε γ δ:Type} {E':σ→γ→List (Nat×I)} {ax:σ→γ→List aT} {xs:ε→Exit} {gY:ε→δ→List (Nat×I)} {Lx:ε→δ→List aT} {R:σ ⊕ ε→Prop} {s:σ} (jX:R (.inl s)) (g:γ) (n:Nat)
 (ar:L.drop n=ax s g) (h:hk E (E' s g)):ae c (Gt c E' ax xs gY Lx R) .normal E L:=fun a W st=>.inl ⟨s,jX,rfl,g,by rw [← ar]; exact(st.o1 n).less h.look⟩
theorem ae.vZ {σ ε γ δ:Type} {E':σ→γ→List (Nat×I)} {ax:σ→γ→List aT} {xs:ε→Exit} {gY:ε→δ→List (Nat×I)} {Lx:ε→δ→List aT} {R:σ ⊕ ε→Prop} {e:ε} {x:Exit} (jX:R (.inr e)) (g:δ) (n:Nat)
 (aq:x=xs e) (aR:x≠ .normal) (ar:L.drop n=Lx e g) (h:hk E (gY e g)):ae c (Gt c E' ax xs gY Lx R) x E L:=fun a W st=>.inr ⟨e,jX,aR,aq,g,by rw [← ar]; exact(st.o1 n).less h.look⟩
theorem ag.pK {σ ε γ δ:Type} {body:Code} {N:Nat} {b:σ→aI (σ ⊕ ε)} {cw:σ} {R:ε→Prop} (ao:Gv.pK N b cw R)
 (E':σ→γ→List (Nat×I)) (ax:σ→γ→List aT) (xs:ε→Exit) (gY:ε→δ→List (Nat×I)) (Lx:ε→δ→List aT) (g0:γ) (ar:L=ax cw g0) (aG:hk E (E' cw g0))
 (wx:∀ s R,b s R→ ∀ g,ag c (Gt c E' ax xs gY Lx R) body (E' s g) (ax s g))
 (qh:∀ e,R e→ ∀ g,ae c Q (xs e) (gY e g) (Lx e g)):ag c Q (.loop body) E L:=fun a W st=>by
 subst ar
 exact Vc b (fun s a W=> ∃ g,bV c (E' s g) (ax s g) a W) (fun e x a W=>x=xs e∧ ∃ g,bV c (gY e g) (Lx e g) a W)
  (fun s R hs a W ⟨g,ml⟩=>wpIn_mono (wx s R hs g a W ml) (fun x a W h=>by
   rcases h with⟨cl,aa,ad,aF⟩ | ⟨e',aa,ad,aF,aX⟩
   ·exact .inl ⟨cl,aa,ad,aF⟩
   exact .inr ⟨e',aa,ad,aF,aX⟩)) Q R (fun e x a W jX ⟨aq,g,hs⟩=>by subst aq; exact qh e jX g a W hs) ao ⟨g0,st.less aG.look⟩
theorem qd {α:Type} {b:Bool} {m n:aI α} {R:α→Prop} (hb:b=true) (h:cond b m n R):m R:=by subst hb; exact h
theorem qe {α:Type} {b:Bool} {m n:aI α} {R:α→Prop} (hb:b=false) (h:cond b m n R):n R:=by subst hb; exact h
theorem ag.yp {β γ ρ:Type} {nM:ρ→Prop} {x:Operand} {b:Bool} {y z:Code} {a4 ba:aI β} {k:β→aI ρ} (h:aI.bind (bif b then a4 else ba) k nM) (E':β→γ→List (Nat×I)) (ax:β→γ→List aT) (ao:bd c E L x (.of b))
 (vd:∀ m g,k m nM→ae c Q .normal (E' m g) (ax m g))
 (b1:(∀ m g,k m nM→ae c Q .normal (E' m g) (ax m g))→b=true→a4 (fun m=>k m nM)→ag c Q y E L) (a7:(∀ m g,k m nM→ae c Q .normal (E' m g) (ax m g))→b=false→ba (fun m=>k m nM)→ag c Q z E L):ag c Q (.cond x y z) E L:=
 ag.cond ao (fun hb=>b1 vd hb (qd hb h)) (fun hb=>a7 vd hb (qe hb h))
theorem ag.II {σ ε γ δ ρ:Type} {body:Code} {N:Nat} {b:σ→aI (σ ⊕ ε)} {cw:σ} {k:ε→aI ρ} {nM:ρ→Prop} (ao:aI.bind (Gv.pK N b cw) k nM)
 (E':σ→γ→List (Nat×I)) (ax:σ→γ→List aT) (xs:ε→Exit) (gY:ε→δ→List (Nat×I)) (Lx:ε→δ→List aT) (g0:γ) (ar:L=ax cw g0) (aG:hk E (E' cw g0))
 (wx:∀ s R,b s R→ ∀ g,ag c (Gt c E' ax xs gY Lx R) body (E' s g) (ax s g))
 (qh:∀ e,k e nM→ ∀ g,ae c Q (xs e) (gY e g) (Lx e g)):ag c Q (.loop body) E L:=
 ag.pK (R:=fun e=>k e nM) ao E' ax xs gY Lx g0 ar aG wx qh
theorem YO {n:Nat} :∀ i,i<n→br (default:Vector Ref n) i=none:=fun i ak=>by
 have:(default:Vector Ref n)=Vector.replicate n none:=rfl
 rw [this]
 simp [br,ak]
def B5 (s:ByteArray) (i:Int):Option (BitVec 8):=(if 0≤i then s[i.toNat]? else none).map fun b=>BitVec.ofNat 8 b.toNat
theorem W2 {d:Option Tmp} {ty:TypeId} {pos:String} {af:Array Edge} {g:Option (Nat×Bool)} {x y:Operand} {t:TypeId} {s:ByteArray} {i:BitVec 8} {r:BitVec 8} (hu:c.P.underlying t=some .string) (aq:bd c E L x (.of s)) (a6:bd c E L y (.of i)) (aQ:B5 s (i.toNat:Int)=some r):
 cf c E L ⟨d,.index t x y,ty,pos,af,g⟩ (.of r):= .pure fun a W st=>by
 have aa:=Pe.1 (aq a W st)
 have ad:=FC.1 (a6 a W st)
 unfold B5 at aQ
 cases hb:(if 0≤ (i.toNat:Int) then s[(i.toNat:Int).toNat]? else none) with
 | none=>rw [hb] at aQ; cases aQ
 | some b=>
   rw [hb] at aQ
   simp only [Option.map_some,Option.some.injEq] at aQ
   subst aQ
   have cD:b.toNat<256:=b.toNat_lt
   refine⟨.int .u8 b.toNat,?_,FC.2 (by simp [BitVec.toNat_ofNat,Nat.mod_eq_of_lt cD])⟩
   have qK:=hb
   simp only [Int.natCast_nonneg,if_true,Int.toNat_natCast] at qK
   simp [execOp,Instr.index,aa,ad,asIntOf,run_underlying hu,qK]
end
structure gS where
 p:Option Nat
 deriving DecidableEq,Inhabited
instance aec:aj gS:= .scalar (fun x=>Value.map x.p) fun _=>rfl
instance:bk gS:=⟨[.map none],fun _ _=>rfl⟩
theorem yk {A W v} {x:gS} :(I.of x).holds A W v↔v= .map x.p:=
 ⟨fun h=>oO h.1 h.2,fun h=>by subst h; exact⟨rfl,rfl⟩⟩
theorem mV {c:dp} {E:List (Nat×I)} {L:List aT} {x:Operand} {r:gS} {p:Nat} (aq:bd c E L x (.of r)) (h:r.p=some p):bd c E L x (.of (⟨some p⟩:gS)):=fun a W s=>by
 have:=yk.1 (aq a W s)
 rw [h] at this
 exact yk.2 this
inductive mg {α β:Type} [aj α] [aj β] (A:List Nat) (W:World):List MapEntry→List (α×β)→Prop
 | nil:mg A W [] []
 | cons {e k v es r} :(I.of k).holds A W e.key→ (I.of v).holds A W e.val→mg A W es r→mg A W (e::es) ((k,v)::r)
theorem mg.mono {α β:Type} [aj α] [aj β] {A W dh W'} (h:Ext A W dh W'):∀ {es:List MapEntry} {eJ:List (α×β)},mg A W es eJ→mg dh W' es eJ
 | _,_,.nil=>.nil
 | _,_,.cons aa ad r=>.cons (I.mono _ h aa) (I.mono _ h ad) (r.mono h)
def dZ.map {α β:Type} [aj α] [aj β] (eJ:List (α×β)):dZ where
 holds A W o:= ∃ es clock,o= .map es clock∧mg A W es.toList eJ∧ (∀ x∈es.toList,x.born<clock)∧ (es.toList.map MapEntry.born).Nodup
 m4:=False
 mono e h:=let⟨es,clock,aa,ad,aF⟩:=h; ⟨es,clock,aa,ad.mono e,aF⟩
def dX {α β:Type} [DecidableEq α]:List (α×β)→α→Option β
 | [],_=>none
 | (k,v)::r,x=>if x=k then some v else dX r x
def hc {α β:Type} [DecidableEq α]:List (α×β)→α→β→List (α×β)
 | [],x,y=>[(x,y)]
 | (k,v)::r,x,y=>if x=k then(x,y)::r else(k,v)::hc r x y
def ir {α β:Type} [DecidableEq α]:List (α×β)→α→List (α×β)
 | [],_=>[]
 | (k,v)::r,x=>if x=k then r else(k,v)::ir r x
class lv (α:Type) [aj α]:Prop where
 uniq:∀ {A W cs dh W' eh} {x:α},aj.rep A W cs x→aj.rep dh W' eh x→cs=eh
 plain:∀ {A W cs} {x:α},aj.rep A W cs x→ ∀ v∈cs,∀ n,Instr.sameBits n v v=true
instance:lv Int:=⟨fun h dc=>h.trans dc.symm,fun h v a2 n=>by subst h; rw [List.mem_singleton.1 a2]; simp [Instr.sameBits]⟩
instance:lv (BitVec 64):=⟨fun h dc=>h.trans dc.symm,fun h v a2 n=>by subst h; rw [List.mem_singleton.1 a2]; simp [Instr.sameBits]⟩
instance:lv Bool:=⟨fun h dc=>h.trans dc.symm,fun h v a2 n=>by subst h; rw [List.mem_singleton.1 a2]; simp [Instr.sameBits]⟩
instance {α:Type} [aj α] [Inhabited α] [lv α] {n:Nat} :lv (Vector α n):=⟨fun {A W cs dh W' eh x} h dc=>by
 have ve:cs.length=n * aj.size α:=aj.len h
 have Dl:eh.length=n * aj.size α:=aj.len dc
 have key:∀ m,m≤n→cs.take (m * aj.size α)=eh.take (m * aj.size α):=by
  intro m
  induction m with
  | zero=>intro _; simp
  | succ m bR=>
    intro hm
    have tn:m<n:=hm
    have ay:=(aN.idx (α:=α) n m tn).iO h
    have aO:=(aN.idx (α:=α) n m tn).iO dc
    have cK:=lv.uniq ay aO
    rw [Nat.succ_mul,List.take_add,List.take_add,bR (by omega)]
    congr 1
 have:=key n (Nat.le_refl _)
 rwa [← ve,List.take_length,ve,← Dl,List.take_length] at this,
 fun {A W cs x} h v a2 k=>by
  have ve:cs.length=n * aj.size α:=aj.len h
  obtain⟨i,ak,rfl⟩:=List.getElem_of_mem a2
  by_cases hs:aj.size α=0
  ·rw [hs,Nat.mul_zero] at ve; omega
  have hq:i / aj.size α<n:=Nat.div_lt_of_lt_mul (by rw [ve,Nat.mul_comm] at ak; exact ak)
  have ay:=(aN.idx (α:=α) n (i / aj.size α) hq).iO h
  refine lv.plain ay _ ?_ k
  have aQ:i % aj.size α<aj.size α:=Nat.mod_lt _ (by omega)
  have hd:=Nat.div_add_mod i (aj.size α)
  refine List.mem_iff_getElem?.2 ⟨i % aj.size α,?_⟩
  simp only [aN.idx]
  rw [List.getElem?_take,if_pos aQ,List.getElem?_drop,Nat.mul_comm,hd]
  exact List.getElem?_eq_getElem ak⟩
theorem NO {cs eh:List Value} (o s:Nat) (h:(cs.drop o).take s=(eh.drop o).take s) (k:cs.drop (o+s)=eh.drop (o+s)):cs.drop o=eh.drop o:=by
 rw [← List.take_append_drop s (cs.drop o),← List.take_append_drop s (eh.drop o),h,List.drop_drop,List.drop_drop,k]
theorem Xp {cs eh:List Value} {n:Nat} (h:cs.length=n) (dc:eh.length=n) (k:cs.drop 0=eh.drop 0):cs=eh:=by simpa using k
theorem Xq {cs eh:List Value} {n m:Nat} (h:cs.length=n) (dc:eh.length=n) (k:n≤m):cs.drop m=eh.drop m:=by
 rw [List.drop_eq_nil_of_le (by omega),List.drop_eq_nil_of_le (by omega)]
theorem Vd {α:Type} [aj α] [lv α] {A W dh W' u v} {x:α} (h:(I.of x).holds A W u) (dc:(I.of x).holds dh W' v):u=v:=by
 obtain⟨aa,ad⟩:=h
 obtain⟨aF,aX⟩:=dc
 have a0:=lv.uniq ad aX
 by_cases bp:aj.agg α=true
 ·simp only [shaped,bp,if_true] at aa aF
  obtain⟨a,rfl⟩:=aa
  obtain⟨b,rfl⟩:=aF
  simp only [Value.cells] at a0
  congr 1
  exact Array.toList_inj.1 a0
 simp only [Bool.not_eq_true] at bp
 simp only [shaped,bp,Bool.false_eq_true,if_false] at aa aF
 rw [oP aa,oP aF] at a0
 simpa using a0
theorem NP {P:Value→Value→Bool} :∀ {cs:List Value},(∀ v∈cs,P v v=true)→ ((cs.zip cs).all fun(x,y)=>P x y)=true
 | [],_=>rfl
 | a::r,h=>by
   simp only [List.zip_cons_cons,List.all_cons,Bool.and_eq_true]
   exact⟨h a (by simp),NP fun v a2=>h v (by simp [a2])⟩
theorem Ve {α:Type} [aj α] [lv α] {A W u} {x:α} (h:(I.of x).holds A W u) (n:Nat):Instr.sameBits (n+1) u u=true:=by
 obtain⟨aa,ad⟩:=h
 by_cases bp:aj.agg α=true
 ·simp only [shaped,bp,if_true] at aa
  obtain⟨a,rfl⟩:=aa
  simp only [Value.cells] at ad
  simp only [Instr.sameBits,beq_self_eq_true,Bool.true_and]
  exact NP fun v a2=>lv.plain ad v a2 n
 simp only [Bool.not_eq_true] at bp
 simp only [shaped,bp,Bool.false_eq_true,if_false] at aa
 rw [oP aa] at ad
 exact lv.plain ad u (by simp) _
theorem VU {α:Type} [aj α] [lv α] {P:Program} {A W dh W' u v} {x:α} (h:(I.of x).holds A W u) (dc:(I.of x).holds dh W' v) (jr:World):(Instr.keyThatStays u v).run P jr= .ok v jr:=by
 have:=Vd h dc
 subst this
 simp [Instr.keyThatStays,Ve h 9999]
def sd (P:Program) (t:TypeId) (α:Type) [aj α] (n:Nat):Prop:= ∀ b d A W u (x:α),n≤d→ (I.of x).holds A W u→ (Instr.checkKey b d t u).run P W= .ok () W
theorem Ns {P:Program} {t:TypeId} {α:Type} [aj α] {D:TypeDesc} (h:P.underlying t=some D) (hd:(match (motive:=TypeDesc→Bool) D with | .interface _ | .array _ _ | .struct _=>false | _=>true)=true):sd P t α 1:=by
 intro b d A W u x aR aq
 obtain⟨d,rfl⟩:∃ e,d=e+1:=⟨d - 1,by omega⟩
 simp only [Instr.checkKey,Sem.run_bind,run_underlying h,Result.andThen_ok]
 cases D <;> simp at hd <;> rfl
theorem Mz {P:Program} {W:World} {Dm:Type} (f:Dm→Sem Unit):∀ (l:List Dm),(∀ i∈l,(f i).run P W= .ok () W)→
 (forIn (m:=Sem) l () (fun i _=>do f i; pure (ForInStep.yield ()))).run P W= .ok () W
 | [],_=>by simp
 | i::r,h=>by
   have aa:=h i (by simp)
   have ad:=Mz (P:=P) (W:=W) f r (fun j aE=>h j (by simp [aE]))
   rw [List.forIn_cons]
   simp only [Sem.run_bind,aa,Result.andThen_ok,Sem.run_pure]
   rw [ad]
theorem Mt {P:Program} {W:World} {Dm:Type} (f:Dm→PUnit→Sem (ForInStep PUnit)):∀ (l:List Dm),(∀ i∈l,(f i ()).run P W= .ok (.yield ()) W)→ (forIn (m:=Sem) l PUnit.unit f).run P W= .ok () W
 | [],_=>by simp
 | i::r,h=>by
   have aa:=h i (by simp)
   have ad:=Mt (P:=P) (W:=W) f r (fun j aE=>h j (by simp [aE]))
   rw [List.forIn_cons]
   simp only [Sem.run_bind,aa,Result.andThen_ok]
   exact ad
theorem Pk {P:Program} {t e n k:Nat} {α:Type} [aj α] [Inhabited α] (h:P.underlying t=some (.array n e)) (e6:bF P e α) (he:sd P e α k):sd P t (Vector α n) (k+1):=by
 intro b d A W u x hd aq
 obtain⟨d,rfl⟩:∃ e,d=e+1:=⟨d - 1,by omega⟩
 obtain⟨aa,ad⟩:=aq
 obtain⟨xs,rfl⟩:∃ cs,u= .agg cs:=by simpa [shaped,aj.agg] using aa
 simp only [Value.cells] at ad
 have tk:xs.toList.length=n * aj.size α:=aj.len ad
 have sX:∀ i∈List.range' 0 n,((do
  let z ← Go.sizeOf e
  let a ← part e xs (i * z)
  Instr.checkKey b d e a):Sem Unit).run P W= .ok () W:=by
  intro i ak
  have g7:i<n:=by simpa using ak
  have eE:i * aj.size α+aj.size α≤n * aj.size α:=(aN.idx (α:=α) n i g7).gI
  obtain⟨a,bp,tl⟩:=rq (A:=A) (P:=P) (W:=W) (cs:=xs) (off:=i * aj.size α) e6 (by simp at tk; omega) ((aN.idx (α:=α) n i g7).iO ad)
  simp only [Sem.run_bind,e6.sizeOf,bp,Result.andThen_ok]
  exact he b d A W a _ (by omega) tl
 have a7:=Mz (P:=P) (W:=W) _ _ sX
 simp only [Instr.checkKey,Sem.run_bind,run_underlying h,Result.andThen_ok,Std.Legacy.Range.forIn_eq_forIn_range']
 simp only [Std.Legacy.Range.size,Nat.sub_zero,Nat.add_one_sub_one,Nat.div_one] at a7 ⊢
 simp only [bind_assoc] at a7
 rw [a7]
 rfl
inductive CW (P:Program) (β:Type) [aj β] (k:Nat):List Field→Prop
 | nil:CW P β k []
 | cons {γ:Type} [aj γ] {f r} (l:aN β γ):l.off=f.offset→bF P f.type γ→sd P f.type γ k→CW P β k r→CW P β k (f::r)
theorem VV {P:Program} {t k:Nat} {β:Type} [aj β] {fs:Array Field} (bp:aj.agg β=true) (h:P.underlying t=some (.struct fs)) (al:CW P β k fs.toList):sd P t β (k+1):=by
 intro b d A W u x hd aq
 obtain⟨d,rfl⟩:∃ e,d=e+1:=⟨d - 1,by omega⟩
 obtain⟨aa,ad⟩:=aq
 obtain⟨xs,rfl⟩:∃ cs,u= .agg cs:=by simpa [shaped,bp] using aa
 simp only [Value.cells] at ad
 have tk:xs.toList.length=aj.size β:=aj.len ad
 have sX:∀ f∈fs.toList,((do
  if f.name≠ "_" then do
   let a ← part f.type xs f.offset
   Instr.checkKey b d f.type a):Sem Unit).run P W= .ok () W:=by
  have key:∀ l,CW P β k l→ ∀ f∈l,((do
   if f.name≠ "_" then do
    let a ← part f.type xs f.offset
    Instr.checkKey b d f.type a):Sem Unit).run P W= .ok () W:=by
   intro l ao
   induction ao with
   | nil=>simp
   | cons l bm e6 aw r bR=>
     rename_i f lT
     intro zj qS
     rcases List.mem_cons.1 qS with rfl | qS
     ·split
      ·obtain⟨a,bp,tl⟩:=rq (A:=A) (P:=P) (W:=W) (cs:=xs) (off:=l.off) e6 (by have:=l.gI; simp at tk; omega) (l.iO ad)
       rw [← bm]
       simp only [Sem.run_bind,bp,Result.andThen_ok]
       exact aw b d A W a _ (by omega) tl
      rfl
     exact bR zj qS
  exact key _ al
 simp only [Instr.checkKey,Sem.run_bind,run_underlying h,Result.andThen_ok]
 rw [← Array.forIn_toList,Mt]
 ·rfl
 intro f a7
 have:=sX f a7
 split
 ·rename_i aR
  rw [if_pos aR] at this
  simp only [Sem.run_bind] at this ⊢
  revert this
  generalize (part f.type xs f.offset).run P W=r
  cases r <;> simp only [Result.andThen] <;> intro h <;> first | rw [h]; rfl | cases h
 rfl
structure oJ (P:Program) (t:TypeId) (α:Type) [aj α] [DecidableEq α]:Prop where
 check:∀ b A W u (x:α),(I.of x).holds A W u→ (Instr.checkKey b 10000 t u).run P W= .ok () W
 same:∀ A W u v (x y:α),(I.of x).holds A W u→ (I.of y).holds A W v→ (Op.equal t u v).run P W= .ok (decide (x=y)) W
 now:∃ D,P.underlying t=some D∧ ∀ A W u v (x y:α),(I.of x).holds A W u→ (I.of y).holds A W v→Instr.sameNow D u v=none∨Instr.sameNow D u v=some (decide (x=y))
def lE {α β:Type} [DecidableEq α]:List (α×β)→α→Nat→Option (Nat×β)
 | [],_,_=>none
 | (k,v)::r,x,i=>if x=k then some (i,v) else lE r x (i+1)
def Found {α β:Type} [aj α] [aj β] (A:List Nat) (W:World) (eJ:List (α×β)):Option (Nat×Value)→Option (Nat×β)→Prop
 | none,none=>True
 | some (i,u),some (j,v)=>i=j∧ (I.of v).holds A W u
 | _,_=>False
theorem MD {α β:Type} [aj α] [aj β] [DecidableEq α] {D:TypeDesc} {A:List Nat} {W:World} {u:Value} {x:α} (hu:(I.of x).holds A W u)
 (hs:∀ v (y:α),(I.of y).holds A W v→Instr.sameNow D u v=none∨Instr.sameNow D u v=some (decide (x=y))) (CX:List (α×β)):∀ {es:List MapEntry} {eJ:List (α×β)} (i:Nat),mg A W es eJ→
 Instr.findNow D u es i=none∨ ∃ r,Instr.findNow D u es i=some r∧Found A W CX r (lE eJ x i)
 | [],_,i,h=>by cases h; exact .inr ⟨none,rfl,trivial⟩
 | e::es,_,i,h=>by
   cases h with
   | cons aa ad aF=>
     rename_i k v r
     rcases hs e.key k aa with aX | aX
     ·exact .inl (by simp [Instr.findNow,aX])
     by_cases aw:x=k
     ·exact .inr ⟨some (i,e.val),by simp [Instr.findNow,aX,aw],by simp only [lE,if_pos aw]; exact⟨rfl,ad⟩⟩
     rcases MD hu hs CX (i+1) aF with a0 | ⟨lT,a0,bn⟩
     ·exact .inl (by simp [Instr.findNow,aX,aw,a0])
     exact .inr ⟨lT,by simp [Instr.findNow,aX,aw,a0],by simp only [lE,if_neg aw]; exact bn⟩
theorem Mp {α β:Type} [aj α] [aj β] [DecidableEq α] {P:Program} {t:TypeId} (kK:oJ P t α) {A:List Nat} {W:World} {u:Value} {x:α} (hu:(I.of x).holds A W u) (CX:List (α×β)):∀ {es:List MapEntry} {eJ:List (α×β)} (i:Nat),mg A W es eJ→
 ∃ r,(Instr.findAsking t u es i).run P W= .ok r W∧Found A W CX r (lE eJ x i)
 | [],_,i,h=>by cases h; exact⟨none,rfl,trivial⟩
 | e::es,_,i,h=>by
   cases h with
   | cons aa ad aF=>
     rename_i k v r
     have aX:=kK.same A W u e.key x k hu aa
     by_cases aw:x=k
     ·exact⟨some (i,e.val),by simp [Instr.findAsking,Sem.run_bind,aX,aw],by simp only [lE,if_pos aw]; exact⟨rfl,ad⟩⟩
     obtain⟨lT,a0,bn⟩:=Mp kK hu CX (i+1) aF
     exact⟨lT,by simp [Instr.findAsking,Sem.run_bind,aX,aw,a0],by simp only [lE,if_neg aw]; exact bn⟩
theorem Hx {α β:Type} [aj α] [aj β] [DecidableEq α] {P:Program} {t:TypeId} (kK:oJ P t α) {A:List Nat} {W:World} {u:Value} {x:α} (hu:(I.of x).holds A W u) {es:List MapEntry} {eJ:List (α×β)} (h:mg A W es eJ):
 ∃ r,(Instr.findKey t u es).run P W= .ok r W∧Found A W eJ r (lE eJ x 0):=by
 obtain⟨D,lr,hs⟩:=kK.now
 rcases MD hu (fun v y a6=>hs A W u v x y hu a6) eJ 0 h with aa | ⟨r,aa,ad⟩
 ·obtain⟨r,aF,aX⟩:=Mp kK hu eJ 0 h
  exact⟨r,by simp [Instr.findKey,Sem.run_bind,run_underlying lr,aa,aF],aX⟩
 exact⟨r,by simp [Instr.findKey,Sem.run_bind,run_underlying lr,aa],ad⟩
theorem H2 {α β:Type} [aj α] [aj β] [DecidableEq α] {A:List Nat} {W:World} {x:α} :∀ {es:List MapEntry} {eJ:List (α×β)} {j i:Nat} {v:β},mg A W es eJ→lE eJ x j=some (i,v)→
 ∃ m e,i=j+m∧es[m]? =some e∧ (I.of x).holds A W e.key∧ (∀ (e':MapEntry) (y:β),(I.of x).holds A W e'.key→ (I.of y).holds A W e'.val→mg A W (es.set m e') (hc eJ x y))∧mg A W (es.eraseIdx m) (ir eJ x)
 | [],_,j,i,v,h,a7=>by cases h; cases a7
 | e::es,_,j,i,v,h,a7=>by
   cases h with
   | cons aa ad aF=>
     rename_i k xk r
     by_cases aw:x=k
     ·subst aw
      simp only [lE,if_pos] at a7
      simp only [Option.some.injEq,Prod.mk.injEq] at a7
      exact⟨0,e,by omega,rfl,aa,fun e' y av aW=>by simp only [hc,if_pos]; exact .cons av aW aF,by simp only [ir,if_pos]; exact aF⟩
     simp only [lE,if_neg aw] at a7
     obtain⟨m,e',av,aW,bB,cn,gy⟩:=H2 aF a7
     exact⟨m+1,e',by omega,by simpa using aW,bB,fun KU y aA cU=>by simp only [hc,if_neg aw]; exact .cons aa ad (cn KU y aA cU),by simp only [ir,if_neg aw]; exact .cons aa ad gy⟩
theorem HH {α β:Type} [aj α] [aj β] [DecidableEq α] {A:List Nat} {W:World} {x:α} :∀ {es:List MapEntry} {eJ:List (α×β)} {j:Nat},mg A W es eJ→lE eJ x j=none→
 (∀ (e':MapEntry) (y:β),(I.of x).holds A W e'.key→ (I.of y).holds A W e'.val→mg A W (es++[e']) (hc eJ x y))∧ir eJ x=eJ
 | [],_,j,h,_=>by cases h; exact⟨fun e' y aa ad=>.cons aa ad .nil,rfl⟩
 | e::es,_,j,h,a7=>by
   cases h with
   | cons aa ad aF=>
     rename_i k xk r
     by_cases aw:x=k
     ·simp [lE,aw] at a7
     simp only [lE,if_neg aw] at a7
     obtain⟨av,aW⟩:=HH aF a7
     exact⟨fun e' y aA cU=>by simp only [hc,if_neg aw]; exact .cons aa ad (av e' y aA cU),by simp only [ir,if_neg aw,aW]⟩
theorem M7 {α β:Type} [DecidableEq α]:∀ (eJ:List (α×β)) (x:α) (i:Nat),(lE eJ x i).map (·.2)=dX eJ x
 | [],_,_=>rfl
 | (k,v)::r,x,i=>by simp only [lE,dX]; split <;> simp [M7]
section
variable {c:dp} {E:List (Nat×I)} {L:List aT} {ops:Array Oper} {Q:Exit→Act→World→Prop}
variable {d:Option Tmp} {ty:TypeId} {pos:String} {af:Array Edge} {g:Option (Nat×Bool)} {x y z:Operand} {t t2:TypeId}
variable {cd:Type} [fr cd] {hp:a1 cd} {loc:List aT}
theorem ai.Xr {α β:Type} [aj α] [aj β] {rest:List Oper} {bf:Nat} (mk:cd) (aw:∀ p,fr.iv p mk= [⟨some p,.map ([]:List (α×β))⟩]) (aR:Nat.blt bf c.n=true)
 (k:∀ p,p ∉ fh hp→ai c ops Q rest ((bf,.of (⟨some p⟩:gS))::E) (loc++a8 ((p,mk)::hp))):ai c ops Q (⟨some bf,.makeMap t none,ty,pos,af,none⟩::rest) E (loc++a8 hp):=fun a W s=>by
 refine iD rfl (R:=fun v W'=>v= .map (some W.heap.size)∧W'=W.alloc (.map #[] 0)) (.l1 ?_ ⟨rfl,rfl⟩) fun v W' ⟨a2,hw⟩=>?_
 ·simp only [execOp,Instr.makeMap,newObj,Sem.run_bind,Sem.run_pure]; rfl
 subst a2
 subst hw
 refine k _ s.fresh _ _ (bV.put ?_ (by simpa using aR) (yk.2 rfl))
 refine(s.alloc (cp:= .map ([]:List (α×β))) ⟨#[],0,rfl,.nil,by simp,by simp⟩).perm ?_
 simp only [a8,aw,List.singleton_append]
 exact List.perm_middle.symm
theorem ai.ID {α β:Type} [aj α] [aj β] {rest:List Oper} {bf:Nat} (n:Nat) (ar:L.drop n=a8 hp) (mk:cd) (aw:∀ p,fr.iv p mk= [⟨some p,.map ([]:List (α×β))⟩]) (aR:Nat.blt bf c.n=true) (k:∀ a:Nat×a1 cd,a.1 ∉ hp.map (·.1)∧a.2=(a.1,mk)::hp→ai c ops Q rest ((bf,.of (⟨some a.1⟩:gS))::E) (L.take n++a8 a.2)):ai c ops Q (⟨some bf,.makeMap t none,ty,pos,af,none⟩::rest) E L:=by
 have e:L=L.take n++a8 hp:=by rw [← ar,List.take_append_drop]
 clear ar
 generalize L.take n=loc at *
 subst e
 exact ai.Xr (α:=α) (β:=β) mk aw aR fun p h=>k (p,(p,mk)::hp) ⟨h,rfl⟩
theorem bV.JC {a:Act} {W:World} (s:bV c E L a W) {p:Nat} {α β:Type} [aj α] [aj β] {eJ:List (α×β)} (hm:(⟨some p,.map eJ⟩:aT)∈L):
 ∃ es clock,W.heap[p]? =some (.map es clock)∧mg (aV L++c.ca) W es.toList eJ∧ (∀ x∈es.toList,x.born<clock)∧ (es.toList.map MapEntry.born).Nodup:=by
 obtain⟨o,bm,es,clock,rfl,ad,aF,aX⟩:=s.own _ hm
 exact⟨es,clock,bm,ad,aF,aX⟩
theorem M8 {a:Act} {W:World} (s:bV c E L a W) {p key elem:Nat} {α β:Type} [aj α] [aj β] [DecidableEq α] [Inhabited β] {eJ:List (α×β)} {i:α} (hu:c.P.underlying t=some (.map key elem)) (kK:oJ c.P key α) (g9:cP c.P elem (default:β))
 (aq:bd c E L x (.of (⟨some p⟩:gS))) (a6:bd c E L y (.of i)) (hm:(⟨some p,.map eJ⟩:aT)∈L):
 ∃ u,(I.of ((dX eJ i).getD default)).holds (aV L++c.ca) W u∧ ∀ ok,(Instr.lookup t (a.eval x) (a.eval y) ok).run c.P W= .ok (if ok then .tuple #[u,.bool (dX eJ i).isSome] else u) W:=by
 obtain⟨es,clock,bm,ad,aF,aX⟩:=s.JC hm
 have qU:=yk.1 (aq a W s)
 have qV:=a6 a W s
 obtain⟨r,aQ,a7⟩:=Hx kK qV ad
 obtain⟨gB,eF,er,df,KD⟩:=g9.zero
 have bQ:(getObj p).run c.P W= .ok (.map es clock) W:=by simp [getObj,Sem.run,bm]
 have al:=fun b=>kK.check b _ W _ i qV
 have y7:=M7 eJ i 0
 cases pY:lE eJ i 0 with
 | none=>
   rw [pY] at a7 y7
   cases r with
   | some q=>exact a7.elim
   | none=>
     refine⟨eF,by rw [← y7]; exact KD _ W,fun ok=>?_⟩
     rw [← y7]
     simp [Instr.lookup,Sem.run_bind,run_underlying hu,qU,bQ,al,aQ,zeroValue,typeInfo,er,df]
 | some q=>
   rw [pY] at a7 y7
   cases r with
   | none=>exact a7.elim
   | some oK=>
     refine⟨oK.2,by rw [← y7]; exact a7.2,fun ok=>?_⟩
     rw [← y7]
     simp [Instr.lookup,Sem.run_bind,run_underlying hu,qU,bQ,al,aQ]
theorem vP {p key elem:Nat} {α β:Type} [aj α] [aj β] [DecidableEq α] [Inhabited β] {eJ:List (α×β)} {i:α} {r:β} (hu:c.P.underlying t=some (.map key elem)) (kK:oJ c.P key α) (g9:cP c.P elem (default:β))
 (aq:bd c E L x (.of (⟨some p⟩:gS))) (a6:bd c E L y (.of i)) (hm:(⟨some p,.map eJ⟩:aT)∈L) (aQ:(dX eJ i).getD default=r):
 cf c E L ⟨d,.lookup t x y false,ty,pos,af,g⟩ (.of r):= .pure fun a W s=>by
 subst aQ
 obtain⟨u,aa,ad⟩:=M8 s hu kK g9 aq a6 hm
 have aF:=ad false
 exact⟨u,by simp only [execOp,Sem.run_bind,aF,Result.andThen_ok]; rfl,aa⟩
theorem HR {p key elem:Nat} {α β:Type} [aj α] [aj β] [DecidableEq α] [Inhabited β] {eJ:List (α×β)} {i:α} {r:Option β} (hu:c.P.underlying t=some (.map key elem)) (kK:oJ c.P key α) (g9:cP c.P elem (default:β))
 (aq:bd c E L x (.of (⟨some p⟩:gS))) (a6:bd c E L y (.of i)) (hm:(⟨some p,.map eJ⟩:aT)∈L) (aQ:dX eJ i=r):
 cf c E L ⟨d,.lookup t x y true,ty,pos,af,g⟩ (.ep [.of (r.getD default),.of r.isSome]):= .pure fun a W s=>by
 subst aQ
 obtain⟨u,aa,ad⟩:=M8 s hu kK g9 aq a6 hm
 have aF:=ad true
 exact⟨_,by simp only [execOp,Sem.run_bind,aF,Result.andThen_ok]; rfl,_,rfl,.cons aa (.cons (of_bool.2 rfl) .nil)⟩
theorem WB {es:List MapEntry} {m:Nat} {e e':MapEntry} (h:es[m]? =some e) (hb:e'.born=e.born):(es.set m e').map MapEntry.born=es.map MapEntry.born:=by
 apply List.ext_getElem?
 intro j
 simp only [List.getElem?_map,List.getElem?_set]
 split
 ·rename_i aE
  subst aE
  have:=(List.getElem?_eq_some_iff.1 h).1
  rw [if_pos this,h]
  simp [hb]
 rfl
theorem ai.X7 {rest:List Oper} {op:Op} (th:op= .mapUpdate t x y z∨op= .insert t x y z) {p key elem:Nat} {k k':cd} {α β:Type} [aj α] [aj β] [lv α] [DecidableEq α] {eJ qW:List (α×β)} {i:α} {v:β} (hu:c.P.underlying t=some (.map key elem)) (kK:oJ c.P key α)
 (aq:bd c E (loc++a8 hp) x (.of (⟨some p⟩:gS))) (a6:bd c E (loc++a8 hp) y (.of i)) (df:bd c E (loc++a8 hp) z (.of v)) (hp':pat hp p=some k) (aw:fr.iv p k= [⟨some p,.map eJ⟩]) (xb:hc eJ i v=qW) (jL:fr.iv p k'= [⟨some p,.map qW⟩])
 (po:ai c ops Q rest E (loc++a8 (dr hp p k'))):ai c ops Q (⟨none,op,ty,pos,af,none⟩::rest) E (loc++a8 hp):=fun a W s=>by
 subst xb
 obtain⟨es,clock,bm,ad,aF,aX⟩:=s.JC (fk (n:=loc.length) (by simp) hp' aw)
 have qU:=yk.1 (aq a W s)
 have qV:=a6 a W s
 have RM:=df a W s
 obtain⟨r,aQ,a7⟩:=Hx kK qV ad
 have bQ:(getObj p).run c.P W= .ok (.map es clock) W:=by simp [getObj,Sem.run,bm]
 have al:=kK.check false _ W _ i qV
 have cD:p<W.heap.size:=(Array.getElem?_eq_some_iff.1 bm).1
 have l8:∀ o,(setObj p o).run c.P W= .ok () (W.putObj p o):=fun o=>by simp only [setObj,Sem.run,bm]; rfl
 have key:∃ mN yt,(Instr.mapUpdate t (a.eval x) (a.eval y) (a.eval z)).run c.P W= .ok () (W.putObj p (.map mN yt))∧mg (aV (loc++a8 hp)++c.ca) W mN.toList (hc eJ i v)∧ (∀ x∈mN.toList,x.born<yt)∧ (mN.toList.map MapEntry.born).Nodup:=by
  cases pY:lE eJ i 0 with
  | none=>
    rw [pY] at a7
    cases r with
    | some q=>exact a7.elim
    | none=>
      obtain⟨av,_⟩:=HH ad pY
      refine⟨es.push { key:=a.eval y,val:=a.eval z,born:=clock },clock+1,by simp [Instr.mapUpdate,Sem.run_bind,run_underlying hu,qU,bQ,al,aQ,l8],by simpa using av { key:=a.eval y,val:=a.eval z,born:=clock } v qV RM,?_,?_⟩
      ·intro q hq
       simp only [Array.toList_push,List.mem_append,List.mem_singleton] at hq
       rcases hq with hq | rfl
       ·exact Nat.lt_succ_of_lt (aF q hq)
       exact Nat.lt_succ_self _
      simp only [Array.toList_push,List.map_append,List.map_cons,List.map_nil]
      refine List.nodup_append.2 ⟨aX,by simp,fun b hb b' qK=>?_⟩
      simp only [List.mem_singleton] at qK
      subst qK
      obtain⟨q,hq,rfl⟩:=List.mem_map.1 hb
      exact Nat.ne_of_lt (aF q hq)
  | some q=>
    rw [pY] at a7
    cases r with
    | none=>exact a7.elim
    | some oK=>
      obtain⟨m,e,av,aW,bB,cn,_⟩:=H2 ad pY
      have jN:oK.1=m:=by have:=a7.1; omega
      have hq:es[m]? =some e:=by simpa using aW
      have kH:=VU (P:=c.P) bB qV W
      let e':MapEntry:= { e with key:=a.eval y,val:=a.eval z }
      have Cb:(es.modify m fun e=>{ e with key:=a.eval y,val:=a.eval z }).toList=es.toList.set m e':=by
       apply List.ext_getElem?
       intro j
       rw [Array.getElem?_toList,Array.getElem?_modify,List.getElem?_set,Array.getElem?_toList]
       by_cases aE:m=j
       ·subst aE
        rw [if_pos rfl,if_pos rfl,hq,if_pos (by simpa using (Array.getElem?_eq_some_iff.1 hq).1)]
        rfl
       rw [if_neg aE,if_neg aE]
      refine⟨es.modify m fun e=>{ e with key:=a.eval y,val:=a.eval z },clock,by simp [Instr.mapUpdate,Sem.run_bind,run_underlying hu,qU,bQ,al,aQ,l8,jN,hq,kH],by rw [Cb]; exact cn e' v qV RM,?_,?_⟩
      ·rw [Cb]
       intro w hw
       rcases List.mem_or_eq_of_mem_set hw with hw | rfl
       ·exact aF w hw
       exact aF e (List.mem_of_getElem? aW)
      rw [Cb,WB (e':=e') aW rfl]; exact aX
 obtain⟨mN,yt,kl,ay,aO,cK⟩:=key
 obtain⟨R,a4,ba⟩:=vI hp'
 have ba:=ba k'
 rw [aw] at a4
 rw [jL] at ba
 have dw:∀ {z:List (α×β)} {M:List aT},M.Perm ([⟨some p,.map z⟩]++R)→ (loc++M).Perm (⟨some p,.map z⟩::(loc++R)):=fun h=>(h.append_left loc).trans (by simp only [List.singleton_append]; exact List.perm_middle)
 have cl:=(s.perm (dw a4)).rT (i:=0) (cp':= .map (hc eJ i v)) rfl (o':= .map mN yt) ⟨mN,yt,rfl,ay.mono (n0 (dw a4)),aO,cK⟩
 refine iD rfl (R:=fun v W'=>W'=W.putObj p (.map mN yt)) (.yi ?_ rfl) fun v W' hw=>?_
 ·rcases th with rfl | rfl <;> simp [execOp,kl]
 subst hw
 exact po _ _ (cl.perm (dw ba).symm)
theorem ai.I5 {rest:List Oper} {op:Op} (n:Nat) (ar:L.drop n=a8 hp) (th:op= .mapUpdate t x y z∨op= .insert t x y z) {p key elem:Nat} {k k':cd} {dk:a1 cd} {α β:Type} [aj α] [aj β] [lv α] [DecidableEq α] {eJ qW:List (α×β)} {i:α} {v:β} (hu:c.P.underlying t=some (.map key elem)) (kK:oJ c.P key α) (aq:bd c E L x (.of (⟨some p⟩:gS))) (a6:bd c E L y (.of i)) (df:bd c E L z (.of v)) (hp':pat hp p=some k) (aw:fr.iv p k= [⟨some p,.map eJ⟩]) (xb:hc eJ i v=qW) (jL:fr.iv p k'= [⟨some p,.map qW⟩]) (df:dr hp p k'=dk) (po:ai c ops Q rest E (L.take n++a8 dk)):ai c ops Q (⟨none,op,ty,pos,af,none⟩::rest) E L:=by
 subst df
 have e:L=L.take n++a8 hp:=by rw [← ar,List.take_append_drop]
 clear ar
 generalize L.take n=loc at *
 subst e
 exact ai.X7 th hu kK aq a6 df hp' aw xb jL po
theorem ai.X8 {rest:List Oper} {p key elem:Nat} {k k':cd} {α β:Type} [aj α] [aj β] [DecidableEq α] {eJ qW:List (α×β)} {i:α} (hu:c.P.underlying t=some (.map key elem)) (kK:oJ c.P key α)
 (aq:bd c E (loc++a8 hp) x (.of (⟨some p⟩:gS))) (a6:bd c E (loc++a8 hp) y (.of i)) (hp':pat hp p=some k) (aw:fr.iv p k= [⟨some p,.map eJ⟩]) (xb:ir eJ i=qW) (jL:fr.iv p k'= [⟨some p,.map qW⟩])
 (po:ai c ops Q rest E (loc++a8 (dr hp p k'))):ai c ops Q (⟨none,.call ⟨.builtin .delete,#[x,y],#[t,t2]⟩,ty,pos,af,none⟩::rest) E (loc++a8 hp):=fun a W s=>by
 subst xb
 obtain⟨es,clock,bm,ad,aF,aX⟩:=s.JC (fk (n:=loc.length) (by simp) hp' aw)
 have qU:=yk.1 (aq a W s)
 have qV:=a6 a W s
 obtain⟨r,aQ,a7⟩:=Hx kK qV ad
 have bQ:(getObj p).run c.P W= .ok (.map es clock) W:=by simp [getObj,Sem.run,bm]
 have al:=fun b=>kK.check b _ W _ i qV
 have l8:∀ o,(setObj p o).run c.P W= .ok () (W.putObj p o):=fun o=>by simp only [setObj,Sem.run,bm]; rfl
 have key:∃ mN,(Builtin.delete_ #[t,t2] ty #[a.eval x,a.eval y]).run c.P W= .ok (.tuple #[]) (W.putObj p (.map mN clock))∧mg (aV (loc++a8 hp)++c.ca) W mN.toList (ir eJ i)∧ (∀ x∈mN.toList,x.born<clock)∧ (mN.toList.map MapEntry.born).Nodup:=by
  cases pY:lE eJ i 0 with
  | none=>
    rw [pY] at a7
    cases r with
    | some q=>exact a7.elim
    | none=>
      obtain⟨_,av⟩:=HH ad pY
      exact⟨es,by simp [Builtin.delete_,Sem.run_bind,run_underlying hu,qU,bQ,al,aQ,l8],by rw [av]; exact ad,aF,aX⟩
  | some q=>
    rw [pY] at a7
    cases r with
    | none=>exact a7.elim
    | some oK=>
      obtain⟨m,e,av,aW,_,_,gy⟩:=H2 ad pY
      have jN:oK.1=m:=by have:=a7.1; omega
      have hm:m<es.size:=by simpa using (List.getElem?_eq_some_iff.1 aW).1
      have he:(es.eraseIdxIfInBounds m).toList=es.toList.eraseIdx m:=by simp [Array.eraseIdxIfInBounds,hm]
      have lh:(es.toList.eraseIdx m).Sublist es.toList:=List.eraseIdx_sublist _ _
      exact⟨es.eraseIdxIfInBounds m,by simp [Builtin.delete_,Sem.run_bind,run_underlying hu,qU,bQ,al,aQ,l8,jN],by rw [he]; exact gy,by rw [he]; exact fun w hw=>aF w (lh.subset hw),by rw [he]; exact(lh.map _).nodup aX⟩
 obtain⟨mN,kl,ay,aO,cK⟩:=key
 obtain⟨R,a4,ba⟩:=vI hp'
 have ba:=ba k'
 rw [aw] at a4
 rw [jL] at ba
 have dw:∀ {z:List (α×β)} {M:List aT},M.Perm ([⟨some p,.map z⟩]++R)→ (loc++M).Perm (⟨some p,.map z⟩::(loc++R)):=fun h=>(h.append_left loc).trans (by simp only [List.singleton_append]; exact List.perm_middle)
 have cl:=(s.perm (dw a4)).rT (i:=0) (cp':= .map (ir eJ i)) rfl (o':= .map mN clock) ⟨mN,clock,rfl,ay.mono (n0 (dw a4)),aO,cK⟩
 refine iD rfl (R:=fun v W'=>W'=W.putObj p (.map mN clock)) (.l1 (v:= .tuple #[]) ?_ rfl) fun v W' hw=>?_
 ·simp [execOp,resolve,invoke,builtin,kl]
 subst hw
 exact po _ _ (cl.perm (dw ba).symm)
theorem ai.I9 {rest:List Oper} {p key elem:Nat} {k k':cd} {dk:a1 cd} {α β:Type} [aj α] [aj β] [DecidableEq α] {eJ qW:List (α×β)} {i:α} (n:Nat) (ar:L.drop n=a8 hp) (hu:c.P.underlying t=some (.map key elem)) (kK:oJ c.P key α) (aq:bd c E L x (.of (⟨some p⟩:gS))) (a6:bd c E L y (.of i)) (hp':pat hp p=some k) (aw:fr.iv p k= [⟨some p,.map eJ⟩]) (xb:ir eJ i=qW) (jL:fr.iv p k'= [⟨some p,.map qW⟩]) (df:dr hp p k'=dk) (po:ai c ops Q rest E (L.take n++a8 dk)):ai c ops Q (⟨none,.call ⟨.builtin .delete,#[x,y],#[t,t2]⟩,ty,pos,af,none⟩::rest) E L:=by
 subst df
 have e:L=L.take n++a8 hp:=by rw [← ar,List.take_append_drop]
 clear ar
 generalize L.take n=loc at *
 subst e
 exact ai.X8 hu kK aq a6 hp' aw xb jL po
end
theorem X9 {P:Program} {t:TypeId} (h:P.underlying t=some (.int .i64)):oJ P t Int where
 check b A W u x aq:=Ns (α:=Int) h rfl b 10000 A W u x (by decide) aq
 same A W u v x y aq a6:=by
  have:=(Ou h).run 10000 (by decide) A W u v x y aq a6
  simpa [Op.equal,Op.maxDepth] using this
 now:=⟨_,h,fun A W u v x y aq a6=>.inr (by
  rw [of_int.1 aq,of_int.1 a6]
  simp only [Instr.sameNow,if_pos]
  rfl)⟩
theorem Pl {P:Program} {t:TypeId} {α:Type} [aj α] [DecidableEq α] {D:TypeDesc} {n m:Nat} (h:P.underlying t=some D) (lr:(match (motive:=TypeDesc→Bool) D with | .array _ _ | .struct _=>true | _=>false)=true) (adY:sd P t α n) (xj:lM P t α m) (aR:Nat.ble n 10000=true) (hm:Nat.ble m 10000=true):oJ P t α where
 check b A W u x aq:=adY b 10000 A W u x (Nat.le_of_ble_eq_true aR) aq
 same A W u v x y aq a6:=by
  have:=xj.run 10000 (Nat.le_of_ble_eq_true hm) A W u v x y aq a6
  simpa [Op.equal,Op.maxDepth] using this
 now:=⟨_,h,fun A W u v x y aq a6=>.inl (by cases D <;> simp at lr <;> rfl)⟩
structure iM (P:Program) (t:TypeId) (name:String) (f:FuncId):Prop where
 run:∀ v W args,(callMethod (.iface t v) name args).run P W= .ok (.enter f (#[v]++args)) W
theorem iM.of {P:Program} {t:TypeId} {name:String} {f:FuncId} {i:TypeInfo} {D:TypeDesc} {m:Method} (ak:P.info? t=some i) (hm:i.methods.find? (fun x=>x.name==name)=some m) (hp:m.path= #[]) (a7:m.func=some (f,false)) (lr:P.underlying t=some D)
 (aR:(match (motive:=TypeDesc→Bool) D with | .pointer _=>false | _=>true)=true) (eR:bM P f):iM P t name f where
 run v W args:=by
  have ac3:∀ args,(callFunc f args).run P W= .ok (.enter f args) W:=fun args=>eR.run ..
  have eg:∀ n,(method (n+1) t v name).run P W= .ok (f,v) W:=fun n=>by
   simp only [method,Sem.run_bind,typeInfo,run_program,Result.andThen_ok,ak,Sem.run_pure,hm,hp,a7,follow,receiverAt,run_underlying lr]
   cases D <;> simp at aR <;> simp [Place.get]
  obtain⟨n,aR⟩:∃ n,P.types.size+Made.depth=n+1:=⟨P.types.size+Made.depth - 1,by simp [Made.depth]⟩
  simp only [callMethod,Sem.run_bind,run_program,Result.andThen_ok,aR,eg,ac3]
theorem iM.pZ {P:Program} {t:TypeId} {name:String} {f:FuncId} {D:TypeDesc} (hm:((P.info? t).bind fun i=>(i.methods.find? (fun x=>x.name==name)).map fun m=>(m.path.size,m.func))=some (0,some (f,false))) (lr:P.underlying t=some D)
 (aR:(match (motive:=TypeDesc→Bool) D with | .pointer _=>false | _=>true)=true) (eR:bM P f):iM P t name f:=by
 cases ak:P.info? t with
 | none=>rw [ak] at hm; cases hm
 | some i=>
   rw [ak] at hm
   simp only [Option.bind_some] at hm
   cases ad:i.methods.find? (fun x=>x.name==name) with
   | none=>rw [ad] at hm; cases hm
   | some m=>
     rw [ad] at hm
     simp only [Option.map_some,Option.some.injEq,Prod.mk.injEq] at hm
     exact iM.of ak ad (Array.eq_empty_of_size_eq_zero hm.1) hm.2 lr aR eR
theorem b9.map {P:Program} {f:FuncId} {τs:List I} {Lin:List aT} {δ KV:Type} {ρ:δ→I} {Lo:δ→List aT} {RN:KV→I} {RO:KV→List aT} (F:δ→KV) (aQ:∀ d,RN (F d)=ρ d) (ao:∀ d,RO (F d)=Lo d) (h:b9 P f τs Lin ρ Lo):b9 P f τs Lin RN RO:=
 fun A W vs aa ad aF aX a0=>(h A W vs aa ad aF aX a0).mono fun e W' ⟨v,d,aA,cU,et,jS,eu,jU⟩=>⟨v,F d,aA,cU,by rw [ao]; exact et,by rw [ao]; exact jS,by rw [ao]; exact eu,by rw [ao,aQ]; exact jU⟩
structure kM (P:Program) (name:String) (τ:I) (τs:List I) (Lin:List aT) {δ:Type} (ρ:δ→I) (Lo:δ→List aT):Prop where
 go:∀ (A:List Nat) (W:World) (u:Value) (vs:List Value),(∀ k∈A,k<W.heap.size∧k ∉ aV Lin)→ (aV Lin).Nodup→ (∀ k∈aV Lin,k<W.heap.size)→ (∀ e∈Lin,e.ok (aV Lin++A) W)→g2 (aV Lin++A) W (τ::τs) (u::vs)→
  ∃ f v,(∀ args,(callMethod u name args).run P W= .ok (.enter f (#[v]++args)) W)∧Calls P f (v::vs).toArray W (ky (aV Lin) A W ρ Lo)
theorem kM.of {P:Program} {name:String} {t:TypeId} {f:FuncId} {τ σ:I} {τs:List I} {Lin:List aT} {δ:Type} {ρ:δ→I} {Lo:δ→List aT} (mt:iM P t name f) (KW:∀ A W u,τ.holds A W u→ ∃ v,u= .iface t v∧σ.holds A W v)
 (h:b9 P f (σ::τs) Lin ρ Lo):kM P name τ τs Lin ρ Lo where
 go A W u vs aa ad aF aX a0:=by
  cases a0 with
  | cons bn cZ=>
    obtain⟨v,rfl,e5⟩:=KW _ _ _ bn
    exact⟨f,v,fun args=>mt.run v W args,h A W (v::vs) aa ad aF aX (.cons e5 cZ)⟩
section
variable {c:dp} {E:List (Nat×I)} {L:List aT} {ops:Array Oper} {Q:Exit→Act→World→Prop}
variable {d:Option Tmp} {ty:TypeId} {pos:String} {af:Array Edge} {g:Option (Nat×Bool)} {x y z:Operand} {t t2:TypeId}
theorem NQ {a:Act} {W:World} {name:String} {xs:List Operand} {ats:Array TypeId} {τ:I} {τs:List I} {Lin Lr:List aT} {δ:Type} {ρ:δ→I} {Lo:δ→List aT} (h:kM c.P name τ τs Lin ρ Lo)
 (s:bV c E (Lin++Lr) a W) (aq:g2 (aV (Lin++Lr)++c.ca) W (τ::τs) ((x::xs).map a.eval)):
 ht c.P ⟨d,.call ⟨.invoke x name,xs.toArray,ats⟩,ty,pos,af,g⟩ a W fun v W'=> ∃ bf,bV c E (Lo bf++Lr) a W'∧ (ρ bf).holds (aV (Lo bf++Lr)++c.ca) W' v:=by
 have mD:=s.nodup
 rw [fv] at mD
 obtain⟨nH,pf,qP⟩:=List.nodup_append.1 mD
 have l8:Ext (aV (Lin++Lr)++c.ca) W (aV Lin++(aV Lr++c.ca)) W:=Ba
 have gA:∀ k∈aV Lr++c.ca,k<W.heap.size∧k ∉ aV Lin:=fun k hm=>by
  rcases List.mem_append.1 hm with hm | hm
  ·exact⟨s.lt k (by rw [fv]; exact List.mem_append.2 (.inr hm)),fun h=>qP k h k hm rfl⟩
  obtain⟨aa,ad⟩:=s.fg k hm
  exact⟨aa,fun h=>ad (by rw [fv]; exact List.mem_append.2 (.inl h))⟩
 have cD:∀ k∈aV Lin,k<W.heap.size:=fun k hm=>s.lt k (by rw [fv]; exact List.mem_append.2 (.inl hm))
 obtain⟨f,v,kl,al⟩:=h.go (aV Lr++c.ca) W (a.eval x) (xs.map a.eval) gA nH cD (fun e he=>aT.uk (s.own e (List.mem_append.2 (.inl he))) l8 fun _ _=>rfl) (by simpa using aq.mono l8)
 refine .vM (f:=f) (args:=(v::xs.map a.eval).toArray) (W':=W) ?_ (al.mono fun e W' ⟨v,bf,he,a7,aa,ad,aF,aX⟩=>?_)
 ·have:=kl (xs.map a.eval).toArray
  simp only [execOp,resolve,Sem.run_bind,Sem.run_pure,Result.andThen_ok,invoke]
  simp only [List.map_toArray] at this ⊢
  simp
  rw [List.take_of_length_le (by simp),this]
  simp
 refine⟨v,he,bf,s.after a7 aa ad aF,(ρ bf).mono H0 aX⟩
variable {cd:Type} [fr cd] {hp:a1 cd}
theorem ai.yN {rest:List Oper} {bf:Nat} {name:String} {xs:List Operand} {ats:Array TypeId} {τ:I} {τs:List I} {Lin Lr:List aT} {δ:Type} {ρ:δ→I} {Lo:δ→List aT} {hq:δ→a1 cd} (n m:Nat) (ar:L.drop n=a8 hp) (h:kM c.P name τ τs (Lin++a8 hp) ρ (fun d=>Lo d++a8 (hq d)))
 (aa:(L.take n).take m=Lin) (ad:(L.take n).drop m=Lr) (aq:iq c E L (x::xs) (τ::τs)) (aR:Nat.blt bf c.n=true) (k:∀ q,ai c ops Q rest ((bf,ρ q)::E) ((Lo q++Lr)++a8 (hq q))):
 ai c ops Q (⟨some bf,.call ⟨.invoke x name,xs.toArray,ats⟩,ty,pos,af,none⟩::rest) E L:=by
 have e:L=(Lin++Lr)++a8 hp:=by rw [← aa,← ad,List.take_append_drop,← ar,List.take_append_drop]
 clear ar aa ad
 subst e
 exact fun a W s=>iD rfl (NQ (Lr:=Lr) h (s.perm n1) ((aq.holds a W s).mono (n0 n1))) fun v W' ⟨q,cl,a2⟩=>
  k q _ _ ((cl.perm n1).put (by simpa using aR) ((ρ q).mono (n0 n1) a2))
theorem gJ.yN {name:String} {xs:List Operand} {ats:Array TypeId} {τ:I} {τs:List I} {ρ:I} (n:Nat) (ar:L.drop n=a8 hp) (h:kM c.P name τ τs (a8 hp) (fun _:Unit=>ρ) (fun _=>a8 hp))
 (aq:iq c E L (x::xs) (τ::τs)):gJ c E L ⟨d,.call ⟨.invoke x name,xs.toArray,ats⟩,ty,pos,af,g⟩ ρ:=fun a W s=>by
 have e:L=L.take n++a8 hp:=by rw [← ar,List.take_append_drop]
 have dw:L.Perm (a8 hp++L.take n):=by
  conv=>lhs; rw [e]
  exact List.perm_append_comm
 have bm:=NQ (d:=d) (ty:=ty) (pos:=pos) (af:=af) (g:=g) (ats:=ats) (Lr:=L.take n) h (s.perm dw) ((aq.holds a W s).mono (n0 dw))
 unfold ht at bm ⊢
 exact Oper.wp_mono (fun gz W' ⟨v,aa,_,ad,aF⟩=>⟨v,aa,ad.perm dw.symm,ρ.mono (n0 dw.symm) aF⟩) bm
theorem IN {D:TypeDesc} {σ τ:I} (hu:c.P.underlying t=some D) (lr:(match (motive:=TypeDesc→Bool) D with | .interface _=>false | _=>true)=true) (aq:bd c E L x σ) (KW:∀ A W v,σ.holds A W v→τ.holds A W (.iface t v)):
 cf c E L ⟨d,.makeInterface t x,ty,pos,af,g⟩ τ:= .pure fun a W s=>
 ⟨.iface t (a.eval x),by
   simp only [execOp,Instr.makeInterface,Sem.run_bind,run_underlying hu,Result.andThen_ok]
   cases D <;> simp at lr <;> rfl,KW _ _ _ (aq a W s)⟩
end
end Gv
