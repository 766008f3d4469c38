/-
  The library of the decompiler, as far as it is needed here. Conditions: none.
-/
import Derived.Lib.AppendZerosOnto
import Derived.Lib.Overlaps
import Derived.MapKept
import Derived.Test.YtmnggbjcnoffeaaGreatMl0
namespace Gv
open Go
set_option linter.unusedVariables false
set_option linter.unusedSimpArgs false
def bp (c:cY) (ops:Array Oper) (Q:Exit→Act→World→Prop) (f:Nat) (bO:Array Bool) (E:List (Nat × I)) (L:List aL):Prop:=
 ∀ a W,bC c E L a W→wpAnyIn c.F 9 c.P .any ops Q f bO a W
def r4 (K:Act→World→Prop) (Q:Exit→Act→World→Prop):Exit→Act→World→Prop
 | .normal,a,W=>K a W
 | x,a,W=>Q x a W
section
variable {c:cY} {E:List (Nat × I)} {L:List aL} {ops:Array Oper} {Q:Exit→Act→World→Prop}
theorem Oper.P7 {F:Fence} {n:Nat} {P:Program} {o:Oper} {a:Act} {K:Act→World→Prop} {r:Result Next} (h:o.uponIn F n P a K (r4 K Q) r):o.uponIn F n P a K Q r:=by
 cases r with
 | ok m tQ=>
   cases m <;> simp only [Oper.uponIn] at h ⊢ <;>
    first
     | exact h
     | exact⟨h.1,CallsIn.mono h.2 (fun e rJ he=>by cases e <;> exact he)⟩
     | exact⟨h.1,RoundIn.mono h.2 (fun e rJ he=>by cases e <;> exact he)⟩
 | halt x tQ=>cases x <;> simp only [Oper.uponIn] at h ⊢ <;> exact h
theorem H8 {i:Nat} {o:Oper} {K:Act→World→Prop} {a:Act} {W:World} (au:ops[i]? =some o) (h:c.oD ops (r4 K Q) [o] a W):wpOpIn c.F 9 c.P ops Q i K a W:=by
 unfold wpOpIn
 simp only [au]
 simp only [cY.oD,wpListIn] at h
 split
 ·rename_i hw
  rw [if_pos hw] at h
  exact⟨h.1,Oper.P7 h.2⟩
 ·rename_i hw
  rw [if_neg hw] at h
  exact h
def yQ (c:cY) (ops:Array Oper) (Q:Exit→Act→World→Prop) (f:Nat) (bO:Array Bool) (E:List (Nat × I)) (L:List aL):List Nat→Prop
 | []=>True
 | i :: r=>(∃ o,ops[i]? =some o∧ai c ops (r4 (wpAnyIn c.F 9 c.P .any ops Q f (bO.setIfInBounds i true)) Q) [o] E L)∧yQ c ops Q f bO E L r
theorem yQ.get {f:Nat} {bO:Array Bool} :∀ {wo:List Nat},yQ c ops Q f bO E L wo→ ∀ i∈wo,∃ o,ops[i]? =some o∧ai c ops (r4 (wpAnyIn c.F 9 c.P .any ops Q f (bO.setIfInBounds i true)) Q) [o] E L
 | _ :: _,h,i,au=>by
   rcases List.mem_cons.1 au with rfl | au
   ·exact h.1
   ·exact yQ.get h.2 i au
theorem bp.step {f:Nat} {bO:Array Bool} (wo:List Nat) (aU:Region.ready .any ops bO=wo) (dn:wo.isEmpty=false) (h:yQ c ops Q f bO E L wo):bp c ops Q (f + 1) bO E L:=fun a W s=>
 ⟨fun bT=>(by rw [← aU,bT] at dn; exact absurd dn (by simp)),fun i au=>(by
  rw [aU] at au
  obtain⟨o,aa,ae⟩:=h.get i au
  exact H8 aa (ae a W s))⟩
theorem bp.le {f:Nat} {bO:Array Bool} {E':List (Nat × I)} (h:gY E E') (k:bp c ops Q f bO E' L):bp c ops Q f bO E L:=fun a W s=>k a W (s.less h.look)
theorem ab.any {f:Nat} {bO xY:Array Bool} (an:bO=xY) (k:bp c ops Q f xY E L):ab c (r4 (wpAnyIn c.F 9 c.P .any ops Q f bO) Q) .normal E L:=fun a W s=>by
 subst an
 exact k a W s
theorem bp.cut {γ:Type} (wq:Nat) (xY:Array Bool) (E':γ→List (Nat × I)) (L':γ→List aL) {f:Nat} {bO:Array Bool} (aa:∀ g,bp c ops Q wq xY (E' g) (L' g))
 (ae:(∀ g,bp c ops Q wq xY (E' g) (L' g))→bp c ops Q f bO E L):bp c ops Q f bO E L:=ae aa
theorem ag.K7 {qq:Nat} {l:List Oper} (hm:c.P.follows .mixedOrders=true) (n:Nat) (ls:Array Bool) (aP:l.length=n) (Gg:Array.replicate n false=ls) (h:bp c l.toArray Q n ls E L):ag c Q (.region qq l.toArray true) E L:=fun a W s=>by
 subst aP Gg
 refine wpIn_region_any hm ?_
 have:=h a W.drew (s.world (Fr.drew W))
 simpa using this
theorem ab.perm {x:Exit} {L':List aL} (h:L.Perm L') (k:ab c Q x E L'):ab c Q x E L:=fun a W s=>k a W (s.perm h)
end
end Gv
namespace Gv
open Go
set_option linter.unusedVariables false
set_option linter.unusedSimpArgs false
section
variable {c:cY} {E:List (Nat × I)} {L:List aL} {ops:Array Oper} {Q:Exit→Act→World→Prop}
variable {d:Option Tmp} {ty:TypeId} {pos:String} {af:Array Edge} {g:Option (Nat × Bool)} {x y:Operand} {t t2:TypeId}
theorem ai.pf {α:Type} [ah α] {rest:List Oper} {a4 e n:Nat} {z:α} {r:List α} {bf:List (Nat × Operand)} (hu:c.P.underlying t=some (.slice e)) (fh:bq c.P e α) (gr:cE c.P e z) (hs:Nat.beq (ah.size α) 0=false) (aP:Nat.ble (n * ah.size α) 16777216=true)
 (ba:mD c E L (List.replicate n z) bf r) (kA:Nat.blt a4 c.n=true) (k:∀ p,ai c ops Q rest ((a4,.eq (aV p r.length n)) :: E) (⟨p,.row e r n⟩ :: L)):
 ai c ops Q (⟨some a4,.buildSlice t n bf.toArray,ty,pos,af,none⟩ :: rest) E L:=fun a W s=>by
 obtain⟨gP,dM,eo,eS,pw⟩:=gr.zero
 have l1:gP.size=ah.size α:=by
  obtain⟨i2,aa,ae⟩:=fh.info
  rw [eo] at aa; cases aa; exact ae
 have eZ:ah.size α≠0:=fun h=>by rw [h] at hs; cases hs
 have oH:=xI (pw (aN L ++ c.bP) W) n eZ
 obtain⟨dA,aD,aZ,a6⟩:=ba.run a W s _ oH
 have hlen:r.length=n:=by rw [a6]; simp
 have hm:(bf.toArray.map fun(x:Nat × Operand)=>(x.1,a.eval x.2)).toList=bf.map fun(i,x)=>(i,a.eval x):=by simp
 have UZ:=Nat.le_of_ble_eq_true aP
 refine hI rfl (R:=fun v W'=>v= .slice (some ⟨W.heap.size,0,none⟩) n n∧W'=W.alloc (.cells dA e)) (.lq (v:= .slice (some ⟨W.heap.size,0,none⟩) n n) (W':=W.alloc (.cells dA e)) ?_ ⟨rfl,rfl⟩) fun v W' ⟨aa,ae⟩=> ?_
 ·simp only [execOp,Instr.buildSlice,Sem.run_bind,run_underlying hu,Result.andThen_ok,Go.sizeOf,typeInfo,run_program,eo,Sem.run_pure,l1]
  rw [if_neg (by omega)]
  try simp only [Sem.run_pure,Result.andThen_ok,Sem.run_bind]
  by_cases bT:n * ah.size α=0
  ·have rM:n=0:=by
    rcases Nat.mul_eq_zero.1 bT with h | h
    ·exact h
    ·exact absurd h eZ
   subst rM
   simp only [Nat.zero_mul,if_true,Sem.run_pure,Result.andThen_ok]
   try simp only [Nat.zero_mul] at aD
   have iH:((Array.range 0).map (fun x=>(#[]:Array Value)[x % (#[]:Array Value).size]!))=((Array.range 0).map (dM.cells[· % dM.cells.size]!)):=by simp
   simp only [pure_bind]
   rw [iH,hm,aD]
   simp [newRow]
  ·simp only [bT,if_false,Sem.run_bind,zeroValue,typeInfo,run_program,Result.andThen_ok,eo,eS,Sem.run_pure]
   rw [hm,aD]
   simp [newRow]
 ·subst aa ae
  have zf:n≤maxLen:=by
   have:n * 1≤n * ah.size α:=Nat.mul_le_mul_left _ (by omega)
   have:maxLen=9223372036854775807:=rfl
   omega
  have eK:dA.size=n * ah.size α:=by have:=aZ.1; rw [hlen] at this; simpa using this
  have bZ:=s.alloc (o:= .cells dA e) (cp:= .row e r n) ⟨dA,rfl,eK,by omega,zf,by
   have bl:=aZ.1
   rw [← bl,List.take_length]
   exact aZ⟩
  refine k (some W.heap.size) _ _ (bZ.put (τ:= .eq (aV (some W.heap.size) r.length n)) (by simpa using kA) ?_)
  show _=_
  rw [hlen]; rfl
theorem ai.nO {l:List Oper} {key:Option Nat} {n m cap:Nat} (eT:Nat) (an:look E eT=some (.eq (aV key n cap))) (aP:n=m) (k:ai c ops Q l ((eT,.eq (aV key m cap)) :: E) L):ai c ops Q l E L:=fun a W s=>by
 subst aP
 refine k a W (s.less fun t τ h=> ?_)
 simp only [look] at h
 by_cases e:Nat.beq eT t=true
 ·rw [e] at h
  simp only [cond_true] at h
  have:=eO.1 e
  subst this
  exact⟨τ,by rw [an,h],fun _ _ _ h=>h⟩
 ·simp only [Bool.not_eq_true] at e
  rw [e] at h
  exact⟨τ,h,fun _ _ _ h=>h⟩
end
theorem n8 {α:Type} {xs r:List α} {k:Nat} {v:α} (h:iB xs k v=r):xs.length=r.length:=by rw [← h]; simp [iB]
theorem II {α:Type} {b:Nat} {r:List α} (h:((gB b [] ([]:List α)).bind fun y=>some y)=some r):r= []:=by
 obtain⟨y,aa,ae⟩:=bind_some h
 obtain⟨_,_,aD⟩:=IN aa
 rw [aD] at ae
 exact(aH ae).symm
end Gv
namespace Gv
open Go
set_option linter.unusedVariables false
set_option linter.unusedSimpArgs false
def jj:Value:= .slice none 0 0
def blank:List (Nat × Value)→List Value→List Value
 | [],cs=>cs
 | o :: r,cs=>blank r (cs.set o.1 jj)
theorem xz:∀ {os:List (Nat × Value)} {cs:List Value},(blank os cs).length=cs.length
 | [],_=>rfl
 | o :: r,cs=>by rw [blank,xz,List.length_set]
theorem oY:∀ {os:List (Nat × Value)} {cs:List Value} (i:Nat),(blank os cs)[i]? =if os.any (fun h=>Nat.beq h.1 i)=true then cs[i]?.map (fun _=>jj) else cs[i]?
 | [],_,i=>by simp [blank]
 | o :: r,cs,i=>by
   rw [blank,oY i,List.any_cons]
   by_cases h:o.1=i
   ·subst h
    simp only [Nat.beq_refl,Bool.true_or,if_true,List.getElem?_set]
    by_cases an:o.1 < cs.length
    ·simp [an]
    ·simp [an]
   ·have hb:Nat.beq o.1 i=false:=by
     cases hb:Nat.beq o.1 i
     ·rfl
     ·exact absurd (eO.1 hb) h
    rw [hb,Bool.false_or,List.getElem?_set_ne h]
def rh (os:List (Nat × Value)) (off n:Nat):Bool:=os.all fun h=>Nat.blt h.1 off || Nat.ble (off + n) h.1
theorem Iv {os:List (Nat × Value)} {off n i:Nat} (h:rh os off n=true) (aa:off≤i) (ae:i < off + n):os.any (fun h=>Nat.beq h.1 i)=false:=by
 rw [List.any_eq_false]
 intro x aq hb
 have aD:=List.all_eq_true.1 h x aq
 have aZ:=eO.1 hb
 simp only [Bool.or_eq_true,Nat.blt_eq,Nat.ble_eq] at aD
 omega
theorem P8 {os:List (Nat × Value)} {off n:Nat} {cs:List Value} (h:rh os off n=true):((blank os cs).drop off).take n=(cs.drop off).take n:=by
 apply List.ext_getElem?
 intro i
 simp only [List.getElem?_take,List.getElem?_drop]
 split
 ·rw [oY,Iv h (by omega) (by omega)]; rfl
 ·rfl
theorem sq {cs ds:List Value} {off:Nat} (h:off + ds.length≤cs.length) (i:Nat):(fy cs off ds)[i]? =if i < off then cs[i]? else if i < off + ds.length then ds[i - off]? else cs[i]? :=by
 have aa:(cs.take off).length=off:=by rw [List.length_take]; omega
 unfold fy
 rw [List.append_assoc]
 by_cases au:i < off
 ·rw [if_pos au,List.getElem?_append_left (by omega),List.getElem?_take,if_pos au]
 ·rw [if_neg au,List.getElem?_append_right (by omega),aa]
  by_cases ae:i < off + ds.length
  ·rw [if_pos ae,List.getElem?_append_left (by omega)]
  ·rw [if_neg ae,List.getElem?_append_right (by omega),List.getElem?_drop]
   congr 1; omega
theorem O3 {os:List (Nat × Value)} {off:Nat} {cs ds:List Value} (h:rh os off ds.length=true) (hs:off + ds.length≤cs.length):blank os (fy cs off ds)=fy (blank os cs) off ds:=by
 apply List.ext_getElem?
 intro i
 rw [oY,sq hs,sq (by rw [xz]; exact hs),oY]
 by_cases aa:i < off
 ·simp only [if_pos aa]
 ·simp only [if_neg aa]
  by_cases ae:i < off + ds.length
  ·simp only [if_pos ae,Iv h (Nat.not_lt.1 aa) ae]; rfl
  ·simp only [if_neg ae]
def q9 (os:List (Nat × Value)) (o:Nat) (u:Value):List (Nat × Value):=
 bif os.any (fun h=>Nat.beq h.1 o) then os.map (fun h=>bif Nat.beq h.1 o then(o,u) else h) else(o,u) :: os
theorem Pg {os:List (Nat × Value)} {o:Nat} {u:Value} {h:Nat × Value} (hm:h∈q9 os o u):h=(o,u)∨ (h∈os∧h.1≠o):=by
 unfold q9 at hm
 cases hb:os.any (fun h=>Nat.beq h.1 o)
 ·rw [hb] at hm
  simp only [cond_false] at hm
  rcases List.mem_cons.1 hm with hm | hm
  ·exact .inl hm
  ·refine .inr ⟨hm,fun e=> ?_⟩
   have:=List.any_eq_false.1 hb h hm
   exact this (eO.2 e)
 ·rw [hb] at hm
  simp only [cond_true] at hm
  obtain⟨x,aq,he⟩:=List.mem_map.1 hm
  cases aa:Nat.beq x.1 o
  ·rw [aa] at he
   simp only [cond_false] at he
   subst he
   exact .inr ⟨aq,fun e=>by rw [eO.2 e] at aa; cases aa⟩
  ·rw [aa] at he
   exact .inl he.symm
theorem Ph {os:List (Nat × Value)} {o i:Nat} {u:Value} :(q9 os o u).any (fun h=>Nat.beq h.1 i)=(Nat.beq o i || os.any (fun h=>Nat.beq h.1 i)):=by
 unfold q9
 cases hb:os.any (fun h=>Nat.beq h.1 o)
 ·simp only [cond_false,List.any_cons]
 ·simp only [cond_true,List.any_map]
  rw [Bool.eq_iff_iff,Bool.or_eq_true,List.any_eq_true,List.any_eq_true]
  constructor
  ·rintro ⟨x,aq,he⟩
   simp only [Function.comp] at he
   cases aa:Nat.beq x.1 o
   ·rw [aa] at he
    exact .inr ⟨x,aq,he⟩
   ·rw [aa] at he
    exact .inl he
  ·rintro (h | ⟨x,aq,he⟩)
   ·obtain⟨x,aq,aa⟩:=List.any_eq_true.1 hb
    exact⟨x,aq,by simp only [Function.comp,aa,cond_true]; exact h⟩
   ·refine⟨x,aq,?_⟩
    simp only [Function.comp]
    cases aa:Nat.beq x.1 o
    ·exact he
    ·have av:=eO.1 aa; have aX:=eO.1 he
     simp only [cond_true]; exact eO.2 (by omega)
def mz (os:List (Nat × Value)) (o:Nat):List (Nat × Value):=os.filter (fun h=> !Nat.beq h.1 o)
theorem Pj {os:List (Nat × Value)} {o i:Nat} :(mz os o).any (fun h=>Nat.beq h.1 i)=(!(Nat.beq o i) && os.any (fun h=>Nat.beq h.1 i)):=by
 rw [Bool.eq_iff_iff]
 simp only [List.any_eq_true,Bool.and_eq_true,Bool.not_eq_true',mz,List.mem_filter]
 constructor
 ·rintro ⟨x,⟨aa,ae⟩,aD⟩
  refine⟨?_,x,aa,aD⟩
  cases hb:Nat.beq o i
  ·rfl
  ·have:=eO.1 hb; have aZ:=eO.1 aD
   rw [aZ,← this,Nat.beq_refl] at ae; cases ae
 ·rintro ⟨bT,x,aa,aD⟩
  refine⟨x,⟨aa,?_⟩,aD⟩
  cases hb:Nat.beq x.1 o
  ·rfl
  ·have:=eO.1 hb; have aZ:=eO.1 aD
   rw [← this,aZ,Nat.beq_refl] at bT; cases bT
def kl {α:Type} [ah α] (A:List Nat) (W:World) (cs:List Value) (x:α) (os:List (Nat × Value)):Prop:=ah.rep A W (blank os cs) x∧ ∀ h∈os,cs[h.1]? =some h.2∧h.2.oneCell'=true
theorem kl.len {α:Type} [ah α] {A W} {cs:List Value} {x:α} {os:List (Nat × Value)} (h:kl A W cs x os):cs.length=ah.size α:=by rw [← xz (os:=os)]; exact ah.len h.1
theorem kl.mono {α:Type} [ah α] {A W cQ W'} {cs:List Value} {x:α} {os:List (Nat × Value)} (e:Ext A W cQ W') (h:kl A W cs x os):kl cQ W' cs x os:=⟨ah.mono e h.1,h.2⟩
theorem kl.one {α:Type} [ah α] {A W} {cs:List Value} {x:α} {os:List (Nat × Value)} (h:kl A W cs x os):∀ u∈cs,u.oneCell'=true:=by
 intro u hu
 obtain⟨i,au⟩:=List.mem_iff_getElem?.1 hu
 by_cases hb:os.any (fun h=>Nat.beq h.1 i)=true
 ·obtain⟨o,bh,he⟩:=List.any_eq_true.1 hb
  have he:=eO.1 he
  obtain⟨aa,ae⟩:=h.2 o bh
  rw [he,au] at aa
  cases aa; exact ae
 ·have aa:=oY (os:=os) (cs:=cs) i
  rw [if_neg hb,au] at aa
  exact ah.one h.1 u (List.mem_of_getElem? aa)
def dx.cg {α:Type} [ah α] (x:α) (os:List (Nat × Value)):dx where
 holds A W o:= ∃ cs T,o= .cells cs T (0,0)∧kl A W cs.toList x os
 mI:=False
 mono e h:=let⟨cs,T,bh,aU⟩:=h; ⟨cs,T,bh,aU.mono e⟩
def I.Gh {α:Type} [ah α] (x:α) (os:List (Nat × Value)):I where
 holds A W v:=shaped (ah.agg α) v∧kl A W v.cells.toList x os
 mono e h:=⟨h.1,h.2.mono e⟩
structure fu where
 v:Value
instance:ah fu where
 size:=1
 agg:=false
 rep _ _ cs x:=cs= [x.v]∧x.v.oneCell'=true
 len h:=by rw [h.1]; rfl
 one h:=by rw [h.1]; intro u hu; rw [List.mem_singleton.1 hu]; exact h.2
 flat _:=rfl
 mono _ h:=h
theorem Lh {A W v} {u:Value} :(I.of (⟨u⟩:fu)).holds A W v↔v=u∧u.oneCell'=true:=by
 constructor
 ·rintro ⟨aa,ae,aD⟩
  have aa:v.oneCell'=true:=aa
  exact⟨m6 aa ae,aD⟩
 ·rintro ⟨rfl,h⟩
  exact⟨h,by show v.cells.toList= [v]∧_; rw [m7 h]; exact⟨rfl,h⟩⟩
theorem bq.ex {P:Program} {t:TypeId} {γ:Type} [ah γ] (h:bq P t (List γ)):bq P t fu:=⟨h.size,h.Mr⟩
theorem ic {key:Option Nat} {n cap:Nat} :(aV key n cap).oneCell'=true:=by cases key <;> rfl
theorem Rj {A W} {γ:Type} [ah γ]:ah.rep A W [jj] ([]:List γ):=⟨jj,rfl,.inl ⟨rfl,rfl⟩⟩
theorem Jf {α γ:Type} [ah α] [ah γ] {A W} {cs ds:List Value} {x:α} {v:γ} {os:List (Nat × Value)} (l:aK α γ) (h:kl A W cs x os) (hd:ah.rep A W ds v) (bn:rh os l.off (ah.size γ)=true):kl A W (fy cs l.off ds) (l.set x v) os:=by
 have aa:=h.len
 have fc:=l.fR
 have an:=ah.len hd
 refine⟨?_,fun o hm=> ?_⟩
 ·have bl:=l.kf h.1 hd
  rw [O3 (by rw [an]; exact bn) (by rw [an]; omega)]
  simpa [fy,an] using bl
 ·refine⟨?_,(h.2 o hm).2⟩
  rw [sq (by rw [an]; omega)]
  have cZ:=List.all_eq_true.1 bn o hm
  simp only [Bool.or_eq_true,Nat.blt_eq,Nat.ble_eq] at cZ
  rw [an]
  by_cases eN:o.1 < l.off
  ·rw [if_pos eN]; exact(h.2 o hm).1
  ·rw [if_neg eN,if_neg (by omega)]; exact(h.2 o hm).1
theorem IT {α γ:Type} [ah α] [ah γ] {A W} {cs:List Value} {x:α} {u:Value} {os:List (Nat × Value)} (l:aK α (List γ)) (h:kl A W cs x os) (hu:u.oneCell'=true):kl A W (fy cs l.off [u]) (l.set x []) (q9 os l.off u):=by
 have aa:=h.len
 have fc:l.off + 1≤ah.size α:=l.fR
 refine⟨?_,fun o hm=> ?_⟩
 ·have bl:ah.rep A W ((blank os cs).take l.off ++ [jj] ++ (blank os cs).drop (l.off + 1)) (l.set x []):=l.kf h.1 (Rj (γ:=γ))
  have e:blank (q9 os l.off u) (fy cs l.off [u])=fy (blank os cs) l.off [jj]:=by
   apply List.ext_getElem?
   intro i
   rw [oY,sq (by simp; omega),sq (by rw [xz]; simp; omega),oY]
   rw [Ph]
   by_cases au:l.off=i
   ·subst au
    simp
   ·have hb:Nat.beq l.off i=false:=by
     cases hb:Nat.beq l.off i
     ·rfl
     ·exact absurd (eO.1 hb) au
    rw [hb]
    simp only [Bool.false_or,List.length_singleton]
    by_cases ae:i < l.off
    ·simp only [if_pos ae]
    ·have gl: ¬ i < l.off + 1:=by omega
     simp only [if_neg ae,if_neg gl]
  rw [e]
  simpa [fy] using bl
 ·rw [sq (by simp; omega)]
  rcases Pg hm with rfl | ⟨aD,dn⟩
  ·exact⟨by simp,hu⟩
  ·
   simp only [List.length_singleton]
   refine⟨?_,(h.2 o aD).2⟩
   by_cases eN:o.1 < l.off
   ·rw [if_pos eN]; exact(h.2 o aD).1
   ·rw [if_neg eN,if_neg (by omega)]; exact(h.2 o aD).1
theorem IU {α γ:Type} [ah α] [ah γ] {A W} {cs:List Value} {x:α} {u:Value} {xs:List γ} {os:List (Nat × Value)} (l:aK α (List γ)) (h:kl A W cs x os) (hm:(l.off,u)∈os) (hs:mY A W u xs):kl A W cs (l.set x xs) (mz os l.off):=by
 have aa:=h.len
 have fc:l.off + 1≤ah.size α:=l.fR
 have VQ:=(h.2 _ hm).1
 refine⟨?_,fun o bh=>h.2 o (List.mem_filter.1 bh).1⟩
 have bl:ah.rep A W ((blank os cs).take l.off ++ [u] ++ (blank os cs).drop (l.off + 1)) (l.set x xs):=l.kf h.1 (ds:= [u]) (g:=xs) ⟨u,rfl,hs⟩
 have e:blank (mz os l.off) cs=fy (blank os cs) l.off [u]:=by
  apply List.ext_getElem?
  intro i
  rw [oY,sq (by rw [xz]; simp; omega),oY,Pj]
  by_cases au:l.off=i
  ·subst au
   simp [VQ]
  ·have hb:Nat.beq l.off i=false:=by
    cases hb:Nat.beq l.off i
    ·rfl
    ·exact absurd (eO.1 hb) au
   rw [hb]
   simp only [Bool.not_false,Bool.true_and,List.length_singleton]
   by_cases ae:i < l.off
   ·simp only [if_pos ae]
   ·have gl: ¬ i < l.off + 1:=by omega
    simp only [if_neg ae,if_neg gl]
 rw [e]
 simpa [fy] using bl
section
variable {c:cY} {E:List (Nat × I)} {L:List aL} {ops:Array Oper} {Q:Exit→Act→World→Prop}
variable {d:Option Tmp} {ty:TypeId} {pos:String} {af:Array Edge} {g:Option (Nat × Bool)} {x y:Operand} {t t2:TypeId}
theorem bC.vf {a:Act} {W:World} (s:bC c E L a W) {i:Nat} {key:Option Nat} {cp cp':dx} (ao:L[i]? =some ⟨key,cp⟩) (h:∀ o,cp.holds (aN L ++ c.bP) W o→cp'.holds (aN L ++ c.bP) W o) (aP:cp.mI→cp'.mI):bC c E (L.set i ⟨key,cp'⟩) a W:=by
 have gG:aN (L.set i ⟨key,cp'⟩)=aN L:=vc (e:=⟨key,cp⟩) (cp:=cp') ao
 exact
 {defers:=s.defers
  size:=s.size
  env:=fun t τ an=>by rw [gG]; exact s.env t τ an
  dm:=s.dm
  own:=fun e he=>by
   rw [gG]
   obtain⟨j,aG⟩:=List.mem_iff_getElem?.1 he
   rw [List.getElem?_set] at aG
   split at aG
   ·split at aG
    ·simp only [Option.some.injEq] at aG
     subst aG
     have bh:=s.own _ (List.mem_of_getElem? ao)
     cases key with
     | none=>exact aP bh
     | some p=>obtain⟨o,aa,ae⟩:=bh; exact⟨o,aa,h _ ae⟩
    ·cases aG
   ·exact s.own e (List.mem_of_getElem? aG)
  nodup:=by rw [gG]; exact s.nodup
  lt:=by rw [gG]; exact s.lt
  fI:=by rw [gG]; exact s.fI
  eB:=by rw [gG]; exact s.eB }
theorem ai.nM {l:List Oper} {p:Nat} {β:Type} [ah β] {b:β} (i:Nat) (ao:L[i]? =some ⟨some p,.cg b []⟩) (k:ai c ops Q l E (L.set i ⟨some p,.var b⟩)):ai c ops Q l E L:=fun a W s=>
 k a W (s.vf ao (fun o ⟨cs,T,aa,ae⟩=>⟨cs,T,aa,ae.1⟩) id)
theorem ab.nM {z:Exit} {p:Nat} {β:Type} [ah β] {b:β} (i:Nat) (ao:L[i]? =some ⟨some p,.cg b []⟩) (k:ab c Q z E (L.set i ⟨some p,.var b⟩)):ab c Q z E L:=fun a W s=>
 k a W (s.vf ao (fun o ⟨cs,T,aa,ae⟩=>⟨cs,T,aa,ae.1⟩) id)
theorem ag.nM {z:Code} {p:Nat} {β:Type} [ah β] {b:β} (i:Nat) (ao:L[i]? =some ⟨some p,.cg b []⟩) (k:ag c Q z E (L.set i ⟨some p,.var b⟩)):ag c Q z E L:=fun a W s=>
 k a W (s.vf ao (fun o ⟨cs,T,aa,ae⟩=>⟨cs,T,aa,ae.1⟩) id)
def EM:Option Value→Bool
 | some (.slice none 0 0)=>true
 | _=>false
theorem Iw {v:Option Value} (h:EM v=true):v=some jj:=by
 unfold EM at h
 split at h
 ·rfl
 ·cases h
def kb (P:Program) (t:TypeId) (hs:List Nat):Prop:=((P.info? t).bind (·.zero)).any (fun v=>hs.all fun o=>EM v.cells.toList[o]?)=true
theorem DB:∀ {os:List (Nat × Value)} {cs:List Value},(∀ h∈os,cs[h.1]? =some jj)→blank os cs=cs
 | [],_,_=>rfl
 | o :: r,cs,h=>by
   have aa:=h o (by simp)
   have e:cs.set o.1 jj=cs:=by
    apply List.ext_getElem?
    intro i
    rw [List.getElem?_set]
    split
    ·rename_i he; subst he
     have:=(List.getElem?_eq_some_iff.1 aa).1
     rw [if_pos this,aa]
    ·rfl
   rw [blank,e]
   exact DB fun x aq=>h x (by simp [aq])
theorem ai.o3 {rest:List Oper} {a4:Nat} {α:Type} [ah α] {z:α} (hs:List Nat) (qJ:kb c.P t hs) (gr:cE c.P t z) (aP:Nat.blt a4 c.n=true)
 (k:∀ p,ai c ops Q rest ((a4,.eq (.pointer (some ⟨p,0,none⟩))) :: E) (⟨some p,.cg z (hs.map fun o=>(o,jj))⟩ :: L)):ai c ops Q (⟨some a4,.alloc t,ty,pos,af,none⟩ :: rest) E L:=fun a W s=>by
 obtain⟨i,dM,aa,ae,aD⟩:=gr.zero
 have ch:∀ o∈hs,dM.cells.toList[o]? =some jj:=fun o bh=>by
  unfold kb at qJ
  rw [aa] at qJ
  simp only [Option.bind_some,ae,Option.any_some] at qJ
  exact Iw (List.all_eq_true.1 qJ o bh)
 have Mz:∀ h∈hs.map (fun o=>(o,jj)),dM.cells.toList[h.1]? =some h.2:=fun h hm=>by
  obtain⟨o,bh,rfl⟩:=List.mem_map.1 hm
  exact ch o bh
 refine hI rfl (R:=fun v W'=>v= .pointer (some ⟨W.heap.size,0,none⟩)∧W'=W.alloc (.cells dM.cells t)) (.lq ?_ ⟨rfl,rfl⟩) fun v W' ⟨a2,hw⟩=> ?_
 ·simp [execOp,Instr.alloc,zeroValue,typeInfo,aa,ae,newVar,newRow]
 ·subst a2
  subst hw
  refine k _ _ _ ((s.alloc (cp:= .cg z (hs.map fun o=>(o,jj))) ⟨dM.cells,t,rfl,?_,fun h hm=>⟨Mz h hm,by obtain⟨o,_,rfl⟩:=List.mem_map.1 hm; rfl⟩⟩).put (by simpa using aP) rfl)
  rw [DB fun h hm=>by rw [Mz h hm]; obtain⟨o,_,rfl⟩:=List.mem_map.1 hm; rfl]
  exact(aD _ _).2
theorem ai.Uh {rest:List Oper} {a4:Nat} {α:Type} [ah α] {z:α} {os:List (Nat × Value)} (aq:a7 c E L x (.Gh z os)) (aP:Nat.blt a4 c.n=true)
 (k:∀ p,ai c ops Q rest ((a4,.eq (.pointer (some ⟨p,0,none⟩))) :: E) (⟨some p,.cg z os⟩ :: L)):ai c ops Q (⟨some a4,.box t x,ty,pos,af,none⟩ :: rest) E L:=fun a W s=>by
 refine hI rfl (R:=fun v W'=>v= .pointer (some ⟨W.heap.size,0,none⟩)∧W'=W.alloc (.cells (a.eval x).cells t)) (.lq ?_ ⟨rfl,rfl⟩) fun v W' ⟨a2,hw⟩=> ?_
 ·simp [execOp,Instr.box,newVar,newRow]
 ·subst a2
  subst hw
  obtain⟨aa,ae⟩:=aq a W s
  exact k _ _ _ ((s.alloc (cp:= .cg z os) ⟨_,t,rfl,ae⟩).put (by simpa using aP) rfl)
theorem Bl {t:TypeId} {i p o:Nat} {β γ:Type} [ah β] [ah γ] {b:β} {os:List (Nat × Value)} (l:aK β γ) {r:γ} (dR:bq c.P t γ) (aq:a7 c E L x (.eq (.pointer (some ⟨p,o,none⟩))))
 (ao:L[i]? =some ⟨some p,.cg b os⟩) (bh:o=l.off) (aU:l.get b=r) (bn:rh os l.off (ah.size γ)=true):bY c E L ⟨d,.load t x,ty,pos,af,g⟩ (.of r):= .pure fun a W s=>by
 subst bh
 subst aU
 obtain⟨ja,dZ,cs,T,rfl,fw⟩:=s.own _ (List.mem_of_getElem? ao)
 have aa:cs.toList.length=ah.size β:=fw.len
 have a6:=l.hR fw.1
 rw [P8 bn] at a6
 obtain⟨v,ae,aD⟩:=se (A:=aN L ++ c.bP) dR dZ (by have:=l.fR; simp at aa; omega) a6
 refine⟨v,?_,aD⟩
 have aZ:a.eval x=_:=aq a W s
 simp [execOp,Instr.loadAt,Instr.sureAddr,aZ,ae]
theorem Rk {cs:List Value} {o:Nat} {u:Value} (h:cs[o]? =some u):(cs.drop o).take 1= [u]:=by
 apply List.ext_getElem?
 intro i
 rw [List.getElem?_take,List.getElem?_drop]
 cases i with
 | zero=>simpa using h
 | succ i=>simp
theorem iO {t:TypeId} {i p o q:Nat} {β γ:Type} [ah β] [ah γ] {b:β} {os:List (Nat × Value)} {u:Value} (dR:bq c.P t (List γ)) (aq:a7 c E L x (.eq (.pointer (some ⟨p,o,none⟩))))
 (ao:L[i]? =some ⟨some p,.cg b os⟩) (hq:os[q]? =some (o,u)):bY c E L ⟨d,.load t x,ty,pos,af,g⟩ (.eq u):= .pure fun a W s=>by
 obtain⟨ja,dZ,cs,T,rfl,fw,ch⟩:=s.own _ (List.mem_of_getElem? ao)
 obtain⟨a6,hu⟩:=ch _ (List.mem_of_getElem? hq)
 have cl:o < cs.size:=by have:=(List.getElem?_eq_some_iff.1 a6).1; simpa using this
 obtain⟨v,ae,aD⟩:=se (α:=fu) (x:=⟨u⟩) (A:=aN L ++ c.bP) dR.ex dZ (show o + 1≤cs.size by omega) ⟨Rk a6,hu⟩
 refine⟨v,?_,(Lh.1 aD).1⟩
 have aZ:a.eval x=_:=aq a W s
 simp [execOp,Instr.loadAt,Instr.sureAddr,aZ,ae]
theorem ai.re {t:TypeId} {rest:List Oper} {i p o:Nat} {β γ:Type} [ah β] [ah γ] {b b':β} {v:γ} {os:List (Nat × Value)} (l:aK β γ) (dR:bq c.P t γ) (aq:a7 c E L x (.eq (.pointer (some ⟨p,o,none⟩))))
 (a9:a7 c E L y (.of v)) (ao:L[i]? =some ⟨some p,.cg b os⟩) (bh:o=l.off) (hb:l.set b v=b') (bn:rh os l.off (ah.size γ)=true)
 (k:ai c ops Q rest E (L.set i ⟨some p,.cg b' os⟩)):ai c ops Q (⟨none,.store t x y,ty,pos,af,none⟩ :: rest) E L:=fun a W s=>by
 subst bh
 subst hb
 obtain⟨ja,dZ,cs,T,rfl,fw⟩:=s.own _ (List.mem_of_getElem? ao)
 have aa:cs.toList.length=ah.size β:=fw.len
 have fc:=l.fR
 have a2:=a9 a W s
 have ae:=xj (A:=aN L ++ c.bP) dR dZ (off:=l.off) (by simp at aa; omega) a2
 have aZ:a.eval x=_:=aq a W s
 refine hI rfl (R:=fun v W'=>W'=W.setRow p (fy cs.toList l.off (a.eval y).cells.toList).toArray) (.u4 ?_ rfl) fun v W' hw=> ?_
 ·simp [execOp,Instr.storeAt,Instr.sureAddr,aZ,ae]
 ·subst hw
  exact k _ _ (s.store ao dZ ⟨_,T,rfl,by rw [List.toList_toArray]; exact Jf l fw a2.2 bn⟩)
theorem ai.jf {t:TypeId} {rest:List Oper} {i p o:Nat} {β γ:Type} [ah β] [ah γ] {b b':β} {u:Value} {os os':List (Nat × Value)} (l:aK β (List γ)) (dR:bq c.P t (List γ)) (aq:a7 c E L x (.eq (.pointer (some ⟨p,o,none⟩))))
 (a9:a7 c E L y (.eq u)) (hu:u.oneCell'=true) (ao:L[i]? =some ⟨some p,.cg b os⟩) (bh:o=l.off) (hb:l.set b []=b') (jK:q9 os o u=os')
 (k:ai c ops Q rest E (L.set i ⟨some p,.cg b' os'⟩)):ai c ops Q (⟨none,.store t x y,ty,pos,af,none⟩ :: rest) E L:=fun a W s=>by
 subst bh
 subst hb
 subst jK
 obtain⟨ja,dZ,cs,T,rfl,fw⟩:=s.own _ (List.mem_of_getElem? ao)
 have aa:cs.toList.length=ah.size β:=fw.len
 have fc:l.off + 1≤ah.size β:=l.fR
 have MA:a.eval y=u:=a9 a W s
 have a2:(I.of (⟨u⟩:fu)).holds (aN L ++ c.bP) W (a.eval y):=Lh.2 ⟨MA,hu⟩
 have ae:=xj (A:=aN L ++ c.bP) dR.ex dZ (off:=l.off) (show l.off + 1≤cs.size by simp at aa; omega) a2
 have aZ:a.eval x=_:=aq a W s
 have lb:(a.eval y).cells.toList= [u]:=by rw [MA,m7 hu]
 rw [lb] at ae
 refine hI rfl (R:=fun v W'=>W'=W.setRow p (fy cs.toList l.off [u]).toArray) (.u4 ?_ rfl) fun v W' hw=> ?_
 ·simp [execOp,Instr.storeAt,Instr.sureAddr,aZ,ae]
 ·subst hw
  exact k _ _ (s.store ao dZ ⟨_,T,rfl,by rw [List.toList_toArray]; exact IT l fw hu⟩)
theorem Oj {P:Program} {W:World} {b off:Nat} {cur:Array Value} {T t:TypeId} {α:Type} [ah α] {v:Value} (ty:bq P t α)
 (hb:W.heap[b]? =some (.cells cur T (0,0))) (hs:off + ah.size α≤cur.size) (an:v.cells.toList.length=ah.size α) (aa:∀ u∈v.cells.toList,u.oneCell'=true):
 (storeVar t ⟨b,off,none⟩ v).run P W= .ok () (W.setRow b (fy cur.toList off v.cells.toList).toArray):=by
 have ae:=run_storeCells_at P b off T v.cells.toList 0 cur W hb (by rw [an]; omega) aa
 have eK:v.cells.size=ah.size α:=by simpa using an
 simp only [Nat.add_zero] at ae
 simp only [storeVar,Sem.run_bind,ty.sizeOf,Result.andThen_ok,eK]
 simp only [ne_eq,not_true_eq_false,↓reduceIte,Sem.run_pure,Sem.run_bind,Result.andThen_ok]
 simpa [fy] using ae
theorem ai.pS {t:TypeId} {rest:List Oper} {i p:Nat} {β:Type} [ah β] {b b':β} {os os':List (Nat × Value)} (dR:bq c.P t β) (aq:a7 c E L x (.eq (.pointer (some ⟨p,0,none⟩))))
 (a9:a7 c E L y (.Gh b' os')) (ao:L[i]? =some ⟨some p,.cg b os⟩)
 (k:ai c ops Q rest E (L.set i ⟨some p,.cg b' os'⟩)):ai c ops Q (⟨none,.store t x y,ty,pos,af,none⟩ :: rest) E L:=fun a W s=>by
 obtain⟨ja,dZ,cs,T,rfl,fw⟩:=s.own _ (List.mem_of_getElem? ao)
 have aa:cs.toList.length=ah.size β:=fw.len
 obtain⟨aw,a5⟩:=a9 a W s
 have an:=a5.len
 have ae:=Oj dR dZ (off:=0) (by simp at aa; omega) an a5.one
 have aZ:a.eval x=_:=aq a W s
 have e:fy cs.toList 0 (a.eval y).cells.toList=(a.eval y).cells.toList:=by
  unfold fy
  rw [List.take_zero,List.nil_append,Nat.zero_add,an,← aa,List.drop_length,List.append_nil]
 rw [e] at ae
 refine hI rfl (R:=fun v W'=>W'=W.setRow p (a.eval y).cells.toList.toArray) (.u4 ?_ rfl) fun v W' hw=> ?_
 ·simp [execOp,Instr.storeAt,Instr.sureAddr,aZ,ae]
 ·subst hw
  exact k _ _ (s.store ao dZ ⟨_,T,rfl,by rw [List.toList_toArray]; exact a5⟩)
theorem eI {p:Addr} (aq:a7 c E L x (.eq (.pointer (some p)))):bY c E L ⟨d,.nilCheck x,ty,pos,af,g⟩ (.eq (.pointer (some p))):= .pure fun a W s=>by
 have aZ:a.eval x=_:=aq a W s
 exact⟨_,by simp [execOp,aZ],rfl⟩
theorem x3 {γ:Type} [ah γ] {r:γ} (aq:a7 c E L x (.ptr r)):bY c E L ⟨d,.nilCheck x,ty,pos,af,g⟩ (.ptr r):= .pure fun a W s=>by
 have hp:=aq a W s
 obtain⟨b,off,cur,T,gq,aZ,a6⟩:=hp
 exact⟨_,by simp [execOp,aZ],b,off,cur,T,gq,rfl,a6⟩
theorem bC.iA {a:Act} {W:World} (s:bC c E L a W) {i j p cap T:Nat} {key:Option Nat} {β γ:Type} [ah β] [ah γ] {b b':β} {xs:List γ} {os os':List (Nat × Value)} (l:aK β (List γ)) (eY:i≠j) (ao:L[i]? =some ⟨some p,.cg b os⟩) (kc:L[j]? =some ⟨key,.row T xs cap⟩)
 (q:Nat) (hq:os[q]? =some (l.off,aV key xs.length cap)) (hb:l.set b xs=b') (jK:mz os l.off=os'):bC c E ((L.set j ⟨none,.dead⟩).set i ⟨some p,.cg b' os'⟩) a W:=by
 subst hb
 subst jK
 have ax:=s.kill j
 have au:(L.set j ⟨none,.dead⟩)[i]? =some ⟨some p,.cg b os⟩:=by rw [List.getElem?_set_ne (fun e=>eY e.symm)]; exact ao
 have k2:=uB (L:=L) (i:=j) (cp:= .dead)
 have k7:mY (aN (L.set j ⟨none,.dead⟩) ++ c.bP) W (aV key xs.length cap) xs:=by
  have bh:=s.own _ (List.mem_of_getElem? kc)
  cases key with
  | none=>exact .inl ⟨rfl,bh.1⟩
  | some p=>
    obtain⟨o,dZ,cs,rfl,eK,aP,vY,aU⟩:=bh
    obtain⟨aD,aZ⟩:=Dv eK aP aU
    refine .inr ⟨p,0,cap,cs,T,(0,0),rfl,s.xO kc,dZ,aP,by omega,aD,?_⟩
    exact aZ.mono (.drop fun k hm=>by
     rcases List.mem_append.1 hm with hm | hm
     ·exact List.mem_append.2 (.inl (k2.subset hm))
     ·exact List.mem_append.2 (.inr hm))
 exact ax.vf au (fun o ⟨cs,T,aa,ae⟩=>⟨cs,T,aa,IU l ae (List.mem_of_getElem? hq) k7⟩) id
theorem ai.iA {r5:List Oper} {p cap T:Nat} {key:Option Nat} {β γ:Type} [ah β] [ah γ] {b b':β} {xs:List γ} {os os':List (Nat × Value)} (l:aK β (List γ)) (i j q:Nat) (eY:Nat.beq i j=false) (ao:L[i]? =some ⟨some p,.cg b os⟩) (kc:L[j]? =some ⟨key,.row T xs cap⟩)
 (hq:os[q]? =some (l.off,aV key xs.length cap)) (hb:l.set b xs=b') (jK:mz os l.off=os') (k:ai c ops Q r5 E ((L.set j ⟨none,.dead⟩).set i ⟨some p,.cg b' os'⟩)):ai c ops Q r5 E L:=
 fun a W s=>k a W (s.iA l (fun e=>by rw [e,Nat.beq_refl] at eY; cases eY) ao kc q hq hb jK)
theorem ab.iA {z:Exit} {p cap T:Nat} {key:Option Nat} {β γ:Type} [ah β] [ah γ] {b b':β} {xs:List γ} {os os':List (Nat × Value)} (l:aK β (List γ)) (i j q:Nat) (eY:Nat.beq i j=false) (ao:L[i]? =some ⟨some p,.cg b os⟩) (kc:L[j]? =some ⟨key,.row T xs cap⟩)
 (hq:os[q]? =some (l.off,aV key xs.length cap)) (hb:l.set b xs=b') (jK:mz os l.off=os') (k:ab c Q z E ((L.set j ⟨none,.dead⟩).set i ⟨some p,.cg b' os'⟩)):ab c Q z E L:=
 fun a W s=>k a W (s.iA l (fun e=>by rw [e,Nat.beq_refl] at eY; cases eY) ao kc q hq hb jK)
theorem ag.iA {z:Code} {p cap T:Nat} {key:Option Nat} {β γ:Type} [ah β] [ah γ] {b b':β} {xs:List γ} {os os':List (Nat × Value)} (l:aK β (List γ)) (i j q:Nat) (eY:Nat.beq i j=false) (ao:L[i]? =some ⟨some p,.cg b os⟩) (kc:L[j]? =some ⟨key,.row T xs cap⟩)
 (hq:os[q]? =some (l.off,aV key xs.length cap)) (hb:l.set b xs=b') (jK:mz os l.off=os') (k:ag c Q z E ((L.set j ⟨none,.dead⟩).set i ⟨some p,.cg b' os'⟩)):ag c Q z E L:=
 fun a W s=>k a W (s.iA l (fun e=>by rw [e,Nat.beq_refl] at eY; cases eY) ao kc q hq hb jK)
theorem bC.sU {a:Act} {W:World} (s:bC c E L a W) {i j p cap T eT:Nat} {key:Option Nat} {β γ:Type} [ah β] [ah γ] {b b':β} {xs:List γ} {os os':List (Nat × Value)} (l:aK β (List γ)) (eY:i≠j) (ao:L[i]? =some ⟨some p,.cg b os⟩) (kc:L[j]? =some ⟨key,.row T xs cap⟩)
 (q:Nat) (hq:os[q]? =some (l.off,aV key xs.length cap)) (hb:l.set b xs=b') (jK:mz os l.off=os') (k7:look E eT=some (.eq (aV key xs.length cap))):bC c ((eT,.of xs) :: E) ((L.set j ⟨none,.dead⟩).set i ⟨some p,.cg b' os'⟩) a W:=by
 have aa:=s.freeze k7 kc
 subst hb
 subst jK
 have au:(L.set j ⟨none,.dead⟩)[i]? =some ⟨some p,.cg b os⟩:=by rw [List.getElem?_set_ne (fun e=>eY e.symm)]; exact ao
 obtain⟨v,ae,aD⟩:=aa.env eT (.of xs) (by simp [look,Nat.beq_refl])
 obtain⟨tU,aZ,a6⟩:=s.env eT _ k7
 rw [ae] at aZ
 cases aZ
 have a6:v=_:=a6
 subst a6
 exact aa.vf au (fun o ⟨cs,T,aw,a5⟩=>⟨cs,T,aw,IU l a5 (List.mem_of_getElem? hq) (lQ.1 aD)⟩) id
theorem ai.sU {r5:List Oper} {p cap T:Nat} {key:Option Nat} {β γ:Type} [ah β] [ah γ] {b b':β} {xs:List γ} {os os':List (Nat × Value)} (l:aK β (List γ)) (i j q eT:Nat) (eY:Nat.beq i j=false) (ao:L[i]? =some ⟨some p,.cg b os⟩) (kc:L[j]? =some ⟨key,.row T xs cap⟩)
 (hq:os[q]? =some (l.off,aV key xs.length cap)) (hb:l.set b xs=b') (jK:mz os l.off=os') (k7:look E eT=some (.eq (aV key xs.length cap))) (k:ai c ops Q r5 ((eT,.of xs) :: E) ((L.set j ⟨none,.dead⟩).set i ⟨some p,.cg b' os'⟩)):ai c ops Q r5 E L:=
 fun a W s=>k a W (s.sU l (fun e=>by rw [e,Nat.beq_refl] at eY; cases eY) ao kc q hq hb jK k7)
theorem ag.sU {z:Code} {p cap T:Nat} {key:Option Nat} {β γ:Type} [ah β] [ah γ] {b b':β} {xs:List γ} {os os':List (Nat × Value)} (l:aK β (List γ)) (i j q eT:Nat) (eY:Nat.beq i j=false) (ao:L[i]? =some ⟨some p,.cg b os⟩) (kc:L[j]? =some ⟨key,.row T xs cap⟩)
 (hq:os[q]? =some (l.off,aV key xs.length cap)) (hb:l.set b xs=b') (jK:mz os l.off=os') (k7:look E eT=some (.eq (aV key xs.length cap))) (k:ag c Q z ((eT,.of xs) :: E) ((L.set j ⟨none,.dead⟩).set i ⟨some p,.cg b' os'⟩)):ag c Q z E L:=
 fun a W s=>k a W (s.sU l (fun e=>by rw [e,Nat.beq_refl] at eY; cases eY) ao kc q hq hb jK k7)
theorem ab.sU {z:Exit} {p cap T:Nat} {key:Option Nat} {β γ:Type} [ah β] [ah γ] {b b':β} {xs:List γ} {os os':List (Nat × Value)} (l:aK β (List γ)) (i j q eT:Nat) (eY:Nat.beq i j=false) (ao:L[i]? =some ⟨some p,.cg b os⟩) (kc:L[j]? =some ⟨key,.row T xs cap⟩)
 (hq:os[q]? =some (l.off,aV key xs.length cap)) (hb:l.set b xs=b') (jK:mz os l.off=os') (k7:look E eT=some (.eq (aV key xs.length cap))) (k:ab c Q z ((eT,.of xs) :: E) ((L.set j ⟨none,.dead⟩).set i ⟨some p,.cg b' os'⟩)):ab c Q z E L:=
 fun a W s=>k a W (s.sU l (fun e=>by rw [e,Nat.beq_refl] at eY; cases eY) ao kc q hq hb jK k7)
inductive ri (c:cY) (E:List (Nat × I)) (L:List aL) (place:Nat→Option (Nat × Nat)) {β:Type} [ah β]:β→List (Nat × Value)→List (Nat × Operand)→β→List (Nat × Value)→Prop
 | nil {b os} :ri c E L place b os [] b os
 | cons {b ei b':β} {os os':List (Nat × Value)} {γ:Type} [ah γ] {v:γ} {i:Nat} {x:Operand} {r:List (Nat × Operand)} (l:aK β γ):place i=some (l.off,ah.size γ)→a7 c E L x (.of v)→l.set b v=ei→rh os l.off (ah.size γ)=true→ri c E L place ei os r b' os'→ri c E L place b os ((i,x) :: r) b' os'
 | hole {b ei b':β} {os Gi os':List (Nat × Value)} {γ:Type} [ah γ] {u:Value} {i:Nat} {x:Operand} {r:List (Nat × Operand)} (l:aK β (List γ)):place i=some (l.off,1)→a7 c E L x (.eq u)→u.oneCell'=true→l.set b []=ei→q9 os l.off u=Gi→ri c E L place ei Gi r b' os'→ri c E L place b os ((i,x) :: r) b' os'
theorem ri.run {place:Nat→Option (Nat × Nat)} {β:Type} [ah β] {b b':β} {os os':List (Nat × Value)} {bf:List (Nat × Operand)} (h:ri c E L place b os bf b' os'):∀ a W,bC c E L a W→ ∀ cs:Array Value,kl (aN L ++ c.bP) W cs.toList b os→
 ∃ dA,Instr.fill place cs (bf.map fun(i,x)=>(i,a.eval x))=some dA∧kl (aN L ++ c.bP) W dA.toList b' os':=by
 induction h with
 | nil=>intro a W s cs aU; exact⟨cs,rfl,aU⟩
 | @cons b ei b' os os' γ _ v i x r l aa ae aD aZ _ b0=>
   intro a W s cs aU
   subst aD
   have a2:=ae a W s
   have eK:(a.eval x).cells.size=ah.size γ:=by have:=ah.len a2.2; simpa using this
   have an:cs.toList.length=ah.size β:=aU.len
   have fc:=l.fR
   rw [List.map_cons,Bf aa eK (by simp at an; omega)]
   refine b0 a W s _ ?_
   have:=Jf l aU a2.2 aZ
   simpa [fy,ah.len a2.2] using this
 | @hole b ei b' os Gi os' γ _ u i x r l aa ae aD aZ a6 _ b0=>
   intro a W s cs aU
   subst aZ
   subst a6
   have a2:a.eval x=u:=ae a W s
   have ar:(a.eval x).cells.toList= [u]:=by rw [a2,m7 aD]
   have eK:(a.eval x).cells.size=1:=by have:=congrArg List.length ar; simpa using this
   have an:cs.toList.length=ah.size β:=aU.len
   have fc:l.off + 1≤ah.size β:=l.fR
   rw [List.map_cons,Bf aa eK (by simp at an; omega)]
   refine b0 a W s _ ?_
   have:=IT l aU aD
   simpa [fy,ar] using this
theorem oZ {β:Type} [ah β] {z b:β} {bf:List (Nat × Operand)} {pl:Array (Nat × Nat)} {os:List (Nat × Value)} (jJ:List Nat) (qJ:kb c.P t jJ) (bn:ah.agg β=true) (z9:hg c.P t pl) (gr:cE c.P t z)
 (ba:ri c E L (pl[·]?) z (jJ.map fun o=>(o,jj)) bf b os):bY c E L ⟨d,.build t bf.toArray,ty,pos,af,g⟩ (.Gh b os):= .pure fun a W s=>by
 obtain⟨fB,hu,hs,rfl⟩:=z9.at_
 obtain⟨i,dM,aa,ae,aD⟩:=gr.zero
 have ch:∀ o∈jJ,dM.cells.toList[o]? =some jj:=fun o bh=>by
  unfold kb at qJ
  rw [aa] at qJ
  simp only [Option.bind_some,ae,Option.any_some] at qJ
  exact Iw (List.all_eq_true.1 qJ o bh)
 obtain⟨dA,aZ,a6⟩:=ba.run a W s dM.cells ⟨by
  rw [DB fun h hm=>by obtain⟨o,bh,rfl⟩:=List.mem_map.1 hm; exact ch o bh]
  exact(aD _ _).2,fun h hm=>by obtain⟨o,bh,rfl⟩:=List.mem_map.1 hm; exact⟨ch o bh,rfl⟩⟩
 refine⟨.agg dA,?_,by simp [shaped,bn],by simpa [Value.cells] using a6⟩
 have hm:(bf.toArray.map fun(x:Nat × Operand)=>(x.1,a.eval x.2)).toList=bf.map fun(i,x)=>(i,a.eval x):=by simp
 simp only [execOp,Instr.build,Sem.run_bind,zeroValue,typeInfo,run_program,Result.andThen_ok,aa,ae,Sem.run_pure,run_underlying hu,HS fB hs]
 rw [hm,aZ]
 rfl
def tt {α:Type} [Inhabited α] (bytes:Nat) (n:Int):Option (List α):=if 0≤n∧n≤140737488355328∧bytes * n≤140737488355328 then some (List.replicate n.toNat default) else none
theorem QD {α:Type} [Inhabited α] {bytes:Nat} {n:Int} {r:List α} (h:tt bytes n=some r):0≤n∧n≤140737488355328∧bytes * n≤140737488355328∧List.replicate n.toNat default=r:=by
 unfold tt at h
 split at h
 ·rename_i ar; exact⟨ar.1,ar.2.1,ar.2.2,aH h⟩
 ·cases h
theorem ai.Mf {α:Type} [ah α] [Inhabited α] {rest:List Oper} {a4 e bytes:Nat} {r:List α} {n:Int} (hu:c.P.underlying t=some (.slice e)) (fh:bq c.P e α) (gr:cE c.P e (default:α)) (hs:Nat.beq (ah.size α) 0=false) (hb:(c.P.info? e).map (·.bytes)=some bytes)
 (aq:a7 c E L x (.of n)) (a9:a7 c E L y (.of n)) (hm:tt bytes n=some r) (kA:Nat.blt a4 c.n=true) (k:∀ p,ai c ops Q rest ((a4,.eq (aV p r.length r.length)) :: E) (⟨p,.row e r r.length⟩ :: L)):
 ai c ops Q (⟨some a4,.makeSlice t x y,ty,pos,af,none⟩ :: rest) E L:=fun a W s=>by
 obtain⟨bT,aP,Xi,rfl⟩:=QD hm
 obtain⟨m,rfl⟩:=Int.eq_ofNat_of_zero_le bT
 obtain⟨gP,dM,eo,eS,pw⟩:=gr.zero
 have l1:gP.size=ah.size α:=by
  obtain⟨i2,aa,ae⟩:=fh.info
  rw [eo] at aa; cases aa; exact ae
 have tD:gP.bytes=bytes:=by rw [eo] at hb; simpa using hb
 have eZ:ah.size α≠0:=fun h=>by rw [h] at hs; cases hs
 have oH:=xI (pw (aN L ++ c.bP) W) m eZ
 have aa:=of_int.1 (aq a W s)
 have ae:=of_int.1 (a9 a W s)
 have hw:IntKind.i64.wrap (m:Int)=m:=by have:bw (m:Int)=m:=hD (by omega) (by omega); exact this
 have hp:(2:Int) ^ 48=281474976710656:=by decide
 simp only [Int.toNat_natCast,List.length_replicate] at k
 generalize ka:(Array.range (m * ah.size α)).map (dM.cells[· % dM.cells.size]!)=D at oH
 refine hI rfl (R:=fun v W'=>v= .slice (some ⟨W.heap.size,0,none⟩) m m∧W'=W.alloc (.cells D e)) (.lq (v:= .slice (some ⟨W.heap.size,0,none⟩) m m) (W':=W.alloc (.cells D e)) ?_ ⟨rfl,rfl⟩) fun v W' ⟨aD,aZ⟩=> ?_
 ·have ff:((decide ((m:Int) < 0) || decide ((gP.bytes:Int) * m > 2 ^ 48)) || decide ((m:Int) < 0) || decide ((m:Int) > m))=false:=by
   rw [tD,hp]; simp; omega
  have Cy:((Array.range (m * gP.size)).map fun i=>(if m * gP.size=0 then(#[]:Array Value) else dM.cells)[i % (if m * gP.size=0 then(#[]:Array Value) else dM.cells).size]!)=D:=by
   rw [← ka,l1]
   by_cases gV:m * ah.size α=0
   ·rw [gV]; simp
   ·simp only [if_neg gV]
  have bn:(asInt (.int .i64 (m:Int)):Sem Int).run c.P W= .ok (m:Int) W:=by simp [asInt,asIntOf]
  simp only [execOp,Instr.makeSlice,Sem.run_bind,run_underlying hu,Result.andThen_ok,aa,ae,bn,Sem.run_pure,typeInfo,run_program,eo,hw,ff,Bool.false_eq_true,if_false,run_askRoom,Go.sizeOf,Int.toNat_natCast]
  by_cases gV:m * gP.size=0
  ·simp only [gV,if_true,Sem.run_pure,Result.andThen_ok,Sem.run_bind,newRow] at Cy ⊢
   rw [Cy]
   simp
  ·simp only [gV,if_false,Sem.run_pure,Result.andThen_ok,Sem.run_bind,newRow,zeroValue,typeInfo,run_program,eo,eS] at Cy ⊢
   rw [Cy]
   simp
 ·subst aD aZ
  have zf:m≤maxLen:=by
   have:maxLen=9223372036854775807:=rfl
   omega
  have eK:D.size=m * ah.size α:=by have:=oH.1; simpa using this
  have bZ:=s.alloc (o:= .cells D e) (cp:= .row e (List.replicate m (default:α)) m) ⟨D,rfl,eK,by simp,zf,by
   have bl:=oH.1
   rw [List.length_replicate] at bl ⊢
   rw [← bl,List.take_length]
   exact oH⟩
  exact k (some W.heap.size) _ _ (bZ.put (τ:= .eq (aV (some W.heap.size) m m)) (by simpa using kA) rfl)
theorem ab.o8 {fn:Func} {δ:Type} {ρ:δ→I} {Lo:δ→List aL} (a4:δ) (hs:(Lo a4).Sublist L) (aU:fn.results= #[]) (qv:ρ a4= .cG []) (ht:c.ds= []:=by rfl):ab c (bodyPost c.P fn (jh c.X c.bP c.hY ρ Lo)) .ret E L:=fun a W s=>
 ⟨s.su ht,.tuple #[],by simp [so,aU],s.ends a4 hs (by rw [qv]; exact⟨_,rfl,.nil⟩)⟩
end
end Gv
namespace Gv
open Go
set_option linter.unusedVariables false
set_option linter.unusedSimpArgs false
abbrev Hid:=Nat→Option Nat
def eh (l:List (Option Nat)):Hid:=fun i=>(l[i]?).getD none
structure dN where
 slot:Option Nat
 up:List Nat
 rd:List Nat
 wr:List Nat
 τ:(Nat→Hid)→I
 fo:(Nat→Hid)→Nat→aL
def gN (up:List Nat) (i:Nat) (hd:Nat→Hid):Nat→Hid:=fun j=>bif Nat.beq j i || up.any (fun k=>Nat.beq k j) then hd j else fun _=>none
def ld (hd:Nat→Hid) (i:Nat) (x:Hid):Nat→Hid:=fun j=>bif Nat.beq j i then x else hd j
theorem P9 {up:List Nat} {i:Nat} {hd hd':Nat→Hid} (h:hd i=hd' i) (cX:∀ k∈up,hd k=hd' k):gN up i hd=gN up i hd':=by
 funext j
 unfold gN
 cases aa:Nat.beq j i
 ·cases ae:up.any (fun k=>Nat.beq k j)
  ·rfl
  ·obtain⟨k,ax,he⟩:=List.any_eq_true.1 ae
   have:=eO.1 he
   subst this
   simp only [Bool.false_or,cond_true]
   exact cX k ax
 ·have:=eO.1 aa
  subst this
  simp only [Bool.true_or,cond_true]
  exact h
def l3:List aL→ (Nat→aL)→List Nat→List aL
 | L,_,[]=>L
 | L,f,j :: r=>l3 (L.set j (f j)) f r
theorem Ih:∀ {L:List aL} {f:Nat→aL} {eD:List Nat},(l3 L f eD).length=L.length
 | _,_,[]=>rfl
 | L,f,j :: r=>by rw [l3,Ih,List.length_set]
theorem DW:∀ {L:List aL} {f:Nat→aL} {eD:List Nat} (i:Nat),(l3 L f eD)[i]? =if eD.contains i=true then L[i]?.map (fun _=>f i) else L[i]?
 | _,_,[],i=>by simp [l3]
 | L,f,j :: r,i=>by
   rw [l3,DW i]
   by_cases h:j=i
   ·subst h
    simp only [List.contains_cons,BEq.rfl,Bool.true_or,if_true,List.getElem?_set]
    by_cases an:j < L.length
    ·simp [an]
    ·simp [an]
   ·have hb:(i ==j)=false:=by simp; exact fun e=>h e.symm
    rw [List.contains_cons,hb,Bool.false_or,List.getElem?_set_ne h]
def hZ (ls:Nat→Bool) (hd:Nat→Hid):Nat→List dN→List aL→List aL
 | _,[],L=>L
 | k,h :: r,L=>hZ ls hd (k + 1) r (bif ls k then l3 L (h.fo (gN h.up k hd)) h.wr else L)
def iU (ls:Nat→Bool) (hd:Nat→Hid) (E:List (Nat × I)):Nat→List dN→List (Nat × I)
 | _,[]=>E
 | k,h :: r=>match ls k,h.slot with
   | true,some s=>(s,h.τ (gN h.up k hd)) :: iU ls hd E (k + 1) r
   | _,_=>iU ls hd E (k + 1) r
def kK (ls:Nat→Bool) (hd:Nat→Hid) (j:Nat):Nat→List dN→Option aL→Option aL
 | _,[],v=>v
 | k,h :: r,v=>kK ls hd j (k + 1) r (bif ls k && h.wr.contains j then v.map (fun _=>h.fo (gN h.up k hd) j) else v)
theorem Bw {ls:Nat→Bool} {hd:Nat→Hid} (j:Nat):∀ {k:Nat} {hs:List dN} {L:List aL},(hZ ls hd k hs L)[j]? =kK ls hd j k hs L[j]?
 | _,[],_=>rfl
 | k,h :: r,L=>by
   rw [hZ,kK,Bw j]
   congr 1
   cases ls k
   ·rfl
   ·simp only [cond_true,Bool.true_and]
    rw [DW]
    cases h.wr.contains j <;> rfl
theorem DN {ls:Nat→Bool} {hd:Nat→Hid} {j:Nat} :∀ {k:Nat} {hs:List dN} {v:Option aL},(∀ m h,hs[m]? =some h→h.wr.contains j=true→ls (k + m)=false)→kK ls hd j k hs v=v
 | _,[],_,_=>rfl
 | k,h :: r,v,aP=>by
   rw [kK,DN fun m x hm aq=>by have:=aP (m + 1) x (by simpa using hm) aq; rw [← this]; congr 1; omega]
   cases hw:h.wr.contains j
   ·simp
   ·have:=aP 0 h rfl hw
    simp only [Nat.add_zero] at this
    rw [this]; rfl
theorem Dw {ls:Nat→Bool} {hd:Nat→Hid} {j:Nat} :∀ {k:Nat} {hs rs:List dN} {v:Option aL},kK ls hd j k (hs ++ rs) v=kK ls hd j (k + hs.length) rs (kK ls hd j k hs v)
 | _,[],_,_=>rfl
 | k,h :: r,rs,v=>by
   rw [List.cons_append,kK,Dw,kK,List.length_cons]
   congr 1; omega
theorem A8 {ls ls':Nat→Bool} {hd hd':Nat→Hid} {j:Nat} :∀ {k:Nat} {hs:List dN} {v:Option aL},(∀ m h,hs[m]? =some h→h.wr.contains j=true→ls (k + m)=ls' (k + m)∧ (ls (k + m)=true→gN h.up (k + m) hd=gN h.up (k + m) hd'))→kK ls hd j k hs v=kK ls' hd' j k hs v
 | _,[],_,_=>rfl
 | k,h :: r,v,aP=>by
   have b0:=A8 (ls:=ls) (ls':=ls') (hd:=hd) (hd':=hd') (j:=j) (k:=k + 1) (hs:=r) (v:=bif ls k && h.wr.contains j then v.map (fun _=>h.fo (gN h.up k hd) j) else v) fun m x hm aq=>by
    have:=aP (m + 1) x (by simpa using hm) aq
    rw [show k + 1 + m=k + (m + 1) by omega]; exact this
   rw [kK,kK,b0]
   congr 1
   cases hw:h.wr.contains j
   ·simp
   ·have:=aP 0 h rfl hw
    simp only [Nat.add_zero] at this
    rw [← this.1]
    cases an:ls k
    ·rfl
    ·rw [this.2 an]
theorem DO {ls:Nat→Bool} {hd:Nat→Hid} {E:List (Nat × I)} {t:Nat} :∀ {k:Nat} {hs:List dN},(∀ (m:Nat) (h:dN),hs[m]? =some h→ls (k + m)=true→h.slot≠some t)→look (iU ls hd E k hs) t=look E t
 | _,[],_=>rfl
 | k,h :: r,aP=>by
   have b0:=DO (ls:=ls) (hd:=hd) (E:=E) (t:=t) (k:=k + 1) (hs:=r) fun m x hm an=>aP (m + 1) x (by simpa using hm) (by rw [← an]; congr 1; omega)
   unfold iU
   split
   ·rename_i s aa ae
    have dn:Nat.beq s t=false:=by
     cases hb:Nat.beq s t
     ·rfl
     ·have:=eO.1 hb; subst this; exact absurd ae (aP 0 h rfl aa)
    simp only [look,dn,cond_false]
    exact b0
   ·exact b0
theorem DX {ls:Nat→Bool} {hd:Nat→Hid} {E:List (Nat × I)} {s:Nat} :∀ {k:Nat} {hs:List dN} {j:Nat} {h:dN},hs[j]? =some h→ls (k + j)=true→h.slot=some s→ (∀ m x,hs[m]? =some x→x.slot=some s→m=j)→look (iU ls hd E k hs) s=some (h.τ (gN h.up (k + j) hd))
 | _,[],_,_,h,_,_,_=>by simp at h
 | k,x :: r,0,h,aG,an,hs,_=>by
   simp only [List.getElem?_cons_zero,Option.some.injEq] at aG
   subst aG
   simp only [Nat.add_zero] at an
   unfold iU
   rw [an,hs]
   simp [look,Nat.beq_refl]
 | k,x :: r,j + 1,h,aG,an,hs,hu=>by
   have b0:=DX (ls:=ls) (hd:=hd) (E:=E) (s:=s) (k:=k + 1) (hs:=r) (j:=j) (h:=h) (by simpa using aG) (by rw [← an]; congr 1; omega) hs fun m y hm a9=>by
    have:=hu (m + 1) y (by simpa using hm) a9; omega
   rw [show k + 1 + j=k + (j + 1) by omega] at b0
   unfold iU
   split
   ·rename_i bZ aa ae
    have dn:Nat.beq bZ s=false:=by
     cases hb:Nat.beq bZ s
     ·rfl
     ·have:=eO.1 hb; subst this
      have:=hu 0 x rfl ae; omega
    simp only [look,dn,cond_false]
    exact b0
   ·exact b0
theorem Jg {ls:Nat→Bool} {hd:Nat→Hid} {E:List (Nat × I)} {t:Nat} {τ:I} :∀ {k:Nat} {hs:List dN},look (iU ls hd E k hs) t=some τ→ (∃ (j:Nat) (h:dN),hs[j]? =some h∧ls (k + j)=true∧h.slot=some t∧τ=h.τ (gN h.up (k + j) hd))∨ (look E t=some τ∧ ∀ (m:Nat) (h:dN),hs[m]? =some h→ls (k + m)=true→h.slot≠some t)
 | _,[],h=> .inr ⟨h,fun m h hm=>by simp at hm⟩
 | k,x :: r,h=>by
   unfold iU at h
   have go:(ls k=true→x.slot≠some t)→look (iU ls hd E (k + 1) r) t=some τ→ (∃ (j:Nat) (h:dN),(x :: r)[j]? =some h∧ls (k + j)=true∧h.slot=some t∧τ=h.τ (gN h.up (k + j) hd))∨ (look E t=some τ∧ ∀ (m:Nat) (h:dN),(x :: r)[m]? =some h→ls (k + m)=true→h.slot≠some t):=fun aq h=>by
    rcases Jg h with⟨j,y,aa,ae,aD,aZ⟩ | ⟨aa,ae⟩
    ·exact .inl ⟨j + 1,y,by simpa using aa,by rw [← ae]; congr 1; omega,aD,by rw [aZ]; congr 2; omega⟩
    ·refine .inr ⟨aa,fun m y hm an=> ?_⟩
     cases m with
     | zero=>simp only [List.getElem?_cons_zero,Option.some.injEq] at hm; subst hm; exact aq an
     | succ m=>exact ae m y (by simpa using hm) (by rw [← an]; congr 1; omega)
   split at h
   ·rename_i s aa ae
    simp only [look] at h
    by_cases e:Nat.beq s t=true
    ·rw [e] at h
     simp only [cond_true,Option.some.injEq] at h
     have:=eO.1 e
     subst this
     exact .inl ⟨0,x,rfl,aa,ae,h.symm⟩
    ·rw [Bool.not_eq_true] at e
     rw [e] at h
     exact go (fun _ eZ=>by rw [ae] at eZ; cases eZ; rw [Nat.beq_refl] at e; cases e) h
   ·rename_i gM
    exact go (fun an eZ=>gM t an eZ) h
def lF (hd:Nat→Hid) (hs:List dN) (E:List (Nat × I)):List Nat→List (Nat × I)
 | []=>E
 | j :: r=>match hs[j]? with
   | some h=>match h.slot with
     | some s=>(s,h.τ (gN h.up j hd)) :: lF hd hs E r
     | none=>lF hd hs E r
   | none=>lF hd hs E r
theorem JP {hd:Nat→Hid} {hs:List dN} {E:List (Nat × I)} {t:Nat} {τ:I} :∀ {ds:List Nat},look (lF hd hs E ds) t=some τ→ (∃ j∈ds,∃ h:dN,hs[j]? =some h∧h.slot=some t∧τ=h.τ (gN h.up j hd))∨look E t=some τ
 | [],h=> .inr h
 | j :: r,h=>by
   have go:look (lF hd hs E r) t=some τ→ (∃ i∈j :: r,∃ h:dN,hs[i]? =some h∧h.slot=some t∧τ=h.τ (gN h.up i hd))∨look E t=some τ:=fun h=>by
    rcases JP h with⟨i,aa,ae⟩ | aa
    ·exact .inl ⟨i,by simp [aa],ae⟩
    ·exact .inr aa
   unfold lF at h
   split at h
   ·rename_i x aq
    split at h
    ·rename_i s k7
     simp only [look] at h
     by_cases e:Nat.beq s t=true
     ·rw [e] at h
      simp only [cond_true,Option.some.injEq] at h
      have:=eO.1 e
      subst this
      exact .inl ⟨j,by simp,x,aq,k7,h.symm⟩
     ·simp only [Bool.not_eq_true] at e
      rw [e] at h
      exact go h
    ·exact go h
   ·exact go h
def ru (E:List (Nat × I)) (v:Value):List Nat→Prop
 | []=>True
 | s :: r=>look E s=some (.eq v)∧ru E v r
theorem ru.get {E:List (Nat × I)} {v:Value} :∀ {hG:List Nat},ru E v hG→ ∀ s∈hG,look E s=some (.eq v)
 | _ :: _,h,s,hs=>by
   rcases List.mem_cons.1 hs with rfl | hs
   ·exact h.1
   ·exact ru.get h.2 s hs
def tH (τ:I) (E:List (Nat × I)):List Nat→List (Nat × I)
 | []=>E
 | s :: r=>(s,τ) :: tH τ E r
theorem Jh {τ:I} {E:List (Nat × I)} {t:Nat} {σ:I} :∀ {hG:List Nat},look (tH τ E hG) t=some σ→ (t∈hG∧σ=τ)∨look E t=some σ
 | [],h=> .inr h
 | s :: r,h=>by
   simp only [tH,look] at h
   by_cases e:Nat.beq s t=true
   ·rw [e] at h
    simp only [cond_true,Option.some.injEq] at h
    have:=eO.1 e
    subst this
    exact .inl ⟨by simp,h.symm⟩
   ·simp only [Bool.not_eq_true] at e
    rw [e] at h
    rcases Jh h with⟨aa,ae⟩ | aa
    ·exact .inl ⟨by simp [aa],ae⟩
    ·exact .inr aa
def ta {w:Nat} (a b:BitVec w):BitVec w:=if a≤b then a else b
def qe:Option Nat→I→List (Nat × I)→List (Nat × I)
 | some s,τ,E=>(s,τ) :: E
 | none,_,E=>E
section
variable {c:cY} {E:List (Nat × I)} {L:List aL} {ops:Array Oper} {Q:Exit→Act→World→Prop}
theorem bC.my {a:Act} {W:World} {α:Type} [ah α] {i cap T:Nat} {hG:List Nat} {key:Option Nat} {xs:List α} (h:bC c E L a W) (an:ru E (aV key xs.length cap) hG) (ao:L[i]? =some ⟨key,.row T xs cap⟩):
 bC c (tH (.of xs) E hG) (L.set i ⟨none,.dead⟩) a W:=by
 have ax:=h.kill i
 refine { ax with env:=fun t τ eC=> ?_ }
 rcases Jh eC with⟨hm,rfl⟩ | aa
 ·obtain⟨v,aa,ae⟩:=h.env t _ (an.get t hm)
  refine⟨v,aa,lQ.2 ?_⟩
  have la:v=aV key xs.length cap:=ae
  subst la
  have bh:=h.own _ (List.mem_of_getElem? ao)
  cases key with
  | none=>exact .inl ⟨rfl,bh.1⟩
  | some p=>
    obtain⟨o,dZ,cs,rfl,eK,aP,vY,aU⟩:=bh
    obtain⟨aD,aZ⟩:=Dv eK aP aU
    refine .inr ⟨p,0,cap,cs,T,(0,0),rfl,h.xO ao,dZ,aP,by omega,aD,?_⟩
    have k2:=uB (L:=L) (i:=i) (cp:= .dead)
    exact aZ.mono (.drop fun k hm=>by
     rcases List.mem_append.1 hm with hm | hm
     ·exact List.mem_append.2 (.inl (k2.subset hm))
     ·exact List.mem_append.2 (.inr hm))
 ·exact ax.env t τ aa
theorem ai.my {l:List Oper} {α:Type} [ah α] {key:Option Nat} {xs:List α} {cap T:Nat} (i:Nat) (hG:List Nat) (an:ru E (aV key xs.length cap) hG) (ao:L[i]? =some ⟨key,.row T xs cap⟩)
 (k:ai c ops Q l (tH (.of xs) E hG) (L.set i ⟨none,.dead⟩)):ai c ops Q l E L:=fun a W st=>k a W (st.my an ao)
theorem ab.my {x:Exit} {α:Type} [ah α] {key:Option Nat} {xs:List α} {cap T:Nat} (i:Nat) (hG:List Nat) (an:ru E (aV key xs.length cap) hG) (ao:L[i]? =some ⟨key,.row T xs cap⟩)
 (k:ab c Q x (tH (.of xs) E hG) (L.set i ⟨none,.dead⟩)):ab c Q x E L:=fun a W st=>k a W (st.my an ao)
theorem ag.my {code:Code} {α:Type} [ah α] {key:Option Nat} {xs:List α} {cap T:Nat} (i:Nat) (hG:List Nat) (an:ru E (aV key xs.length cap) hG) (ao:L[i]? =some ⟨key,.row T xs cap⟩)
 (k:ag c Q code (tH (.of xs) E hG) (L.set i ⟨none,.dead⟩)):ag c Q code E L:=fun a W st=>k a W (st.my an ao)
def cR (c:cY) (ops:Array Oper) (Q:Exit→Act→World→Prop) (hs:List dN) (E:List (Nat × I)) (L:List aL) (i:Nat) (o:Oper) (h:dN):Prop:=
 ∀ (hd:Nat→Hid) (E':List (Nat × I)) (L':List aL),(∀ t τ,look (lF hd hs E h.up) t=some τ→look E' t=some τ)→
   (∀ j e,(hZ (fun _=>true) hd 0 (hs.take i) L)[j]? =some e→h.rd.contains j=true→L'[j]? =some e)→
   ai c ops (r4 (fun a W=> ∃ x,bC c (qe h.slot (h.τ (gN h.up i (ld hd i x))) E') (l3 L' (h.fo (gN h.up i (ld hd i x))) h.wr) a W) Q) [o] E' L'
def rj (c:cY) (ops:Array Oper) (Q:Exit→Act→World→Prop) (hs:List dN) (E:List (Nat × I)) (L:List aL):Nat→List Oper→List dN→Prop
 | _,[],[]=>True
 | i,o :: os,h :: r=>cR c ops Q hs E L i o h∧rj c ops Q hs E L (i + 1) os r
 | _,_,_=>False
theorem rj.get {hs:List dN} :∀ {k:Nat} {os:List Oper} {rs:List dN},rj c ops Q hs E L k os rs→ ∀ i h o,rs[i]? =some h→os[i]? =some o→cR c ops Q hs E L (k + i) o h
 | k,[],[],_,i,h,o,au,_=>by simp at au
 | k,WH :: os,bT :: r,ch,i,h,o,au,bh=>by
   cases i with
   | zero=>
     simp only [List.getElem?_cons_zero,Option.some.injEq] at au bh
     subst au; subst bh; exact ch.1
   | succ i=>
     have:=rj.get ch.2 i h o (by simpa using au) (by simpa using bh)
     rw [show k + 1 + i=k + (i + 1) by omega] at this
     exact this
 | k,[],_ :: _,ch,_,_,_,_,_=>ch.elim
 | k,_ :: _,[],ch,_,_,_,_,_=>ch.elim
def jV (ops:Array Oper) (hs:List (Option Nat × List Nat × List Nat × List Nat)) (E:List Nat):Bool:=
 decide (hs.length=ops.size) && decide (hs.filterMap (·.1)).Nodup && ((List.range ops.size).all fun m=>match hs[m]? with | some (some s,up,_)=> !E.contains s || (List.range ops.size).all fun k=>decide (k=m) || up.contains k | _=>true) &&
 ((List.range ops.size).all fun i=>match hs[i]? with
   | none=>false
   | some (_,up,rd,wr)=>
     (((ops[i]?).map fun o=>(o.dst ==(hs[i]?).bind (·.1)) && o.after.all fun e=> !Region.binds .any e || decide (e.on < i)).getD false) &&
     (up.all fun k=>Region.waitsFor .any ops i k || (List.range i).any fun m=>Region.waitsFor .any ops i m && ((hs[m]?).map fun h=>h.2.1.contains k).getD false) &&
     ((List.range ops.size).all fun k=>match hs[k]? with
       | none=>true
       | some (_,VR,_,MB)=>
         (!(decide (k < i) && MB.any rd.contains) || up.contains k) && (!(decide (i < k) && MB.any fun j=>rd.contains j || wr.contains j) || VR.contains i)))
theorem Ix {ls ls':Nat→Bool} {hd:Nat→Hid} :∀ {k:Nat} {hs:List dN},(∀ m,m < hs.length→ls (k + m)=ls' (k + m))→iU ls hd E k hs=iU ls' hd E k hs
 | _,[],_=>rfl
 | k,h :: r,aP=>by
   have b0:=Ix (ls:=ls) (ls':=ls') (hd:=hd) (k:=k + 1) (hs:=r) fun m hm=>by
    have:=aP (m + 1) (by simp; omega)
    rw [show k + 1 + m=k + (m + 1) by omega]; exact this
   have bT:=aP 0 (by simp)
   simp only [Nat.add_zero] at bT
   unfold iU
   rw [bT,b0]
theorem Ji {ls ls':Nat→Bool} {hd:Nat→Hid} :∀ {k:Nat} {hs:List dN} {L:List aL},(∀ m,m < hs.length→ls (k + m)=ls' (k + m))→hZ ls hd k hs L=hZ ls' hd k hs L
 | _,[],_,_=>rfl
 | k,h :: r,L,aP=>by
   have bT:=aP 0 (by simp)
   simp only [Nat.add_zero] at bT
   rw [hZ,hZ,bT]
   exact Ji fun m hm=>by
    have:=aP (m + 1) (by simp; omega)
    rw [show k + 1 + m=k + (m + 1) by omega]; exact this
def me (hs:List dN):List (Option Nat × List Nat × List Nat × List Nat):=hs.map fun h=>(h.slot,h.up,h.rd,h.wr)
theorem Em {hs:List dN} {i:Nat} {h:dN} (au:hs[i]? =some h):(me hs)[i]? =some (h.slot,h.up,h.rd,h.wr):=by simp [me,au]
def EN (c:cY) (ops:Array Oper) (Q:Exit→Act→World→Prop) (hs:List dN) (E:List (Nat × I)) (L:List aL) (np:Nat) (i:Nat) (o:Oper) (h:dN):Prop:=
 ∀ (hd:Nat→Hid) (E':List (Nat × I)) (L':List aL),(∀ t τ,look (lF hd hs E h.up) t=some τ→look E' t=some τ)→
   (∀ j e,(hZ (fun _=>true) hd 0 (hs.take i) L)[j]? =some e→h.rd.contains j=true→L'[j]? =some e)→L'.drop np=L.drop np→
   ai c ops (r4 (fun a W=> ∃ x,bC c (qe h.slot (h.τ (gN h.up i (ld hd i x))) E') (l3 L' (h.fo (gN h.up i (ld hd i x))) h.wr) a W) Q) [o] E' L'
def pP (c:cY) (ops:Array Oper) (Q:Exit→Act→World→Prop) (hs:List dN) (E:List (Nat × I)) (L:List aL) (np:Nat):Nat→List Oper→List dN→Prop
 | _,[],[]=>True
 | i,o :: os,h :: r=>EN c ops Q hs E L np i o h∧pP c ops Q hs E L np (i + 1) os r
 | _,_,_=>False
theorem pP.get {hs:List dN} {np:Nat} :∀ {k:Nat} {os:List Oper} {rs:List dN},pP c ops Q hs E L np k os rs→ ∀ i h o,rs[i]? =some h→os[i]? =some o→EN c ops Q hs E L np (k + i) o h
 | k,[],[],_,i,h,o,au,_=>by simp at au
 | k,WH :: os,bT :: r,ch,i,h,o,au,bh=>by
   cases i with
   | zero=>
     simp only [List.getElem?_cons_zero,Option.some.injEq] at au bh
     subst au; subst bh; exact ch.1
   | succ i=>
     have:=pP.get ch.2 i h o (by simpa using au) (by simpa using bh)
     rw [show k + 1 + i=k + (i + 1) by omega] at this
     exact this
 | k,[],_ :: _,ch,_,_,_,_,_=>ch.elim
 | k,_ :: _,[],ch,_,_,_,_,_=>ch.elim
theorem rj.MC {hs:List dN} {np:Nat} :∀ {k:Nat} {os:List Oper} {rs:List dN},rj c ops Q hs E L k os rs→pP c ops Q hs E L np k os rs
 | _,[],[],_=>trivial
 | _,_ :: _,_ :: _,h=>⟨fun hd E' L' aa ae _=>h.1 hd E' L' aa ae,rj.MC h.2⟩
 | _,[],_ :: _,h=>h.elim
 | _,_ :: _,[],h=>h.elim
theorem IV {n:Nat} :∀ {L:List aL} {f:Nat→aL} {eD:List Nat},(∀ j∈eD,j < n∨L.length≤j)→ (l3 L f eD).drop n=L.drop n
 | _,_,[],_=>rfl
 | L,f,j :: r,h=>by
   rw [l3,IV (fun k ax=>by rw [List.length_set]; exact h k (by simp [ax]))]
   rcases h j (by simp) with aa | aa
   ·rw [List.drop_set_of_lt aa]
   ·rw [List.set_eq_of_length_le aa]
theorem En {ls:Nat→Bool} {hd:Nat→Hid} {n:Nat} :∀ {k:Nat} {hs:List dN} {L:List aL},(∀ h∈hs,∀ j∈h.wr,j < n∨L.length≤j)→ (hZ ls hd k hs L).drop n=L.drop n
 | _,[],_,_=>rfl
 | k,h :: r,L,hw=>by
   rw [hZ]
   cases an:ls k
   ·exact En fun x aq=>hw x (by simp [aq])
   ·simp only [cond_true]
    rw [En (fun x aq j aG=>by rw [Ih]; exact hw x (by simp [aq]) j aG),IV (hw h (by simp))]
theorem Px {hs:List dN} {np:Nat} (hw:∀ h∈hs,∀ j∈h.wr,j < np∨L.length≤j) (iF:jV ops (me hs) (E.map (·.1))=true) (ch:pP c ops Q hs E L np 0 ops.toList hs)
 (cr:∀ hd,ab c Q .normal (iU (fun _=>true) hd E 0 hs) (hZ (fun _=>true) hd 0 hs L)):
 ∀ m (bO:Array Bool) (hd:Nat→Hid) (a:Act) (W:World),((List.range ops.size).filter fun i=> !bO.getD i true).length≤m→HeadInv .any ops ops.size bO→
   bC c (iU (fun i=>bO.getD i false) hd E 0 hs) (hZ (fun i=>bO.getD i false) hd 0 hs L) a W→wpAnyIn c.F 9 c.P .any ops Q m bO a W:=by
 simp only [jV,Bool.and_eq_true,decide_eq_true_eq] at iF
 obtain⟨⟨⟨Tz,ij⟩,L4⟩,k1⟩:=iF
 have hlen:hs.length=ops.size:=by simpa [me] using Tz
 have te:∀ i,i < ops.size→ ∃ h o,hs[i]? =some h∧ops[i]? =some o:=fun i au=>⟨hs[i]'(by omega),ops[i],by simp,by simp⟩
 have yR:∀ (i:Nat) (h:dN) (o:Oper),hs[i]? =some h→ops[i]? =some o→
  o.dst=h.slot∧ (∀ e∈o.after,Region.binds .any e=true→e.on < i)∧
  (∀ k∈h.up,Region.waitsFor .any ops i k=true∨ ∃ m,m < i∧Region.waitsFor .any ops i m=true∧ ∃ x,hs[m]? =some x∧k∈x.up)∧
  (∀ (k:Nat) (x:dN),hs[k]? =some x→ (k < i→ (∃ j∈x.wr,h.rd.contains j=true)→k∈h.up)∧ (i < k→ (∃ j∈x.wr,h.rd.contains j=true∨h.wr.contains j=true)→i∈x.up)):=by
  intro i h o au bh
  have cl:i < ops.size:=(Array.getElem?_eq_some_iff.1 bh).1
  have aa:=List.all_eq_true.1 k1 i (List.mem_range.2 cl)
  rw [Em au] at aa
  simp only [Bool.and_eq_true] at aa
  obtain⟨⟨ae,aD⟩,aZ⟩:=aa
  simp only [bh,Option.map_some,Option.getD_some,Bool.and_eq_true,Option.bind_some,beq_iff_eq] at ae
  refine⟨ae.1,fun e he hb=> ?_,fun k ax=> ?_,fun k x aq=> ?_⟩
  ·have:=Array.all_eq_true_iff_forall_mem.1 ae.2 e he
   simp [hb] at this
   exact this
  ·have:=List.all_eq_true.1 aD k ax
   simp only [Bool.or_eq_true,List.any_eq_true,Bool.and_eq_true,List.mem_range] at this
   rcases this with a6 | ⟨m,a6,bl,cZ⟩
   ·exact .inl a6
   ·have hm:m < hs.length:=by omega
    rw [Em (List.getElem?_eq_getElem hm)] at cZ
    exact .inr ⟨m,a6,bl,hs[m],List.getElem?_eq_getElem hm,by simpa using cZ⟩
  ·have F7:k < ops.size:=by have:=(List.getElem?_eq_some_iff.1 aq).1; omega
   have:=List.all_eq_true.1 aZ k (List.mem_range.2 F7)
   rw [Em aq] at this
   simp only [Bool.and_eq_true,Bool.or_eq_true,Bool.not_eq_true',Bool.and_eq_false_iff,decide_eq_false_iff_not,List.contains_iff_mem] at this
   refine⟨fun zK ⟨j,aG,aU⟩=> ?_,fun oE ⟨j,aG,aU⟩=> ?_⟩
   ·rcases this.1 with(a6 | a6) | a6
    ·exact absurd zK a6
    ·have:=List.any_eq_false.1 a6 j aG
     exact absurd aU this
    ·exact a6
   ·rcases this.2 with(a6 | a6) | a6
    ·exact absurd oE a6
    ·have:=List.any_eq_false.1 a6 j aG
     simp only [Bool.or_eq_true] at this
     exact absurd aU this
    ·exact a6
 have Fh:∀ (i j s:Nat) (x y:dN),hs[i]? =some x→hs[j]? =some y→x.slot=some s→y.slot=some s→i=j:=by
  have key:∀ (l:List dN),((me l).filterMap (·.1)).Nodup→ ∀ (i j s:Nat) (x y:dN),l[i]? =some x→l[j]? =some y→x.slot=some s→y.slot=some s→i=j:=by
   intro l
   induction l with
   | nil=>intro _ i j s x y h; simp at h
   | cons z r b0=>
     intro ij i j s x y au aG aq a9
     have aU:((me r).filterMap (·.1)).Nodup:=by
      cases eS:z.slot with
      | none=>simpa [me,eS] using ij
      | some w=>
        simp only [me,List.map_cons,List.filterMap_cons,eS] at ij
        exact(List.nodup_cons.1 ij).2
     have rC:z.slot=some s→ ∀ (q:Nat) (v:dN),r[q]? =some v→v.slot≠some s:=fun eS q v hq a2=>by
      simp only [me,List.map_cons,List.filterMap_cons,eS] at ij
      exact(List.nodup_cons.1 ij).1 (List.mem_filterMap.2 ⟨_,List.mem_map.2 ⟨v,List.mem_of_getElem? hq,rfl⟩,a2⟩)
     cases i with
     | zero=>
       simp only [List.getElem?_cons_zero,Option.some.injEq] at au
       subst au
       cases j with
       | zero=>rfl
       | succ j=>simp only [List.getElem?_cons_succ] at aG; exact absurd a9 (rC aq j y aG)
     | succ i=>
       simp only [List.getElem?_cons_succ] at au
       cases j with
       | zero=>
         simp only [List.getElem?_cons_zero,Option.some.injEq] at aG
         subst aG
         exact absurd aq (rC a9 i x au)
       | succ j=>simp only [List.getElem?_cons_succ] at aG; rw [b0 aU i j s x y au aG aq a9]
  exact key hs ij
 have TA:∀ (t:Nat) (τ:I),look E t=some τ→ ∀ (m:Nat) (h:dN),hs[m]? =some h→h.slot=some t→ ∀ k,k < ops.size→k≠m→k∈h.up:=by
  intro t τ an m h hm eZ k ax tI
  have oC:m < ops.size:=by have:=(List.getElem?_eq_some_iff.1 hm).1; omega
  have aa:=List.all_eq_true.1 L4 m (List.mem_range.2 oC)
  rw [show(me hs)[m]? =some (h.slot,h.up,h.rd,h.wr) by simp [me,hm],eZ] at aa
  have rE:t∈E.map (·.1):=by
   clear L4 aa ch cr hm eZ
   induction E with
   | nil=>simp [look] at an
   | cons x r b0=>
     obtain⟨s,σ⟩:=x
     simp only [look] at an
     by_cases e:Nat.beq s t=true
     ·have:=eO.1 e; subst this; simp
     ·simp only [Bool.not_eq_true] at e
      rw [e] at an
      simp only [List.map_cons,List.mem_cons]
      exact .inr (b0 an)
  replace aa:(!(E.map (·.1)).contains t || (List.range ops.size).all fun k=>decide (k=m) || h.up.contains k)=true:=aa
  rw [show(E.map (·.1)).contains t=true by simpa using rE] at aa
  have ae:∀ x,x < ops.size→x=m∨x∈h.up:=by simpa using aa
  exact(ae k ax).resolve_left tI
 have Cz:∀ (bO:Array Bool),HeadInv .any ops ops.size bO→ ∀ (d i:Nat),i≤d→ ∀ (h:dN) (o:Oper),hs[i]? =some h→ops[i]? =some o→ (∀ e∈o.after,Region.binds .any e=true→bO.getD e.on false=true)→ ∀ k∈h.up,bO.getD k false=true:=by
  intro bO inv d
  induction d with
  | zero=>
    intro i au h o ed tJ hw k ax
    rcases (yR i h o ed tJ).2.2.1 k ax with aa | ⟨m,hm,_⟩
    ·obtain⟨nX,lE,e,he,hb,oG⟩:=Region.waitsFor_spec aa
     rw [tJ] at lE; cases lE
     rw [← oG]; exact hw e he hb
    ·omega
  | succ d b0=>
    intro i au h o ed tJ hw k ax
    rcases (yR i h o ed tJ).2.2.1 k ax with aa | ⟨m,hm,aa,x,aq,VS⟩
    ·obtain⟨nX,lE,e,he,hb,oG⟩:=Region.waitsFor_spec aa
     rw [tJ] at lE; cases lE
     rw [← oG]; exact hw e he hb
    ·obtain⟨nX,lE,e,he,hb,oG⟩:=Region.waitsFor_spec aa
     rw [tJ] at lE; cases lE
     have oC:=hw e he hb
     rw [oG] at oC
     obtain⟨aS,Ad,Xj,zL⟩:=te m (by have:=(Array.getElem?_eq_some_iff.1 tJ).1; omega)
     exact b0 m (by omega) x Ad aq zL (fun e he hb=>inv.closed m Ad zL oC e he hb) k VS
 have pe:∀ (bO:Array Bool) (hd:Nat→Hid) (a:Act) (W:World),(∀ i,i < ops.size→bO.getD i true=true)→HeadInv .any ops ops.size bO→
  bC c (iU (fun i=>bO.getD i false) hd E 0 hs) (hZ (fun i=>bO.getD i false) hd 0 hs L) a W→Region.ready .any ops bO= []∧Q .normal a W:=by
  intro bO hd a W Li inv st
  refine⟨?_,?_⟩
  ·refine List.eq_nil_iff_forall_not_mem.2 fun i au=> ?_
   obtain⟨aa,o,bh,_⟩:=mem_ready.1 au
   rw [Li i (Array.getElem?_eq_some_iff.1 bh).1] at aa
   cases aa
  ·have an:∀ m,m < hs.length→bO.getD (0 + m) false=true:=fun m hm=>by
    have aa:=Li m (by omega)
    have ae:m < bO.size:=by rw [inv.size]; omega
    simpa [ae] using aa
   rw [Ix (ls':=fun _=>true) an,Ji (ls':=fun _=>true) an] at st
   exact cr hd a W st
 intro m
 induction m with
 | zero=>
   intro bO hd a W hm inv st
   refine pe bO hd a W (fun i au=> ?_) inv st
   cases h:bO.getD i true with
   | true=>rfl
   | false=>
     have:i∈ (List.range ops.size).filter fun i=> !bO.getD i true:=List.mem_filter.2 ⟨List.mem_range.2 au,by rw [h]; rfl⟩
     rw [List.length_eq_zero_iff.1 (Nat.le_zero.1 hm)] at this
     cases this
 | succ m b0=>
   intro bO hd a W hm inv st
   refine⟨fun bT=> ?_,fun i au=> ?_⟩
   ·refine(pe bO hd a W (fun i au=> ?_) inv st).2
    have key:∀ d i,i≤d→i < ops.size→bO.getD i true=true:=by
     intro d
     induction d with
     | zero=>
       intro i F2 au
       cases an:bO.getD i true with
       | true=>rfl
       | false=>
         obtain⟨h,o,ed,bh⟩:=te i au
         have:i∈Region.ready .any ops bO:=mem_ready.2 ⟨an,o,bh,fun e he hb=>by have:=(yR i h o ed bh).2.1 e he hb; omega⟩
         rw [bT] at this; cases this
     | succ d VT=>
       intro i F2 au
       cases an:bO.getD i true with
       | true=>rfl
       | false=>
         obtain⟨h,o,ed,bh⟩:=te i au
         have:i∈Region.ready .any ops bO:=mem_ready.2 ⟨an,o,bh,fun e he hb=>by
          have aa:=(yR i h o ed bh).2.1 e he hb
          have ae:=VT e.on (by omega) (by omega)
          have aD:e.on < bO.size:=by rw [inv.size]; omega
          simpa [aD] using ae⟩
         rw [bT] at this; cases this
    exact key i i (Nat.le_refl _) au
   ·obtain⟨oF,o,bh,q7⟩:=mem_ready.1 au
    have fc:i < ops.size:=(Array.getElem?_eq_some_iff.1 bh).1
    obtain⟨h,_,ed,_⟩:=te i fc
    have l0:bO.getD i false=false:=getD_both oF
    have B7:i < bO.size:=by rw [inv.size]; omega
    have tb:((List.range ops.size).filter fun j=> !(bO.setIfInBounds i true).getD j true).length≤m:=by
     have:((List.range ops.size).filter fun j=> !(bO.setIfInBounds i true).getD j true).length < ((List.range ops.size).filter fun j=> !bO.getD j true).length:=by
      refine Kk (fun j=> !bO.getD j true) (fun j=> !(bO.setIfInBounds i true).getD j true) i (by simp only [oF]; rfl) ?_ (fun j aG=> ?_) ops.size fc
      ·simp [B7]
      ·by_cases e:i=j
       ·subst e; simp only [oF]; rfl
       ·rw [getD_set_ne true e] at aG; exact aG
     omega
    have tc:=inv.set au fc
    obtain⟨Cb,Bv,W0,zl⟩:=yR i h o ed bh
    have L5:=Cz bO inv i i (Nat.le_refl _) h o ed bh q7
    have Kn:∀ (k:Nat) (x:dN),hs[k]? =some x→i < k→ (∃ j∈x.wr,h.rd.contains j=true∨h.wr.contains j=true)→bO.getD k false=false:=fun k x aq oE aG=>by
     have aa:=(zl k x aq).2 oE aG
     cases ax:bO.getD k false with
     | false=>rfl
     | true=>
       obtain⟨_,ok,_,hy⟩:=te k (by have:=(List.getElem?_eq_some_iff.1 aq).1; omega)
       have:=Cz bO inv k k (Nat.le_refl _) x ok aq hy (fun e he hb=>inv.closed k ok hy ax e he hb) i aa
       rw [l0] at this; cases this
    have Ko:hs=hs.take i ++ h :: hs.drop (i + 1):=by
     have VU:i < hs.length:=by omega
     rw [List.getElem?_eq_getElem VU] at ed
     cases ed
     rw [List.getElem_cons_drop]
     exact(List.take_append_drop i hs).symm
    have MD:(hs.take i).length=i:=by rw [List.length_take]; omega
    have zI:∀ (t:Nat) (τ:I),look E t=some τ→ ∀ (m:Nat) (x:dN),hs[m]? =some x→bO.getD (0 + m) false=true→x.slot≠some t:=fun t τ an m x aq zM eZ=>by
     rw [Nat.zero_add] at zM
     have Gj:i≠m:=fun e=>by subst e; rw [l0] at zM; cases zM
     obtain⟨_,Ad,_,zL⟩:=te m (by have:=(List.getElem?_eq_some_iff.1 aq).1; omega)
     have:=Cz bO inv m m (Nat.le_refl _) x Ad aq zL (fun e he hb=>inv.closed m Ad zL zM e he hb) i (TA t τ an m x aq eZ i fc Gj)
     rw [l0] at this; cases this
    have Lj:=(pP.get ch i h o ed (by rw [Array.getElem?_toList]; exact bh))
    rw [Nat.zero_add] at Lj
    have VV:=Lj hd (iU (fun i=>bO.getD i false) hd E 0 hs) (hZ (fun i=>bO.getD i false) hd 0 hs L) (fun t τ an=> ?_) (fun j e aG aU=> ?_) (En hw)
    ·have hw:=H8 (K:=fun a W=> ∃ x,bC c (qe h.slot (h.τ (gN h.up i (ld hd i x))) (iU (fun i=>bO.getD i false) hd E 0 hs)) (l3 (hZ (fun i=>bO.getD i false) hd 0 hs L) (h.fo (gN h.up i (ld hd i x))) h.wr) a W) bh (VV a W st)
     refine wpOpIn_mono (fun iE W' ⟨x,oJ⟩=> ?_) hw
     have ME:∀ j,j≠i→ld hd i x j=hd j:=fun j aG=>by
      have:Nat.beq j i=false:=by
       cases hb:Nat.beq j i
       ·rfl
       ·exact absurd (eO.1 hb) aG
      simp only [ld,this,cond_false]
     have Gk:∀ (j:Nat) (y:dN),hs[j]? =some y→bO.getD j false=true→gN y.up j (ld hd i x)=gN y.up j hd:=fun j y a9 aG=>by
      obtain⟨_,nX,_,lE⟩:=te j (by have:=(List.getElem?_eq_some_iff.1 a9).1; omega)
      refine P9 (ME j fun e=>by subst e; rw [l0] at aG; cases aG) fun k ax=>ME k fun e=> ?_
      have:=Cz bO inv j j (Nat.le_refl _) y nX a9 lE (fun e he hb=>inv.closed j nX lE aG e he hb) k ax
      subst e
      rw [l0] at this; cases this
     have MF:(bO.setIfInBounds i true).getD i false=true:=by simp [B7]
     have hv:∀ j,j≠i→ (bO.setIfInBounds i true).getD j false=bO.getD j false:=fun j aG=>getD_set_ne false (fun e=>aG e.symm)
     refine b0 _ (ld hd i x) iE W' tb tc ?_
     have U5:hZ (fun j=>(bO.setIfInBounds i true).getD j false) (ld hd i x) 0 hs L=l3 (hZ (fun i=>bO.getD i false) hd 0 hs L) (h.fo (gN h.up i (ld hd i x))) h.wr:=by
      apply List.ext_getElem?
      intro j
      rw [Bw,DW,Bw]
      by_cases aG:h.wr.contains j=true
      ·rw [if_pos aG]
       have av:∀ (ls:Nat→Bool) (g:Nat→Hid) (v:Option aL),(∀ k x,hs[k]? =some x→i < k→x.wr.contains j=true→ls k=false)→kK ls g j 0 hs v=(bif ls i then(kK ls g j 0 (hs.take i) v).map (fun _=>h.fo (gN h.up i g) j) else kK ls g j 0 (hs.take i) v):=fun ls g v Gg=>by
        conv=>lhs; rw [Ko]
        rw [Dw,MD,Nat.zero_add,kK,aG,Bool.and_true,DN]
        intro k x aq hw
        rw [List.getElem?_drop] at aq
        exact Gg (i + 1 + k) x aq (by omega) hw
       have gM:∀ k x,hs[k]? =some x→i < k→x.wr.contains j=true→bO.getD k false=false:=fun k x aq oE hw=>Kn k x aq oE ⟨j,by simpa using hw,.inr aG⟩
       rw [av (fun j=>(bO.setIfInBounds i true).getD j false) (ld hd i x) _ (fun k x aq oE hw=>by rw [hv k (by omega)]; exact gM k x aq oE hw),av (fun j=>bO.getD j false) hd _ gM]
       simp only [MF,l0,cond_true,cond_false]
       rw [A8 (ls':=fun j=>bO.getD j false) (hd':=hd) fun q x aq _=>by
        have hq:q < i:=by have:=(List.getElem?_eq_some_iff.1 aq).1; omega
        rw [List.getElem?_take,if_pos hq] at aq
        rw [Nat.zero_add]
        exact⟨hv q (by omega),fun an=>Gk q x aq (by rw [hv q (by omega)] at an; exact an)⟩]
      ·rw [if_neg aG]
       refine A8 fun q x aq hw=> ?_
       rw [Nat.zero_add]
       have hq:q≠i:=fun e=>by subst e; rw [ed] at aq; cases aq; exact aG hw
       exact⟨hv q hq,fun an=>Gk q x aq (by rw [hv q hq] at an; exact an)⟩
     rw [U5]
     refine oJ.less fun t τ an=> ?_
     rcases Jg an with⟨j,y,aa,ae,aD,aZ⟩ | ⟨aa,gM⟩
     ·rw [Nat.zero_add] at ae aZ
      by_cases iD:j=i
      ·subst iD
       rw [ed] at aa
       cases aa
       exact⟨τ,by rw [aD,aZ]; simp [qe,look,Nat.beq_refl],fun _ _ _ h=>h⟩
      ·rw [hv j iD] at ae
       rw [Gk j y aa ae] at aZ
       have a6:=DX (ls:=fun i=>bO.getD i false) (hd:=hd) (E:=E) (k:=0) aa (by rw [Nat.zero_add]; exact ae) aD fun q z hq eS=>Fh q j t z y hq aa eS aD
       rw [Nat.zero_add,← aZ] at a6
       refine⟨τ,?_,fun _ _ _ h=>h⟩
       cases zy:h.slot with
       | none=>exact a6
       | some s=>
         have dn:Nat.beq s t=false:=by
          cases hb:Nat.beq s t
          ·rfl
          ·have:=eO.1 hb; subst this
           exact absurd (Fh j i s y h aa ed aD zy) iD
         simp only [qe,look,dn,cond_false]
         exact a6
     ·have hb:=zI t τ aa
      have a6:=DO (ls:=fun i=>bO.getD i false) (hd:=hd) (E:=E) (k:=0) hb
      refine⟨τ,?_,fun _ _ _ h=>h⟩
      cases zy:h.slot with
      | none=>simp only [qe]; rw [a6]; exact aa
      | some s=>
        have dn:Nat.beq s t=false:=by
         cases ql:Nat.beq s t
         ·rfl
         ·have:=eO.1 ql; subst this
          exact absurd zy (gM i h ed (by rw [Nat.zero_add]; exact MF))
        simp only [qe,look,dn,cond_false]
        rw [a6]; exact aa
    ·rcases JP an with⟨j,aG,y,aa,ae,aD⟩ | aa
     ·have a6:=DX (ls:=fun i=>bO.getD i false) (hd:=hd) (E:=E) (k:=0) aa (by rw [Nat.zero_add]; exact L5 j aG) ae fun q z hq eS=>Fh q j t z y hq aa eS ae
      rw [Nat.zero_add,← aD] at a6
      exact a6
     ·rw [DO (zI t τ aa)]; exact aa
    ·rw [Bw] at aG ⊢
     rw [← aG]
     conv=>lhs; rw [Ko]
     rw [Dw,DN]
     ·refine A8 fun q x aq hw=> ?_
      rw [Nat.zero_add]
      have hq:q < i:=by have:=(List.getElem?_eq_some_iff.1 aq).1; omega
      rw [List.getElem?_take,if_pos hq] at aq
      exact⟨L5 q ((zl q x aq).1 hq ⟨j,by simpa using hw,aU⟩),fun _=>rfl⟩
     ·intro q x aq hw
      rw [MD,Nat.zero_add]
      cases q with
      | zero=>exact l0
      | succ q=>
        simp only [List.getElem?_cons_succ] at aq
        rw [List.getElem?_drop] at aq
        exact Kn (i + (q + 1)) x (by rw [← aq]; congr 1; omega) (by omega) ⟨j,by simpa using hw,.inl aU⟩
theorem ag.Kp {np:Nat} {qq:Nat} {l:List Oper} (hm:c.P.follows .mixedOrders=true) (hs:List dN) (ds:List (Option Nat × List Nat × List Nat × List Nat)) (es:List Nat) (ht:me hs=ds) (zN:E.map (·.1)=es) (iF:Gv.jV l.toArray ds es=true) (hw:∀ h∈hs,∀ j∈h.wr,j < np∨L.length≤j)
 (ch:pP c l.toArray Q hs E L np 0 l hs) (cr:∀ hd,ab c Q .normal (iU (fun _=>true) hd E 0 hs) (hZ (fun _=>true) hd 0 hs L)):ag c Q (.region qq l.toArray true) E L:=fun a W s=>by
 subst ht zN
 refine wpIn_region_any hm ?_
 have FG:HeadInv .any l.toArray l.toArray.size (Array.replicate l.toArray.size false):=
  {size:=by simp
   closed:=fun j nX _ an=>by rw [getD_replicate_false] at an; cases an
   tail:=fun t aa ae=>by omega }
 refine Px hw (ops:=l.toArray) (Q:=Q) iF (by simpa using ch) cr l.toArray.size (Array.replicate l.toArray.size false) (fun _ _=>none) a W.drew (Nat.le_trans (List.length_filter_le _ _) (by simp)) FG ?_
 have aa:∀ (hs:List dN) (k:Nat),iU (fun i=>(Array.replicate l.toArray.size false).getD i false) (fun _ _=>none) E k hs=E:=by
  intro hs
  induction hs with
  | nil=>intro k; rfl
  | cons h r b0=>
    intro k
    have ae:=b0 (k + 1)
    simp only [getD_replicate_false] at ae
    unfold iU
    simp only [getD_replicate_false]
    exact ae
 have ae:∀ (hs:List dN) (k:Nat) (L:List aL),hZ (fun i=>(Array.replicate l.toArray.size false).getD i false) (fun _ _=>none) k hs L=L:=by
  intro hs
  induction hs with
  | nil=>intro k L; rfl
  | cons h r b0=>intro k L; rw [hZ,b0]; simp only [getD_replicate_false,cond_false]
 rw [aa,ae]
 exact s.world (Fr.drew W)
theorem ag.jV {qq:Nat} {l:List Oper} (hm:c.P.follows .mixedOrders=true) (hs:List dN) (ds:List (Option Nat × List Nat × List Nat × List Nat)) (es:List Nat) (ht:me hs=ds) (zN:E.map (·.1)=es) (iF:Gv.jV l.toArray ds es=true)
 (ch:rj c l.toArray Q hs E L 0 l hs) (cr:∀ hd,ab c Q .normal (iU (fun _=>true) hd E 0 hs) (hZ (fun _=>true) hd 0 hs L)):ag c Q (.region qq l.toArray true) E L:=
 ag.Kp (np:=L.length) hm hs ds es ht zN iF (fun _ _ j _=>by omega) ch.MC cr
theorem TB {hs:List dN} {ds:List (Option Nat × List Nat × List Nat × List Nat)} {np:Nat} (ht:me hs=ds) (h:(ds.all fun d=>d.2.2.2.all fun j=>Nat.blt j np)=true):∀ h∈hs,∀ j∈h.wr,j < np∨L.length≤j:=fun x aq j aG=>by
 subst ht
 have aa:=List.all_eq_true.1 h (x.slot,x.up,x.rd,x.wr) (List.mem_map.2 ⟨x,aq,rfl⟩)
 have ae:=List.all_eq_true.1 aa j aG
 exact .inl (Nat.blt_eq.mp ae)
theorem ag.pY {qq:Nat} {l:List Oper} (np:Nat) (hm:c.P.follows .mixedOrders=true) (hs:List dN) (ds:List (Option Nat × List Nat × List Nat × List Nat)) (es:List Nat) (ht:me hs=ds) (zN:E.map (·.1)=es) (iF:Gv.jV l.toArray ds es=true) (hw:(ds.all fun d=>d.2.2.2.all fun j=>Nat.blt j np)=true)
 (ch:pP c l.toArray Q hs E L np 0 l hs) (cr:∀ hd,ab c Q .normal (iU (fun _=>true) hd E 0 hs) (hZ (fun _=>true) hd 0 hs L)):ag c Q (.region qq l.toArray true) E L:=
 ag.Kp hm hs ds es ht zN iF (TB ht hw) ch cr
theorem ab.fin {slot:Option Nat} {up wr:List Nat} {i:Nat} {hd:Nat→Hid} {τ:(Nat→Hid)→I} {fo:(Nat→Hid)→Nat→aL} {E' Ae:List (Nat × I)} {L' L2:List aL} (x:Hid) (aE:Ae=qe slot (τ (gN up i (ld hd i x))) E') (ao:L2=l3 L' (fo (gN up i (ld hd i x))) wr):
 ab c (r4 (fun a W=> ∃ x,bC c (qe slot (τ (gN up i (ld hd i x))) E') (l3 L' (fo (gN up i (ld hd i x))) wr) a W) Q) .normal Ae L2:=fun a W s=>by
 subst aE ao
 exact⟨x,s⟩
theorem ab.place {z:Exit} {e:aL} (j:Nat) (aG:L[j]? =some ⟨none,.dead⟩) (k:ab c Q z E (L.set j e)):ab c Q z E (e :: L):=fun a W s=>by
 refine k a W (s.sub (fun x aq=> ?_) ?_)
 ·rcases List.mem_or_eq_of_mem_set aq with h | h
  ·exact List.mem_cons.2 (.inr h)
  ·exact List.mem_cons.2 (.inl h)
 ·have aa:=qX aG
  have ae:(L.set j e).Perm (e :: L.eraseIdx j):=by
   have aD:(L.set j e)[j]? =some e:=by rw [List.getElem?_set_self (List.getElem?_eq_some_iff.1 aG).1]
   have aZ:=qX aD
   rwa [List.eraseIdx_set_eq] at aZ
  have a6:=sz (aa.cons e)
  have bl:aN (e :: ⟨none,.dead⟩ :: L.eraseIdx j)=aN (e :: L.eraseIdx j):=by cases ax:e.key <;> simp [aN,ax]
  rw [bl] at a6
  exact(sz ae).nodup_iff.2 (a6.nodup_iff.1 s.nodup)
theorem ab.back {z:Exit} {e iH:aL} (j:Nat) (aG:L[j]? =some iH) (k:ab c Q z E (L.set j e)):ab c Q z E (e :: L.eraseIdx j):=fun a W s=>by
 have aD:(L.set j e)[j]? =some e:=by rw [List.getElem?_set_self (List.getElem?_eq_some_iff.1 aG).1]
 have aZ:=qX aD
 rw [List.eraseIdx_set_eq] at aZ
 exact k a W (s.perm aZ.symm)
theorem ag.p7 {z:Code} (n:Nat) (k:ag c Q z E (L ++ List.replicate n ⟨none,.dead⟩)):ag c Q z E L:=fun a W s=>by
 refine k a W ?_
 have ax:aN (L ++ List.replicate n ⟨none,.dead⟩)=aN L:=by
  rw [eH]
  have:∀ n,aN (List.replicate n (⟨none,.dead⟩:aL))= []:=fun n=>by
   induction n with
   | zero=>rfl
   | succ n b0=>rw [List.replicate_succ]; simp [aN,b0]
  rw [this,List.append_nil]
 exact
 {defers:=s.defers
  size:=s.size
  env:=fun t τ an=>by rw [ax]; exact s.env t τ an
  dm:=s.dm
  own:=fun e he=>by
   rw [ax]
   rcases List.mem_append.1 he with he | he
   ·exact s.own e he
   ·rw [(List.mem_replicate.1 he).2]; trivial
  nodup:=by rw [ax]; exact s.nodup
  lt:=by rw [ax]; exact s.lt
  fI:=by rw [ax]; exact s.fI
  eB:=by rw [ax]; exact s.eB }
theorem ag.Ts {z:Code} (n m:Nat) (k:ag c Q z E (L.take m ++ (List.replicate n ⟨none,.dead⟩ ++ L.drop m))):ag c Q z E L:=by
 refine ag.p7 n fun a W s=>k a W (s.perm ?_)
 have e:L=L.take m ++ L.drop m:=(List.take_append_drop m L).symm
 conv=>lhs; rw [e]
 rw [List.append_assoc]
 exact List.perm_append_comm.append_left _
theorem ab.en {z:Exit} {L2:List aL} (h:L=L2) (k:ab c Q z E L2):ab c Q z E L:=by subst h; exact k
theorem ab.nO {z:Exit} {key:Option Nat} {n m cap:Nat} (eT:Nat) (an:look E eT=some (.eq (aV key n cap))) (aP:n=m) (k:ab c Q z ((eT,.eq (aV key m cap)) :: E) L):ab c Q z E L:=fun a W s=>by
 subst aP
 refine k a W (s.less fun t τ h=> ?_)
 simp only [look] at h
 by_cases e:Nat.beq eT t=true
 ·rw [e] at h
  simp only [cond_true] at h
  have:=eO.1 e
  subst this
  exact⟨τ,by rw [an,h],fun _ _ _ h=>h⟩
 ·simp only [Bool.not_eq_true] at e
  rw [e] at h
  exact⟨τ,h,fun _ _ _ h=>h⟩
variable {hs:List dN} {i d:Nat} {up rd:List Nat} {fo:(Nat→Hid)→Nat→aL} {o:Oper}
theorem ji {τ:I} (bx:o.guard=none) (hd:o.dst=some d) (aP:Nat.blt d c.n=true)
 (h:∀ (hd:Nat→Hid) (E':List (Nat × I)) (L':List aL),(∀ t τ,look (lF hd hs E up) t=some τ→look E' t=some τ)→ (∀ j e,(hZ (fun _=>true) hd 0 (hs.take i) L)[j]? =some e→rd.contains j=true→L'[j]? =some e)→bY c E' L' o τ):
 cR c ops Q hs E L i o ⟨some d,up,rd,[],fun _=>τ,fo⟩:=fun VW E' L' aE ao=>
 ai.v (h VW E' L' aE ao) bx hd aP (ai.nil (ab.fin (fun _=>none) rfl rfl))
variable {ty t:TypeId} {pos:String} {af:Array Edge}
theorem ai.LN {α:Type} [ah α] {rest:List Oper} {a4 e n:Nat} {z:α} {r0 r:List α} {bf:List (Nat × Operand)} (hu:c.P.underlying t=some (.slice e)) (fh:bq c.P e α) (gr:cE c.P e z) (hs:Nat.beq (ah.size α) 0=false) (aP:Nat.ble (n * ah.size α) 16777216=true)
 (ba:mD c E L (List.replicate n z) bf r0) (aU:r0=r) (kA:Nat.blt a4 c.n=true) (k:∀ p,ai c ops Q rest ((a4,.eq (aV p r.length n)) :: E) (⟨p,.row e r n⟩ :: L)):
 ai c ops Q (⟨some a4,.buildSlice t n bf.toArray,ty,pos,af,none⟩ :: rest) E L:=by subst aU; exact ai.pf hu fh gr hs aP ba kA k
variable {g:Option (Nat × Bool)} {x y:Operand}
theorem Qv {a b:BitVec 64} {a4:Option Tmp} {ats:Array TypeId} (aq:a7 c E L x (.of a)) (a9:a7 c E L y (.of b)):bY c E L ⟨a4,.call ⟨.builtin .min,#[x,y],ats⟩,ty,pos,af,g⟩ (.of (ta a b)):= .pure fun A W s=>
 ⟨.int .u64 (ta a b).toNat,by
   simp [execOp,resolve,invoke,builtin,Builtin.min_,Builtin.min2,fF.1 (aq A W s),fF.1 (a9 A W s)]
   unfold ta
   split <;> split <;> first | rfl | (rename_i aa ae; simp only [BitVec.le_def] at *; omega),fF.2 rfl⟩
end
end Gv
namespace Gv
open Go
set_option linter.unusedVariables false
set_option linter.unusedSimpArgs false
section
variable {c:cY} {E:List (Nat × I)} {L:List aL} {ops:Array Oper} {Q:Exit→Act→World→Prop}
variable {d:Option Tmp} {ty:TypeId} {pos:String} {af:Array Edge} {g:Option (Nat × Bool)} {x y:Operand} {t t2:TypeId}
def Src (c:cY) (E:List (Nat × I)) (L:List aL) (y:Operand) (N:Nat) {α:Type} [ah α] (vs:List α):Prop:=
 ∀ a W,bC c E L a W→ (Builtin.lenOf (a.eval y)).run c.P W= .ok N W∧ ∃ cells:List Value,(Builtin.firstCells (ah.size α) vs.length (a.eval y)).run c.P W= .ok cells.toArray W∧fW (aN L ++ c.bP) W cells vs∧ ∀ v∈cells,v.oneCell'=true
theorem ai.BR {rest:List Oper} {i e p off a4 dLen dCap N T:Nat} {cp cp':dx} {α:Type} [ah α] {vs:List α} (hu:c.P.underlying t=some (.slice e)) (fh:bq c.P e α)
 (aq:a7 c E L x (.eq (.slice (some ⟨p,off,none⟩) dLen dCap))) (a9:Src c E L y N vs) (FF:Nat.min N dLen=vs.length) (ao:L[i]? =some ⟨some p,cp⟩) (aP:Nat.blt a4 c.n=true)
 (v8:∀ A W o cells,cp.holds A W o→fW A W cells vs→ ∃ cs,o= .cells cs T (0,0)∧off + cells.length≤cs.size∧cp'.holds A W (.cells (cs.toList.take off ++ cells ++ cs.toList.drop (off + cells.length)).toArray T (0,0)))
 (k:ai c ops Q rest ((a4,.of (vs.length:Int)) :: E) (L.set i ⟨some p,cp'⟩)):
 ai c ops Q (⟨some a4,.call ⟨.builtin .copy,#[x,y],#[t,t2]⟩,ty,pos,af,none⟩ :: rest) E L:=fun a W s=>by
 have kA:a4 < c.n:=by simpa using aP
 have aa:a.eval x=_:=aq a W s
 obtain⟨an,cells,ar,aU,Cv⟩:=a9 a W s
 obtain⟨o,bh,ch⟩:=s.own _ (List.mem_of_getElem? ao)
 obtain⟨cs,rfl,L1,zi⟩:=v8 _ _ _ _ ch aU
 obtain⟨gP,eo,eK⟩:=fh.info
 have kr:=run_storeCells_at (P:=c.P) p off T cells 0 cs W bh (by omega) Cv
 simp only [Nat.add_zero] at kr
 have kk:(execOp a.eval ⟨some a4,.call ⟨.builtin .copy,#[x,y],#[t,t2]⟩,ty,pos,af,none⟩).run c.P W= .ok (.value (goInt vs.length)) (W.setRow p (cs.toList.take off ++ cells ++ cs.toList.drop (off + cells.length)).toArray):=by
  simp [execOp,resolve,invoke,builtin,Builtin.copy_,aa,run_underlying hu,an,FF,Go.sizeOf,typeInfo,eo,eK,ar,kr]
 refine hI rfl (R:=fun v g6=>v=goInt vs.length∧g6=W.setRow p (cs.toList.take off ++ cells ++ cs.toList.drop (off + cells.length)).toArray) (.lq kk ⟨rfl,rfl⟩) fun v g6 ⟨a2,hw⟩=> ?_
 subst a2
 subst hw
 exact k _ _ ((s.store ao bh zi).put kA (of_int.2 rfl))
theorem Eh {i T cap lo N k:Nat} {key:Option Nat} {α:Type} [ah α] {xs:List α} (a9:a7 c E L y (.eq (ie key lo N cap (ah.size α)))) (ao:L[i]? =some ⟨key,.row T xs cap⟩) (ax:0 < k) (hv:lo + k≤xs.length):
 Src c E L y N ((xs.drop lo).take k):=fun a W s=>by
 obtain⟨p,cs,rfl,dZ,aw,a5,bA,cD⟩:=s.rowAt ao (by omega)
 have aa:a.eval y=_:=a9 a W s
 have lb:cap≠lo:=by omega
 have a2:a.eval y= .slice (some ⟨p,lo * ah.size α,none⟩) N (cap - lo):=by rw [aa]; simp [ie,lb]
 have hlen:((xs.drop lo).take k).length=k:=by rw [List.length_take,List.length_drop]; omega
 have qs:cs.toList.length=cap * ah.size α:=by simpa using aw
 have U6:(lo + k) * ah.size α≤xs.length * ah.size α:=Nat.mul_le_mul_right _ hv
 have Cc:xs.length * ah.size α≤cap * ah.size α:=Nat.mul_le_mul_right _ a5
 rw [Nat.add_mul] at U6
 have L6:((cs.toList.drop (lo * ah.size α)).take (k * ah.size α)).length=k * ah.size α:=by rw [List.length_take,List.length_drop]; omega
 have fw:fW (aN L ++ c.bP) W ((cs.toList.drop (lo * ah.size α)).take (k * ah.size α)) ((xs.drop lo).take k):=by
  refine⟨by rw [L6,hlen],fun j aG=> ?_⟩
  rw [hlen] at aG
  have a6:=cD.2 (lo + j) (by omega)
  have fc:=ve (s:=ah.size α) aG
  have W5:=ve (s:=ah.size α) (show lo + j < xs.length by omega)
  rw [List.drop_take,List.take_take,Nat.min_eq_left (by omega)] at a6
  rw [List.drop_take,List.take_take,Nat.min_eq_left (by omega),List.drop_drop,← Nat.add_mul]
  simpa using a6
 have gl:=run_loadCells_list (P:=c.P) W ⟨p,lo * ah.size α,none⟩ ((cs.toList.drop (lo * ah.size α)).take (k * ah.size α)) fun j v a2=>by
  rw [iN,cell_of_row W p _ cs T (0,0) dZ]
  rw [List.getElem?_take] at a2
  split at a2
  ·rw [List.getElem?_drop] at a2; simpa using a2
  ·cases a2
 rw [L6] at gl
 refine⟨by rw [a2]; rfl,(cs.toList.drop (lo * ah.size α)).take (k * ah.size α),?_,fw,fw.one⟩
 rw [a2]
 simp only [Builtin.firstCells]
 rw [hlen]
 exact gl
theorem Eg {p lo n cap size:Nat} (h:cap≠lo):ie (some p) lo n cap size=Value.slice (some ⟨p,lo * size,none⟩) n (cap - lo):=by simp [ie,h]
theorem JH {i T cap:Nat} {key:Option Nat} {α:Type} [ah α] {xs:List α} (a9:a7 c E L y (.eq (aV key xs.length cap))) (ao:L[i]? =some ⟨key,.row T xs cap⟩) (aq:0 < xs.length):Src c E L y xs.length xs:=by
 have:=Eh (lo:=0) (k:=xs.length) (N:=xs.length) (by rw [A9]; exact a9) ao aq (by omega)
 simpa using this
theorem Bt {key:Option Nat} {n cap size:Nat} (h:a7 c E L x (.eq (ie key 0 n cap size))):a7 c E L x (.eq (aV key n cap)):=by rw [← A9 (size:=size)]; exact h
theorem EI {p lo n cap size:Nat} (ar:cap≠lo) (h:a7 c E L x (.eq (ie (some p) lo n cap size))):a7 c E L x (.eq (.slice (some ⟨p,lo * size,none⟩) n (cap - lo))):=by rw [← Eg ar]; exact h
def dx.zu {α:Type} [ah α] (T:TypeId) (xs:List α) (i m cap:Nat):dx where
 holds A W o:= ∃ cs,o= .cells cs T (0,0)∧cs.size=cap * ah.size α∧xs.length + m≤cap∧cap≤maxLen∧fW A W (cs.toList.take (i * ah.size α)) (xs.take i)∧
  fW A W ((cs.toList.drop ((i + m) * ah.size α)).take ((xs.length - i) * ah.size α)) (xs.drop i)
 mI:=False
 mono e h:=let⟨cs,aa,ae,aD,aZ,a6,bl⟩:=h; ⟨cs,aa,ae,aD,aZ,a6.mono e,bl.mono e⟩
theorem Q5 {α:Type} [ah α] {T i m cap:Nat} {xs:List α} (au:i≤xs.length) (hm:xs.length + m≤cap) {A W o cells} (h:(dx.row T xs cap).holds A W o) (ar:fW A W cells (xs.drop i)):
 ∃ cs,o= .cells cs T (0,0)∧ (i + m) * ah.size α + cells.length≤cs.size∧ (dx.zu T xs i m cap).holds A W (.cells (cs.toList.take ((i + m) * ah.size α) ++ cells ++ cs.toList.drop ((i + m) * ah.size α + cells.length)).toArray T (0,0)):=by
 obtain⟨cs,rfl,aw,a5,bA,cD⟩:=h
 have qs:cs.toList.length=cap * ah.size α:=by simpa using aw
 have lb:cells.length=(xs.length - i) * ah.size α:=by rw [ar.1,List.length_drop]
 have av:(i + m) * ah.size α + (xs.length - i) * ah.size α=(xs.length + m) * ah.size α:=by rw [← Nat.add_mul]; congr 1; omega
 have aX:(xs.length + m) * ah.size α≤cap * ah.size α:=Nat.mul_le_mul_right _ hm
 have dk:i * ah.size α≤ (i + m) * ah.size α:=Nat.mul_le_mul_right _ (by omega)
 have gz:i * ah.size α≤xs.length * ah.size α:=Nat.mul_le_mul_right _ au
 have hN:(cs.toList.take ((i + m) * ah.size α)).length=(i + m) * ah.size α:=by rw [List.length_take]; omega
 refine⟨cs,rfl,by omega,_,rfl,?_,hm,bA,?_,?_⟩
 ·simp only [List.size_toArray,List.length_append,List.length_take,List.length_drop]; omega
 ·rw [List.toList_toArray,List.append_assoc,List.take_append_of_le_length (by rw [hN]; omega),List.take_take,Nat.min_eq_left dk]
  have:=Je au (⟨cs,rfl,aw,a5,bA,cD⟩:(dx.row T xs cap).holds A W (.cells cs T (0,0)))
  obtain⟨VX,aa,_,_,_,a6⟩:=this
  cases aa
  rwa [List.length_take,Nat.min_eq_left au] at a6
 ·rw [List.toList_toArray,List.append_assoc,List.drop_left' hN,← lb,List.take_left]
  exact ar
theorem Qt {α:Type} [ah α] {T i cap:Nat} {xs vs:List α} (au:i≤xs.length) {A W o cells} (h:(dx.zu T xs i vs.length cap).holds A W o) (ar:fW A W cells vs):
 ∃ cs,o= .cells cs T (0,0)∧i * ah.size α + cells.length≤cs.size∧ (dx.row T (xs.take i ++ vs ++ xs.drop i) cap).holds A W (.cells (cs.toList.take (i * ah.size α) ++ cells ++ cs.toList.drop (i * ah.size α + cells.length)).toArray T (0,0)):=by
 obtain⟨cs,rfl,aw,a5,bA,cD,gW⟩:=h
 have qs:cs.toList.length=cap * ah.size α:=by simpa using aw
 have lb:cells.length=vs.length * ah.size α:=ar.1
 have iH:i * ah.size α + vs.length * ah.size α=(i + vs.length) * ah.size α:=by rw [← Nat.add_mul]
 have av:(i + vs.length) * ah.size α + (xs.length - i) * ah.size α=(xs.length + vs.length) * ah.size α:=by rw [← Nat.add_mul]; congr 1; omega
 have aX:(xs.length + vs.length) * ah.size α≤cap * ah.size α:=Nat.mul_le_mul_right _ a5
 have hlen:(xs.take i ++ vs ++ xs.drop i).length=xs.length + vs.length:=by simp; omega
 refine⟨cs,rfl,by omega,_,rfl,?_,by rw [hlen]; exact a5,bA,?_⟩
 ·simp only [List.size_toArray,List.length_append,List.length_take,List.length_drop]; omega
 ·rw [List.toList_toArray,hlen]
  have k1:=qW (qW cD ar) gW
  have hN:(cs.toList.take (i * ah.size α) ++ cells).length=(i + vs.length) * ah.size α:=by rw [List.length_append,List.length_take]; omega
  have jn:(cs.toList.take (i * ah.size α) ++ cells ++ cs.toList.drop (i * ah.size α + cells.length)).take ((xs.length + vs.length) * ah.size α)=cs.toList.take (i * ah.size α) ++ cells ++ (cs.toList.drop ((i + vs.length) * ah.size α)).take ((xs.length - i) * ah.size α):=by
   rw [List.take_append,hN,List.take_of_length_le (by omega),lb,iH]
   congr 2
   omega
  rw [jn]
  exact k1
theorem I9 {α:Type} [ah α] {T lo cap:Nat} {xs vs:List α} (ax:lo + vs.length≤xs.length) {A W o cells} (h:(dx.row T xs cap).holds A W o) (ar:fW A W cells vs):
 ∃ cs,o= .cells cs T (0,0)∧lo * ah.size α + cells.length≤cs.size∧ (dx.row T (xs.take lo ++ vs ++ xs.drop (lo + vs.length)) cap).holds A W (.cells (cs.toList.take (lo * ah.size α) ++ cells ++ cs.toList.drop (lo * ah.size α + cells.length)).toArray T (0,0)):=by
 obtain⟨cs,rfl,aw,a5,bA,cD⟩:=h
 have qs:cs.toList.length=cap * ah.size α:=by simpa using aw
 have lb:cells.length=vs.length * ah.size α:=ar.1
 have iH:lo * ah.size α + vs.length * ah.size α=(lo + vs.length) * ah.size α:=by rw [← Nat.add_mul]
 have av:(lo + vs.length) * ah.size α≤xs.length * ah.size α:=Nat.mul_le_mul_right _ ax
 have aX:xs.length * ah.size α≤cap * ah.size α:=Nat.mul_le_mul_right _ a5
 have hlen:(xs.take lo ++ vs ++ xs.drop (lo + vs.length)).length=xs.length:=by simp; omega
 refine⟨cs,rfl,by omega,_,rfl,?_,by rw [hlen]; exact a5,bA,?_⟩
 ·simp only [List.size_toArray,List.length_append,List.length_take,List.length_drop]; omega
 ·rw [List.toList_toArray,hlen]
  have gW:=IS (lo:=lo) cD ar ax
  have e:(cs.toList.take (lo * ah.size α) ++ cells ++ cs.toList.drop (lo * ah.size α + cells.length)).take (xs.length * ah.size α)=(cs.toList.take (xs.length * ah.size α)).take (lo * ah.size α) ++ cells ++ (cs.toList.take (xs.length * ah.size α)).drop (lo * ah.size α + cells.length):=by
   have dk:(cs.toList.take (lo * ah.size α) ++ cells).length=lo * ah.size α + cells.length:=by rw [List.length_append,List.length_take]; omega
   rw [List.take_append,dk,List.take_of_length_le (by omega),List.take_take,Nat.min_eq_left (by omega),List.drop_take]
  rw [e]
  exact gW
theorem RM {p n cap e:Nat} (hu:c.P.underlying t=some (.slice e)) (aq:a7 c E L x (.eq (aV (some p) n cap))):bY c E L ⟨d,.call ⟨.builtin .cap,#[x],#[t]⟩,ty,pos,af,g⟩ (.of (cap:Int)):= .pure fun a W s=>by
 have aa:a.eval x=_:=aq a W s
 exact⟨.int .i64 cap,by simp [execOp,resolve,invoke,builtin,Builtin.cap_,aa,aV,run_underlying hu,goInt],of_int.2 rfl⟩
theorem q0 {p n cap:Nat} {α:Type} [ah α] {e:TypeId} {lo au:Option Operand} {m h:Nat} {Ab Ac:Int} (hu:c.P.underlying t=some (.slice e)) (fh:bq c.P e α) (aq:a7 c E L x (.eq (aV (some p) n cap)))
 (hv:r2 c E L lo Ab 0) (ed:r2 c E L au Ac n) (hm:Ab=m) (aP:Ac=h) (ch:m≤h∧h≤cap):
 bY c E L ⟨d,.slice t x lo au none,ty,pos,af,g⟩ (.eq (ie (some p) m (h - m) cap (ah.size α))):= .pure fun a W s=>by
 subst hm; subst aP
 obtain⟨tC,mW⟩:=ch
 obtain⟨gP,eo,eK⟩:=fh.info
 have aa:a.eval x=_:=aq a W s
 refine⟨_,?_,rfl⟩
 simp only [ie]
 have ao:∀ v,v=Value.int .i64 m→ (Instr.sliceBound v h .sliceB).run c.P W= .ok m W:=fun v a2=>oX tC a2
 have iG:∀ v,v=Value.int .i64 h→ (Instr.sliceBound v cap .sliceAcap).run c.P W= .ok h W:=fun v a2=>oX (by omega) a2
 generalize fc:(h:Int)=MZ at ed
 generalize zE:(m:Int)=M0 at hv
 generalize zF:(n:Int)=M1 at ed
 generalize Mt:(0:Int)=M3 at hv
 cases hv with
 | none=>
   have gV:m=0:=by omega
   cases ed with
   | none=>
     have mW:h=n:=by omega
     subst mW
     subst gV
     simp [execOp,Instr.sliceAt,Instr.slice,Instr.sliceBounds,aa,aV,run_underlying hu,Go.sizeOf,typeInfo,eo,eK,iN]
   | some ch=>
     subst fc
     subst gV
     simp [execOp,Instr.sliceAt,Instr.slice,Instr.sliceBounds,aa,aV,run_underlying hu,Go.sizeOf,typeInfo,eo,eK,iN,iG _ (of_int.1 (ch a W s))]
 | some an=>
   subst zE
   cases ed with
   | none=>
     have mW:h=n:=by omega
     subst mW
     simp [execOp,Instr.sliceAt,Instr.slice,Instr.sliceBounds,aa,aV,run_underlying hu,Go.sizeOf,typeInfo,eo,eK,iN,ao _ (of_int.1 (an a W s))]
     split <;> rfl
   | some ch=>
     subst fc
     simp [execOp,Instr.sliceAt,Instr.slice,Instr.sliceBounds,aa,aV,run_underlying hu,Go.sizeOf,typeInfo,eo,eK,iN,ao _ (of_int.1 (an a W s)),iG _ (of_int.1 (ch a W s))]
     split <;> rfl
theorem Te {f:FuncId} {fn:Func} {p q T U cap cap' i j e tR oR M7 hh M8 M9 ja:Nat} {α:Type} [ah α] {xs vs:List α} (zn:Nat.beq (ah.size α) 0=false)
 (ba:c.P.funcs[f]? =some fn) (TC:(fn.name == "runtime.NumGoroutine")=false) (hb:fn.body.isNone=true) (aP:Extern.findNext fn=none)
 (he:Extern.find fn=some (Extern.SlicesOverlaps.overlaps #[t,t] #[tR])) (hu:c.P.underlying t=some (.slice e)) (fh:bq c.P e α)
 (aq:a7 c E L x (.eq (.slice (some ⟨q,M9,none⟩) oR M7))) (a9:a7 c E L y (.eq (.slice (some ⟨p,ja,none⟩) hh M8)))
 (au:L[i]? =some ⟨some p,.row T xs cap⟩) (aG:L[j]? =some ⟨some q,.row U vs cap'⟩) (Cr:p≠q) (zf:0 < cap):
 bY c E L ⟨d,.call ⟨.value (.func f),#[x,y],#[t,t]⟩,ty,pos,af,g⟩ (.of false):= .pure fun a W s=>by
 obtain⟨o,bh,cs,rfl,aw,a5,bA,cD⟩:=s.own _ (List.mem_of_getElem? au)
 obtain⟨o',qn,dA,rfl,aW,bR,dj,hM⟩:=s.own _ (List.mem_of_getElem? aG)
 obtain⟨gP,eo,eK⟩:=fh.info
 have aa:a.eval x=_:=aq a W s
 have ae:a.eval y=_:=a9 a W s
 have jJ:ah.size α≠0:=fun h=>by rw [h] at zn; cases zn
 have dn:cs.size≠0:=by rw [aw]; exact Nat.mul_ne_zero (by omega) jJ
 have VY:=Lib.run_overlaps_apart (P:=c.P) W t tR e hu (ah.size α) (fun w=>by simp [Go.sizeOf,typeInfo,eo,eK]) ⟨q,M9,none⟩ ⟨p,ja,none⟩ oR M7 hh M8 (fun h=>Cr h.symm) U T dA.size cs.size
  (by simp [World.shape?,qn]) (by simp [World.shape?,bh]) dn (by simp [World.frozen?,qn]) (by simp [World.frozen?,qn])
 refine⟨.bool false,?_,by exact of_bool.2 rfl⟩
 have bT:a.eval (.func f)= .func (.func f) #[] #[]:=rfl
 simp [execOp,resolve,Deferred.ofValue,bT,invoke,run_callFunc_extern ba TC hb aP he,aa,ae,VY]
theorem ai.UC {α:Type} [ah α] {rest:List Oper} {a4 i e bytes cap m k p T:Nat} {Na:IntKind} {xs:List α} {z:α} (hu:c.P.underlying t=some (.slice e)) (oF:c.P.underlying t2=some (.int Na)) (fh:bq c.P e α) (gr:cE c.P e z) (zn:Nat.beq (ah.size α) 0=false)
 (tD:(c.P.info? e).map (·.bytes)=some bytes) (aq:a7 c E L x (.eq (ie (some p) 0 m cap (ah.size α)))) (a9:a7 c E L y (.of (k:Int))) (ao:L[i]? =some ⟨some p,.row T xs cap⟩) (hm:m≤xs.length) (ax:0 < k) (bx:cap < m + k)
 (ts:(m + k) * bytes≤140737488355328) (ql:m + k≤maxLen) (aP:Nat.blt a4 c.n=true)
 (nZ:∀ q cap',ai c ops Q rest ((a4,.eq (aV (some q) (m + k) cap')) :: E) (⟨some q,.row e (xs.take m ++ List.replicate k z) cap'⟩ :: L)):
 ai c ops Q (⟨some a4,.call ⟨.builtin .append,#[x,y],#[t,t2]⟩,ty,pos,af,none⟩ :: rest) E L:=fun a W s=>by
 obtain⟨gP,dM,eo,eS,pw⟩:=gr.zero
 have l1:gP.size=ah.size α:=by
  obtain⟨i2,aa,ae⟩:=fh.info
  rw [eo] at aa; cases aa; exact ae
 have EL:gP.bytes=bytes:=by simpa [eo] using tD
 subst EL
 have tE:dM.cells.size=ah.size α:=by have:=ah.len (pw [] W).2; simpa using this
 have jJ:ah.size α≠0:=fun h=>by rw [h] at zn; cases zn
 have kA:a4 < c.n:=by simpa using aP
 have aa:a.eval x= .slice (some ⟨p,0,none⟩) m cap:=by
  have:=aq a W s
  rw [A9] at this
  exact this
 obtain⟨o,bh,cs,rfl,aw,a5,bA,cD⟩:=s.own _ (List.mem_of_getElem? ao)
 have oC:maxLen=9223372036854775807:=rfl
 have ae:a.eval y= .int .i64 k:=of_int.1 (a9 a W s)
 have U7:=Je hm (⟨cs,rfl,aw,a5,bA,cD⟩:(dx.row T xs cap).holds (aN L ++ c.bP) W (.cells cs T (0,0)))
 obtain⟨VX,av,_,_,_,Gl⟩:=U7
 cases av
 have FI:(xs.take m).length=m:=by rw [List.length_take]; omega
 rw [FI] at Gl
 have p4:∀ (j:Nat) u,(cs.toList.take (m * ah.size α))[j]? =some u→W.drew.cell? ((⟨p,0,none⟩:Addr).add j)=some u:=by
  intro j u nt
  rw [List.getElem?_take] at nt
  split at nt
  ·rw [iN,Nat.zero_add,cell_of_row W.drew p j cs T (0,0) bh]; simpa using nt
  ·cases nt
 have hold:=run_loadCells_list (P:=c.P) W.drew ⟨p,0,none⟩ _ p4
 rw [Gl.1,FI] at hold
 have aU:=Lib.run_append_grow_zeros (P:=c.P) W t t2 ty e gP dM .i64 Na hu oF eo eS (some ⟨p,0,none⟩) m cap _ (by simp only [Builtin.firstCells]; rw [l1]; exact hold) k ax (by omega) bx (by omega)
  (by have:k * gP.bytes≤ (m + k) * gP.bytes:=Nat.mul_le_mul_right _ (by omega)
      omega) (growslice_fits bx ts)
 have tG:=grownCap_ge W (m + k) cap e
 have hle:=grownCap_le_maxLen W (m + k) cap e ql
 have Cx:=pw (aN L ++ c.bP) W
 have oH:=xI Cx k jJ
 have Gf:Builtin.zeroCells dM.cells k=(Array.range (k * ah.size α)).map (dM.cells[· % dM.cells.size]!):=by rw [Builtin.zeroCells,tE]
 rw [← Gf] at oH
 have vL:=(qW Gl oH).mono (Ext.dm (Fr.drew W))
 have hlen:(xs.take m ++ List.replicate k z).length=m + k:=by rw [List.length_append,FI,List.length_replicate]
 have kr:=(s.world (Fr.drew W)).alloc (o:= .cells ((cs.toList.take (m * ah.size α)).toArray ++ Builtin.zeroCells dM.cells k ++ Builtin.zeroCells dM.cells (grownCap W (m + k) cap e - (m + k))) e)
  (cp:= .row e (xs.take m ++ List.replicate k z) (grownCap W (m + k) cap e))
  (El (T:=e) vL (ds:=(Builtin.zeroCells dM.cells (grownCap W (m + k) cap e - (m + k))).toList) (by rw [Array.length_toList,size_zeroCells,tE,hlen]) (by rw [hlen]; exact tG) hle (by simp))
 refine hI rfl (R:=fun v g6=>v=aV (some W.heap.size) (m + k) (grownCap W (m + k) cap e)∧g6=W.drew.alloc (.cells ((cs.toList.take (m * ah.size α)).toArray ++ Builtin.zeroCells dM.cells k ++ Builtin.zeroCells dM.cells (grownCap W (m + k) cap e - (m + k))) e)) (.lq ?_ ⟨rfl,rfl⟩) fun v g6 ⟨a2,hw⟩=> ?_
 ·simp only [execOp,resolve,invoke,builtin,Sem.run_bind,Sem.run_pure,Result.andThen_ok]
  have av:(#[x,y]:Array Operand).map a.eval= #[a.eval x,a.eval y]:=by simp
  rw [av,aa,ae,aU]
  rfl
 ·subst a2
  subst hw
  exact nZ _ _ _ _ (kr.put kA rfl)
def I.rY (τ:I):I where
 holds A W v:= ∃ b cur T gq u,v= .pointer (some ⟨b,0,none⟩)∧b ∉ A∧W.heap[b]? =some (.cells cur T gq)∧cur[0]? =some u∧u.oneCell'=true∧τ.holds A W u
 mono e h:=by
  obtain⟨b,cur,T,gq,u,rfl,hb,ch,hs,aa,aU⟩:=h
  have cl:b < _:=(Array.getElem?_eq_some_iff.1 ch).1
  exact⟨b,cur,T,gq,u,rfl,fun hm=>hb (e.new b hm cl),by rw [e.block b cl hb]; exact ch,hs,aa,τ.mono e aU⟩
theorem ai.Ui {rest:List Oper} {a4:Nat} {τ:I} (aq:a7 c E L x τ) (aa:∀ A W v,τ.holds A W v→v.oneCell'=true) (aP:Nat.blt a4 c.n=true)
 (k:ai c ops Q rest ((a4,.rY τ) :: E) L):ai c ops Q (⟨some a4,.box t x,ty,pos,af,none⟩ :: rest) E L:=fun a W s=>by
 have a2:=aq a W s
 have bh:=aa _ _ _ a2
 refine hI rfl (R:=fun v W'=>v= .pointer (some ⟨W.heap.size,0,none⟩)∧W'=W.alloc (.cells (a.eval x).cells t)) (.lq ?_ ⟨rfl,rfl⟩) fun v W' ⟨lG,hw⟩=> ?_
 ·simp [execOp,Instr.box,newVar,newRow]
 ·subst lG
  subst hw
  have s1:=((s.alloc (o:= .cells (a.eval x).cells t) (cp:= .dead) trivial).kill 0).nn 1
  refine k _ _ (bC.put s1 (by simpa using aP) ?_)
  refine⟨W.heap.size,(a.eval x).cells,t,(0,0),a.eval x,rfl,fun hm=> ?_,EJ W _,by rw [m7 bh]; rfl,bh,τ.mono (A:=aN L ++ c.bP) (W:=W) ⟨by simp,fun k ax _=>yk W _ k ax,fun k h _=>h⟩ a2⟩
  rcases List.mem_append.1 hm with hm | hm
  ·exact Nat.lt_irrefl _ (s.lt _ hm)
  ·exact Nat.lt_irrefl _ (s.eB _ hm).1
theorem JG {τ:I} {D:TypeDesc} (hu:c.P.underlying t=some D) (hd:(match (motive:=TypeDesc→Bool) D with | .struct _ | .array _ _=>true | _=>false)=false) (aq:a7 c E L x (.rY τ)):bY c E L ⟨d,.load t x,ty,pos,af,g⟩ τ:= .pure fun a W s=>by
 obtain⟨b,cur,T,gq,u,aa,hb,ch,hs,ae,aU⟩:=aq a W s
 have VZ:(isAgg t).run c.P W= .ok false W:=by
  unfold Go.isAgg
  rw [Sem.run_bind,run_underlying hu W]
  simp only [Result.andThen_ok]
  cases D <;> simp_all
 have p4:W.cell? ⟨b,0,none⟩=some u:=by rw [cell_of_row W b 0 cur T gq ch]; exact hs
 refine⟨u,?_,aU⟩
 simp [execOp,Instr.loadAt,Instr.sureAddr,aa,loadVar,Sem.run_bind,VZ,p4]
theorem ag.some {code:Code} {i T cap:Nat} {key:Option Nat} {α:Type} [ah α] {xs:List α} (ao:L[i]? =Option.some ⟨key,.row T xs cap⟩) (aq:0 < xs.length) (k:∀ p,key=Option.some p→xs.length≤cap→cap≤maxLen→ag c Q code E L):ag c Q code E L:=fun a W s=>by
 obtain⟨p,cs,rfl,dZ,aw,a5,bA,cD⟩:=s.rowAt ao aq
 exact k p rfl a5 bA a W s
theorem ag.apart {code:Code} {p q:Nat} {cp cp':dx} {L':List aL} (ao:L=⟨Option.some p,cp⟩ :: ⟨Option.some q,cp'⟩ :: L') (k:p≠q→ag c Q code E L):ag c Q code E L:=fun a W s=>by
 refine k (fun e=> ?_) a W s
 have:=s.nodup
 rw [ao,e] at this
 simp [aN] at this
theorem DY {α γ:Type} [ah α] [ah γ] {A W} {cs:List Value} {x:α} {os:List (Nat × Value)} {u:Value} (l:aK α (List γ)) (h:kl A W cs x os) (hq:(l.off,u)∈os):kl A W cs (l.set x []) os:=by
 refine⟨?_,h.2⟩
 have aa:=l.kf (ds:= [jj]) (g:=([]:List γ)) h.1 (show ah.rep A W [jj] ([]:List γ) from by
  have:=(lQ (A:=A) (W:=W) (v:=jj) (xs:=([]:List γ))).2 (.inl ⟨rfl,rfl⟩)
  exact this.2)
 have hb:(blank os cs)[l.off]? =some jj:=by
  rw [oY,if_pos (List.any_eq_true.2 ⟨_,hq,by simp⟩),(h.2 _ hq).1]; rfl
 have cl:l.off < (blank os cs).length:=(List.getElem?_eq_some_iff.1 hb).1
 have he:(blank os cs).take l.off ++ [jj] ++ (blank os cs).drop (l.off + ah.size (List γ))=blank os cs:=by
  show(blank os cs).take l.off ++ [jj] ++ (blank os cs).drop (l.off + 1)=blank os cs
  have ae:(blank os cs)[l.off]=jj:=(List.getElem?_eq_some_iff.1 hb).2
  rw [← ae,List.append_assoc,List.singleton_append,List.getElem_cons_drop,List.take_append_drop]
 rwa [he] at aa
theorem ai.FQ {r5:List Oper} {p:Nat} {β γ:Type} [ah β] [ah γ] {b b':β} {os:List (Nat × Value)} {u:Value} (l:aK β (List γ)) (i q:Nat) (ao:L[i]? =some ⟨some p,.cg b os⟩) (hq:os[q]? =some (l.off,u)) (hb:l.set b []=b')
 (k:ai c ops Q r5 E (L.set i ⟨some p,.cg b' os⟩)):ai c ops Q r5 E L:=fun a W s=>
 k a W (s.again ao (fun A W o ⟨cs,T,aa,ae⟩=>⟨cs,T,aa,hb ▸ DY l ae (List.mem_of_getElem? hq)⟩) id)
theorem ab.FQ {z:Exit} {p:Nat} {β γ:Type} [ah β] [ah γ] {b b':β} {os:List (Nat × Value)} {u:Value} (l:aK β (List γ)) (i q:Nat) (ao:L[i]? =some ⟨some p,.cg b os⟩) (hq:os[q]? =some (l.off,u)) (hb:l.set b []=b')
 (k:ab c Q z E (L.set i ⟨some p,.cg b' os⟩)):ab c Q z E L:=fun a W s=>
 k a W (s.again ao (fun A W o ⟨cs,T,aa,ae⟩=>⟨cs,T,aa,hb ▸ DY l ae (List.mem_of_getElem? hq)⟩) id)
end
def zg {α:Type} (bytes:Nat) (xs:List α) (i:Int) (vs:List α):Option (List α):=
 if 0≤i∧i≤xs.length∧0 < vs.length∧ (xs.length + vs.length) * bytes≤140737488355328∧xs.length + vs.length≤maxLen then some (xs.take i.toNat ++ vs ++ xs.drop i.toNat) else none
theorem PU {α:Type} {bytes:Nat} {xs vs r:List α} {i:Int} (h:zg bytes xs i vs=some r):
 ∃ k:Nat,i=k∧k≤xs.length∧0 < vs.length∧ (xs.length + vs.length) * bytes≤140737488355328∧xs.length + vs.length≤maxLen∧r=xs.take k ++ vs ++ xs.drop k:=by
 unfold zg at h
 split at h
 ·rename_i ar
  obtain⟨aa,ae,aD,aZ,a6⟩:=ar
  exact⟨i.toNat,by omega,by omega,aD,aZ,a6,(by simp only [Option.some.injEq] at h; exact h.symm)⟩
 ·cases h
end Gv
namespace Gv
open Go
set_option linter.unusedVariables false
set_option linter.unusedSimpArgs false
section
variable {c:cY} {E:List (Nat × I)} {L:List aL} {ops:Array Oper} {Q:Exit→Act→World→Prop} {rest:List Oper} {o:Oper} {a4:Nat}
variable {ty:TypeId} {pos:String} {af:Array Edge} {x y:Operand} {t t2:TypeId}
theorem aA {id:Nat} {l:List Oper} {y:Code} (h:ai c l.toArray (Exit.then (c.wp y Q) Q) l E L):ag c Q (.seq (.region id l.toArray false) y) E L:= .seq (.cj h)
theorem aI {y:Code} (h:ag c Q y E L):ai c ops (Exit.then (c.wp y Q) Q) [] E L:= .nil (.next h)
theorem bK {y z:Code} (h:ag c (Exit.then (c.wp z Q) Q) y E L):ai c ops (Exit.then (c.wp (Code.seq y z) Q) Q) [] E L:= .nil (.next (.seq h))
theorem b2 {id:Nat} {l:List Oper} {z:Code} (h:ai c l.toArray (Exit.then (c.wp z Q) Q) l E L):ai c ops (Exit.then (c.wp (Code.seq (.region id l.toArray false) z) Q) Q) [] E L:= .nil (.next (.seq (.cj h)))
theorem cP {y:Code} (h:ag c Q y E L):ag c (Exit.then (c.wp y Q) Q) .skip E L:= .skip (.next h)
theorem ay {α β:Type} {m:Option α} {f:α→Option β} {r:β} (h:m.bind f=some r):∃ y,m=some y∧f y=some r:=bind_some h
theorem b4 {R:Type} {b:Bool} {A B:Option R} {r:R} {y z:Code} (h:cond b A B=some r) (cr:A=some r→ag c Q y E L) (ba:B=some r→ag c Q z E L)
 (an:a7 c E L x (.of b):=by first | exact ad rfl | exact fD _):ag c Q (.cond x y z) E L:=
 .cond an (fun hb=>cr (gI hb h)) (fun hb=>ba (gJ hb h))
theorem bj {τ:I} (h:bY c E L o τ) (k:ai c ops Q rest ((a4,τ) :: E) L) (bx:o.guard=none:=by rfl) (hd:o.dst=some a4:=by rfl) (aP:Nat.blt a4 c.n=true:=by rfl):ai c ops Q (o :: rest) E L:= .v h bx hd aP k
theorem aB {τ:I} (k:ai c ops Q rest ((a4,τ) :: E) L) (aq:a7 c E L x τ:=by first | exact ad rfl | exact bD _ | exact fD _ | exact di _) (aP:Nat.blt a4 c.n=true:=by rfl):
 ai c ops Q (⟨some a4,.move x,ty,pos,af,none⟩ :: rest) E L:= .v (cU aq) rfl rfl aP k
theorem aM {τ:I} (k:ai c ops Q rest ((a4,τ) :: E) L) (aq:a7 c E L x τ:=by first | exact ad rfl | exact bD _ | exact fD _ | exact di _) (aP:Nat.blt a4 c.n=true:=by rfl):
 ai c ops Q (⟨some a4,.assign x,ty,pos,af,none⟩ :: rest) E L:= .v (eW aq) rfl rfl aP k
theorem aT {σ τ:I} (h:a7 c E L x σ→bY c E L o τ) (k:ai c ops Q rest ((a4,τ) :: E) L) (aq:a7 c E L x σ:=by first | exact ad rfl | exact bD _ | exact fD _ | exact di _)
 (bx:o.guard=none:=by rfl) (hd:o.dst=some a4:=by rfl) (aP:Nat.blt a4 c.n=true:=by rfl):ai c ops Q (o :: rest) E L:= .v (h aq) bx hd aP k
theorem bd {σ oK τ:I} (h:a7 c E L x σ→a7 c E L y oK→bY c E L o τ) (k:ai c ops Q rest ((a4,τ) :: E) L) (aq:a7 c E L x σ:=by first | exact ad rfl | exact bD _ | exact fD _ | exact di _)
 (a9:a7 c E L y oK:=by first | exact ad rfl | exact bD _ | exact fD _ | exact di _)
 (bx:o.guard=none:=by rfl) (hd:o.dst=some a4:=by rfl) (aP:Nat.blt a4 c.n=true:=by rfl):ai c ops Q (o :: rest) E L:= .v (h aq a9) bx hd aP k
theorem dp {α:Type} [ah α] {a b:α} (e:some a=some b) (h:bY c E L o (.of a)) (k:ai c ops Q rest ((a4,.of b) :: E) L) (bx:o.guard=none:=by rfl) (hd:o.dst=some a4:=by rfl) (aP:Nat.blt a4 c.n=true:=by rfl):
 ai c ops Q (o :: rest) E L:= .v (h.as (aH e)) bx hd aP k
theorem h6 {i:Nat} {τs:List I} {τ:I} (k:ai c ops Q rest ((a4,τ) :: E) L) (aq:a7 c E L x (.cG τs):=by exact ad rfl) (au:τs[i]? =some τ:=by rfl) (aP:Nat.blt a4 c.n=true:=by rfl):
 ai c ops Q (⟨some a4,.extract x i,ty,pos,af,none⟩ :: rest) E L:= .v (kY aq au) rfl rfl aP k
theorem bL {p o:Nat} {β γ:Type} [ah β] [ah γ] {b:β} (j:Nat) (l:aK β γ) (dR:bq c.P t γ) (k:ai c ops Q rest ((a4,.of (l.get b)) :: E) L) (aq:a7 c E L x (.eq (.pointer (some ⟨p,o,none⟩))):=by exact ad rfl)
 (ao:L[j]? =some ⟨some p,.var b⟩:=by rfl) (bh:o=l.off:=by rfl) (aP:Nat.blt a4 c.n=true:=by rfl):ai c ops Q (⟨some a4,.load t x,ty,pos,af,none⟩ :: rest) E L:= .v (dP l dR aq ao bh rfl) rfl rfl aP k
theorem cm {p:Nat} {β:Type} [ah β] {b:β} (j:Nat) (dR:bq c.P t β) (k:ai c ops Q rest ((a4,.of b) :: E) L) (aq:a7 c E L x (.eq (.pointer (some ⟨p,0,none⟩))):=by exact ad rfl)
 (ao:L[j]? =some ⟨some p,.var b⟩:=by rfl) (aP:Nat.blt a4 c.n=true:=by rfl):ai c ops Q (⟨some a4,.load t x,ty,pos,af,none⟩ :: rest) E L:= .v (dP (aK.id β) dR aq ao rfl rfl) rfl rfl aP k
theorem Mg {p o:Nat} {β γ:Type} [ah β] [ah γ] {b:β} {os:List (Nat × Value)} (j:Nat) (l:aK β γ) (dR:bq c.P t γ) (k:ai c ops Q rest ((a4,.of (l.get b)) :: E) L) (aq:a7 c E L x (.eq (.pointer (some ⟨p,o,none⟩))):=by exact ad rfl)
 (ao:L[j]? =some ⟨some p,.cg b os⟩:=by rfl) (bh:o=l.off:=by rfl) (bn:rh os l.off (ah.size γ)=true:=by rfl) (aP:Nat.blt a4 c.n=true:=by rfl):ai c ops Q (⟨some a4,.load t x,ty,pos,af,none⟩ :: rest) E L:= .v (Bl l dR aq ao bh rfl bn) rfl rfl aP k
theorem vV {s f o:Nat} {β γ:Type} [ah β] [ah γ] {b:β} (l:aK β γ) (fd:b9 c.P s f o) (k:ai c ops Q rest ((a4,.ptr (l.get b)) :: E) L) (aq:a7 c E L x (.ptr b):=by exact ad rfl) (bh:l.off=o:=by rfl) (aP:Nat.blt a4 c.n=true:=by rfl):
 ai c ops Q (⟨some a4,.fieldAddr s x f,ty,pos,af,none⟩ :: rest) E L:= .v (BK l fd aq bh rfl) rfl rfl aP k
theorem gk {α:Type} [ah α] [Inhabited α] {xs:List α} {e:TypeId} {i:Int} {j:Nat} (ax:idx xs.length i=some j) (hu:c.P.underlying t=some (.slice e)) (fh:bq c.P e α) (k:ai c ops Q rest ((a4,.ptr (aF xs j)) :: E) L)
 (aq:a7 c E L x (.of xs):=by exact ad rfl) (a9:a7 c E L y (.of i):=by first | exact ad rfl | exact bD _) (aP:Nat.blt a4 c.n=true:=by rfl):
 ai c ops Q (⟨some a4,.indexAddr t x y,ty,pos,af,none⟩ :: rest) E L:= .v (o7 hu fh aq a9 (cK ax)) rfl rfl aP k
theorem tj {b e:Bool} {p:Prop} (k:ai c ops Q rest ((a4,.of (b || e)) :: E) L) (aq:a7 c E L x (.of b):=by exact ad rfl) (a9:a7 c E L y (.cond p (.of e)):=by exact ad rfl) (hp:b=false→p:=by exact fun h=>h) (aP:Nat.blt a4 c.n=true:=by rfl):
 ai c ops Q (⟨some a4,.pick x (.const (.bool true)) y,ty,pos,af,none⟩ :: rest) E L:= .v (rz aq a9 hp) rfl rfl aP k
theorem ig {b e:Bool} {p:Prop} (k:ai c ops Q rest ((a4,.of (b && e)) :: E) L) (aq:a7 c E L x (.of b):=by exact ad rfl) (a9:a7 c E L y (.cond p (.of e)):=by exact ad rfl) (hp:b=true→p:=by exact fun h=>h) (aP:Nat.blt a4 c.n=true:=by rfl):
 ai c ops Q (⟨some a4,.pick x y (.const (.bool false)),ty,pos,af,none⟩ :: rest) E L:= .v (mE aq a9 hp) rfl rfl aP k
theorem ea {τ:I} {j g:Nat} {b want:Bool} (h:b=want→bY c E L o τ) (k:ai c ops Q rest ((a4,.cond (b=want) τ) :: E) L) (bx:o.guard=some (j,want):=by rfl) (aG:(ops[j]?).bind (·.dst)=some g:=by rfl) (an:look E g=some (.of b):=by rfl)
 (hd:o.dst=some a4:=by rfl) (aP:Nat.blt a4 c.n=true:=by rfl):ai c ops Q (o :: rest) E L:= .g h bx aG an hd aP k
theorem dK {σ τ:I} {j g:Nat} {b want:Bool} (h:a7 c E L x σ→bY c E L o τ) (k:ai c ops Q rest ((a4,.cond (b=want) τ) :: E) L)
 (aq:b=want→a7 c E L x σ:=by first | exact fun hb=>b3 rfl hb | exact fun _=>ad rfl | exact fun _=>bD _ | exact fun _=>fD _)
 (bx:o.guard=some (j,want):=by rfl) (aG:(ops[j]?).bind (·.dst)=some g:=by rfl) (an:look E g=some (.of b):=by rfl)
 (hd:o.dst=some a4:=by rfl) (aP:Nat.blt a4 c.n=true:=by rfl):ai c ops Q (o :: rest) E L:= .g (fun hb=>h (aq hb)) bx aG an hd aP k
theorem iW {σ oK τ:I} {j g:Nat} {b want:Bool} (h:a7 c E L x σ→a7 c E L y oK→bY c E L o τ) (k:ai c ops Q rest ((a4,.cond (b=want) τ) :: E) L)
 (aq:b=want→a7 c E L x σ:=by first | exact fun hb=>b3 rfl hb | exact fun _=>ad rfl | exact fun _=>bD _ | exact fun _=>fD _)
 (a9:b=want→a7 c E L y oK:=by first | exact fun hb=>b3 rfl hb | exact fun _=>ad rfl | exact fun _=>bD _ | exact fun _=>fD _)
 (bx:o.guard=some (j,want):=by rfl) (aG:(ops[j]?).bind (·.dst)=some g:=by rfl) (an:look E g=some (.of b):=by rfl)
 (hd:o.dst=some a4:=by rfl) (aP:Nat.blt a4 c.n=true:=by rfl):ai c ops Q (o :: rest) E L:= .g (fun hb=>h (aq hb) (a9 hb)) bx aG an hd aP k
theorem cM {α:Type} [ah α] {z:α} (gr:cE c.P t z) (k:∀ p,ai c ops Q rest ((a4,.eq (.pointer (some ⟨p,0,none⟩))) :: E) (⟨some p,.var z⟩ :: L)) (aP:Nat.blt a4 c.n=true:=by rfl):
 ai c ops Q (⟨some a4,.alloc t,ty,pos,af,none⟩ :: rest) E L:= .alloc gr aP k
theorem b8 {α:Type} [ah α] {z:α} (k:∀ p,ai c ops Q rest ((a4,.eq (.pointer (some ⟨p,0,none⟩))) :: E) (⟨some p,.var z⟩ :: L)) (aq:a7 c E L x (.of z):=by first | exact ad rfl | exact bD _ | exact fD _) (aP:Nat.blt a4 c.n=true:=by rfl):
 ai c ops Q (⟨some a4,.box t x,ty,pos,af,none⟩ :: rest) E L:= .box aq aP k
theorem po {p o:Nat} {β γ:Type} [ah β] [ah γ] {b:β} {v:γ} (i:Nat) (l:aK β γ) (dR:bq c.P t γ) (k:ai c ops Q rest E (L.set i ⟨some p,.var (l.set b v)⟩)) (aq:a7 c E L x (.eq (.pointer (some ⟨p,o,none⟩))):=by exact ad rfl)
 (a9:a7 c E L y (.of v):=by first | exact ad rfl | exact bD _ | exact fD _ | exact look_nil | exact di _) (ao:L[i]? =some ⟨some p,.var b⟩:=by rfl) (bh:o=l.off:=by rfl):
 ai c ops Q (⟨none,.store t x y,ty,pos,af,none⟩ :: rest) E L:= .store l dR aq a9 ao bh rfl k
theorem ck {p:Nat} {β:Type} [ah β] {b v:β} (i:Nat) (dR:bq c.P t β) (k:ai c ops Q rest E (L.set i ⟨some p,.var v⟩)) (aq:a7 c E L x (.eq (.pointer (some ⟨p,0,none⟩))):=by exact ad rfl)
 (a9:a7 c E L y (.of v):=by first | exact ad rfl | exact bD _ | exact fD _ | exact look_nil | exact di _) (ao:L[i]? =some ⟨some p,.var b⟩:=by rfl):
 ai c ops Q (⟨none,.store t x y,ty,pos,af,none⟩ :: rest) E L:= .store (aK.id β) dR aq a9 ao rfl rfl k
theorem vS {p o:Nat} {β γ:Type} [ah β] [ah γ] {b b':β} {v:γ} (i:Nat) (l:aK β γ) (dR:bq c.P t γ) (k:ai c ops Q rest E (L.set i ⟨some p,.var b'⟩)) (aq:a7 c E L x (.eq (.pointer (some ⟨p,o,none⟩))):=by exact ad rfl)
 (a9:a7 c E L y (.of v):=by first | exact ad rfl | exact bD _ | exact fD _ | exact look_nil | exact di _) (ao:L[i]? =some ⟨some p,.var b⟩:=by rfl) (bh:o=l.off:=by rfl) (hb:some (l.set b v)=some b'):
 ai c ops Q (⟨none,.store t x y,ty,pos,af,none⟩ :: rest) E L:= .store l dR aq a9 ao bh (aH hb) k
theorem ev {f:FuncId} {xs:List Operand} {ats:Array TypeId} {τs:List I} {ρ:I} (dS:bM c.P f) (h:bE c.P f τs ρ) (k:ai c ops Q rest ((a4,ρ) :: E) L)
 (aq:g1 c E L xs τs:=by repeat (first | exact trivial | refine⟨ad rfl,?_⟩ | refine⟨bD _,?_⟩ | refine⟨fD _,?_⟩ | refine⟨look_nil,?_⟩ | refine⟨di _,?_⟩)) (aP:Nat.blt a4 c.n=true:=by rfl):
 ai c ops Q (⟨some a4,.call ⟨.value (.func f),xs.toArray,ats⟩,ty,pos,af,none⟩ :: rest) E L:= .v (iQ dS h aq) rfl rfl aP k
theorem eE {f:FuncId} {xs:List Operand} {ats:Array TypeId} {τs:List I} {δ:Type} {ρ:δ→I} {Lo:δ→List aL} (n:Nat) (dS:bM c.P f) (h:cf c.P f τs (L.take n) ρ Lo)
 (k:∀ q,ai c ops Q rest ((a4,ρ q) :: E) (Lo q ++ L.drop n)) (aq:g1 c E L xs τs:=by repeat (first | exact trivial | refine⟨ad rfl,?_⟩ | refine⟨bD _,?_⟩ | refine⟨fD _,?_⟩ | refine⟨look_nil,?_⟩ | refine⟨xN,?_⟩ | refine⟨di _,?_⟩)) (aP:Nat.blt a4 c.n=true:=by rfl):
 ai c ops Q (⟨some a4,.call ⟨.value (.func f),xs.toArray,ats⟩,ty,pos,af,none⟩ :: rest) E L:=by
 have e:=List.take_append_drop n L
 have:=ai.kZ (ty:=ty) (pos:=pos) (af:=af) (ats:=ats) (xs:=xs) (Lin:=L.take n) (Lr:=L.drop n) (E:=E) (Q:=Q) (ops:=ops) dS h (by rw [e]; exact aq) aP k
 rwa [e] at this
theorem j2 {α:Type} [ah α] {e bytes cap:Nat} {key:Option Nat} {xs ys r:List α} {z:α} (j:Nat) (hu:c.P.underlying t=some (.slice e)) (fh:bq c.P e α) (gr:cE c.P e z) (h:gB bytes xs ys=some r)
 (k:∀ ov cap',ai c ops Q rest ((a4,.eq (aV ov r.length cap')) :: E) (L.set j ⟨ov,.row e r cap'⟩)) (tD:(c.P.info? e).map (·.bytes)=some bytes:=by kernel_rfl)
 (hs:a7 c E L x (.eq (aV key xs.length cap)):=by first | exact ad rfl | exact xN) (ao:L[j]? =some ⟨key,.row e xs cap⟩:=by rfl) (a9:a7 c E L y (.of ys):=by exact ad rfl) (aP:Nat.blt a4 c.n=true:=by rfl):
 ai c ops Q (⟨some a4,.call ⟨.builtin .append,#[x,y],#[t,t]⟩,ty,pos,af,none⟩ :: rest) E L:= .app hu fh gr tD hs ao a9 h aP k
theorem h4 {place:Nat→Option (Nat × Nat)} {β:Type} [ah β] {b b':β} {γ:Type} [ah γ] {v:γ} {i:Nat} {r:List (Nat × Operand)} (l:aK β γ) (k:p5 c E L place (l.set b v) r b')
 (hp:place i=some (l.off,ah.size γ):=by rfl) (aq:a7 c E L x (.of v):=by first | exact ad rfl | exact bD _ | exact fD _ | exact look_nil | exact di _):p5 c E L place b ((i,x) :: r) b':= .cons l hp aq rfl k
theorem ho {β:Type} [ah β] {z b:β} {bf:List (Nat × Operand)} {pl:Array (Nat × Nat)} (z9:hg c.P t pl) (gr:cE c.P t z) (G9:β) (ba:p5 c E L (pl[·]?) z bf b) (k:ai c ops Q rest ((a4,.of G9) :: E) L) (bn:ah.agg β=true:=by rfl) (hb:b=G9:=by rfl) (aP:Nat.blt a4 c.n=true:=by rfl):
 ai c ops Q (⟨some a4,.build t bf.toArray,ty,pos,af,none⟩ :: rest) E L:= .v ((cT bn z9 gr ba).as hb) rfl rfl aP k
theorem gx {α:Type} [ah α] {e n:Nat} {z:α} {bf:List (Nat × Operand)} (r:List α) (hu:c.P.underlying t=some (.slice e)) (fh:bq c.P e α) (gr:cE c.P e z) (k:ai c ops Q rest ((a4,.of r) :: E) L)
 (ba:mD c E L (List.replicate n z) bf r:=by repeat (first | exact mD.nil | refine mD.cons (by simp) (ad rfl) ?_ | refine mD.cons (by simp) (bD _) ?_ | refine mD.cons (by simp) (fD _) ?_ | refine mD.cons (by simp) (di _) ?_))
 (hs:Nat.beq (ah.size α) 0=false:=by rfl) (qt:Nat.ble (n * ah.size α) 16777216=true:=by rfl) (aP:Nat.blt a4 c.n=true:=by rfl):
 ai c ops Q (⟨some a4,.buildSlice t n bf.toArray,ty,pos,af,none⟩ :: rest) E L:= .v (iR hu fh gr hs qt ba) rfl rfl aP k
inductive lj (E:List (Nat × I)):List Nat→List (Nat × I)→Prop
 | nil:lj E [] []
 | cons {t:Nat} {gQ:List Nat} {τ:I} {Ae:List (Nat × I)} :look E t=some τ→lj E gQ Ae→lj E (t :: gQ) ((t,τ) :: Ae)
theorem lj.le:∀ {gQ:List Nat} {jb:List (Nat × I)},lj E gQ jb→gY E jb
 | _,_,.nil=> .nil
 | _,_,.cons h k=> .same h k.le
theorem iC {code:Code} {jb:List (Nat × I)} (gQ:List Nat) (k:ag c Q code jb L) (aE:lj E gQ jb:=by repeat (first | exact lj.nil | (apply lj.cons; rfl))):ag c Q code E L:= .le aE.le k
theorem jF {z:Exit} {jb:List (Nat × I)} (gQ:List Nat) (k:ab c Q z jb L) (aE:lj E gQ jb:=by repeat (first | exact lj.nil | (apply lj.cons; rfl))):ab c Q z E L:= .le aE.le k
theorem df {z:Exit} {E':List (Nat × I)} {L':List aL} (n:Nat) (k:ab c Q z E' L') (ao:L.drop n=L':=by rfl) (h:gY E E':=by repeat (first | exact gY.nil | refine gY.same rfl ?_)):ab c Q z E L:= .meet n ao h k
theorem fe {σ ε γ δ:Type} {E':σ→γ→List (Nat × I)} {L':σ→γ→List aL} {xs:ε→Exit} {fu:ε→δ→List (Nat × I)} {Lx:ε→δ→List aL} {s:σ} (g:γ) (n:Nat) (ao:L.drop n=L' s g:=by rfl)
 (h:gY E (E' s g):=by repeat (first | exact gY.nil | refine gY.same rfl ?_)):ab c (v9 c E' L' xs fu Lx (.inl s)) .normal E L:= .RV g n ao h
theorem dE {σ ε γ δ:Type} {E':σ→γ→List (Nat × I)} {L':σ→γ→List aL} {xs:ε→Exit} {fu:ε→δ→List (Nat × I)} {Lx:ε→δ→List aL} {e:ε} {z:Exit} (g:δ) (n:Nat) (aq:z=xs e:=by rfl) (aP:z≠ .normal:=by simp) (ao:L.drop n=Lx e g:=by rfl)
 (h:gY E (fu e g):=by repeat (first | exact gY.nil | refine gY.same rfl ?_)):ab c (v9 c E' L' xs fu Lx (.inr e)) z E L:= .RW g n aq aP ao h
theorem hc {t:Nat} {p:Nat} {α:Type} [ah α] {v:α} (i:Nat) (dR:bq c.P ty α) (h:look E t=some (.eq (.pointer (some ⟨p,0,none⟩))):=by rfl) (ao:L[i]? =some ⟨some p,.var v⟩:=by rfl):qH c E L (.cell t ty) (.of v):=UY dR h ao
theorem cv {fn:Func} {t:Nat} {τ:I} (aU:fn.results= #[.tmp t]:=by rfl) (h:look E t=some τ:=by rfl) (ht:c.ds= []:=by rfl):ab c (bodyPost c.P fn (td c τ)) .ret E L:= .iT aU (ry h) ht
theorem Mc {fn:Func} {t u:Nat} {τ mV:I} (aU:fn.results= #[.tmp t,.tmp u]:=by rfl) (h:look E t=some τ:=by rfl) (ae:look E u=some mV:=by rfl) (ht:c.ds= []:=by rfl):ab c (bodyPost c.P fn (td c (.cG [τ,mV]))) .ret E L:= .y0 aU (ry h) (ry ae) ht
theorem mS {fn:Func} {t:Nat} {τ:I} {δ:Type} {ρ:δ→I} {Lo:δ→List aL} (a4:δ) (hs:(Lo a4).Sublist L:=by repeat (first | exact List.nil_sublist _ | refine List.Sublist.cons_cons _ ?_)) (aU:fn.results= #[.tmp t]:=by rfl) (h:look E t=some τ:=by rfl) (qv:ρ a4=τ:=by rfl) (ht:c.ds= []:=by rfl):
 ab c (bodyPost c.P fn (jh c.X c.bP c.hY ρ Lo)) .ret E L:= .gv a4 hs aU qv (dV h) ht
def nT:List aL→List (Nat × aL)→List aL
 | L,[]=>L
 | L,(i,e) :: r=>nT (L.set i e) r
inductive oS:List aL→List aL→Prop
 | nil:oS [] []
 | cons {e:aL} {r s:List aL} :oS r s→oS (e :: r) (e :: s)
theorem oS.eq:∀ {l m:List aL},oS l m→l=m
 | _,_,.nil=>rfl
 | _,_,.cons h=>by rw [h.eq]
theorem gj {σ ε γ δ:Type} {body:Code} {N:Nat} {b:σ→Option (σ ⊕ ε)} {b1:σ} {e:ε} {jb:List (Nat × I)} {jc:List aL} (an:dW N b b1=some e) (gQ:List Nat) (u:σ→γ→List (Nat × I)) (ul:σ→γ→List (Nat × aL)) (xs:ε→Exit)
 (Ha:ε→δ→List (Nat × I)) (Gm:ε→δ→List (Nat × aL)) (g0:γ)
 (p3:∀ s r,b s=some r→ ∀ g,ag c (v9 c (fun s g=>u s g ++ jb) (fun s g=>nT jc (ul s g)) xs (fun e d=>Ha e d ++ jb) (fun e d=>nT jc (Gm e d)) r) body (u s g ++ jb) (nT jc (ul s g)))
 (ng:∀ g,ab c Q (xs e) (Ha e g ++ jb) (nT jc (Gm e g)))
 (tz:oS L jc:=by repeat (first | exact oS.nil | apply oS.cons))
 (V0:lj E gQ jb:=by repeat (first | exact lj.nil | (apply lj.cons; rfl))) (aE:gY E (u b1 g0 ++ jb):=by repeat (first | exact gY.nil | refine gY.same rfl ?_)) (ao:jc=nT jc (ul b1 g0):=by rfl):ag c Q (.loop body) E L:=
 ag.sR an (fun s g=>u s g ++ jb) (fun s g=>nT jc (ul s g)) xs (fun e d=>Ha e d ++ jb) (fun e d=>nT jc (Gm e d)) g0 (tz.eq.trans ao) aE p3 ng
theorem h5 {γ:Type} {b:Bool} {y z:Code} {jb:List (Nat × I)} {jc:List aL} (gQ:List Nat) (u:γ→List (Nat × I)) (ul:γ→List (Nat × aL)) (r3:∀ g,ab c Q .normal (u g ++ jb) (nT jc (ul g)))
 (cr:(∀ g,ab c Q .normal (u g ++ jb) (nT jc (ul g)))→b=true→ag c Q y E jc) (ba:(∀ g,ab c Q .normal (u g ++ jb) (nT jc (ul g)))→b=false→ag c Q z E jc)
 (tz:oS L jc:=by repeat (first | exact oS.nil | apply oS.cons))
 (V0:lj E gQ jb:=by repeat (first | exact lj.nil | (apply lj.cons; rfl))) (an:a7 c E jc x (.of b):=by first | exact ad rfl | exact fD _):ag c Q (.cond x y z) E L:=by
 cases tz.eq
 exact ag.cC (fun g=>u g ++ jb) (fun g=>nT L (ul g)) an r3 cr ba
section
variable {all:List eM} {w:Nat→Bool}
theorem e0 {τ:I} {hyp:List aL→Prop} (h:∀ L',hyp L'→bY c E L' o τ) (bx:o.guard=none:=by rfl):∀ L',hyp L'→jN c ops E L' o τ:=fun L' ao=> .v (h L' ao) bx
theorem c3 {τ:I} {hyp:List aL→Prop} (aq:∀ L',a7 c E L' x τ:=by first | exact fun _=>ad rfl | exact fun _=>bD _ | exact fun _=>fD _ | exact fun _=>di _):∀ L',hyp L'→jN c ops E L' ⟨some a4,.move x,ty,pos,af,none⟩ τ:=fun L' _=> .v (cU (aq L')) rfl
theorem tO {τ:I} {hyp:List aL→Prop} (aq:∀ L',a7 c E L' x τ:=by first | exact fun _=>ad rfl | exact fun _=>bD _ | exact fun _=>fD _ | exact fun _=>di _):∀ L',hyp L'→jN c ops E L' ⟨some a4,.assign x,ty,pos,af,none⟩ τ:=fun L' _=> .v (eW (aq L')) rfl
theorem H1 {σ τ:I} {hyp:List aL→Prop} (h:∀ {L'},a7 c E L' x σ→bY c E L' o τ) (bx:o.guard=none:=by rfl) (aq:∀ L',a7 c E L' x σ:=by first | exact fun _=>ad rfl | exact fun _=>bD _ | exact fun _=>fD _ | exact fun _=>di _):
 ∀ L',hyp L'→jN c ops E L' o τ:=fun L' _=> .v (h (aq L')) bx
theorem iq {σ oK τ:I} {hyp:List aL→Prop} (h:∀ {L'},a7 c E L' x σ→a7 c E L' y oK→bY c E L' o τ) (bx:o.guard=none:=by rfl) (aq:∀ L',a7 c E L' x σ:=by first | exact fun _=>ad rfl | exact fun _=>bD _ | exact fun _=>fD _ | exact fun _=>di _)
 (a9:∀ L',a7 c E L' y oK:=by first | exact fun _=>ad rfl | exact fun _=>bD _ | exact fun _=>fD _ | exact fun _=>di _):∀ L',hyp L'→jN c ops E L' o τ:=fun L' _=> .v (h (aq L') (a9 L')) bx
theorem dI {p o:Nat} {β γ:Type} [ah β] [ah γ] {b:β} (i:Nat) (l:aK β γ) (dR:bq c.P t γ) (aq:∀ L',a7 c E L' x (.eq (.pointer (some ⟨p,o,none⟩))):=by exact fun _=>ad rfl) (ao:L[i]? =some ⟨some p,.var b⟩:=by rfl) (bh:o=l.off:=by rfl)
 (hu:nP w i 0 all=true:=by first | rfl | kernel_rfl):∀ L':List aL,(∀ (j:Nat) (e:aL),L[j]? =some e→nP w j 0 all=true→L'[j]? =some e)→jN c ops E L' ⟨some a4,.load t x,ty,pos,af,none⟩ (.of (l.get b)):=
 fun L' pv=> .v (dP l dR (aq L') (pv _ _ ao hu) bh rfl) rfl
theorem e5 {p:Nat} {β:Type} [ah β] {b:β} (i:Nat) (dR:bq c.P t β) (aq:∀ L',a7 c E L' x (.eq (.pointer (some ⟨p,0,none⟩))):=by exact fun _=>ad rfl) (ao:L[i]? =some ⟨some p,.var b⟩:=by rfl)
 (hu:nP w i 0 all=true:=by first | rfl | kernel_rfl):∀ L':List aL,(∀ (j:Nat) (e:aL),L[j]? =some e→nP w j 0 all=true→L'[j]? =some e)→jN c ops E L' ⟨some a4,.load t x,ty,pos,af,none⟩ (.of b):=
 fun L' pv=> .v (dP (aK.id β) dR (aq L') (pv _ _ ao hu) rfl rfl) rfl
theorem fm {f:FuncId} {xs:List Operand} {ats:Array TypeId} {τs:List I} {ρ:I} {hyp:List aL→Prop} (dS:bM c.P f) (h:bE c.P f τs ρ)
 (aq:∀ L',g1 c E L' xs τs:=by intro L'; repeat (first | exact trivial | refine⟨ad rfl,?_⟩ | refine⟨bD _,?_⟩ | refine⟨fD _,?_⟩ | refine⟨look_nil,?_⟩ | refine⟨di _,?_⟩)):
 ∀ L',hyp L'→jN c ops E L' ⟨some a4,.call ⟨.value (.func f),xs.toArray,ats⟩,ty,pos,af,none⟩ ρ:=fun L' _=> .v (iQ dS h (aq L')) rfl
theorem lB {α:Type} [ah α] [Inhabited α] {xs:List α} {e:TypeId} {i:Int} {j:Nat} {hyp:List aL→Prop} (ax:idx xs.length i=some j) (hu:c.P.underlying t=some (.slice e)) (fh:bq c.P e α)
 (aq:∀ L',a7 c E L' x (.of xs):=by exact fun _=>ad rfl) (a9:∀ L',a7 c E L' y (.of i):=by first | exact fun _=>ad rfl | exact fun _=>bD _):
 ∀ L',hyp L'→jN c ops E L' ⟨some a4,.indexAddr t x y,ty,pos,af,none⟩ (.ptr (aF xs j)):=fun L' _=> .v (o7 hu fh (aq L') (a9 L') (cK ax)) rfl
theorem qi {s f o:Nat} {β γ:Type} [ah β] [ah γ] {b:β} {hyp:List aL→Prop} (l:aK β γ) (fd:b9 c.P s f o) (aq:∀ L',a7 c E L' x (.ptr b):=by exact fun _=>ad rfl) (bh:l.off=o:=by rfl):
 ∀ L',hyp L'→jN c ops E L' ⟨some a4,.fieldAddr s x f,ty,pos,af,none⟩ (.ptr (l.get b)):=fun L' _=> .v (BK l fd (aq L') bh rfl) rfl
theorem qD {α:Type} [ah α] {a b:α} {hyp:List aL→Prop} (e:some a=some b) (h:∀ L',hyp L'→bY c E L' o (.of a)) (bx:o.guard=none:=by rfl):∀ L',hyp L'→jN c ops E L' o (.of b):=fun L' ao=> .v ((h L' ao).as (aH e)) bx
theorem vT {i:Nat} {τs:List I} {τ:I} {hyp:List aL→Prop} (aq:∀ L',a7 c E L' x (.cG τs):=by exact fun _=>ad rfl) (au:τs[i]? =some τ:=by rfl):∀ L',hyp L'→jN c ops E L' ⟨some a4,.extract x i,ty,pos,af,none⟩ τ:=fun L' _=> .v (kY (aq L') au) rfl
theorem dT {τ:I} {j g:Nat} {b want:Bool} {hyp:List aL→Prop} (h:∀ L',hyp L'→b=want→bY c E L' o τ) (bx:o.guard=some (j,want):=by rfl) (aG:(ops[j]?).bind (·.dst)=some g:=by rfl) (an:look E g=some (.of b):=by rfl):
 ∀ L',hyp L'→jN c ops E L' o (.cond (b=want) τ):=fun L' ao=> .g (h L' ao) bx aG an
end
def bb (s:Nat) (up rd:List Nat) (τ:I):dN:=⟨some s,up,rd,[],fun _=>τ,fun _ _=>⟨none,.dead⟩⟩
section
variable {hs:List dN} {i:Nat} {up rd:List Nat}
theorem fJ {τ:I} (aq:∀ (hd:Nat→Hid) (E':List (Nat × I)) (L':List aL),(∀ t τ,look (lF hd hs E up) t=some τ→look E' t=some τ)→a7 c E' L' x τ:=by first | exact fun _ _ _ aE=>ad (aE _ _ rfl) | exact fun _ _ _ _=>bD _ | exact fun _ _ _ _=>fD _ | exact fun _ _ _ _=>di _)
 (aP:Nat.blt a4 c.n=true:=by rfl):cR c ops Q hs E L i ⟨some a4,.move x,ty,pos,af,none⟩ (bb a4 up rd τ):=ji rfl rfl aP fun hd E' L' aE _=>cU (aq hd E' L' aE)
theorem e1 {σ τ:I} (h:∀ {E' L'},a7 c E' L' x σ→bY c E' L' o τ) (bx:o.guard=none:=by rfl) (hd:o.dst=some a4:=by rfl)
 (aq:∀ (hd:Nat→Hid) (E':List (Nat × I)) (L':List aL),(∀ t τ,look (lF hd hs E up) t=some τ→look E' t=some τ)→a7 c E' L' x σ:=by first | exact fun _ _ _ aE=>ad (aE _ _ rfl) | exact fun _ _ _ _=>bD _ | exact fun _ _ _ _=>fD _ | exact fun _ _ _ _=>di _)
 (aP:Nat.blt a4 c.n=true:=by rfl):cR c ops Q hs E L i o (bb a4 up rd τ):=ji bx hd aP fun hd E' L' aE _=>h (aq hd E' L' aE)
theorem z6 {σ oK τ:I} (h:∀ {E' L'},a7 c E' L' x σ→a7 c E' L' y oK→bY c E' L' o τ) (bx:o.guard=none:=by rfl) (hd:o.dst=some a4:=by rfl)
 (aq:∀ (hd:Nat→Hid) (E':List (Nat × I)) (L':List aL),(∀ t τ,look (lF hd hs E up) t=some τ→look E' t=some τ)→a7 c E' L' x σ:=by first | exact fun _ _ _ aE=>ad (aE _ _ rfl) | exact fun _ _ _ _=>bD _ | exact fun _ _ _ _=>fD _ | exact fun _ _ _ _=>di _)
 (a9:∀ (hd:Nat→Hid) (E':List (Nat × I)) (L':List aL),(∀ t τ,look (lF hd hs E up) t=some τ→look E' t=some τ)→a7 c E' L' y oK:=by first | exact fun _ _ _ aE=>ad (aE _ _ rfl) | exact fun _ _ _ _=>bD _ | exact fun _ _ _ _=>fD _ | exact fun _ _ _ _=>di _)
 (aP:Nat.blt a4 c.n=true:=by rfl):cR c ops Q hs E L i o (bb a4 up rd τ):=ji bx hd aP fun hd E' L' aE _=>h (aq hd E' L' aE) (a9 hd E' L' aE)
theorem mT {p o:Nat} {β γ:Type} [ah β] [ah γ] {b:β} (k:Nat) (l:aK β γ) (dR:bq c.P t γ)
 (aq:∀ (hd:Nat→Hid) (E':List (Nat × I)) (L':List aL),(∀ t τ,look (lF hd hs E up) t=some τ→look E' t=some τ)→a7 c E' L' x (.eq (.pointer (some ⟨p,o,none⟩))):=by exact fun _ _ _ aE=>ad (aE _ _ rfl))
 (ao:∀ hd:Nat→Hid,(hZ (fun _=>true) hd 0 (hs.take i) L)[k]? =some ⟨some p,.var b⟩:=by exact fun _=>rfl) (aU:rd.contains k=true:=by rfl) (bh:o=l.off:=by rfl)
 (aP:Nat.blt a4 c.n=true:=by rfl):cR c ops Q hs E L i ⟨some a4,.load t x,ty,pos,af,none⟩ (bb a4 up rd (.of (l.get b))):=ji rfl rfl aP fun hd E' L' aE pv=>dP l dR (aq hd E' L' aE) (pv _ _ (ao hd) aU) bh rfl
theorem k5 {p:Nat} {β:Type} [ah β] {b:β} (k:Nat) (dR:bq c.P t β)
 (aq:∀ (hd:Nat→Hid) (E':List (Nat × I)) (L':List aL),(∀ t τ,look (lF hd hs E up) t=some τ→look E' t=some τ)→a7 c E' L' x (.eq (.pointer (some ⟨p,0,none⟩))):=by exact fun _ _ _ aE=>ad (aE _ _ rfl))
 (ao:∀ hd:Nat→Hid,(hZ (fun _=>true) hd 0 (hs.take i) L)[k]? =some ⟨some p,.var b⟩:=by exact fun _=>rfl) (aU:rd.contains k=true:=by rfl)
 (aP:Nat.blt a4 c.n=true:=by rfl):cR c ops Q hs E L i ⟨some a4,.load t x,ty,pos,af,none⟩ (bb a4 up rd (.of b)):=ji rfl rfl aP fun hd E' L' aE pv=>dP (aK.id β) dR (aq hd E' L' aE) (pv _ _ (ao hd) aU) rfl rfl
theorem cw {τ:I} (h:∀ (hd:Nat→Hid) (E':List (Nat × I)) (L':List aL),(∀ t τ,look (lF hd hs E up) t=some τ→look E' t=some τ)→ (∀ j e,(hZ (fun _=>true) hd 0 (hs.take i) L)[j]? =some e→rd.contains j=true→L'[j]? =some e)→bY c E' L' o τ)
 (bx:o.guard=none:=by rfl) (hd:o.dst=some a4:=by rfl) (aP:Nat.blt a4 c.n=true:=by rfl):cR c ops Q hs E L i o (bb a4 up rd τ):=ji bx hd aP h
end
end
end Gv
namespace Gv
open Go
set_option linter.unusedVariables false
set_option linter.unusedSimpArgs false
theorem Bc {F:Fence} {n Hb:Nat} {P:Program} {code:Code} {Q:Exit→Act→World→Prop} {a:Act} {W:World} (hd:F.depth=none) (h:code.wpIn F n P Q a W):code.wpIn F Hb P Q a W:=
 fun b k cs vZ hb _=>h b k cs vZ hb (fun d hd'=>by rw [hd] at hd'; cases hd')
def dx.is (o:Obj):dx where
 holds _ _ x:=x=o
 mI:=False
 mono _ h:=h
abbrev dx.db:dx:= .is (.deferred (some []))
def I.gE (f:FuncId) (τs:List I):I where
 holds A W v:= ∃ hh:List Value,v= .func (.func f) #[] hh.toArray∧fV A W τs hh
 mono e h:=let⟨hh,aa,ae⟩:=h; ⟨hh,aa,ae.mono e⟩
theorem bC.qf {c E L a W} (h:bC c E L a W) {i p:Nat} {cp cp':dx} (au:L[i]? =some ⟨some p,cp⟩) {o':Obj} (ar:cp'.holds (aN L ++ c.bP) W o'):
 bC c E (L.set i ⟨some p,cp'⟩) a (W.putObj p o'):=by
 have gG:aN (L.set i ⟨some p,cp'⟩)=aN L:=vc (cp:=cp') au
 have hp:p∈aN L:=kh.2 ⟨_,List.mem_of_getElem? au,rfl⟩
 have gC:Ext (aN L ++ c.bP) W (aN L ++ c.bP) (W.putObj p o'):=
  ⟨by simp,fun k _ bn=>World.putObj_heap_other (fun e=>bn (e ▸ List.mem_append.2 (.inl hp))),fun _ h _=>h⟩
 exact
 {defers:=h.defers
  size:=h.size
  env:=fun t τ an=>by rw [gG]; exact let⟨v,aa,ae⟩:=h.env t τ an; ⟨v,aa,τ.mono gC ae⟩
  dm:=⟨h.dm.os,h.dm.tape,h.dm.output,by simpa using h.dm.size,fun k ax aq=>by
   rw [World.putObj_heap_other (fun e:k=p=>aq (by subst e; exact h.fI _ hp ax))]
   exact h.dm.block k ax aq⟩
  own:=fun e he=>by
   rw [gG]
   obtain⟨j,aG⟩:=List.mem_iff_getElem?.1 he
   rw [List.getElem?_set] at aG
   split at aG
   ·rename_i eY
    subst eY
    split at aG
    ·simp only [Option.some.injEq] at aG
     subst aG
     exact⟨_,World.putObj_heap_same (h.lt p hp),cp'.mono gC ar⟩
    ·cases aG
   ·rename_i eY
    have aa:=h.own e (List.mem_of_getElem? aG)
    unfold aL.ok at *
    split at aa
    ·rename_i q hq
     obtain⟨o',qn,ch⟩:=aa
     have dn:q≠p:=fun e'=>eY (EK h.nodup au aG rfl (e' ▸ hq))
     exact⟨o',by rw [World.putObj_heap_other dn]; exact qn,dx.mono _ gC ch⟩
    ·exact aa
  nodup:=by rw [gG]; exact h.nodup
  lt:=by rw [gG]; simpa using h.lt
  fI:=by rw [gG]; exact h.fI
  eB:=by rw [gG]; simpa using h.eB }
theorem KH {c:cY} {E:List (Nat × I)} {L:List aL} {d:Option Tmp} {ty:TypeId} {pos:String} {af:Array Edge} {g:Option (Nat × Bool)} {f:FuncId} {xs:List Operand} {τs:List I} (aq:g1 c E L xs τs):
 bY c E L ⟨d,.makeFunc (.func f) #[] xs.toArray,ty,pos,af,g⟩ (.gE f τs):= .pure fun a W s=>
 ⟨.func (.func f) #[] (xs.map a.eval).toArray,by simp [execOp,Instr.makeFunc],_,rfl,aq.holds a W s⟩
structure vN (A:List Nat) (W:World) (L:List aL):Prop where
 eB:∀ k∈A,k < W.heap.size∧k ∉ aN L
 nodup:(aN L).Nodup
 lt:∀ k∈aN L,k < W.heap.size
 ok:∀ e∈L,e.ok (aN L ++ A) W
def tK (P:Program) (u:Value) {α σ ε γ:Type} (τ:α→I) (Ls:σ→γ→List aL) (Lx:ε→γ→List aL) (step:α→σ→Option (σ ⊕ ε)) (R:List Nat→World→Prop):Prop:=
 ∃ l,u= .func (.yield l) #[] #[]∧ ∀ x s r,step x s=some r→ ∀ g A W v,R (aN (Ls s g) ++ A) W→vN A W (Ls s g)→ (τ x).holds (aN (Ls s g) ++ A) W v→
   YieldAt Fence.wide 8 P l #[v] W (match r with
    | .inl bZ=>jh (aN (Ls s g)) A W (fun _:γ=>I.of true) (fun g=>Ls bZ g)
    | .inr q=>jh (aN (Ls s g)) A W (fun _:γ=>I.of false) (fun g=>Lx q g))
def Lr {σ ε γ:Type} (Ls:σ→γ→List aL) (Lx:ε→γ→List aL):σ ⊕ ε→γ→List aL
 | .inl s,g=>Ls s g
 | .inr q,g=>Lx q g
structure x8 (P:Program) (f:FuncId) (τs:List I) (Lin:List aL) {α:Type} (τ:α→I) (run:∀ {σ ε:Type},(α→σ→Option (σ ⊕ ε))→σ→Option (σ ⊕ ε)):Prop where
 go:∀ {σ ε γ:Type} (Ls:σ→γ→List aL) (Lx:ε→γ→List aL) (step:α→σ→Option (σ ⊕ ε)) (b1:σ) (g0:γ) (r:σ ⊕ ε),run step b1=some r→
  ∀ (A:List Nat) (W:World) (u:Value) (vs:List Value),vN A W (Lin ++ Ls b1 g0)→fV (aN (Lin ++ Ls b1 g0) ++ A) W τs vs→
    tK P u τ Ls Lx step (fun cQ W'=>Ext (aN (Lin ++ Ls b1 g0) ++ A) W cQ W')→
    Calls P f (u :: vs).toArray W (jh (aN (Lin ++ Ls b1 g0)) A W (fun _:γ=> .cG []) (fun g=>Lin ++ Lr Ls Lx r g))
theorem x8.of {P:Program} {f:FuncId} {fn:Func} {code:Code} {n:Nat} {τs:List I} {Lin:List aL} {α:Type} {τ:α→I} {run:∀ {σ ε:Type},(α→σ→Option (σ ⊕ ε))→σ→Option (σ ⊕ ε)}
 (ba:P.funcs[f]? =some fn) (hb:fn.body=some code) (aP:fn.ntmps=n) (hlen:Nat.ble (τs.length + 1) n=true)
 (h:∀ {σ ε γ:Type} (Ls:σ→γ→List aL) (Lx:ε→γ→List aL) (step:α→σ→Option (σ ⊕ ε)) (b1:σ) (g0:γ) (r:σ ⊕ ε),run step b1=some r→
  ∀ W A u,tK P u τ Ls Lx step (fun cQ W'=>Ext (aN (Lin ++ Ls b1 g0) ++ A) W cQ W')→
    ag ⟨P,n,W,aN (Lin ++ Ls b1 g0),A,none,[]⟩ (bodyPost P fn (jh (aN (Lin ++ Ls b1 g0)) A W (fun _:γ=> .cG []) (fun g=>Lin ++ Lr Ls Lx r g))) code (params 0 (.eq u :: τs)) (Lin ++ Ls b1 g0)):x8 P f τs Lin τ run:=by
 refine⟨?_⟩
 intro σ ε γ Ls Lx step b1 g0 r aU A W u vs an a2 a9
 refine calls_of_wp ba hb (wpIn_wide.1 (h Ls Lx step b1 g0 r aU W A u a9 _ _ ?_))
 have lG:fV (aN (Lin ++ Ls b1 g0) ++ A) W (.eq u :: τs) (u :: vs):= .cons rfl a2
 have kM:=lG.length
 have hle:τs.length + 1≤n:=Nat.le_of_ble_eq_true hlen
 exact
 {defers:=rfl
  size:=by simp at kM; simp [aP,kM]; omega
  env:=fun t τ eC=>by
   obtain⟨_,v,ae,aD⟩:=sm lG 0 t τ eC
   refine⟨v,?_,aD⟩
   have cl:t < (u :: vs).length:=(List.getElem?_eq_some_iff.1 ae).1
   rw [Array.getElem?_append_left (by simpa using cl)]
   simpa using ae
  dm:= .refl _ _
  own:=an.ok
  nodup:=an.nodup
  lt:=an.lt
  fI:=fun k ax _=>ax
  eB:=an.eB }
section
variable {c:cY} {E:List (Nat × I)} {L:List aL} {ops:Array Oper} {Q:Exit→Act→World→Prop}
variable {d:Option Tmp} {ty:TypeId} {pos:String} {af:Array Edge} {g:Option (Nat × Bool)} {x y:Operand} {t t2:TypeId}
theorem bC.Lk {a:Act} {W:World} (s:bC c E L a W):Ext (c.X ++ c.bP) c.hY (aN L ++ c.bP) W:=
 ⟨s.dm.size,fun k ax bn=>s.dm.block k ax fun aq=>bn (List.mem_append.2 (.inl aq)),fun k hm cl=>by
   rcases List.mem_append.1 hm with hm | hm
   ·exact List.mem_append.2 (.inl (s.fI k hm cl))
   ·exact List.mem_append.2 (.inr hm)⟩
theorem bC.Cd {a:Act} {W:World} {Lin Lr:List aL} (s:bC c E (Lin ++ Lr) a W):vN (aN Lr ++ c.bP) W Lin:=by
 have k3:=s.nodup
 rw [eH] at k3
 obtain⟨mc,px,oI⟩:=List.nodup_append.1 k3
 exact
 {eB:=fun k hm=>by
   rcases List.mem_append.1 hm with hm | hm
   ·exact⟨s.lt k (by rw [eH]; exact List.mem_append.2 (.inr hm)),fun h=>oI k h k hm rfl⟩
   ·obtain⟨aa,ae⟩:=s.eB k hm
    exact⟨aa,fun h=>ae (by rw [eH]; exact List.mem_append.2 (.inl h))⟩
  nodup:=mc
  lt:=fun k hm=>s.lt k (by rw [eH]; exact List.mem_append.2 (.inl hm))
  ok:=fun e he=>aL.q8 (s.own e (List.mem_append.2 (.inl he))) (.drop fun k hm=>by
   rw [eH]
   simp only [List.mem_append] at hm ⊢
   rcases hm with hm | hm | hm
   ·exact .inl (.inl hm)
   ·exact .inl (.inr hm)
   ·exact .inr hm) fun _ _=>rfl }
theorem xZ {Lin Lr:List aL} {A:List Nat} {W:World} :Ext (aN (Lin ++ Lr) ++ A) W (aN Lin ++ (aN Lr ++ A)) W:= .drop fun k hm=>by
 rw [eH]
 simp only [List.mem_append] at hm ⊢
 rcases hm with hm | hm | hm
 ·exact .inl (.inl hm)
 ·exact .inl (.inr hm)
 ·exact .inr hm
theorem DZ {Lin Lr:List aL} {A:List Nat} {W:World} :Ext (aN Lin ++ (aN Lr ++ A)) W (aN (Lin ++ Lr) ++ A) W:= .drop fun k hm=>by
 rw [eH] at hm
 simp only [List.mem_append] at hm ⊢
 rcases hm with(hm | hm) | hm
 ·exact .inl hm
 ·exact .inr (.inl hm)
 ·exact .inr (.inr hm)
theorem ai.yield {rest:List Oper} {a4 kd:Nat} {ats:Array TypeId} {u:Value} {α σ ε γ:Type} {τ:α→I} {Ls:σ→γ→List aL} {Lx:ε→γ→List aL} {step:α→σ→Option (σ ⊕ ε)} {Lin:List aL} {x:Operand} {v:α} {s:σ} {gg:γ} {r:σ ⊕ ε}
 (ar:c.rd=none) (a9:tK c.P u τ Ls Lx step (fun cQ W'=>Ext (c.X ++ c.bP) c.hY cQ W')) (ba:look E kd=some (.eq u)) (aq:a7 c E (Lin ++ Ls s gg) x (τ v)) (aU:step v s=some r) (aP:Nat.blt a4 c.n=true)
 (aW:∀ bZ,r= .inl bZ→ ∀ e8,ai c ops Q rest ((a4,.of true) :: E) (Lin ++ Ls bZ e8)) (bR:∀ q,r= .inr q→ ∀ e8,ai c ops Q rest ((a4,.of false) :: E) (Lin ++ Lx q e8)):
 ai c ops Q (⟨some a4,.call ⟨.value (.tmp kd),#[x],ats⟩,ty,pos,af,none⟩ :: rest) E (Lin ++ Ls s gg):=fun a W st=>by
 obtain⟨l,rfl,a9⟩:=a9
 obtain⟨Hc,aa,ae⟩:=st.env kd _ ba
 have hu:Hc= .func (.yield l) #[] #[]:=ae
 subst hu
 have oJ:bC c E (Ls s gg ++ Lin) a W:=st.perm List.perm_append_comm
 have a2:=aq a W st
 have lG:(τ v).holds (aN (Ls s gg) ++ (aN Lin ++ c.bP)) W (a.eval x):=(τ v).mono (.drop fun k hm=>by
  rw [eH]
  simp only [List.mem_append] at hm ⊢
  rcases hm with hm | hm | hm
  ·exact .inl (.inr hm)
  ·exact .inl (.inl hm)
  ·exact .inr hm) a2
 obtain⟨fn,tmps,assign,body,kk,iv⟩:=a9 v s r aU gg (aN Lin ++ c.bP) W (a.eval x) (oJ.Lk.trans xZ) oJ.Cd lG
 have Fi:(execOp a.eval ⟨some a4,.call ⟨.value (.tmp kd),#[x],ats⟩,ty,pos,af,none⟩).run c.P W= .ok (.round l fn tmps assign body) W:=by
  rw [← kk]
  simp [execOp,resolve,Deferred.ofValue,Act.eval,aa,invoke,Sem.run_bind,Sem.run_pure,Result.andThen]
 refine wpListIn_plain rfl fun K tS=> ?_
 refine⟨fun _ _=>trivial,?_⟩
 rw [Oper.semAt_eq _ _ _ (fun _ h=>by cases h),Fi,Oper.uponIn_round]
 refine⟨fun h=>by simp at h,?_⟩
 have Gn:RoundIn c.F (9 - 1) c.P l fn tmps assign body W _:=iv
 refine Gn.mono fun e W' he=> ?_
 cases r with
 | inl bZ=>
   obtain⟨w,e8,rfl,oL,aD,aZ,a6,bl⟩:=he
   obtain rfl:=of_bool.1 bl
   refine tS _ _ (aW bZ rfl e8 _ _ ?_)
   exact(((oJ.after oL aD aZ a6).perm List.perm_append_comm).put (by simpa using aP) (of_bool.2 rfl))
 | inr q=>
   obtain⟨w,e8,rfl,oL,aD,aZ,a6,bl⟩:=he
   obtain rfl:=of_bool.1 bl
   refine tS _ _ (bR q rfl e8 _ _ ?_)
   exact(((oJ.after oL aD aZ a6).perm List.perm_append_comm).put (by simpa using aP) (of_bool.2 rfl))
theorem ai.RL {rest:List Oper} {a4 kd j gt:Nat} {b:Bool} {ats:Array TypeId} {u:Value} {α σ ε γ:Type} {τ:α→I} {Ls:σ→γ→List aL} {Lx:ε→γ→List aL} {step:α→σ→Option (σ ⊕ ε)} {Lin:List aL} {x:Operand} {v:α} {s:σ} {gg:γ} {r:σ ⊕ ε}
 (ar:c.rd=none) (a9:tK c.P u τ Ls Lx step (fun cQ W'=>Ext (c.X ++ c.bP) c.hY cQ W')) (hb:b=true) (aG:(ops[j]?).bind (·.dst)=some gt) (an:look E gt=some (.of b)) (ba:look E kd=some (.cond (b=true) (.eq u))) (aq:a7 c E (Lin ++ Ls s gg) x (τ v)) (aU:step v s=some r) (aP:Nat.blt a4 c.n=true)
 (aW:∀ bZ,r= .inl bZ→ ∀ e8,ai c ops Q rest ((a4,.cond (b=true) (.of true)) :: E) (Lin ++ Ls bZ e8)) (bR:∀ q,r= .inr q→ ∀ e8,ai c ops Q rest ((a4,.cond (b=true) (.of false)) :: E) (Lin ++ Lx q e8)):
 ai c ops Q (⟨some a4,.call ⟨.value (.tmp kd),#[x],ats⟩,ty,pos,af,some (j,true)⟩ :: rest) E (Lin ++ Ls s gg):=fun a W st=>by
 have aE:look ((kd,.eq u) :: E) kd=some (.eq u):=by simp [look,Nat.beq_refl]
 have V1:bC c ((kd,.eq u) :: E) (Lin ++ Ls s gg) a W:=st.less fun t lD h=>by
  simp only [look] at h
  by_cases e:Nat.beq kd t=true
  ·rw [e] at h
   simp only [cond_true,Option.some.injEq] at h
   subst h
   rw [← eO.1 e]
   exact⟨_,ba,fun A W v a2=>a2.1 hb⟩
  ·simp only [Bool.not_eq_true] at e
   rw [e] at h
   exact⟨_,h,fun _ _ _ h=>h⟩
 have key:=ai.yield (c:=c) (ops:=ops) (Q:=Q) (E:=(kd,.eq u) :: E) (rest:=rest) (ty:=ty) (pos:=pos) (af:=af) (ats:=ats) ar a9 aE (fun a W s=>aq a W (s.less fun t lD h=>by
  by_cases e:Nat.beq kd t=true
  ·have:=eO.1 e
   subst this
   rw [ba] at h
   cases h
   refine⟨_,aE,fun A W v a2=>⟨fun _=>a2,fun h=>absurd hb h⟩⟩
  ·simp only [Bool.not_eq_true] at e
   exact⟨lD,by simp only [look]; rw [e]; exact h,fun _ _ _ h=>h⟩)) aU aP
  (fun bZ e e8 a W st=>aW bZ e e8 a W (st.less fun t lD h=>by
   simp only [look] at h ⊢
   by_cases e:Nat.beq a4 t=true
   ·rw [e] at h ⊢
    simp only [cond_true,Option.some.injEq] at h ⊢
    exact⟨_,rfl,fun A W v a2=>by subst h; exact⟨fun _=>a2,fun h=>absurd hb h⟩⟩
   ·simp only [Bool.not_eq_true] at e
    rw [e] at h ⊢
    simp only [cond_false] at h ⊢
    by_cases aX:Nat.beq kd t=true
    ·have:=eO.1 aX
     subst this
     rw [ba] at h
     cases h
     rw [aX]
     exact⟨_,rfl,fun A W v a2=>⟨fun _=>a2,fun h=>absurd hb h⟩⟩
    ·simp only [Bool.not_eq_true] at aX
     rw [aX]
     exact⟨lD,h,fun _ _ _ h=>h⟩))
  (fun bZ e e8 a W st=>bR bZ e e8 a W (st.less fun t lD h=>by
   simp only [look] at h ⊢
   by_cases e:Nat.beq a4 t=true
   ·rw [e] at h ⊢
    simp only [cond_true,Option.some.injEq] at h ⊢
    exact⟨_,rfl,fun A W v a2=>by subst h; exact⟨fun _=>a2,fun h=>absurd hb h⟩⟩
   ·simp only [Bool.not_eq_true] at e
    rw [e] at h ⊢
    simp only [cond_false] at h ⊢
    by_cases aX:Nat.beq kd t=true
    ·have:=eO.1 aX
     subst this
     rw [ba] at h
     cases h
     rw [aX]
     exact⟨_,rfl,fun A W v a2=>⟨fun _=>a2,fun h=>absurd hb h⟩⟩
    ·simp only [Bool.not_eq_true] at aX
     rw [aX]
     exact⟨lD,h,fun _ _ _ h=>h⟩))
 have:=key a W V1
 unfold cY.oD wpListIn at this ⊢
 rw [if_pos (by simp [Region.wanted])] at this
 rw [if_pos (by simp [Region.wanted,uS aG an st,hb])]
 exact this
theorem ai.en {l:List Oper} {L2:List aL} (h:L=L2) (k:ai c ops Q l E L2):ai c ops Q l E L:=by subst h; exact k
theorem ai.cases {l:List Oper} (b:Bool) (aa:b=true→ai c ops Q l E L) (ae:b=false→ai c ops Q l E L):ai c ops Q l E L:=by
 cases b
 ·exact ae rfl
 ·exact aa rfl
theorem ai.SX {o:Oper} {rest:List Oper} {a4 j gt:Nat} {b:Bool} (τ:I) (hb:b=false) (bx:o.guard=some (j,true)) (hd:o.dst=some a4) (aG:(ops[j]?).bind (·.dst)=some gt) (an:look E gt=some (.of b)) (aP:Nat.blt a4 c.n=true)
 (k:ai c ops Q rest ((a4,.cond (b=true) τ) :: E) L):ai c ops Q (o :: rest) E L:=fun a W s=>by
 unfold cY.oD wpListIn
 rw [if_neg (by simp [Region.wanted,bx,uS aG an s,hb]),hd]
 exact⟨fun _ _=>trivial,k _ _ (s.put (by simpa using aP) ⟨fun h=>(by rw [hb] at h; cases h),fun _=>rfl⟩)⟩
theorem ag.E6 {x:Operand} {b:Bool} {y z:Code} (an:a7 c E L x (.of b)) (hb:b=true) (k:ag c Q y E L):ag c Q (.cond x y z) E L:= .cond an (fun _=>k) fun h=>by rw [hb] at h; cases h
theorem ag.sO {x:Operand} {b:Bool} {y z:Code} (an:a7 c E L x (.of b)) (hb:b=false) (k:ag c Q z E L):ag c Q (.cond x y z) E L:= .cond an (fun h=>by rw [hb] at h; cases h) fun _=>k
def yl:Code→Exit
 | .ret=> .ret
 | .exit id=> .exit id
 | .goto t=> .goto t
 | _=> .normal
def sK:Code→Bool
 | .ret | .exit _ | .goto _=>true
 | _=>false
def Af {σ ε γ:Type} (c:cY) (eD:ε→Code) (l D:Nat) (rec:Loop) (Ls:σ→γ→List aL) (Lx:ε→γ→List aL):σ ⊕ ε→Exit→Act→World→Prop
 | .inl bZ,x,a,W=>x= .normal∧ ∃ g,bC c [] (⟨some l,.is (.loop rec)⟩ :: ⟨some D,.db⟩ :: Ls bZ g) a W
 | .inr q,x,a,W=>sK (eD q)=true∧x=yl (eD q)∧ ∃ g,bC c [] (⟨some l,.is (.loop rec)⟩ :: ⟨some D,.db⟩ :: Lx q g) a W
def Ag (c:cY) (l:Nat) (body:Code) (Q:Exit→Act→World→Prop) (a:Act) (W:World):Prop:=
 ∃ m0,(Instr.beginRound l).run c.P W= .ok () m0∧c.wp body Q a m0
theorem ab.begin {l:Nat} {body:Code} {wj:Exit→Act→World→Prop} (i:Nat) {r:Loop} (ao:L[i]? =some ⟨some l,.is (.loop r)⟩) (aU:r.state= .ready)
 (k:ag c Q body E (L.set i ⟨some l,.is (.loop { r with state:= .busy })⟩)):ab c (Exit.then (Ag c l body Q) wj) .normal E L:=fun a W s=>by
 obtain⟨o,aa,ae⟩:=s.own _ (List.mem_of_getElem? ao)
 have la:o= .loop r:=ae
 subst la
 exact⟨_,run_beginRound aa aU,k _ _ (s.qf ao rfl)⟩
theorem ab.Mh {σ ε γ:Type} {eD:ε→Code} {l D:Nat} {rec:Loop} {Ls:σ→γ→List aL} {Lx:ε→γ→List aL} {bZ:σ} (g:γ) (n:Nat) (ao:L.drop n=⟨some l,.is (.loop rec)⟩ :: ⟨some D,.db⟩ :: Ls bZ g):
 ab c (Af c eD l D rec Ls Lx (.inl bZ)) .normal E L:=fun a W s=>⟨rfl,g,by rw [← ao]; exact(s.nn n).less (fun t τ h=>by simp [look] at h)⟩
theorem ab.EF {σ ε γ:Type} {eD:ε→Code} {l D:Nat} {rec:Loop} {Ls:σ→γ→List aL} {Lx:ε→γ→List aL} {q:ε} {x:Exit} (g:γ) (n:Nat) (aG:sK (eD q)=true) (aq:x=yl (eD q)) (ao:L.drop n=⟨some l,.is (.loop rec)⟩ :: ⟨some D,.db⟩ :: Lx q g):
 ab c (Af c eD l D rec Ls Lx (.inr q)) x E L:=fun a W s=>⟨aG,aq,g,by rw [← ao]; exact(s.nn n).less (fun t τ h=>by simp [look] at h)⟩
theorem ag.jump {j:Code} (aG:sK j=true) (k:ab c Q (yl j) E L):ag c Q j E L:=by
 cases j <;> simp only [sK] at aG <;> first | cases aG | skip
 all_goals first | exact .exit k | exact .ret k | exact fun a W s=>wpIn_goto (k a W s)
theorem HT {P:Program} {l:Nat} {R:Ending→World→Prop} {j:Code} {a:Act} {W W':World} {v:Value} (aG:sK j=true) (bl:(Instr.endRound l (some j)).run P W= .ok v W') (iv:R (.returned v) W'):
 roundPost P l R (yl j) a W:=by
 cases j <;> simp only [sK] at aG <;> first | exact⟨_,_,bl,iv⟩ | cases aG
theorem bC.mark {a:Act} {W:World} (s:bC c E L a W) (D:Nat):bC { c with ds:=D :: c.ds } E L { a with defers:=B5 D :: a.defers } W:=
 {defers:=by simp [s.defers],size:=s.size,env:=s.env,dm:=s.dm,own:=s.own,nodup:=s.nodup,lt:=s.lt,fI:=s.fI,eB:=s.eB }
def Gp (P:Program) (f:FuncId) (τs:List I) (Lin:List aL) {α σ ε γ:Type} (τ:α→I) (run:(α→σ→Option (σ ⊕ ε))→σ→Option (σ ⊕ ε)) (Ls:σ→γ→List aL) (Lx:ε→γ→List aL):Prop:=
 ∀ (step:α→σ→Option (σ ⊕ ε)) (b1:σ) (g0:γ) (r:σ ⊕ ε),run step b1=some r→
   ∀ (A:List Nat) (W:World) (u:Value) (vs:List Value),vN A W (Lin ++ Ls b1 g0)→fV (aN (Lin ++ Ls b1 g0) ++ A) W τs vs→
     tK P u τ Ls Lx step (fun cQ W'=>Ext (aN (Lin ++ Ls b1 g0) ++ A) W cQ W')→
     Calls P f (u :: vs).toArray W (jh (aN (Lin ++ Ls b1 g0)) A W (fun _:γ=> .cG []) (fun g=>Lin ++ Lr Ls Lx r g))
theorem IW {gt p:Nat} {assign body:Code} {f:FuncId} {lA:List I} {Lin:List aL} {α σ ε γ:Type} {τ:α→I} {run:(α→σ→Option (σ ⊕ ε))→σ→Option (σ ⊕ ε)}
 {Ls:σ→γ→List aL} {Lx:ε→γ→List aL} {step:α→σ→Option (σ ⊕ ε)} {b1:σ} {g0:γ} {r:σ ⊕ ε} (eD:ε→Code)
 (ar:c.rd=none) (dS:bM c.P f) (bx:look E gt=some (.gE f lA)) (j9:∀ av aX lH,Gp c.P f lA Lin τ run (fun s g=>av :: aX :: Ls s g) lH) (aU:run step b1=some r) (ao:L=Lin ++ Ls b1 g0) (hp:Nat.blt p c.n=true)
 (nI:∀ x s r,step x s=some r→ ∀ g (kp:World) (kz kq:List Nat) (l D:Nat) (rec:Loop),rec.state= .ready→
  ag ⟨c.P,c.n,kp,kz,kq,some l,[]⟩ (Exit.then (Ag ⟨c.P,c.n,kp,kz,kq,some l,[]⟩ l body (Af ⟨c.P,c.n,kp,kz,kq,some l,[]⟩ eD l D { rec with state:= .busy } Ls Lx r)) (fun _ _ _=>False)) assign ((p,τ x) :: E) (⟨some l,.is (.loop rec)⟩ :: ⟨some D,.db⟩ :: Ls s g))
 (pe:∀ bZ,r= .inl bZ→ ∀ g D,ab { c with ds:=D :: c.ds } Q .normal E (⟨some D,.db⟩ :: (Lin ++ Ls bZ g)))
 (sV:∀ q,r= .inr q→ ∀ g D,ag { c with ds:=D :: c.ds } Q (eD q) E (⟨some D,.db⟩ :: (Lin ++ Lx q g))):
 ag c Q (.rangeFunc (.tmp gt) #[p] assign body) E L:=fun a W st=>by
 subst ao
 refine wpIn_rangeFunc fun fn V2=> ?_
 show ∃ l mark U8 d TD wq args U9,(Instr.enterLoop fn a.tmps #[p] assign body c.rd).run c.P W=_∧_
 rw [ar]
 obtain⟨rec,jD⟩:∃ rec:Loop,rec= { state:= .ready,pending:=none,fn,tmps:=a.tmps,params:= #[p],assign,body,defers:=W.heap.size } :=⟨_,rfl⟩
 obtain⟨v,zO,hh,tL,V3⟩:=st.env gt _ bx
 obtain⟨g6,zP⟩:∃ g6,(W.alloc (.deferred (some []))).alloc (.loop rec)=g6:=⟨_,rfl⟩
 have s1:=(st.alloc (o:= .deferred (some [])) (cp:= .db) rfl).alloc (o:= .loop rec) (cp:= .is (.loop rec)) rfl
 rw [zP,World.size_alloc] at s1
 obtain⟨D,ka⟩:∃ D,D=W.heap.size:=⟨_,rfl⟩
 obtain⟨l,an⟩:∃ l,l=W.heap.size + 1:=⟨_,rfl⟩
 have zQ:=run_enterLoop_outer (P:=c.P) (w:=W) fn a.tmps #[p] assign body
 rw [← jD,zP,← an,← ka] at zQ
 rw [← an,← ka] at s1
 obtain⟨ku,oM⟩:∃ ku:σ→γ→List aL,ku=fun s g=>⟨some l,.is (.loop rec)⟩ :: ⟨some D,.db⟩ :: Ls s g:=⟨_,rfl⟩
 obtain⟨lH,zR⟩:∃ lH:ε→γ→List aL,lH=fun q g=>⟨some l,.is (.loop { rec with state:= .done,pending:=some (eD q) })⟩ :: ⟨some D,.db⟩ :: Lx q g:=⟨_,rfl⟩
 have s2:bC c E (Lin ++ ku b1 g0) a g6:=s1.perm (by
  rw [oM]
  exact(List.perm_middle.trans (List.perm_middle.cons _)).symm)
 have Gq:fV (aN (Lin ++ ku b1 g0) ++ c.bP) g6 lA hh:=by
  have aa:(I.gE f lA).holds (aN (Lin ++ ku b1 g0) ++ c.bP) g6 v:=by
   obtain⟨tU,aa,ae⟩:=s2.env gt _ bx
   rw [zO] at aa
   cases aa
   exact ae
  obtain⟨Gr,av,aX⟩:=aa
  rw [tL] at av
  have:Gr=hh:=by injection av with _ _ av; injection av with av; exact av.symm
  rw [← this]; exact aX
 have zS:bC c E ((Lin ++ ku b1 g0) ++ []) a g6:=by rw [List.append_nil]; exact s2
 have yS:=zS.Cd
 simp only [aN,List.nil_append] at yS
 have FJ:tK c.P (.func (.yield l) #[] #[]) τ ku lH step (fun cQ W'=>Ext (aN (Lin ++ ku b1 g0) ++ c.bP) g6 cQ W'):=by
  refine⟨l,rfl,fun x s qK hs g A m0 v2 gC hle a2=> ?_⟩
  have zo:=hle
  rw [oM] at zo
  obtain⟨o,eA,fQ⟩:=zo.ok ⟨some l,.is (.loop rec)⟩ (by simp)
  have ow:o= .loop rec:=fQ
  subst ow
  have a9:=run_yield (P:=c.P) (args:= #[v2]) eA (by rw [jD]; rfl)
  refine⟨_,_,_,_,a9,roundIn_of_wpIn trivial ?_⟩
  have av:rec.assign=assign:=by rw [jD]
  have aX:rec.body=body:=by rw [jD]
  have dk:rec.params= #[p]:=by rw [jD]
  have gz:rec.tmps=a.tmps:=by rw [jD]
  rw [av,aX,dk,gz]
  refine Bc (n:=9) rfl ?_
  have Fj:((#[p]:Array Tmp).zip #[v2]).foldl (fun tmps (t,a)=>tmps.setIfInBounds t a) a.tmps=a.tmps.setIfInBounds p v2:=by simp
  rw [Fj]
  subst oM zR
  refine wpIn_mono ((nI x s qK hs g m0 (aN (⟨some l,.is (.loop rec)⟩ :: ⟨some D,.db⟩ :: Ls s g)) A l D rec (by rw [jD])) { tmps:=a.tmps.setIfInBounds p v2,defers:= [] } m0 ?_) ?_
  ·have lI:p < c.n:=by simpa using hp
   exact
   {defers:=rfl
    size:=by simp [s2.size]
    env:=fun t lD eC=>by
     simp only [look] at eC
     by_cases e:Nat.beq p t=true
     ·rw [e] at eC
      simp only [cond_true,Option.some.injEq] at eC
      subst eC
      have:=eO.1 e
      subst this
      exact⟨v2,by simp [s2.size,lI],a2⟩
     ·simp only [Bool.not_eq_true] at e
      rw [e] at eC
      simp only [cond_false] at eC
      obtain⟨u,aa,ae⟩:=s2.env t lD eC
      have dn:p≠t:=fun h=>by rw [eO.2 h] at e; cases e
      exact⟨u,by rw [Array.getElem?_setIfInBounds_ne dn]; exact aa,lD.mono gC ae⟩
    dm:= .refl _ _
    own:=hle.ok
    nodup:=hle.nodup
    lt:=hle.lt
    fI:=fun k ax _=>ax
    eB:=hle.eB }
  ·intro e jq WI hq
   cases e with
   | normal=>
     obtain⟨Hd,Gs,hb⟩:=hq
     refine⟨Hd,Gs,Bc (n:=9) rfl (wpIn_mono hb ?_)⟩
     intro e qL Ah CA
     have fin:∀ (jump:Option Code) {Lr:List aL},bC ⟨c.P,c.n,m0,aN (⟨some l,.is (.loop rec)⟩ :: ⟨some D,.db⟩ :: Ls s g),A,some l,[]⟩ [] (⟨some l,.is (.loop { rec with state:= .busy })⟩ :: ⟨some D,.db⟩ :: Lr) qL Ah→
      ∃ nw,(Instr.endRound l jump).run c.P Ah= .ok (.bool jump.isNone) nw∧bC ⟨c.P,c.n,m0,aN (⟨some l,.is (.loop rec)⟩ :: ⟨some D,.db⟩ :: Ls s g),A,some l,[]⟩ [] (⟨some l,.is (.loop { rec with state:=if jump.isNone then .ready else .done,pending:=jump })⟩ :: ⟨some D,.db⟩ :: Lr) qL nw:=fun jump Lr hf=>by
      obtain⟨o,aa,ae⟩:=hf.own ⟨some l,.is (.loop { rec with state:= .busy })⟩ (by simp)
      have la:o= .loop { rec with state:= .busy } :=ae
      subst la
      exact⟨_,run_endRound jump aa,hf.qf (i:=0) rfl rfl⟩
     cases qK with
     | inl bZ=>
       obtain⟨rfl,e8,hf⟩:=CA
       obtain⟨nw,bl,hX⟩:=fin none hf
       refine⟨_,nw,bl,?_⟩
       have Gt:({ rec with state:=if (none:Option Code).isNone then .ready else .done,pending:=none } :Loop)=rec:=by rw [jD]; rfl
       rw [Gt] at hX
       exact hX.ends (ρ:=fun _:γ=>I.of true) (Lo:=fun g=>⟨some l,.is (.loop rec)⟩ :: ⟨some D,.db⟩ :: Ls bZ g) e8 (List.Sublist.refl _) (of_bool.2 rfl)
     | inr q=>
       obtain⟨aG,rfl,e8,hf⟩:=CA
       obtain⟨nw,bl,hX⟩:=fin (some (eD q)) hf
       have key:jh (aN (⟨some l,.is (.loop rec)⟩ :: ⟨some D,.db⟩ :: Ls s g)) A m0 (fun _:γ=>I.of false) (fun g=>⟨some l,.is (.loop { rec with state:= .done,pending:=some (eD q) })⟩ :: ⟨some D,.db⟩ :: Lx q g) (.returned (.bool false)) nw:=
        hX.ends (ρ:=fun _:γ=>I.of false) (Lo:=fun g=>⟨some l,.is (.loop { rec with state:= .done,pending:=some (eD q) })⟩ :: ⟨some D,.db⟩ :: Lx q g) e8 (List.Sublist.refl _) (of_bool.2 rfl)
       exact HT aG bl key
   | exit id=>exact hq.elim
   | goto t=>exact hq.elim
   | ret=>exact hq.elim
   | panic GZ=>exact hq.elim
   | outgrown=>exact hq.elim
 have Gu:Gp c.P f lA Lin τ run ku lH:=by rw [oM]; exact j9 _ _ lH
 have yT:=Gu step b1 g0 r aU c.bP g6 (.func (.yield l) #[] #[]) hh yS Gq FJ
 have lb:a.eval (.tmp gt)= .func (.func f) #[] hh.toArray:=by simp [Act.eval,zO,tL]
 refine⟨l,[B5 D],g6,{ target:= .fn (.func f) hh.toArray,args:= #[.func (.yield l) #[] #[]] },g6,f,#[.func (.yield l) #[] #[]] ++ hh.toArray,g6,zQ,?_,fun _ _=>trivial,?_,fun h=>by simp at h,?_⟩
 ·simp only [resolve,lb]
  simp [go_sem]
 ·simp [invoke,go_sem,dS.run]
 ·refine CallsIn.Ei ?_
  have Fk:(#[.func (.yield l) #[] #[]] ++ hh.toArray:Array Value)=(.func (.yield l) #[] #[] :: hh).toArray:=by simp
  rw [Fk]
  refine yT.mono fun e He ⟨WJ,e8,he,ba,aD,aZ,a6,bl⟩=> ?_
  subst he
  have nx:=zS.after ba aD (by simpa [aN] using aZ) (by simpa [aN] using a6)
  rw [List.append_nil] at nx
  cases r with
  | inl bZ=>
    simp only [Lr] at nx
    subst oM
    have Ai:bC c E (⟨some l,.is (.loop rec)⟩ :: ⟨some D,.db⟩ :: (Lin ++ Ls bZ e8)) a He:=nx.perm (by
     exact List.perm_middle.trans (List.perm_middle.cons _))
    obtain⟨o,eA,fQ⟩:=Ai.own ⟨some l,.is (.loop rec)⟩ (by simp)
    have ow:o= .loop rec:=fQ
    subst ow
    have mR:=run_endLoop (P:=c.P) eA (by rw [jD]; simp)
    have lI:rec.pending=none:=by rw [jD]
    rw [lI] at mR
    refine⟨none,_,mR,?_⟩
    have qM:=(Ai.qf (i:=0) (cp':= .is (.loop { rec with state:= .exhausted })) (o':= .loop { rec with state:= .exhausted }) rfl rfl).nn 1
    rw [lI] at qM
    exact pe bZ rfl e8 D _ _ (qM.mark D)
  | inr q=>
    simp only [Lr] at nx
    subst zR
    have Ai:bC c E (⟨some l,.is (.loop { rec with state:= .done,pending:=some (eD q) })⟩ :: ⟨some D,.db⟩ :: (Lin ++ Lx q e8)) a He:=nx.perm (by
     exact List.perm_middle.trans (List.perm_middle.cons _))
    obtain⟨o,eA,fQ⟩:=Ai.own ⟨some l,.is (.loop { rec with state:= .done,pending:=some (eD q) })⟩ (by simp)
    have ow:o= .loop { rec with state:= .done,pending:=some (eD q) } :=fQ
    subst ow
    have mR:=run_endLoop (P:=c.P) eA (by simp)
    refine⟨some (eD q),_,mR,?_⟩
    have qM:=(Ai.qf (i:=0) (cp':= .is (.loop { rec with state:= .exhausted,pending:=some (eD q) })) (o':= .loop { rec with state:= .exhausted,pending:=some (eD q) }) rfl rfl).nn 1
    exact sV q rfl e8 D _ _ (qM.mark D)
theorem Qu {gt p:Nat} {assign body:Code} {f:FuncId} {lA:List I} {Lin:List aL} {α σ ε γ:Type} {τ:α→I} {run:∀ {σ ε:Type},(α→σ→Option (σ ⊕ ε))→σ→Option (σ ⊕ ε)}
 {Ls:σ→γ→List aL} {Lx:ε→γ→List aL} {step:α→σ→Option (σ ⊕ ε)} {b1:σ} {g0:γ} {r:σ ⊕ ε} (eD:ε→Code)
 (ar:c.rd=none) (dS:bM c.P f) (bx:look E gt=some (.gE f lA)) (j9:x8 c.P f lA Lin τ run) (aU:run step b1=some r) (ao:L=Lin ++ Ls b1 g0) (hp:Nat.blt p c.n=true)
 (nI:∀ x s r,step x s=some r→ ∀ g (kp:World) (kz kq:List Nat) (l D:Nat) (rec:Loop),rec.state= .ready→
  ag ⟨c.P,c.n,kp,kz,kq,some l,[]⟩ (Exit.then (Ag ⟨c.P,c.n,kp,kz,kq,some l,[]⟩ l body (Af ⟨c.P,c.n,kp,kz,kq,some l,[]⟩ eD l D { rec with state:= .busy } Ls Lx r)) (fun _ _ _=>False)) assign ((p,τ x) :: E) (⟨some l,.is (.loop rec)⟩ :: ⟨some D,.db⟩ :: Ls s g))
 (pe:∀ bZ,r= .inl bZ→ ∀ g D,ab { c with ds:=D :: c.ds } Q .normal E (⟨some D,.db⟩ :: (Lin ++ Ls bZ g)))
 (sV:∀ q,r= .inr q→ ∀ g D,ag { c with ds:=D :: c.ds } Q (eD q) E (⟨some D,.db⟩ :: (Lin ++ Lx q g))):
 ag c Q (.rangeFunc (.tmp gt) #[p] assign body) E L:=
 IW (run:=run) eD ar dS bx (fun av aX lH=>j9.go (fun s g=>av :: aX :: Ls s g) lH) aU ao hp nI pe sV
theorem O4 {P:Program} {fn:Func} {R:Ending→World→Prop} {a:Act} {W:World} (h:bodyPost P fn R .ret a W):bodyPostM Fence.wide 9 P fn R .ret a W:=by
 obtain⟨aa,v,ae,aD⟩:=h
 show LeavesInM Fence.wide 9 P fn a.tmps R a.defers .returning W
 rw [aa]
 exact⟨v,ae,aD⟩
theorem ab.sZ {P:Program} {fn:Func} {R:Ending→World→Prop} (k:ab c (bodyPost P fn R) .ret E L):ab c (bodyPost P fn R) .normal E L:=fun a W s=>k a W s
theorem ab.B0 {fn:Func} {R:Ending→World→Prop} (k:ab c (bodyPost c.P fn R) .ret E L):ab c (bodyPostM Fence.wide 9 c.P fn R) .ret E L:=fun a W s=>O4 (k a W s)
theorem ab.s8 {fn:Func} {R:Ending→World→Prop} {D:Nat} (i:Nat) (ao:L[i]? =some ⟨some D,.db⟩) (ht:c.ds= [D]) (k:ab { c with ds:= [] } (bodyPost c.P fn R) .ret E (L.set i ⟨some D,.is (.deferred none)⟩)):
 ab c (bodyPostM Fence.wide 9 c.P fn R) .ret E L:=fun a W s=>by
 obtain⟨o,aa,ae⟩:=s.own _ (List.mem_of_getElem? ao)
 have la:o= .deferred (some []):=ae
 subst la
 have s2:=s.qf ao (cp':= .is (.deferred none)) (o':= .deferred none) rfl
 have ky:bC { c with ds:= [] } E (L.set i ⟨some D,.is (.deferred none)⟩) { a with defers:= [] } (W.putObj D (.deferred none)):=
  {defers:=rfl,size:=s2.size,env:=s2.env,dm:=s2.dm,own:=s2.own,nodup:=s2.nodup,lt:=s2.lt,fI:=s2.fI,eB:=s2.eB }
 obtain⟨_,v,aD,aZ⟩:=k _ _ ky
 show LeavesInM Fence.wide 9 c.P fn a.tmps R a.defers .returning W
 rw [s.defers,ht]
 exact⟨by simp,.inl ⟨D,_,rfl,run_takeDeferred aa,v,aD,aZ⟩⟩
end
theorem bE.RX {P:Program} {f:FuncId} {fn:Func} {code:Code} {n:Nat} {τs:List I} {ρ:I} (ba:P.funcs[f]? =some fn) (hb:fn.body=some code) (aP:fn.ntmps=n) (hlen:Nat.ble τs.length n=true)
 (h:∀ W A,ag ⟨P,n,W,[],A,none,[]⟩ (bodyPostM Fence.wide 9 P fn fun e W'=> ∃ v,e= .returned v∧Fr [] W W'∧ρ.holds A W' v) code (params 0 τs) []):bE P f τs ρ:=by
 intro A W vs fU a2
 refine(callsIn_wide (n:=9)).1 (callsIn_of_wp_marks ba hb trivial (h W A _ _ ?_))
 have an:=a2.length
 have hle:τs.length≤n:=Nat.le_of_ble_eq_true hlen
 exact
 {defers:=rfl
  size:=by simp [aP,an]; omega
  env:=fun t τ kM=>by
   obtain⟨_,v,ae,aD⟩:=sm a2 0 t τ kM
   refine⟨v,?_,aD⟩
   have cl:t < vs.length:=(List.getElem?_eq_some_iff.1 ae).1
   rw [Array.getElem?_append_left (by simpa using cl)]
   simpa using ae
  dm:= .refl _ _
  own:=by simp
  nodup:=by simp [aN]
  lt:=by simp [aN]
  fI:=by simp [aN]
  eB:=fun k ax=>⟨fU k ax,by simp [aN]⟩ }
theorem bE.ofM {P:Program} {f:FuncId} {fn:Func} {code:Code} {n:Nat} {τs:List I} {ρ:I} (ba:P.funcs[f]? =some fn) (hb:fn.body=some code) (aP:fn.ntmps=n) (hlen:Nat.ble τs.length n=true)
 (h:∀ W A,ag ⟨P,n,W,[],A,none,[]⟩ (bodyPostM Fence.wide 9 P fn (td ⟨P,n,W,[],A,none,[]⟩ ρ)) code (params 0 τs) []):bE P f τs ρ:=bE.RX ba hb aP hlen h
theorem cf.ofM {P:Program} {f:FuncId} {fn:Func} {code:Code} {n:Nat} {τs:List I} {Lin:List aL} {δ:Type} {ρ:δ→I} {Lo:δ→List aL} (ba:P.funcs[f]? =some fn) (hb:fn.body=some code) (aP:fn.ntmps=n) (hlen:Nat.ble τs.length n=true)
 (h:∀ W A,ag ⟨P,n,W,aN Lin,A,none,[]⟩ (bodyPostM Fence.wide 9 P fn (jh (aN Lin) A W ρ Lo)) code (params 0 τs) Lin):cf P f τs Lin ρ Lo:=by
 intro A W vs fU ij cl hy a2
 refine(callsIn_wide (n:=9)).1 (callsIn_of_wp_marks ba hb trivial (h W A _ _ ?_))
 have an:=a2.length
 have hle:τs.length≤n:=Nat.le_of_ble_eq_true hlen
 exact
 {defers:=rfl
  size:=by simp [aP,an]; omega
  env:=fun t τ kM=>by
   obtain⟨_,v,ae,aD⟩:=sm a2 0 t τ kM
   refine⟨v,?_,aD⟩
   have cl:t < vs.length:=(List.getElem?_eq_some_iff.1 ae).1
   rw [Array.getElem?_append_left (by simpa using cl)]
   simpa using ae
  dm:= .refl _ _
  own:=hy
  nodup:=ij
  lt:=cl
  fI:=fun k ax _=>ax
  eB:=fU }
end Gv
namespace Gv
open Go
set_option linter.unusedVariables false
set_option linter.unusedSimpArgs false
theorem DG {τ σ:I} (h:τ.Flat) (k:σ.Flat):(I.cG [τ,σ]).Flat:=fun A W cQ W' v ⟨vs,aa,ae⟩=>by
 refine⟨vs,aa,?_⟩
 generalize vs.toList=l at ae
 cases ae with
 | cons a r=>cases r with
   | cons b r=>cases r; exact .cons (h _ _ _ _ _ a) (.cons (k _ _ _ _ _ b) .nil)
section
variable {c:cY} {E:List (Nat × I)} {L:List aL} {ops:Array Oper} {Q:Exit→Act→World→Prop}
variable {d:Option Tmp} {ty:TypeId} {pos:String} {af:Array Edge} {g:Option (Nat × Bool)} {x y:Operand} {t t2:TypeId}
theorem bY.via {o:Oper} {τ:I} {E':List (Nat × I)} {L':List aL} (ba:τ.Flat) (hs:∀ a W,bC c E L a W→bC c E' L' a W) (h:bY c E' L' o τ):bY c E L o τ:=fun a W st=>by
 have:=h a W (hs a W st)
 unfold gh at this ⊢
 exact Oper.wp_mono (fun iE W' ⟨v,aa,ae,aD⟩=>⟨v,aa,ae,ba _ _ _ _ _ aD⟩) this
theorem bC.tell {a:Act} {W:World} (s:bC c E L a W) {eT:Nat} {σ τ:I} (an:look E eT=some σ) (h:∀ v,σ.holds (aN L ++ c.bP) W v→τ.holds (aN L ++ c.bP) W v):bC c ((eT,τ) :: E) L a W:=by
 refine { s with env:=fun t lD eC=> ?_ }
 simp only [look] at eC
 by_cases e:Nat.beq eT t=true
 ·rw [e] at eC
  simp only [cond_true,Option.some.injEq] at eC
  subst eC
  have:=eO.1 e
  subst this
  obtain⟨v,aa,ae⟩:=s.env eT _ an
  exact⟨v,aa,h v ae⟩
 ·simp only [Bool.not_eq_true] at e
  rw [e] at eC
  exact s.env t lD eC
theorem bC.Ll {a:Act} {W:World} (s:bC c E L a W) {i p:Nat} {α:Type} [ah α] {z:α} (ao:L[i]? =some ⟨some p,.var z⟩):
 (I.ptr z).holds (aN (L.set i ⟨none,.dead⟩) ++ c.bP) W (.pointer (some ⟨p,0,none⟩)):=by
 obtain⟨o,dZ,cs,T,rfl,aU⟩:=s.own _ (List.mem_of_getElem? ao)
 have hlen:cs.toList.length=ah.size α:=ah.len aU
 refine⟨p,0,cs,T,(0,0),rfl,s.xO ao,dZ,by simp at hlen; omega,?_⟩
 rw [List.drop_zero,← hlen,List.take_length]
 have k2:=uB (L:=L) (i:=i) (cp:= .dead)
 exact ah.mono (.drop fun k hm=>by
  rcases List.mem_append.1 hm with hm | hm
  ·exact List.mem_append.2 (.inl (k2.subset hm))
  ·exact List.mem_append.2 (.inr hm)) aU
abbrev zT (f p:Nat):Value:= .func (.func f) #[.pointer (some ⟨p,0,none⟩)] #[]
theorem Th {f p:Nat} (aq:a7 c E L x (.eq (.pointer (some ⟨p,0,none⟩)))):bY c E L ⟨d,.makeFunc (.func f) #[x] #[],ty,pos,af,g⟩ (.eq (zT f p)):= .pure fun a W s=>by
 have h:=aq a W s
 refine⟨_,?_,rfl⟩
 have cX:a.eval x= .pointer (some ⟨p,0,none⟩):=h
 simp [execOp,Instr.makeFunc,cX,zT]
theorem Rl {f p:Nat} {α β γ δ:Type} [ah α] [ah β] [ah γ] [ah δ] {z:δ} {F:α→β→Option γ} {P:Program} (dS:bM P f) (h:∀ x y r,F x y=some r→bE P f [.ptr z,.of x,.of y] (.of r)) {A:List Nat} {W:World}
 (hp:(I.ptr z).holds A W (.pointer (some ⟨p,0,none⟩))):(I.Cl P F).holds A W (zT f p):=
 ⟨f,_,#[],rfl,dS,fun cQ W' e fU x y r oQ CU lh a2 tL=>by simpa using h x y r lh cQ W' [_,oQ,CU] fU (.cons (I.mono _ e hp) (.cons a2 (.cons tL .nil)))⟩
theorem bY.Lc {o:Oper} {τ σ:I} {p:Nat} {α:Type} [ah α] {z:α} (i eT:Nat) (an:look E eT=some σ) (a2:∀ A W v,σ.holds A W v→v= .pointer (some ⟨p,0,none⟩)) (ao:L[i]? =some ⟨some p,.var z⟩) (ba:τ.Flat)
 (h:bY c ((eT,.ptr z) :: E) (L.set i ⟨none,.dead⟩) o τ):bY c E L o τ:=
 .via ba (fun a W s=>(s.kill i).tell (σ:=σ) an (fun v ch=>by rw [a2 _ _ _ ch]; exact s.Ll ao)) h
theorem bY.RO {o:Oper} {τ:I} {p f:Nat} {α β γ δ:Type} [ah α] [ah β] [ah γ] [ah δ] {z:δ} {F:α→β→Option γ} (i eT:Nat) (an:look E eT=some (.eq (zT f p))) (ao:L[i]? =some ⟨some p,.var z⟩) (dS:bM c.P f)
 (lh:∀ x y r,F x y=some r→bE c.P f [.ptr z,.of x,.of y] (.of r)) (ba:τ.Flat) (h:bY c ((eT,.Cl c.P F) :: E) (L.set i ⟨none,.dead⟩) o τ):bY c E L o τ:=
 .via ba (fun a W s=>(s.kill i).tell an (fun v ch=>by have V4:v=zT f p:=ch; rw [V4]; exact Rl dS lh (s.Ll ao))) h
theorem bY.Tf {o:Oper} {τ:I} {p cap T:Nat} {key:Option Nat} {β γ:Type} [ah β] [ah γ] {b b':β} {xs:List γ} {os os':List (Nat × Value)} (l:aK β (List γ)) (i j q:Nat) (eY:Nat.beq i j=false) (ao:L[i]? =some ⟨some p,.cg b os⟩) (kc:L[j]? =some ⟨key,.row T xs cap⟩)
 (hq:os[q]? =some (l.off,aV key xs.length cap)) (hb:l.set b xs=b') (jK:mz os l.off=os') (ba:τ.Flat) (h:bY c E ((L.set j ⟨none,.dead⟩).set i ⟨some p,.cg b' os'⟩) o τ):bY c E L o τ:=
 .via ba (fun a W s=>s.iA l (fun e=>by rw [e,Nat.beq_refl] at eY; cases eY) ao kc q hq hb jK) h
theorem bY.RN {o:Oper} {τ:I} {p cap T:Nat} {key:Option Nat} {β γ:Type} [ah β] [ah γ] {b b':β} {xs:List γ} {os os':List (Nat × Value)} (l:aK β (List γ)) (i j q eT:Nat) (eY:Nat.beq i j=false) (ao:L[i]? =some ⟨some p,.cg b os⟩) (kc:L[j]? =some ⟨key,.row T xs cap⟩)
 (hq:os[q]? =some (l.off,aV key xs.length cap)) (hb:l.set b xs=b') (jK:mz os l.off=os') (k7:look E eT=some (.eq (aV key xs.length cap))) (ba:τ.Flat) (h:bY c ((eT,.of xs) :: E) ((L.set j ⟨none,.dead⟩).set i ⟨some p,.cg b' os'⟩) o τ):bY c E L o τ:=
 .via ba (fun a W s=>s.sU l (fun e=>by rw [e,Nat.beq_refl] at eY; cases eY) ao kc q hq hb jK k7) h
theorem bY.Lb {o:Oper} {τ:I} {p:Nat} {β:Type} [ah β] {b:β} (i:Nat) (ao:L[i]? =some ⟨some p,.cg b []⟩) (ba:τ.Flat) (h:bY c E (L.set i ⟨some p,.var b⟩) o τ):bY c E L o τ:=
 .via ba (fun a W s=>s.vf (cp':= .var b) ao (fun o ⟨cs,T,aa,ae⟩=>⟨cs,T,aa,ae.1⟩) id) h
theorem Iy {P:Program} {T:TypeId} {e:TypeId} (h:P.underlying T=some (.pointer e)) (p:Addr) (W:World) (n:Nat):(Op.equalIn (n + 1) T (.pointer (some p)) (.pointer none)).run P W= .ok false W:=by
 simp [Op.equalIn,run_underlying h]
theorem EG {p:Addr} {e:TypeId} (hu:c.P.underlying t=some (.pointer e)) (aq:a7 c E L x (.eq (.pointer (some p)))):bY c E L ⟨d,.binOp .eql t x (.const (.pointer none)) t2,ty,pos,af,g⟩ (.of false):= .pure fun a W s=>by
 have aP:a.eval (.const (.pointer none))= .pointer none:=rfl
 have aa:a.eval x= .pointer (some p):=aq a W s
 refine⟨.bool false,?_,of_bool.2 rfl⟩
 simp only [execOp,eqGuard,binOp,aa,aP,Op.equal,Op.maxDepth]
 simp [Iy hu p W 9999]
theorem Q4 {γ:Type} [ah γ] {r:γ} {e:TypeId} (hu:c.P.underlying t=some (.pointer e)) (aq:a7 c E L x (.ptr r)):bY c E L ⟨d,.binOp .eql t x (.const (.pointer none)) t2,ty,pos,af,g⟩ (.of false):= .pure fun a W s=>by
 have aP:a.eval (.const (.pointer none))= .pointer none:=rfl
 obtain⟨b,off,cur,T,gq,aa,_⟩:=aq a W s
 refine⟨.bool false,?_,of_bool.2 rfl⟩
 simp only [execOp,eqGuard,binOp,aa,aP,Op.equal,Op.maxDepth]
 simp [Iy hu _ W 9999]
theorem ag.bI {code:Code} (i:Nat) {e:aL} (h:L[i]? =Option.some e) (k:ag c Q code E (e :: L.eraseIdx i)):ag c Q code E L:=fun a W s=>k a W (s.bI h)
theorem ag.FQ {z:Code} {p:Nat} {β γ:Type} [ah β] [ah γ] {b b':β} {os:List (Nat × Value)} {u:Value} (l:aK β (List γ)) (i q:Nat) (ao:L[i]? =Option.some ⟨Option.some p,.cg b os⟩) (hq:os[q]? =Option.some (l.off,u)) (hb:l.set b []=b')
 (k:ag c Q z E (L.set i ⟨Option.some p,.cg b' os⟩)):ag c Q z E L:=fun a W s=>
 k a W (s.again (cp':= .cg b' os) ao (fun A W o ⟨cs,T,aa,ae⟩=>⟨cs,T,aa,hb ▸ DY l ae (List.mem_of_getElem? hq)⟩) id)
theorem QZ {p:Option Addr} :∀ A W v,(I.eq (.pointer p)).holds A W v→v.oneCell'=true:=fun A W v h=>by
 have cX:v= .pointer p:=h
 rw [cX]; rfl
def gO (c:cY) (E:List (Nat × I)) (L:List aL) (o:Oper) (τ:I):Prop:=
 ∀ a W,bC c E L a W→gh c.P o a W fun v W'=>bC c E L a W'∧τ.holds (aN L ++ c.bP) W' v
theorem ai.lf {o:Oper} {rest:List Oper} {d:Nat} {τ:I} (h:gO c E L o τ) (bx:o.guard=none) (hd:o.dst=some d) (aP:Nat.blt d c.n=true)
 (k:ai c ops Q rest ((d,τ) :: E) L):ai c ops Q (o :: rest) E L:=fun a W s=>
 hI bx (h a W s) fun v W' ⟨f,a2⟩=>by
  rw [hd]
  exact k _ _ (f.put (by simpa using aP) a2)
theorem ai.GU {o:Oper} {rest:List Oper} {d j g:Nat} {b want:Bool} {τ:I} (h:b=want→gO c E L o τ) (bx:o.guard=some (j,want)) (aG:(ops[j]?).bind (·.dst)=some g)
 (an:look E g=some (.of b)) (hd:o.dst=some d) (aP:Nat.blt d c.n=true)
 (k:ai c ops Q rest ((d,.cond (b=want) τ) :: E) L):ai c ops Q (o :: rest) E L:=fun a W s=>by
 have a9:=uS aG an s
 unfold cY.oD wpListIn
 by_cases hb:b=want
 ·rw [if_pos (by simp [Region.wanted,bx,a9,hb])]
  refine((h hb a W s).wpIn fun v W' ⟨f,a2⟩=> ?_)
  rw [hd]
  exact k _ _ (f.put (by simpa using aP) ⟨fun _=>a2,fun h=>absurd hb h⟩)
 ·rw [if_neg (by simp [Region.wanted,bx,a9,hb])]
  rw [hd]
  exact⟨fun _ _=>trivial,k _ _ (s.put (by simpa using aP) ⟨fun h=>absurd h hb,fun _=>rfl⟩)⟩
def nU (L:List aL):List Nat→List aL→Prop
 | [],[]=>True
 | i :: is,e :: es=>L[i]? =some e∧nU L is es
 | _,_=>False
theorem H9 {L:List aL} {i j:Nat} (h:i≠j):(L.eraseIdx i)[if j < i then j else j - 1]? =L[j]? :=by
 rw [List.getElem?_eraseIdx]
 by_cases aa:j < i
 ·simp [aa]
 ·have: ¬ (j - 1 < i):=by omega
  simp only [aa,if_false,this]
  congr 1; omega
theorem nU.shift {L:List aL} {i:Nat} :∀ {is:List Nat} {es:List aL},nU L is es→i ∉ is→nU (L.eraseIdx i) (is.map fun j=>if j < i then j else j - 1) es
 | [],[],_,_=>trivial
 | j :: is,e :: es,⟨aa,ae⟩,aP=>by
   simp only [List.mem_cons,not_or] at aP
   exact⟨by rw [H9 aP.1]; exact aa,nU.shift ae aP.2⟩
theorem Ii {i:Nat} :∀ {is:List Nat},is.Nodup→i ∉ is→ (is.map fun j=>if j < i then j else j - 1).Nodup
 | [],_,_=>by simp
 | j :: is,h,aP=>by
   simp only [List.mem_cons,not_or] at aP
   obtain⟨aa,ae⟩:=List.nodup_cons.1 h
   refine List.nodup_cons.2 ⟨fun hm=> ?_,Ii ae aP.2⟩
   obtain⟨k,ax,he⟩:=List.mem_map.1 hm
   have zK:k≠i:=fun e=>aP.2 (e ▸ ax)
   have Xk:k≠j:=fun e=>aa (e ▸ ax)
   have iD:j≠i:=fun e=>aP.1 e.symm
   have Cu:(if k < i then k else k - 1)=(if j < i then j else j - 1):=he
   split at Cu <;> split at Cu <;> omega
theorem nU.perm:∀ {is:List Nat} {es L:List aL},nU L is es→is.Nodup→ ∃ R,L.Perm (es ++ R)
 | [],[],L,_,_=>⟨L,List.Perm.refl _⟩
 | i :: is,e :: es,L,⟨aa,ae⟩,aP=>by
   obtain⟨mc,px⟩:=List.nodup_cons.1 aP
   obtain⟨R,iv⟩:=(ae.shift mc).perm (Ii px mc)
   exact⟨R,(qX aa).trans (iv.cons e)⟩
 termination_by is=>is.length
 decreasing_by simp
theorem gO.call {f:FuncId} {xs:List Operand} {ats:Array TypeId} {τs:List I} {Lin:List aL} {ρ:Unit→I} {Lo:Unit→List aL} (is:List Nat) (dS:bM c.P f) (h:cf c.P f τs Lin ρ Lo)
 (aq:g1 c E L xs τs) (aP:decide is.Nodup=true) (hp:nU L is Lin) (an:Lo ()=Lin):gO c E L ⟨d,.call ⟨.value (.func f),xs.toArray,ats⟩,ty,pos,af,g⟩ (ρ ()):=fun a W s=>by
 obtain⟨R,iv⟩:=hp.perm (of_decide_eq_true aP)
 have bZ:=s.perm iv
 have Gw:=sz iv
 have CB:∀ k,k∈aN L ++ c.bP↔k∈aN (Lin ++ R) ++ c.bP:=fun k=>by
  simp only [List.mem_append]; rw [Gw.mem_iff]
 have ch:fV (aN (Lin ++ R) ++ c.bP) W τs (xs.map a.eval):=(aq.Km s).mono (.drop fun k hm=>(CB k).2 hm)
 have bh:=xG (d:=d) (ty:=ty) (pos:=pos) (af:=af) (g:=g) (ats:=ats) dS h bZ ch
 unfold gh at bh ⊢
 refine Oper.wp_mono (fun iE W' ⟨v,aa,a4,ae,aD⟩=>⟨v,aa,?_,?_⟩) bh
 ·cases a4; rw [an] at ae; exact ae.perm iv.symm
 ·cases a4
  rw [an] at aD
  exact I.mono _ (.drop fun k hm=>(CB k).1 hm) aD
theorem nU.set {L:List aL} {i j:Nat} {x y av aX:aL} (eY:i≠j) (au:L[i]? =some av) (aG:L[j]? =some aX):∃ R,L.Perm (av :: aX :: R)∧ ((L.set i x).set j y).Perm (x :: y :: R):=by
 have F4:nU L [i,j] [av,aX]:=⟨au,aG,trivial⟩
 have hle:∀ M:List aL,∀ u v:aL,M[i]? =some u→M[j]? =some v→M.Perm (u :: v :: (M.eraseIdx i).eraseIdx (if j < i then j else j - 1)):=fun M u v aa ae=>
  (qX aa).trans ((qX (by rw [H9 eY]; exact ae)).cons u)
 refine⟨_,hle L av aX au aG,?_⟩
 have jl:=(List.getElem?_eq_some_iff.1 au).1
 have wc:=(List.getElem?_eq_some_iff.1 aG).1
 have aa:=hle ((L.set i x).set j y) x y (by rw [List.getElem?_set_ne (Ne.symm eY),List.getElem?_set_self jl]) (by rw [List.getElem?_set_self (by simpa using wc)])
 have ae:((L.set i x).set j y).eraseIdx i=(L.eraseIdx i).set (if j < i then j else j - 1) y:=by
  apply List.ext_getElem?
  intro k
  simp only [List.getElem?_eraseIdx,List.getElem?_set,List.length_set,List.length_eraseIdx,jl,if_true]
  by_cases ax:k < i <;> by_cases iD:j < i <;> simp only [ax,iD,if_true,if_false] <;> (repeat' split) <;> first | rfl | omega | skip
 rw [ae,List.eraseIdx_set_eq] at aa
 exact aa
theorem ai.RP {rest:List Oper} {a4:Nat} {f:FuncId} {xs:List Operand} {ats:Array TypeId} {τs:List I} {av aX:aL} {δ:Type} {ρ:δ→I} {Lo:δ→List aL} (lo:δ→aL) (i j:Nat) (dS:bM c.P f) (h:cf c.P f τs [av,aX] ρ Lo)
 (aq:g1 c E L xs τs) (eY:Nat.beq i j=false) (au:L[i]? =some av) (aG:L[j]? =some aX) (hv:∀ q,Lo q= [lo q]) (aP:Nat.blt a4 c.n=true) (k:∀ q,ai c ops Q rest ((a4,ρ q) :: E) ((L.set i (lo q)).set j ⟨none,.dead⟩)):
 ai c ops Q (⟨some a4,.call ⟨.value (.func f),xs.toArray,ats⟩,ty,pos,af,none⟩ :: rest) E L:=fun a W s=>by
 have dn:i≠j:=fun e=>by rw [e,Nat.beq_refl] at eY; cases eY
 obtain⟨R,iv,_⟩:=nU.set (x:=av) (y:=aX) dn au aG
 have bZ:=s.perm iv
 have Gw:=sz iv
 have CB:∀ k,k∈aN L ++ c.bP↔k∈aN ([av,aX] ++ R) ++ c.bP:=fun k=>by
  simp only [List.mem_append]; rw [Gw.mem_iff]; simp [eH]
 have ch:fV (aN ([av,aX] ++ R) ++ c.bP) W τs (xs.map a.eval):=(aq.Km s).mono (.drop fun k hm=>(CB k).2 hm)
 refine hI rfl (xG (Lin:= [av,aX]) dS h bZ ch) fun v W' ⟨q,ae,aD⟩=> ?_
 refine k q _ _ ?_
 obtain⟨CW,V5,MG⟩:=nU.set (x:=lo q) (y:=⟨none,.dead⟩) dn au aG
 have V6:(av :: aX :: R).Perm (av :: aX :: CW):=iv.symm.trans V5
 have L7:R.Perm CW:=(V6.cons_inv).cons_inv
 rw [hv] at ae aD
 have aZ:bC c E (lo q :: ⟨none,.dead⟩ :: R) a W':= { ae with
  own:=fun e he=>by
   simp only [List.mem_cons] at he
   rcases he with rfl | rfl | he
   ·exact ae.own _ (by simp)
   ·trivial
   ·exact ae.own _ (by simp [he]) }
 have a6:bC c E ((L.set i (lo q)).set j ⟨none,.dead⟩) a W':=aZ.perm (((L7.cons _).cons _).trans MG.symm)
 have bl:(aN ((L.set i (lo q)).set j ⟨none,.dead⟩)).Perm (aN (lo q :: R)):=by
  have:=sz (MG.trans ((L7.symm.cons _).cons _))
  simpa [aN] using this
 refine a6.put (by simpa using aP) (I.mono _ (.drop fun k hm=> ?_) aD)
 rcases List.mem_append.1 hm with hm | hm
 ·exact List.mem_append.2 (.inl (bl.mem_iff.1 hm))
 ·exact List.mem_append.2 (.inr hm)
theorem FZ {L:List aL} {i:Nat} {x e:aL} (h:L[i]? =some x):(L.set i e)[i]? =some e:=by
 rw [List.getElem?_set_self (List.getElem?_eq_some_iff.1 h).1]
theorem Mk {L:List aL} {i j:Nat} {r:Option aL} {e:aL} (aP:Nat.beq j i=false) (h:L[i]? =r):(L.set j e)[i]? =r:=by
 rw [List.getElem?_set_ne (fun e=>by rw [e,Nat.beq_refl] at aP; cases aP)]; exact h
theorem ab.again {z:Exit} {key:Option Nat} {cp:dx} (cp':dx) (i:Nat) (ao:L[i]? =some ⟨key,cp⟩) (h:∀ A W o,cp.holds A W o→cp'.holds A W o) (aP:cp.mI→cp'.mI) (k:ab c Q z E (L.set i ⟨key,cp'⟩)):ab c Q z E L:=fun a W s=>
 k a W (s.again ao h aP)
end
end Gv
namespace Gv
open Go
set_option linter.unusedVariables false
set_option linter.unusedSimpArgs false
abbrev aC (α:Type):=(α→Prop)→Prop
def aC.of {α:Type} (o:Option α):aC α:=fun Q=> ∃ r,o=some r∧Q r
def aC.bind {α β:Type} (m:aC α) (k:α→aC β):aC β:=fun Q=>m fun r=>k r Q
def aC.ret {α:Type} (x:α):aC α:=fun Q=>Q x
def oi {σ ε:Type} :Nat→ (σ→aC (σ ⊕ ε))→σ→aC ε
 | 0,_,_=>fun _=>False
 | n + 1,b,s=>fun Q=>b s fun r=>match r with
   | .inl bZ=>oi n b bZ Q
   | .inr e=>Q e
abbrev a1 (bU:Type):=List (Nat × bU)
abbrev Ref:=Option Nat
instance WW:ah Ref:= .scalar (fun x=>Value.pointer (x.map fun p=>⟨p,0,none⟩)) fun _=>rfl
theorem vg {A W v} {x:Ref} :(I.of x).holds A W v↔v= .pointer (x.map fun p=>⟨p,0,none⟩):=
 ⟨fun h=>m6 h.1 h.2,fun h=>by subst h; exact⟨rfl,rfl⟩⟩
instance:a8 Ref:=⟨[.pointer none],fun _ _=>rfl⟩
def aC.mk {bU:Type} (hp:a1 bU) (k:bU):aC (Nat × a1 bU):=fun Q=> ∀ a:Nat × a1 bU,a.1 ∉ hp.map (·.1)∧a.2=(a.1,k) :: hp→Q a
theorem aC.q3 {bU α:Type} {hp:a1 bU} {c:bU} {k:Nat × a1 bU→aC α} {R:α→Prop} (h:aC.bind (aC.mk hp c) k R) (a:Nat × a1 bU) (bn:a.1 ∉ hp.map (·.1)∧a.2=(a.1,c) :: hp):k a R:=h a bn
class e9 (bU:Type) where
 hT:Nat→bU→List aL
 root:∀ p k,∃ e∈hT p k,e.key=some p
def a3 {bU:Type} [e9 bU]:a1 bU→List aL
 | []=> []
 | (p,k) :: r=>e9.hT p k ++ a3 r
def pat {bU:Type} :a1 bU→Nat→Option bU
 | [],_=>none
 | (q,k) :: r,p=>if q=p then some k else pat r p
def dH {bU:Type} :a1 bU→Nat→bU→a1 bU
 | [],_,_=> []
 | (q,k) :: r,p,k'=>if q=p then(q,k') :: r else(q,k) :: dH r p k'
def ee {bU:Type} (hp:a1 bU):List Nat:=hp.map (·.1)
theorem uT {bU:Type} [e9 bU]:∀ {hp:a1 bU} {p:Nat} {k:bU},pat hp p=some k→ ∃ R,(a3 hp).Perm (e9.hT p k ++ R)∧ ∀ k',(a3 (dH hp p k')).Perm (e9.hT p k' ++ R)
 | [],_,_,h=>by simp [pat] at h
 | (q,Hf) :: r,p,k,h=>by
   simp only [pat] at h
   split at h
   ·rename_i e
    subst e
    simp only [Option.some.injEq] at h
    subst h
    exact⟨a3 r,.refl _,fun k'=>by simp only [dH,if_pos]; exact .refl _⟩
   ·rename_i e
    obtain⟨R,aa,ae⟩:=uT h
    refine⟨e9.hT q Hf ++ R,?_,fun k'=> ?_⟩
    ·exact(aa.append_left (e9.hT q Hf)).trans (by rw [← List.append_assoc,← List.append_assoc]; exact List.perm_append_comm.append_right R)
    ·simp only [dH,if_neg e]
     exact((ae k').append_left (e9.hT q Hf)).trans (by rw [← List.append_assoc,← List.append_assoc]; exact List.perm_append_comm.append_right R)
theorem Kq {bU:Type} [e9 bU] {hp:a1 bU} {p:Nat} (h:p∈ee hp):p∈aN (a3 hp):=by
 induction hp with
 | nil=>simp [ee] at h
 | cons x r b0=>
   obtain⟨q,k⟩:=x
   simp only [ee,List.map_cons,List.mem_cons] at h
   simp only [a3,eH,List.mem_append]
   rcases h with h | h
   ·subst h
    obtain⟨e,he,ax⟩:=e9.root p k
    exact .inl (kh.2 ⟨e,he,ax⟩)
   ·exact .inr (b0 h)
theorem kT {bU:Type} {hp:a1 bU} {p:Nat} {k:bU} (h:pat hp p=some k):p∈ee hp:=by
 induction hp with
 | nil=>simp [pat] at h
 | cons x r b0=>
   simp only [pat] at h
   split at h
   ·rename_i e; simp [ee,e]
   ·simp only [ee,List.map_cons,List.mem_cons]; exact .inr (b0 h)
theorem sA {bU:Type} {hp:a1 bU} {p:Nat} {k:bU} :ee (dH hp p k)=ee hp:=by
 induction hp with
 | nil=>rfl
 | cons x r b0=>simp only [dH]; split <;> simp_all [ee]
theorem x0 {bU:Type} {hp:a1 bU} {p q:Nat} {k:bU} :pat (dH hp p k) q=if p=q then(pat hp p).map (fun _=>k) else pat hp q:=by
 induction hp with
 | nil=>simp [dH,pat]
 | cons x r b0=>
   simp only [dH]
   by_cases e:x.1=p
   ·rw [if_pos e]
    by_cases h:p=q
    ·simp [pat,e,h]
    ·have: ¬ x.1=q:=fun cX=>h (e ▸ cX)
     simp [pat,e,h]
   ·rw [if_neg e]
    by_cases h:p=q
    ·subst h
     rw [if_pos rfl] at b0 ⊢
     simp [pat,e,b0]
    ·rw [if_neg h] at b0 ⊢
     simp [pat,b0]
section
variable {c:cY} {E:List (Nat × I)} {L:List aL} {ops:Array Oper} {Q:Exit→Act→World→Prop}
variable {d:Option Tmp} {ty:TypeId} {pos:String} {af:Array Edge} {g:Option (Nat × Bool)} {x y:Operand} {t t2:TypeId}
theorem QE {L L':List aL} (p:L.Perm L') {A:List Nat} (k:Nat):k∈aN L ++ A↔k∈aN L' ++ A:=by
 simp only [List.mem_append]; rw [(sz p).mem_iff]
theorem mv {L L':List aL} (p:L.Perm L') {A:List Nat} {W:World} :Ext (aN L ++ A) W (aN L' ++ A) W:= .drop fun k hm=>(QE p k).2 hm
theorem a7.perm {L':List aL} {x:Operand} {τ:I} (p:L.Perm L') (h:a7 c E L x τ):a7 c E L' x τ:=fun a W s=>
 τ.mono (mv p) (h a W (s.perm p.symm))
theorem bY.perm {L':List aL} {o:Oper} {τ:I} (p:L.Perm L') (h:bY c E L o τ):bY c E L' o τ:=fun a W s=>by
 have:=h a W (s.perm p.symm)
 unfold gh at this ⊢
 exact Oper.wp_mono (fun iE W' ⟨v,aa,ae,aD⟩=>⟨v,aa,ae,τ.mono (mv p) aD⟩) this
theorem ai.perm {l:List Oper} {L':List aL} (p:L.Perm L') (h:ai c ops Q l E L):ai c ops Q l E L':=fun a W s=>h a W (s.perm p.symm)
theorem fv {x:Operand} {r:Ref} {p:Nat} (aq:a7 c E L x (.of r)) (h:r=some p):a7 c E L x (.eq (.pointer (some ⟨p,0,none⟩))):=fun a W s=>by
 subst h
 exact vg.1 (aq a W s)
theorem qU:a7 c E L (.const (.pointer none)) (.of (none:Ref)):=fun a W s=>vg.2 rfl
variable {bU:Type} [e9 bU] {hp:a1 bU} {loc:List aL}
theorem gn {p n:Nat} {k:bU} {e:aL} (ao:L.drop n=a3 hp) (h:pat hp p=some k) (ax:e9.hT p k= [e]):e∈L:=by
 obtain⟨R,aa,_⟩:=uT h
 rw [ax] at aa
 have:e∈L.drop n:=by rw [ao]; exact aa.mem_iff.2 (by simp)
 exact List.mem_of_mem_drop this
theorem mM {L':List aL} {e:aL} (ao:∀ (i:Nat) (e:aL),L[i]? =some e→L'[i]? =some e) (h:e∈L):e∈L':=by
 obtain⟨i,au⟩:=List.mem_iff_getElem?.1 h
 exact List.mem_of_getElem? (ao i e au)
theorem hj {x:Operand} {t:TypeId} {p o:Nat} {β γ:Type} [ah β] [ah γ] {b:β} (l:aK β γ) {r:γ} (dR:bq c.P t γ) (aq:a7 c E L x (.eq (.pointer (some ⟨p,o,none⟩))))
 (hm:(⟨some p,.var b⟩:aL)∈L) (bh:o=l.off) (aU:l.get b=r):bY c E L ⟨d,.load t x,ty,pos,af,g⟩ (.of r):=by
 obtain⟨i,au⟩:=List.mem_iff_getElem?.1 hm
 exact dP (i:=i) l dR aq au bh aU
theorem ai.Rm {x y:Operand} {t:TypeId} {rest:List Oper} {p o:Nat} {k k':bU} {β γ:Type} [ah β] [ah γ] {b b':β} {v:γ} (l:aK β γ) (dR:bq c.P t γ) (aq:a7 c E (loc ++ a3 hp) x (.eq (.pointer (some ⟨p,o,none⟩))))
 (a9:a7 c E (loc ++ a3 hp) y (.of v)) (hp':pat hp p=some k) (ax:e9.hT p k= [⟨some p,.var b⟩]) (jI:e9.hT p k'= [⟨some p,.var b'⟩]) (bh:o=l.off) (hb:l.set b v=b')
 (nZ:ai c ops Q rest E (loc ++ a3 (dH hp p k'))):ai c ops Q (⟨none,.store t x y,ty,pos,af,none⟩ :: rest) E (loc ++ a3 hp):=by
 obtain⟨R,aa,ae⟩:=uT hp'
 have ae:=ae k'
 rw [ax] at aa
 rw [jI] at ae
 have dB:∀ {z:β} {M:List aL},M.Perm ([⟨some p,.var z⟩] ++ R)→ (loc ++ M).Perm (⟨some p,.var z⟩ :: (loc ++ R)):=fun h=>(h.append_left loc).trans (by simp only [List.singleton_append]; exact List.perm_middle)
 exact ai.perm (dB aa).symm (ai.store (i:=0) l dR (aq.perm (dB aa)) (a9.perm (dB aa)) rfl bh hb (ai.perm (dB ae) nZ))
theorem ai.o4 {x y:Operand} {t:TypeId} {rest:List Oper} {p o:Nat} {k k':bU} {eJ:a1 bU} {β γ:Type} [ah β] [ah γ] {b b':β} {v:γ} (n:Nat) (ao:L.drop n=a3 hp) (l:aK β γ) (dR:bq c.P t γ) (aq:a7 c E L x (.eq (.pointer (some ⟨p,o,none⟩)))) (a9:a7 c E L y (.of v)) (hp':pat hp p=some k) (ax:e9.hT p k= [⟨some p,.var b⟩]) (jI:e9.hT p k'= [⟨some p,.var b'⟩]) (bh:o=l.off) (hb:l.set b v=b') (eS:dH hp p k'=eJ) (nZ:ai c ops Q rest E (L.take n ++ a3 eJ)):ai c ops Q (⟨none,.store t x y,ty,pos,af,none⟩ :: rest) E L:=by
 subst eS
 have e:L=L.take n ++ a3 hp:=by rw [← ao,List.take_append_drop]
 clear ao
 generalize L.take n=loc at *
 subst e
 exact ai.Rm l dR aq a9 hp' ax jI bh hb nZ
theorem bC.fresh {a:Act} {W:World} (s:bC c E (loc ++ a3 hp) a W):W.heap.size ∉ ee hp:=fun h=>by
 have:=s.lt _ (by rw [eH]; exact List.mem_append.2 (.inr (Kq h)))
 omega
theorem ai.TE {t:TypeId} {x:Operand} {rest:List Oper} {a4:Nat} {α:Type} [ah α] {z:α} (mk:bU) (ax:∀ p,e9.hT p mk= [⟨some p,.var z⟩]) (aq:a7 c E (loc ++ a3 hp) x (.of z)) (aP:Nat.blt a4 c.n=true)
 (k:∀ p,p ∉ ee hp→ai c ops Q rest ((a4,.of (some p:Ref)) :: E) (loc ++ a3 ((p,mk) :: hp))):ai c ops Q (⟨some a4,.box t x,ty,pos,af,none⟩ :: rest) E (loc ++ a3 hp):=fun a W s=>by
 refine hI rfl (R:=fun v W'=>v= .pointer (some ⟨W.heap.size,0,none⟩)∧W'=W.alloc (.cells (a.eval x).cells t)) (.lq ?_ ⟨rfl,rfl⟩) fun v W' ⟨a2,hw⟩=> ?_
 ·simp [execOp,Instr.box,newVar,newRow]
 ·subst a2
  subst hw
  refine k _ s.fresh _ _ (bC.put ?_ (by simpa using aP) (vg.2 rfl))
  refine(s.alloc (cp:= .var z) ⟨_,t,rfl,(aq a W s).2⟩).perm ?_
  simp only [a3,ax,List.singleton_append]
  exact List.perm_middle.symm
theorem ai.yZ {t:TypeId} {x:Operand} {rest:List Oper} {a4:Nat} {α:Type} [ah α] {z:α} (n:Nat) (ao:L.drop n=a3 hp) (mk:bU) (ax:∀ p,e9.hT p mk= [⟨some p,.var z⟩]) (aq:a7 c E L x (.of z)) (aP:Nat.blt a4 c.n=true) (k:∀ a:Nat × a1 bU,a.1 ∉ hp.map (·.1)∧a.2=(a.1,mk) :: hp→ai c ops Q rest ((a4,.of (some a.1:Ref)) :: E) (L.take n ++ a3 a.2)):ai c ops Q (⟨some a4,.box t x,ty,pos,af,none⟩ :: rest) E L:=by
 have e:L=L.take n ++ a3 hp:=by rw [← ao,List.take_append_drop]
 clear ao
 generalize L.take n=loc at *
 subst e
 exact ai.TE mk ax aq aP fun p h=>k (p,(p,mk) :: hp) ⟨h,rfl⟩
theorem mw {A B C:List aL} :((A ++ B) ++ C).Perm ((A ++ C) ++ B):=by
 rw [List.append_assoc,List.append_assoc]; exact List.perm_append_comm.append_left A
theorem ai.lr {rest:List Oper} {a4:Nat} {f:FuncId} {xs:List Operand} {ats:Array TypeId} {τs:List I} {Lin Lr:List aL} {δ:Type} {ρ:δ→I} {Lo:δ→List aL} {hq:δ→a1 bU} (dS:bM c.P f) (h:cf c.P f τs (Lin ++ a3 hp) ρ (fun d=>Lo d ++ a3 (hq d)))
 (aq:g1 c E ((Lin ++ Lr) ++ a3 hp) xs τs) (aP:Nat.blt a4 c.n=true) (k:∀ q,ai c ops Q rest ((a4,ρ q) :: E) ((Lo q ++ Lr) ++ a3 (hq q))):
 ai c ops Q (⟨some a4,.call ⟨.value (.func f),xs.toArray,ats⟩,ty,pos,af,none⟩ :: rest) E ((Lin ++ Lr) ++ a3 hp):=fun a W s=>
 hI rfl (xG (Lr:=Lr) dS h (s.perm mw) ((aq.holds a W s).mono (mv mw))) fun v W' ⟨q,bZ,a2⟩=>
  k q _ _ ((bZ.perm mw).put (by simpa using aP) ((ρ q).mono (mv mw) a2))
theorem ai.kj {rest:List Oper} {a4:Nat} {f:FuncId} {xs:List Operand} {ats:Array TypeId} {τs:List I} {Lin Lr:List aL} {δ:Type} {ρ:δ→I} {Lo:δ→List aL} {hq:δ→a1 bU} (n m:Nat) (ao:L.drop n=a3 hp) (dS:bM c.P f) (h:cf c.P f τs (Lin ++ a3 hp) ρ (fun d=>Lo d ++ a3 (hq d)))
 (aa:(L.take n).take m=Lin) (ae:(L.take n).drop m=Lr) (aq:g1 c E L xs τs) (aP:Nat.blt a4 c.n=true) (k:∀ q,ai c ops Q rest ((a4,ρ q) :: E) ((Lo q ++ Lr) ++ a3 (hq q))):
 ai c ops Q (⟨some a4,.call ⟨.value (.func f),xs.toArray,ats⟩,ty,pos,af,none⟩ :: rest) E L:=by
 have e:L=(Lin ++ Lr) ++ a3 hp:=by rw [← aa,← ae,List.take_append_drop,← ao,List.take_append_drop]
 clear ao aa ae
 subst e
 exact ai.lr dS h aq aP k
theorem gO.RY {f:FuncId} {xs:List Operand} {ats:Array TypeId} {τs:List I} {ρ:I} (dS:bM c.P f) (h:cf c.P f τs (a3 hp) (fun _:Unit=>ρ) (fun _=>a3 hp))
 (aq:g1 c E (loc ++ a3 hp) xs τs):gO c E (loc ++ a3 hp) ⟨d,.call ⟨.value (.func f),xs.toArray,ats⟩,ty,pos,af,g⟩ ρ:=fun a W s=>by
 have dB:(loc ++ a3 hp).Perm (a3 hp ++ loc):=List.perm_append_comm
 have bh:=xG (d:=d) (ty:=ty) (pos:=pos) (af:=af) (g:=g) (ats:=ats) (Lr:=loc) dS h (s.perm dB) ((aq.holds a W s).mono (mv dB))
 unfold gh at bh ⊢
 exact Oper.wp_mono (fun iE W' ⟨v,aa,_,ae,aD⟩=>⟨v,aa,ae.perm dB.symm,ρ.mono (mv dB.symm) aD⟩) bh
theorem gO.lr {f:FuncId} {xs:List Operand} {ats:Array TypeId} {τs:List I} {ρ:I} (n:Nat) (ao:L.drop n=a3 hp) (dS:bM c.P f) (h:cf c.P f τs (a3 hp) (fun _:Unit=>ρ) (fun _=>a3 hp)) (aq:g1 c E L xs τs):gO c E L ⟨d,.call ⟨.value (.func f),xs.toArray,ats⟩,ty,pos,af,g⟩ ρ:=by
 have e:L=L.take n ++ a3 hp:=by rw [← ao,List.take_append_drop]
 clear ao
 generalize L.take n=loc at *
 subst e
 exact gO.RY dS h aq
theorem H0 {P:Program} {e:TypeId} (W:World) (n:Nat) {t:TypeId} (a:Option Addr) (h:P.underlying t=some (.pointer e)):(Op.equalIn (n + 1) t (.pointer a) (.pointer none)).run P W= .ok a.isNone W:=by
 cases a <;> simp [Op.equalIn,run_underlying h]
theorem m9 {r:Ref} {e:TypeId} (hu:c.P.underlying t=some (.pointer e)) (aq:a7 c E L x (.of r)):bY c E L ⟨d,.binOp .eql t x (.const (.pointer none)) t2,ty,pos,af,g⟩ (.of r.isNone):= .pure fun a W s=>by
 have aa:=vg.1 (aq a W s)
 refine⟨.bool r.isNone,?_,of_bool.2 rfl⟩
 have aP:a.eval (.const (.pointer none))= .pointer none:=rfl
 simp only [execOp,eqGuard,binOp,aa,aP,Op.equal,Op.maxDepth]
 have:=H0 (P:=c.P) W 9999 (r.map fun p=>⟨p,0,none⟩) hu
 simp only [Option.isNone_map] at this
 simp [this]
theorem DF {r:Ref} {e:TypeId} (hu:c.P.underlying t=some (.pointer e)) (aq:a7 c E L x (.of r)):bY c E L ⟨d,.binOp .neq t x (.const (.pointer none)) t2,ty,pos,af,g⟩ (.of r.isSome):= .pure fun a W s=>by
 have aa:=vg.1 (aq a W s)
 refine⟨.bool r.isSome,?_,of_bool.2 rfl⟩
 have aP:a.eval (.const (.pointer none))= .pointer none:=rfl
 simp only [execOp,eqGuard,binOp,aa,aP,Op.equal,Op.maxDepth]
 have:=H0 (P:=c.P) W 9999 (r.map fun p=>⟨p,0,none⟩) hu
 simp only [Option.isNone_map] at this
 simp [this]
end
section
variable {c:cY} {E:List (Nat × I)} {L:List aL} {ops:Array Oper} {Q:Exit→Act→World→Prop}
theorem aC.cJ {α β:Type} {o:Option α} {k:α→aC β} {R:β→Prop} (h:aC.bind (aC.of o) k R):∃ r,o=some r∧k r R:=h
theorem Py {F:Fence} {n:Nat} {P:Program} {body:Code} {σ ε:Type} (b:σ→aC (σ ⊕ ε)) (fg:σ→Act→World→Prop) (X:ε→Exit→Act→World→Prop)
 (nI:∀ s R,b s R→ ∀ a W,fg s a W→body.wpIn F n P (fun x a W=>(∃ bZ,R (.inl bZ)∧x= .normal∧fg bZ a W)∨ ∃ e,R (.inr e)∧x≠ .normal∧X e x a W) a W)
 (Q:Exit→Act→World→Prop) (R:ε→Prop) (ng:∀ e x a W,R e→X e x a W→Q x a W) {b1:σ} {N:Nat} (an:oi N b b1 R) {hF:Act} {hY:World} (bT:fg b1 hF hY):
 (Code.loop body).wpIn F n P Q hF hY:=by
 intro dm k cs vZ hb aU
 have key:∀ N s,oi N b s R→ ∀ a W,fg s a W→
  ∃ x iE W',Q x iE W'∧ArrivesIn (Machine.fenced P F) P (lone (dm.atR a (.code body :: .inLoop body :: k)) cs W) dm k cs x iE W':=by
  intro N
  induction N with
  | zero=>intro s h; exact h.elim
  | succ N b0=>
    intro s h a W j9
    obtain⟨x,vI,vJ,hq,ph⟩:=nI s _ h a W j9 dm (.inLoop body :: k) cs vZ hb aU
    rcases hq with⟨bZ,aa,aq,F0⟩ | ⟨e,aa,aq,G0⟩
    ·subst aq
     obtain⟨FB,FC,FD,Fe,Ej⟩:=b0 bZ aa vI vJ F0
     exact⟨FB,FC,FD,Fe,.of_steps (StepsIn.trans ph (.one (fenced_calm hb aU rfl) stepR_inLoop)) Ej⟩
    ·exact⟨x,vI,vJ,ng _ _ _ _ aa G0,.pass (x:= .inLoop body) rfl (fun _ _=> .inl aq) ph⟩
 obtain⟨x,iE,W',hq,ph⟩:=key N b1 an hF hY bT
 exact⟨x,iE,W',hq,.of_steps (.one (fenced_calm hb aU rfl) stepR_loop) ph⟩
def CC {σ ε γ δ:Type} (c:cY) (E:σ→γ→List (Nat × I)) (L:σ→γ→List aL) (xs:ε→Exit) (fu:ε→δ→List (Nat × I)) (Lx:ε→δ→List aL) (R:σ ⊕ ε→Prop):Exit→Act→World→Prop:=fun x a W=>
 (∃ s,R (.inl s)∧x= .normal∧ ∃ g,bC c (E s g) (L s g) a W)∨ ∃ e,R (.inr e)∧x≠ .normal∧x=xs e∧ ∃ g,bC c (fu e g) (Lx e g) a W
theorem ab.Kf {σ ε γ δ:Type} {E':σ→γ→List (Nat × I)} {L':σ→γ→List aL} {xs:ε→Exit} {fu:ε→δ→List (Nat × I)} {Lx:ε→δ→List aL} {R:σ ⊕ ε→Prop} {s:σ} (iv:R (.inl s)) (g:γ) (n:Nat)
 (ao:L.drop n=L' s g) (h:gY E (E' s g)):ab c (CC c E' L' xs fu Lx R) .normal E L:=fun a W st=> .inl ⟨s,iv,rfl,g,by rw [← ao]; exact(st.nn n).less h.look⟩
theorem ab.EE {σ ε γ δ:Type} {E':σ→γ→List (Nat × I)} {L':σ→γ→List aL} {xs:ε→Exit} {fu:ε→δ→List (Nat × I)} {Lx:ε→δ→List aL} {R:σ ⊕ ε→Prop} {e:ε} {x:Exit} (iv:R (.inr e)) (g:δ) (n:Nat)
 (aq:x=xs e) (aP:x≠ .normal) (ao:L.drop n=Lx e g) (h:gY E (fu e g)):ab c (CC c E' L' xs fu Lx R) x E L:=fun a W st=> .inr ⟨e,iv,aP,aq,g,by rw [← ao]; exact(st.nn n).less h.look⟩
theorem ag.oi {σ ε γ δ:Type} {body:Code} {N:Nat} {b:σ→aC (σ ⊕ ε)} {b1:σ} {R:ε→Prop} (an:Gv.oi N b b1 R)
 (E':σ→γ→List (Nat × I)) (L':σ→γ→List aL) (xs:ε→Exit) (fu:ε→δ→List (Nat × I)) (Lx:ε→δ→List aL) (g0:γ) (ao:L=L' b1 g0) (aE:gY E (E' b1 g0))
 (p3:∀ s R,b s R→ ∀ g,ag c (CC c E' L' xs fu Lx R) body (E' s g) (L' s g))
 (ng:∀ e,R e→ ∀ g,ab c Q (xs e) (fu e g) (Lx e g)):ag c Q (.loop body) E L:=fun a W st=>by
 subst ao
 exact Py b (fun s a W=> ∃ g,bC c (E' s g) (L' s g) a W) (fun e x a W=>x=xs e∧ ∃ g,bC c (fu e g) (Lx e g) a W)
  (fun s R hs a W ⟨g,j9⟩=>wpIn_mono (p3 s R hs g a W j9) (fun x a W h=>by
   rcases h with⟨bZ,aa,ae,aD⟩ | ⟨e',aa,ae,aD,aZ⟩
   ·exact .inl ⟨bZ,aa,ae,aD⟩
   ·exact .inr ⟨e',aa,ae,aD,aZ⟩)) Q R (fun e x a W iv ⟨aq,g,hs⟩=>by subst aq; exact ng e iv g a W hs) an ⟨g0,st.less aE.look⟩
theorem q5 {α:Type} {b:Bool} {m n:aC α} {R:α→Prop} (hb:b=true) (h:cond b m n R):m R:=by subst hb; exact h
theorem q6 {α:Type} {b:Bool} {m n:aC α} {R:α→Prop} (hb:b=false) (h:cond b m n R):n R:=by subst hb; exact h
theorem ag.x9 {β γ ρ:Type} {mi:ρ→Prop} {x:Operand} {b:Bool} {y z:Code} {aR a0:aC β} {k:β→aC ρ} (h:aC.bind (bif b then aR else a0) k mi) (E':β→γ→List (Nat × I)) (L':β→γ→List aL) (an:a7 c E L x (.of b))
 (r3:∀ m g,k m mi→ab c Q .normal (E' m g) (L' m g))
 (cr:(∀ m g,k m mi→ab c Q .normal (E' m g) (L' m g))→b=true→aR (fun m=>k m mi)→ag c Q y E L) (ba:(∀ m g,k m mi→ab c Q .normal (E' m g) (L' m g))→b=false→a0 (fun m=>k m mi)→ag c Q z E L):ag c Q (.cond x y z) E L:=
 ag.cond an (fun hb=>cr r3 hb (q5 hb h)) (fun hb=>ba r3 hb (q6 hb h))
theorem ag.Ke {σ ε γ δ ρ:Type} {body:Code} {N:Nat} {b:σ→aC (σ ⊕ ε)} {b1:σ} {k:ε→aC ρ} {mi:ρ→Prop} (an:aC.bind (Gv.oi N b b1) k mi)
 (E':σ→γ→List (Nat × I)) (L':σ→γ→List aL) (xs:ε→Exit) (fu:ε→δ→List (Nat × I)) (Lx:ε→δ→List aL) (g0:γ) (ao:L=L' b1 g0) (aE:gY E (E' b1 g0))
 (p3:∀ s R,b s R→ ∀ g,ag c (CC c E' L' xs fu Lx R) body (E' s g) (L' s g))
 (ng:∀ e,k e mi→ ∀ g,ab c Q (xs e) (fu e g) (Lx e g)):ag c Q (.loop body) E L:=
 ag.oi (R:=fun e=>k e mi) an E' L' xs fu Lx g0 ao aE p3 ng
def zh (s:ByteArray) (i:Int):Option (BitVec 8):=(if 0≤i then s[i.toNat]? else none).map fun b=>BitVec.ofNat 8 b.toNat
theorem QY {d:Option Tmp} {ty:TypeId} {pos:String} {af:Array Edge} {g:Option (Nat × Bool)} {x y:Operand} {t:TypeId} {s:ByteArray} {i:BitVec 8} {r:BitVec 8} (hu:c.P.underlying t=some .string) (aq:a7 c E L x (.of s)) (a9:a7 c E L y (.of i)) (aU:zh s (i.toNat:Int)=some r):
 bY c E L ⟨d,.index t x y,ty,pos,af,g⟩ (.of r):= .pure fun a W st=>by
 have aa:=Kj.1 (aq a W st)
 have ae:=BS.1 (a9 a W st)
 unfold zh at aU
 cases hb:(if 0≤ (i.toNat:Int) then s[(i.toNat:Int).toNat]? else none) with
 | none=>rw [hb] at aU; cases aU
 | some b=>
   rw [hb] at aU
   simp only [Option.map_some,Option.some.injEq] at aU
   subst aU
   have cl:b.toNat < 256:=b.toNat_lt
   refine⟨.int .u8 b.toNat,?_,BS.2 (by simp [BitVec.toNat_ofNat,Nat.mod_eq_of_lt cl])⟩
   have tv:=hb
   simp only [Int.natCast_nonneg,if_true,Int.toNat_natCast] at tv
   simp [execOp,Instr.index,aa,ae,asIntOf,run_underlying hu,tv]
end
end Gv
namespace Gv
open Go
set_option linter.unusedVariables false
set_option linter.unusedSimpArgs false
structure gf where
 p:Option Nat
 deriving DecidableEq,Inhabited
instance WV:ah gf:= .scalar (fun x=>Value.map x.p) fun _=>rfl
instance:a8 gf:=⟨[.map none],fun _ _=>rfl⟩
theorem x1 {A W v} {x:gf} :(I.of x).holds A W v↔v= .map x.p:=
 ⟨fun h=>m6 h.1 h.2,fun h=>by subst h; exact⟨rfl,rfl⟩⟩
theorem n6 {c:cY} {E:List (Nat × I)} {L:List aL} {x:Operand} {r:gf} {p:Nat} (aq:a7 c E L x (.of r)) (h:r.p=some p):a7 c E L x (.of (⟨some p⟩:gf)):=fun a W s=>by
 have:=x1.1 (aq a W s)
 rw [h] at this
 exact x1.2 this
inductive kv {α β:Type} [ah α] [ah β] (A:List Nat) (W:World):List MapEntry→List (α × β)→Prop
 | nil:kv A W [] []
 | cons {e k v es r} :(I.of k).holds A W e.key→ (I.of v).holds A W e.val→kv A W es r→kv A W (e :: es) ((k,v) :: r)
theorem kv.mono {α β:Type} [ah α] [ah β] {A W cQ W'} (h:Ext A W cQ W'):∀ {es:List MapEntry} {eg:List (α × β)},kv A W es eg→kv cQ W' es eg
 | _,_,.nil=> .nil
 | _,_,.cons aa ae r=> .cons (I.mono _ h aa) (I.mono _ h ae) (r.mono h)
def dx.map {α β:Type} [ah α] [ah β] (eg:List (α × β)):dx where
 holds A W o:= ∃ es clock,o= .map es clock∧kv A W es.toList eg∧ (∀ x∈es.toList,x.born < clock)∧ (es.toList.map MapEntry.born).Nodup
 mI:=False
 mono e h:=let⟨es,clock,aa,ae,aD⟩:=h; ⟨es,clock,aa,ae.mono e,aD⟩
def dX {α β:Type} [DecidableEq α]:List (α × β)→α→Option β
 | [],_=>none
 | (k,v) :: r,x=>if x=k then some v else dX r x
def g3 {α β:Type} [DecidableEq α]:List (α × β)→α→β→List (α × β)
 | [],x,y=> [(x,y)]
 | (k,v) :: r,x,y=>if x=k then(x,y) :: r else(k,v) :: g3 r x y
def vO {α β:Type} [DecidableEq α]:List (α × β)→α→List (α × β)
 | [],_=> []
 | (k,v) :: r,x=>if x=k then r else(k,v) :: vO r x
class ke (α:Type) [ah α]:Prop where
 uniq:∀ {A W cs cQ W' dA} {x:α},ah.rep A W cs x→ah.rep cQ W' dA x→cs=dA
 plain:∀ {A W cs} {x:α},ah.rep A W cs x→ ∀ v∈cs,∀ n,Instr.sameBits n v v=true
instance:ke Int:=⟨fun h cX=>h.trans cX.symm,fun h v a2 n=>by subst h; rw [List.mem_singleton.1 a2]; simp [Instr.sameBits]⟩
instance:ke (BitVec 64):=⟨fun h cX=>h.trans cX.symm,fun h v a2 n=>by subst h; rw [List.mem_singleton.1 a2]; simp [Instr.sameBits]⟩
instance:ke Bool:=⟨fun h cX=>h.trans cX.symm,fun h v a2 n=>by subst h; rw [List.mem_singleton.1 a2]; simp [Instr.sameBits]⟩
instance {α:Type} [ah α] [Inhabited α] [ke α] {n:Nat} :ke (Vector α n):=⟨fun {A W cs cQ W' dA x} h cX=>by
 have wu:cs.length=n * ah.size α:=ah.len h
 have Nb:dA.length=n * ah.size α:=ah.len cX
 have key:∀ m,m≤n→cs.take (m * ah.size α)=dA.take (m * ah.size α):=by
  intro m
  induction m with
  | zero=>intro _; simp
  | succ m b0=>
    intro hm
    have qu:m < n:=hm
    have av:=(aK.idx (α:=α) n m qu).hR h
    have aX:=(aK.idx (α:=α) n m qu).hR cX
    have dk:=ke.uniq av aX
    rw [Nat.succ_mul,List.take_add,List.take_add,b0 (by omega)]
    congr 1
 have:=key n (Nat.le_refl _)
 rwa [← wu,List.take_length,wu,← Nb,List.take_length] at this,
 fun {A W cs x} h v a2 k=>by
  have wu:cs.length=n * ah.size α:=ah.len h
  obtain⟨i,au,rfl⟩:=List.getElem_of_mem a2
  by_cases hs:ah.size α=0
  ·rw [hs,Nat.mul_zero] at wu; omega
  have hq:i / ah.size α < n:=Nat.div_lt_of_lt_mul (by rw [wu,Nat.mul_comm] at au; exact au)
  have av:=(aK.idx (α:=α) n (i / ah.size α) hq).hR h
  refine ke.plain av _ ?_ k
  have aU:i % ah.size α < ah.size α:=Nat.mod_lt _ (by omega)
  have hd:=Nat.div_add_mod i (ah.size α)
  refine List.mem_iff_getElem?.2 ⟨i % ah.size α,?_⟩
  simp only [aK.idx]
  rw [List.getElem?_take,if_pos aU,List.getElem?_drop,Nat.mul_comm,hd]
  exact List.getElem?_eq_getElem au⟩
theorem Jj {cs dA:List Value} (o s:Nat) (h:(cs.drop o).take s=(dA.drop o).take s) (k:cs.drop (o + s)=dA.drop (o + s)):cs.drop o=dA.drop o:=by
 rw [← List.take_append_drop s (cs.drop o),← List.take_append_drop s (dA.drop o),h,List.drop_drop,List.drop_drop,k]
theorem Rn {cs dA:List Value} {n:Nat} (h:cs.length=n) (cX:dA.length=n) (k:cs.drop 0=dA.drop 0):cs=dA:=by simpa using k
theorem Ro {cs dA:List Value} {n m:Nat} (h:cs.length=n) (cX:dA.length=n) (k:n≤m):cs.drop m=dA.drop m:=by
 rw [List.drop_eq_nil_of_le (by omega),List.drop_eq_nil_of_le (by omega)]
theorem Pz {α:Type} [ah α] [ke α] {A W cQ W' u v} {x:α} (h:(I.of x).holds A W u) (cX:(I.of x).holds cQ W' v):u=v:=by
 obtain⟨aa,ae⟩:=h
 obtain⟨aD,aZ⟩:=cX
 have a6:=ke.uniq ae aZ
 by_cases bn:ah.agg α=true
 ·simp only [shaped,bn,if_true] at aa aD
  obtain⟨a,rfl⟩:=aa
  obtain⟨b,rfl⟩:=aD
  simp only [Value.cells] at a6
  congr 1
  exact Array.toList_inj.1 a6
 ·simp only [Bool.not_eq_true] at bn
  simp only [shaped,bn,Bool.false_eq_true,if_false] at aa aD
  rw [m7 aa,m7 aD] at a6
  simpa using a6
theorem Jk {P:Value→Value→Bool} :∀ {cs:List Value},(∀ v∈cs,P v v=true)→ ((cs.zip cs).all fun(x,y)=>P x y)=true
 | [],_=>rfl
 | a :: r,h=>by
   simp only [List.zip_cons_cons,List.all_cons,Bool.and_eq_true]
   exact⟨h a (by simp),Jk fun v a2=>h v (by simp [a2])⟩
theorem PA {α:Type} [ah α] [ke α] {A W u} {x:α} (h:(I.of x).holds A W u) (n:Nat):Instr.sameBits (n + 1) u u=true:=by
 obtain⟨aa,ae⟩:=h
 by_cases bn:ah.agg α=true
 ·simp only [shaped,bn,if_true] at aa
  obtain⟨a,rfl⟩:=aa
  simp only [Value.cells] at ae
  simp only [Instr.sameBits,beq_self_eq_true,Bool.true_and]
  exact Jk fun v a2=>ke.plain ae v a2 n
 ·simp only [Bool.not_eq_true] at bn
  simp only [shaped,bn,Bool.false_eq_true,if_false] at aa
  rw [m7 aa] at ae
  exact ke.plain ae u (by simp) _
theorem Qa {α:Type} [ah α] [ke α] {P:Program} {A W cQ W' u v} {x:α} (h:(I.of x).holds A W u) (cX:(I.of x).holds cQ W' v) (hY:World):(Instr.keyThatStays u v).run P hY= .ok v hY:=by
 have:=Pz h cX
 subst this
 simp [Instr.keyThatStays,PA h 9999]
def pD (P:Program) (t:TypeId) (α:Type) [ah α] (n:Nat):Prop:= ∀ b d A W u (x:α),n≤d→ (I.of x).holds A W u→ (Instr.checkKey b d t u).run P W= .ok () W
theorem IX {P:Program} {t:TypeId} {α:Type} [ah α] {D:TypeDesc} (h:P.underlying t=some D) (hd:(match (motive:=TypeDesc→Bool) D with | .interface _ | .array _ _ | .struct _=>false | _=>true)=true):pD P t α 1:=by
 intro b d A W u x aP aq
 obtain⟨d,rfl⟩:∃ e,d=e + 1:=⟨d - 1,by omega⟩
 simp only [Instr.checkKey,Sem.run_bind,run_underlying h,Result.andThen_ok]
 cases D <;> simp at hd <;> rfl
theorem HU {P:Program} {W:World} {Aj:Type} (f:Aj→Sem Unit):∀ (l:List Aj),(∀ i∈l,(f i).run P W= .ok () W)→
 (forIn (m:=Sem) l () (fun i _=>do f i; pure (ForInStep.yield ()))).run P W= .ok () W
 | [],_=>by simp
 | i :: r,h=>by
   have aa:=h i (by simp)
   have ae:=HU (P:=P) (W:=W) f r (fun j aG=>h j (by simp [aG]))
   rw [List.forIn_cons]
   simp only [Sem.run_bind,aa,Result.andThen_ok,Sem.run_pure]
   rw [ae]
theorem HN {P:Program} {W:World} {Aj:Type} (f:Aj→PUnit→Sem (ForInStep PUnit)):∀ (l:List Aj),(∀ i∈l,(f i ()).run P W= .ok (.yield ()) W)→ (forIn (m:=Sem) l PUnit.unit f).run P W= .ok () W
 | [],_=>by simp
 | i :: r,h=>by
   have aa:=h i (by simp)
   have ae:=HN (P:=P) (W:=W) f r (fun j aG=>h j (by simp [aG]))
   rw [List.forIn_cons]
   simp only [Sem.run_bind,aa,Result.andThen_ok]
   exact ae
theorem Kr {P:Program} {t e n k:Nat} {α:Type} [ah α] [Inhabited α] (h:P.underlying t=some (.array n e)) (fh:bq P e α) (he:pD P e α k):pD P t (Vector α n) (k + 1):=by
 intro b d A W u x hd aq
 obtain⟨d,rfl⟩:∃ e,d=e + 1:=⟨d - 1,by omega⟩
 obtain⟨aa,ae⟩:=aq
 obtain⟨xs,rfl⟩:∃ cs,u= .agg cs:=by simpa [shaped,ah.agg] using aa
 simp only [Value.cells] at ae
 have tA:xs.toList.length=n * ah.size α:=ah.len ae
 have yP:∀ i∈List.range' 0 n,((do
  let z ← Go.sizeOf e
  let a ← part e xs (i * z)
  Instr.checkKey b d e a):Sem Unit).run P W= .ok () W:=by
  intro i au
  have jl:i < n:=by simpa using au
  have fc:i * ah.size α + ah.size α≤n * ah.size α:=(aK.idx (α:=α) n i jl).fR
  obtain⟨a,bn,tB⟩:=q1 (A:=A) (P:=P) (W:=W) (cs:=xs) (off:=i * ah.size α) fh (by simp at tA; omega) ((aK.idx (α:=α) n i jl).hR ae)
  simp only [Sem.run_bind,fh.sizeOf,bn,Result.andThen_ok]
  exact he b d A W a _ (by omega) tB
 have ba:=HU (P:=P) (W:=W) _ _ yP
 simp only [Instr.checkKey,Sem.run_bind,run_underlying h,Result.andThen_ok,Std.Legacy.Range.forIn_eq_forIn_range']
 simp only [Std.Legacy.Range.size,Nat.sub_zero,Nat.add_one_sub_one,Nat.div_one] at ba ⊢
 simp only [bind_assoc] at ba
 rw [ba]
 rfl
inductive zU (P:Program) (β:Type) [ah β] (k:Nat):List Field→Prop
 | nil:zU P β k []
 | cons {γ:Type} [ah γ] {f r} (l:aK β γ):l.off=f.offset→bq P f.type γ→pD P f.type γ k→zU P β k r→zU P β k (f :: r)
theorem Qb {P:Program} {t k:Nat} {β:Type} [ah β] {fB:Array Field} (bn:ah.agg β=true) (h:P.underlying t=some (.struct fB)) (ar:zU P β k fB.toList):pD P t β (k + 1):=by
 intro b d A W u x hd aq
 obtain⟨d,rfl⟩:∃ e,d=e + 1:=⟨d - 1,by omega⟩
 obtain⟨aa,ae⟩:=aq
 obtain⟨xs,rfl⟩:∃ cs,u= .agg cs:=by simpa [shaped,bn] using aa
 simp only [Value.cells] at ae
 have tA:xs.toList.length=ah.size β:=ah.len ae
 have yP:∀ f∈fB.toList,((do
  if f.name≠ "_" then do
   let a ← part f.type xs f.offset
   Instr.checkKey b d f.type a):Sem Unit).run P W= .ok () W:=by
  have key:∀ l,zU P β k l→ ∀ f∈l,((do
   if f.name≠ "_" then do
    let a ← part f.type xs f.offset
    Instr.checkKey b d f.type a):Sem Unit).run P W= .ok () W:=by
   intro l an
   induction an with
   | nil=>simp
   | cons l bh fh ax r b0=>
     rename_i f qK
     intro wq oL
     rcases List.mem_cons.1 oL with rfl | oL
     ·split
      ·obtain⟨a,bn,tB⟩:=q1 (A:=A) (P:=P) (W:=W) (cs:=xs) (off:=l.off) fh (by have:=l.fR; simp at tA; omega) (l.hR ae)
       rw [← bh]
       simp only [Sem.run_bind,bn,Result.andThen_ok]
       exact ax b d A W a _ (by omega) tB
      ·rfl
     ·exact b0 wq oL
  exact key _ ar
 simp only [Instr.checkKey,Sem.run_bind,run_underlying h,Result.andThen_ok]
 rw [← Array.forIn_toList,HN]
 ·rfl
 ·intro f ba
  have:=yP f ba
  split
  ·rename_i aP
   rw [if_pos aP] at this
   simp only [Sem.run_bind] at this ⊢
   revert this
   generalize (part f.type xs f.offset).run P W=r
   cases r <;> simp only [Result.andThen] <;> intro h <;> first | rw [h]; rfl | cases h
  ·rfl
structure n0 (P:Program) (t:TypeId) (α:Type) [ah α] [DecidableEq α]:Prop where
 check:∀ b A W u (x:α),(I.of x).holds A W u→ (Instr.checkKey b 10000 t u).run P W= .ok () W
 same:∀ A W u v (x y:α),(I.of x).holds A W u→ (I.of y).holds A W v→ (Op.equal t u v).run P W= .ok (decide (x=y)) W
 now:∃ D,P.underlying t=some D∧ ∀ A W u v (x y:α),(I.of x).holds A W u→ (I.of y).holds A W v→Instr.sameNow D u v=none∨Instr.sameNow D u v=some (decide (x=y))
def kG {α β:Type} [DecidableEq α]:List (α × β)→α→Nat→Option (Nat × β)
 | [],_,_=>none
 | (k,v) :: r,x,i=>if x=k then some (i,v) else kG r x (i + 1)
def Found {α β:Type} [ah α] [ah β] (A:List Nat) (W:World) (eg:List (α × β)):Option (Nat × Value)→Option (Nat × β)→Prop
 | none,none=>True
 | some (i,u),some (j,v)=>i=j∧ (I.of v).holds A W u
 | _,_=>False
theorem H2 {α β:Type} [ah α] [ah β] [DecidableEq α] {D:TypeDesc} {A:List Nat} {W:World} {u:Value} {x:α} (hu:(I.of x).holds A W u)
 (hs:∀ v (y:α),(I.of y).holds A W v→Instr.sameNow D u v=none∨Instr.sameNow D u v=some (decide (x=y))) (zV:List (α × β)):∀ {es:List MapEntry} {eg:List (α × β)} (i:Nat),kv A W es eg→
 Instr.findNow D u es i=none∨ ∃ r,Instr.findNow D u es i=some r∧Found A W zV r (kG eg x i)
 | [],_,i,h=>by cases h; exact .inr ⟨none,rfl,trivial⟩
 | e :: es,_,i,h=>by
   cases h with
   | cons aa ae aD=>
     rename_i k v r
     rcases hs e.key k aa with aZ | aZ
     ·exact .inl (by simp [Instr.findNow,aZ])
     ·by_cases ax:x=k
      ·exact .inr ⟨some (i,e.val),by simp [Instr.findNow,aZ,ax],by simp only [kG,if_pos ax]; exact⟨rfl,ae⟩⟩
      ·rcases H2 hu hs zV (i + 1) aD with a6 | ⟨qK,a6,bl⟩
       ·exact .inl (by simp [Instr.findNow,aZ,ax,a6])
       ·exact .inr ⟨qK,by simp [Instr.findNow,aZ,ax,a6],by simp only [kG,if_neg ax]; exact bl⟩
theorem HG {α β:Type} [ah α] [ah β] [DecidableEq α] {P:Program} {t:TypeId} (lk:n0 P t α) {A:List Nat} {W:World} {u:Value} {x:α} (hu:(I.of x).holds A W u) (zV:List (α × β)):∀ {es:List MapEntry} {eg:List (α × β)} (i:Nat),kv A W es eg→
 ∃ r,(Instr.findAsking t u es i).run P W= .ok r W∧Found A W zV r (kG eg x i)
 | [],_,i,h=>by cases h; exact⟨none,rfl,trivial⟩
 | e :: es,_,i,h=>by
   cases h with
   | cons aa ae aD=>
     rename_i k v r
     have aZ:=lk.same A W u e.key x k hu aa
     by_cases ax:x=k
     ·exact⟨some (i,e.val),by simp [Instr.findAsking,Sem.run_bind,aZ,ax],by simp only [kG,if_pos ax]; exact⟨rfl,ae⟩⟩
     ·obtain⟨qK,a6,bl⟩:=HG lk hu zV (i + 1) aD
      exact⟨qK,by simp [Instr.findAsking,Sem.run_bind,aZ,ax,a6],by simp only [kG,if_neg ax]; exact bl⟩
theorem H3 {α β:Type} [ah α] [ah β] [DecidableEq α] {P:Program} {t:TypeId} (lk:n0 P t α) {A:List Nat} {W:World} {u:Value} {x:α} (hu:(I.of x).holds A W u) {es:List MapEntry} {eg:List (α × β)} (h:kv A W es eg):
 ∃ r,(Instr.findKey t u es).run P W= .ok r W∧Found A W eg r (kG eg x 0):=by
 obtain⟨D,ka,hs⟩:=lk.now
 rcases H2 hu (fun v y a9=>hs A W u v x y hu a9) eg 0 h with aa | ⟨r,aa,ae⟩
 ·obtain⟨r,aD,aZ⟩:=HG lk hu eg 0 h
  exact⟨r,by simp [Instr.findKey,Sem.run_bind,run_underlying ka,aa,aD],aZ⟩
 ·exact⟨r,by simp [Instr.findKey,Sem.run_bind,run_underlying ka,aa],ae⟩
theorem Jl {α β:Type} [ah α] [ah β] [DecidableEq α] {A:List Nat} {W:World} {x:α} :∀ {es:List MapEntry} {eg:List (α × β)} {j i:Nat} {v:β},kv A W es eg→kG eg x j=some (i,v)→
 ∃ m e,i=j + m∧es[m]? =some e∧ (I.of x).holds A W e.key∧ (∀ (e':MapEntry) (y:β),(I.of x).holds A W e'.key→ (I.of y).holds A W e'.val→kv A W (es.set m e') (g3 eg x y))∧kv A W (es.eraseIdx m) (vO eg x)
 | [],_,j,i,v,h,ba=>by cases h; cases ba
 | e :: es,_,j,i,v,h,ba=>by
   cases h with
   | cons aa ae aD=>
     rename_i k tU r
     by_cases ax:x=k
     ·subst ax
      simp only [kG,if_pos] at ba
      simp only [Option.some.injEq,Prod.mk.injEq] at ba
      exact⟨0,e,by omega,rfl,aa,fun e' y aw a5=>by simp only [g3,if_pos]; exact .cons aw a5 aD,by simp only [vO,if_pos]; exact aD⟩
     ·simp only [kG,if_neg ax] at ba
      obtain⟨m,e',aw,a5,bA,cD,gW⟩:=Jl aD ba
      exact⟨m + 1,e',by omega,by simpa using a5,bA,fun Gx y az c6=>by simp only [g3,if_neg ax]; exact .cons aa ae (cD Gx y az c6),by simp only [vO,if_neg ax]; exact .cons aa ae gW⟩
theorem Iz {α β:Type} [ah α] [ah β] [DecidableEq α] {A:List Nat} {W:World} {x:α} :∀ {es:List MapEntry} {eg:List (α × β)} {j:Nat},kv A W es eg→kG eg x j=none→
 (∀ (e':MapEntry) (y:β),(I.of x).holds A W e'.key→ (I.of y).holds A W e'.val→kv A W (es ++ [e']) (g3 eg x y))∧vO eg x=eg
 | [],_,j,h,_=>by cases h; exact⟨fun e' y aa ae=> .cons aa ae .nil,rfl⟩
 | e :: es,_,j,h,ba=>by
   cases h with
   | cons aa ae aD=>
     rename_i k tU r
     by_cases ax:x=k
     ·simp [kG,ax] at ba
     ·simp only [kG,if_neg ax] at ba
      obtain⟨aw,a5⟩:=Iz aD ba
      exact⟨fun e' y az c6=>by simp only [g3,if_neg ax]; exact .cons aa ae (aw e' y az c6),by simp only [vO,if_neg ax,a5]⟩
theorem kv.length {α β:Type} [ah α] [ah β] {A W} :∀ {es:List MapEntry} {eg:List (α × β)},kv A W es eg→es.length=eg.length
 | _,_,.nil=>rfl
 | _,_,.cons _ _ r=>by simp [r.length]
theorem IA {α β:Type} [DecidableEq α]:∀ (eg:List (α × β)) (x:α) (i:Nat),(kG eg x i).map (·.2)=dX eg x
 | [],_,_=>rfl
 | (k,v) :: r,x,i=>by simp only [kG,dX]; split <;> simp [IA]
section
variable {c:cY} {E:List (Nat × I)} {L:List aL} {ops:Array Oper} {Q:Exit→Act→World→Prop}
variable {d:Option Tmp} {ty:TypeId} {pos:String} {af:Array Edge} {g:Option (Nat × Bool)} {x y z:Operand} {t t2:TypeId}
variable {bU:Type} [e9 bU] {hp:a1 bU} {loc:List aL}
theorem ai.Rp {α β:Type} [ah α] [ah β] {rest:List Oper} {a4:Nat} (mk:bU) (ax:∀ p,e9.hT p mk= [⟨some p,.map ([]:List (α × β))⟩]) (aP:Nat.blt a4 c.n=true)
 (k:∀ p,p ∉ ee hp→ai c ops Q rest ((a4,.of (⟨some p⟩:gf)) :: E) (loc ++ a3 ((p,mk) :: hp))):ai c ops Q (⟨some a4,.makeMap t none,ty,pos,af,none⟩ :: rest) E (loc ++ a3 hp):=fun a W s=>by
 refine hI rfl (R:=fun v W'=>v= .map (some W.heap.size)∧W'=W.alloc (.map #[] 0)) (.lq ?_ ⟨rfl,rfl⟩) fun v W' ⟨a2,hw⟩=> ?_
 ·simp only [execOp,Instr.makeMap,newObj,Sem.run_bind,Sem.run_pure]; rfl
 ·subst a2
  subst hw
  refine k _ s.fresh _ _ (bC.put ?_ (by simpa using aP) (x1.2 rfl))
  refine(s.alloc (cp:= .map ([]:List (α × β))) ⟨#[],0,rfl,.nil,by simp,by simp⟩).perm ?_
  simp only [a3,ax,List.singleton_append]
  exact List.perm_middle.symm
theorem ai.Ey {α β:Type} [ah α] [ah β] {rest:List Oper} {a4:Nat} (n:Nat) (ao:L.drop n=a3 hp) (mk:bU) (ax:∀ p,e9.hT p mk= [⟨some p,.map ([]:List (α × β))⟩]) (aP:Nat.blt a4 c.n=true) (k:∀ a:Nat × a1 bU,a.1 ∉ hp.map (·.1)∧a.2=(a.1,mk) :: hp→ai c ops Q rest ((a4,.of (⟨some a.1⟩:gf)) :: E) (L.take n ++ a3 a.2)):ai c ops Q (⟨some a4,.makeMap t none,ty,pos,af,none⟩ :: rest) E L:=by
 have e:L=L.take n ++ a3 hp:=by rw [← ao,List.take_append_drop]
 clear ao
 generalize L.take n=loc at *
 subst e
 exact ai.Rp (α:=α) (β:=β) mk ax aP fun p h=>k (p,(p,mk) :: hp) ⟨h,rfl⟩
theorem bC.Lm {a:Act} {W:World} (s:bC c E L a W) {p:Nat} {α β:Type} [ah α] [ah β] {eg:List (α × β)} (hm:(⟨some p,.map eg⟩:aL)∈L):
 ∃ es clock,W.heap[p]? =some (.map es clock)∧kv (aN L ++ c.bP) W es.toList eg∧ (∀ x∈es.toList,x.born < clock)∧ (es.toList.map MapEntry.born).Nodup:=by
 obtain⟨o,bh,es,clock,rfl,ae,aD,aZ⟩:=s.own _ hm
 exact⟨es,clock,bh,ae,aD,aZ⟩
theorem IB {a:Act} {W:World} (s:bC c E L a W) {p key elem:Nat} {α β:Type} [ah α] [ah β] [DecidableEq α] [Inhabited β] {eg:List (α × β)} {i:α} (hu:c.P.underlying t=some (.map key elem)) (lk:n0 c.P key α) (gr:cE c.P elem (default:β))
 (aq:a7 c E L x (.of (⟨some p⟩:gf))) (a9:a7 c E L y (.of i)) (hm:(⟨some p,.map eg⟩:aL)∈L):
 ∃ u,(I.of ((dX eg i).getD default)).holds (aN L ++ c.bP) W u∧ ∀ ok,(Instr.lookup t (a.eval x) (a.eval y) ok).run c.P W= .ok (if ok then .tuple #[u,.bool (dX eg i).isSome] else u) W:=by
 obtain⟨es,clock,bh,ae,aD,aZ⟩:=s.Lm hm
 have zW:=x1.1 (aq a W s)
 have rQ:=a9 a W s
 obtain⟨r,aU,ba⟩:=H3 lk rQ ae
 obtain⟨gP,dM,eo,eS,Ge⟩:=gr.zero
 have bx:(getObj p).run c.P W= .ok (.map es clock) W:=by simp [getObj,Sem.run,bh]
 have ar:=fun b=>lk.check b _ W _ i rQ
 have we:=IA eg i 0
 cases tM:kG eg i 0 with
 | none=>
   rw [tM] at ba we
   cases r with
   | some q=>exact ba.elim
   | none=>
     refine⟨dM,by rw [← we]; exact Ge _ W,fun ok=> ?_⟩
     rw [← we]
     simp [Instr.lookup,Sem.run_bind,run_underlying hu,zW,bx,ar,aU,zeroValue,typeInfo,eo,eS]
 | some q=>
   rw [tM] at ba we
   cases r with
   | none=>exact ba.elim
   | some qN=>
     refine⟨qN.2,by rw [← we]; exact ba.2,fun ok=> ?_⟩
     rw [← we]
     simp [Instr.lookup,Sem.run_bind,run_underlying hu,zW,bx,ar,aU]
theorem xU {p key elem:Nat} {α β:Type} [ah α] [ah β] [DecidableEq α] [Inhabited β] {eg:List (α × β)} {i:α} {r:β} (hu:c.P.underlying t=some (.map key elem)) (lk:n0 c.P key α) (gr:cE c.P elem (default:β))
 (aq:a7 c E L x (.of (⟨some p⟩:gf))) (a9:a7 c E L y (.of i)) (hm:(⟨some p,.map eg⟩:aL)∈L) (aU:(dX eg i).getD default=r):
 bY c E L ⟨d,.lookup t x y false,ty,pos,af,g⟩ (.of r):= .pure fun a W s=>by
 subst aU
 obtain⟨u,aa,ae⟩:=IB s hu lk gr aq a9 hm
 have aD:=ae false
 exact⟨u,by simp only [execOp,Sem.run_bind,aD,Result.andThen_ok]; rfl,aa⟩
theorem DS {p key elem:Nat} {α β:Type} [ah α] [ah β] [DecidableEq α] [Inhabited β] {eg:List (α × β)} {i:α} {r:Option β} (hu:c.P.underlying t=some (.map key elem)) (lk:n0 c.P key α) (gr:cE c.P elem (default:β))
 (aq:a7 c E L x (.of (⟨some p⟩:gf))) (a9:a7 c E L y (.of i)) (hm:(⟨some p,.map eg⟩:aL)∈L) (aU:dX eg i=r):
 bY c E L ⟨d,.lookup t x y true,ty,pos,af,g⟩ (.cG [.of (r.getD default),.of r.isSome]):= .pure fun a W s=>by
 subst aU
 obtain⟨u,aa,ae⟩:=IB s hu lk gr aq a9 hm
 have aD:=ae true
 exact⟨_,by simp only [execOp,Sem.run_bind,aD,Result.andThen_ok]; rfl,_,rfl,.cons aa (.cons (of_bool.2 rfl) .nil)⟩
theorem QF {es:List MapEntry} {m:Nat} {e e':MapEntry} (h:es[m]? =some e) (hb:e'.born=e.born):(es.set m e').map MapEntry.born=es.map MapEntry.born:=by
 apply List.ext_getElem?
 intro j
 simp only [List.getElem?_map,List.getElem?_set]
 split
 ·rename_i aG
  subst aG
  have:=(List.getElem?_eq_some_iff.1 h).1
  rw [if_pos this,h]
  simp [hb]
 ·rfl
theorem ai.RZ {rest:List Oper} {op:Op} (v7:op= .mapUpdate t x y z∨op= .insert t x y z) {p key elem:Nat} {k k':bU} {α β:Type} [ah α] [ah β] [ke α] [DecidableEq α] {eg zX:List (α × β)} {i:α} {v:β} (hu:c.P.underlying t=some (.map key elem)) (lk:n0 c.P key α)
 (aq:a7 c E (loc ++ a3 hp) x (.of (⟨some p⟩:gf))) (a9:a7 c E (loc ++ a3 hp) y (.of i)) (eS:a7 c E (loc ++ a3 hp) z (.of v)) (hp':pat hp p=some k) (ax:e9.hT p k= [⟨some p,.map eg⟩]) (Gy:g3 eg i v=zX) (jI:e9.hT p k'= [⟨some p,.map zX⟩])
 (nZ:ai c ops Q rest E (loc ++ a3 (dH hp p k'))):ai c ops Q (⟨none,op,ty,pos,af,none⟩ :: rest) E (loc ++ a3 hp):=fun a W s=>by
 subst Gy
 obtain⟨es,clock,bh,ae,aD,aZ⟩:=s.Lm (gn (n:=loc.length) (by simp) hp' ax)
 have zW:=x1.1 (aq a W s)
 have rQ:=a9 a W s
 have MH:=eS a W s
 obtain⟨r,aU,ba⟩:=H3 lk rQ ae
 have bx:(getObj p).run c.P W= .ok (.map es clock) W:=by simp [getObj,Sem.run,bh]
 have ar:=lk.check false _ W _ i rQ
 have cl:p < W.heap.size:=(Array.getElem?_eq_some_iff.1 bh).1
 have l2:∀ o,(setObj p o).run c.P W= .ok () (W.putObj p o):=fun o=>by simp only [setObj,Sem.run,bh]; rfl
 have key:∃ rR vh,(Instr.mapUpdate t (a.eval x) (a.eval y) (a.eval z)).run c.P W= .ok () (W.putObj p (.map rR vh))∧kv (aN (loc ++ a3 hp) ++ c.bP) W rR.toList (g3 eg i v)∧ (∀ x∈rR.toList,x.born < vh)∧ (rR.toList.map MapEntry.born).Nodup:=by
  cases tM:kG eg i 0 with
  | none=>
    rw [tM] at ba
    cases r with
    | some q=>exact ba.elim
    | none=>
      obtain⟨aw,_⟩:=Iz ae tM
      refine⟨es.push { key:=a.eval y,val:=a.eval z,born:=clock },clock + 1,by simp [Instr.mapUpdate,Sem.run_bind,run_underlying hu,zW,bx,ar,aU,l2],by simpa using aw { key:=a.eval y,val:=a.eval z,born:=clock } v rQ MH,?_,?_⟩
      ·intro q hq
       simp only [Array.toList_push,List.mem_append,List.mem_singleton] at hq
       rcases hq with hq | rfl
       ·exact Nat.lt_succ_of_lt (aD q hq)
       ·exact Nat.lt_succ_self _
      ·simp only [Array.toList_push,List.map_append,List.map_cons,List.map_nil]
       refine List.nodup_append.2 ⟨aZ,by simp,fun b hb b' tv=> ?_⟩
       simp only [List.mem_singleton] at tv
       subst tv
       obtain⟨q,hq,rfl⟩:=List.mem_map.1 hb
       exact Nat.ne_of_lt (aD q hq)
  | some q=>
    rw [tM] at ba
    cases r with
    | none=>exact ba.elim
    | some qN=>
      obtain⟨m,e,aw,a5,bA,cD,_⟩:=Jl ae tM
      have oN:qN.1=m:=by have:=ba.1; omega
      have hq:es[m]? =some e:=by simpa using a5
      have kr:=Qa (P:=c.P) bA rQ W
      let e':MapEntry:= { e with key:=a.eval y,val:=a.eval z }
      have zm:(es.modify m fun e=> { e with key:=a.eval y,val:=a.eval z }).toList=es.toList.set m e':=by
       apply List.ext_getElem?
       intro j
       rw [Array.getElem?_toList,Array.getElem?_modify,List.getElem?_set,Array.getElem?_toList]
       by_cases aG:m=j
       ·subst aG
        rw [if_pos rfl,if_pos rfl,hq,if_pos (by simpa using (Array.getElem?_eq_some_iff.1 hq).1)]
        rfl
       ·rw [if_neg aG,if_neg aG]
      refine⟨es.modify m fun e=> { e with key:=a.eval y,val:=a.eval z },clock,by simp [Instr.mapUpdate,Sem.run_bind,run_underlying hu,zW,bx,ar,aU,l2,oN,hq,kr],by rw [zm]; exact cD e' v rQ MH,?_,?_⟩
      ·rw [zm]
       intro w hw
       rcases List.mem_or_eq_of_mem_set hw with hw | rfl
       ·exact aD w hw
       ·exact aD e (List.mem_of_getElem? a5)
      ·rw [zm,QF (e':=e') a5 rfl]; exact aZ
 obtain⟨rR,vh,kk,av,aX,dk⟩:=key
 obtain⟨R,aR,a0⟩:=uT hp'
 have a0:=a0 k'
 rw [ax] at aR
 rw [jI] at a0
 have dB:∀ {z:List (α × β)} {M:List aL},M.Perm ([⟨some p,.map z⟩] ++ R)→ (loc ++ M).Perm (⟨some p,.map z⟩ :: (loc ++ R)):=fun h=>(h.append_left loc).trans (by simp only [List.singleton_append]; exact List.perm_middle)
 have bZ:=(s.perm (dB aR)).qf (i:=0) (cp':= .map (g3 eg i v)) rfl (o':= .map rR vh) ⟨rR,vh,rfl,av.mono (mv (dB aR)),aX,dk⟩
 refine hI rfl (R:=fun v W'=>W'=W.putObj p (.map rR vh)) (.u4 ?_ rfl) fun v W' hw=> ?_
 ·rcases v7 with rfl | rfl <;> simp [execOp,kk]
 ·subst hw
  exact nZ _ _ (bZ.perm (dB a0).symm)
theorem ai.EW {rest:List Oper} {op:Op} (n:Nat) (ao:L.drop n=a3 hp) (v7:op= .mapUpdate t x y z∨op= .insert t x y z) {p key elem:Nat} {k k':bU} {eJ:a1 bU} {α β:Type} [ah α] [ah β] [ke α] [DecidableEq α] {eg zX:List (α × β)} {i:α} {v:β} (hu:c.P.underlying t=some (.map key elem)) (lk:n0 c.P key α) (aq:a7 c E L x (.of (⟨some p⟩:gf))) (a9:a7 c E L y (.of i)) (eS:a7 c E L z (.of v)) (hp':pat hp p=some k) (ax:e9.hT p k= [⟨some p,.map eg⟩]) (Gy:g3 eg i v=zX) (jI:e9.hT p k'= [⟨some p,.map zX⟩]) (eS:dH hp p k'=eJ) (nZ:ai c ops Q rest E (L.take n ++ a3 eJ)):ai c ops Q (⟨none,op,ty,pos,af,none⟩ :: rest) E L:=by
 subst eS
 have e:L=L.take n ++ a3 hp:=by rw [← ao,List.take_append_drop]
 clear ao
 generalize L.take n=loc at *
 subst e
 exact ai.RZ v7 hu lk aq a9 eS hp' ax Gy jI nZ
end
theorem R0 {P:Program} {t:TypeId} (h:P.underlying t=some (.int .i64)):n0 P t Int where
 check b A W u x aq:=IX (α:=Int) h rfl b 10000 A W u x (by decide) aq
 same A W u v x y aq a9:=by
  have:=(JK h).run 10000 (by decide) A W u v x y aq a9
  simpa [Op.equal,Op.maxDepth] using this
 now:=⟨_,h,fun A W u v x y aq a9=> .inr (by
  rw [of_int.1 aq,of_int.1 a9]
  simp only [Instr.sameNow,if_pos]
  rfl)⟩
theorem Ks {P:Program} {t:TypeId} {α:Type} [ah α] [DecidableEq α] {D:TypeDesc} {n m:Nat} (h:P.underlying t=some D) (ka:(match (motive:=TypeDesc→Bool) D with | .array _ _ | .struct _=>true | _=>false)=true) (WK:pD P t α n) (tT:k9 P t α m) (aP:Nat.ble n 10000=true) (hm:Nat.ble m 10000=true):n0 P t α where
 check b A W u x aq:=WK b 10000 A W u x (Nat.le_of_ble_eq_true aP) aq
 same A W u v x y aq a9:=by
  have:=tT.run 10000 (Nat.le_of_ble_eq_true hm) A W u v x y aq a9
  simpa [Op.equal,Op.maxDepth] using this
 now:=⟨_,h,fun A W u v x y aq a9=> .inl (by cases D <;> simp at ka <;> rfl)⟩
end Gv
namespace Gv
open Go
set_option linter.unusedVariables false
set_option linter.unusedSimpArgs false
structure iI (P:Program) (t:TypeId) (name:String) (f:FuncId):Prop where
 run:∀ v W args,(callMethod (.iface t v) name args).run P W= .ok (.enter f (#[v] ++ args)) W
theorem iI.of {P:Program} {t:TypeId} {name:String} {f:FuncId} {i:TypeInfo} {D:TypeDesc} {m:Method} (au:P.info? t=some i) (hm:i.methods.find? (fun x=>x.name ==name)=some m) (hp:m.path= #[]) (ba:m.func=some (f,false)) (ka:P.underlying t=some D)
 (aP:(match (motive:=TypeDesc→Bool) D with | .pointer _=>false | _=>true)=true) (dS:bM P f):iI P t name f where
 run v W args:=by
  have V7:∀ args,(callFunc f args).run P W= .ok (.enter f args) W:=fun args=>dS.run ..
  have du:∀ n,(method (n + 1) t v name).run P W= .ok (f,v) W:=fun n=>by
   simp only [method,Sem.run_bind,typeInfo,run_program,Result.andThen_ok,au,Sem.run_pure,hm,hp,ba,follow,receiverAt,run_underlying ka]
   cases D <;> simp at aP <;> simp [Place.get]
  obtain⟨n,aP⟩:∃ n,P.types.size + Made.depth=n + 1:=⟨P.types.size + Made.depth - 1,by simp [Made.depth]⟩
  simp only [callMethod,Sem.run_bind,run_program,Result.andThen_ok,aP,du,V7]
theorem iI.qw {P:Program} {t:TypeId} {name:String} {f:FuncId} {D:TypeDesc} (hm:((P.info? t).bind fun i=>(i.methods.find? (fun x=>x.name ==name)).map fun m=>(m.path.size,m.func))=some (0,some (f,false))) (ka:P.underlying t=some D)
 (aP:(match (motive:=TypeDesc→Bool) D with | .pointer _=>false | _=>true)=true) (dS:bM P f):iI P t name f:=by
 cases au:P.info? t with
 | none=>rw [au] at hm; cases hm
 | some i=>
   rw [au] at hm
   simp only [Option.bind_some] at hm
   cases ae:i.methods.find? (fun x=>x.name ==name) with
   | none=>rw [ae] at hm; cases hm
   | some m=>
     rw [ae] at hm
     simp only [Option.map_some,Option.some.injEq,Prod.mk.injEq] at hm
     exact iI.of au ae (Array.eq_empty_of_size_eq_zero hm.1) hm.2 ka aP dS
theorem cf.map {P:Program} {f:FuncId} {τs:List I} {Lin:List aL} {δ Gz:Type} {ρ:δ→I} {Lo:δ→List aL} {zY:Gz→I} {MI:Gz→List aL} (F:δ→Gz) (aU:∀ d,zY (F d)=ρ d) (an:∀ d,MI (F d)=Lo d) (h:cf P f τs Lin ρ Lo):cf P f τs Lin zY MI:=
 fun A W vs aa ae aD aZ a6=>(h A W vs aa ae aD aZ a6).mono fun e W' ⟨v,d,az,c6,e6,h9,fZ,gX⟩=>⟨v,F d,az,c6,by rw [an]; exact e6,by rw [an]; exact h9,by rw [an]; exact fZ,by rw [an,aU]; exact gX⟩
structure kW (P:Program) (name:String) (τ:I) (τs:List I) (Lin:List aL) {δ:Type} (ρ:δ→I) (Lo:δ→List aL):Prop where
 go:∀ (A:List Nat) (W:World) (u:Value) (vs:List Value),(∀ k∈A,k < W.heap.size∧k ∉ aN Lin)→ (aN Lin).Nodup→ (∀ k∈aN Lin,k < W.heap.size)→ (∀ e∈Lin,e.ok (aN Lin ++ A) W)→fV (aN Lin ++ A) W (τ :: τs) (u :: vs)→
  ∃ f v,(∀ args,(callMethod u name args).run P W= .ok (.enter f (#[v] ++ args)) W)∧Calls P f (v :: vs).toArray W (jh (aN Lin) A W ρ Lo)
theorem kW.of {P:Program} {name:String} {t:TypeId} {f:FuncId} {τ σ:I} {τs:List I} {Lin:List aL} {δ:Type} {ρ:δ→I} {Lo:δ→List aL} (mt:iI P t name f) (GA:∀ A W u,τ.holds A W u→ ∃ v,u= .iface t v∧σ.holds A W v)
 (h:cf P f (σ :: τs) Lin ρ Lo):kW P name τ τs Lin ρ Lo where
 go A W u vs aa ae aD aZ a6:=by
  cases a6 with
  | cons bl cZ=>
    obtain⟨v,rfl,eN⟩:=GA _ _ _ bl
    exact⟨f,v,fun args=>mt.run v W args,h A W (v :: vs) aa ae aD aZ (.cons eN cZ)⟩
section
variable {c:cY} {E:List (Nat × I)} {L:List aL} {ops:Array Oper} {Q:Exit→Act→World→Prop}
variable {d:Option Tmp} {ty:TypeId} {pos:String} {af:Array Edge} {g:Option (Nat × Bool)} {x y z:Operand} {t t2:TypeId}
theorem Jm {a:Act} {W:World} {name:String} {xs:List Operand} {ats:Array TypeId} {τ:I} {τs:List I} {Lin Lr:List aL} {δ:Type} {ρ:δ→I} {Lo:δ→List aL} (h:kW c.P name τ τs Lin ρ Lo)
 (s:bC c E (Lin ++ Lr) a W) (aq:fV (aN (Lin ++ Lr) ++ c.bP) W (τ :: τs) ((x :: xs).map a.eval)):
 gh c.P ⟨d,.call ⟨.invoke x name,xs.toArray,ats⟩,ty,pos,af,g⟩ a W fun v W'=> ∃ a4,bC c E (Lo a4 ++ Lr) a W'∧ (ρ a4).holds (aN (Lo a4 ++ Lr) ++ c.bP) W' v:=by
 have k3:=s.nodup
 rw [eH] at k3
 obtain⟨mc,px,oI⟩:=List.nodup_append.1 k3
 have l2:Ext (aN (Lin ++ Lr) ++ c.bP) W (aN Lin ++ (aN Lr ++ c.bP)) W:=xZ
 have fU:∀ k∈aN Lr ++ c.bP,k < W.heap.size∧k ∉ aN Lin:=fun k hm=>by
  rcases List.mem_append.1 hm with hm | hm
  ·exact⟨s.lt k (by rw [eH]; exact List.mem_append.2 (.inr hm)),fun h=>oI k h k hm rfl⟩
  ·obtain⟨aa,ae⟩:=s.eB k hm
   exact⟨aa,fun h=>ae (by rw [eH]; exact List.mem_append.2 (.inl h))⟩
 have cl:∀ k∈aN Lin,k < W.heap.size:=fun k hm=>s.lt k (by rw [eH]; exact List.mem_append.2 (.inl hm))
 obtain⟨f,v,kk,ar⟩:=h.go (aN Lr ++ c.bP) W (a.eval x) (xs.map a.eval) fU mc cl (fun e he=>aL.q8 (s.own e (List.mem_append.2 (.inl he))) l2 fun _ _=>rfl) (by simpa using aq.mono l2)
 refine .sv (f:=f) (args:=(v :: xs.map a.eval).toArray) (W':=W) ?_ (ar.mono fun e W' ⟨v,a4,he,ba,aa,ae,aD,aZ⟩=> ?_)
 ·have:=kk (xs.map a.eval).toArray
  simp only [execOp,resolve,Sem.run_bind,Sem.run_pure,Result.andThen_ok,invoke]
  simp only [List.map_toArray] at this ⊢
  simp
  rw [List.take_of_length_le (by simp),this]
  simp
 ·refine⟨v,he,a4,s.after ba aa ae aD,(ρ a4).mono DZ aZ⟩
variable {bU:Type} [e9 bU] {hp:a1 bU}
theorem ai.B4 {rest:List Oper} {a4:Nat} {name:String} {xs:List Operand} {ats:Array TypeId} {τ:I} {τs:List I} {Lin Lr:List aL} {δ:Type} {ρ:δ→I} {Lo:δ→List aL} {hq:δ→a1 bU} (n m:Nat) (ao:L.drop n=a3 hp) (h:kW c.P name τ τs (Lin ++ a3 hp) ρ (fun d=>Lo d ++ a3 (hq d)))
 (aa:(L.take n).take m=Lin) (ae:(L.take n).drop m=Lr) (aq:g1 c E L (x :: xs) (τ :: τs)) (aP:Nat.blt a4 c.n=true) (k:∀ q,ai c ops Q rest ((a4,ρ q) :: E) ((Lo q ++ Lr) ++ a3 (hq q))):
 ai c ops Q (⟨some a4,.call ⟨.invoke x name,xs.toArray,ats⟩,ty,pos,af,none⟩ :: rest) E L:=by
 have e:L=(Lin ++ Lr) ++ a3 hp:=by rw [← aa,← ae,List.take_append_drop,← ao,List.take_append_drop]
 clear ao aa ae
 subst e
 exact fun a W s=>hI rfl (Jm (Lr:=Lr) h (s.perm mw) ((aq.holds a W s).mono (mv mw))) fun v W' ⟨q,bZ,a2⟩=>
  k q _ _ ((bZ.perm mw).put (by simpa using aP) ((ρ q).mono (mv mw) a2))
theorem gO.B4 {name:String} {xs:List Operand} {ats:Array TypeId} {τ:I} {τs:List I} {ρ:I} (n:Nat) (ao:L.drop n=a3 hp) (h:kW c.P name τ τs (a3 hp) (fun _:Unit=>ρ) (fun _=>a3 hp))
 (aq:g1 c E L (x :: xs) (τ :: τs)):gO c E L ⟨d,.call ⟨.invoke x name,xs.toArray,ats⟩,ty,pos,af,g⟩ ρ:=fun a W s=>by
 have e:L=L.take n ++ a3 hp:=by rw [← ao,List.take_append_drop]
 have dB:L.Perm (a3 hp ++ L.take n):=by
  conv=>lhs; rw [e]
  exact List.perm_append_comm
 have bh:=Jm (d:=d) (ty:=ty) (pos:=pos) (af:=af) (g:=g) (ats:=ats) (Lr:=L.take n) h (s.perm dB) ((aq.holds a W s).mono (mv dB))
 unfold gh at bh ⊢
 exact Oper.wp_mono (fun iE W' ⟨v,aa,_,ae,aD⟩=>⟨v,aa,ae.perm dB.symm,ρ.mono (mv dB.symm) aD⟩) bh
theorem EH {D:TypeDesc} {σ τ:I} (hu:c.P.underlying t=some D) (ka:(match (motive:=TypeDesc→Bool) D with | .interface _=>false | _=>true)=true) (aq:a7 c E L x σ) (GA:∀ A W v,σ.holds A W v→τ.holds A W (.iface t v)):
 bY c E L ⟨d,.makeInterface t x,ty,pos,af,g⟩ τ:= .pure fun a W s=>
 ⟨.iface t (a.eval x),by
   simp only [execOp,Instr.makeInterface,Sem.run_bind,run_underlying hu,Result.andThen_ok]
   cases D <;> simp at ka <;> rfl,GA _ _ _ (aq a W s)⟩
end
end Gv
