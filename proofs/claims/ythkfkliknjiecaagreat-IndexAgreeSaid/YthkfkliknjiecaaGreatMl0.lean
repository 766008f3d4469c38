/-
  The library of the decompiler, as far as it is needed here. Conditions: none.
-/
import Derived.WalkKit
import Derived.StillTail
import Derived.OwnWalkIn
import Derived.RangeFuncNested
import Derived.RangeFuncLeaves
import Derived.RangeFuncCalls
import Derived.ChangeSame
import Derived.OpenShut
import Derived.Carry
import Derived.DataReads
set_option linter.unusedVariables false
set_option linter.unusedSimpArgs false
namespace Gv
open Go
theorem zL (w:World) (o:Obj) (i:Nat) (h:i < w.heap.size):(w.alloc o).heap[i]? =w.heap[i]? :=by
 show(w.heap.push o)[i]? =w.heap[i]?
 rw [Array.getElem?_push,if_neg (Nat.ne_of_lt h)]
theorem G0 (w:World) (o:Obj):(w.alloc o).heap[w.heap.size]? =some o:=by
 show(w.heap.push o)[w.heap.size]? =some o
 simp
structure Fr (X:List Nat) (W W':World):Prop where
 os:W'.os=W.os
 tape:W'.tape=W.tape
 output:W'.output=W.output
 size:W.heap.size≤W'.heap.size
 block:∀ k,k < W.heap.size→k ∉ X→W'.heap[k]? =W.heap[k]?
theorem Fr.refl (X:List Nat) (W:World):Fr X W W:=⟨rfl,rfl,rfl,Nat.le_refl _,fun _ _ _=>rfl⟩
theorem Fr.trans {X:List Nat} {A B C:World} (h:Fr X A B) (k:Fr X B C):Fr X A C:=
 ⟨k.os.trans h.os,k.tape.trans h.tape,k.output.trans h.output,Nat.le_trans h.size k.size,
   fun i ao ai=>(k.block i (Nat.lt_of_lt_of_le ao h.size) ai).trans (h.block i ao ai)⟩
theorem Fr.weaken {X Y:List Nat} {A B:World} (h:Fr X A B) (s:∀ k∈X,k∈Y):Fr Y A B:=
 ⟨h.os,h.tape,h.output,h.size,fun i ao ai=>h.block i ao fun hm=>ai (s _ hm)⟩
theorem Fr.nil {X:List Nat} {A B:World} (h:Fr [] A B):Fr X A B:=h.weaken (by simp)
theorem Fr.only {X Y:List Nat} {A B:World} (h:Fr X A B) (s:∀ k∈X,k < A.heap.size→k∈Y):Fr Y A B:=
 ⟨h.os,h.tape,h.output,h.size,fun i ao ai=>h.block i ao fun hm=>ai (s _ hm ao)⟩
theorem Fr.alloc {X:List Nat} (W:World) (o:Obj):Fr X W (W.alloc o):=
 ⟨rfl,rfl,rfl,by simp,fun k ar _=>zL W o k ar⟩
theorem Fr.drew {X:List Nat} (W:World):Fr X W W.drew:=⟨rfl,rfl,rfl,Nat.le_refl _,fun _ _ _=>rfl⟩
theorem Fr.setRow {X:List Nat} (W:World) (g:Nat) (cs:Array Value) (h:g∈X):Fr X W (W.setRow g cs):=
 ⟨rfl,rfl,rfl,by simp,fun k _ ai=>setRow_other W g k cs (fun e=>ai (e ▸ h))⟩
structure Ext (A:List Nat) (W:World) (c1:List Nat) (W':World):Prop where
 size:W.heap.size≤W'.heap.size
 block:∀ k,k < W.heap.size→k ∉ A→W'.heap[k]? =W.heap[k]?
 new:∀ k∈c1,k < W.heap.size→k∈A
theorem Ext.refl (A:List Nat) (W:World):Ext A W A W:=⟨Nat.le_refl _,fun _ _ _=>rfl,fun _ h _=>h⟩
theorem Ext.trans {A B C:List Nat} {U V W:World} (h:Ext A U B V) (k:Ext B V C W):Ext A U C W:=
 ⟨Nat.le_trans h.size k.size,
  fun i ao a9=>(k.block i (Nat.lt_of_lt_of_le ao h.size) (fun hb=>a9 (h.new i hb ao))).trans (h.block i ao a9),
  fun i ag ao=>h.new i (k.new i ag (Nat.lt_of_lt_of_le ao h.size)) ao⟩
theorem Ext.WB {A X:List Nat} {W W':World} (h:Fr X W W') (s:∀ k∈X,k∈A):Ext A W A W':=
 ⟨h.size,fun k ar a9=>h.block k ar fun ai=>a9 (s k ai),fun _ h _=>h⟩
theorem Ext.dw {A:List Nat} {W W':World} (h:Fr [] W W'):Ext A W A W':= .WB h (by simp)
theorem Ext.drop {A c1:List Nat} {W:World} (s:∀ k∈c1,k∈A):Ext A W c1 W:=⟨Nat.le_refl _,fun _ _ _=>rfl,fun k h _=>s k h⟩
structure I where
 holds:List Nat→World→Value→Prop
 mono:∀ {A W c1 W' v},Ext A W c1 W'→holds A W v→holds c1 W' v
class ae (α:Type) where
 size:Nat
 agg:Bool
 rep:List Nat→World→List Value→α→Prop
 len:∀ {A W cs x},rep A W cs x→cs.length=size
 one:∀ {A W cs x},rep A W cs x→ ∀ v∈cs,v.oneCell'=true
 flat:agg=false→size=1
 mono:∀ {A W c1 W' cs x},Ext A W c1 W'→rep A W cs x→rep c1 W' cs x
def shaped (b:Bool) (v:Value):Prop:=if b=true then ∃ cs,v= .agg cs else v.oneCell'=true
theorem oe {v:Value} (h:v.oneCell'=true):v.cells= #[v]:=by cases v <;> first | rfl | simp [Value.oneCell'] at h
def I.of {α:Type} [ae α] (x:α):I where
 holds A W v:=shaped (ae.agg α) v∧ae.rep A W v.cells.toList x
 mono e h:=⟨h.1,ae.mono e h.2⟩
def I.eq (u:Value):I where
 holds _ _ v:=v=u
 mono _ h:=h
def I.cond (c:Prop) (τ:I):I where
 holds A W v:=(c→τ.holds A W v)∧ (¬ c→v=undef)
 mono e h:=⟨fun ag=>τ.mono e (h.1 ag),h.2⟩
def I.any:I where
 holds _ _ _:=True
 mono _ h:=h
inductive gu (A:List Nat) (W:World):List I→List Value→Prop
 | nil:gu A W [] []
 | cons {τ v τs vs} :τ.holds A W v→gu A W τs vs→gu A W (τ :: τs) (v :: vs)
theorem gu.mono {A W c1 W'} (e:Ext A W c1 W'):∀ {τs vs},gu A W τs vs→gu c1 W' τs vs
 | _,_,.nil=> .nil
 | _,_,.cons h r=> .cons (I.mono _ e h) (r.mono e)
theorem gu.length {A W} :∀ {τs vs},gu A W τs vs→vs.length=τs.length
 | _,_,.nil=>rfl
 | _,_,.cons _ r=>by simp [r.length]
def I.eA (τs:List I):I where
 holds A W v:= ∃ vs:Array Value,v= .tuple vs∧gu A W τs vs.toList
 mono e h:=let⟨vs,a3,bS⟩:=h; ⟨vs,a3,bS.mono e⟩
def I.ptr {α:Type} [ae α] (x:α):I where
 holds A W v:= ∃ b off cur T gQ,v= .pointer (some ⟨b,off,none⟩)∧b ∉ A∧W.heap[b]? =some (.cells cur T gQ)∧off + ae.size α≤cur.size∧ae.rep A W ((cur.toList.drop off).take (ae.size α)) x
 mono e h:=by
  obtain⟨b,off,cur,T,gQ,rfl,hb,bS,hs,aD⟩:=h
  have bY:b < _:=(Array.getElem?_eq_some_iff.1 bS).1
  exact⟨b,off,cur,T,gQ,rfl,fun hm=>hb (e.new b hm bY),by rw [e.block b bY hb]; exact bS,hs,ae.mono e aD⟩
structure dF where
 holds:List Nat→World→Obj→Prop
 mG:Prop
 mono:∀ {A W c1 W' o},Ext A W c1 W'→holds A W o→holds c1 W' o
def dF.var {α:Type} [ae α] (x:α):dF where
 holds A W o:= ∃ cs T,o= .cells cs T (0,0)∧ae.rep A W cs.toList x
 mG:=False
 mono e h:=let⟨cs,T,a6,aD⟩:=h; ⟨cs,T,a6,ae.mono e aD⟩
def gw {α:Type} [ae α] (A:List Nat) (W:World) (cs:List Value) (xs:List α):Prop:=
 cs.length=xs.length * ae.size α∧ ∀ i (h:i < xs.length),ae.rep A W ((cs.drop (i * ae.size α)).take (ae.size α)) xs[i]
theorem gw.mono {α:Type} [ae α] {A W c1 W'} {cs:List Value} {xs:List α} (e:Ext A W c1 W') (h:gw A W cs xs):gw c1 W' cs xs:=
 ⟨h.1,fun i ao=>ae.mono e (h.2 i ao)⟩
def dF.row {α:Type} [ae α] (T:TypeId) (xs:List α) (cap:Nat):dF where
 holds A W o:= ∃ cs,o= .cells cs T (0,0)∧cs.size=cap * ae.size α∧xs.length≤cap∧cap≤maxLen∧gw A W (cs.toList.take (xs.length * ae.size α)) xs
 mG:=xs= []∧cap=0
 mono e h:=let⟨cs,J,aa,av,aO,aS⟩:=h; ⟨cs,J,aa,av,aO,aS.mono e⟩
def dF.dead:dF where
 holds _ _ _:=True
 mG:=True
 mono _ h:=h
structure aI where
 key:Option Nat
 cp:dF
def aI.ok (A:List Nat) (W:World) (e:aI):Prop:=
 match e.key with
 | some p=> ∃ o,W.heap[p]? =some o∧e.cp.holds A W o
 | none=>e.cp.mG
def aK:List aI→List Nat
 | []=> []
 | e :: r=>match e.key with
   | some p=>p :: aK r
   | none=>aK r
theorem k8 {L:List aI} {k:Nat} :k∈aK L↔ ∃ e∈L,e.key=some k:=by
 induction L with
 | nil=>simp [aK]
 | cons e r bD=>
   cases ar:e.key with
   | none=>simp [aK,ar,bD]
   | some p=>simp [aK,ar,bD,eq_comm]
structure cY where
 P:Program
 n:Nat
 iL:World
 X:List Nat
 bL:List Nat
 rd:Option Nat
 ds:List Nat
def D2 (D:Nat):Deferred:= { target:= .collected D,args:= #[] }
abbrev cY.F (c:cY):Fence:= { fn:=fun _=>True,depth:=none,alive:=false,round:=c.rd }
abbrev cY.wp (c:cY) (y:Code) (Q:Exit→Act→World→Prop):Act→World→Prop:=y.wpIn c.F 9 c.P Q
abbrev cY.pn (c:cY) (ops:Array Oper) (Q:Exit→Act→World→Prop):List Oper→Act→World→Prop:=wpListIn c.F 9 c.P ops Q
def look:List (Nat × I)→Nat→Option I
 | [],_=>none
 | (s,τ) :: r,t=>bif Nat.beq s t then some τ else look r t
structure bC (c:cY) (E:List (Nat × I)) (L:List aI) (a:Act) (W:World):Prop where
 defers:a.defers=c.ds.map D2
 size:a.tmps.size=c.n
 env:∀ t τ,look E t=some τ→ ∃ v,a.tmps[t]? =some v∧τ.holds (aK L ++ c.bL) W v
 dw:Fr c.X c.iL W
 own:∀ e∈L,e.ok (aK L ++ c.bL) W
 nodup:(aK L).Nodup
 lt:∀ k∈aK L,k < W.heap.size
 fK:∀ k∈aK L,k < c.iL.heap.size→k∈c.X
 ew:∀ k∈c.bL,k < W.heap.size∧k ∉ aK L
theorem ec {s t:Nat} :Nat.beq s t=true↔s=t:=by
 constructor
 ·exact Nat.eq_of_beq_eq_true
 ·rintro rfl; exact Nat.beq_refl s
theorem bC.Dv {c E L a W} (h:bC c E L a W):∀ k∈aK L ++ c.bL,k < W.heap.size:=by
 intro k ar
 rcases List.mem_append.1 ar with ar | ar
 ·exact h.lt k ar
 ·exact(h.ew k ar).1
theorem bC.world {c E L a W W'} (h:bC c E L a W) (f:Fr [] W W'):bC c E L a W' where
 defers:=h.defers
 size:=h.size
 env t τ an:=let⟨v,J,aa⟩:=h.env t τ an; ⟨v,J,τ.mono (.dw f) aa⟩
 dw:=h.dw.trans f.nil
 own e he:=by
  have J:=h.own e he
  unfold aI.ok at *
  split at J
  ·rename_i p hp
   obtain⟨o,a6,bS⟩:=J
   have bY:=h.lt p (k8.2 ⟨e,he,hp⟩)
   exact⟨o,by rw [f.block p bY (by simp)]; exact a6,dF.mono _ (.dw f) bS⟩
  ·exact J
 nodup:=h.nodup
 lt k ar:=Nat.lt_of_lt_of_le (h.lt k ar) f.size
 fK:=h.fK
 ew k ar:=⟨Nat.lt_of_lt_of_le (h.ew k ar).1 f.size,(h.ew k ar).2⟩
theorem bC.put {c E L a W} (h:bC c E L a W) {d:Nat} (hd:d < c.n) {v:Value} {τ:I} (a3:τ.holds (aK L ++ c.bL) W v):
 bC c ((d,τ) :: E) L (a.put (some d) v) W where
 defers:=h.defers
 size:=by simp [Act.put,h.size]
 env t mS an:=by
  simp only [look] at an
  simp only [Act.put]
  by_cases e:Nat.beq d t=true
  ·rw [e] at an
   simp only [cond_true,Option.some.injEq] at an
   subst an
   have:=ec.1 e
   subst this
   exact⟨v,by simp [h.size,hd],a3⟩
  ·simp only [Bool.not_eq_true] at e
   rw [e] at an
   simp only [cond_false] at an
   obtain⟨u,J,aa⟩:=h.env t mS an
   have cN:d≠t:=fun h=>by rw [ec.2 h] at e; cases e
   exact⟨u,by rw [Array.getElem?_setIfInBounds_ne cN]; exact J,aa⟩
 dw:=h.dw
 own:=h.own
 nodup:=h.nodup
 lt:=h.lt
 fK:=h.fK
 ew:=h.ew
theorem bC.u5 {c E L a W} (s:bC c E L a W) (h:c.ds= []):a.defers= []:=by rw [s.defers,h]; rfl
theorem bC.less {c E E' L a W} (h:bC c E L a W) (ay:∀ t τ,look E' t=some τ→ ∃ σ,look E t=some σ∧ ∀ A W v,σ.holds A W v→τ.holds A W v):bC c E' L a W:=
 {h with env:=fun t τ an=>let⟨_,J,aa⟩:=ay t τ an; let⟨v,av,aO⟩:=h.env t _ J; ⟨v,av,aa _ _ _ aO⟩ }
theorem bC.alloc {c E L a W} (h:bC c E L a W) {o:Obj} {cp:dF} (ag:cp.holds (aK L ++ c.bL) W o):
 bC c E (⟨some W.heap.size,cp⟩ :: L) a (W.alloc o):=by
 have vW:W.heap.size ∉ aK L:=fun hm=>Nat.lt_irrefl _ (h.lt _ hm)
 have gX:Ext (aK L ++ c.bL) W (aK (⟨some W.heap.size,cp⟩ :: L) ++ c.bL) (W.alloc o):=
  ⟨by simp,fun k ar _=>zL W o k ar,fun k ar bY=>by
   simp only [aK,List.cons_append,List.mem_cons] at ar
   rcases ar with rfl | ar
   ·exact absurd bY (Nat.lt_irrefl _)
   ·exact ar⟩
 exact
 {defers:=h.defers
  size:=h.size
  env:=fun t τ an=>let⟨v,J,aa⟩:=h.env t τ an; ⟨v,J,τ.mono gX aa⟩
  dw:=h.dw.trans (Fr.alloc W o)
  own:=fun e he=>by
   rcases List.mem_cons.1 he with rfl | he
   ·exact⟨o,G0 W o,cp.mono gX ag⟩
   ·have J:=h.own e he
    unfold aI.ok at *
    split at J
    ·rename_i p hp
     obtain⟨o',a6,bS⟩:=J
     exact⟨o',by rw [zL W o p (h.lt p (k8.2 ⟨e,he,hp⟩))]; exact a6,dF.mono _ gX bS⟩
    ·exact J
  nodup:=by simp only [aK]; exact List.nodup_cons.2 ⟨vW,h.nodup⟩
  lt:=fun k ar=>by
   simp only [aK,List.mem_cons] at ar
   rw [World.size_alloc]
   rcases ar with rfl | ar
   ·omega
   ·have:=h.lt k ar; omega
  fK:=fun k ar bY=>by
   simp only [aK,List.mem_cons] at ar
   rcases ar with rfl | ar
   ·have:=h.dw.size; omega
   ·exact h.fK k ar bY
  ew:=fun k ar=>by
   obtain⟨J,aa⟩:=h.ew k ar
   refine⟨by rw [World.size_alloc]; omega,fun hm=> ?_⟩
   simp only [aK,List.mem_cons] at hm
   rcases hm with rfl | hm
   ·omega
   ·exact aa hm }
theorem bC.sub {c E L L' a W} (h:bC c E L a W) (aq:∀ e∈L',e∈L) (aF:(aK L').Nodup):bC c E L' a W:=by
 have ar:∀ k∈aK L',k∈aK L:=fun k ar=>by
  obtain⟨e,he,aa⟩:=k8.1 ar
  exact k8.2 ⟨e,aq e he,aa⟩
 have gX:Ext (aK L ++ c.bL) W (aK L' ++ c.bL) W:= .drop fun k hm=>by
  rcases List.mem_append.1 hm with hm | hm
  ·exact List.mem_append.2 (.inl (ar k hm))
  ·exact List.mem_append.2 (.inr hm)
 exact
 {defers:=h.defers
  size:=h.size
  env:=fun t τ an=>let⟨v,J,aa⟩:=h.env t τ an; ⟨v,J,τ.mono gX aa⟩
  dw:=h.dw
  own:=fun e he=>by
   have J:=h.own e (aq e he)
   unfold aI.ok at *
   split at J
   ·obtain⟨o',a6,bS⟩:=J
    exact⟨o',a6,dF.mono _ gX bS⟩
   ·exact J
  nodup:=aF
  lt:=fun k hm=>h.lt k (ar k hm)
  fK:=fun k hm=>h.fK k (ar k hm)
  ew:=fun k hm=>⟨(h.ew k hm).1,fun aa=>(h.ew k hm).2 (ar k aa)⟩ }
theorem e4 (L R:List aI):aK (L ++ R)=aK L ++ aK R:=by
 induction L with
 | nil=>rfl
 | cons e r bD=>cases ar:e.key <;> simp [aK,ar,bD]
theorem xz {L:List aI} {i:Nat} {e:aI} {cp:dF} (ao:L[i]? =some e):aK (L.set i ⟨e.key,cp⟩)=aK L:=by
 induction L generalizing i with
 | nil=>simp at ao
 | cons x r bD=>
   cases i with
   | zero=>simp only [List.getElem?_cons_zero,Option.some.injEq] at ao; subst ao; simp [aK]
   | succ i=>simp only [List.getElem?_cons_succ] at ao; simp [aK,bD ao]
theorem G1 {L:List aI} (aF:(aK L).Nodup) {i j:Nat} {e f:aI} {p:Nat} (ao:L[i]? =some e) (aB:L[j]? =some f) (he:e.key=some p) (aV:f.key=some p):i=j:=by
 induction L generalizing i j with
 | nil=>simp at ao
 | cons x r bD=>
   have aD:(aK r).Nodup:=by
    cases ai:x.key with
    | none=>simpa [aK,ai] using aF
    | some q=>simp only [aK,ai] at aF; exact(List.nodup_cons.1 aF).2
   have pN:∀ q,x.key=some q→q ∉ aK r:=fun q ai=>by simp only [aK,ai] at aF; exact(List.nodup_cons.1 aF).1
   cases i with
   | zero=>
     simp only [List.getElem?_cons_zero,Option.some.injEq] at ao
     subst ao
     cases j with
     | zero=>rfl
     | succ j=>
       simp only [List.getElem?_cons_succ] at aB
       exact absurd (k8.2 ⟨f,List.mem_of_getElem? aB,aV⟩) (pN p he)
   | succ i=>
     simp only [List.getElem?_cons_succ] at ao
     cases j with
     | zero=>
       simp only [List.getElem?_cons_zero,Option.some.injEq] at aB
       subst aB
       exact absurd (k8.2 ⟨e,List.mem_of_getElem? ao,he⟩) (pN p aV)
     | succ j=>
       simp only [List.getElem?_cons_succ] at aB
       rw [bD aD ao aB]
theorem bC.store {c E L a W} (h:bC c E L a W) {i p:Nat} {cp cp':dF} (ao:L[i]? =some ⟨some p,cp⟩) {cs dM:Array Value} {T:TypeId}
 (a6:W.heap[p]? =some (.cells cs T (0,0))) (ag:cp'.holds (aK L ++ c.bL) W (.cells dM T (0,0))):
 bC c E (L.set i ⟨some p,cp'⟩) a (W.setRow p dM):=by
 have g1:aK (L.set i ⟨some p,cp'⟩)=aK L:=xz (cp:=cp') ao
 have hp:p∈aK L:=k8.2 ⟨_,List.mem_of_getElem? ao,rfl⟩
 have gX:Ext (aK L ++ c.bL) W (aK L ++ c.bL) (W.setRow p dM):=
  ⟨by simp,fun k _ a9=>setRow_other W p k dM (fun e=>a9 (e ▸ List.mem_append.2 (.inl hp))),fun _ h _=>h⟩
 exact
 {defers:=h.defers
  size:=h.size
  env:=fun t τ an=>by rw [g1]; exact let⟨v,J,aa⟩:=h.env t τ an; ⟨v,J,τ.mono gX aa⟩
  dw:=⟨h.dw.os,h.dw.tape,h.dw.output,by simpa using h.dw.size,fun k ar ai=>by
   rw [setRow_other W p k dM (fun e=>ai (e ▸ h.fK p hp (e ▸ ar)))]
   exact h.dw.block k ar ai⟩
  own:=fun e he=>by
   rw [g1]
   obtain⟨j,aB⟩:=List.mem_iff_getElem?.1 he
   rw [List.getElem?_set] at aB
   split at aB
   ·rename_i fo
    subst fo
    split at aB
    ·simp only [Option.some.injEq] at aB
     subst aB
     exact⟨_,setRow_heap W p cs dM T (0,0) a6,cp'.mono gX ag⟩
    ·cases aB
   ·rename_i fo
    have J:=h.own e (List.mem_of_getElem? aB)
    unfold aI.ok at *
    split at J
    ·rename_i q hq
     obtain⟨o',sr,bS⟩:=J
     have cN:q≠p:=fun e'=>fo (G1 h.nodup ao aB rfl (e' ▸ hq))
     exact⟨o',by rw [setRow_other W p q dM cN]; exact sr,dF.mono _ gX bS⟩
    ·exact J
  nodup:=by rw [g1]; exact h.nodup
  lt:=by rw [g1]; simpa using h.lt
  fK:=by rw [g1]; exact h.fK
  ew:=by rw [g1]; simpa using h.ew }
abbrev ae.scalar {α:Type} (val:α→Value) (h:∀ x,(val x).oneCell'=true):ae α where
 size:=1
 agg:=false
 rep _ _ cs x:=cs= [val x]
 len h:=by rw [h]; rfl
 one aD:=by subst aD; intro v a3; rw [List.mem_singleton.1 a3]; exact h _
 flat _:=rfl
 mono _ h:=h
instance:ae Bool:= .scalar Value.bool fun _=>rfl
instance:ae Int:= .scalar (Value.int .i64) fun _=>rfl
instance:ae (BitVec 64):= .scalar (fun x=>Value.int .u64 (x.toNat:Int)) fun _=>rfl
instance:ae (BitVec 32):= .scalar (fun x=>Value.int .u32 (x.toNat:Int)) fun _=>rfl
instance:ae (BitVec 16):= .scalar (fun x=>Value.int .u16 (x.toNat:Int)) fun _=>rfl
instance:ae (BitVec 8):= .scalar (fun x=>Value.int .u8 (x.toNat:Int)) fun _=>rfl
instance:ae ByteArray:= .scalar Value.string fun _=>rfl
theorem od {v u:Value} (h:v.oneCell'=true) (e:v.cells.toList= [u]):v=u:=by
 rw [oe h] at e
 simpa using e
theorem of_bool {A W v} {b:Bool} :(I.of b).holds A W v↔v= .bool b:=
 ⟨fun h=>od h.1 h.2,fun h=>by subst h; exact⟨rfl,rfl⟩⟩
theorem of_int {A W v} {x:Int} :(I.of x).holds A W v↔v= .int .i64 x:=
 ⟨fun h=>od h.1 h.2,fun h=>by subst h; exact⟨rfl,rfl⟩⟩
theorem hS {A W v} {x:BitVec 64} :(I.of x).holds A W v↔v= .int .u64 (x.toNat:Int):=
 ⟨fun h=>od h.1 h.2,fun h=>by subst h; exact⟨rfl,rfl⟩⟩
theorem pI {A W v} {x:BitVec 8} :(I.of x).holds A W v↔v= .int .u8 (x.toNat:Int):=
 ⟨fun h=>od h.1 h.2,fun h=>by subst h; exact⟨rfl,rfl⟩⟩
theorem MD {A W v} {x:ByteArray} :(I.of x).holds A W v↔v= .string x:=
 ⟨fun h=>od h.1 h.2,fun h=>by subst h; exact⟨rfl,rfl⟩⟩
def a8 (c:cY) (E:List (Nat × I)) (L:List aI) (x:Operand) (τ:I):Prop:= ∀ a W,bC c E L a W→τ.holds (aK L ++ c.bL) W (a.eval x)
section
variable {c:cY} {E:List (Nat × I)} {L:List aI}
theorem ad {t:Nat} {τ:I} (h:look E t=some τ):a8 c E L (.tmp t) τ:=fun a W s=>by
 obtain⟨v,J,aa⟩:=s.env t τ h
 have:a.eval (.tmp t)=v:=by simp [Act.eval,J]
 rw [this]; exact aa
theorem cy {t:Nat} {τ:I} {p:Prop} (h:look E t=some (.cond p τ)) (hp:p):a8 c E L (.tmp t) τ:=fun a W s=>(ad h a W s).1 hp
theorem GK (v:Value):a8 c E L (.const v) (.eq v):=fun _ _ _=>rfl
theorem bG (k:Int):a8 c E L (.const (.int .i64 k)) (.of k):=fun _ _ _=>of_int.2 rfl
theorem fQ (b:Bool):a8 c E L (.const (.bool b)) (.of b):=fun _ _ _=>of_bool.2 rfl
theorem j3 (x:BitVec 64) {k:Int} (h:(x.toNat:Int)=k):a8 c E L (.const (.int .u64 k)) (.of x):=fun _ _ _=>hS.2 (by rw [h]; rfl)
theorem Gu (x:BitVec 8) {k:Int} (h:(x.toNat:Int)=k):a8 c E L (.const (.int .u8 k)) (.of x):=fun _ _ _=>pI.2 (by rw [h]; rfl)
theorem dy (s:ByteArray):a8 c E L (.const (.string s)) (.of s):=fun _ _ _=>MD.2 rfl
def gx (P:Program) (o:Oper) (a:Act) (W:World) (R:Value→World→Prop):Prop:=
 o.wp P a W (fun gn W'=> ∃ v,gn=a.put o.dst v∧R v W') (fun _ _ _=>False)
theorem CallsIn.Gw {rd:Option Nat} {n:Nat} {P:Program} {f:FuncId} {args:Array Value} {w:World} {R:Ending→World→Prop}
 (h:Calls P f args w R):CallsIn { fn:=fun _=>True,depth:=none,alive:=false,round:=rd } n P f args w R:=
 (callsIn_wide (n:=n)).2 h
theorem RowsIn.Uz {rd:Option Nat} {n:Nat} {P:Program} {row:String} {args:Array Value} {w:World} {R:Value→World→Prop}
 (h:Rows P row args w R):RowsIn { fn:=fun _=>True,depth:=none,alive:=false,round:=rd } n P row args w R:=
 fun c cs _=>let⟨v,jZ,r,s⟩:=h c cs; ⟨v,jZ,r,stepsIn_wide.2 s⟩
theorem gx.wp {P:Program} {o:Oper} {a:Act} {W:World} {R:Value→World→Prop} {next:Act→World→Prop} {Q:Exit→Act→World→Prop}
 (h:gx P o a W R) (ar:∀ v W',R v W'→next (a.put o.dst v) W'):o.wp P a W next Q:=by
 unfold gx Oper.wp at *
 generalize (execOp a.eval o).run P W=r at *
 cases r with
 | ok n W'=>
   cases n <;> simp only [Oper.upon] at h ⊢
   case value v=>obtain⟨u,J,aa⟩:=h; rw [J]; exact ar _ _ aa
   case skip=>obtain⟨u,J,aa⟩:=h; rw [J]; exact ar _ _ aa
   case defer d=>obtain⟨u,J,aa⟩:=h; rw [J]; exact ar _ _ aa
   case enter f args=>
    refine h.mono fun e ug he=> ?_
    cases e with
    | returned v=>obtain⟨u,J,aa⟩:=he; simp only at J ⊢; rw [J]; exact ar _ _ aa
    | panicked Jo=>exact he.elim
    | outgrown=>obtain⟨_,_,J⟩:=he; exact J.elim
   case row row args=>exact h.mono fun v ug ⟨u,J,aa⟩=>by rw [J]; exact ar _ _ aa
 | halt x W'=>cases x <;> simp only [Oper.upon] at h
theorem gx.SP {P:Program} {o:Oper} {a:Act} {W:World} {R:Value→World→Prop} (h:gx P o a W R):∀ c,o.op≠ .defer c:=by
 intro c a6
 unfold gx Oper.wp execOp at h
 rw [a6] at h
 simp only [Sem.run_bind] at h
 generalize (resolve a.eval c o.type).run P W=r at h
 cases r with
 | ok d W'=>
   simp only [Result.andThen,Sem.run_pure,Oper.upon] at h
   obtain⟨v,J,_⟩:=h
   have:=congrArg Act.defers J
   cases hd:o.dst <;> simp [Act.put,hd] at this
 | halt x W'=>cases x <;> simp only [Result.andThen,Oper.upon] at h
theorem gx.wpIn {c:cY} {n:Nat} {o:Oper} {a:Act} {W:World} {R:Value→World→Prop} {next:Act→World→Prop} {Q:Exit→Act→World→Prop}
 (h:gx c.P o a W R) (ar:∀ v W',R v W'→next (a.put o.dst v) W'):o.wpIn c.F n c.P a W next Q:=by
 refine⟨fun _ _=>trivial,?_⟩
 rw [Oper.semAt_eq _ _ _ h.SP]
 unfold gx Oper.wp at h
 generalize (execOp a.eval o).run c.P W=r at *
 cases r with
 | ok m W'=>
   cases m <;> simp only [Oper.upon,Oper.uponIn] at h ⊢
   case value v=>obtain⟨u,J,aa⟩:=h; rw [J]; exact ar _ _ aa
   case skip=>obtain⟨u,J,aa⟩:=h; rw [J]; exact ar _ _ aa
   case defer d=>obtain⟨u,J,aa⟩:=h; rw [J]; exact ar _ _ aa
   case enter f args=>
    refine⟨fun h=>by simp at h,CallsIn.Gw ?_⟩
    refine h.mono fun e ug he=> ?_
    cases e with
    | returned v=>obtain⟨u,J,aa⟩:=he; simp only at J ⊢; rw [J]; exact ar _ _ aa
    | panicked Jo=>exact he.elim
    | outgrown=>obtain⟨_,_,J⟩:=he; exact J.elim
   case row row args=>
    refine⟨fun h=>by simp at h,RowsIn.Uz ?_⟩
    exact h.mono fun v ug ⟨u,J,aa⟩=>by rw [J]; exact ar _ _ aa
 | halt x W'=>cases x <;> simp only [Oper.upon] at h
theorem Rb {c:cY} {n:Nat} {o:Oper} {a:Act} {W W':World} {v:Value} {next:Act→World→Prop} {Q:Exit→Act→World→Prop}
 (h:(execOp a.eval o).run c.P W= .ok (.value v) W') (ar:next (a.put o.dst v) W'):o.wpIn c.F n c.P a W next Q:=
 gx.wpIn (R:=fun u U=>u=v∧U=W') (by unfold gx Oper.wp; rw [h]; exact⟨v,rfl,rfl,rfl⟩) fun u U ⟨J,aa⟩=>by subst J; subst aa; exact ar
theorem Ks {c:cY} {n:Nat} {o:Oper} {a:Act} {W W':World} {next:Act→World→Prop} {Q:Exit→Act→World→Prop}
 (h:(execOp a.eval o).run c.P W= .ok .skip W') (ar:next (a.put o.dst undef) W'):o.wpIn c.F n c.P a W next Q:=
 gx.wpIn (R:=fun u U=>u=undef∧U=W') (by unfold gx Oper.wp; rw [h]; exact⟨undef,rfl,rfl,rfl⟩) fun u U ⟨J,aa⟩=>by subst J; subst aa; exact ar
theorem y2 {F:Fence} {n:Nat} {P:Program} {md:Region.Mode} {ops:Array Oper} {sM:Exit→Act→World→Prop} :∀ (l:List Oper) (k:Nat) (a1:Array Bool) (a:Act) (w:World),(∀ j,l[j]? =ops[k + j]?)→
 Region.seqB md ops l.length k a1=true→wpListIn F n P ops sM l a w→wpAnyIn F n P md ops sM l.length a1 a w
 | [],_,_,_,_,_,hA,h=>⟨by simpa [Region.seqB] using hA,h⟩
 | o :: l,k,a1,a,w,an,hA,h=>by
   have bA:ops[k]? =some o:=by simpa using (an 0).symm
   simp only [List.length_cons,Region.seqB,Bool.and_eq_true,decide_eq_true_eq] at hA
   refine⟨fun J=>(by rw [hA.1] at J; cases J),fun i ao=> ?_⟩
   rw [hA.1] at ao
   have ln:i=k:=by simpa using ao
   subst ln
   have hw:wpOpIn F n P ops sM i (wpListIn F n P ops sM l) a w:=by unfold wpOpIn; simp only [bA]; exact h
   exact wpOpIn_mono (fun gn jZ cS=>y2 l (i + 1) _ gn jZ (fun j=>by have:=an (j + 1); simpa [Nat.add_assoc,Nat.add_comm 1 j] using this) hA.2 cS) hw
theorem gx.lx {P:Program} {o:Oper} {a:Act} {W W':World} {R:Value→World→Prop} {v:Value}
 (h:(execOp a.eval o).run P W= .ok (.value v) W') (aD:R v W'):gx P o a W R:=by
 unfold gx Oper.wp
 rw [h]
 exact⟨v,rfl,aD⟩
theorem gx.xr {P:Program} {o:Oper} {a:Act} {W W':World} {R:Value→World→Prop}
 (h:(execOp a.eval o).run P W= .ok .skip W') (aD:R undef W'):gx P o a W R:=by
 unfold gx Oper.wp
 rw [h]
 exact⟨undef,rfl,aD⟩
theorem gx.u6 {P:Program} {o:Oper} {a:Act} {W W':World} {R:Value→World→Prop} {f:FuncId} {args:Array Value}
 (h:(execOp a.eval o).run P W= .ok (.enter f args) W') (aD:Calls P f args W' fun e ug=> ∃ v,e= .returned v∧R v ug):gx P o a W R:=by
 unfold gx Oper.wp
 rw [h]
 exact aD.mono fun e ug ⟨v,he,aa⟩=>by subst he; exact⟨v,rfl,aa⟩
def bO (c:cY) (E:List (Nat × I)) (L:List aI) (o:Oper) (τ:I):Prop:=
 ∀ a W,bC c E L a W→gx c.P o a W fun v W'=>Fr [] W W'∧τ.holds (aK L ++ c.bL) W' v
theorem bO.pure {o:Oper} {τ:I} (h:∀ a W,bC c E L a W→ ∃ v,(execOp a.eval o).run c.P W= .ok (.value v) W∧τ.holds (aK L ++ c.bL) W v):bO c E L o τ:=
 fun a W s=>let⟨_,J,aa⟩:=h a W s; .lx J ⟨.refl _ _,aa⟩
variable {ops:Array Oper} {Q:Exit→Act→World→Prop}
def ah (c:cY) (ops:Array Oper) (Q:Exit→Act→World→Prop) (l:List Oper) (E:List (Nat × I)) (L:List aI):Prop:=
 ∀ a W,bC c E L a W→c.pn ops Q l a W
def aj (c:cY) (Q:Exit→Act→World→Prop) (x:Exit) (E:List (Nat × I)) (L:List aI):Prop:= ∀ a W,bC c E L a W→Q x a W
theorem ah.nil (h:aj c Q .normal E L):ah c ops Q [] E L:=fun a W s=>wpListIn_nil (h a W s)
theorem hO {c:cY} {o:Oper} {rest:List Oper} {a:Act} {W:World} (bg:o.guard=none) {R:Value→World→Prop} (h:gx c.P o a W R)
 (ar:∀ v W',R v W'→c.pn ops Q rest (a.put o.dst v) W'):c.pn ops Q (o :: rest) a W:=
 wpListIn_plain bg fun _ sN=>h.wpIn fun v W' aD=>sN _ _ (ar v W' aD)
theorem ah.v {o:Oper} {rest:List Oper} {d:Nat} {τ:I} (h:bO c E L o τ) (bg:o.guard=none) (hd:o.dst=some d) (aF:Nat.blt d c.n=true)
 (k:ah c ops Q rest ((d,τ) :: E) L):ah c ops Q (o :: rest) E L:=fun a W s=>
 hO bg (h a W s) fun v W' ⟨f,a3⟩=>by
  rw [hd]
  exact k _ _ ((s.world f).put (by simpa using aF) a3)
theorem ah.x {o:Oper} {rest:List Oper} {τ:I} (h:bO c E L o τ) (bg:o.guard=none) (hd:o.dst=none)
 (k:ah c ops Q rest E L):ah c ops Q (o :: rest) E L:=fun a W s=>
 hO bg (h a W s) fun v W' ⟨f,_⟩=>by
  rw [hd]
  exact k _ _ (s.world f)
theorem xm {j g:Nat} {b:Bool} (aB:(ops[j]?).bind (·.dst)=some g) (an:look E g=some (.of b)) {a:Act} {W:World} (s:bC c E L a W):
 yielded ops a.tmps j=some b:=by
 obtain⟨v,J,aa⟩:=s.env g _ an
 unfold yielded
 rw [aB]
 simp only [Option.bind_some,J,of_bool.1 aa]
theorem ah.g {o:Oper} {rest:List Oper} {d j g:Nat} {b want:Bool} {τ:I} (h:b=want→bO c E L o τ) (bg:o.guard=some (j,want)) (aB:(ops[j]?).bind (·.dst)=some g)
 (an:look E g=some (.of b)) (hd:o.dst=some d) (aF:Nat.blt d c.n=true)
 (k:ah c ops Q rest ((d,.cond (b=want) τ) :: E) L):ah c ops Q (o :: rest) E L:=fun a W s=>by
 have a4:=xm aB an s
 unfold cY.pn wpListIn
 by_cases hb:b=want
 ·rw [if_pos (by simp [Region.wanted,bg,a4,hb])]
  refine((h hb a W s).wpIn fun v W' ⟨f,a3⟩=> ?_)
  rw [hd]
  exact k _ _ ((s.world f).put (by simpa using aF) ⟨fun _=>a3,fun h=>absurd hb h⟩)
 ·rw [if_neg (by simp [Region.wanted,bg,a4,hb])]
  rw [hd]
  exact⟨fun _ _=>trivial,k _ _ (s.put (by simpa using aF) ⟨fun h=>absurd h hb,fun _=>rfl⟩)⟩
theorem Kt {j g:Nat} {p:Prop} {b:Bool} (aB:(ops[j]?).bind (·.dst)=some g) (an:look E g=some (.cond p (.of b))) {a:Act} {W:World} (s:bC c E L a W):
 (p→yielded ops a.tmps j=some b)∧ (¬ p→yielded ops a.tmps j=none):=by
 obtain⟨v,J,aa,av⟩:=s.env g _ an
 unfold yielded
 rw [aB]
 simp only [Option.bind_some,J]
 exact⟨fun hp=>by simp only [of_bool.1 (aa hp)],fun hp=>by simp only [av hp]; rfl⟩
theorem ah.gg {o:Oper} {rest:List Oper} {d j g:Nat} {p:Prop} {b want:Bool} {τ:I} (h:p∧b=want→bO c E L o τ) (bg:o.guard=some (j,want)) (aB:(ops[j]?).bind (·.dst)=some g)
 (an:look E g=some (.cond p (.of b))) (hd:o.dst=some d) (aF:Nat.blt d c.n=true)
 (k:ah c ops Q rest ((d,.cond (p∧b=want) τ) :: E) L):ah c ops Q (o :: rest) E L:=fun a W s=>by
 have a4:=Kt aB an s
 unfold cY.pn wpListIn
 by_cases hb:p∧b=want
 ·rw [if_pos (by simp [Region.wanted,bg,a4.1 hb.1,hb.2])]
  refine((h hb a W s).wpIn fun v W' ⟨f,a3⟩=> ?_)
  rw [hd]
  exact k _ _ ((s.world f).put (by simpa using aF) ⟨fun _=>a3,fun h=>absurd hb h⟩)
 ·have hw:Region.wanted o (yielded ops a.tmps)=false:=by
   by_cases hp:p
   ·have: ¬ (b=want):=fun h=>hb ⟨hp,h⟩
    simp [Region.wanted,bg,a4.1 hp,this]
   ·simp [Region.wanted,bg,a4.2 hp]
  rw [if_neg (by simp [hw])]
  refine⟨fun _ _=>trivial,?_⟩
  rw [hd]
  exact k _ _ (s.put (by simpa using aF) ⟨fun h=>absurd h hb,fun _=>rfl⟩)
def sub:List (Nat × I)→List Nat→List (Nat × I)
 | _,[]=> []
 | E,t :: r=>match look E t with
   | some τ=>(t,τ) :: sub E r
   | none=>sub E r
inductive hl (E:List (Nat × I)):List (Nat × I)→Prop
 | nil:hl E []
 | cons {t τ σ r} :look E t=some σ→ (∀ A W v,σ.holds A W v→τ.holds A W v)→hl E r→hl E ((t,τ) :: r)
theorem hl.same {t:Nat} {τ:I} {r:List (Nat × I)} (h:look E t=some τ) (k:hl E r):hl E ((t,τ) :: r):= .cons h (fun _ _ _ h=>h) k
theorem hl.look:∀ {E':List (Nat × I)},hl E E'→ ∀ t τ,Gv.look E' t=some τ→ ∃ σ,Gv.look E t=some σ∧ ∀ A W v,σ.holds A W v→τ.holds A W v
 | _,.nil,t,τ,h=>by simp [Gv.look] at h
 | _,.cons (t:=s) (σ:=σ) J aa r,t,τ,h=>by
   simp only [Gv.look] at h
   by_cases e:Nat.beq s t=true
   ·rw [e] at h
    simp only [cond_true,Option.some.injEq] at h
    subst h
    rw [ec.1 e] at J
    exact⟨σ,J,aa⟩
   ·simp only [Bool.not_eq_true] at e
    rw [e] at h
    exact r.look t τ h
theorem aj.le {x:Exit} {E':List (Nat × I)} (h:hl E E') (k:aj c Q x E' L):aj c Q x E L:=fun a W s=>k a W (s.less h.look)
theorem ah.le {l:List Oper} {E':List (Nat × I)} (h:hl E E') (k:ah c ops Q l E' L):ah c ops Q l E L:=fun a W s=>k a W (s.less h.look)
def ak (c:cY) (Q:Exit→Act→World→Prop) (code:Code) (E:List (Nat × I)) (L:List aI):Prop:= ∀ a W,bC c E L a W→c.wp code Q a W
theorem ak.le {code:Code} {E':List (Nat × I)} (h:hl E E') (k:ak c Q code E' L):ak c Q code E L:=fun a W s=>k a W (s.less h.look)
theorem ak.cU {id:Nat} {l:List Oper} (h:ah c l.toArray Q l E L):ak c Q (.region id l.toArray false) E L:=fun a W s=>wpIn_region_lit (h a W s)
theorem ak.seq {x y:Code} (h:ak c (Exit.then (c.wp y Q) Q) x E L):ak c Q (.seq x y) E L:=fun a W s=>wpIn_seq (h a W s)
theorem aj.next {y:Code} (h:ak c Q y E L):aj c (Exit.then (c.wp y Q) Q) .normal E L:=fun a W s=>h a W s
theorem aj.exit {y:Act→World→Prop} {id:Nat} (h:aj c Q (.exit id) E L):aj c (Exit.then y Q) (.exit id) E L:=fun a W s=>h a W s
theorem aj.ret {y:Act→World→Prop} (h:aj c Q .ret E L):aj c (Exit.then y Q) .ret E L:=fun a W s=>h a W s
theorem ak.block {id:Nat} {x:Code} (h:ak c (Exit.inBlock id Q) x E L):ak c Q (.block id x) E L:=fun a W s=>wpIn_block (h a W s)
theorem aj.fV {id:Nat} (h:aj c Q .normal E L):aj c (Exit.inBlock id Q) .normal E L:=fun a W s=>h a W s
theorem aj.jd {id:Nat} (h:aj c Q .normal E L):aj c (Exit.inBlock id Q) (.exit id) E L:=fun a W s=>by
 show(if id=id then Q .normal a W else Q (.exit id) a W)
 rw [if_pos rfl]; exact h a W s
theorem aj.Ul {id AR:Nat} (cN:Nat.beq AR id=false) (h:aj c Q (.exit AR) E L):aj c (Exit.inBlock id Q) (.exit AR) E L:=fun a W s=>by
 show(if AR=id then Q .normal a W else Q (.exit AR) a W)
 rw [if_neg (fun e=>by rw [e,Nat.beq_refl] at cN; cases cN)]; exact h a W s
theorem aj.fS {id:Nat} (h:aj c Q .ret E L):aj c (Exit.inBlock id Q) .ret E L:=fun a W s=>h a W s
theorem ak.skip (h:aj c Q .normal E L):ak c Q .skip E L:=fun a W s=>wpIn_skip (h a W s)
theorem ak.exit {id:Nat} (h:aj c Q (.exit id) E L):ak c Q (.exit id) E L:=fun a W s=>wpIn_exit (h a W s)
theorem ak.ret (h:aj c Q .ret E L):ak c Q .ret E L:=fun a W s=>wpIn_ret (h a W s)
theorem ak.cond {x:Operand} {b:Bool} {y z:Code} (an:a8 c E L x (.of b)) (bl:b=true→ak c Q y E L) (aV:b=false→ak c Q z E L):ak c Q (.cond x y z) E L:=
 fun a W s=>wpIn_cond_split (of_bool.1 (an a W s)) (fun h=>bl h a W s) (fun h=>aV h a W s)
def gG {σ ε:Type} :Nat→ (σ→Option (σ ⊕ ε))→σ→Option ε
 | 0,_,_=>none
 | n + 1,b,s=>match b s with
   | none=>none
   | some (.inl bR)=>gG n b bR
   | some (.inr e)=>some e
def Ps {σ ε:Type} (c:cY) (E:σ→List (Nat × I)) (L:σ→List aI) (xs:ε→Exit) (fJ:ε→List (Nat × I)) (Lx:ε→List aI):σ ⊕ ε→Exit→Act→World→Prop
 | .inl s,x,a,W=>x= .normal∧bC c (E s) (L s) a W
 | .inr e,x,a,W=>x≠ .normal∧x=xs e∧bC c (fJ e) (Lx e) a W
theorem aj.round {σ ε:Type} {E':σ→List (Nat × I)} {L':σ→List aI} {xs:ε→Exit} {fJ:ε→List (Nat × I)} {Lx:ε→List aI} {s:σ}
 (h:∀ a W,bC c E L a W→bC c (E' s) (L' s) a W):aj c (Ps c E' L' xs fJ Lx (.inl s)) .normal E L:=fun a W st=>⟨rfl,h a W st⟩
theorem K1 {F:Fence} {n:Nat} {P:Program} {body:Code} {σ ε:Type} (b:σ→Option (σ ⊕ ε)) (eF:σ→Act→World→Prop) (X:ε→Exit→Act→World→Prop)
 (pb:∀ s r,b s=some r→ ∀ a W,eF s a W→body.wpIn F n P (fun x a W=>match r with | .inl bR=>x= .normal∧eF bR a W | .inr e=>x≠ .normal∧X e x a W) a W)
 (Q:Exit→Act→World→Prop) (e:ε) (ot:∀ x a W,X e x a W→Q x a W) {bX:σ} {N:Nat} (an:gG N b bX=some e) {hy:Act} {iL:World} (bA:eF bX hy iL):
 (Code.loop body).wpIn F n P Q hy iL:=by
 intro dw k cs yb hb aD
 have key:∀ N s,gG N b s=some e→ ∀ a W,eF s a W→
  ∃ x gn W',Q x gn W'∧ArrivesIn (Machine.fenced P F) P (lone (dw.atR a (.code body :: .inLoop body :: k)) cs W) dw k cs x gn W':=by
  intro N
  induction N with
  | zero=>intro s h; simp [gG] at h
  | succ N bD=>
    intro s h a W kk
    simp only [gG] at h
    split at h
    ·cases h
    ·rename_i bR hs
     obtain⟨x,xV,xW,hq,qV⟩:=pb s _ hs a W kk dw (.inLoop body :: k) cs yb hb aD
     obtain⟨ai,Ir⟩:=hq
     subst ai
     obtain⟨HZ,H0,H2,Hx,Gx⟩:=bD bR h xV xW Ir
     exact⟨HZ,H0,H2,Hx,.of_steps (StepsIn.trans qV (.one (fenced_calm hb aD rfl) stepR_inLoop)) Gx⟩
    ·rename_i e' hs
     simp only [Option.some.injEq] at h
     subst h
     obtain⟨x,xV,xW,hq,qV⟩:=pb s _ hs a W kk dw (.inLoop body :: k) cs yb hb aD
     obtain⟨ai,Jp⟩:=hq
     exact⟨x,xV,xW,ot _ _ _ Jp,.pass (x:= .inLoop body) rfl (fun _ _=> .inl ai) qV⟩
 obtain⟨x,gn,W',hq,qV⟩:=key N bX an hy iL bA
 exact⟨x,gn,W',hq,.of_steps (.one (fenced_calm hb aD rfl) stepR_loop) qV⟩
theorem ak.loop {σ ε:Type} {body:Code} {N:Nat} {b:σ→Option (σ ⊕ ε)} {bX:σ} {e:ε} (an:gG N b bX=some e)
 (E:σ→List (Nat × I)) (L:σ→List aI) (xs:ε→Exit) (fJ:ε→List (Nat × I)) (Lx:ε→List aI)
 (r6:∀ s r,b s=some r→ak c (Ps c E L xs fJ Lx r) body (E s) (L s))
 (ot:aj c Q (xs e) (fJ e) (Lx e)):ak c Q (.loop body) (E bX) (L bX):=fun a W st=>
 K1 b (fun s a W=>bC c (E s) (L s) a W) (fun e x a W=>x=xs e∧bC c (fJ e) (Lx e) a W)
  (fun s r hs a W kk=>wpIn_mono (r6 s r hs a W kk) (fun x a W h=>by
   cases r with
   | inl bR=>exact h
   | inr e'=>exact⟨h.1,h.2⟩)) Q e (fun x a W ⟨ai,hs⟩=>by subst ai; exact ot a W hs) an st
def cl (P:Program) (f:FuncId) (τs:List I) (ρ:I):Prop:=
 ∀ (A:List Nat) (W:World) (vs:List Value),(∀ k∈A,k < W.heap.size)→gu A W τs vs→
   Calls P f vs.toArray W fun e W'=> ∃ v,e= .returned v∧Fr [] W W'∧ρ.holds A W' v
def params:Nat→List I→List (Nat × I)
 | _,[]=> []
 | k,τ :: r=>(k,τ) :: params (k + 1) r
theorem uW {A:List Nat} {W:World} {τs:List I} {vs:List Value} (h:gu A W τs vs):∀ (k t:Nat) (τ:I),look (params k τs) t=some τ→k≤t∧ ∃ v,vs[t - k]? =some v∧τ.holds A W v:=by
 induction h with
 | nil=>intro k t τ h; simp [params,look] at h
 | cons J r bD=>
   intro k t τ an
   simp only [params,look] at an
   by_cases e:Nat.beq k t=true
   ·rw [e] at an
    simp only [cond_true,Option.some.injEq] at an
    subst an
    rw [ec.1 e]
    exact⟨Nat.le_refl _,_,by simp,J⟩
   ·simp only [Bool.not_eq_true] at e
    rw [e] at an
    have cN:k≠t:=fun h=>by rw [ec.2 h] at e; cases e
    obtain⟨aa,v,av,aO⟩:=bD (k + 1) t τ an
    refine⟨by omega,v,?_,aO⟩
    rw [show t - k=(t - (k + 1)) + 1 by omega,List.getElem?_cons_succ]
    exact av
theorem cl.enter {P:Program} {f:FuncId} {fn:Func} {code:Code} {n:Nat} {τs:List I} {ρ:I} (aV:P.funcs[f]? =some fn) (hb:fn.body=some code) (aF:fn.ntmps=n) (hlen:Nat.ble τs.length n=true)
 (h:∀ W A,ak ⟨P,n,W,[],A,none,[]⟩ (bodyPost P fn fun e W'=> ∃ v,e= .returned v∧Fr [] W W'∧ρ.holds A W' v) code (params 0 τs) []):cl P f τs ρ:=by
 intro A W vs gK a3
 refine calls_of_wp aV hb (wpIn_wide.1 (h W A _ _ ?_))
 have an:=a3.length
 have hle:τs.length≤n:=Nat.le_of_ble_eq_true hlen
 exact
 {defers:=rfl
  size:=by simp [aF,an]; omega
  env:=fun t τ kX=>by
   obtain⟨_,v,aa,av⟩:=uW a3 0 t τ kX
   refine⟨v,?_,av⟩
   have bY:t < vs.length:=(List.getElem?_eq_some_iff.1 aa).1
   rw [Array.getElem?_append_left (by simpa using bY)]
   simpa using aa
  dw:= .refl _ _
  own:=by simp
  nodup:=by simp [aK]
  lt:=by simp [aK]
  fK:=by simp [aK]
  ew:=fun k ar=>⟨gK k ar,by simp [aK]⟩ }
theorem KG {ρ:I} {A B:List Nat} {W:World} {v:Value} (h:ρ.holds (B ++ A) W v):ρ.holds A W v:=ρ.mono (.drop fun _ h=>List.mem_append.2 (.inr h)) h
end
section
variable {c:cY} {E:List (Nat × I)} {L:List aI} {ops:Array Oper} {Q:Exit→Act→World→Prop}
def kF (c:cY) (ops:Array Oper) (E:List (Nat × I)) (L:List aI) (o:Oper) (τ:I):Prop:=
 ∀ a W,bC c E L a W→
   (Region.wanted o (yielded ops a.tmps)=true→gx c.P o a W fun v W'=>Fr [] W W'∧τ.holds (aK L ++ c.bL) W' v)∧
   (Region.wanted o (yielded ops a.tmps)=false→τ.holds (aK L ++ c.bL) W undef)
theorem kF.v {o:Oper} {τ:I} (h:bO c E L o τ) (bg:o.guard=none):kF c ops E L o τ:=fun a W s=>
 ⟨fun _=>h a W s,fun hw=>by simp [Region.wanted,bg] at hw⟩
theorem kF.g {o:Oper} {j g:Nat} {b want:Bool} {τ:I} (h:b=want→bO c E L o τ) (bg:o.guard=some (j,want)) (aB:(ops[j]?).bind (·.dst)=some g) (an:look E g=some (.of b)):
 kF c ops E L o (.cond (b=want) τ):=fun a W s=>by
 have a4:=xm aB an s
 constructor
 ·intro hw
  have hb:b=want:=by simpa [Region.wanted,bg,a4] using hw
  refine gx.wp (h hb a W s) fun v W' ⟨f,a3⟩=>⟨v,rfl,f,fun _=>a3,fun h=>absurd hb h⟩
 ·intro hw
  exact⟨fun hb=>by simp [Region.wanted,bg,a4,hb] at hw,fun _=>rfl⟩
theorem kF.gg {o:Oper} {j g:Nat} {p:Prop} {b want:Bool} {τ:I} (h:p∧b=want→bO c E L o τ) (bg:o.guard=some (j,want)) (aB:(ops[j]?).bind (·.dst)=some g) (an:look E g=some (.cond p (.of b))):
 kF c ops E L o (.cond (p∧b=want) τ):=fun a W s=>by
 have a4:=Kt aB an s
 have yc:Region.wanted o (yielded ops a.tmps)=true→p∧b=want:=by
  intro hw
  by_cases hp:p
  ·exact⟨hp,by simpa [Region.wanted,bg,a4.1 hp] using hw⟩
  ·simp [Region.wanted,bg,a4.2 hp] at hw
 constructor
 ·intro hw
  refine gx.wp (h (yc hw) a W s) fun v W' ⟨f,a3⟩=>⟨v,rfl,f,fun _=>a3,fun h=>absurd (yc hw) h⟩
 ·intro hw
  exact⟨fun hb=>by simp [Region.wanted,bg,a4.1 hb.1,hb.2] at hw,fun _=>rfl⟩
inductive fb
 | val (τ:I)
 | new (cp:dF)
 | lG (i:Nat) (cp:dF)
 | mQ (j:Nat) (cp:dF)
def fb.nR:fb→Bool
 | .lG _ _ | .mQ _ _=>true
 | _=>false
def fb.re (p:Nat):fb→Option I
 | .val τ=>some τ
 | .new _=>some (.eq (.pointer (some ⟨p,0,none⟩)))
 | _=>none
def he (bo:Nat→Nat) (ei:List (Option Nat)) (hs:List fb) (E:List (Nat × I)):List Nat→List (Nat × I)
 | []=>E
 | j :: r=>match ei[j]?,hs[j]? with
   | some (some s),some h=>match h.re (bo j) with
     | some τ=>(s,τ) :: he bo ei hs E r
     | none=>he bo ei hs E r
   | _,_=>he bo ei hs E r
def xO:List aI→Nat→dF→List aI
 | [],_,_=> []
 | e :: r,0,cp=>⟨e.key,cp⟩ :: r
 | e :: r,i + 1,cp=>e :: xO r i cp
theorem Sn {L:List aI} {i:Nat} {e:aI} {cp:dF} (h:L[i]? =some e):xO L i cp=L.set i ⟨e.key,cp⟩:=by
 induction L generalizing i with
 | nil=>simp at h
 | cons x r bD=>
   cases i with
   | zero=>simp only [List.getElem?_cons_zero,Option.some.injEq] at h; subst h; rfl
   | succ i=>simp only [List.getElem?_cons_succ] at h; simp [xO,bD h]
def dY (L:List aI):List fb→List aI
 | []=>L
 | .lG i cp :: r=>dY (xO L i cp) r
 | _ :: r=>dY L r
def iw (j:Nat) (cp:dF):List fb→dF
 | []=>cp
 | .mQ i cp' :: r=>iw j (bif Nat.beq i j then cp' else cp) r
 | _ :: r=>iw j cp r
theorem KH (L:List aI) (r:List fb) (h:fb):dY L (r ++ [h])=dY (dY L r) [h]:=by
 induction r generalizing L with
 | nil=>rfl
 | cons x r bD=>cases x <;> simp only [List.cons_append,dY] <;> exact bD _
theorem FD (j:Nat) (cp:dF) (r:List fb) (h:fb):iw j cp (r ++ [h])=iw j (iw j cp r) [h]:=by
 induction r generalizing cp with
 | nil=>rfl
 | cons x r bD=>cases x <;> simp only [List.cons_append,iw] <;> exact bD _
theorem CF {L:List aI} :∀ {r:List fb},(∀ h∈r,h.nR=false)→dY L r=L
 | [],_=>rfl
 | h :: r,bS=>by
   have:=bS h (by simp)
   have bD:=CF (L:=L) (r:=r) (fun x ai=>bS x (by simp [ai]))
   cases h <;> first | exact bD | cases this
theorem CA {j:Nat} {cp:dF} :∀ {r:List fb},(∀ h∈r,h.nR=false)→iw j cp r=cp
 | [],_=>rfl
 | h :: r,bS=>by
   have:=bS h (by simp)
   have bD:=CA (j:=j) (cp:=cp) (r:=r) (fun x ai=>bS x (by simp [ai]))
   cases h <;> first | exact bD | cases this
def pc (w:Nat→Bool) (i:Nat):Nat→List fb→Bool
 | _,[]=>true
 | k,.lG j _ :: r=>(!(Nat.beq j i) || w k) && pc w i (k + 1) r
 | k,.val _ :: r=>pc w i (k + 1) r
 | k,.new _ :: r=>pc w i (k + 1) r
 | k,.mQ _ _ :: r=>pc w i (k + 1) r
theorem Rt {L:List aI} {i j:Nat} {cp:dF} (h:i≠j):(xO L i cp)[j]? =L[j]? :=by
 induction L generalizing i j with
 | nil=>rfl
 | cons e r bD=>
   cases i with
   | zero=>cases j with
     | zero=>exact absurd rfl h
     | succ j=>rfl
   | succ i=>cases j with
     | zero=>rfl
     | succ j=>simp only [xO,List.getElem?_cons_succ]; exact bD (by omega)
theorem zl {L:List aI} {i:Nat} {w:Nat→Bool} :∀ {r:List fb} (b k:Nat),pc w i k r=true→ (∀ q,q < b→ (∃ j cp,r[q]? =some (.lG j cp))→w (k + q)=false)→ (dY L (r.take b))[i]? =L[i]?
 | [],b,_,_,_=>by simp [dY]
 | h :: r,0,_,_,_=>by simp [dY]
 | .lG j cp :: r,b + 1,k,h,hw=>by
   simp only [pc,Bool.and_eq_true,Bool.or_eq_true,Bool.not_eq_true'] at h
   have Y1:w k=false:=by simpa using hw 0 (by omega) ⟨j,cp,by simp⟩
   have cN:j≠i:=fun e=>by
    rw [e,Nat.beq_refl,Y1] at h
    rcases h.1 with h | h <;> cases h
   rw [List.take_succ_cons,dY,zl b (k + 1) h.2 (fun q hq ai=>by have:=hw (q + 1) (by omega) (by simpa using ai); rw [← this]; congr 1; omega),Rt cN]
 | .val _ :: r,b + 1,k,h,hw=>by rw [List.take_succ_cons]; exact zl (r:=r) b (k + 1) h (fun q hq ai=>by have:=hw (q + 1) (by omega) (by simpa using ai); rw [← this]; congr 1; omega)
 | .new _ :: r,b + 1,k,h,hw=>by rw [List.take_succ_cons]; exact zl (r:=r) b (k + 1) h (fun q hq ai=>by have:=hw (q + 1) (by omega) (by simpa using ai); rw [← this]; congr 1; omega)
 | .mQ _ _ :: r,b + 1,k,h,hw=>by rw [List.take_succ_cons]; exact zl (r:=r) b (k + 1) h (fun q hq ai=>by have:=hw (q + 1) (by omega) (by simpa using ai); rw [← this]; congr 1; omega)
def Jq (P:Program) (o:Oper) (cp:dF):Prop:=
 o.guard=none∧ ∃ j0,(∀ A W,cp.holds A W j0)∧ ∀ (a:Act) W,(execOp a.eval o).run P W= .ok (.value (.pointer (some ⟨W.heap.size,0,none⟩))) (W.alloc j0)
def BC (c:cY) (E:List (Nat × I)) (L:List aI) (o:Oper) (p:Nat) (cp:dF):Prop:=
 o.guard=none∧o.dst=none∧ ∀ a W,bC c E L a W→ ∃ cs dM T,W.heap[p]? =some (.cells cs T (0,0))∧ (execOp a.eval o).run c.P W= .ok .skip (W.setRow p dM)∧cp.holds (aK L ++ c.bL) W (.cells dM T (0,0))
def qP (c:cY) (ops:Array Oper) (bo:Nat→Nat) (ei:List (Option Nat)) (all:List fb) (E:List (Nat × I)) (L:List aI):Nat→List Oper→List fb→List (List Nat)→Prop
 | _,_,[],_=>True
 | i,o :: os,.val τ :: hs,d :: ds=>(∀ L':List aI,(∀ (j:Nat) (e:aI),L[j]? =some e→pc (fun k=>Region.waitsFor .any ops k i) j 0 all=true→L'[j]? =some e)→kF c ops (he bo ei all E d) L' o τ)∧qP c ops bo ei all E L (i + 1) os hs ds
 | i,o :: os,.new cp :: hs,_ :: ds=>Jq c.P o cp∧qP c ops bo ei all E L (i + 1) os hs ds
 | i,o :: os,.lG k cp :: hs,d :: ds=>(∃ (p:Nat) (nj:dF),(dY L (all.take i))[k]? =some ⟨some p,nj⟩∧ ∀ L':List aI,(∀ (j:Nat) (e:aI),(dY L (all.take i))[j]? =some e→L'[j]? =some e)→BC c (he bo ei all E d) L' o p cp)∧qP c ops bo ei all E L (i + 1) os hs ds
 | i,o :: os,.mQ k cp :: hs,d :: ds=>(d.contains k=true∧ ∃ nj:dF,all[k]? =some (.new nj)∧ ∀ (L':List aI) (q:Nat),L'[q]? =some ⟨some (bo k),iw k nj (all.take i)⟩→BC c (he bo ei all E d) L' o (bo k) cp)∧qP c ops bo ei all E L (i + 1) os hs ds
 | _,_,_,_=>False
def DR (ops:Array Oper) (n:Nat) (ei:List (Option Nat)) (sb:List (List Nat)) (AS:List Bool) (yr:Nat):Bool:=
 decide (ei.length=n) && decide (n≤ops.size) && (ei.filterMap id).all (Nat.blt · yr) && decide (ei.filterMap id).Nodup &&
 ((List.range n).all fun i=>((ops[i]?).map fun o=>(some o.dst ==ei[i]?) && (o.after.all fun e=> !Region.binds .any e || decide (e.on < i))).getD false) &&
 ((List.range n).all fun i=>(sb.getD i []).all fun j=>decide (j < n) && Region.waitsFor .any ops i j) &&
 ((List.range n).all fun i=> !(AS.getD i false) || ((List.range i).all fun j=> !(AS.getD j false) || Region.waitsFor .any ops i j)) &&
 (decide (n=ops.size) || (Region.sinkB .any ops n && Region.chainB .any ops n)) &&
 Region.seqB .any ops (ops.size - n) n ((List.range n).foldl (fun l i=>l.setIfInBounds i true) (Array.replicate ops.size false))
def Ay (E:List (Nat × I)) (ei:List Nat):Bool:=match E with
 | []=>true
 | e :: r=> !(ei.contains e.1) && Ay r ei
theorem FV {ei:List Nat} :∀ {E:List (Nat × I)},Ay E ei=true→ ∀ t τ,look E t=some τ→t ∉ ei
 | [],_,t,τ,h=>by simp [look] at h
 | (s,σ) :: r,hd,t,τ,h=>by
   simp only [Ay,Bool.and_eq_true,Bool.not_eq_true'] at hd
   simp only [look] at h
   by_cases e:Nat.beq s t=true
   ·have:=ec.1 e
    subst this
    simpa using hd.1
   ·simp only [Bool.not_eq_true] at e
    rw [e] at h
    exact FV hd.2 t τ h
theorem Dw (f g:Nat→Bool) (i:Nat) (aV:f i=true) (bg:g i=false) (h:∀ j,g j=true→f j=true):∀ n,i < n→ ((List.range n).filter g).length < ((List.range n).filter f).length:=by
 have le:∀ n,((List.range n).filter g).length≤ ((List.range n).filter f).length:=by
  intro n
  induction n with
  | zero=>simp
  | succ n bD=>
    rw [List.range_succ,List.filter_append,List.filter_append,List.length_append,List.length_append]
    have:([n].filter g).length≤ ([n].filter f).length:=by
     cases wm:g n with
     | false=>simp [wm]
     | true=>simp [wm,h n wm]
    omega
 intro n
 induction n with
 | zero=>omega
 | succ n bD=>
   intro bY
   rw [List.range_succ,List.filter_append,List.filter_append,List.length_append,List.length_append]
   by_cases e:i=n
   ·subst e
    have:=le i
    simp [aV,bg]
    omega
   ·have J:=bD (by omega)
    have:([n].filter g).length≤ ([n].filter f).length:=by
     cases wm:g n with
     | false=>simp [wm]
     | true=>simp [wm,h n wm]
    omega
theorem FW {bo:Nat→Nat} {ei:List (Option Nat)} {all:List fb} :∀ {k:Nat} {os:List Oper} {hs:List fb} {ds:List (List Nat)},qP c ops bo ei all E L k os hs ds→
 ∀ (i:Nat) h,hs[i]? =some h→ ∃ o,os[i]? =some o∧ (match h with
   | .val τ=> ∀ L':List aI,(∀ (j:Nat) (e:aI),L[j]? =some e→pc (fun q=>Region.waitsFor .any ops q (k + i)) j 0 all=true→L'[j]? =some e)→kF c ops (he bo ei all E (ds.getD i [])) L' o τ
   | .new cp=>Jq c.P o cp
   | .lG q cp=> ∃ (p:Nat) (nj:dF),(dY L (all.take (k + i)))[q]? =some ⟨some p,nj⟩∧ ∀ L':List aI,(∀ (j:Nat) (e:aI),(dY L (all.take (k + i)))[j]? =some e→L'[j]? =some e)→BC c (he bo ei all E (ds.getD i [])) L' o p cp
   | .mQ q cp=>(ds.getD i []).contains q=true∧ ∃ nj:dF,all[q]? =some (.new nj)∧ ∀ (L':List aI) (r:Nat),L'[r]? =some ⟨some (bo q),iw q nj (all.take (k + i))⟩→BC c (he bo ei all E (ds.getD i [])) L' o (bo q) cp)
 | k,os,[],ds,_,i,h,ao=>by simp at ao
 | k,[],h :: hs,ds,bS,_,_,_=>by cases h <;> simp [qP] at bS
 | k,o :: os,h :: hs,[],bS,_,_,_=>by cases h <;> simp [qP] at bS
 | k,o :: os,bA :: hs,d :: ds,bS,i,h,ao=>by
   have hd:qP c ops bo ei all E L (k + 1) os hs ds:=by cases bA <;> exact bS.2
   cases i with
   | zero=>
     simp only [List.getElem?_cons_zero,Option.some.injEq] at ao
     subst ao
     refine⟨o,by simp,?_⟩
     cases bA <;> exact bS.1
   | succ i=>
     simp only [List.getElem?_cons_succ] at ao
     obtain⟨o',J,aa⟩:=FW hd i h ao
     refine⟨o',by simpa using J,?_⟩
     rw [show k + (i + 1)=k + 1 + i by omega]
     cases h <;> exact aa
theorem L5 {bo:Nat→Nat} {ei:List (Option Nat)} {hs:List fb} {t:Nat} {τ:I} :∀ {ds:List Nat},look (he bo ei hs E ds) t=some τ→ (∃ j∈ds,ei[j]? =some (some t)∧ ∃ h,hs[j]? =some h∧h.re (bo j)=some τ)∨look E t=some τ
 | [],h=> .inr h
 | j :: r,h=>by
   have rest:look (he bo ei hs E r) t=some τ→ (∃ k∈j :: r,ei[k]? =some (some t)∧ ∃ h,hs[k]? =some h∧h.re (bo k)=some τ)∨look E t=some τ:=fun h=>by
    rcases L5 h with⟨k,ar,J⟩ | J
    ·exact .inl ⟨k,List.mem_cons_of_mem _ ar,J⟩
    ·exact .inr J
   simp only [he] at h
   split at h
   ·rename_i s ar AT oJ
    split at h
    ·rename_i σ lH
     simp only [look] at h
     by_cases e:Nat.beq s t=true
     ·rw [e] at h
      simp only [cond_true,Option.some.injEq] at h
      subst h
      exact .inl ⟨j,by simp,by rw [AT,ec.1 e],ar,oJ,lH⟩
     ·simp only [Bool.not_eq_true] at e
      rw [e] at h
      exact rest h
    ·exact rest h
   ·exact rest h
def tZ (bo:Nat→Nat) (E:List (Nat × I)):Nat→List (Option Nat)→List fb→List (Nat × I)
 | i,some s :: gB,.val τ :: hs=>(s,τ) :: tZ bo E (i + 1) gB hs
 | i,some s :: gB,.new _ :: hs=>(s,.eq (.pointer (some ⟨bo i,0,none⟩))) :: tZ bo E (i + 1) gB hs
 | i,_ :: gB,_ :: hs=>tZ bo E (i + 1) gB hs
 | _,_,_=>E
def l0 (bo:Nat→Nat) (all:List fb) (L:List aI):Nat→List fb→List aI
 | i,.new cp :: hs=>⟨some (bo i),iw i cp all⟩ :: l0 bo all L (i + 1) hs
 | i,_ :: hs=>l0 bo all L (i + 1) hs
 | _,[]=>L
theorem K2 {bo:Nat→Nat} {t:Nat} {τ:I} :∀ {ei:List (Option Nat)} {hs:List fb} (k:Nat),look (tZ bo E k ei hs) t=some τ→
 (∃ j:Nat,ei[j]? =some (some t)∧ ∃ h,hs[j]? =some h∧h.re (bo (k + j))=some τ)∨look E t=some τ
 | [],hs,k,h=> .inr (by cases hs <;> exact h)
 | s :: gB,[],k,h=> .inr (by cases s <;> exact h)
 | s :: gB,x :: hs,k,h=>by
   have rest:look (tZ bo E (k + 1) gB hs) t=some τ→ (∃ j:Nat,(s :: gB)[j]? =some (some t)∧ ∃ h,(x :: hs)[j]? =some h∧h.re (bo (k + j))=some τ)∨look E t=some τ:=fun h=>by
    rcases K2 (k + 1) h with⟨j,J,aa⟩ | J
    ·refine .inl ⟨j + 1,by simpa using J,?_⟩
     rw [show k + (j + 1)=k + 1 + j by omega]
     simpa using aa
    ·exact .inr J
   have one:∀ (bR:Nat) (σ:I),s=some bR→x.re (bo k)=some σ→look ((bR,σ) :: tZ bo E (k + 1) gB hs) t=some τ→ (∃ j:Nat,(s :: gB)[j]? =some (some t)∧ ∃ h,(x :: hs)[j]? =some h∧h.re (bo (k + j))=some τ)∨look E t=some τ:=fun bR σ ej lH h=>by
    simp only [look] at h
    by_cases e:Nat.beq bR t=true
    ·rw [e] at h
     simp only [cond_true,Option.some.injEq] at h
     subst h
     exact .inl ⟨0,by simp [ej,ec.1 e],x,by simp,by simpa using lH⟩
    ·simp only [Bool.not_eq_true] at e
     rw [e] at h
     exact rest h
   cases s with
   | none=>cases x <;> exact rest h
   | some bR=>
     cases x with
     | val σ=>exact one bR σ rfl rfl h
     | new cp=>exact one bR _ rfl rfl h
     | lG i cp=>exact rest h
     | mQ i cp=>exact rest h
theorem FL {n:Nat} {a1:Array Bool} (inv:HeadInv .any ops n a1) (aF:n≤ops.size) (kx:∀ i,i < n→a1.getD i true=true):
 a1=(List.range n).foldl (fun l i=>l.setIfInBounds i true) (Array.replicate ops.size false):=by
 have key:∀ m,m≤ops.size→ ((List.range m).foldl (fun l i=>l.setIfInBounds i true) (Array.replicate ops.size false)).size=ops.size∧
  ∀ j (d:Bool),j < ops.size→ ((List.range m).foldl (fun l i=>l.setIfInBounds i true) (Array.replicate ops.size false)).getD j d=decide (j < m):=by
  intro m
  induction m with
  | zero=>intro _; exact⟨by simp,fun j d aB=>by simp [aB]⟩
  | succ m bD=>
    intro hm
    obtain⟨J,aa⟩:=bD (by omega)
    rw [List.range_succ,List.foldl_append]
    simp only [List.foldl_cons,List.foldl_nil]
    refine⟨by simpa using J,fun j d aB=> ?_⟩
    by_cases e:m=j
    ·subst e
     simp [J,aB]
    ·rw [getD_set_ne d e,aa j d aB]
     by_cases av:j < m
     ·simp [av]; omega
     ·simp [av]; omega
 obtain⟨J,aa⟩:=key n aF
 apply Array.ext
 ·rw [inv.size,J]
 ·intro i OS Y2
  have ao:i < ops.size:=by rw [← inv.size]; exact OS
  have av:=aa i true ao
  have az:a1.getD i true=a1[i]:=by simp [OS]
  have aX:((List.range n).foldl (fun l i=>l.setIfInBounds i true) (Array.replicate ops.size false)).getD i true=((List.range n).foldl (fun l i=>l.setIfInBounds i true) (Array.replicate ops.size false))[i]:=by
   simp [Y2]
  rw [← aX,av,← az]
  by_cases aO:i < n
  ·rw [kx i aO]; simp [aO]
  ·rw [inv.tail i (by omega) ao]; simp [aO]
theorem xk (bo:Nat→Nat) (all:List fb) (L:List aI):∀ (hs:List fb) (i:Nat),l0 bo all L i hs=l0 bo all [] i hs ++ L
 | [],_=>rfl
 | .new cp :: hs,i=>by simp only [l0]; rw [xk bo all L hs (i + 1)]; rfl
 | .val _ :: hs,i=>xk bo all L hs (i + 1)
 | .lG _ _ :: hs,i=>xk bo all L hs (i + 1)
 | .mQ _ _ :: hs,i=>xk bo all L hs (i + 1)
theorem FX {bo:Nat→Nat} {all:List fb} {e:aI} :∀ {hs:List fb} {i:Nat},e∈l0 bo all [] i hs→ ∃ (j:Nat) (cp:dF),hs[j]? =some (.new cp)∧e=⟨some (bo (i + j)),iw (i + j) cp all⟩
 | [],_,h=>by simp [l0] at h
 | x :: hs,i,h=>by
   have rest:e∈l0 bo all [] (i + 1) hs→ ∃ (j:Nat) (cp:dF),(x :: hs)[j]? =some (.new cp)∧e=⟨some (bo (i + j)),iw (i + j) cp all⟩:=fun h=>by
    obtain⟨j,cp,J,aa⟩:=FX (hs:=hs) (i:=i + 1) h
    refine⟨j + 1,cp,by simpa using J,?_⟩
    rw [show i + (j + 1)=i + 1 + j by omega]; exact aa
   cases x with
   | new cp=>
     rcases List.mem_cons.1 h with h | h
     ·exact⟨0,cp,by simp,by simpa using h⟩
     ·exact rest h
   | val _=>exact rest h
   | lG _ _=>exact rest h
   | mQ _ _=>exact rest h
theorem Ki {bo:Nat→Nat} {all:List fb} :∀ (hs:List fb) (i:Nat),(∀ (j k:Nat) (u v:dF),hs[j]? =some (.new u)→hs[k]? =some (.new v)→bo (i + j)=bo (i + k)→j=k)→ (aK (l0 bo all [] i hs)).Nodup
 | [],_,_=>by simp [l0,aK]
 | x :: hs,i,h=>by
   have aD:(aK (l0 bo all [] (i + 1) hs)).Nodup:=Ki hs (i + 1) fun j k u v J aa av=>by
    have:=h (j + 1) (k + 1) u v (by simpa using J) (by simpa using aa) (by rw [show i + (j + 1)=i + 1 + j by omega,show i + (k + 1)=i + 1 + k by omega]; exact av)
    omega
   cases x with
   | val _=>exact aD
   | lG _ _=>exact aD
   | mQ _ _=>exact aD
   | new cp=>
     simp only [l0,aK]
     refine List.nodup_cons.2 ⟨fun hm=> ?_,aD⟩
     obtain⟨e,he,ar⟩:=k8.1 hm
     obtain⟨j,u,J,aa⟩:=FX he
     rw [aa] at ar
     simp only [Option.some.injEq] at ar
     have:=h 0 (j + 1) cp u (by simp) (by simpa using J) (by rw [show i + (j + 1)=i + 1 + j by omega]; simpa using ar.symm)
     omega
def fe (bo:Nat→Nat) (all:List fb) (b:Nat) (dp:List Nat):List aI:=dp.map fun j=>⟨some (bo j),match all[j]? with | some (.new cp)=>iw j cp (all.take b) | _=> .dead⟩
theorem zx (bo:Nat→Nat) (all:List fb) (b:Nat):∀ (dp:List Nat),aK (fe bo all b dp)=dp.map bo
 | []=>rfl
 | j :: dp=>by
   have:=zx bo all b dp
   simp only [fe,List.map_cons,aK] at this ⊢
   rw [this]
structure yd (c:cY) (n:Nat) (ei:List (Option Nat)) (hs:List fb) (E:List (Nat × I)) (L:List aI) (a1:Array Bool) (bo:Nat→Nat) (dp:List Nat) (b:Nat) (a:Act) (W:World):Prop where
 st:bC c E (dY L (hs.take b) ++ fe bo hs b dp) a W
 done:∀ (j:Nat) s h τ,j < n→a1.getD j false=true→ei[j]? =some (some s)→hs[j]? =some h→h.re (bo j)=some τ→ ∃ v,a.tmps[s]? =some v∧τ.holds (aK (dY L (hs.take b) ++ fe bo hs b dp) ++ c.bL) W v
 news:∀ (j:Nat),j∈dp↔ (j < n∧a1.getD j false=true∧ ∃ cp,hs[j]? =some (.new cp))
 stored:∀ (j:Nat) h,hs[j]? =some h→h.nR=true→ (a1.getD j false=true↔j < b)
 ble:b≤n
theorem SQ {hs:List fb} {b i:Nat} {h:fb} (hb:b≤i) (ao:hs[i]? =some h) (aF:∀ (j:Nat) x,b≤j→j < i→hs[j]? =some x→x.nR=false):
 ∃ r,hs.take i=hs.take b ++ r∧ ∀ x∈r,x.nR=false:=by
 refine⟨(hs.drop b).take (i - b),?_,fun x ai=> ?_⟩
 ·rw [← List.take_add]; congr 1; omega
 ·obtain⟨j,aB⟩:=List.mem_iff_getElem?.1 ai
  rw [List.getElem?_take] at aB
  split at aB
  ·rw [List.getElem?_drop] at aB
   exact aF (b + j) x (by omega) (by omega) aB
  ·cases aB
theorem Gy (L:List aI) (r s:List fb):dY L (r ++ s)=dY (dY L r) s:=by
 induction r generalizing L with
 | nil=>rfl
 | cons x r bD=>cases x <;> simp only [List.cons_append,dY] <;> exact bD _
theorem F4 (j:Nat) (cp:dF) (r s:List fb):iw j cp (r ++ s)=iw j (iw j cp r) s:=by
 induction r generalizing cp with
 | nil=>rfl
 | cons x r bD=>cases x <;> simp only [List.cons_append,iw] <;> exact bD _
theorem ve {L R:List aI} (h:L.Perm R):(aK L).Perm (aK R):=by
 induction h with
 | nil=>exact .nil
 | cons x _ bD=>cases ar:x.key <;> simp only [aK,ar] <;> first | exact bD | exact bD.cons _
 | swap x y l=>
   cases ai:x.key <;> cases a4:y.key <;> simp only [aK,ai,a4]
   all_goals first | exact .refl _ | exact .swap _ _ _
 | trans _ _ J aa=>exact J.trans aa
theorem bC.perm {E L L' a W} (h:bC c E L a W) (p:L.Perm L'):bC c E L' a W:=
 h.sub (fun e he=>p.mem_iff.2 he) ((ve p).nodup_iff.1 h.nodup)
theorem zf {j:Nat} {cp:dF} :∀ {r:List fb},(∀ q x,fb.mQ q x∈r→q≠j)→iw j cp r=cp
 | [],_=>rfl
 | .mQ q x :: r,h=>by
   have J:=h q x (by simp)
   have e:Nat.beq q j=false:=by
    cases hb:Nat.beq q j with
    | false=>rfl
    | true=>exact absurd (ec.1 hb) J
   simp only [iw,e,cond_false]
   exact zf fun q x hm=>h q x (by simp [hm])
 | .val _ :: r,h=>zf (r:=r) fun q x hm=>h q x (by simp [hm])
 | .new _ :: r,h=>zf (r:=r) fun q x hm=>h q x (by simp [hm])
 | .lG _ _ :: r,h=>zf (r:=r) fun q x hm=>h q x (by simp [hm])
theorem Ku (f:Nat→Nat):∀ (l:List Nat),(l.map f).Nodup→l.Nodup
 | [],_=>by simp
 | x :: r,h=>by
   simp only [List.map_cons] at h
   obtain⟨J,aa⟩:=List.nodup_cons.1 h
   exact List.nodup_cons.2 ⟨fun hm=>J (List.mem_map.2 ⟨x,hm,rfl⟩),Ku f r aa⟩
theorem Tw {bo nk:Nat→Nat} {all:List fb} {b:Nat} {dp:List Nat} (h:∀ j∈dp,nk j=bo j):fe nk all b dp=fe bo all b dp:=by
 unfold fe
 exact List.map_congr_left fun j aB=>by rw [h j aB]
theorem So {n:Nat} {ei:List (Option Nat)} {hs:List fb} {sb:List (List Nat)} (hA:DR ops n ei sb (hs.map fb.nR) c.n=true) (ay:Ay E (ei.filterMap id)=true) (hlen:hs.length=n)
 (bS:∀ bo,qP c ops bo ei hs E L 0 ops.toList hs sb) (bl:∀ bo,ah c ops Q (ops.toList.drop n) (tZ bo E 0 ei hs) (l0 bo hs (dY L hs) 0 hs)):
 ∀ m (a1:Array Bool) (bo:Nat→Nat) (dp:List Nat) (b:Nat) (a:Act) (W:World),((List.range n).filter fun i=> !a1.getD i true).length≤m→HeadInv .any ops n a1→yd c n ei hs E L a1 bo dp b a W→
   wpAnyIn c.F 9 c.P .any ops Q (m + (ops.size - n)) a1 a W:=by
 simp only [DR,Bool.and_eq_true,decide_eq_true_eq,Bool.or_eq_true] at hA
 obtain⟨⟨⟨⟨⟨⟨⟨⟨me,aF⟩,bY⟩,gk⟩,Ya⟩,NL⟩,Yb⟩,vC⟩,pO⟩:=hA
 have ss:∀ i,i < n→ ∃ o,ops[i]? =some o∧ei[i]? =some o.dst∧ ∀ e∈o.after,Region.binds .any e=true→e.on < i:=by
  intro i ao
  have J:=List.all_eq_true.1 Ya i (List.mem_range.2 ao)
  cases a6:ops[i]? with
  | none=>simp [a6] at J
  | some o=>
    simp only [a6,Option.map_some,Option.getD_some,Bool.and_eq_true,beq_iff_eq] at J
    refine⟨o,rfl,J.1.symm,fun e he hb=> ?_⟩
    have:=Array.all_eq_true_iff_forall_mem.1 J.2 e he
    simp [hb] at this
    exact this
 have D3:∀ (i s:Nat),ei[i]? =some (some s)→s < c.n:=fun i s h=>by
  have:s∈ei.filterMap id:=List.mem_filterMap.2 ⟨some s,List.mem_of_getElem? h,rfl⟩
  have:=List.all_eq_true.1 bY s this
  simpa using this
 have Ot:∀ (i j s:Nat),ei[i]? =some (some s)→ei[j]? =some (some s)→i=j:=by
  have key:∀ (l:List (Option Nat)),(l.filterMap id).Nodup→ ∀ (i j s:Nat),l[i]? =some (some s)→l[j]? =some (some s)→i=j:=by
   intro l
   induction l with
   | nil=>intro _ i j s h; simp at h
   | cons x r bD=>
     intro gk i j s ao aB
     have aD:(r.filterMap id).Nodup:=by
      cases x with
      | none=>simpa using gk
      | some y=>simp only [List.filterMap_cons_some (f:=id) (a:=some y) (b:=y) rfl] at gk; exact(List.nodup_cons.1 gk).2
     have pN:x=some s→s ∉ r.filterMap id:=fun e=>by
      subst e
      simp only [List.filterMap_cons_some (f:=id) (a:=some s) (b:=s) rfl] at gk
      exact(List.nodup_cons.1 gk).1
     cases i with
     | zero=>
       simp only [List.getElem?_cons_zero,Option.some.injEq] at ao
       cases j with
       | zero=>rfl
       | succ j=>
         simp only [List.getElem?_cons_succ] at aB
         exact absurd (List.mem_filterMap.2 ⟨some s,List.mem_of_getElem? aB,rfl⟩:s∈r.filterMap id) (pN ao)
     | succ i=>
       simp only [List.getElem?_cons_succ] at ao
       cases j with
       | zero=>
         simp only [List.getElem?_cons_zero,Option.some.injEq] at aB
         exact absurd (List.mem_filterMap.2 ⟨some s,List.mem_of_getElem? ao,rfl⟩:s∈r.filterMap id) (pN aB)
       | succ j=>
         simp only [List.getElem?_cons_succ] at aB
         rw [bD aD i j s ao aB]
  exact key ei gk
 intro m
 induction m with
 | zero=>
   intro a1 bo dp b a W hm inv mid
   have kx:∀ i,i < n→a1.getD i true=true:=by
    intro i ao
    cases h:a1.getD i true with
    | true=>rfl
    | false=>
      have:i∈ (List.range n).filter fun i=> !a1.getD i true:=List.mem_filter.2 ⟨List.mem_range.2 ao,by rw [h]; rfl⟩
      rw [List.length_eq_zero_iff.1 (Nat.le_zero.1 hm)] at this
      cases this
   have an:=FL inv aF kx
   rw [← an] at pO
   have vD:(ops.toList.drop n).length=ops.size - n:=by simp
   rw [Nat.zero_add,← vD]
   rw [← vD] at pO
   refine y2 (ops.toList.drop n) n a1 a W (fun j=>by simp) pO (bl bo a W ?_)
   have nJ:∀ j,j < n→a1.getD j false=true:=fun j su=>by
    have av:=kx j su
    have aO:j < a1.size:=by rw [inv.size]; omega
    simpa [aO] using av
   have su:∀ (j:Nat) (h:fb),hs[j]? =some h→j < n:=fun j h aB=>by have:=(List.getElem?_eq_some_iff.1 aB).1; omega
   have ME:∀ x∈hs.drop b,x.nR=false:=fun x ai=>by
    obtain⟨j,aB⟩:=List.mem_iff_getElem?.1 ai
    rw [List.getElem?_drop] at aB
    cases g7:x.nR with
    | false=>rfl
    | true=>
      have:=(mid.stored (b + j) x aB g7).1 (nJ _ (su _ _ aB))
      omega
   have Ou:dY L hs=dY L (hs.take b):=by
    conv=>lhs; rw [← List.take_append_drop b hs]
    rw [Gy,CF ME]
   have Is:∀ (j:Nat) cp,iw j cp hs=iw j cp (hs.take b):=fun j cp=>by
    conv=>lhs; rw [← List.take_append_drop b hs]
    rw [F4,CA ME]
   have Hy:(dp.map bo).Nodup:=by
    have:=mid.st.nodup
    rw [e4,zx] at this
    exact(List.nodup_append.1 this).2.1
   have Yc:∀ (j k:Nat),j∈dp→k∈dp→bo j=bo k→j=k:=by
    have key:∀ (l:List Nat),(l.map bo).Nodup→ ∀ j k:Nat,j∈l→k∈l→bo j=bo k→j=k:=by
     intro l
     induction l with
     | nil=>intro _ j k h; cases h
     | cons x r Y3=>
       intro aF j k aB ar e
       simp only [List.map_cons] at aF
       obtain⟨J,aa⟩:=List.nodup_cons.1 aF
       rcases List.mem_cons.1 aB with av | aB
       ·rcases List.mem_cons.1 ar with aO | ar
        ·rw [av,aO]
        ·exact absurd (List.mem_map.2 ⟨k,ar,by rw [← e,av]⟩) J
       ·rcases List.mem_cons.1 ar with aO | ar
        ·exact absurd (List.mem_map.2 ⟨j,aB,by rw [e,aO]⟩) J
        ·exact Y3 aa j k aB ar e
    exact key dp Hy
   have It:∀ (j:Nat) cp,hs[j]? =some (.new cp)→j∈dp:=fun j cp aB=>(mid.news j).2 ⟨su j _ aB,nJ j (su j _ aB),cp,aB⟩
   have Hz:∀ e∈l0 bo hs [] 0 hs,e∈fe bo hs b dp:=fun e he=>by
    obtain⟨j,cp,J,aa⟩:=FX he
    rw [Nat.zero_add] at aa
    refine List.mem_map.2 ⟨j,It j cp J,?_⟩
    simp only [J]
    rw [aa,Is]
   have OT:bC c E (l0 bo hs (dY L hs) 0 hs) a W:=by
    rw [xk,Ou]
    refine mid.st.sub (fun e he=> ?_) ?_
    ·rcases List.mem_append.1 he with he | he
     ·exact List.mem_append.2 (.inr (Hz e he))
     ·exact List.mem_append.2 (.inl he)
    ·rw [e4]
     have dN:=mid.st.nodup
     rw [e4,zx] at dN
     obtain⟨J,aa,av⟩:=List.nodup_append.1 dN
     refine List.nodup_append.2 ⟨Ki hs 0 fun j k u v az aX dS=> ?_,J,fun x ai y a4 e=> ?_⟩
     ·simp only [Nat.zero_add] at dS
      exact Yc j k (It j u az) (It k v aX) dS
     ·subst e
      obtain⟨e,he,uh⟩:=k8.1 ai
      have:x∈aK (fe bo hs b dp):=k8.2 ⟨e,Hz e he,uh⟩
      rw [zx] at this
      exact av x a4 x this rfl
   have kR:∀ k∈aK (l0 bo hs (dY L hs) 0 hs) ++ c.bL,k∈aK (dY L (hs.take b) ++ fe bo hs b dp) ++ c.bL:=fun k ar=>by
    rw [xk,e4,Ou] at ar
    rw [e4]
    simp only [List.mem_append] at ar ⊢
    rcases ar with(ar | ar) | ar
    ·obtain⟨e,he,uh⟩:=k8.1 ar
     exact .inl (.inr (k8.2 ⟨e,Hz e he,uh⟩))
    ·exact .inl (.inl ar)
    ·exact .inr ar
   refine { OT with env:=fun t τ eT=> ?_ }
   rcases K2 0 eT with⟨j,J,h,aa,av⟩ | J
   ·rw [Nat.zero_add] at av
    obtain⟨v,aO,aS⟩:=mid.done j t h τ (su j h aa) (nJ j (su j h aa)) J aa av
    exact⟨v,aO,τ.mono (.drop kR) aS⟩
   ·exact OT.env t τ J
 | succ m bD=>
   intro a1 bo dp b a W hm inv mid
   by_cases kx:∀ i,i < n→a1.getD i true=true
   ·have bA:((List.range n).filter fun i=> !a1.getD i true).length≤m:=by
     have:((List.range n).filter fun i=> !a1.getD i true)= []:=List.filter_eq_nil_iff.2 fun i ao=>by simp [kx i (List.mem_range.1 ao)]
     rw [this]; simp
    have J:=bD a1 bo dp b a W bA inv mid
    have more:∀ f (a1:Array Bool) a W,wpAnyIn c.F 9 c.P .any ops Q f a1 a W→wpAnyIn c.F 9 c.P .any ops Q (f + 1) a1 a W:=by
     intro f
     induction f with
     | zero=>intro a1 a W h; exact⟨fun _=>h.2,fun i ao=>by rw [h.1] at ao; cases ao⟩
     | succ f AU=>intro a1 a W h; exact⟨h.1,fun i ao=>wpOpIn_mono (fun gn jZ cS=>AU _ gn jZ cS) (h.2 i ao)⟩
    rw [show m + 1 + (ops.size - n)=(m + (ops.size - n)) + 1 by omega]
    exact more _ _ _ _ J
   ·rw [show m + 1 + (ops.size - n)=(m + (ops.size - n)) + 1 by omega]
    have hex:∃ i,i < n∧a1.getD i true=false:=by
     have J: ¬ ∀ i,i < n→a1.getD i true=true:=kx
     false_or_by_contra
     rename_i aa
     exact J fun i ao=>by
      cases h:a1.getD i true with
      | true=>rfl
      | false=>exact absurd ⟨i,ao,h⟩ aa
    have zM:∀ t∈Region.ready .any ops a1,t < n:=by
     intro t p1
     rcases Nat.lt_or_ge t n with h | h
     ·exact h
     ·obtain⟨i,ao,ic⟩:=hex
      rcases vC with J | J
      ·obtain⟨_,o,a6,_⟩:=mem_ready.1 p1
       have:=(Array.getElem?_eq_some_iff.1 a6).1
       omega
      ·have Ov:n < ops.size:=by
        obtain⟨_,o,a6,_⟩:=mem_ready.1 p1
        have:=(Array.getElem?_eq_some_iff.1 a6).1
        omega
       exact absurd p1 (tail_waits J.1 J.2 Ov inv _ i rfl ao ic t h)
    refine⟨fun bA=> ?_,fun i ao=> ?_⟩
    ·exfalso
     have UA:∀ k,∀ i,i≤k→i < n→a1.getD i true=false→ ∃ i,i < n∧a1.getD i true=false∧ ∀ j,j < i→a1.getD j true=true:=by
      intro k
      induction k with
      | zero=>intro i ln ao hu; exact⟨i,ao,hu,fun j aB=>by omega⟩
      | succ k AV=>
        intro i ln ao hu
        by_cases hq:∀ j,j < i→a1.getD j true=true
        ·exact⟨i,ao,hu,hq⟩
        ·have:∃ j,j < i∧a1.getD j true=false:=by
          false_or_by_contra
          rename_i aa
          exact hq fun j aB=>by
           cases h:a1.getD j true with
           | true=>rfl
           | false=>exact absurd ⟨j,aB,h⟩ aa
         obtain⟨j,aB,Y4⟩:=this
         exact AV j (by omega) (by omega) Y4
     obtain⟨i0,wo,Y5⟩:=hex
     obtain⟨i,ao,hu,H3⟩:=UA i0 i0 (Nat.le_refl _) wo Y5
     obtain⟨o,a6,_,zN⟩:=ss i ao
     have:i∈Region.ready .any ops a1:=mem_ready.2 ⟨hu,o,a6,fun e he hb=>by
      have J:=H3 e.on (zN e he hb)
      have aa:e.on < a1.size:=by rw [inv.size]; have:=zN e he hb; omega
      simpa [aa] using J⟩
     rw [bA] at this
     cases this
    ·have dQ:=zM i ao
     obtain⟨o,a6,mH,zN⟩:=ss i dQ
     obtain⟨ic,o',sr,nJ⟩:=mem_ready.1 ao
     have Y6:o'=o:=Option.some.inj (sr.symm.trans a6)
     subst Y6
     obtain⟨h,df⟩:∃ h,hs[i]? =some h:=⟨hs[i]'(by omega),by simp⟩
     obtain⟨bU,eS,jE⟩:=FW (bS bo) i h df
     have Yd:bU=o':=by
      rw [Array.getElem?_toList] at eS
      exact Option.some.inj (eS.symm.trans a6)
     subst Yd
     have pP:((List.range n).filter fun j=> !(a1.setIfInBounds i true).getD j true).length≤m:=by
      have:((List.range n).filter fun j=> !(a1.setIfInBounds i true).getD j true).length < ((List.range n).filter fun j=> !a1.getD j true).length:=by
       refine Dw (fun j=> !a1.getD j true) (fun j=> !(a1.setIfInBounds i true).getD j true) i (by simp only [ic]; rfl) ?_ (fun j aB=> ?_) n dQ
       ·have:i < a1.size:=by rw [inv.size]; omega
        simp [this]
       ·by_cases e:i=j
        ·subst e; simp only [ic]; rfl
        ·rw [getD_set_ne true e] at aB; exact aB
      omega
     have sc:=inv.set ao dQ
     have pQ:i < a1.size:=by rw [inv.size]; omega
     have xP:(a1.setIfInBounds i true).getD i false=true:=by simp [pQ]
     have jO:a1.getD i false=false:=getD_both ic
     have Ye:i ∉ dp:=fun hm=>by have:=((mid.news i).1 hm).2.1; rw [jO] at this; cases this
     have D4:∀ j∈sb.getD i [],j < n∧a1.getD j false=true:=fun j aB=>by
      have av:=List.all_eq_true.1 (List.all_eq_true.1 NL i (List.mem_range.2 dQ)) j aB
      simp only [Bool.and_eq_true,decide_eq_true_eq] at av
      obtain⟨kG,hI,e,he,hb,lp⟩:=Region.waitsFor_spec av.2
      have:kG=bU:=Option.some.inj (hI.symm.trans a6)
      subst this
      have aO:=nJ e he hb
      rw [lp] at aO
      exact⟨av.1,aO⟩
     have kf:bC c (he bo ei hs E (sb.getD i [])) (dY L (hs.take b) ++ fe bo hs b dp) a W:=by
      refine { mid.st with env:=fun t σ eT=> ?_ }
      rcases L5 eT with⟨j,aB,J,x,aa,av⟩ | J
      ·exact mid.done j t x σ (D4 j aB).1 (D4 j aB).2 J aa av
      ·exact mid.st.env t σ J
     have L6:h.nR=true→b≤i∧ ∃ r,hs.take i=hs.take b ++ r∧ ∀ x∈r,x.nR=false:=fun Ow=>by
      have Es:b≤i:=by
       rcases Nat.lt_or_ge i b with J | J
       ·have:=(mid.stored i h df Ow).2 J
        rw [jO] at this; cases this
       ·exact J
      refine⟨Es,SQ Es df fun j x aaO Y7 ai=> ?_⟩
      cases g7:x.nR with
      | false=>rfl
      | true=>
        have av:=List.all_eq_true.1 Yb i (List.mem_range.2 dQ)
        have az:(hs.map fb.nR).getD i false=true:=by simp [df,Ow]
        simp only [az,Bool.not_true,Bool.false_or] at av
        have aO:=List.all_eq_true.1 av j (List.mem_range.2 Y7)
        have aX:(hs.map fb.nR).getD j false=true:=by simp [ai,g7]
        simp only [aX,Bool.not_true,Bool.false_or] at aO
        obtain⟨kG,hI,e,he,hb,lp⟩:=Region.waitsFor_spec aO
        have:kG=bU:=Option.some.inj (hI.symm.trans a6)
        subst this
        have aS:=nJ e he hb
        rw [lp] at aS
        have:=(mid.stored j x ai g7).1 aS
        omega
     unfold wpOpIn
     simp only [a6]
     cases h with
     | val τ=>
       simp only at jE
       have Y8:=jE (dY L (hs.take b) ++ fe bo hs b dp) (fun j e aB hu=>by
        have J:(dY L (hs.take b))[j]? =some e:=by
         rw [zl b 0 hu (fun q hq ⟨Pt,cp',ai⟩=>by
          have Y9:=(mid.stored q _ ai rfl).2 hq
          cases hw:Region.waitsFor .any ops (0 + q) (0 + i) with
          | false=>rfl
          | true=>
            obtain⟨Iu,D5,e',Et,wq,Ox⟩:=Region.waitsFor_spec hw
            rw [Nat.zero_add] at D5 Ox
            have:=inv.closed q Iu D5 Y9 e' Et wq
            rw [Ox,jO] at this
            cases this)]
         exact aB
        rw [List.getElem?_append_left (List.getElem?_eq_some_iff.1 J).1]; exact J)
       obtain⟨J,aa⟩:=Y8 a W kf
       have NM:∀ v W',Fr [] W W'→τ.holds (aK (dY L (hs.take b) ++ fe bo hs b dp) ++ c.bL) W' v→yd c n ei hs E L (a1.setIfInBounds i true) bo dp b (a.put bU.dst v) W':=by
        intro v W' f a3
        have kD:=mid.st.world f
        refine⟨?_,fun j bR x σ aB an ej ai lH=> ?_,fun j=> ?_,fun j x ai g7=> ?_,mid.ble⟩
        ·cases hd:bU.dst with
         | none=>exact kD
         | some s=>
           rw [hd] at mH
           refine { (kD.put (d:=s) (D3 i s mH) a3) with env:=fun t σ eT=> ?_ }
           have cN:s≠t:=fun e=>FV ay t σ eT (by rw [← e]; exact List.mem_filterMap.2 ⟨some s,List.mem_of_getElem? mH,rfl⟩)
           obtain⟨u,aS,aY⟩:=kD.env t σ eT
           exact⟨u,by simp only [Act.put]; rw [Array.getElem?_setIfInBounds_ne cN]; exact aS,aY⟩
        ·by_cases e:i=j
         ·subst e
          rw [mH] at ej
          rw [df] at ai
          cases ai
          simp only [fb.re,Option.some.injEq] at lH
          subst lH
          simp only [Option.some.injEq] at ej
          rw [ej]
          exact⟨v,by rw [ej] at mH; simp [Act.put,kD.size,D3 i bR mH],a3⟩
         ·rw [getD_set_ne false e] at an
          obtain⟨u,aS,aY⟩:=mid.done j bR x σ aB an ej ai lH
          refine⟨u,?_,σ.mono (.dw f) aY⟩
          cases hd:bU.dst with
          | none=>exact aS
          | some s=>
            rw [hd] at mH
            have cN:s≠bR:=fun aX=>e (Ot i j s mH (by rw [aX]; exact ej))
            simp only [Act.put]; rw [Array.getElem?_setIfInBounds_ne cN]; exact aS
        ·rw [mid.news j]
         by_cases e:i=j
         ·subst e
          constructor
          ·rintro ⟨_,aS,_⟩; rw [jO] at aS; cases aS
          ·rintro ⟨_,_,cp,aS⟩; rw [df] at aS; cases aS
         ·rw [getD_set_ne false e]
        ·have e:i≠j:=fun e=>by subst e; rw [df] at ai; cases ai; cases g7
         rw [getD_set_ne false e]
         exact mid.stored j x ai g7
       split
       ·rename_i hw
        exact(J hw).wpIn fun v W' ⟨f,a3⟩=>bD _ bo dp b _ _ pP sc (NM v W' f a3)
       ·rename_i hw
        have sv:Region.wanted bU (yielded ops a.tmps)=false:=by simpa using hw
        exact⟨fun _ _=>trivial,bD _ bo dp b _ _ pP sc (NM undef W (.refl _ _) (aa sv))⟩
     | new cp=>
       simp only at jE
       obtain⟨AW,j0,eD,jP⟩:=jE
       have WC:∀ q x,fb.mQ q x∈hs.take b→q≠i:=fun q x hm e=>by
        subst e
        obtain⟨j,aB⟩:=List.mem_iff_getElem?.1 hm
        rw [List.getElem?_take] at aB
        split at aB
        ·rename_i Za
         have Zb:=(mid.stored j _ aB rfl).2 Za
         have su:j < n:=by have:=(List.getElem?_eq_some_iff.1 aB).1; omega
         obtain⟨kG,hI,OU⟩:=FW (bS bo) j _ aB
         simp only at OU
         have av:=List.all_eq_true.1 (List.all_eq_true.1 NL j (List.mem_range.2 su)) q (by simpa using OU.1)
         simp only [Bool.and_eq_true,decide_eq_true_eq] at av
         obtain⟨Iu,D5,e,he,hb,lp⟩:=Region.waitsFor_spec av.2
         have:=inv.closed j Iu D5 Zb e he hb
         rw [lp,jO] at this
         cases this
        ·cases aB
       have D6:iw i cp (hs.take b)=cp:=zf WC
       let nk:Nat→Nat:=fun j=>if j=i then W.heap.size else bo j
       have Zc:∀ j,j∈dp→nk j=bo j:=fun j aB=>if_neg (fun e=>Ye (by rw [← e]; exact aB))
       have Iv:nk i=W.heap.size:=if_pos rfl
       have q4:dY L (hs.take b) ++ fe nk hs b (i :: dp)=dY L (hs.take b) ++ (⟨some W.heap.size,cp⟩ :: fe bo hs b dp):=by
        have:fe nk hs b (i :: dp)=⟨some W.heap.size,cp⟩ :: fe nk hs b dp:=by simp only [fe,List.map_cons,df,Iv,D6]
        rw [this,Tw Zc]
       have Az:yd c n ei hs E L (a1.setIfInBounds i true) nk (i :: dp) b (a.put bU.dst (.pointer (some ⟨W.heap.size,0,none⟩))) (W.alloc j0):=by
        have kD:bC c E (dY L (hs.take b) ++ fe nk hs b (i :: dp)) a (W.alloc j0):=by
         rw [q4]
         exact(mid.st.alloc (eD _ _)).perm List.perm_middle.symm
        have gX:Ext (aK (dY L (hs.take b) ++ fe bo hs b dp) ++ c.bL) W (aK (dY L (hs.take b) ++ fe nk hs b (i :: dp)) ++ c.bL) (W.alloc j0):=by
         refine⟨by simp,fun k ar _=>zL W j0 k ar,fun k ar bY=> ?_⟩
         rw [q4] at ar
         simp only [e4,aK,List.mem_append,List.mem_cons] at ar ⊢
         rcases ar with(h | h | h) | h
         ·exact .inl (.inl h)
         ·omega
         ·exact .inl (.inr h)
         ·exact .inr h
        refine⟨?_,fun j bR x σ aB an ej ai lH=> ?_,fun j=> ?_,fun j x ai g7=> ?_,mid.ble⟩
        ·cases hd:bU.dst with
         | none=>exact kD
         | some s=>
           rw [hd] at mH
           refine { (kD.put (d:=s) (τ:= .any) (D3 i s mH) trivial) with env:=fun t σ eT=> ?_ }
           have cN:s≠t:=fun e=>FV ay t σ eT (by rw [← e]; exact List.mem_filterMap.2 ⟨some s,List.mem_of_getElem? mH,rfl⟩)
           obtain⟨u,aS,aY⟩:=kD.env t σ eT
           exact⟨u,by simp only [Act.put]; rw [Array.getElem?_setIfInBounds_ne cN]; exact aS,aY⟩
        ·by_cases e:i=j
         ·subst e
          rw [mH] at ej
          rw [df] at ai
          cases ai
          simp only [fb.re,Option.some.injEq] at lH
          subst lH
          simp only [Option.some.injEq] at ej
          rw [ej]
          exact⟨.pointer (some ⟨W.heap.size,0,none⟩),by rw [ej] at mH; simp [Act.put,kD.size,D3 i bR mH],by rw [Iv]; rfl⟩
         ·rw [getD_set_ne false e] at an
          have Zd:nk j=bo j:=if_neg (fun e'=>e e'.symm)
          rw [Zd] at lH
          obtain⟨u,aS,aY⟩:=mid.done j bR x σ aB an ej ai lH
          refine⟨u,?_,σ.mono gX aY⟩
          cases hd:bU.dst with
          | none=>exact aS
          | some s=>
            rw [hd] at mH
            have cN:s≠bR:=fun aX=>e (Ot i j s mH (by rw [aX]; exact ej))
            simp only [Act.put]; rw [Array.getElem?_setIfInBounds_ne cN]; exact aS
        ·rw [List.mem_cons,mid.news j]
         by_cases e:i=j
         ·subst e
          exact⟨fun _=>⟨dQ,xP,cp,df⟩,fun _=> .inl rfl⟩
         ·rw [getD_set_ne false e]
          exact⟨fun h=>h.resolve_left (fun e'=>e e'.symm),.inr⟩
        ·have e:i≠j:=fun e=>by subst e; rw [df] at ai; cases ai; cases g7
         rw [getD_set_ne false e]
         exact mid.stored j x ai g7
       rw [if_pos (by simp [Region.wanted,AW])]
       refine Rb (jP a W) ?_
       exact bD _ nk (i :: dp) b _ _ pP sc Az
     | lG q cp=>
       simp only at jE
       obtain⟨Es,r,wu,oK⟩:=L6 rfl
       have OV:dY L (hs.take i)=dY L (hs.take b):=by rw [wu,Gy,CF oK]
       rw [Nat.zero_add,OV] at jE
       obtain⟨p,nj,hq,ui⟩:=jE
       have gN:(dY L (hs.take b) ++ fe bo hs b dp)[q]? =some ⟨some p,nj⟩:=by
        rw [List.getElem?_append_left (List.getElem?_eq_some_iff.1 hq).1]; exact hq
       obtain⟨AW,AA,ui⟩:=ui (dY L (hs.take b) ++ fe bo hs b dp) (fun j e aB=>by
        rw [List.getElem?_append_left (List.getElem?_eq_some_iff.1 aB).1]; exact aB)
       obtain⟨cs,dM,T,J,aa,av⟩:=ui a W kf
       have AT:=mid.st.store gN J av
       have xX:hs.take (i + 1)=hs.take i ++ [.lG q cp]:=by rw [List.take_add_one,df]; rfl
       have wv:dY L (hs.take (i + 1))=(dY L (hs.take b)).set q ⟨some p,cp⟩:=by
        rw [xX,KH,OV]
        simp only [dY]
        exact Sn hq
       have Iw:fe bo hs (i + 1) dp=fe bo hs b dp:=by
        unfold fe
        refine List.map_congr_left fun j _=> ?_
        congr 1
        split
        ·rw [xX,FD,wu,F4,CA oK]; rfl
        ·rfl
       have AX:dY L (hs.take (i + 1)) ++ fe bo hs (i + 1) dp=(dY L (hs.take b) ++ fe bo hs b dp).set q ⟨some p,cp⟩:=by
        rw [wv,Iw,List.set_append_left _ _ (List.getElem?_eq_some_iff.1 hq).1]
       have mT:aK (dY L (hs.take (i + 1)) ++ fe bo hs (i + 1) dp)=aK (dY L (hs.take b) ++ fe bo hs b dp):=by rw [AX]; exact xz (cp:=cp) gN
       have hj:p∈aK (dY L (hs.take b) ++ fe bo hs b dp):=k8.2 ⟨_,List.mem_of_getElem? gN,rfl⟩
       have gX:Ext (aK (dY L (hs.take b) ++ fe bo hs b dp) ++ c.bL) W (aK (dY L (hs.take b) ++ fe bo hs b dp) ++ c.bL) (W.setRow p dM):=
        ⟨by simp,fun k _ a9=>setRow_other W p k dM (fun e=>a9 (e ▸ List.mem_append.2 (.inl hj))),fun _ h _=>h⟩
       have Az:yd c n ei hs E L (a1.setIfInBounds i true) bo dp (i + 1) (a.put bU.dst undef) (W.setRow p dM):=by
        rw [AA]
        refine⟨by rw [AX]; exact AT,fun j bR x σ aB an ej ai lH=> ?_,fun j=> ?_,fun j x ai g7=> ?_,dQ⟩
        ·rw [mT]
         by_cases e:i=j
         ·subst e; rw [df] at ai; cases ai; cases lH
         ·rw [getD_set_ne false e] at an
          obtain⟨u,aS,aY⟩:=mid.done j bR x σ aB an ej ai lH
          exact⟨u,aS,σ.mono gX aY⟩
        ·rw [mid.news j]
         by_cases e:i=j
         ·subst e
          constructor
          ·rintro ⟨_,aS,_⟩; rw [jO] at aS; cases aS
          ·rintro ⟨_,_,cp,aS⟩; rw [df] at aS; cases aS
         ·rw [getD_set_ne false e]
        ·by_cases e:i=j
         ·subst e; exact⟨fun _=>by omega,fun _=>xP⟩
         ·rw [getD_set_ne false e,mid.stored j x ai g7]
          constructor
          ·intro _; omega
          ·intro aB
           rcases Nat.lt_or_ge j b with aS | aS
           ·exact aS
           ·have:x∈r:=by
             have aY:(hs.take i)[j]? =some x:=by rw [List.getElem?_take,if_pos (by omega)]; exact ai
             rw [wu,List.getElem?_append_right (by rw [List.length_take]; omega)] at aY
             exact List.mem_of_getElem? aY
            have:=oK x this
            rw [g7] at this; cases this
       rw [if_pos (by simp [Region.wanted,AW])]
       refine Ks aa ?_
       exact bD _ bo dp (i + 1) _ _ pP sc Az
     | mQ q cp=>
       simp only at jE
       obtain⟨Es,r,wu,oK⟩:=L6 rfl
       obtain⟨Oy,nj,nm,ui⟩:=jE
       rw [Nat.zero_add] at ui
       have D6:∀ (j:Nat) x,iw j x (hs.take i)=iw j x (hs.take b):=fun j x=>by rw [wu,F4,CA oK]
       have Yf:q∈dp:=(mid.news q).2 ⟨(D4 q (by simpa using Oy)).1,(D4 q (by simpa using Oy)).2,nj,nm⟩
       obtain⟨k,ar⟩:=List.mem_iff_getElem?.1 Yf
       have ua:(fe bo hs b dp)[k]? =some ⟨some (bo q),iw q nj (hs.take i)⟩:=by
        simp only [fe,List.getElem?_map,ar,Option.map_some,nm,D6]
       have gN:(dY L (hs.take b) ++ fe bo hs b dp)[(dY L (hs.take b)).length + k]? =some ⟨some (bo q),iw q nj (hs.take i)⟩:=by
        rw [List.getElem?_append_right (by omega),Nat.add_sub_cancel_left]; exact ua
       obtain⟨AW,AA,ui⟩:=ui (dY L (hs.take b) ++ fe bo hs b dp) _ gN
       obtain⟨cs,dM,T,J,aa,av⟩:=ui a W kf
       have AT:=mid.st.store gN J av
       have xX:hs.take (i + 1)=hs.take i ++ [.mQ q cp]:=by rw [List.take_add_one,df]; rfl
       have wv:dY L (hs.take (i + 1))=dY L (hs.take b):=by
        rw [xX,KH]
        simp only [dY]
        rw [wu,Gy,CF oK]
       have Hy:dp.Nodup:=by
        have:=mid.st.nodup
        rw [e4,zx] at this
        exact Ku bo dp (List.nodup_append.1 this).2.1
       have Iw:fe bo hs (i + 1) dp=(fe bo hs b dp).set k ⟨some (bo q),cp⟩:=by
        apply List.ext_getElem?
        intro j
        rw [List.getElem?_set]
        by_cases e:k=j
        ·subst e
         have sw:k < (fe bo hs b dp).length:=(List.getElem?_eq_some_iff.1 ua).1
         rw [if_pos rfl,if_pos sw]
         simp only [fe,List.getElem?_map,ar,Option.map_some,nm]
         rw [xX,FD]
         simp [iw]
        ·rw [if_neg e]
         simp only [fe,List.getElem?_map]
         cases aB:dp[j]? with
         | none=>rfl
         | some x=>
           have Ze:x≠q:=fun aX=>by
            subst aX
            obtain⟨cq,cF⟩:=List.getElem?_eq_some_iff.1 aB
            obtain⟨c4,dq⟩:=List.getElem?_eq_some_iff.1 ar
            exact e ((List.getElem_inj Hy).1 (dq.trans cF.symm))
           simp only [Option.map_some]
           congr 2
           split
           ·rw [xX,FD,D6]
            have:Nat.beq q x=false:=by
             cases hb:Nat.beq q x with
             | false=>rfl
             | true=>exact absurd (ec.1 hb).symm Ze
            simp [iw,this]
           ·rfl
       have AX:dY L (hs.take (i + 1)) ++ fe bo hs (i + 1) dp=(dY L (hs.take b) ++ fe bo hs b dp).set ((dY L (hs.take b)).length + k) ⟨some (bo q),cp⟩:=by
        rw [wv,Iw,List.set_append_right _ _ (by omega),Nat.add_sub_cancel_left]
       have mT:aK (dY L (hs.take (i + 1)) ++ fe bo hs (i + 1) dp)=aK (dY L (hs.take b) ++ fe bo hs b dp):=by rw [AX]; exact xz (cp:=cp) gN
       have hj:bo q∈aK (dY L (hs.take b) ++ fe bo hs b dp):=k8.2 ⟨_,List.mem_of_getElem? gN,rfl⟩
       have gX:Ext (aK (dY L (hs.take b) ++ fe bo hs b dp) ++ c.bL) W (aK (dY L (hs.take b) ++ fe bo hs b dp) ++ c.bL) (W.setRow (bo q) dM):=
        ⟨by simp,fun k _ a9=>setRow_other W (bo q) k dM (fun e=>a9 (e ▸ List.mem_append.2 (.inl hj))),fun _ h _=>h⟩
       have Az:yd c n ei hs E L (a1.setIfInBounds i true) bo dp (i + 1) (a.put bU.dst undef) (W.setRow (bo q) dM):=by
        rw [AA]
        refine⟨by rw [AX]; exact AT,fun j bR x σ aB an ej ai lH=> ?_,fun j=> ?_,fun j x ai g7=> ?_,dQ⟩
        ·rw [mT]
         by_cases e:i=j
         ·subst e; rw [df] at ai; cases ai; cases lH
         ·rw [getD_set_ne false e] at an
          obtain⟨u,aS,aY⟩:=mid.done j bR x σ aB an ej ai lH
          exact⟨u,aS,σ.mono gX aY⟩
        ·rw [mid.news j]
         by_cases e:i=j
         ·subst e
          constructor
          ·rintro ⟨_,aS,_⟩; rw [jO] at aS; cases aS
          ·rintro ⟨_,_,cp,aS⟩; rw [df] at aS; cases aS
         ·rw [getD_set_ne false e]
        ·by_cases e:i=j
         ·subst e; exact⟨fun _=>by omega,fun _=>xP⟩
         ·rw [getD_set_ne false e,mid.stored j x ai g7]
          constructor
          ·intro _; omega
          ·intro aB
           rcases Nat.lt_or_ge j b with aS | aS
           ·exact aS
           ·have:x∈r:=by
             have aY:(hs.take i)[j]? =some x:=by rw [List.getElem?_take,if_pos (by omega)]; exact ai
             rw [wu,List.getElem?_append_right (by rw [List.length_take]; omega)] at aY
             exact List.mem_of_getElem? aY
            have:=oK x this
            rw [g7] at this; cases this
       rw [if_pos (by simp [Region.wanted,AW])]
       refine Ks aa ?_
       exact bD _ bo dp (i + 1) _ _ pP sc Az
theorem ak.draw {oL:Nat} {l:List Oper} (hm:c.P.follows .mixedOrders=true) (n:Nat) (ei:List (Option Nat)) (sb:List (List Nat)) (hs:List fb) (AS:List Bool) (hA:DR l.toArray n ei sb AS c.n=true) (wW:hs.map fb.nR=AS) (ay:Ay E (ei.filterMap id)=true)
 (hlen:Nat.beq hs.length n=true) (bS:∀ bo,qP c l.toArray bo ei hs E L 0 l hs sb)
 (bl:∀ bo:Nat→Nat,ah c l.toArray Q (l.drop n) (tZ bo E 0 ei hs) (l0 bo hs (dY L hs) 0 hs)):ak c Q (.region oL l.toArray true) E L:=fun a W s=>by
 subst wW
 refine wpIn_region_any hm ?_
 have aF:n≤l.toArray.size:=by
  simp only [DR,Bool.and_eq_true,decide_eq_true_eq] at hA
  exact hA.1.1.1.1.1.1.1.2
 have AB:HeadInv .any l.toArray n (Array.replicate l.toArray.size false):=
  {size:=by simp
   closed:=fun j kG _ an=>by rw [getD_replicate_false] at an; cases an
   tail:=fun t _ bl=>by simp at bl; simp [bl] }
 have Yg:yd c n ei hs E L (Array.replicate l.toArray.size false) (fun _=>0) [] 0 a W.drew:=
  {st:=by simpa [dY,fe] using s.world (Fr.drew W)
   done:=fun j s h τ _ an=>by rw [getD_replicate_false] at an; cases an
   news:=fun j=>by
    constructor
    ·intro h; cases h
    ·rintro ⟨_,h,_⟩; rw [getD_replicate_false] at h; cases h
   stored:=fun j h _ _=>by
    rw [getD_replicate_false]
    constructor
    ·intro h; cases h
    ·intro h; omega
   ble:=Nat.zero_le _ }
 have h:=So (ops:=l.toArray) (Q:=Q) hA ay (ec.1 hlen) (by simpa using bS) (by simpa using bl) n (Array.replicate l.toArray.size false) (fun _=>0) [] 0 a W.drew
  (Nat.le_trans (List.length_filter_le _ _) (by simp)) AB Yg
 rw [show n + (l.toArray.size - n)=l.toArray.size by omega] at h
 exact h
end
structure bs (P:Program) (t:TypeId) (α:Type) [ae α]:Prop where
 size:(P.info? t).map (·.size)=some (ae.size α)
 OW:∃ d,P.underlying t=some d∧ (match d with | .struct _ | .array _ _=>true | _=>false)=ae.agg α
structure cz (P:Program) (t:TypeId) {α:Type} [ae α] (x:α):Prop where
 zero:∃ i z,P.info? t=some i∧i.zero=some z∧ ∀ A W,(I.of x).holds A W z
theorem bs.info {P t α} [ae α] (h:bs P t α):∃ i,P.info? t=some i∧i.size=ae.size α:=by
 have:=h.size
 cases ao:P.info? t with
 | none=>simp [ao] at this
 | some i=>exact⟨i,rfl,by simpa [ao] using this⟩
theorem bs.isAgg {P t α} [ae α] (h:bs P t α) (W:World):(isAgg t).run P W= .ok (ae.agg α) W:=by
 obtain⟨d,hd,he⟩:=h.OW
 unfold Go.isAgg
 rw [Sem.run_bind,run_underlying hd W]
 simp only [Result.andThen_ok]
 cases d <;> simp_all
theorem bs.sizeOf {P t α} [ae α] (h:bs P t α) (W:World):(Go.sizeOf t).run P W= .ok (ae.size α) W:=by
 obtain⟨i,ao,hs⟩:=h.info
 simp [Go.sizeOf,typeInfo,ao,hs]
theorem jc (b off j:Nat):(⟨b,off,none⟩:Addr).add j=⟨b,off + j,none⟩:=by unfold Addr.add; split <;> simp_all
theorem uS {P:Program} {W:World} {b off:Nat} {cur:Array Value} {T t:TypeId} {gQ:Nat × Nat} {α:Type} [ae α] {A:List Nat} {x:α} (ty:bs P t α)
 (hb:W.heap[b]? =some (.cells cur T gQ)) (hs:off + ae.size α≤cur.size) (aD:ae.rep A W ((cur.toList.drop off).take (ae.size α)) x):
 ∃ v,(loadVar t ⟨b,off,none⟩).run P W= .ok v W∧ (I.of x).holds A W v:=by
 have an:=ae.len aD
 have r7:∀ j v,((cur.toList.drop off).take (ae.size α))[j]? =some v→W.cell? ((⟨b,off,none⟩:Addr).add j)=some v:=by
  intro j v a3
  rw [jc,cell_of_row W b (off + j) cur T gQ hb]
  rw [List.getElem?_take] at a3
  split at a3
  ·rw [List.getElem?_drop] at a3; simpa using a3
  ·cases a3
 cases a9:ae.agg α with
 | true=>
   have J:=run_loadCells_list (P:=P) W ⟨b,off,none⟩ _ r7
   rw [an] at J
   refine⟨.agg ((cur.toList.drop off).take (ae.size α)).toArray,?_,?_,?_⟩
   ·simp [loadVar,Sem.run_bind,ty.isAgg,ty.sizeOf,a9,J]
   ·simp [shaped,a9]
   ·simpa [Value.cells] using aD
 | false=>
   have J:ae.size α=1:=ae.flat a9
   rw [J] at an
   obtain⟨v,a3⟩:=List.length_eq_one_iff.1 an
   have aa:=r7 0 v (by rw [J,a3]; rfl)
   have av:v.oneCell'=true:=ae.one aD v (by rw [J,a3]; simp)
   refine⟨v,?_,?_,?_⟩
   ·rw [jc,Nat.add_zero] at aa
    simp [loadVar,Sem.run_bind,ty.isAgg,a9,aa]
   ·simp [shaped,a9,av]
   ·rw [oe av]
    rw [J,a3] at aD
    simpa using aD
def fR (cur:List Value) (off:Nat) (ds:List Value):List Value:=cur.take off ++ ds ++ cur.drop (off + ds.length)
theorem SR {A W v} {α:Type} [ae α] {x:α} (h:(I.of x).holds A W v):v.cells.toList.length=ae.size α∧ ∀ u∈v.cells.toList,u.oneCell'=true:=⟨ae.len h.2,ae.one h.2⟩
theorem yZ {P:Program} {W:World} {b off:Nat} {cur:Array Value} {T t:TypeId} {α:Type} [ae α] {A:List Nat} {x:α} {v:Value} (ty:bs P t α)
 (hb:W.heap[b]? =some (.cells cur T (0,0))) (hs:off + ae.size α≤cur.size) (a3:(I.of x).holds A W v):
 (storeVar t ⟨b,off,none⟩ v).run P W= .ok () (W.setRow b (fR cur.toList off v.cells.toList).toArray):=by
 obtain⟨an,J⟩:=SR a3
 have aa:=run_storeCells_at P b off T v.cells.toList 0 cur W hb (by rw [an]; omega) J
 have eB:v.cells.size=ae.size α:=by simpa using an
 simp only [Nat.add_zero] at aa
 simp only [storeVar,Sem.run_bind,ty.sizeOf,Result.andThen_ok,eB]
 simp only [ne_eq,not_true_eq_false,↓reduceIte,Sem.run_pure,Sem.run_bind,Result.andThen_ok]
 simpa [fR] using aa
structure aP (β γ:Type) [ae β] [ae γ] where
 off:Nat
 get:β→γ
 set:β→γ→β
 fZ:off + ae.size γ≤ae.size β
 h3:∀ {A W cs b},ae.rep A W cs b→ae.rep A W ((cs.drop off).take (ae.size γ)) (get b)
 k6:∀ {A W cs b ds g},ae.rep A W cs b→ae.rep A W ds g→ae.rep A W (cs.take off ++ ds ++ cs.drop (off + ae.size γ)) (set b g)
def aP.id (β:Type) [ae β]:aP β β where
 off:=0
 get b:=b
 set _ g:=g
 fZ:=by simp
 h3 h:=by
  have:=ae.len h
  rw [List.drop_zero,← this,List.take_length]; exact h
 k6 h bg:=by
  have J:=ae.len h
  rw [List.take_zero,List.nil_append,Nat.zero_add,← J,List.drop_length,List.append_nil]; exact bg
theorem uV (cs:List Value) (bT s1 bU s2:Nat) (h:bU + s2≤s1):(((cs.drop bT).take s1).drop bU).take s2=(cs.drop (bT + bU)).take s2:=by
 apply List.ext_getElem?
 intro i
 simp only [List.getElem?_take,List.getElem?_drop]
 split
 ·rw [if_pos (by omega)]; congr 1; omega
 ·rfl
theorem K3 (cs ds:List Value) (bT s1 bU s2:Nat) (h:bU + s2≤s1) (ag:bT + s1≤cs.length):
 cs.take bT ++ (((cs.drop bT).take s1).take bU ++ ds ++ ((cs.drop bT).take s1).drop (bU + s2)) ++ cs.drop (bT + s1)=cs.take (bT + bU) ++ ds ++ cs.drop (bT + bU + s2):=by
 have az:cs.take (bT + bU)=cs.take bT ++ ((cs.drop bT).take s1).take bU:=by
  rw [List.take_take,Nat.min_eq_left (by omega),List.take_add]
 have aX:cs.drop (bT + bU + s2)=((cs.drop bT).take s1).drop (bU + s2) ++ cs.drop (bT + s1):=by
  apply List.ext_getElem?
  intro i
  simp only [List.getElem?_append,List.getElem?_drop,List.getElem?_take,List.length_drop,List.length_take]
  split
  ·rw [if_pos (by omega)]; congr 1; omega
  ·congr 1; omega
 rw [az,aX]
 simp only [List.append_assoc]
def aP.comp {α β γ:Type} [ae α] [ae β] [ae γ] (l:aP α β) (m:aP β γ):aP α γ where
 off:=l.off + m.off
 get b:=m.get (l.get b)
 set b g:=l.set b (m.set (l.get b) g)
 fZ:=by have:=l.fZ; have:=m.fZ; omega
 h3 h:=by
  have:=m.h3 (l.h3 h)
  rwa [uV _ _ _ _ _ m.fZ] at this
 k6 h bg:=by
  have J:=l.k6 h (m.k6 (l.h3 h) bg)
  have aa:=ae.len h
  have av:=l.fZ
  rwa [K3 _ _ _ _ _ _ m.fZ (by omega)] at J
def bB {α:Type} [Inhabited α] {n:Nat} (v:Vector α n) (k:Nat):α:=v[k]?.getD default
def fW {α:Type} {n:Nat} (v:Vector α n) (k:Nat) (x:α):Vector α n:=v.setIfInBounds k x
instance {α:Type} [Inhabited α] {n:Nat} :Inhabited (Vector α n):=⟨Vector.replicate n default⟩
instance aat {α:Type} [ae α] [Inhabited α] {n:Nat} :ae (Vector α n) where
 size:=n * ae.size α
 agg:=true
 rep A W cs v:=gw A W cs v.toList
 len h:=by rw [h.1]; simp
 one h:=by
  intro u hu
  obtain⟨j,aB⟩:=List.mem_iff_getElem?.1 hu
  have bY:=(List.getElem?_eq_some_iff.1 aB).1
  have J:=h.1
  by_cases hs:ae.size α=0
  ·rw [hs,Nat.mul_zero] at J; omega
  ·have hp:0 < ae.size α:=Nat.pos_of_ne_zero hs
   have ao:j / ae.size α < _:=(Nat.div_lt_iff_lt_mul hp).2 (by rw [J] at bY; exact bY)
   refine ae.one (h.2 _ ao) u (List.mem_iff_getElem?.2 ⟨j % ae.size α,?_⟩)
   rw [List.getElem?_take,if_pos (Nat.mod_lt _ hp),List.getElem?_drop,Nat.mul_comm,Nat.div_add_mod]
   exact aB
 flat h:=by cases h
 mono e h:=h.mono e
theorem Ru {α:Type} [Inhabited α] {n:Nat} (v:Vector α n) {k:Nat} (h:k < n):bB v k=v.toList[k]'(by simpa using h):=by simp [bB,h]
theorem F5 {α:Type} [ae α] {A W} {cs ds:List Value} {xs:List α} {x:α} {k:Nat} (h:gw A W cs xs) (ar:k < xs.length) (hd:ae.rep A W ds x):
 gw A W (cs.take (k * ae.size α) ++ ds ++ cs.drop (k * ae.size α + ae.size α)) (xs.set k x):=by
 have an:=h.1
 have aaP:=ae.len hd
 have hle:(k + 1) * ae.size α≤xs.length * ae.size α:=Nat.mul_le_mul_right _ ar
 rw [Nat.succ_mul] at hle
 refine⟨by simp only [List.length_append,List.length_take,List.length_drop,List.length_set]; omega,fun i ao=> ?_⟩
 rw [List.length_set] at ao
 by_cases e:k=i
 ·subst e
  have:((cs.take (k * ae.size α) ++ ds ++ cs.drop (k * ae.size α + ae.size α)).drop (k * ae.size α)).take (ae.size α)=ds:=by
   rw [List.append_assoc,List.drop_append_of_le_length (by simp only [List.length_take]; omega),List.drop_of_length_le (by simp only [List.length_take]; omega),List.nil_append,
    List.take_append_of_le_length (by omega),List.take_of_length_le (by omega)]
  rw [this]
  simpa using hd
 ·have J:=h.2 i ao
  have:((cs.take (k * ae.size α) ++ ds ++ cs.drop (k * ae.size α + ae.size α)).drop (i * ae.size α)).take (ae.size α)=(cs.drop (i * ae.size α)).take (ae.size α):=by
   apply List.ext_getElem?
   intro j
   simp only [List.getElem?_take,List.getElem?_drop]
   split
   ·rename_i aB
    simp only [List.getElem?_append,List.length_append,List.length_take,List.getElem?_take,List.getElem?_drop]
    rcases Nat.lt_or_gt_of_ne e with aa | aa
    ·have:(k + 1) * ae.size α≤i * ae.size α:=Nat.mul_le_mul_right _ aa
     rw [Nat.succ_mul] at this
     rw [if_neg (by omega)]; congr 1; omega
    ·have:(i + 1) * ae.size α≤k * ae.size α:=Nat.mul_le_mul_right _ aa
     rw [Nat.succ_mul] at this
     rw [if_pos (by omega),if_pos (by omega),if_pos (by omega)]
   ·rfl
  rw [this]
  simpa [List.getElem_set_ne e] using J
def aP.idx {α:Type} [ae α] [Inhabited α] (n k:Nat) (ar:k < n):aP (Vector α n) α where
 off:=k * ae.size α
 get v:=bB v k
 set v x:=fW v k x
 fZ:=by
  show k * ae.size α + ae.size α≤n * ae.size α
  rw [← Nat.succ_mul]; exact Nat.mul_le_mul_right _ ar
 h3 h:=by
  rename_i b
  rw [Ru b ar]
  exact h.2 k (by simpa using ar)
 k6 h hd:=by
  rename_i b ds g
  have:=F5 h (k:=k) (by simpa using ar) hd
  show gw _ _ _ (fW b k g).toList
  rw [show(fW b k g).toList=b.toList.set k g by simp [fW]]
  exact this
def idx (n:Nat) (i:Int):Option Nat:=if 0≤i∧i < n then some i.toNat else none
theorem eh {n:Nat} {i:Int} {k:Nat} (h:idx n i=some k):k < n∧i=k:=by
 unfold idx at h
 split at h
 ·rename_i ao
  simp only [Option.some.injEq] at h
  omega
 ·cases h
section
variable {c:cY} {E:List (Nat × I)} {L:List aI} {ops:Array Oper} {Q:Exit→Act→World→Prop}
variable {d:Option Tmp} {ty:TypeId} {pos:String} {af:Array Edge} {g:Option (Nat × Bool)}
theorem cZ {x:Operand} {τ:I} (h:a8 c E L x τ):bO c E L ⟨d,.move x,ty,pos,af,g⟩ τ:= .pure fun a W s=>⟨_,rfl,h a W s⟩
theorem e5 {x:Operand} {τ:I} (h:a8 c E L x τ):bO c E L ⟨d,.assign x,ty,pos,af,g⟩ τ:= .pure fun a W s=>⟨_,rfl,h a W s⟩
theorem tT {x y:Operand} {b e:Bool} {p:Prop} (ai:a8 c E L x (.of b)) (a4:a8 c E L y (.cond p (.of e))) (hp:b=false→p):
 bO c E L ⟨d,.pick x (.const (.bool true)) y,ty,pos,af,g⟩ (.of (b || e)):= .pure fun a W s=>by
 have J:=of_bool.1 (ai a W s)
 cases b with
 | true=>exact⟨.bool true,by simp only [execOp,J,asBool]; rfl,of_bool.2 rfl⟩
 | false=>
   have aa:=of_bool.1 ((a4 a W s).1 (hp rfl))
   exact⟨.bool e,by simp [execOp,asBool,J,aa],of_bool.2 rfl⟩
theorem tG {x y:Operand} {b e:Bool} {p:Prop} (ai:a8 c E L x (.of b)) (a4:a8 c E L y (.cond p (.of e))) (hp:b=true→p):
 bO c E L ⟨d,.pick x y (.const (.bool false)),ty,pos,af,g⟩ (.of (b && e)):= .pure fun a W s=>by
 have J:=of_bool.1 (ai a W s)
 cases b with
 | false=>exact⟨.bool false,by simp only [execOp,J,asBool]; rfl,of_bool.2 rfl⟩
 | true=>
   have aa:=of_bool.1 ((a4 a W s).1 (hp rfl))
   exact⟨.bool e,by simp [execOp,asBool,J,aa],of_bool.2 rfl⟩
theorem kt {x:Operand} {b:Bool} {t:TypeId} (ai:a8 c E L x (.of b)):bO c E L ⟨d,.unOp .not t x,ty,pos,af,g⟩ (.of (!b)):= .pure fun a W s=>
 ⟨.bool (!b),by simp [execOp,Op.unary,of_bool.1 (ai a W s)],of_bool.2 rfl⟩
theorem fl {x:Operand} {t:TypeId} {i p o:Nat} {β γ:Type} [ae β] [ae γ] {b:β} (l:aP β γ) {r:γ} (ep:bs c.P t γ) (ai:a8 c E L x (.eq (.pointer (some ⟨p,o,none⟩))))
 (aq:L[i]? =some ⟨some p,.var b⟩) (a6:o=l.off) (aD:l.get b=r):bO c E L ⟨d,.load t x,ty,pos,af,g⟩ (.of r):= .pure fun a W s=>by
 subst a6
 subst aD
 obtain⟨j0,eD,cs,T,rfl,fL⟩:=s.own _ (List.mem_of_getElem? aq)
 have J:cs.toList.length=ae.size β:=ae.len fL
 obtain⟨v,aa,av⟩:=uS (A:=aK L ++ c.bL) ep eD (by have:=l.fZ; simp at J; omega) (l.h3 fL)
 refine⟨v,?_,av⟩
 have aO:a.eval x=_:=ai a W s
 simp [execOp,Instr.loadAt,Instr.sureAddr,aO,aa]
theorem fy {x:Operand} {t:TypeId} {γ:Type} [ae γ] {r:γ} (ep:bs c.P t γ) (ai:a8 c E L x (.ptr r)):bO c E L ⟨d,.load t x,ty,pos,af,g⟩ (.of r):= .pure fun a W s=>by
 obtain⟨b,off,cur,T,gQ,aO,hb,bS,hs,aD⟩:=ai a W s
 obtain⟨v,aa,av⟩:=uS ep bS hs aD
 exact⟨v,by simp [execOp,Instr.loadAt,Instr.sureAddr,aO,aa],av⟩
structure cC (P:Program) (s:TypeId) (f o:Nat):Prop where
 at_:∃ fs fd i,P.underlying s=some (.struct fs)∧fs[f]? =some fd∧fd.offset=o∧P.info? fd.type=some i∧i.size≠0
theorem Ky {P:Program} {s:TypeId} {f o:Nat} (h:cC P s f o) (p off:Nat) (W:World):
 (Instr.fieldAt s (.pointer (some ⟨p,off,none⟩)) f).run P W= .ok (.pointer (some ⟨p,off + o,none⟩)) W:=by
 obtain⟨fs,fd,i,J,aa,av,aO,aS⟩:=h.at_
 simp [Instr.fieldAt,run_underlying J,aa,Instr.sureAddr,fieldPlace,Go.sizeOf,typeInfo,aO,aS,jc,av]
theorem bc {x:Operand} {s f o p off:Nat} (fd:cC c.P s f o) (ai:a8 c E L x (.eq (.pointer (some ⟨p,off,none⟩)))):
 bO c E L ⟨d,.fieldAddr s x f,ty,pos,af,g⟩ (.eq (.pointer (some ⟨p,off + o,none⟩))):= .pure fun a W st=>by
 have aO:a.eval x=_:=ai a W st
 exact⟨_,by simp [execOp,aO,Ky fd],rfl⟩
theorem DM {x:Operand} {s f o:Nat} {β γ:Type} [ae β] [ae γ] {b:β} (l:aP β γ) {r:γ} (fd:cC c.P s f o) (ai:a8 c E L x (.ptr b)) (a6:l.off=o) (aD:l.get b=r):
 bO c E L ⟨d,.fieldAddr s x f,ty,pos,af,g⟩ (.ptr r):= .pure fun a W st=>by
 subst a6
 subst aD
 obtain⟨q,off,cur,T,gQ,aO,hb,bS,hs,fL⟩:=ai a W st
 refine⟨.pointer (some ⟨q,off + l.off,none⟩),by simp [execOp,aO,Ky fd],q,off + l.off,cur,T,gQ,rfl,hb,bS,by have:=l.fZ; omega,?_⟩
 have:=l.h3 fL
 rwa [uV _ _ _ _ _ l.fZ] at this
structure rf (P:Program) (t:TypeId) (n s:Nat):Prop where
 at_:∃ e i,P.underlying t=some (.array n e)∧P.info? e=some i∧i.size=s
theorem Q3 {P:Program} {t n s:Nat} (h:rf P t n s) (p off:Nat) (k:Nat) (ar:k < n) (W:World):
 (Instr.indexAt t (.pointer (some ⟨p,off,none⟩)) (.int .i64 (k:Int))).run P W= .ok (.pointer (some ⟨p,off + k * s,none⟩)) W:=by
 obtain⟨e,i,J,aa,av⟩:=h.at_
 simp [Instr.indexAt,asIntOf,run_underlying J,Instr.sureAddr,Go.sizeOf,typeInfo,aa,av,ar,jc]
theorem l3 {x y:Operand} {t n s p off:Nat} {i:Int} {k:Nat} (aae:rf c.P t n s) (ai:a8 c E L x (.eq (.pointer (some ⟨p,off,none⟩)))) (a4:a8 c E L y (.of i)) (ar:k < n∧i=k):
 bO c E L ⟨d,.indexAddr t x y,ty,pos,af,g⟩ (.eq (.pointer (some ⟨p,off + k * s,none⟩))):= .pure fun a W st=>by
 have aO:a.eval x=_:=ai a W st
 have aS:=of_int.1 (a4 a W st)
 obtain⟨aY,rfl⟩:=ar
 exact⟨_,by simp [execOp,aO,aS,Q3 aae p off k aY],rfl⟩
theorem ah.alloc {t:TypeId} {rest:List Oper} {a7:Nat} {α:Type} [ae α] {z:α} (gC:cz c.P t z) (aF:Nat.blt a7 c.n=true)
 (k:∀ p,ah c ops Q rest ((a7,.eq (.pointer (some ⟨p,0,none⟩))) :: E) (⟨some p,.var z⟩ :: L)):ah c ops Q (⟨some a7,.alloc t,ty,pos,af,none⟩ :: rest) E L:=fun a W s=>by
 obtain⟨i,dK,J,aa,av⟩:=gC.zero
 refine hO rfl (R:=fun v W'=>v= .pointer (some ⟨W.heap.size,0,none⟩)∧W'=W.alloc (.cells dK.cells t)) (.lx ?_ ⟨rfl,rfl⟩) fun v W' ⟨a3,hw⟩=> ?_
 ·simp [execOp,Instr.alloc,zeroValue,typeInfo,J,aa,newVar,newRow]
 ·subst a3
  subst hw
  exact k _ _ _ ((s.alloc (cp:= .var z) ⟨dK.cells,t,rfl,(av _ _).2⟩).put (by simpa using aF) rfl)
theorem Lp {P:Program} {t:TypeId} {α:Type} [ae α] {z:α} (gC:cz P t z):Jq P ⟨d,.alloc t,ty,pos,af,none⟩ (.var z):=by
 obtain⟨i,dK,J,aa,av⟩:=gC.zero
 refine⟨rfl,.cells dK.cells t,fun A W=>⟨dK.cells,t,rfl,(av A W).2⟩,fun a W=> ?_⟩
 simp [execOp,Instr.alloc,zeroValue,typeInfo,J,aa,newVar,newRow]
theorem zG {x y:Operand} {t:TypeId} {i p o:Nat} {β γ:Type} [ae β] [ae γ] {b b':β} {v:γ} (l:aP β γ) (ep:bs c.P t γ) (ai:a8 c E L x (.eq (.pointer (some ⟨p,o,none⟩))))
 (a4:a8 c E L y (.of v)) (aq:L[i]? =some ⟨some p,.var b⟩) (a6:o=l.off) (hb:l.set b v=b'):BC c E L ⟨none,.store t x y,ty,pos,af,none⟩ p (.var b'):=⟨rfl,rfl,fun a W s=>by
 subst a6
 subst hb
 obtain⟨j0,eD,cs,T,rfl,fL⟩:=s.own _ (List.mem_of_getElem? aq)
 have J:cs.toList.length=ae.size β:=ae.len fL
 have dQ:=l.fZ
 have a3:=a4 a W s
 have aa:=yZ (A:=aK L ++ c.bL) ep eD (off:=l.off) (by simp at J; omega) a3
 have aO:a.eval x=_:=ai a W s
 refine⟨cs,(fR cs.toList l.off (a.eval y).cells.toList).toArray,T,eD,?_,?_⟩
 ·simp [execOp,Instr.storeAt,Instr.sureAddr,aO,aa]
 ·refine⟨_,T,rfl,?_⟩
  have:=l.k6 fL a3.2
  simpa [fR,ae.len a3.2] using this⟩
theorem ah.box {t:TypeId} {x:Operand} {rest:List Oper} {a7:Nat} {α:Type} [ae α] {z:α} (ai:a8 c E L x (.of z)) (aF:Nat.blt a7 c.n=true)
 (k:∀ p,ah c ops Q rest ((a7,.eq (.pointer (some ⟨p,0,none⟩))) :: E) (⟨some p,.var z⟩ :: L)):ah c ops Q (⟨some a7,.box t x,ty,pos,af,none⟩ :: rest) E L:=fun a W s=>by
 refine hO rfl (R:=fun v W'=>v= .pointer (some ⟨W.heap.size,0,none⟩)∧W'=W.alloc (.cells (a.eval x).cells t)) (.lx ?_ ⟨rfl,rfl⟩) fun v W' ⟨a3,hw⟩=> ?_
 ·simp [execOp,Instr.box,newVar,newRow]
 ·subst a3
  subst hw
  exact k _ _ _ ((s.alloc (cp:= .var z) ⟨_,t,rfl,(ai a W s).2⟩).put (by simpa using aF) rfl)
theorem ah.store {x y:Operand} {t:TypeId} {rest:List Oper} {i p o:Nat} {β γ:Type} [ae β] [ae γ] {b b':β} {v:γ} (l:aP β γ) (ep:bs c.P t γ) (ai:a8 c E L x (.eq (.pointer (some ⟨p,o,none⟩))))
 (a4:a8 c E L y (.of v)) (aq:L[i]? =some ⟨some p,.var b⟩) (a6:o=l.off) (hb:l.set b v=b')
 (k:ah c ops Q rest E (L.set i ⟨some p,.var b'⟩)):ah c ops Q (⟨none,.store t x y,ty,pos,af,none⟩ :: rest) E L:=fun a W s=>by
 subst a6
 subst hb
 obtain⟨j0,eD,cs,T,rfl,fL⟩:=s.own _ (List.mem_of_getElem? aq)
 have J:cs.toList.length=ae.size β:=ae.len fL
 have dQ:=l.fZ
 have a3:=a4 a W s
 have aa:=yZ (A:=aK L ++ c.bL) ep eD (off:=l.off) (by simp at J; omega) a3
 have aO:a.eval x=_:=ai a W s
 refine hO rfl (R:=fun v W'=>W'=W.setRow p (fR cs.toList l.off (a.eval y).cells.toList).toArray) (.xr ?_ rfl) fun v W' hw=> ?_
 ·simp [execOp,Instr.storeAt,Instr.sureAddr,aO,aa]
 ·subst hw
  refine k _ _ (s.store aq eD ?_)
  refine⟨_,T,rfl,?_⟩
  have:=l.k6 fL a3.2
  simpa [fR,ae.len a3.2] using this
def ht (c:cY) (E:List (Nat × I)) (L:List aI):List Operand→List I→Prop
 | [],[]=>True
 | x :: xs,τ :: τs=>a8 c E L x τ∧ht c E L xs τs
 | _,_=>False
theorem ht.holds:∀ {xs:List Operand} {τs:List I},ht c E L xs τs→ ∀ a W,bC c E L a W→gu (aK L ++ c.bL) W τs (xs.map a.eval)
 | [],[],_,_,_,_=> .nil
 | x :: xs,τ :: τs,h,a,W,s=> .cons (h.1 a W s) (h.2.holds a W s)
 | [],_ :: _,h,_,_,_=>h.elim
 | _ :: _,[],h,_,_,_=>h.elim
structure bV (P:Program) (f:FuncId):Prop where
 at_:∃ fn,P.funcs[f]? =some fn∧fn.body.isNone=false∧ (fn.name == "runtime.NumGoroutine")=false
theorem bV.run {P:Program} {f:FuncId} (h:bV P f) (args:Array Value) (W:World):(callFunc f args).run P W= .ok (.enter f args) W:=by
 obtain⟨fn,J,aa,av⟩:=h.at_
 simp only [callFunc,Sem.run_bind,run_program,Result.andThen_ok,J,av,aa]
 rfl
theorem k7 {f:FuncId} {xs:List Operand} {ats:Array TypeId} {τs:List I} {ρ:I} (er:bV c.P f) (h:cl c.P f τs ρ) (ai:ht c E L xs τs):
 bO c E L ⟨d,.call ⟨.value (.func f),xs.toArray,ats⟩,ty,pos,af,g⟩ ρ:=fun a W s=>by
 refine .u6 (f:=f) (args:=(xs.map a.eval).toArray) (W':=W) ?_ (h _ W _ s.Dv (ai.holds a W s))
 simp [execOp,resolve,Deferred.ofValue,Act.eval,invoke,er.run]
theorem qC {P:Program} {W:World} {t off:Nat} {cs:Array Value} {α:Type} [ae α] {A:List Nat} {x:α} (ty:bs P t α) (hs:off + ae.size α≤cs.size)
 (aD:ae.rep A W ((cs.toList.drop off).take (ae.size α)) x):∃ v,(part t cs off).run P W= .ok v W∧ (I.of x).holds A W v:=by
 have an:=ae.len aD
 cases a9:ae.agg α with
 | true=>
   refine⟨.agg (cs.extract off (off + ae.size α)),?_,?_,?_⟩
   ·simp [part,ty.isAgg,ty.sizeOf,a9]
   ·simp [shaped,a9]
   ·simpa [Value.cells,List.extract,Array.toList_extract] using aD
 | false=>
   have J:ae.size α=1:=ae.flat a9
   have bY:off < cs.size:=by omega
   have aa:(cs.toList.drop off).take (ae.size α)= [cs[off]]:=by
    rw [J]
    apply List.ext_getElem?
    intro j
    rw [List.getElem?_take,List.getElem?_drop]
    cases j with
    | zero=>simp [bY]
    | succ j=>simp
   rw [aa] at aD
   have av:cs[off].oneCell'=true:=ae.one aD _ (by simp)
   refine⟨cs[off],?_,?_,?_⟩
   ·simp [part,ty.isAgg,a9,bY]
   ·simp [shaped,a9,av]
   ·rw [oe av]; simpa using aD
structure Pu (P:Program) (s f t o:Nat):Prop where
 at_:∃ fs fd,P.underlying s=some (.struct fs)∧fs[f]? =some fd∧fd.offset=o∧fd.type=t
theorem Tl {x:Operand} {s f t o:Nat} {β γ:Type} [ae β] [ae γ] {b:β} (l:aP β γ) {r:γ} (aaf:Pu c.P s f t o) (ep:bs c.P t γ) (a9:ae.agg β=true) (ai:a8 c E L x (.of b)) (a6:l.off=o) (aD:l.get b=r):
 bO c E L ⟨d,.field s x f,ty,pos,af,g⟩ (.of r):= .pure fun a W st=>by
 subst a6
 subst aD
 obtain⟨J,aa⟩:=ai a W st
 simp only [shaped,a9,if_true] at J
 obtain⟨cs,p2⟩:=J
 obtain⟨fs,fd,av,aO,aS,aY⟩:=aaf.at_
 rw [p2] at aa
 simp only [Value.cells] at aa
 have an:cs.toList.length=ae.size β:=ae.len aa
 obtain⟨v,b7,dV⟩:=qC (A:=aK L ++ c.bL) (P:=c.P) (W:=W) (cs:=cs) (off:=l.off) ep (by have:=l.fZ; simp at an; omega) (l.h3 aa)
 refine⟨v,?_,dV⟩
 simp [execOp,Instr.field,run_underlying av,aO,p2,asAgg,aS,aY,b7]
theorem Tv {x y:Operand} {t e n:Nat} {i:Int} {k:Nat} {α:Type} [ae α] [Inhabited α] {v:Vector α n} (hu:c.P.underlying t=some (.array n e)) (ep:bs c.P e α) (ai:a8 c E L x (.of v)) (a4:a8 c E L y (.of i)) (ar:k < n∧i=k):
 bO c E L ⟨d,.index t x y,ty,pos,af,g⟩ (.of (bB v k)):= .pure fun a W st=>by
 obtain⟨J,aa⟩:=ai a W st
 obtain⟨cs,p2⟩:∃ cs,a.eval x= .agg cs:=by simpa [shaped,ae.agg] using J
 have aS:=of_int.1 (a4 a W st)
 obtain⟨aY,rfl⟩:=ar
 rw [p2] at aa
 simp only [Value.cells] at aa
 have an:cs.toList.length=n * ae.size α:=ae.len aa
 have dQ:=(aP.idx (α:=α) n k aY).fZ
 obtain⟨u,b7,dV⟩:=qC (A:=aK L ++ c.bL) (P:=c.P) (W:=W) (cs:=cs) (off:=k * ae.size α) ep
  (by
   have:k * ae.size α + ae.size α≤n * ae.size α:=dQ
   simp at an; omega) ((aP.idx (α:=α) n k aY).h3 aa)
 refine⟨u,?_,dV⟩
 simp [execOp,Instr.index,asIntOf,run_underlying hu,p2,aS,aY,ep.sizeOf,b7]
theorem lb {x:Operand} {i:Nat} {τs:List I} {τ:I} (ai:a8 c E L x (.eA τs)) (ao:τs[i]? =some τ):bO c E L ⟨d,.extract x i,ty,pos,af,g⟩ τ:= .pure fun a W st=>by
 obtain⟨vs,J,aa⟩:=ai a W st
 have get:∀ {τs:List I} {vs:List Value},gu (aK L ++ c.bL) W τs vs→ ∀ (i:Nat) (τ:I),τs[i]? =some τ→ ∃ v,vs[i]? =some v∧τ.holds (aK L ++ c.bL) W v:=by
  intro τs vs h
  induction h with
  | nil=>intro i τ h; simp at h
  | cons J _ bD=>
    intro i τ h
    cases i with
    | zero=>simp only [List.getElem?_cons_zero,Option.some.injEq] at h; subst h; exact⟨_,rfl,J⟩
    | succ i=>simp only [List.getElem?_cons_succ] at h ⊢; exact bD i τ h
 obtain⟨v,av,aO⟩:=get aa i τ ao
 refine⟨v,?_,aO⟩
 have aS:vs[i]? =some v:=by simpa using av
 simp [execOp,Instr.extract,J,aS]
end
def bE (x:Int):Int:=IntKind.i64.wrap x
theorem hr {x:Int} (h: -9223372036854775808≤x) (cS:x≤9223372036854775807):bE x=x:=by
 unfold bE
 rw [IntKind.wrap_i64]
 omega
def vT (a b:Int):Option Int:=if b=0 then none else some (a.tmod b)
theorem KZ {a b r:Int} (h:vT a b=some r):b≠0∧a.tmod b=r:=by unfold vT at h; split at h <;> simp_all
theorem wrap_u8 (n:Int):IntKind.u8.wrap n=n % 256:=by simp [IntKind.wrap,IntKind.signed,IntKind.bits]
theorem wrap_u64 (n:Int):IntKind.u64.wrap n=n % 18446744073709551616:=by simp [IntKind.wrap,IntKind.signed,IntKind.bits]
theorem Tx (P:Program) (W:World) (k Jr:IntKind) (a b:Int) (h:0≤b):(Op.shift .shl k a Jr b).run P W= .ok (.int k (k.wrap (a * 2 ^ min b.toNat k.bits))) W:=by
 unfold Op.shift
 rw [if_neg (by omega)]
 rfl
theorem Ty (P:Program) (W:World) (k Jr:IntKind) (a b:Int) (h:0≤b):(Op.shift .shr k a Jr b).run P W= .ok (.int k (a.fdiv (2 ^ min b.toNat k.bits))) W:=by
 unfold Op.shift
 rw [if_neg (by omega)]
 rfl
section
variable {c:cY} {E:List (Nat × I)} {L:List aI}
variable {d:Option Tmp} {ty:TypeId} {pos:String} {af:Array Edge} {g:Option (Nat × Bool)} {x y:Operand} {t t2:TypeId}
theorem eR {a b:Int} (ai:a8 c E L x (.of a)) (a4:a8 c E L y (.of b)):bO c E L ⟨d,.binOp .add t x y t2,ty,pos,af,g⟩ (.of (bE (a + b))):= .pure fun A W s=>
 ⟨.int .i64 (bE (a + b)),by simp [execOp,eqGuard,binOp,Op.intArith,of_int.1 (ai A W s),of_int.1 (a4 A W s),bE],of_int.2 rfl⟩
theorem la {a b:Int} (ai:a8 c E L x (.of a)) (a4:a8 c E L y (.of b)):bO c E L ⟨d,.binOp .sub t x y t2,ty,pos,af,g⟩ (.of (bE (a - b))):= .pure fun A W s=>
 ⟨.int .i64 (bE (a - b)),by simp [execOp,eqGuard,binOp,Op.intArith,of_int.1 (ai A W s),of_int.1 (a4 A W s),bE],of_int.2 rfl⟩
theorem VO {a b:Int} (ai:a8 c E L x (.of a)) (a4:a8 c E L y (.of b)):bO c E L ⟨d,.binOp .mul t x y t2,ty,pos,af,g⟩ (.of (bE (a * b))):= .pure fun A W s=>
 ⟨.int .i64 (bE (a * b)),by simp [execOp,eqGuard,binOp,Op.intArith,of_int.1 (ai A W s),of_int.1 (a4 A W s),bE],of_int.2 rfl⟩
theorem M0 {a b r:Int} (ai:a8 c E L x (.of a)) (a4:a8 c E L y (.of b)) (h:b≠0∧a.tmod b=r):bO c E L ⟨d,.binOp .rem t x y t2,ty,pos,af,g⟩ (.of r):= .pure fun A W s=>
 ⟨.int .i64 r,by obtain⟨J,rfl⟩:=h; simp [execOp,eqGuard,binOp,Op.intDiv,of_int.1 (ai A W s),of_int.1 (a4 A W s),J],of_int.2 rfl⟩
theorem hf {a b:Int} (ai:a8 c E L x (.of a)) (a4:a8 c E L y (.of b)):bO c E L ⟨d,.binOp .lss t x y t2,ty,pos,af,g⟩ (.of (decide (a < b))):= .pure fun A W s=>
 ⟨.bool (decide (a < b)),by simp only [execOp,eqGuard,binOp,of_int.1 (ai A W s),of_int.1 (a4 A W s)]; rfl,of_bool.2 rfl⟩
theorem tH {a b:Int} (ai:a8 c E L x (.of a)) (a4:a8 c E L y (.of b)):bO c E L ⟨d,.binOp .leq t x y t2,ty,pos,af,g⟩ (.of (decide (a≤b))):= .pure fun A W s=>
 ⟨.bool (decide (a≤b)),by simp only [execOp,eqGuard,binOp,of_int.1 (ai A W s),of_int.1 (a4 A W s)]; rfl,of_bool.2 rfl⟩
theorem xI {a b:Int} (ai:a8 c E L x (.of a)) (a4:a8 c E L y (.of b)):bO c E L ⟨d,.binOp .gtr t x y t2,ty,pos,af,g⟩ (.of (decide (a > b))):= .pure fun A W s=>
 ⟨.bool (decide (a > b)),by simp only [execOp,eqGuard,binOp,of_int.1 (ai A W s),of_int.1 (a4 A W s)]; rfl,of_bool.2 rfl⟩
theorem nO {a b:Int} (ai:a8 c E L x (.of a)) (a4:a8 c E L y (.of b)):bO c E L ⟨d,.binOp .geq t x y t2,ty,pos,af,g⟩ (.of (decide (a≥b))):= .pure fun A W s=>
 ⟨.bool (decide (a≥b)),by simp only [execOp,eqGuard,binOp,of_int.1 (ai A W s),of_int.1 (a4 A W s)]; rfl,of_bool.2 rfl⟩
theorem ir {a b:Int} (ai:a8 c E L x (.of a)) (a4:a8 c E L y (.of b)):bO c E L ⟨d,.binOp .eql t x y t2,ty,pos,af,g⟩ (.of (a ==b)):= .pure fun A W s=>
 ⟨.bool (a ==b),by simp only [execOp,eqGuard,binOp,of_int.1 (ai A W s),of_int.1 (a4 A W s)]; rfl,of_bool.2 rfl⟩
theorem zZ {a b:Int} (ai:a8 c E L x (.of a)) (a4:a8 c E L y (.of b)):bO c E L ⟨d,.binOp .neq t x y t2,ty,pos,af,g⟩ (.of (a !=b)):= .pure fun A W s=>
 ⟨.bool (a !=b),by simp only [execOp,eqGuard,binOp,of_int.1 (ai A W s),of_int.1 (a4 A W s)]; rfl,of_bool.2 rfl⟩
theorem WA {a b:Bool} (hu:c.P.underlying t=some .bool) (ai:a8 c E L x (.of a)) (a4:a8 c E L y (.of b)):bO c E L ⟨d,.binOp .neq t x y t2,ty,pos,af,g⟩ (.of (a !=b)):= .pure fun A W s=>
 ⟨.bool (a !=b),by
   simp only [execOp,eqGuard,binOp,of_bool.1 (ai A W s),of_bool.1 (a4 A W s),Op.equal,Op.maxDepth]
   simp [run_equalIn_bool' W 9999 t a b hu,bne],of_bool.2 rfl⟩
theorem xF {a b:Int} {ats:Array TypeId} (ai:a8 c E L x (.of a)) (a4:a8 c E L y (.of b)):bO c E L ⟨d,.call ⟨.builtin .min,#[x,y],ats⟩,ty,pos,af,g⟩ (.of (min a b)):= .pure fun A W s=>
 ⟨.int .i64 (min a b),by
   simp [execOp,resolve,invoke,builtin,Builtin.min_,Builtin.min2,of_int.1 (ai A W s),of_int.1 (a4 A W s)]
   split <;> omega,of_int.2 rfl⟩
theorem DD {a b:Int} {ats:Array TypeId} (ai:a8 c E L x (.of a)) (a4:a8 c E L y (.of b)):bO c E L ⟨d,.call ⟨.builtin .max,#[x,y],ats⟩,ty,pos,af,g⟩ (.of (max a b)):= .pure fun A W s=>
 ⟨.int .i64 (max a b),by
   simp [execOp,resolve,invoke,builtin,Builtin.max_,Builtin.max2,of_int.1 (ai A W s),of_int.1 (a4 A W s)]
   split <;> omega,of_int.2 rfl⟩
theorem WD (a:BitVec 8):(a.toNat:Int) < 256:=by have:=a.isLt; omega
theorem Uy {a b:BitVec 8} (ai:a8 c E L x (.of a)) (a4:a8 c E L y (.of b)):bO c E L ⟨d,.binOp .eql t x y t2,ty,pos,af,g⟩ (.of (a ==b)):= .pure fun A W s=>
 ⟨.bool (a ==b),by
   simp only [execOp,eqGuard,binOp,pI.1 (ai A W s),pI.1 (a4 A W s)]
   have h:((a.toNat:Int) ==(b.toNat:Int))=(a ==b):=by
    rw [Bool.eq_iff_iff]; simp [bne]; exact⟨fun h=>BitVec.eq_of_toNat_eq (by omega),fun h=>by rw [h]⟩
   rw [← h]; rfl,of_bool.2 rfl⟩
theorem Tu {a:BitVec 8} {src dst:TypeId} {e:TypeDesc} (hs:c.P.underlying src=some e) (hd:c.P.underlying dst=some (.int .u64)) (ai:a8 c E L x (.of a)):bO c E L ⟨d,.convert src dst x,ty,pos,af,g⟩ (.of (a.setWidth 64)):= .pure fun A W s=>
 ⟨.int .u64 (a.setWidth 64).toNat,by
   have h:IntKind.u64.wrap (a.toNat:Int)=((a.setWidth 64).toNat:Int):=by rw [wrap_u64,BitVec.toNat_setWidth]; have:=a.isLt; omega
   simp only [execOp,convert,Sem.run_bind,run_underlying hs,run_underlying hd,pI.1 (ai A W s),Conv.intToInt,Result.andThen_ok,h]; rfl,hS.2 rfl⟩
theorem MZ {a:BitVec 8} {src dst:TypeId} {e:TypeDesc} (hs:c.P.underlying src=some e) (hd:c.P.underlying dst=some (.int .i64)) (ai:a8 c E L x (.of a)):bO c E L ⟨d,.convert src dst x,ty,pos,af,g⟩ (.of (a.toNat:Int)):= .pure fun A W s=>
 ⟨.int .i64 a.toNat,by
   have h:IntKind.i64.wrap (a.toNat:Int)=(a.toNat:Int):=hr (by omega) (by have:=WD a; omega)
   simp only [execOp,convert,Sem.run_bind,run_underlying hs,run_underlying hd,pI.1 (ai A W s),Conv.intToInt,Result.andThen_ok,h]; rfl,of_int.2 rfl⟩
theorem G2 (a:BitVec 64):(a.toNat:Int) < 18446744073709551616:=by have:=a.isLt; omega
theorem ofInt_u64 (a:BitVec 64):BitVec.ofInt 64 (a.toNat:Int)=a:=by simp
theorem Gm {a b:BitVec 64} (ai:a8 c E L x (.of a)) (a4:a8 c E L y (.of b)):bO c E L ⟨d,.binOp .and t x y t2,ty,pos,af,g⟩ (.of (a &&& b)):= .pure fun A W s=>
 ⟨.int .u64 (a &&& b).toNat,by
   simp only [execOp,eqGuard,binOp,hS.1 (ai A W s),hS.1 (a4 A W s)]
   have h:IntKind.u64.wrap ((a &&& b).toNat:Int)=((a &&& b).toNat:Int):=by rw [wrap_u64]; have:=G2 (a &&& b); omega
   rw [← h]
   conv=>rhs; rw [← ofInt_u64 a,← ofInt_u64 b]
   rfl,hS.2 rfl⟩
theorem Dp {a b:BitVec 64} (ai:a8 c E L x (.of a)) (a4:a8 c E L y (.of b)):bO c E L ⟨d,.binOp .or t x y t2,ty,pos,af,g⟩ (.of (a ||| b)):= .pure fun A W s=>
 ⟨.int .u64 (a ||| b).toNat,by
   simp only [execOp,eqGuard,binOp,hS.1 (ai A W s),hS.1 (a4 A W s)]
   have h:IntKind.u64.wrap ((a ||| b).toNat:Int)=((a ||| b).toNat:Int):=by rw [wrap_u64]; have:=G2 (a ||| b); omega
   rw [← h]
   conv=>rhs; rw [← ofInt_u64 a,← ofInt_u64 b]
   rfl,hS.2 rfl⟩
theorem LY {a b:BitVec 64} (ai:a8 c E L x (.of a)) (a4:a8 c E L y (.of b)):bO c E L ⟨d,.binOp .xor t x y t2,ty,pos,af,g⟩ (.of (a ^^^ b)):= .pure fun A W s=>
 ⟨.int .u64 (a ^^^ b).toNat,by
   simp only [execOp,eqGuard,binOp,hS.1 (ai A W s),hS.1 (a4 A W s)]
   have h:IntKind.u64.wrap ((a ^^^ b).toNat:Int)=((a ^^^ b).toNat:Int):=by rw [wrap_u64]; have:=G2 (a ^^^ b); omega
   rw [← h]
   conv=>rhs; rw [← ofInt_u64 a,← ofInt_u64 b]
   rfl,hS.2 rfl⟩
theorem Tz (a:BitVec 64) (n:Nat):IntKind.u64.wrap ((a.toNat:Int) * 2 ^ min n 64)=((a <<< n).toNat:Int):=by
 rw [wrap_u64,BitVec.toNat_shiftLeft,Nat.shiftLeft_eq]
 rcases Nat.lt_or_ge n 64 with h | h
 ·rw [Nat.min_eq_left (by omega)]; simp
 ·rw [Nat.min_eq_right h]
  have e:(a.toNat * 2 ^ n) % 2 ^ 64=0:=by
   rw [show n=64 + (n - 64) by omega,Nat.pow_add]
   exact Nat.mod_eq_zero_of_dvd ⟨a.toNat * 2 ^ (n - 64),by rw [← Nat.mul_assoc,Nat.mul_comm a.toNat,Nat.mul_assoc]⟩
  rw [e]
  have aX:(2:Int) ^ 64=18446744073709551616:=by decide
  rw [aX]; omega
theorem TA (a:BitVec 64) (n:Nat):(a.toNat:Int).fdiv (2 ^ min n 64)=((a >>> n).toNat:Int):=by
 rw [BitVec.toNat_ushiftRight,Nat.shiftRight_eq_div_pow]
 have e:∀ m:Nat,(a.toNat:Int).fdiv (2 ^ m)=((a.toNat / 2 ^ m:Nat):Int):=by
  intro m
  rw [show((2:Int) ^ m)=((2 ^ m:Nat):Int) by simp]
  rw [Int.fdiv_eq_ediv_of_nonneg _ (Int.natCast_nonneg _)]
  exact(Int.natCast_ediv _ _).symm
 rw [e]
 rcases Nat.lt_or_ge n 64 with h | h
 ·rw [Nat.min_eq_left (by omega)]
 ·rw [Nat.min_eq_right h]
  have J:a.toNat / 2 ^ 64=0:=Nat.div_eq_of_lt a.isLt
  have aa:a.toNat / 2 ^ n=0:=Nat.div_eq_of_lt (Nat.lt_of_lt_of_le a.isLt (Nat.pow_le_pow_right (by omega) h))
  rw [J,aa]
theorem C3 {a:BitVec 64} {b:BitVec 64} (ai:a8 c E L x (.of a)) (a4:a8 c E L y (.of b)):bO c E L ⟨d,.binOp .shl t x y t2,ty,pos,af,g⟩ (.of (a <<< b.toNat)):= .pure fun A W s=>
 ⟨.int .u64 (a <<< b.toNat).toNat,by
   simp only [execOp,eqGuard,binOp,hS.1 (ai A W s),hS.1 (a4 A W s)]
   have h:=Tx c.P W .u64 .u64 a.toNat b.toNat (by omega)
   simp only [Int.toNat_natCast,IntKind.bits,Tz] at h
   exact congrArg (fun r:Result Value=>r.andThen fun v w=> .ok (Next.value v) w) h,hS.2 rfl⟩
theorem tt {a:BitVec 64} {b:BitVec 64} (ai:a8 c E L x (.of a)) (a4:a8 c E L y (.of b)):bO c E L ⟨d,.binOp .shr t x y t2,ty,pos,af,g⟩ (.of (a >>> b.toNat)):= .pure fun A W s=>
 ⟨.int .u64 (a >>> b.toNat).toNat,by
   simp only [execOp,eqGuard,binOp,hS.1 (ai A W s),hS.1 (a4 A W s)]
   have h:=Ty c.P W .u64 .u64 a.toNat b.toNat (by omega)
   simp only [Int.toNat_natCast,IntKind.bits,TA] at h
   exact congrArg (fun r:Result Value=>r.andThen fun v w=> .ok (Next.value v) w) h,hS.2 rfl⟩
theorem LW {a b:BitVec 64} (ai:a8 c E L x (.of a)) (a4:a8 c E L y (.of b)):bO c E L ⟨d,.binOp .lss t x y t2,ty,pos,af,g⟩ (.of (decide (a < b))):= .pure fun A W s=>
 ⟨.bool (decide (a < b)),by
   simp only [execOp,eqGuard,binOp,hS.1 (ai A W s),hS.1 (a4 A W s)]
   have h:decide ((a.toNat:Int) < (b.toNat:Int))=decide (a < b):=by simp [BitVec.lt_def,BitVec.le_def]
   rw [← h]; rfl,of_bool.2 rfl⟩
theorem Gq {a b:BitVec 64} (ai:a8 c E L x (.of a)) (a4:a8 c E L y (.of b)):bO c E L ⟨d,.binOp .geq t x y t2,ty,pos,af,g⟩ (.of (decide (a≥b))):= .pure fun A W s=>
 ⟨.bool (decide (a≥b)),by
   simp only [execOp,eqGuard,binOp,hS.1 (ai A W s),hS.1 (a4 A W s)]
   have h:decide ((a.toNat:Int)≥ (b.toNat:Int))=decide (a≥b):=by simp [BitVec.lt_def,BitVec.le_def]
   rw [← h]; rfl,of_bool.2 rfl⟩
theorem LX {a b:BitVec 64} (ai:a8 c E L x (.of a)) (a4:a8 c E L y (.of b)):bO c E L ⟨d,.binOp .eql t x y t2,ty,pos,af,g⟩ (.of (a ==b)):= .pure fun A W s=>
 ⟨.bool (a ==b),by
   simp only [execOp,eqGuard,binOp,hS.1 (ai A W s),hS.1 (a4 A W s)]
   have h:((a.toNat:Int) ==(b.toNat:Int))=(a ==b):=by
    rw [Bool.eq_iff_iff]; simp [bne]; exact⟨fun h=>BitVec.eq_of_toNat_eq (by omega),fun h=>by rw [h]⟩
   rw [← h]; rfl,of_bool.2 rfl⟩
theorem To {a b:BitVec 64} (ai:a8 c E L x (.of a)) (a4:a8 c E L y (.of b)):bO c E L ⟨d,.binOp .neq t x y t2,ty,pos,af,g⟩ (.of (a !=b)):= .pure fun A W s=>
 ⟨.bool (a !=b),by
   simp only [execOp,eqGuard,binOp,hS.1 (ai A W s),hS.1 (a4 A W s)]
   have h:((a.toNat:Int) !=(b.toNat:Int))=(a !=b):=by
    rw [Bool.eq_iff_iff]; simp [bne]; exact⟨fun h=>fun e=>h (by rw [e]),fun h=>by intro e; exact h (BitVec.eq_of_toNat_eq (by omega))⟩
   rw [← h]; rfl,of_bool.2 rfl⟩
theorem o7 {a:Int} {src dst:TypeId} {e:TypeDesc} (hs:c.P.underlying src=some e) (hd:c.P.underlying dst=some (.int .u64)) (ai:a8 c E L x (.of a)):bO c E L ⟨d,.convert src dst x,ty,pos,af,g⟩ (.of (BitVec.ofInt 64 a)):= .pure fun A W s=>
 ⟨.int .u64 (BitVec.ofInt 64 a).toNat,by
   have h:IntKind.u64.wrap a=((BitVec.ofInt 64 a).toNat:Int):=by rw [wrap_u64,BitVec.toNat_ofInt]; omega
   simp [execOp,convert,run_underlying hs,run_underlying hd,of_int.1 (ai A W s),Conv.intToInt,h],hS.2 rfl⟩
theorem Tm {a:BitVec 64} {src dst:TypeId} {e:TypeDesc} (hs:c.P.underlying src=some e) (hd:c.P.underlying dst=some (.int .u8)) (ai:a8 c E L x (.of a)):bO c E L ⟨d,.convert src dst x,ty,pos,af,g⟩ (.of (a.setWidth 8)):= .pure fun A W s=>
 ⟨.int .u8 (a.setWidth 8).toNat,by
   have h:IntKind.u8.wrap (a.toNat:Int)=((a.setWidth 8).toNat:Int):=by rw [wrap_u8,BitVec.toNat_setWidth]; have:=a.isLt; omega
   simp only [execOp,convert,Sem.run_bind,run_underlying hs,run_underlying hd,hS.1 (ai A W s),Conv.intToInt,Result.andThen_ok,h]; rfl,pI.2 rfl⟩
theorem Ub {a:BitVec 64} {src dst:TypeId} {e:TypeDesc} (hs:c.P.underlying src=some e) (hd:c.P.underlying dst=some (.int .i64)) (ai:a8 c E L x (.of a)):bO c E L ⟨d,.convert src dst x,ty,pos,af,g⟩ (.of (bE a.toNat)):= .pure fun A W s=>
 ⟨.int .i64 (bE a.toNat),by
   simp only [execOp,convert,Sem.run_bind,run_underlying hs,run_underlying hd,hS.1 (ai A W s),Conv.intToInt,Result.andThen_ok]; rfl,of_int.2 rfl⟩
end
def vj (tmps:Array Value):ResultVar→Sem Value
 | .tmp t=>pure (tmps.getD t undef)
 | .cell a t=>do loadVar t (← asAddr (tmps.getD a undef))
theorem uX (fn:Func) (tmps:Array Value):results fn tmps=(do
 let vs ← fn.results.mapM (vj tmps)
 pure (if h:vs.size=1 then vs[0] else .tuple vs)):=by
 unfold results
 congr 1
section
variable {c:cY} {E:List (Nat × I)} {L:List aI} {ops:Array Oper} {Q:Exit→Act→World→Prop}
def sO (c:cY) (E:List (Nat × I)) (L:List aI) (r:ResultVar) (τ:I):Prop:=
 ∀ a W,bC c E L a W→ ∃ v,(vj a.tmps r).run c.P W= .ok v W∧τ.holds c.bL W v
theorem vK {t:Nat} {τ:I} (h:look E t=some τ):sO c E L (.tmp t) τ:=fun a W s=>by
 obtain⟨v,J,aa⟩:=s.env t τ h
 exact⟨v,by simp [vj,J],KG aa⟩
theorem Yh {t:Nat} {ty:TypeId} {i p:Nat} {α:Type} [ae α] {x:α} (ep:bs c.P ty α) (h:look E t=some (.eq (.pointer (some ⟨p,0,none⟩)))) (aq:L[i]? =some ⟨some p,.var x⟩):sO c E L (.cell t ty) (.of x):=fun a W s=>by
 obtain⟨v,J,aa⟩:=s.env t _ h
 subst aa
 obtain⟨j0,eD,cs,T,rfl,fL⟩:=s.own _ (List.mem_of_getElem? aq)
 have an:cs.toList.length=ae.size α:=ae.len fL
 have eB:cs.size=ae.size α:=by simpa using an
 obtain⟨v,av,aO⟩:=uS (A:=aK L ++ c.bL) (off:=0) ep eD (by omega) (by rw [List.drop_zero,← an,List.take_length]; exact fL)
 exact⟨v,by simp [vj,J,asAddr,av],KG aO⟩
def vX (c:cY) (ρ:I):Ending→World→Prop:=fun e W'=> ∃ v,e= .returned v∧Fr c.X c.iL W'∧ρ.holds c.bL W' v
theorem aj.mL {fn:Func} {r:ResultVar} {τ:I} (aD:fn.results= #[r]) (h:sO c E L r τ) (hx:c.ds= []:=by rfl):aj c (bodyPost c.P fn (vX c τ)) .ret E L:=fun a W s=>by
 obtain⟨v,J,aa⟩:=h a W s
 exact⟨s.u5 hx,v,by simp [uX,aD,J],v,rfl,s.dw,aa⟩
theorem aj.DX {fn:Func} {r ea:ResultVar} {τ n1:I} (aD:fn.results= #[r,ea]) (h:sO c E L r τ) (aa:sO c E L ea n1) (hx:c.ds= []:=by rfl):aj c (bodyPost c.P fn (vX c (.eA [τ,n1]))) .ret E L:=fun a W s=>by
 obtain⟨v,av,aO⟩:=h a W s
 obtain⟨v2,aS,aY⟩:=aa a W s
 exact⟨s.u5 hx,.tuple #[v,v2],by simp [uX,aD,av,aS],_,rfl,s.dw,_,rfl,.cons aO (.cons aY .nil)⟩
theorem aj.N5 {fn:Func} {r ea kH:ResultVar} {τ n1 AY:I} (aD:fn.results= #[r,ea,kH]) (h:sO c E L r τ) (aa:sO c E L ea n1) (av:sO c E L kH AY) (hx:c.ds= []:=by rfl):aj c (bodyPost c.P fn (vX c (.eA [τ,n1,AY]))) .ret E L:=fun a W s=>by
 obtain⟨v,aO,aS⟩:=h a W s
 obtain⟨v2,aY,b7⟩:=aa a W s
 obtain⟨Js,dV,eQ⟩:=av a W s
 exact⟨s.u5 hx,.tuple #[v,v2,Js],by simp [uX,aD,aO,aY,dV],_,rfl,s.dw,_,rfl,.cons aS (.cons b7 (.cons eQ .nil))⟩
theorem cl.of {P:Program} {f:FuncId} {fn:Func} {code:Code} {n:Nat} {τs:List I} {ρ:I} (aV:P.funcs[f]? =some fn) (hb:fn.body=some code) (aF:fn.ntmps=n) (hlen:Nat.ble τs.length n=true)
 (h:∀ W A,ak ⟨P,n,W,[],A,none,[]⟩ (bodyPost P fn (vX ⟨P,n,W,[],A,none,[]⟩ ρ)) code (params 0 τs) []):cl P f τs ρ:=cl.enter aV hb aF hlen h
end
structure mf (P:Program) (t:TypeId) (α:Type) [ae α] [DecidableEq α] (k:Nat):Prop where
 run:∀ d,k≤d→ ∀ A W u v (x y:α),(I.of x).holds A W u→ (I.of y).holds A W v→ (Op.equalIn d t u v).run P W= .ok (decide (x=y)) W
theorem L7 {P t K} (h:P.underlying t=some (.int K)):mf P t Int 1 where
 run d hd A W u v x y ai a4:=by
  obtain⟨d,rfl⟩:∃ e,d=e + 1:=⟨d - 1,by omega⟩
  rw [of_int.1 ai,of_int.1 a4,run_equalIn_int W d t .i64 K x y h]
  congr 1
theorem TB {P t K} (h:P.underlying t=some (.int K)):mf P t (BitVec 64) 1 where
 run d hd A W u v x y ai a4:=by
  obtain⟨d,rfl⟩:∃ e,d=e + 1:=⟨d - 1,by omega⟩
  rw [hS.1 ai,hS.1 a4,run_equalIn_int W d t .u64 K _ _ h]
  congr 1
  rw [Bool.eq_iff_iff]; simp only [beq_iff_eq,decide_eq_true_eq]
  exact⟨fun h=>BitVec.eq_of_toNat_eq (by omega),fun h=>by rw [h]⟩
theorem SS {P t} (h:P.underlying t=some .bool):mf P t Bool 1 where
 run d hd A W u v x y ai a4:=by
  obtain⟨d,rfl⟩:∃ e,d=e + 1:=⟨d - 1,by omega⟩
  rw [of_bool.1 ai,of_bool.1 a4,run_equalIn_bool' W d t x y h]
  congr 1
theorem Fz {P:Program} {W:World} (f:Nat→Sem Bool) (p:Nat→Bool):∀ (l:List Nat),(∀ i∈l,(f i).run P W= .ok (p i) W)→
 (forIn (m:=Sem) l ((none,()):Option Bool × Unit) (fun i _=>do
  let __do_lift ← f i
  if (!__do_lift)=true then pure (ForInStep.done (some false,())) else
   pure (ForInStep.yield (none,())))).run P W= .ok (if l.all p then(none,()) else(some false,())) W
 | [],_=>by simp
 | i :: r,h=>by
   have J:=h i (by simp)
   have aa:=Fz (P:=P) (W:=W) f p r (fun j aB=>h j (by simp [aB]))
   cases hp:p i with
   | false=>simp [List.forIn_cons,J,hp]
   | true=>
     rw [List.forIn_cons]
     simp only [Sem.run_bind,J,hp,Result.andThen_ok,Bool.not_true,Bool.false_eq_true,if_false,Sem.run_pure]
     rw [aa]
     simp [hp]
theorem L8 {P t e n k} {α:Type} [ae α] [Inhabited α] [DecidableEq α] (h:P.underlying t=some (.array n e)) (eG:bs P e α) (he:mf P e α k):mf P t (Vector α n) (k + 1) where
 run d hd A W u v x y ai a4:=by
  obtain⟨d,rfl⟩:∃ e,d=e + 1:=⟨d - 1,by omega⟩
  obtain⟨J,aa⟩:=ai
  obtain⟨av,aO⟩:=a4
  obtain⟨xs,rfl⟩:∃ cs,u= .agg cs:=by simpa [shaped,ae.agg] using J
  obtain⟨ys,rfl⟩:∃ cs,v= .agg cs:=by simpa [shaped,ae.agg] using av
  simp only [Value.cells] at aa aO
  have sx:xs.toList.length=n * ae.size α:=ae.len aa
  have AZ:ys.toList.length=n * ae.size α:=ae.len aO
  have pd:∀ i∈List.range' 0 n,((do
   let a ← part e xs (i * ae.size α)
   let b ← part e ys (i * ae.size α)
   Op.equalIn d e a b):Sem Bool).run P W= .ok (decide (bB x i=bB y i)) W:=by
   intro i ao
   have fO:i < n:=by simpa using ao
   have dQ:i * ae.size α + ae.size α≤n * ae.size α:=(aP.idx (α:=α) n i fO).fZ
   obtain⟨a,a9,sy⟩:=qC (A:=A) (P:=P) (W:=W) (cs:=xs) (off:=i * ae.size α) eG (by simp at sx; omega) ((aP.idx (α:=α) n i fO).h3 aa)
   obtain⟨b,hb,A0⟩:=qC (A:=A) (P:=P) (W:=W) (cs:=ys) (off:=i * ae.size α) eG (by simp at AZ; omega) ((aP.idx (α:=α) n i fO).h3 aO)
   simp only [Sem.run_bind,a9,hb,Result.andThen_ok]
   exact he.run d (by omega) A W a b _ _ sy A0
  have aV:=Fz (P:=P) (W:=W) _ _ _ pd
  have kx:(List.range' 0 n).all (fun i=>decide (bB x i=bB y i))=decide (x=y):=by
   rw [Bool.eq_iff_iff,List.all_eq_true,decide_eq_true_eq]
   constructor
   ·intro h
    apply Vector.ext
    intro i ao
    have:=h i (by simpa using ao)
    simpa [bB,ao] using this
   ·rintro rfl i _
    simp
  rw [kx] at aV
  simp only [Op.equalIn,Sem.run_bind,run_underlying h,Result.andThen_ok,eG.sizeOf,Std.Legacy.Range.forIn_eq_forIn_range']
  simp only [Std.Legacy.Range.size,Nat.sub_zero,Nat.add_one_sub_one,Nat.div_one] at aV ⊢
  simp only [bind_assoc] at aV
  rw [aV]
  by_cases A1:x=y
  ·simp [A1]
  ·simp [A1]
section
variable {c:cY} {E:List (Nat × I)} {L:List aI} {ops:Array Oper} {Q:Exit→Act→World→Prop}
variable {d:Option Tmp} {ty:TypeId} {pos:String} {af:Array Edge} {g:Option (Nat × Bool)} {x y:Operand} {t t2:TypeId}
theorem zU {α:Type} [ae α] [DecidableEq α] {k:Nat} {a b:α} (wX:mf c.P t α k) (ar:Nat.ble k 10000=true) (bg:c.P.eqGuardType c.P.depth t=false) (a9:ae.agg α=true) (ai:a8 c E L x (.of a)) (a4:a8 c E L y (.of b)):
 bO c E L ⟨d,.binOp .eql t x y t2,ty,pos,af,g⟩ (.of (decide (a=b))):= .pure fun A W s=>by
 have J:=ai A W s
 have aa:=a4 A W s
 obtain⟨xs,g7⟩:∃ cs,A.eval x= .agg cs:=by simpa [shaped,a9] using J.1
 obtain⟨ys,uj⟩:∃ cs,A.eval y= .agg cs:=by simpa [shaped,a9] using aa.1
 have av:=wX.run 10000 (Nat.le_of_ble_eq_true ar) _ W _ _ a b J aa
 rw [g7,uj] at av
 refine⟨.bool (decide (a=b)),?_,of_bool.2 rfl⟩
 simp only [execOp,g7,uj,Sem.run_bind,run_eqGuard_agg W .eql t x y xs ys bg,Result.andThen_ok,run_eql_struct,av,Sem.run_pure]
theorem VC {α:Type} [ae α] [DecidableEq α] {k:Nat} {a b:α} (wX:mf c.P t α k) (ar:Nat.ble k 10000=true) (bg:c.P.eqGuardType c.P.depth t=false) (a9:ae.agg α=true) (ai:a8 c E L x (.of a)) (a4:a8 c E L y (.of b)):
 bO c E L ⟨d,.binOp .neq t x y t2,ty,pos,af,g⟩ (.of (!decide (a=b))):= .pure fun A W s=>by
 have J:=ai A W s
 have aa:=a4 A W s
 obtain⟨xs,g7⟩:∃ cs,A.eval x= .agg cs:=by simpa [shaped,a9] using J.1
 obtain⟨ys,uj⟩:∃ cs,A.eval y= .agg cs:=by simpa [shaped,a9] using aa.1
 have av:=wX.run 10000 (Nat.le_of_ble_eq_true ar) _ W _ _ a b J aa
 rw [g7,uj] at av
 refine⟨.bool (!decide (a=b)),?_,of_bool.2 rfl⟩
 simp only [execOp,g7,uj,Sem.run_bind,run_eqGuard_agg W .neq t x y xs ys bg,Result.andThen_ok,run_neq_struct,av,Sem.run_pure]
end
theorem L9 {P:Program} {W:World} {d:Nat} {xs ys:Array Value} :(Op.eqFields d xs ys []).run P W= .ok true W:=rfl
theorem u7 {P:Program} {A:List Nat} {W:World} {d:Nat} {xs ys:Array Value} {β γ:Type} [ae β] [ae γ] [DecidableEq γ] (l:aP β γ) {Jt Ju:β} {fd:Field} {fs:List Field} {k:Nat} {r:Bool} (eG:bs P fd.type γ) (a6:fd.offset=l.off) (aF:(fd.name == "_")=false)
 (wX:mf P fd.type γ k) (hd:k≤d) (ai:ae.rep A W xs.toList Jt) (a4:ae.rep A W ys.toList Ju) (aD:(Op.eqFields d xs ys fs).run P W= .ok r W):
 (Op.eqFields d xs ys (fd :: fs)).run P W= .ok (decide (l.get Jt=l.get Ju) && r) W:=by
 have sx:xs.toList.length=ae.size β:=ae.len ai
 have AZ:ys.toList.length=ae.size β:=ae.len a4
 have dQ:=l.fZ
 obtain⟨a,a9,sy⟩:=qC (A:=A) (P:=P) (W:=W) (cs:=xs) (off:=l.off) eG (by simp at sx; omega) (l.h3 ai)
 obtain⟨b,hb,A0⟩:=qC (A:=A) (P:=P) (W:=W) (cs:=ys) (off:=l.off) eG (by simp at AZ; omega) (l.h3 a4)
 have sA:fd.name≠ "_" :=fun e=>by rw [e] at aF; simp at aF
 simp only [Op.eqFields,if_pos sA,Sem.run_bind,a6,a9,hb,Result.andThen_ok,wX.run d hd A W a b _ _ sy A0]
 by_cases h:l.get Jt=l.get Ju
 ·simp [h,aD]
 ·simp [h]
theorem KI {P:Program} {t:TypeId} {β:Type} [ae β] [DecidableEq β] {k:Nat} {fs:Array Field} (a9:ae.agg β=true) (hu:P.underlying t=some (.struct fs)) (hp:P.stoodInHeld t=false)
 (h:∀ d,k≤d→ ∀ A W (xs ys:Array Value) (x y:β),ae.rep A W xs.toList x→ae.rep A W ys.toList y→ (Op.eqFields d xs ys fs.toList).run P W= .ok (decide (x=y)) W):mf P t β (k + 1) where
 run d hd A W u v x y ai a4:=by
  obtain⟨d,rfl⟩:∃ e,d=e + 1:=⟨d - 1,by omega⟩
  obtain⟨xs,rfl⟩:∃ cs,u= .agg cs:=by simpa [shaped,a9] using ai.1
  obtain⟨ys,rfl⟩:∃ cs,v= .agg cs:=by simpa [shaped,a9] using a4.1
  have aV:P.fieldsOf t=fs:=by simp [Program.fieldsOf,hu]
  rw [run_equalIn_struct W d t xs ys (by rw [aV]; exact hu) hp,aV]
  exact h d (by omega) A W xs ys x y (by simpa [Value.cells] using ai.2) (by simpa [Value.cells] using a4.2)
theorem Kj {P:Program} {W:World} (fs:Array Field) (h:fs.all (fun f=>(P.info? f.type).isSome)=true):
 (fs.mapM (m:=Sem) fun f=>do pure (f.offset,← Go.sizeOf f.type)).run P W= .ok (fs.map fun f=>(f.offset,P.cellsOf f.type)) W:=by
 obtain⟨l⟩:=fs
 have key:∀ (l:List Field),l.all (fun f=>(P.info? f.type).isSome)=true→ (l.mapM (m:=Sem) fun f=>do pure (f.offset,← Go.sizeOf f.type)).run P W= .ok (l.map fun f=>(f.offset,P.cellsOf f.type)) W:=by
  intro l
  induction l with
  | nil=>intro _; rfl
  | cons f r bD=>
    intro h
    simp only [List.all_cons,Bool.and_eq_true] at h
    obtain⟨i,ao⟩:=Option.isSome_iff_exists.1 h.1
    rw [List.mapM_cons]
    simp only [Sem.run_bind,Go.sizeOf,typeInfo,run_program,Result.andThen_ok,ao,Sem.run_pure]
    have:=bD h.2
    simp only [Sem.run_bind,Go.sizeOf,typeInfo] at this
    rw [this]
    simp [Program.cellsOf,ao]
 have cS:l.all (fun f=>(P.info? f.type).isSome)=true:=by simpa using h
 rw [List.mapM_toArray]
 simp only [Sem.run_map,key l cS,Result.andThen_ok]
 simp
theorem Rv (ds:List Value) (off:Nat):∀ (j:Nat) (cs:Array Value),off + j + ds.length≤cs.size→
 (ds.zipIdx j).foldl (fun cs (c,j)=>cs.setIfInBounds (off + j) c) cs=(cs.toList.take (off + j) ++ ds ++ cs.toList.drop (off + j + ds.length)).toArray:=by
 induction ds with
 | nil=>intro j cs _; simp
 | cons v r bD=>
   intro j cs h
   simp only [List.length_cons] at h
   rw [List.zipIdx_cons,List.foldl_cons,bD (j + 1) _ (by simp; omega)]
   simp only [Array.toList_setIfInBounds]
   have:=list_seg_step cs.toList (off + j) v r (by simp; omega)
   rw [show off + (j + 1)=off + j + 1 by omega]
   simp only [List.length_cons]
   rw [this]
theorem CP {place:Nat→Option (Nat × Nat)} {cs:Array Value} {i off sz:Nat} {v:Value} {rest:List (Nat × Value)} (hp:place i=some (off,sz)) (a3:v.cells.size=sz) (hle:off + sz≤cs.size):
 Instr.fill place cs ((i,v) :: rest)=Instr.fill place (fR cs.toList off v.cells.toList).toArray rest:=by
 simp only [Instr.fill,hp]
 rw [if_neg (by simp [a3]; omega)]
 have:=Rv v.cells.toList off 0 cs (by simp [a3]; omega)
 simp only [Nat.add_zero] at this
 congr 1
 rw [← Array.foldl_toList]
 have dc:(v.cells.zipIdx).toList=v.cells.toList.zipIdx:=by simp
 rw [dc,this]
 simp [fR]
section
variable {c:cY} {E:List (Nat × I)} {L:List aI} {ops:Array Oper} {Q:Exit→Act→World→Prop}
variable {d:Option Tmp} {ty:TypeId} {pos:String} {af:Array Edge} {g:Option (Nat × Bool)} {x y:Operand} {t t2:TypeId}
inductive qQ (c:cY) (E:List (Nat × I)) (L:List aI) (place:Nat→Option (Nat × Nat)) {β:Type} [ae β]:β→List (Nat × Operand)→β→Prop
 | nil {b} :qQ c E L place b [] b
 | cons {b c4 b':β} {γ:Type} [ae γ] {v:γ} {i:Nat} {x:Operand} {r:List (Nat × Operand)} (l:aP β γ):place i=some (l.off,ae.size γ)→a8 c E L x (.of v)→l.set b v=c4→qQ c E L place c4 r b'→qQ c E L place b ((i,x) :: r) b'
theorem qQ.run {place:Nat→Option (Nat × Nat)} {β:Type} [ae β] {b b':β} {bo:List (Nat × Operand)} (h:qQ c E L place b bo b'):∀ a W,bC c E L a W→ ∀ cs:Array Value,ae.rep (aK L ++ c.bL) W cs.toList b→
 ∃ dM,Instr.fill place cs (bo.map fun(i,x)=>(i,a.eval x))=some dM∧ae.rep (aK L ++ c.bL) W dM.toList b':=by
 induction h with
 | nil=>intro a W s cs aD; exact⟨cs,rfl,aD⟩
 | @cons b c4 b' γ _ v i x r l J aa av _ bD=>
   intro a W s cs aD
   subst av
   have a3:=aa a W s
   have eB:(a.eval x).cells.size=ae.size γ:=by have:=ae.len a3.2; simpa using this
   have an:cs.toList.length=ae.size β:=ae.len aD
   have dQ:=l.fZ
   rw [List.map_cons,CP J eB (by simp at an; omega)]
   refine bD a W s _ ?_
   have:=l.k6 aD a3.2
   simpa [fR,ae.len a3.2] using this
structure hB (P:Program) (t:TypeId) (pl:Array (Nat × Nat)):Prop where
 at_:∃ fs,P.underlying t=some (.struct fs)∧fs.all (fun f=>(P.info? f.type).isSome)=true∧ (fs.map fun f=>(f.offset,P.cellsOf f.type))=pl
theorem c2 {β:Type} [ae β] {z b:β} {bo:List (Nat × Operand)} {pl:Array (Nat × Nat)} (a9:ae.agg β=true) (BD:hB c.P t pl) (gC:cz c.P t z)
 (aV:qQ c E L (pl[·]?) z bo b):bO c E L ⟨d,.build t bo.toArray,ty,pos,af,g⟩ (.of b):= .pure fun a W s=>by
 obtain⟨fs,hu,hs,rfl⟩:=BD.at_
 obtain⟨i,dK,J,aa,av⟩:=gC.zero
 obtain⟨dM,aO,aS⟩:=aV.run a W s dK.cells (av _ _).2
 refine⟨.agg dM,?_,by simp [shaped,a9],by simpa [Value.cells] using aS⟩
 have hm:(bo.toArray.map fun(x:Nat × Operand)=>(x.1,a.eval x.2)).toList=bo.map fun(i,x)=>(i,a.eval x):=by simp
 simp only [execOp,Instr.build,Sem.run_bind,zeroValue,typeInfo,run_program,Result.andThen_ok,J,aa,Sem.run_pure,run_underlying hu,Kj fs hs]
 rw [hm,aO]
 rfl
theorem Lt {β:Type} [ae β] {z b:β} {bo:List (Nat × Operand)} {n e sz:Nat} (a9:ae.agg β=true) (hu:c.P.underlying t=some (.array n e)) (hs:(c.P.info? e).map (·.size)=some sz) (gC:cz c.P t z)
 (aV:qQ c E L (fun i=>some (i * sz,sz)) z bo b):bO c E L ⟨d,.build t bo.toArray,ty,pos,af,g⟩ (.of b):= .pure fun a W s=>by
 obtain⟨i,dK,J,aa,av⟩:=gC.zero
 obtain⟨fU,ef,eB⟩:∃ fU,c.P.info? e=some fU∧fU.size=sz:=by
  cases ao:c.P.info? e with
  | none=>simp [ao] at hs
  | some fU=>exact⟨fU,rfl,by simpa [ao] using hs⟩
 obtain⟨dM,aO,aS⟩:=aV.run a W s dK.cells (av _ _).2
 refine⟨.agg dM,?_,by simp [shaped,a9],by simpa [Value.cells] using aS⟩
 have hm:(bo.toArray.map fun(x:Nat × Operand)=>(x.1,a.eval x.2)).toList=bo.map fun(i,x)=>(i,a.eval x):=by simp
 simp only [execOp,Instr.build,Sem.run_bind,zeroValue,typeInfo,run_program,Result.andThen_ok,J,aa,Sem.run_pure,run_underlying hu,Go.sizeOf,ef,eB]
 rw [hm,aO]
 rfl
end
def n6 {α:Type} [ae α] (A:List Nat) (W:World) (v:Value) (xs:List α):Prop:=
 (v= .slice none 0 0∧xs= [])∨
 ∃ b off cap cur T gQ,v= .slice (some ⟨b,off,none⟩) xs.length cap∧b ∉ A∧W.heap[b]? =some (.cells cur T gQ)∧xs.length≤cap∧xs.length≤maxLen∧off + xs.length * ae.size α≤cur.size∧
   gw A W ((cur.toList.drop off).take (xs.length * ae.size α)) xs
theorem n6.mono {α:Type} [ae α] {A W c1 W' v} {xs:List α} (e:Ext A W c1 W') (h:n6 A W v xs):n6 c1 W' v xs:=by
 rcases h with h | ⟨b,off,cap,cur,T,gQ,J,aa,av,aO,aS,aY,b7⟩
 ·exact .inl h
 ·have bY:b < W.heap.size:=(Array.getElem?_eq_some_iff.1 av).1
  exact .inr ⟨b,off,cap,cur,T,gQ,J,fun hm=>aa (e.new b hm bY),by rw [e.block b bY aa]; exact av,aO,aS,aY,b7.mono e⟩
instance aau {α:Type} [ae α]:ae (List α) where
 size:=1
 agg:=false
 rep A W cs xs:= ∃ v,cs= [v]∧n6 A W v xs
 len h:=by obtain⟨v,rfl,_⟩:=h; rfl
 one h:=by
  obtain⟨v,rfl,h⟩:=h
  intro u hu
  rw [List.mem_singleton.1 hu]
  rcases h with⟨rfl,_⟩ | ⟨b,off,cap,cur,T,gQ,rfl,_⟩ <;> rfl
 flat _:=rfl
 mono e h:=let⟨v,J,aa⟩:=h; ⟨v,J,aa.mono e⟩
theorem n6.one {α:Type} [ae α] {A W v} {xs:List α} (h:n6 A W v xs):v.oneCell'=true:=by
 rcases h with⟨rfl,_⟩ | ⟨b,off,cap,cur,T,gQ,rfl,_⟩ <;> rfl
theorem m9 {α:Type} [ae α] {A W v} {xs:List α} :(I.of xs).holds A W v↔n6 A W v xs:=by
 constructor
 ·rintro ⟨J,u,aa,av⟩
  have:v=u:=od J aa
  rw [this]; exact av
 ·intro h
  exact⟨h.one,v,by rw [oe h.one],h⟩
def aJ {α:Type} [Inhabited α] (xs:List α) (k:Nat):α:=xs[k]?.getD default
theorem gh {α:Type} [Inhabited α] (xs:List α) {k:Nat} (h:k < xs.length):aJ xs k=xs[k]:=by simp [aJ,h]
def rU {α:Type} (xs:List α) (lo ao:Int):Option (List α):=if 0≤lo∧lo≤ao∧ao≤xs.length then some ((xs.drop lo.toNat).take (ao.toNat - lo.toNat)) else none
theorem Rw {α:Type} {xs r:List α} {lo ao:Int} (h:rU xs lo ao=some r):∃ a b:Nat,lo=a∧ao=b∧a≤b∧b≤xs.length∧r=(xs.drop a).take (b - a):=by
 unfold rU at h
 split at h
 ·rename_i ag
  simp only [Option.some.injEq] at h
  exact⟨lo.toNat,ao.toNat,by omega,by omega,by omega,by omega,h.symm⟩
 ·cases h
def iI {α:Type} (bytes:Nat) (xs ys:List α):Option (List α):=if (xs.length + ys.length) * bytes≤140737488355328∧xs.length + ys.length≤maxLen then some (xs ++ ys) else none
theorem K4 {α:Type} {bytes:Nat} {xs ys r:List α} (h:iI bytes xs ys=some r):(xs.length + ys.length) * bytes≤140737488355328∧xs.length + ys.length≤maxLen∧r=xs ++ ys:=by
 unfold iI at h
 split at h
 ·rename_i ag; simp only [Option.some.injEq] at h; exact⟨ag.1,ag.2,h.symm⟩
 ·cases h
section
variable {c:cY} {E:List (Nat × I)} {L:List aI} {ops:Array Oper} {Q:Exit→Act→World→Prop}
variable {d:Option Tmp} {ty:TypeId} {pos:String} {af:Array Edge} {g:Option (Nat × Bool)} {x y:Operand} {t t2:TypeId}
theorem look_nil {α:Type} [ae α]:a8 c E L (.const (.slice none 0 0)) (.of ([]:List α)):=fun _ _ _=>m9.2 (.inl ⟨rfl,rfl⟩)
theorem n6.len {α:Type} [ae α] {A W v} {xs:List α} (h:n6 A W v xs):∃ a cap,v= .slice a xs.length cap:=by
 rcases h with⟨rfl,rfl⟩ | ⟨b,off,cap,cur,T,gQ,rfl,_⟩
 ·exact⟨none,0,rfl⟩
 ·exact⟨_,_,rfl⟩
theorem iq {α:Type} [ae α] {xs:List α} {e:TypeId} (hu:c.P.underlying t=some (.slice e)) (ai:a8 c E L x (.of xs)):bO c E L ⟨d,.call ⟨.builtin .len,#[x],#[t]⟩,ty,pos,af,g⟩ (.of (xs.length:Int)):= .pure fun a W s=>by
 obtain⟨b,cap,J⟩:=(m9.1 (ai a W s)).len
 exact⟨.int .i64 xs.length,by simp [execOp,resolve,invoke,builtin,Builtin.len_,J,run_underlying hu,goInt],of_int.2 rfl⟩
theorem r1 {α:Type} [ae α] [Inhabited α] {xs:List α} {e:TypeId} {i:Int} {k:Nat} (hu:c.P.underlying t=some (.slice e)) (eG:bs c.P e α) (ai:a8 c E L x (.of xs)) (a4:a8 c E L y (.of i)) (ar:k < xs.length∧i=k):
 bO c E L ⟨d,.indexAddr t x y,ty,pos,af,g⟩ (.ptr (aJ xs k)):= .pure fun a W s=>by
 obtain⟨aY,rfl⟩:=ar
 have aS:=of_int.1 (a4 a W s)
 rcases m9.1 (ai a W s) with⟨_,rfl⟩ | ⟨b,off,cap,cur,T,gQ,J,aa,av,aO,b7,dV,eQ⟩
 ·simp at aY
 ·obtain⟨fU,ef,eB⟩:=eG.info
  have hle:(k + 1) * ae.size α≤xs.length * ae.size α:=Nat.mul_le_mul_right _ aY
  rw [Nat.succ_mul] at hle
  refine⟨.pointer (some ⟨b,off + k * ae.size α,none⟩),?_,b,off + k * ae.size α,cur,T,gQ,rfl,aa,av,by omega,?_⟩
  ·simp [execOp,Instr.indexAt,asIntOf,run_underlying hu,J,aS,aY,Go.sizeOf,typeInfo,ef,eB,jc]
  ·have:=eQ.2 k aY
   rw [uV _ _ _ _ _ hle] at this
   rw [gh xs aY]
   exact this
theorem o0 {P:Program} {W:World} {v:Value} {k:IntKind} {n m:Nat} {code:BoundsCode} (h:n≤m) (a3:v= .int k n):(Instr.sliceBound v m code).run P W= .ok n W:=by
 subst a3
 have bA:(n:Int)≤ (m:Int):=by omega
 simp [Instr.sliceBound,asIntOf,h]
theorem TC {α:Type} [ae α] {A W} {xs:List α} {b off cap:Nat} {cur:Array Value} {T:TypeId} {gQ:Nat × Nat} {lo ao:Nat} (aa:b ∉ A) (av:W.heap[b]? =some (.cells cur T gQ)) (aO:xs.length≤cap) (b7:xs.length≤maxLen)
 (dV:off + xs.length * ae.size α≤cur.size) (eQ:gw A W ((cur.toList.drop off).take (xs.length * ae.size α)) xs) (h:lo≤ao) (cS:ao≤xs.length):
 n6 A W (.slice (some (if cap=lo then⟨b,off,none⟩ else⟨b,off + lo * ae.size α,none⟩)) (ao - lo) (cap - lo)) ((xs.drop lo).take (ao - lo)):=by
 have an:((xs.drop lo).take (ao - lo)).length=ao - lo:=by simp; omega
 have hm:ao * ae.size α≤xs.length * ae.size α:=Nat.mul_le_mul_right _ cS
 have mc:lo * ae.size α≤ao * ae.size α:=Nat.mul_le_mul_right _ h
 have hd:(ao - lo) * ae.size α=ao * ae.size α - lo * ae.size α:=Nat.sub_mul _ _ _
 by_cases e:cap=lo
 ·subst e
  have bA:ao=cap:=by omega
  subst bA
  refine .inr ⟨b,off,ao - ao,cur,T,gQ,by simp,aa,av,by simp,by simp,by simp; omega,?_⟩
  simp only [Nat.sub_self,List.take_zero,List.length_nil,Nat.zero_mul]
  exact⟨by simp,fun i ao=>by simp at ao⟩
 ·rw [if_neg e]
  refine .inr ⟨b,off + lo * ae.size α,cap - lo,cur,T,gQ,by rw [an],aa,av,by omega,by omega,by rw [an]; omega,?_⟩
  rw [an]
  refine⟨by simp only [an,List.length_take,List.length_drop]; simp; omega,fun i fO=> ?_⟩
  rw [an] at fO
  have iz:=eQ.2 (lo + i) (by omega)
  have hle:(lo + i + 1) * ae.size α≤xs.length * ae.size α:=Nat.mul_le_mul_right _ (by omega)
  have D7:(i + 1) * ae.size α≤ (ao - lo) * ae.size α:=Nat.mul_le_mul_right _ (by omega)
  rw [Nat.succ_mul] at hle D7
  rw [uV _ _ _ _ _ hle] at iz
  rw [uV _ _ _ _ _ D7]
  have:((xs.drop lo).take (ao - lo))[i]'(by rw [an]; exact fO)=xs[lo + i]:=by simp
  rw [this]
  rw [show off + lo * ae.size α + i * ae.size α=off + (lo + i) * ae.size α by rw [Nat.add_mul]; omega]
  exact iz
inductive uv (c:cY) (E:List (Nat × I)) (L:List aI):Option Operand→Int→Int→Prop
 | none {n} :uv c E L .none n n
 | some {x i n} :a8 c E L x (.of (i:Int))→uv c E L (.some x) i n
theorem Gl {α:Type} [ae α] {xs r:List α} {e:TypeId} {lo ao:Option Operand} {i j:Int} (hu:c.P.underlying t=some (.slice e)) (eG:bs c.P e α) (ai:a8 c E L x (.of xs)) (fA:uv c E L lo i 0) (df:uv c E L ao j xs.length)
 (h:rU xs i j=some r):bO c E L ⟨d,.slice t x lo ao none,ty,pos,af,g⟩ (.of r):= .pure fun a W s=>by
 obtain⟨m,n,rfl,rfl,qZ,aF,rfl⟩:=Rw h
 obtain⟨fU,ef,eB⟩:=eG.info
 rcases m9.1 (ai a W s) with⟨J,rfl⟩ | ⟨b,off,cap,cur,T,gQ,J,aa,av,aO,b7,dV,eQ⟩
 ·have q5:n=0:=by simpa using aF
  have fi:m=0:=by omega
  subst q5
  subst fi
  refine⟨.slice none 0 0,?_,m9.2 (.inl ⟨rfl,by simp⟩)⟩
  have aq:(match lo.map a.eval with | some v=>Instr.sliceBound v 0 .sliceB | none=>pure 0:Sem Nat).run c.P W= .ok 0 W:=by
   cases fA with
   | none=>rfl
   | some an=>exact o0 (Nat.le_refl _) (of_int.1 (an a W s))
  have jE:(match ao.map a.eval,(none:Option Value) with | some v,some _=>Instr.sliceBound v 0 .slice3B | some v,none=>Instr.sliceBound v 0 .sliceAcap | none,none=>pure 0 | none,some _=>stuck "Slice: max without high" :Sem Nat).run c.P W= .ok 0 W:=by
   cases df with
   | none=>rfl
   | some an=>exact o0 (Nat.le_refl _) (of_int.1 (an a W s))
  cases fA <;> cases df
  all_goals
   simp only [execOp,Instr.sliceAt,Instr.slice,Instr.sliceBounds,J,Sem.run_bind,run_underlying hu,Result.andThen_ok,Option.map_none,Option.map_some,Option.isSome_none,Bool.false_eq_true,if_false,if_true,Sem.run_pure] at aq jE ⊢
   try simp only [aq,jE,Result.andThen_ok,Go.sizeOf,typeInfo,Sem.run_bind,run_program,ef,Sem.run_pure]
   try simp [ef]
 ·refine⟨.slice (some (if cap=m then⟨b,off,none⟩ else⟨b,off + m * ae.size α,none⟩)) (n - m) (cap - m),?_,m9.2 (TC aa av aO b7 dV eQ qZ aF)⟩
  have aq:∀ v,v=Value.int .i64 m→ (Instr.sliceBound v n .sliceB).run c.P W= .ok m W:=fun v a3=>o0 qZ a3
  have jE:∀ v,v=Value.int .i64 n→ (Instr.sliceBound v cap .sliceAcap).run c.P W= .ok n W:=fun v a3=>o0 (by omega) a3
  have Oz:(if cap=m then(some ⟨b,off,none⟩:Option Addr) else(some (Addr.add ⟨b,off,none⟩ (m * ae.size α))))=some (if cap=m then⟨b,off,none⟩ else⟨b,off + m * ae.size α,none⟩):=by
   split <;> simp [jc]
  generalize dQ:(n:Int)=Pv at df
  generalize A2:(m:Int)=Pw at fA
  generalize wx:(xs.length:Int)=Px at df
  generalize OX:(0:Int)=Py at fA
  cases fA with
  | none=>
    have fi:m=0:=by omega
    cases df with
    | none=>
      have lI:n=xs.length:=by omega
      subst lI
      subst fi
      simp [execOp,Instr.sliceAt,Instr.slice,Instr.sliceBounds,J,run_underlying hu,Go.sizeOf,typeInfo,ef,eB,jc]
    | some an=>
      have aS:=of_int.1 (an a W s)
      rw [← dQ] at aS
      have aY:=jE _ aS
      subst fi
      simp [execOp,Instr.sliceAt,Instr.slice,Instr.sliceBounds,J,run_underlying hu,Go.sizeOf,typeInfo,ef,eB,jc,aY]
  | some an=>
    have aS:=of_int.1 (an a W s)
    rw [← A2] at aS
    have aY:=aq _ aS
    cases df with
    | none=>
      have lI:n=xs.length:=by omega
      subst lI
      simp only [execOp,Instr.sliceAt,Instr.slice,Instr.sliceBounds,J,Sem.run_bind,run_underlying hu,Result.andThen_ok,Option.map_none,Option.map_some,Option.isSome_none,Bool.false_eq_true,if_false,if_true,Sem.run_pure,aY,Go.sizeOf,typeInfo,run_program,ef,eB]
      rw [← Oz]
    | some kX=>
      have OY:=of_int.1 (kX a W s)
      rw [← dQ] at OY
      have Zf:=jE _ OY
      simp only [execOp,Instr.sliceAt,Instr.slice,Instr.sliceBounds,J,Sem.run_bind,run_underlying hu,Result.andThen_ok,Option.map_none,Option.map_some,Option.isSome_none,Bool.false_eq_true,if_false,if_true,Sem.run_pure,aY,Zf,Go.sizeOf,typeInfo,run_program,ef,eB]
      rw [← Oz]
end
def bf:Option Nat→Nat→Nat→Value
 | some p,n,cap=> .slice (some ⟨p,0,none⟩) n cap
 | none,_,_=> .slice none 0 0
theorem Rx {L:List aI} {i:Nat} {cp:dF} :∀ k∈aK (L.set i ⟨none,cp⟩),∃ j e,j≠i∧L[j]? =some e∧e.key=some k:=by
 intro k ar
 obtain⟨e,he,uh⟩:=k8.1 ar
 obtain⟨j,aB⟩:=List.mem_iff_getElem?.1 he
 rw [List.getElem?_set] at aB
 split at aB
 ·split at aB
  ·simp only [Option.some.injEq] at aB; subst aB; cases uh
  ·cases aB
 ·rename_i cN
  exact⟨j,e,fun h=>cN h.symm,aB,uh⟩
theorem xg {L:List aI} {i:Nat} {cp:dF} :aK (L.set i ⟨none,cp⟩) |>.Sublist (aK L):=by
 induction L generalizing i with
 | nil=>simp [aK]
 | cons x r bD=>
   cases i with
   | zero=>
     cases ar:x.key with
     | none=>simp [aK,ar]
     | some p=>simp [aK,ar]
   | succ i=>
     cases ar:x.key with
     | none=>simpa [aK,ar] using bD
     | some p=>simpa [aK,ar] using bD
theorem bC.kill {c E L a W} (h:bC c E L a W) (i:Nat):bC c E (L.set i ⟨none,.dead⟩) a W:=by
 have kR:=xg (L:=L) (i:=i) (cp:= .dead)
 have ar:∀ k∈aK (L.set i ⟨none,.dead⟩),k∈aK L:=fun k ar=>kR.subset ar
 have gX:Ext (aK L ++ c.bL) W (aK (L.set i ⟨none,.dead⟩) ++ c.bL) W:= .drop fun k hm=>by
  rcases List.mem_append.1 hm with hm | hm
  ·exact List.mem_append.2 (.inl (ar k hm))
  ·exact List.mem_append.2 (.inr hm)
 exact
 {defers:=h.defers
  size:=h.size
  env:=fun t τ an=>let⟨v,J,aa⟩:=h.env t τ an; ⟨v,J,τ.mono gX aa⟩
  dw:=h.dw
  own:=fun e he=>by
   obtain⟨j,aB⟩:=List.mem_iff_getElem?.1 he
   rw [List.getElem?_set] at aB
   split at aB
   ·split at aB
    ·simp only [Option.some.injEq] at aB; subst aB; trivial
    ·cases aB
   ·have J:=h.own e (List.mem_of_getElem? aB)
    unfold aI.ok at *
    split at J
    ·obtain⟨o',a6,bS⟩:=J
     exact⟨o',a6,dF.mono _ gX bS⟩
    ·exact J
  nodup:=h.nodup.sublist kR
  lt:=fun k hm=>h.lt k (ar k hm)
  fK:=fun k hm=>h.fK k (ar k hm)
  ew:=fun k hm=>⟨(h.ew k hm).1,fun aa=>(h.ew k hm).2 (ar k aa)⟩ }
theorem bC.zq {c E L a W} (h:bC c E L a W) {i p:Nat} {cp:dF} (ao:L[i]? =some ⟨some p,cp⟩):p ∉ aK (L.set i ⟨none,.dead⟩) ++ c.bL:=by
 intro hm
 rcases List.mem_append.1 hm with hm | hm
 ·obtain⟨j,e,cN,aB,uh⟩:=Rx p hm
  exact cN (G1 h.nodup aB ao uh rfl)
 ·exact(h.ew p hm).2 (k8.2 ⟨_,List.mem_of_getElem? ao,rfl⟩)
theorem FE {α:Type} [ae α] {A W} {cs:Array Value} {xs:List α} {cap:Nat} (h:cs.size=cap * ae.size α) (aF:xs.length≤cap) (aD:gw A W (cs.toList.take (xs.length * ae.size α)) xs):
 0 + xs.length * ae.size α≤cs.size∧gw A W ((cs.toList.drop 0).take (xs.length * ae.size α)) xs:=by
 refine⟨?_,by simpa using aD⟩
 rw [h,Nat.zero_add]; exact Nat.mul_le_mul_right _ aF
section
variable {c:cY} {E:List (Nat × I)} {L:List aI} {ops:Array Oper} {Q:Exit→Act→World→Prop}
variable {d:Option Tmp} {ty:TypeId} {pos:String} {af:Array Edge} {g:Option (Nat × Bool)} {x y:Operand} {t t2:TypeId}
theorem bC.freeze {a:Act} {W:World} {α:Type} [ae α] {i s cap T:Nat} {key:Option Nat} {xs:List α} (h:bC c E L a W) (an:look E s=some (.eq (bf key xs.length cap))) (aq:L[i]? =some ⟨key,.row T xs cap⟩):
 bC c ((s,.of xs) :: E) (L.set i ⟨none,.dead⟩) a W:=by
 have ar:=h.kill i
 refine { ar with env:=fun t τ eT=> ?_ }
 simp only [look] at eT
 by_cases e:Nat.beq s t=true
 ·rw [e] at eT
  simp only [cond_true,Option.some.injEq] at eT
  subst eT
  have:=ec.1 e
  subst this
  obtain⟨v,J,aa⟩:=h.env s _ an
  refine⟨v,J,m9.2 ?_⟩
  have ji:v=bf key xs.length cap:=aa
  subst ji
  have a6:=h.own _ (List.mem_of_getElem? aq)
  cases key with
  | none=>exact .inl ⟨rfl,a6.1⟩
  | some p=>
    obtain⟨o,eD,cs,rfl,eB,aF,wc,aD⟩:=a6
    obtain⟨av,aO⟩:=FE eB aF aD
    refine .inr ⟨p,0,cap,cs,T,(0,0),rfl,h.zq aq,eD,aF,by omega,av,?_⟩
    have kR:=xg (L:=L) (i:=i) (cp:= .dead)
    exact aO.mono (.drop fun k hm=>by
     rcases List.mem_append.1 hm with hm | hm
     ·exact List.mem_append.2 (.inl (kR.subset hm))
     ·exact List.mem_append.2 (.inr hm))
 ·simp only [Bool.not_eq_true] at e
  rw [e] at eT
  exact ar.env t τ eT
theorem ah.freeze {l:List Oper} {α:Type} [ae α] {key:Option Nat} {xs:List α} {cap T:Nat} (i s:Nat) (an:look E s=some (.eq (bf key xs.length cap))) (aq:L[i]? =some ⟨key,.row T xs cap⟩)
 (k:ah c ops Q l ((s,.of xs) :: E) (L.set i ⟨none,.dead⟩)):ah c ops Q l E L:=fun a W st=>k a W (st.freeze an aq)
theorem aj.freeze {x:Exit} {α:Type} [ae α] {key:Option Nat} {xs:List α} {cap T:Nat} (i s:Nat) (an:look E s=some (.eq (bf key xs.length cap))) (aq:L[i]? =some ⟨key,.row T xs cap⟩)
 (k:aj c Q x ((s,.of xs) :: E) (L.set i ⟨none,.dead⟩)):aj c Q x E L:=fun a W st=>k a W (st.freeze an aq)
theorem ak.freeze {code:Code} {α:Type} [ae α] {key:Option Nat} {xs:List α} {cap T:Nat} (i s:Nat) (an:look E s=some (.eq (bf key xs.length cap))) (aq:L[i]? =some ⟨key,.row T xs cap⟩)
 (k:ak c Q code ((s,.of xs) :: E) (L.set i ⟨none,.dead⟩)):ak c Q code E L:=fun a W st=>k a W (st.freeze an aq)
theorem bC.UB {a:Act} {W:World} {α:Type} [ae α] (T:TypeId) (h:bC c E L a W):bC c E (⟨none,.row T ([]:List α) 0⟩ :: L) a W:=
 {h with
  own:=fun e he=>by
   rcases List.mem_cons.1 he with rfl | he
   ·exact⟨rfl,rfl⟩
   ·exact h.own e he }
theorem ah.own {l:List Oper} {α:Type} [ae α] (T:TypeId) (k:ah c ops Q l E (⟨none,.row T ([]:List α) 0⟩ :: L)):ah c ops Q l E L:=fun a W st=>k a W (st.UB T)
theorem xn:a8 c E L (.const (.slice none 0 0)) (.eq (bf none 0 0)):=fun _ _ _=>rfl
theorem rR {key:Option Nat} {n cap:Nat} {e i T:Nat} {α:Type} [ae α] {xs:List α} (hu:c.P.underlying t=some (.slice e)) (ai:a8 c E L x (.eq (bf key n cap))) (aF:n=xs.length) (aq:L[i]? =some ⟨key,.row T xs cap⟩):bO c E L ⟨d,.call ⟨.builtin .len,#[x],#[t]⟩,ty,pos,af,g⟩ (.of (n:Int)):= .pure fun a W s=>by
 subst aF
 have J:a.eval x=_:=ai a W s
 have a6:=s.own _ (List.mem_of_getElem? aq)
 cases key with
 | none=>
   have:xs= []:=a6.1
   subst this
   exact⟨.int .i64 0,by simp [execOp,resolve,invoke,builtin,Builtin.len_,J,bf,run_underlying hu,goInt],of_int.2 rfl⟩
 | some p=>exact⟨.int .i64 xs.length,by simp [execOp,resolve,invoke,builtin,Builtin.len_,J,bf,run_underlying hu,goInt],of_int.2 rfl⟩
theorem gw.one {α:Type} [ae α] {A W} {cs:List Value} {xs:List α} (h:gw A W cs xs):∀ u∈cs,u.oneCell'=true:=by
 intro u hu
 obtain⟨j,aB⟩:=List.mem_iff_getElem?.1 hu
 have bY:=(List.getElem?_eq_some_iff.1 aB).1
 have J:=h.1
 by_cases hs:ae.size α=0
 ·rw [hs,Nat.mul_zero] at J; omega
 ·have hp:0 < ae.size α:=Nat.pos_of_ne_zero hs
  have ao:j / ae.size α < _:=(Nat.div_lt_iff_lt_mul hp).2 (by rw [J] at bY; exact bY)
  refine ae.one (h.2 _ ao) u (List.mem_iff_getElem?.2 ⟨j % ae.size α,?_⟩)
  rw [List.getElem?_take,if_pos (Nat.mod_lt _ hp),List.getElem?_drop,Nat.mul_comm,Nat.div_add_mod]
  exact aB
theorem tk {α:Type} [ae α] {A W} {cs ds:List Value} {xs ys:List α} (h:gw A W cs xs) (cS:gw A W ds ys):gw A W (cs ++ ds) (xs ++ ys):=by
 refine⟨by rw [List.length_append,h.1,cS.1,List.length_append,Nat.add_mul],fun i ao=> ?_⟩
 rw [List.length_append] at ao
 by_cases bY:i < xs.length
 ·have J:=h.2 i bY
  have hle:(i + 1) * ae.size α≤xs.length * ae.size α:=Nat.mul_le_mul_right _ bY
  rw [Nat.succ_mul] at hle
  have mg:=h.1
  rw [List.drop_append_of_le_length (by omega),List.take_append_of_le_length (by simp; omega)]
  rw [List.getElem_append_left bY]
  exact J
 ·have J:=cS.2 (i - xs.length) (by omega)
  have e:i * ae.size α=cs.length + (i - xs.length) * ae.size α:=by
   rw [h.1,← Nat.add_mul]; congr 1; omega
  rw [e,List.drop_append,List.drop_of_length_le (by omega),List.nil_append,show cs.length + (i - xs.length) * ae.size α - cs.length=(i - xs.length) * ae.size α by omega]
  rw [List.getElem_append_right (by omega)]
  exact J
theorem n6.cells {α:Type} [ae α] {A W v} {ys:List α} (h:n6 A W v ys):
 (v= .slice none 0 0∧ys= [])∨ ∃ (b off cap:Nat) (news:List Value),v= .slice (some ⟨b,off,none⟩) ys.length cap∧news.length=ys.length * ae.size α∧ (∀ (j:Nat) (u:Value),news[j]? =some u→W.cell? ((⟨b,off,none⟩:Addr).add j)=some u)∧
  (∀ u∈news,u.oneCell'=true)∧gw A W news ys:=by
 rcases h with h | ⟨b,off,cap,cur,T,gQ,J,aa,av,aO,aS,aY,b7⟩
 ·exact .inl h
 ·refine .inr ⟨b,off,cap,_,J,b7.1,fun j u hu=> ?_,fun u hu=> ?_,b7⟩
  ·rw [List.getElem?_take] at hu
   split at hu
   ·rw [jc,cell_of_row W b (off + j) cur T gQ av]
    rw [List.getElem?_drop] at hu
    simpa using hu
   ·cases hu
  ·exact b7.one u hu
theorem bC.grow {a:Act} {W:World} (h:bC c E L a W) {i:Nat} {jF:aI} (ao:L[i]? =some jF) {o:Obj} {cp:dF} (ag:cp.holds (aK L ++ c.bL) W o):
 bC c E (L.set i ⟨some W.heap.size,cp⟩) a (W.alloc o):=by
 have J:=h.alloc ag
 refine J.sub (fun e he=> ?_) ?_
 ·obtain⟨j,aB⟩:=List.mem_iff_getElem?.1 he
  rw [List.getElem?_set] at aB
  split at aB
  ·split at aB
   ·simp only [Option.some.injEq] at aB; subst aB; simp
   ·cases aB
  ·exact List.mem_cons_of_mem _ (List.mem_of_getElem? aB)
 ·have vW:W.heap.size ∉ aK L:=fun hm=>Nat.lt_irrefl _ (h.lt _ hm)
  have key:∀ (L:List aI) (i:Nat) (q:Nat),q ∉ aK L→ (aK L).Nodup→ (aK (L.set i ⟨some q,cp⟩)).Nodup∧ ∀ k∈aK (L.set i ⟨some q,cp⟩),k=q∨k∈aK L:=by
   intro L
   induction L with
   | nil=>intro i q _ aF; exact⟨by simpa using aF,by simp [aK]⟩
   | cons x r bD=>
     intro i q hq aF
     cases ai:x.key with
     | none=>
       have gN:q ∉ aK r:=by simpa [aK,ai] using hq
       have sA:(aK r).Nodup:=by simpa [aK,ai] using aF
       cases i with
       | zero=>exact⟨by simp only [List.set_cons_zero,aK]; exact List.nodup_cons.2 ⟨gN,sA⟩,fun k ar=>by
        simp only [List.set_cons_zero,aK,List.mem_cons] at ar; rcases ar with rfl | ar
        ·exact .inl rfl
        ·exact .inr (by simpa [aK,ai] using ar)⟩
       | succ i=>
         obtain⟨J,aa⟩:=bD i q gN sA
         exact⟨by simpa [aK,ai] using J,fun k ar=>by have:=aa k (by simpa [aK,ai] using ar); simpa [aK,ai] using this⟩
     | some p=>
       simp only [aK,ai,List.mem_cons,not_or] at hq
       simp only [aK,ai] at aF
       obtain⟨hp,sA⟩:=List.nodup_cons.1 aF
       cases i with
       | zero=>exact⟨by simp only [List.set_cons_zero,aK]; exact List.nodup_cons.2 ⟨hq.2,sA⟩,fun k ar=>by
        simp only [List.set_cons_zero,aK,List.mem_cons] at ar; rcases ar with rfl | ar
        ·exact .inl rfl
        ·exact .inr (by simp [aK,ai,ar])⟩
       | succ i=>
         obtain⟨J,aa⟩:=bD i q hq.2 sA
         refine⟨?_,fun k ar=> ?_⟩
         ·simp only [List.set_cons_succ,aK,ai]
          refine List.nodup_cons.2 ⟨fun hm=> ?_,J⟩
          rcases aa p hm with e | ye
          ·exact hq.1 e.symm
          ·exact hp ye
         ·simp only [List.set_cons_succ,aK,ai,List.mem_cons] at ar
          rcases ar with rfl | ar
          ·exact .inr (by simp [aK,ai])
          ·rcases aa k ar with e | ye
           ·exact .inl e
           ·exact .inr (by simp [aK,ai,ye])
  exact(key L i _ vW h.nodup).1
theorem Gz {α:Type} [ae α] {A W} {cs ds:List Value} {xs:List α} {T cap:Nat} (h:gw A W cs xs) (dc:ds.length=(cap - xs.length) * ae.size α) (aF:xs.length≤cap) (hm:cap≤maxLen) {arr:Array Value} (a9:arr.toList=cs ++ ds):
 (dF.row T xs cap).holds A W (.cells arr T (0,0)):=by
 refine⟨arr,rfl,?_,aF,hm,?_⟩
 ·have:arr.size=(cs ++ ds).length:=by rw [← a9]; simp
  rw [this,List.length_append,h.1,dc,← Nat.add_mul]; congr 1; omega
 ·rw [a9,← h.1,List.take_left]; exact h
theorem ah.app {α:Type} [ae α] {rest:List Oper} {a7 i e bytes cap:Nat} {key:Option Nat} {xs ys r:List α} {z:α} (hu:c.P.underlying t=some (.slice e)) (eG:bs c.P e α) (gC:cz c.P e z)
 (wy:(c.P.info? e).map (·.bytes)=some bytes) (hs:a8 c E L x (.eq (bf key xs.length cap))) (aq:L[i]? =some ⟨key,.row e xs cap⟩) (a4:a8 c E L y (.of ys)) (h:iI bytes xs ys=some r) (aF:Nat.blt a7 c.n=true)
 (k:∀ pR cap',ah c ops Q rest ((a7,.eq (bf pR r.length cap')) :: E) (L.set i ⟨pR,.row e r cap'⟩)):
 ah c ops Q (⟨some a7,.call ⟨.builtin .append,#[x,y],#[t,t]⟩,ty,pos,af,none⟩ :: rest) E L:=fun a W s=>by
 obtain⟨wi,ni,rfl⟩:=K4 h
 obtain⟨fU,dK,ef,dc,q6⟩:=gC.zero
 have nd:fU.size=ae.size α:=by
  obtain⟨i2,J,aa⟩:=eG.info
  rw [ef] at J; cases J; exact aa
 have G3:fU.bytes=bytes:=by simpa [ef] using wy
 have wz:dK.cells.size=ae.size α:=by have:=ae.len (q6 [] W).2; simpa using this
 subst G3
 have J:a.eval x=_:=hs a W s
 have a6:=s.own _ (List.mem_of_getElem? aq)
 have jn:a7 < c.n:=by simpa using aF
 have ur:=(m9.1 (a4 a W s)).cells
 have mc:maxLen=9223372036854775807:=rfl
 have main:∃ pR cap' W',(Builtin.append_ #[t,t] ty #[a.eval x,a.eval y]).run c.P W= .ok (bf pR (xs ++ ys).length cap') W'∧bC c E (L.set i ⟨pR,.row e (xs ++ ys) cap'⟩) a W':=by
  cases key with
  | none=>
    obtain⟨wA,oM⟩:xs= []∧cap=0:=a6
    subst wA
    subst oM
    have xP:L.set i ⟨none,.row e ([]:List α) 0⟩=L:=by
     obtain⟨bY,he⟩:=List.getElem?_eq_some_iff.1 aq
     rw [← he]; exact List.set_getElem_self bY
    rcases ur with⟨a3,rfl⟩ | ⟨b,off,cp,news,a3,q7,DS,yf,fL⟩
    ·refine⟨none,0,W,?_,by simpa [xP] using s⟩
     simp [J,a3,bf,Builtin.append_,run_underlying hu,Go.sizeOf,typeInfo,ef,Builtin.lenOf,Builtin.firstCells]
    ·by_cases hm:ys.length=0
     ·have:ys= []:=List.eq_nil_of_length_eq_zero hm
      subst this
      refine⟨none,0,W,?_,by simpa [xP] using s⟩
      simp [J,a3,bf,Builtin.append_,run_underlying hu,Go.sizeOf,typeInfo,ef,Builtin.lenOf,Builtin.firstCells,loadCells,loadCellsFrom]
     ·simp only [List.length_nil,Nat.zero_add] at wi ni
      have aD:=run_append_nil (P:=c.P) W t ty e fU dK hu ef dc ⟨b,off,none⟩ ys.length cp news (by rw [nd]; exact q7) DS (by omega) (by omega) (by omega)
      refine⟨some W.heap.size,grownCap W ys.length 0 e,_,by rw [J,a3]; simpa [bf] using aD,?_⟩
      have nn:=grownCap_ge W ys.length 0 e
      have hle:=grownCap_le_maxLen W ys.length 0 e ni
      have:=(s.world (Fr.drew W)).grow aq (o:= .cells (news.toArray ++ Builtin.zeroCells dK.cells (grownCap W ys.length 0 e - ys.length)) e) (cp:= .row e ([] ++ ys) (grownCap W ys.length 0 e))
       (Gz (T:=e) (fL.mono (Ext.dw (Fr.drew W))) (ds:=(Builtin.zeroCells dK.cells (grownCap W ys.length 0 e - ys.length)).toList) (by rw [Array.length_toList,size_zeroCells,wz]) nn hle (by simp))
      simpa using this
  | some p=>
    obtain⟨j0,eD,cs,rfl,eB,Zg,wc,Eu⟩:=a6
    have sB:a.eval x= .slice (some ⟨p,0,none⟩) xs.length cap:=J
    rcases ur with⟨a3,rfl⟩ | ⟨b,off,cp,news,a3,q7,DS,yf,fL⟩
    ·refine⟨some p,cap,W,?_,?_⟩
     ·simp [sB,a3,bf,Builtin.append_,run_underlying hu,Go.sizeOf,typeInfo,ef,Builtin.lenOf,Builtin.firstCells,storeCells,Zg]
     ·have:L.set i ⟨some p,.row e (xs ++ []) cap⟩=L:=by
       obtain⟨bY,he⟩:=List.getElem?_eq_some_iff.1 aq
       rw [List.append_nil,← he]; exact List.set_getElem_self bY
      rw [this]; exact s
    ·by_cases xM:xs.length + ys.length≤cap
     ·have D8:xs.length * fU.size + news.length≤cs.size:=by rw [nd,q7,eB,← Nat.add_mul]; exact Nat.mul_le_mul_right _ xM
      have aD:=run_append_room (P:=c.P) W t ty e fU hu ef p xs.length cap cs eD ⟨b,off,none⟩ ys.length cp news (by rw [nd]; exact q7) DS yf xM D8
      refine⟨some p,cap,_,by rw [sB,a3]; simpa [bf] using aD,?_⟩
      refine s.store aq eD ⟨_,rfl,?_,by simpa using xM,wc,?_⟩
      ·simp only [List.size_toArray,List.length_append,List.length_take,List.length_drop,Array.length_toList]; omega
      ·have an:(cs.toList.take (xs.length * fU.size)).length=xs.length * ae.size α:=by rw [nd]; exact Eu.1
       have xY:=tk Eu fL
       rw [nd]
       have hlen:(xs ++ ys).length * ae.size α=(cs.toList.take (xs.length * ae.size α) ++ news).length:=by rw [xY.1]
       have Pz:((cs.toList.take (xs.length * ae.size α) ++ news ++ cs.toList.drop (xs.length * ae.size α + news.length)).toArray).toList.take ((xs ++ ys).length * ae.size α)=cs.toList.take (xs.length * ae.size α) ++ news:=by
        rw [hlen]; exact List.take_left
       rw [List.append_assoc] at Pz
       rw [Pz]
       exact xY
     ·have holds:∀ (j:Nat) u,(cs.toList.take (xs.length * ae.size α))[j]? =some u→W.cell? ((⟨p,0,none⟩:Addr).add j)=some u:=by
       intro j u mh
       rw [List.getElem?_take] at mh
       split at mh
       ·rw [jc,Nat.zero_add,cell_of_row W p j cs e (0,0) eD]; simpa using mh
       ·cases mh
      have aD:=run_append_grow (P:=c.P) W t ty e fU dK hu ef dc ⟨p,0,none⟩ xs.length cap _ (by rw [nd]; exact Eu.1) holds ⟨b,off,none⟩ ys.length cp news (by rw [nd]; exact q7) DS (by omega) (by omega) (growslice_fits (by omega) wi)
      have nn:=grownCap_ge W (xs.length + ys.length) cap e
      have hle:=grownCap_le_maxLen W (xs.length + ys.length) cap e ni
      refine⟨some W.heap.size,grownCap W (xs.length + ys.length) cap e,_,by rw [sB,a3]; simpa [bf] using aD,?_⟩
      have xY:=(tk Eu fL).mono (Ext.dw (Fr.drew W))
      have:=(s.world (Fr.drew W)).grow aq (o:= .cells ((cs.toList.take (xs.length * ae.size α)).toArray ++ news.toArray ++ Builtin.zeroCells dK.cells (grownCap W (xs.length + ys.length) cap e - (xs.length + ys.length))) e)
       (cp:= .row e (xs ++ ys) (grownCap W (xs.length + ys.length) cap e))
       (Gz (T:=e) xY (ds:=(Builtin.zeroCells dK.cells (grownCap W (xs.length + ys.length) cap e - (xs.length + ys.length))).toList) (by rw [Array.length_toList,size_zeroCells,wz,List.length_append]) (by rw [List.length_append]; exact nn) hle (by simp))
      simpa using this
 obtain⟨pR,cap',W',jP,kf⟩:=main
 refine hO rfl (R:=fun v g2=>v=bf pR (xs ++ ys).length cap'∧g2=W') (.lx ?_ ⟨rfl,rfl⟩) fun v g2 ⟨a3,hw⟩=> ?_
 ·simp only [execOp,resolve,invoke,builtin,Sem.run_bind,Sem.run_pure,Result.andThen_ok]
  have az:(#[x,y]:Array Operand).map a.eval= #[a.eval x,a.eval y]:=by simp
  rw [az,jP]
  rfl
 ·subst a3
  subst hw
  exact k pR cap' _ _ (kf.put jn rfl)
inductive nN (c:cY) (E:List (Nat × I)) (L:List aI) {α:Type} [ae α]:List α→List (Nat × Operand)→List α→Prop
 | nil {b} :nN c E L b [] b
 | cons {b b':List α} {v:α} {i:Nat} {x:Operand} {r:List (Nat × Operand)} :i < b.length→a8 c E L x (.of v)→nN c E L (b.set i v) r b'→nN c E L b ((i,x) :: r) b'
theorem nN.run {α:Type} [ae α] {b b':List α} {bo:List (Nat × Operand)} (h:nN c E L b bo b'):∀ a W,bC c E L a W→ ∀ cs:Array Value,gw (aK L ++ c.bL) W cs.toList b→
 ∃ dM,Instr.fill (fun i=>some (i * ae.size α,ae.size α)) cs (bo.map fun(i,x)=>(i,a.eval x))=some dM∧gw (aK L ++ c.bL) W dM.toList b'∧b'.length=b.length:=by
 induction h with
 | nil=>intro a W s cs aD; exact⟨cs,rfl,aD,rfl⟩
 | @cons b b' v i x r ao aa _ bD=>
   intro a W s cs aD
   have a3:=aa a W s
   have eB:(a.eval x).cells.size=ae.size α:=by have:=ae.len a3.2; simpa using this
   have an:=aD.1
   have hle:(i + 1) * ae.size α≤b.length * ae.size α:=Nat.mul_le_mul_right _ ao
   rw [Nat.succ_mul] at hle
   rw [List.map_cons,CP rfl eB (by simp at an; omega)]
   obtain⟨dM,av,aO,aS⟩:=bD a W s (fR cs.toList (i * ae.size α) (a.eval x).cells.toList).toArray (by
    have:=F5 aD ao a3.2
    simpa [fR,ae.len a3.2] using this)
   exact⟨dM,av,aO,by rw [aS,List.length_set]⟩
theorem zm {α:Type} [ae α] {A W} {z:α} {dK:Value} (h:(I.of z).holds A W dK) (n:Nat) (hs:ae.size α≠0):gw A W ((Array.range (n * ae.size α)).map (dK.cells[· % dK.cells.size]!)).toList (List.replicate n z):=by
 have an:dK.cells.size=ae.size α:=by have:=ae.len h.2; simpa using this
 have hp:0 < ae.size α:=Nat.pos_of_ne_zero hs
 refine⟨by simp,fun i ao=> ?_⟩
 have fO:i < n:=by simpa using ao
 have hle:(i + 1) * ae.size α≤n * ae.size α:=Nat.mul_le_mul_right _ fO
 rw [Nat.succ_mul] at hle
 have:((((Array.range (n * ae.size α)).map (dK.cells[· % dK.cells.size]!)).toList.drop (i * ae.size α)).take (ae.size α))=dK.cells.toList:=by
  apply List.ext_getElem?
  intro j
  rw [List.getElem?_take]
  split
  ·rename_i aB
   rw [List.getElem?_drop]
   have bY:i * ae.size α + j < n * ae.size α:=by omega
   have AD:(i * ae.size α + j) % ae.size α=j:=by rw [Nat.mul_comm,Nat.mul_add_mod]; exact Nat.mod_eq_of_lt aB
   simp only [Array.getElem?_toList,Array.getElem?_map,Array.getElem?_range,bY,if_true,Option.map_some,an,AD]
   rw [getElem!_pos dK.cells j (by omega)]
   simp [an,aB]
  ·rename_i aB
   symm
   simp only [Array.getElem?_toList]
   exact Array.getElem?_eq_none (by omega)
 rw [this]
 simpa using h.2
theorem j5 {α:Type} [ae α] {e n:Nat} {z:α} {r:List α} {bo:List (Nat × Operand)} (hu:c.P.underlying t=some (.slice e)) (eG:bs c.P e α) (gC:cz c.P e z) (hs:Nat.beq (ae.size α) 0=false) (aF:Nat.ble (n * ae.size α) 16777216=true)
 (aV:nN c E L (List.replicate n z) bo r):bO c E L ⟨d,.buildSlice t n bo.toArray,ty,pos,af,g⟩ (.of r):=fun a W s=>by
 obtain⟨fU,dK,ef,dc,q6⟩:=gC.zero
 have nd:fU.size=ae.size α:=by
  obtain⟨i2,J,aa⟩:=eG.info
  rw [ef] at J; cases J; exact aa
 have ej:ae.size α≠0:=fun h=>by rw [h] at hs; cases hs
 have p3:=zm (q6 (aK L ++ c.bL) W) n ej
 obtain⟨dM,av,aO,aS⟩:=aV.run a W s _ p3
 have hlen:r.length=n:=by rw [aS]; simp
 have hm:(bo.toArray.map fun(x:Nat × Operand)=>(x.1,a.eval x.2)).toList=bo.map fun(i,x)=>(i,a.eval x):=by simp
 have Yi:=Nat.le_of_ble_eq_true aF
 refine .lx (v:= .slice (some ⟨W.heap.size,0,none⟩) n n) (W':=W.alloc (.cells dM e)) ?_ ⟨Fr.alloc W _,m9.2 ?_⟩
 ·simp only [execOp,Instr.buildSlice,Sem.run_bind,run_underlying hu,Result.andThen_ok,Go.sizeOf,typeInfo,run_program,ef,Sem.run_pure,nd]
  rw [if_neg (by omega)]
  try simp only [Sem.run_pure,Result.andThen_ok,Sem.run_bind]
  by_cases bA:n * ae.size α=0
  ·have q5:n=0:=by
    rcases Nat.mul_eq_zero.1 bA with h | h
    ·exact h
    ·exact absurd h ej
   subst q5
   simp only [Nat.zero_mul,if_true,Sem.run_pure,Result.andThen_ok]
   try simp only [Nat.zero_mul] at av
   have jF:((Array.range 0).map (fun x=>(#[]:Array Value)[x % (#[]:Array Value).size]!))=((Array.range 0).map (dK.cells[· % dK.cells.size]!)):=by simp
   simp only [pure_bind]
   rw [jF,hm,av]
   simp [newRow]
  ·simp only [bA,if_false,Sem.run_bind,zeroValue,typeInfo,run_program,Result.andThen_ok,ef,dc,Sem.run_pure]
   rw [hm,av]
   simp [newRow]
 ·have gX:Ext (aK L ++ c.bL) W (aK L ++ c.bL) (W.alloc (.cells dM e)):=Ext.dw (Fr.alloc W _)
  refine .inr ⟨W.heap.size,0,n,dM,e,(0,0),by rw [hlen],fun ub=>Nat.lt_irrefl _ (s.Dv _ ub),G0 W _,by omega,?_,?_,?_⟩
  ·have:r.length * 1≤n * ae.size α:=by rw [hlen]; exact Nat.mul_le_mul_left _ (by omega)
   have:maxLen=9223372036854775807:=rfl
   omega
  ·have:=aO.1; simp at this; omega
  ·have aY:=aO.1
   rw [List.drop_zero,← aY,List.take_length]
   exact aO.mono gX
end
theorem C9 {cs:List Value} {o s:Nat} {u:Value} (h:u∈cs.drop o):u∈ (cs.drop o).take s∨u∈cs.drop (o + s):=by
 rw [← List.take_append_drop s (cs.drop o)] at h
 rcases List.mem_append.1 h with h | h
 ·exact .inl h
 ·rw [List.drop_drop] at h; exact .inr h
theorem Ma {cs:List Value} {n o:Nat} {u:Value} {p:Prop} (an:cs.length=n) (a6:o=n) (h:u∈cs.drop o):p:=by
 rw [List.drop_of_length_le (by omega)] at h; cases h
theorem UC {cs ds:List Value} {o s n:Nat} (an:cs.length=n) (hd:ds.length=s) (h:o + s≤n):(cs.take o ++ ds ++ cs.drop (o + s)).length=n:=by
 simp only [List.length_append,List.length_take,List.length_drop]; omega
theorem Mb {cs ds:List Value} {o s n:Nat} (an:cs.length=n) (hd:ds.length=s) (h:o + s≤n):((cs.take o ++ ds ++ cs.drop (o + s)).drop o).take s=ds:=by
 have J:(cs.take o).length=o:=by simp; omega
 rw [List.append_assoc,List.drop_append,J,List.drop_of_length_le (by omega),List.nil_append,Nat.sub_self,List.drop_zero,List.take_append_of_le_length (by omega),List.take_of_length_le (by omega)]
theorem F6 {cs ds:List Value} {o s n bU s2:Nat} (an:cs.length=n) (hd:ds.length=s) (h:o + s≤n) (cN:bU + s2≤o∨o + s≤bU):((cs.take o ++ ds ++ cs.drop (o + s)).drop bU).take s2=(cs.drop bU).take s2:=by
 apply List.ext_getElem?
 intro i
 simp only [List.getElem?_take,List.getElem?_drop]
 split
 ·rename_i ao
  simp only [List.getElem?_append,List.length_append,List.length_take,List.getElem?_take,List.getElem?_drop]
  have J:min o cs.length=o:=by omega
  rw [J,hd]
  rcases cN with aa | aa
  ·rw [if_pos (by omega),if_pos (by omega),if_pos (by omega)]
  ·rw [if_neg (by omega)]; congr 1; omega
 ·rfl
structure uk (P:Type) where
 size:Nat
 rep:List Nat→World→List Value→Nat→P→Prop
 one:∀ {A W cs o x n},rep A W cs o x→cs.length=n→o + size=n→ ∀ u∈cs.drop o,u.oneCell'=true
 mono:∀ {A W c1 W' cs o x},Ext A W c1 W'→rep A W cs o x→rep c1 W' cs o x
 nW:∀ {A W cs o x n ds p s},rep A W cs o x→cs.length=n→ds.length=s→p + s≤n→p + s≤o→rep A W (cs.take p ++ ds ++ cs.drop (p + s)) o x
@[reducible] def hV (B:Type) [ae B]:uk B where
  size:=ae.size B
  rep A W cs o x:=ae.rep A W ((cs.drop o).take (ae.size B)) x
  one h an a6 u hu:=by
   rcases C9 (s:=ae.size B) hu with J | bA
   ·exact ae.one h u J
   ·exact Ma an a6 bA
  mono e h:=ae.mono e h
  nW h an hd aF hp:=by rw [F6 an hd aF (.inr hp)]; exact h
@[reducible] def dt (B:Type) [ae B] {P:Type} (S:uk P):uk (B × P) where
  size:=ae.size B + S.size
  rep A W cs o x:=ae.rep A W ((cs.drop o).take (ae.size B)) x.1∧S.rep A W cs (o + ae.size B) x.2
  one h an a6 u hu:=by
   rcases C9 (s:=ae.size B) hu with J | bA
   ·exact ae.one h.1 u J
   ·exact S.one h.2 an (by omega) u bA
  mono e h:=⟨ae.mono e h.1,S.mono e h.2⟩
  nW h an hd aF hp:=⟨by rw [F6 an hd aF (.inr hp)]; exact h.1,S.nW h.2 an hd aF (by omega)⟩
@[reducible] def ae.str {T P:Type} (S:uk P) (to:T→P) (N:Nat) (jn:S.size=N:=by rfl):ae T where
  size:=N
  agg:=true
  rep A W cs x:=cs.length=N∧S.rep A W cs 0 (to x)
  len h:=h.1
  one h:=fun u hu=>S.one h.2 h.1 (by omega) u (by simpa using hu)
  flat h:=by cases h
  mono e h:=⟨h.1,S.mono e h.2⟩
structure A3 {P:Type} (S:uk P) (G:Type) [ae G] where
 off:Nat
 get:P→G
 set:P→G→P
 fZ:off + ae.size G≤S.size
 h3:∀ {A W cs o b},S.rep A W cs o b→ae.rep A W ((cs.drop (o + off)).take (ae.size G)) (get b)
 k6:∀ {A W cs n o b ds g},cs.length=n→o + S.size≤n→S.rep A W cs o b→ae.rep A W ds g→S.rep A W (cs.take (o + off) ++ ds ++ cs.drop (o + off + ae.size G)) o (set b g)
def iJ {B:Type} [ae B]:A3 (hV B) B where
 off:=0
 get b:=b
 set _ g:=g
 fZ:=by show 0 + ae.size B≤ae.size B; omega
 h3 h:=h
 k6 an a6 _ bg:=by
  have h:=Mb an (ae.len bg) a6
  show ae.rep _ _ ((List.drop _ _).take _) _
  rw [Nat.add_zero,h]; exact bg
def dD {B:Type} [ae B] {P:Type} {S:uk P} :A3 (dt B S) B where
 off:=0
 get b:=b.1
 set b g:=(g,b.2)
 fZ:=by show 0 + ae.size B≤ae.size B + S.size; omega
 h3 h:=h.1
 k6 {A W cs n o b ds g} an a6 h bg:=by
  have a6:o + (ae.size B + S.size)≤n:=a6
  refine⟨?_,S.nW h.2 an (ae.len bg) (by omega) (by omega)⟩
  rw [Nat.add_zero,Mb an (ae.len bg) (by omega)]; exact bg
def bz {B:Type} [ae B] {P:Type} {S:uk P} {G:Type} [ae G] (l:A3 S G):A3 (dt B S) G where
 off:=ae.size B + l.off
 get b:=l.get b.2
 set b g:=(b.1,l.set b.2 g)
 fZ:=by have:=l.fZ; show ae.size B + l.off + ae.size G≤ae.size B + S.size; omega
 h3 h:=by rw [← Nat.add_assoc]; exact l.h3 h.2
 k6 {A W cs n o b ds g} an a6 h bg:=by
  have a6:o + (ae.size B + S.size)≤n:=a6
  have ao:=l.fZ
  have aa:=l.k6 an (by omega) h.2 bg
  rw [Nat.add_assoc o] at aa
  exact⟨by rw [F6 an (ae.len bg) (by omega) (.inl (by omega))]; exact h.1,aa⟩
def aP.str {T P G:Type} [ae G] {S:uk P} {to:T→P} {N:Nat} (l:A3 S G) (off:Nat) (get:T→G) (set:T→G→T) (jn:S.size=N:=by rfl) (a6:l.off=off:=by rfl) (J:∀ b,l.get (to b)=get b:=by intro b; rfl) (aa:∀ b g,l.set (to b) g=to (set b g):=by intro b g; rfl): @aP T G (ae.str S to N jn) _:=
 @aP.mk T G (ae.str S to N jn) _ off get set (by have:=l.fZ; show off + ae.size G≤N; omega)
  (fun {A W cs b} h=>by have:=l.h3 h.2; rw [Nat.zero_add,a6,J] at this; exact this)
  (fun {A W cs b ds g} h bg=>by
   have av:=l.k6 h.1 (by omega) h.2 bg
   rw [Nat.zero_add,a6,aa] at av
   have aO:=l.fZ
   exact⟨UC h.1 (ae.len bg) (by omega),av⟩)
class bb (α:Type) [ae α] [Inhabited α] where
 cells:List Value
 ok:∀ A W,ae.rep A W cells (default:α)
instance:bb Bool:=⟨[.bool false],fun _ _=>rfl⟩
instance:bb Int:=⟨[.int .i64 0],fun _ _=>rfl⟩
instance:bb (BitVec 64):=⟨[.int .u64 0],fun _ _=>rfl⟩
instance:bb (BitVec 32):=⟨[.int .u32 0],fun _ _=>rfl⟩
instance:bb (BitVec 16):=⟨[.int .u16 0],fun _ _=>rfl⟩
instance:bb (BitVec 8):=⟨[.int .u8 0],fun _ _=>rfl⟩
instance:bb ByteArray:=⟨[.string ByteArray.empty],fun _ _=>rfl⟩
instance {α:Type} [ae α]:bb (List α):=⟨[.slice none 0 0],fun _ _=>⟨_,rfl,.inl ⟨rfl,rfl⟩⟩⟩
theorem Lv {α:Type} [ae α] {A W} {Jv:List Value} {z:α} (h:ae.rep A W Jv z):∀ n,gw A W (List.replicate n Jv).flatten (List.replicate n z)
 | 0=>⟨by simp,fun i ao=>by simp at ao⟩
 | n + 1=>by
   have J:=Lv h n
   have aa:gw A W Jv [z]:=⟨by simp [ae.len h],fun i ao=>by
    have:i=0:=by simpa using ao
    subst this
    rw [Nat.zero_mul,List.drop_zero,← ae.len h,List.take_length]; exact h⟩
   have:=tk aa J
   simpa [List.replicate_succ] using this
instance {α:Type} [ae α] [Inhabited α] [bb α] {n:Nat} :bb (Vector α n):=⟨(List.replicate n (bb.cells α)).flatten,fun A W=>by
 have:=Lv (bb.ok (α:=α) A W) n
 show gw A W _ (Vector.replicate n default).toList
 simpa using this⟩
def H4 (α:Type) [ae α] [Inhabited α] [bb α]:Value:=if ae.agg α=true then .agg (bb.cells α).toArray else(bb.cells α).headD undef
theorem cz.of {P:Program} {t:TypeId} {α:Type} [ae α] [Inhabited α] [bb α] (h:(P.info? t).bind (·.zero)=some (H4 α)):cz P t (default:α) where
 zero:=by
  cases ao:P.info? t with
  | none=>simp [ao] at h
  | some i=>
    refine⟨i,H4 α,rfl,by simpa [ao] using h,fun A W=> ?_⟩
    have ok:=bb.ok (α:=α) A W
    unfold H4
    cases a9:ae.agg α with
    | true=>simp only [if_true]; exact⟨by simp [shaped,a9],by simpa [Value.cells] using ok⟩
    | false=>
      have J:=ae.len ok
      rw [ae.flat a9] at J
      obtain⟨v,a3⟩:=List.length_eq_one_iff.1 J
      have av:v.oneCell'=true:=ae.one ok v (by rw [a3]; simp)
      simp only [Bool.false_eq_true,if_false,a3,List.headD_cons]
      exact⟨by simp [shaped,a9,av],by rw [oe av]; rw [a3] at ok; exact ok⟩
theorem bs.of {P:Program} {t:TypeId} {α:Type} [ae α] {d:TypeDesc} (a9:(match d with | .struct _ | .array _ _=>true | _=>false)=ae.agg α) (hu:P.underlying t=some d) (hs:(P.info? t).map (·.size)=some (ae.size α)):bs P t α:=⟨hs,d,hu,a9⟩
theorem cC.of {P:Program} {s f o:Nat} {fs:Array Field} {fd:Field} {γ:Type} [ae γ] (hu:P.underlying s=some (.struct fs)) (aV:fs[f]? =some fd) (a6:fd.offset=o) (ep:bs P fd.type γ) (hs:Nat.beq (ae.size γ) 0=false):cC P s f o:=by
 obtain⟨i,J,aa⟩:=ep.info
 exact⟨fs,fd,i,hu,aV,a6,J,fun h=>by rw [← aa,h] at hs; cases hs⟩
theorem rf.of {P:Program} {t n e s:Nat} {γ:Type} [ae γ] (hu:P.underlying t=some (.array n e)) (ep:bs P e γ) (hs:ae.size γ=s):rf P t n s:=by
 obtain⟨i,J,aa⟩:=ep.info
 exact⟨e,i,hu,J,by rw [aa,hs]⟩
theorem bind_some {α β:Type} {m:Option α} {f:α→Option β} {r:β} (h:m.bind f=some r):∃ y,m=some y∧f y=some r:=Option.bind_eq_some_iff.1 h
theorem hC {α:Type} {b:Bool} {p q:Option α} {r:α} (hb:b=true) (h:cond b p q=some r):p=some r:=by rw [hb] at h; exact h
theorem hD {α:Type} {b:Bool} {p q:Option α} {r:α} (hb:b=false) (h:cond b p q=some r):q=some r:=by rw [hb] at h; exact h
theorem aT {α:Type} {a b:α} (h:some a=some b):a=b:=Option.some.inj h
def cb {α:Type} [Inhabited α] (b want:Bool) (m:Option α):Option α:=if b=want then m else some default
theorem gr {α:Type} [Inhabited α] {b want:Bool} {m:Option α} {y:α} (h:cb b want m=some y) (hb:b=want):m=some y:=by unfold cb at h; rw [if_pos hb] at h; exact h
def fX:Nat:=2 ^ 80
theorem bC.oy {c E L a W} (h:bC c E L a W) (n:Nat):bC c E (L.drop n) a W:=
 h.sub (fun e he=>List.mem_of_mem_drop he) (by
   have:(aK (L.drop n)).Sublist (aK L):=by
    induction L generalizing n with
    | nil=>simp
    | cons x r bD=>
      cases n with
      | zero=>simp
      | succ n=>
        have aD:∀ n,(aK (r.drop n)).Sublist (aK r):=by
         intro n
         have key:∀ (r:List aI) n,(aK (r.drop n)).Sublist (aK r):=by
          intro r
          induction r with
          | nil=>intro n; simp
          | cons y r OZ=>
            intro n
            cases n with
            | zero=>simp
            | succ n=>
              simp only [List.drop_succ_cons]
              cases ar:y.key with
              | none=>simpa [aK,ar] using OZ n
              | some p=>simp only [aK,ar]; exact(OZ n).cons _
         exact key r n
        simp only [List.drop_succ_cons]
        cases ar:x.key with
        | none=>simpa [aK,ar] using aD n
        | some p=>simp only [aK,ar]; exact(aD n).cons _
   exact h.nodup.sublist this)
section
variable {c:cY} {E:List (Nat × I)} {L:List aI} {ops:Array Oper} {Q:Exit→Act→World→Prop}
theorem ak.cb {γ:Type} {x:Operand} {b:Bool} {y z:Code} (E':γ→List (Nat × I)) (L':γ→List aI) (an:a8 c E L x (.of b)) (wY:∀ g,aj c Q .normal (E' g) (L' g))
 (bl:(∀ g,aj c Q .normal (E' g) (L' g))→b=true→ak c Q y E L) (aV:(∀ g,aj c Q .normal (E' g) (L' g))→b=false→ak c Q z E L):ak c Q (.cond x y z) E L:=
 ak.cond an (bl wY) (aV wY)
theorem aj.meet {x:Exit} {E':List (Nat × I)} {L':List aI} (n:Nat) (aq:L.drop n=L') (h:hl E E') (k:aj c Q x E' L'):aj c Q x E L:=fun a W s=>k a W (by rw [← aq]; exact(s.oy n).less h.look)
def yg {σ ε γ δ:Type} (c:cY) (E:σ→γ→List (Nat × I)) (L:σ→γ→List aI) (xs:ε→Exit) (fJ:ε→δ→List (Nat × I)) (Lx:ε→δ→List aI):σ ⊕ ε→Exit→Act→World→Prop
 | .inl s,x,a,W=>x= .normal∧ ∃ g,bC c (E s g) (L s g) a W
 | .inr e,x,a,W=>x≠ .normal∧x=xs e∧ ∃ g,bC c (fJ e g) (Lx e g) a W
theorem aj.UD {σ ε γ δ:Type} {E':σ→γ→List (Nat × I)} {L':σ→γ→List aI} {xs:ε→Exit} {fJ:ε→δ→List (Nat × I)} {Lx:ε→δ→List aI} {s:σ} (g:γ) (n:Nat)
 (aq:L.drop n=L' s g) (h:hl E (E' s g)):aj c (yg c E' L' xs fJ Lx (.inl s)) .normal E L:=fun a W st=>⟨rfl,g,by rw [← aq]; exact(st.oy n).less h.look⟩
theorem aj.UE {σ ε γ δ:Type} {E':σ→γ→List (Nat × I)} {L':σ→γ→List aI} {xs:ε→Exit} {fJ:ε→δ→List (Nat × I)} {Lx:ε→δ→List aI} {e:ε} {x:Exit} (g:δ) (n:Nat)
 (ai:x=xs e) (aF:x≠ .normal) (aq:L.drop n=Lx e g) (h:hl E (fJ e g)):aj c (yg c E' L' xs fJ Lx (.inr e)) x E L:=fun a W st=>⟨aF,ai,g,by rw [← aq]; exact(st.oy n).less h.look⟩
theorem ak.tL {σ ε γ δ:Type} {body:Code} {N:Nat} {b:σ→Option (σ ⊕ ε)} {bX:σ} {e:ε} (an:gG N b bX=some e)
 (E':σ→γ→List (Nat × I)) (L':σ→γ→List aI) (xs:ε→Exit) (fJ:ε→δ→List (Nat × I)) (Lx:ε→δ→List aI) (g0:γ) (aq:L=L' bX g0) (ay:hl E (E' bX g0))
 (r6:∀ s r,b s=some r→ ∀ g,ak c (yg c E' L' xs fJ Lx r) body (E' s g) (L' s g))
 (ot:∀ g,aj c Q (xs e) (fJ e g) (Lx e g)):ak c Q (.loop body) E L:=fun a W st=>by
 subst aq
 exact K1 b (fun s a W=> ∃ g,bC c (E' s g) (L' s g) a W) (fun e x a W=>x=xs e∧ ∃ g,bC c (fJ e g) (Lx e g) a W)
  (fun s r hs a W ⟨g,kk⟩=>wpIn_mono (r6 s r hs g a W kk) (fun x a W h=>by
   cases r with
   | inl bR=>exact h
   | inr e'=>exact⟨h.1,h.2⟩)) Q e (fun x a W ⟨ai,g,hs⟩=>by subst ai; exact ot g a W hs) an ⟨g0,st.less ay.look⟩
end
theorem bO.as {c E L o} {α:Type} [ae α] {a b:α} (h:bO c E L o (.of a)) (e:a=b):bO c E L o (.of b):=by subst e; exact h
def I.v9 {α β:Type} [ae α] [ae β] (P:Program) (F:α→Option β):I where
 holds A W v:= ∃ f fst cap,v= .func (.func f) fst cap∧bV P f∧ ∀ c1 W',Ext A W c1 W'→ (∀ k∈c1,k < W'.heap.size)→ ∀ x r qi,F x=some r→ (I.of x).holds c1 W' qi→
  Calls P f (fst ++ #[qi] ++ cap) W' fun e A4=> ∃ v,e= .returned v∧Fr [] W' A4∧ (I.of r).holds c1 A4 v
 mono e h:=let⟨f,fst,cap,J,aa,av⟩:=h; ⟨f,fst,cap,J,aa,fun c1 W' e'=>av c1 W' (e.trans e')⟩
def I.Ek {α β γ:Type} [ae α] [ae β] [ae γ] (P:Program) (F:α→β→Option γ):I where
 holds A W v:= ∃ f fst cap,v= .func (.func f) fst cap∧bV P f∧ ∀ c1 W',Ext A W c1 W'→ (∀ k∈c1,k < W'.heap.size)→ ∀ x y r qi ET,F x y=some r→ (I.of x).holds c1 W' qi→ (I.of y).holds c1 W' ET→
  Calls P f (fst ++ #[qi,ET] ++ cap) W' fun e A4=> ∃ v,e= .returned v∧Fr [] W' A4∧ (I.of r).holds c1 A4 v
 mono e h:=let⟨f,fst,cap,J,aa,av⟩:=h; ⟨f,fst,cap,J,aa,fun c1 W' e'=>av c1 W' (e.trans e')⟩
section
variable {c:cY} {E:List (Nat × I)} {L:List aI} {d:Option Tmp} {ty:TypeId} {pos:String} {af:Array Edge} {g:Option (Nat × Bool)}
theorem SL {α β:Type} [ae α] [ae β] {F:α→Option β} {f:FuncId} (er:bV c.P f) (h:∀ x r,F x=some r→cl c.P f [.of x] (.of r)):a8 c E L (.func f) (.v9 c.P F):=fun a W s=>
 ⟨f,#[],#[],rfl,er,fun c1 W' _ gK x r qi oT ai=>by simpa using h x r oT c1 W' [qi] gK (.cons ai .nil)⟩
theorem CN {α β:Type} [ae α] [ae β] {F:α→Option β} {n7 x:Operand} {ats:Array TypeId} {BE:α} {r:β} (aV:a8 c E L n7 (.v9 c.P F)) (ai:a8 c E L x (.of BE)) (h:F BE=some r):
 bO c E L ⟨d,.call ⟨.value n7,#[x],ats⟩,ty,pos,af,g⟩ (.of r):=fun a W s=>by
 obtain⟨f,fst,cap,J,er,aa⟩:=aV a W s
 refine .u6 (f:=f) (args:=fst ++ #[a.eval x] ++ cap) (W':=W) ?_ (aa _ W (Ext.refl _ _) s.Dv _ _ _ h (ai a W s))
 simp [execOp,resolve,Deferred.ofValue,J,invoke,er.run]
theorem Lq {α β γ:Type} [ae α] [ae β] [ae γ] {F:α→β→Option γ} {n7 x y:Operand} {ats:Array TypeId} {BE:α} {PA:β} {r:γ} (aV:a8 c E L n7 (.Ek c.P F)) (ai:a8 c E L x (.of BE)) (a4:a8 c E L y (.of PA)) (h:F BE PA=some r):
 bO c E L ⟨d,.call ⟨.value n7,#[x,y],ats⟩,ty,pos,af,g⟩ (.of r):=fun a W s=>by
 obtain⟨f,fst,cap,J,er,aa⟩:=aV a W s
 refine .u6 (f:=f) (args:=fst ++ #[a.eval x,a.eval y] ++ cap) (W':=W) ?_ (aa _ W (Ext.refl _ _) s.Dv _ _ _ _ _ h (ai a W s) (a4 a W s))
 simp [execOp,resolve,Deferred.ofValue,J,invoke,er.run]
end
end Gv
namespace Gv
open Go Go.ChangeShapes Go.WideShapes Go.RowKit
structure Arg (P:Program) (t:TypeId) (α:Type) [ae α]:Prop where
 cells:P.cellsOf t=ae.size α
 read:∀ {H:Type} {enc:TypeId × Value→H} {W:World} {n:Nat} {cs:List Value} {x:DataW H × List MemPlace},DataW.trod enc P W 0 (fun _=>true) true n t cs=some x→ ∃ a:α,ae.rep [] W cs a
 form:∀ {W:World} {b:Nat} {v:Value},Value.okWide P W .any b t v→shaped (ae.agg α) v
variable {P:Program} {t e:TypeId}
theorem Sp (hu:P.underlying t=some .bool) {H:Type} {enc:TypeId × Value→H} {W:World} {n:Nat} {cs:List Value} {x:DataW H × List MemPlace} (h:DataW.trod enc P W 0 (fun _=>true) true n t cs=some x):
 ∃ b:Bool,cs= [.bool b]:=by
 cases n with
 | zero=>simp [DataW.trod] at h
 | succ n=>
   unfold DataW.trod at h
   rw [hu] at h
   split at h <;> first | exact⟨_,rfl⟩ | (simp at h)
   all_goals simp_all
theorem Arg.bool (hu:P.underlying t=some .bool) (ag:P.cellsOf t=1):Arg P t Bool where
 cells:=ag
 read {H enc W n cs x} h:=by
  obtain⟨b,rfl⟩:=Sp hu h
  exact⟨b,rfl⟩
 form {W b v} h:=by
  unfold Value.okWide Cell.okWide at h
  simp only [hu] at h
  unfold Cell.ok at h
  rw [hu] at h
  cases v <;> first | rfl | simp at h
theorem zr {k:IntKind} (hu:P.underlying t=some (.int k)) {H:Type} {enc:TypeId × Value→H} {W:World} {n:Nat} {cs:List Value} {x:DataW H × List MemPlace} (h:DataW.trod enc P W 0 (fun _=>true) true n t cs=some x):
 ∃ z:Int,cs= [.int k z]∧k.min≤z∧z≤k.max:=by
 cases n with
 | zero=>simp [DataW.trod] at h
 | succ n=>
   unfold DataW.trod at h
   rw [hu] at h
   split at h <;> simp_all [Lit.wf]
theorem zs {k:IntKind} (hu:P.underlying t=some (.int k)) {W:World} {b:Nat} {v:Value} (h:Value.okWide P W .any b t v):v.oneCell'=true:=by
 unfold Value.okWide Cell.okWide at h
 simp only [hu] at h
 unfold Cell.ok at h
 rw [hu] at h
 cases v <;> first | rfl | simp at h
theorem Arg.int (hu:P.underlying t=some (.int .i64)) (ag:P.cellsOf t=1):Arg P t Int where
 cells:=ag
 read h:=by obtain⟨z,rfl,_⟩:=zr hu h; exact⟨z,rfl⟩
 form h:=zs hu h
theorem Arg.u64 (hu:P.underlying t=some (.int .u64)) (ag:P.cellsOf t=1):Arg P t (BitVec 64) where
 cells:=ag
 read h:=by
  obtain⟨z,rfl,J,aa⟩:=zr hu h
  simp [IntKind.min,IntKind.max,IntKind.signed,IntKind.bits] at J aa
  exact⟨BitVec.ofInt 64 z,by show [_]= [_]; simp; omega⟩
 form h:=zs hu h
theorem Arg.u32 (hu:P.underlying t=some (.int .u32)) (ag:P.cellsOf t=1):Arg P t (BitVec 32) where
 cells:=ag
 read h:=by
  obtain⟨z,rfl,J,aa⟩:=zr hu h
  simp [IntKind.min,IntKind.max,IntKind.signed,IntKind.bits] at J aa
  exact⟨BitVec.ofInt 32 z,by show [_]= [_]; simp; omega⟩
 form h:=zs hu h
theorem Arg.u16 (hu:P.underlying t=some (.int .u16)) (ag:P.cellsOf t=1):Arg P t (BitVec 16) where
 cells:=ag
 read h:=by
  obtain⟨z,rfl,J,aa⟩:=zr hu h
  simp [IntKind.min,IntKind.max,IntKind.signed,IntKind.bits] at J aa
  exact⟨BitVec.ofInt 16 z,by show [_]= [_]; simp; omega⟩
 form h:=zs hu h
theorem Arg.u8 (hu:P.underlying t=some (.int .u8)) (ag:P.cellsOf t=1):Arg P t (BitVec 8) where
 cells:=ag
 read h:=by
  obtain⟨z,rfl,J,aa⟩:=zr hu h
  simp [IntKind.min,IntKind.max,IntKind.signed,IntKind.bits] at J aa
  exact⟨BitVec.ofInt 8 z,by show [_]= [_]; simp; omega⟩
 form h:=zs hu h
theorem SU (hs:(∃ fs,P.underlying t=some (.struct fs))∨ (∃ n e,P.underlying t=some (.array n e))) {W:World} {b:Nat} {v:Value} (h:Value.okWide P W .any b t v):shaped true v:=by
 unfold Value.okWide at h
 rcases hs with⟨fs,hu⟩ | ⟨n,e,hu⟩ <;> rw [hu] at h <;> exact⟨h.choose,h.choose_spec.1⟩
theorem Arg.arr {α:Type} [ae α] [Inhabited α] {n:Nat} (hu:P.underlying t=some (.array n e)) (he:Arg P e α) (ag:P.cellsOf t=n * ae.size α):Arg P t (Vector α n) where
 cells:=ag
 read {H enc W m cs x} h:=by
  obtain⟨xs,q,_,_,an,hlen,aV⟩:=DataW.trod_array hu h
  have aD:∀ i,i < n→ ∃ a:α,ae.rep [] W ((cs.drop (i * ae.size α)).take (ae.size α)) a:=by
   intro i ao
   have J:=aV i ao
   rw [List.getElem?_eq_getElem (by omega)] at J
   rw [← he.cells]
   exact he.read J
  refine⟨Vector.ofFn fun i=>(aD i.1 i.2).choose,by rw [an,ag]; simp,fun i ao=> ?_⟩
  have fO:i < n:=by simpa using ao
  have:=(aD i fO).choose_spec
  simpa using this
 form h:=SU (.inr ⟨_,_,hu⟩) h
theorem K5 {H:Type} {enc:TypeId × Value→H} {W W':World} (an:laidOutB P=true) {sp:Nat→Bool} :∀ {g9:List TypeId} {vs:List Value} {ds:List (DataW H)} {bo:List MemPlace},
 (∀ t∈g9,P.readableRec t=true∧t < P.types.size)→DataW.TrodAll enc P W 0 (fun _=>true) true g9 vs ds bo→ (∀ p∈bo,W.sameAt W' p)→ (∀ p∈bo,sp p.block=true)→DataW.TrodAll enc P W' 0 sp true g9 vs ds bo
 | [],_,_,_,_,h,_,_=>by
   obtain⟨rfl,rfl,rfl⟩:=trodAll_nil h
   exact rfl
 | _ :: _,_,_,_,bl,h,hs,hp=>by
   obtain⟨v,Ix,d,Iy,p,q,rfl,rfl,rfl,J,aa⟩:=trodAll_cons h
   have bA:=bl _ (List.mem_cons_self ..)
   exact⟨p,q,WideElems.Trod_stays an bA.1 bA.2 J (fun x ai=>hs x (by simp [ai])) (fun x ai=>hp x (by simp [ai])),
    K5 an (fun t p1=>bl t (List.mem_cons_of_mem _ p1)) aa (fun x ai=>hs x (by simp [ai])) (fun x ai=>hp x (by simp [ai])),rfl⟩
theorem Fr.below {W W':World} (h:Fr [] W W'):Below W.heap.size W W':=⟨h.os,h.tape,h.output,h.size,fun k ar=>h.block k ar (by simp)⟩
theorem SV {H:Type} {enc:TypeId × Value→H} {f:Func} {s:ChangeSpec} {W W':World} {args:Array Value} {ds gs:List (DataW H)} {before:List MemPlace} {eZ:TypeId}
 (an:laidOutB P=true) (hp:∀ t∈f.params.toList,P.readableRec t=true∧t < P.types.size) (aD:f.resultTypes= #[eZ]) (hb:P.underlying eZ=some .bool) (a3:s.vars= [])
 (hs:s.fn H ds= { results:= [.lit (.bool true)],args:=ds })
 (yt:DataW.Whole enc P f.params.toList s.vars false W args.toList ds gs before) (oT:Fr [] W W'):
 s.post enc P f false true false false W args (.bool true) W':=by
 have Zh:=yt
 obtain⟨p,q,gK,Jw,rfl,dc,aF⟩:=Zh
 rw [a3] at Jw
 obtain⟨rfl,rfl⟩:=trodVars_none Jw
 have bY:∀ x∈p,x.block < W.heap.size:=fun x ai=>yt.lt x (by simpa using ai)
 have p4:=oT.below
 have WE:∀ x∈p,W.sameAt W' x:=fun x ai=>p4.same (bY x ai)
 have Yj:∀ (b:Nat) (sp:Nat→Bool) (hd:Bool),DataW.TrodAll enc P W' b sp hd f.resultTypes.toList ((Value.bool true).resultList f.resultTypes.size) [.lit (.bool true)] []:=by
  intro b sp hd
  rw [aD]
  exact⟨[],[],shut_bool hb true,rfl,rfl⟩
 refine⟨ds,[],p ++ [],[],p,[],yt,?_,?_,?_,World.keptBut_mono (fun x ai=> ?_) (p4.frame fun _=>False),fun h=>by cases h⟩
 ·rw [List.append_nil,hs]; exact Yj _ _ _
 ·rw [List.append_nil,hs]; exact K5 an hp gK WE (fun x ai=>by simpa using bY x ai)
 ·rw [List.append_nil,hs,a3]; rfl
 ·exact ai.elim
end Gv
namespace Gv
open Go Go.ChangeShapes Go.WideShapes Go.RowKit
theorem SW {P:Program} {fits:TypeId→Bool} {d:Nat} {e:TypeId} {count off n:Nat} (h:rowAt P fits d e count off n=true):off≤count * P.cellsOf e:=by
 cases d with
 | zero=>cases h
 | succ d=>
   unfold rowAt at h
   simp only at h
   split at h
   ·cases h
   ·rename_i hs
    have hp:0 < P.cellsOf e:=Nat.pos_of_ne_zero hs
    have aaQ:=Nat.div_add_mod off (P.cellsOf e)
    rw [Bool.or_eq_true] at h
    rcases h with h | h
    ·simp only [Bool.and_eq_true,beq_iff_eq,decide_eq_true_eq] at h
     have:P.cellsOf e * (off / P.cellsOf e)≤P.cellsOf e * count:=Nat.mul_le_mul_left _ (by omega)
     rw [Nat.mul_comm count]; omega
    ·simp only [Bool.and_eq_true,decide_eq_true_eq] at h
     have hm:=Nat.mod_lt off hp
     have:P.cellsOf e * (off / P.cellsOf e + 1)≤P.cellsOf e * count:=Nat.mul_le_mul_left _ (by omega)
     rw [Nat.mul_add] at this
     rw [Nat.mul_comm count]; omega
theorem K6 {P:Program} :∀ {d:Nat} {e:TypeId} {count off:Nat} {u:TypeId} {n:Nat},liesAt P d e count off u n=true→off≤count * P.cellsOf e
 | 0,_,_,_,_,_,h=>by cases h
 | d + 1,e,count,off,u,n,h=>by
   unfold liesAt at h
   rw [Bool.or_eq_true] at h
   rcases h with h | h
   ·exact SW h
   ·split at h
    ·exact K6 h
    ·cases h
structure uc (P:Program) (t:TypeId) (α:Type) [ae α]:Prop where
 top:∀ {H:Type} {enc:TypeId × Value→H} {W:World} {n b:Nat} {v:Value} {x:DataW H × List MemPlace},DataW.trod enc P W 0 (fun _=>true) true n t v.cells.toList=some x→Value.okWide P W .any b t v→ ∃ a:α,(I.of a).holds [] W v
variable {P:Program} {t e:TypeId}
theorem uc.of {α:Type} [ae α] (h:Arg P t α):uc P t α where
 top J aa:=let⟨a,av⟩:=h.read J; ⟨a,h.form aa,av⟩
theorem SX {α:Type} [ae α] (hu:P.underlying t=some (.slice e)) (he:Arg P e α) (dc:Nat.beq (ae.size α) 0=false) {H:Type} {enc:TypeId × Value→H} {W:World} {n b:Nat} {v:Value} {x:DataW H × List MemPlace}
 (h:DataW.trod enc P W 0 (fun _=>true) true n t [v]=some x) (ie:Cell.okWide P W .any b t v):∃ a:List α,(I.of a).holds [] W v:=by
 have kD:ae.size α≠0:=fun h=>by rw [h] at dc; cases dc
 rcases DataW.trod_slice hu h with⟨J,_⟩ | ⟨a,len,cap,elems,rest,m,_,J,_,_,aaR,wc,aaS,Yk,aaz,_⟩
 ·have:=List.singleton_inj.1 J
  subst this
  exact⟨[],m9.2 (.inl ⟨rfl,rfl⟩)⟩
 ·have:=List.singleton_inj.1 J
  subst this
  unfold Cell.okWide at ie
  simp only [hu] at ie
  unfold Cell.ok at ie
  rw [hu] at ie
  obtain⟨_,_,_,NN,row,cells,yh,Yl⟩:=ie
  obtain⟨PB,sP,aaT⟩:=a
  simp only at NN
  subst NN
  unfold World.shape? at yh
  cases eD:W.heap[PB]? with
  | none=>rw [eD] at yh; cases yh
  | some j0=>
    rw [eD] at yh
    cases j0 <;> simp at yh
    rename_i q8 T gQ
    obtain⟨aa7,eB⟩:=yh
    have aaD:sP≤q8.size:=by
     have aS:sP≤_:=K6 Yl
     have aY:=Nat.div_mul_le_self cells (P.cellsOf row)
     omega
    have WG:=he.cells
    have fL:∀ i,i < len→ ∃ a:α,ae.rep [] W ((q8.toList.drop (sP + i * ae.size α)).take (ae.size α)) a∧sP + (i + 1) * ae.size α≤q8.size:=fun i ao=>by
     have aS:=Yk i ao
     rw [List.getElem?_eq_getElem (by omega)] at aS
     obtain⟨dM,aY,b7⟩:=Option.bind_eq_some_iff.1 aS
     obtain⟨_,an,ag⟩:=World.cells?_some aY
     rw [WG] at an ag aY
     have r7:∀ j,j < ae.size α→q8[sP + i * ae.size α + j]? =dM[j]? :=fun j aB=>by
      rw [← ag j aB,jc,jc]
      unfold World.cell?
      simp [eD]
     have heq:(q8.toList.drop (sP + i * ae.size α)).take (ae.size α)=dM:=by
      apply List.ext_getElem?
      intro j
      rw [List.getElem?_take]
      by_cases aB:j < ae.size α
      ·rw [if_pos aB,List.getElem?_drop,Array.getElem?_toList]; exact r7 j aB
      ·rw [if_neg aB]; symm; exact List.getElem?_eq_none (by omega)
     obtain⟨a,a9⟩:=he.read b7
     refine⟨a,by rw [heq]; exact a9,?_⟩
     have dV:=r7 (ae.size α - 1) (by omega)
     rw [List.getElem?_eq_getElem (show ae.size α - 1 < dM.length by omega)] at dV
     have:=(Array.getElem?_eq_some_iff.1 dV).1
     rw [Nat.add_mul]; omega
    have hex:∃ xs:List α,xs.length=len∧ ∀ i (h:i < xs.length),ae.rep [] W ((q8.toList.drop (sP + i * ae.size α)).take (ae.size α)) xs[i]:=by
     refine⟨List.ofFn fun i:Fin len=>(fL i.1 i.2).choose,by simp,fun i ao=> ?_⟩
     have fO:i < len:=by simpa using ao
     rw [List.getElem_ofFn]
     exact(fL i fO).choose_spec.1
    obtain⟨xs,wx,Zi⟩:=hex
    have hbound:sP + xs.length * ae.size α≤q8.size:=by
     rw [wx]
     rcases Nat.eq_zero_or_pos len with bA | bA
     ·rw [bA]; omega
     ·have:=(fL (len - 1) (by omega)).choose_spec.2
      rw [show len - 1 + 1=len by omega] at this
      exact this
    refine⟨xs,m9.2 (.inr ⟨PB,sP,cap,q8,T,gQ,by rw [wx],by simp,eD,by omega,by omega,hbound,?_,fun i ao=> ?_⟩)⟩
    ·rw [List.length_take,List.length_drop]; simp; omega
    ·have hle:(i + 1) * ae.size α≤xs.length * ae.size α:=Nat.mul_le_mul_right _ ao
     rw [Nat.succ_mul] at hle
     rw [uV _ _ _ _ _ hle]
     exact Zi i ao
theorem uc.Zj {α:Type} [ae α] (hu:P.underlying t=some (.slice e)) (he:Arg P e α) (dc:Nat.beq (ae.size α) 0=false):uc P t (List α) where
 top {H enc W n b v x} h ie:=by
  have xZ:Cell.okWide P W .any b t v:=by
   unfold Value.okWide at ie
   simp only [hu] at ie
   exact ie
  have Ym:v.oneCell'=true:=by
   unfold Cell.okWide at xZ
   simp only [hu] at xZ
   unfold Cell.ok at xZ
   rw [hu] at xZ
   cases v <;> first | rfl | simp at xZ
  rw [oe Ym] at h
  exact SX hu he dc h xZ
theorem KJ {H:Type} {enc:TypeId × Value→H} {W:World} {g9:List TypeId} {vs:List Value} {ds:List (DataW H)} {bo:List MemPlace} {α:Type} [ae α] {b:Nat} (a9:uc P t α)
 (h:DataW.TrodAll enc P W 0 (fun _=>true) true (t :: g9) vs ds bo) (ie:∀ (j:Nat) u v,(t :: g9)[j]? =some u→vs[j]? =some v→Value.okWide P W .any b u v):
 ∃ (a:α) (v:Value) (Iz:List Value) (O0:List (DataW H)) (nk:List MemPlace) (d:DataW H),vs=v :: Iz∧ds=d :: O0∧ (I.of a).holds [] W v∧DataW.TrodAll enc P W 0 (fun _=>true) true g9 Iz O0 nk∧
   (∀ (j:Nat) u w,g9[j]? =some u→Iz[j]? =some w→Value.okWide P W .any b u w):=by
 obtain⟨v,Ix,d,Iy,p,q,rfl,rfl,rfl,⟨n,J⟩,aa⟩:=trodAll_cons h
 obtain⟨a,av⟩:=a9.top J (ie 0 t v rfl rfl)
 exact⟨a,v,Ix,Iy,q,d,rfl,rfl,av,aa,fun j u w aB hw=>ie (j + 1) u w (by simpa using aB) (by simpa using hw)⟩
end Gv
namespace Gv
open Go
theorem RL {L' L:List aI} (h:L'.Sublist L):(aK L').Sublist (aK L):=by
 induction h with
 | slnil=>simp [aK]
 | cons e _ bD=>cases ar:e.key <;> simp only [aK,ar] <;> first | exact bD | exact bD.cons _
 | cons_cons e _ bD=>cases ar:e.key <;> simp only [aK,ar] <;> first | exact bD | exact bD.cons_cons _
theorem aI.tv {e:aI} {A c1 W W'} (h:e.ok A W) (x:Ext A W c1 W') (hb:∀ p,e.key=some p→W'.heap[p]? =W.heap[p]?):e.ok c1 W':=by
 unfold aI.ok at *
 cases ar:e.key with
 | none=>rw [ar] at h; exact h
 | some p=>
   rw [ar] at h
   obtain⟨o,J,aa⟩:=h
   exact⟨o,by rw [hb p ar]; exact J,dF.mono _ x aa⟩
def j6 (X bL:List Nat) (iL:World) {δ:Type} (ρ:δ→I) (Lo:δ→List aI):Ending→World→Prop:=fun e W'=>
 ∃ v d,e= .returned v∧Fr X iL W'∧ (aK (Lo d)).Nodup∧ (∀ k∈aK (Lo d),k < W'.heap.size∧ (k < iL.heap.size→k∈X)∧k ∉ bL)∧ (∀ e∈Lo d,e.ok (aK (Lo d) ++ bL) W')∧ (ρ d).holds (aK (Lo d) ++ bL) W' v
def bN (P:Program) (f:FuncId) (τs:List I) (Lin:List aI) {δ:Type} (ρ:δ→I) (Lo:δ→List aI):Prop:=
 ∀ (A:List Nat) (W:World) (vs:List Value),(∀ k∈A,k < W.heap.size∧k ∉ aK Lin)→ (aK Lin).Nodup→ (∀ k∈aK Lin,k < W.heap.size)→ (∀ e∈Lin,e.ok (aK Lin ++ A) W)→gu (aK Lin ++ A) W τs vs→
   Calls P f vs.toArray W (j6 (aK Lin) A W ρ Lo)
theorem bN.of {P:Program} {f:FuncId} {fn:Func} {code:Code} {n:Nat} {τs:List I} {Lin:List aI} {δ:Type} {ρ:δ→I} {Lo:δ→List aI} (aV:P.funcs[f]? =some fn) (hb:fn.body=some code) (aF:fn.ntmps=n) (hlen:Nat.ble τs.length n=true)
 (h:∀ W A,ak ⟨P,n,W,aK Lin,A,none,[]⟩ (bodyPost P fn (j6 (aK Lin) A W ρ Lo)) code (params 0 τs) Lin):bN P f τs Lin ρ Lo:=by
 intro A W vs gK gk bY ie a3
 refine calls_of_wp aV hb (wpIn_wide.1 (h W A _ _ ?_))
 have an:=a3.length
 have hle:τs.length≤n:=Nat.le_of_ble_eq_true hlen
 exact
 {defers:=rfl
  size:=by simp [aF,an]; omega
  env:=fun t τ kX=>by
   obtain⟨_,v,aa,av⟩:=uW a3 0 t τ kX
   refine⟨v,?_,av⟩
   have bY:t < vs.length:=(List.getElem?_eq_some_iff.1 aa).1
   rw [Array.getElem?_append_left (by simpa using bY)]
   simpa using aa
  dw:= .refl _ _
  own:=ie
  nodup:=gk
  lt:=bY
  fK:=fun k ar _=>ar
  ew:=gK }
section
variable {c:cY} {E:List (Nat × I)} {L:List aI} {ops:Array Oper} {Q:Exit→Act→World→Prop}
variable {d:Option Tmp} {ty:TypeId} {pos:String} {af:Array Edge} {g:Option (Nat × Bool)} {x y:Operand} {t t2:TypeId}
def um (c:cY) (E:List (Nat × I)) (L:List aI) (r:ResultVar) (τ:I):Prop:=
 ∀ a W,bC c E L a W→ ∃ v,(vj a.tmps r).run c.P W= .ok v W∧τ.holds (aK L ++ c.bL) W v
theorem dG {t:Nat} {τ:I} (h:look E t=some τ):um c E L (.tmp t) τ:=fun a W s=>by
 obtain⟨v,J,aa⟩:=s.env t τ h
 exact⟨v,by simp [vj,J],aa⟩
theorem nc {t:Nat} {ty:TypeId} {i p:Nat} {α:Type} [ae α] {x:α} (ep:bs c.P ty α) (h:look E t=some (.eq (.pointer (some ⟨p,0,none⟩)))) (aq:L[i]? =some ⟨some p,.var x⟩):um c E L (.cell t ty) (.of x):=fun a W s=>by
 obtain⟨v,J,aa⟩:=s.env t _ h
 subst aa
 obtain⟨j0,eD,cs,T,rfl,fL⟩:=s.own _ (List.mem_of_getElem? aq)
 have an:cs.toList.length=ae.size α:=ae.len fL
 have eB:cs.size=ae.size α:=by simpa using an
 obtain⟨v,av,aO⟩:=uS (A:=aK L ++ c.bL) (off:=0) ep eD (by omega) (by rw [List.drop_zero,← an,List.take_length]; exact fL)
 exact⟨v,by simp [vj,J,asAddr,av],aO⟩
theorem bC.ends {a:Act} {W:World} (s:bC c E L a W) {δ:Type} {ρ:δ→I} {Lo:δ→List aI} (a7:δ) (hs:(Lo a7).Sublist L) {v:Value} (a3:(ρ a7).holds (aK L ++ c.bL) W v):j6 c.X c.bL c.iL ρ Lo (.returned v) W:=by
 have kR:=RL hs
 have ar:∀ k∈aK (Lo a7),k∈aK L:=fun k ar=>kR.subset ar
 have gX:Ext (aK L ++ c.bL) W (aK (Lo a7) ++ c.bL) W:= .drop fun k hm=>by
  rcases List.mem_append.1 hm with hm | hm
  ·exact List.mem_append.2 (.inl (ar k hm))
  ·exact List.mem_append.2 (.inr hm)
 exact⟨v,a7,rfl,s.dw,s.nodup.sublist kR,fun k hm=>⟨s.lt k (ar k hm),s.fK k (ar k hm),fun a9=>(s.ew k a9).2 (ar k hm)⟩,
  fun e he=>aI.tv (s.own e (hs.subset he)) gX fun _ _=>rfl,I.mono _ gX a3⟩
theorem aj.gF {fn:Func} {r:ResultVar} {τ:I} {δ:Type} {ρ:δ→I} {Lo:δ→List aI} (a7:δ) (hs:(Lo a7).Sublist L) (aD:fn.results= #[r]) (sC:ρ a7=τ) (h:um c E L r τ) (hx:c.ds= []:=by rfl):aj c (bodyPost c.P fn (j6 c.X c.bL c.iL ρ Lo)) .ret E L:=fun a W s=>by
 subst sC
 obtain⟨v,J,aa⟩:=h a W s
 exact⟨s.u5 hx,v,by simp [uX,aD,J],s.ends a7 hs aa⟩
theorem aj.kL {fn:Func} {r ea:ResultVar} {τ n1:I} {δ:Type} {ρ:δ→I} {Lo:δ→List aI} (a7:δ) (hs:(Lo a7).Sublist L) (aD:fn.results= #[r,ea]) (sC:ρ a7= .eA [τ,n1]) (h:um c E L r τ) (aa:um c E L ea n1) (hx:c.ds= []:=by rfl):aj c (bodyPost c.P fn (j6 c.X c.bL c.iL ρ Lo)) .ret E L:=fun a W s=>by
 obtain⟨v,av,aO⟩:=h a W s
 obtain⟨v2,aS,aY⟩:=aa a W s
 exact⟨s.u5 hx,.tuple #[v,v2],by simp [uX,aD,av,aS],s.ends a7 hs (by rw [sC]; exact⟨_,rfl,.cons aO (.cons aY .nil)⟩)⟩
theorem aj.Hr {fn:Func} {r ea kH:ResultVar} {τ n1 AY:I} {δ:Type} {ρ:δ→I} {Lo:δ→List aI} (a7:δ) (hs:(Lo a7).Sublist L) (aD:fn.results= #[r,ea,kH]) (sC:ρ a7= .eA [τ,n1,AY]) (h:um c E L r τ) (aa:um c E L ea n1) (av:um c E L kH AY) (hx:c.ds= []:=by rfl):aj c (bodyPost c.P fn (j6 c.X c.bL c.iL ρ Lo)) .ret E L:=fun a W s=>by
 obtain⟨v,az,f1⟩:=h a W s
 obtain⟨v2,aX,f2⟩:=aa a W s
 obtain⟨Js,dS,f3⟩:=av a W s
 exact⟨s.u5 hx,.tuple #[v,v2,Js],by simp [uX,aD,az,aX,dS],s.ends a7 hs (by rw [sC]; exact⟨_,rfl,.cons f1 (.cons f2 (.cons f3 .nil))⟩)⟩
theorem tn:∀ {L:List aI} {i:Nat} {e:aI},L[i]? =some e→L.Perm (e :: L.eraseIdx i)
 | [],i,e,h=>by simp at h
 | x :: r,0,e,h=>by simp only [List.getElem?_cons_zero,Option.some.injEq] at h; subst h; exact .refl _
 | x :: r,i + 1,e,h=>by
   simp only [List.getElem?_cons_succ] at h
   exact((tn h).cons x).trans (.swap e x _)
theorem bC.b2 {a:Act} {W:World} (s:bC c E L a W) {i:Nat} {e:aI} (h:L[i]? =some e):bC c E (e :: L.eraseIdx i) a W:=s.perm (tn h)
theorem ah.b2 {l:List Oper} (i:Nat) {e:aI} (h:L[i]? =some e) (k:ah c ops Q l E (e :: L.eraseIdx i)):ah c ops Q l E L:=fun a W s=>k a W (s.b2 h)
theorem aj.b2 {z:Exit} (i:Nat) {e:aI} (h:L[i]? =some e) (k:aj c Q z E (e :: L.eraseIdx i)):aj c Q z E L:=fun a W s=>k a W (s.b2 h)
theorem bC.after {a:Act} {W W':World} {Lin Lr:List aI} (s:bC c E (Lin ++ Lr) a W) {Lo:List aI} (aV:Fr (aK Lin) W W') (gk:(aK Lo).Nodup)
 (ar:∀ k∈aK Lo,k < W'.heap.size∧ (k < W.heap.size→k∈aK Lin)∧k ∉ aK Lr ++ c.bL) (ie:∀ e∈Lo,e.ok (aK Lo ++ (aK Lr ++ c.bL)) W'):bC c E (Lo ++ Lr) a W':=by
 have gX:Ext (aK (Lin ++ Lr) ++ c.bL) W (aK (Lo ++ Lr) ++ c.bL) W':=
  ⟨aV.size,fun k bY a9=>aV.block k bY fun hm=>a9 (by rw [e4]; simp [hm]),fun k hm bY=>by
   rw [e4] at hm ⊢
   simp only [List.mem_append] at hm ⊢
   rcases hm with(hm | hm) | hm
   ·exact .inl (.inl ((ar k hm).2.1 bY))
   ·exact .inl (.inr hm)
   ·exact .inr hm⟩
 have l7:=s.nodup
 rw [e4] at l7
 obtain⟨nq,oN,p5⟩:=List.nodup_append.1 l7
 have x7:∀ k∈aK Lr,k < W.heap.size∧k ∉ aK Lin:=fun k hm=>⟨s.lt k (by rw [e4]; exact List.mem_append.2 (.inr hm)),fun h=>p5 k h k hm rfl⟩
 exact
 {defers:=s.defers
  size:=s.size
  env:=fun t τ an=>let⟨v,J,aa⟩:=s.env t τ an; ⟨v,J,τ.mono gX aa⟩
  dw:=⟨aV.os.trans s.dw.os,aV.tape.trans s.dw.tape,aV.output.trans s.dw.output,Nat.le_trans s.dw.size aV.size,fun k bY ai=>
   (aV.block k (Nat.lt_of_lt_of_le bY s.dw.size) fun hm=>ai (s.fK k (by rw [e4]; exact List.mem_append.2 (.inl hm)) bY)).trans (s.dw.block k bY ai)⟩
  own:=fun e he=>by
   rcases List.mem_append.1 he with he | he
   ·have:=ie e he
    refine aI.tv this (.drop fun k hm=> ?_) fun _ _=>rfl
    rw [e4] at hm
    simp only [List.mem_append] at hm ⊢
    rcases hm with(hm | hm) | hm
    ·exact .inl hm
    ·exact .inr (.inl hm)
    ·exact .inr (.inr hm)
   ·exact aI.tv (s.own e (List.mem_append.2 (.inr he))) gX fun p hp=>by
     have:=x7 p (k8.2 ⟨e,he,hp⟩)
     exact aV.block p this.1 this.2
  nodup:=by
   rw [e4]
   exact List.nodup_append.2 ⟨gk,oN,fun k J j aa e=>by subst e; exact(ar k J).2.2 (List.mem_append.2 (.inl aa))⟩
  lt:=fun k hm=>by
   rw [e4] at hm
   rcases List.mem_append.1 hm with hm | hm
   ·exact(ar k hm).1
   ·exact Nat.lt_of_lt_of_le (x7 k hm).1 aV.size
  fK:=fun k hm bA=>by
   rw [e4] at hm
   have bY:k < W.heap.size:=Nat.lt_of_lt_of_le bA s.dw.size
   rcases List.mem_append.1 hm with hm | hm
   ·exact s.fK k (by rw [e4]; exact List.mem_append.2 (.inl ((ar k hm).2.1 bY))) bA
   ·exact s.fK k (by rw [e4]; exact List.mem_append.2 (.inr hm)) bA
  ew:=fun k hm=>by
   obtain⟨J,aa⟩:=s.ew k hm
   refine⟨Nat.lt_of_lt_of_le J aV.size,fun h=> ?_⟩
   rw [e4] at h aa
   rcases List.mem_append.1 h with h | h
   ·exact(ar k h).2.2 (List.mem_append.2 (.inr hm))
   ·exact aa (List.mem_append.2 (.inr h)) }
theorem ht.MF {xs:List Operand} {τs:List I} (h:ht c E L xs τs) {a:Act} {W:World} (s:bC c E L a W):gu (aK L ++ c.bL) W τs (xs.map a.eval):=h.holds a W s
theorem zg {a:Act} {W:World} {f:FuncId} {xs:List Operand} {ats:Array TypeId} {τs:List I} {Lin Lr:List aI} {δ:Type} {ρ:δ→I} {Lo:δ→List aI} (er:bV c.P f) (h:bN c.P f τs Lin ρ Lo)
 (s:bC c E (Lin ++ Lr) a W) (ai:gu (aK (Lin ++ Lr) ++ c.bL) W τs (xs.map a.eval)):
 gx c.P ⟨d,.call ⟨.value (.func f),xs.toArray,ats⟩,ty,pos,af,g⟩ a W fun v W'=> ∃ a7,bC c E (Lo a7 ++ Lr) a W'∧ (ρ a7).holds (aK (Lo a7 ++ Lr) ++ c.bL) W' v:=by
 have l7:=s.nodup
 rw [e4] at l7
 obtain⟨nq,oN,p5⟩:=List.nodup_append.1 l7
 have lA:Ext (aK (Lin ++ Lr) ++ c.bL) W (aK Lin ++ (aK Lr ++ c.bL)) W:= .drop fun k hm=>by
  rw [e4]
  simp only [List.mem_append] at hm ⊢
  rcases hm with hm | hm | hm
  ·exact .inl (.inl hm)
  ·exact .inl (.inr hm)
  ·exact .inr hm
 have gK:∀ k∈aK Lr ++ c.bL,k < W.heap.size∧k ∉ aK Lin:=fun k hm=>by
  rcases List.mem_append.1 hm with hm | hm
  ·exact⟨s.lt k (by rw [e4]; exact List.mem_append.2 (.inr hm)),fun h=>p5 k h k hm rfl⟩
  ·obtain⟨J,aa⟩:=s.ew k hm
   exact⟨J,fun h=>aa (by rw [e4]; exact List.mem_append.2 (.inl h))⟩
 have bY:∀ k∈aK Lin,k < W.heap.size:=fun k hm=>s.lt k (by rw [e4]; exact List.mem_append.2 (.inl hm))
 refine .u6 (f:=f) (args:=(xs.map a.eval).toArray) (W':=W) (by simp [execOp,resolve,Deferred.ofValue,Act.eval,invoke,er.run]) ?_
 refine(h (aK Lr ++ c.bL) W (xs.map a.eval) gK nq bY (fun e he=>aI.tv (s.own e (List.mem_append.2 (.inl he))) lA fun _ _=>rfl) (ai.mono lA)).mono fun e W' ⟨v,a7,he,aV,J,aa,av,aO⟩=> ?_
 refine⟨v,he,a7,s.after aV J aa av,(ρ a7).mono (.drop fun k hm=> ?_) aO⟩
 rw [e4] at hm
 simp only [List.mem_append] at hm ⊢
 rcases hm with(hm | hm) | hm
 ·exact .inl hm
 ·exact .inr (.inl hm)
 ·exact .inr (.inr hm)
theorem ah.pH {rest:List Oper} {a7:Nat} {f:FuncId} {xs:List Operand} {ats:Array TypeId} {τs:List I} {Lin Lr:List aI} {δ:Type} {ρ:δ→I} {Lo:δ→List aI} (er:bV c.P f) (h:bN c.P f τs Lin ρ Lo)
 (ai:ht c E (Lin ++ Lr) xs τs) (aF:Nat.blt a7 c.n=true) (k:∀ q,ah c ops Q rest ((a7,ρ q) :: E) (Lo q ++ Lr)):
 ah c ops Q (⟨some a7,.call ⟨.value (.func f),xs.toArray,ats⟩,ty,pos,af,none⟩ :: rest) E (Lin ++ Lr):=fun a W s=>
 hO rfl (zg er h s (ai.holds a W s)) fun v W' ⟨q,bR,a3⟩=>k q _ _ (bR.put (by simpa using aF) a3)
end
def gv {α:Type} (xs:List α) (k:Nat) (v:α):List α:=xs.set k v
section
variable {c:cY} {E:List (Nat × I)} {L:List aI} {ops:Array Oper} {Q:Exit→Act→World→Prop}
variable {d:Option Tmp} {ty:TypeId} {pos:String} {af:Array Edge} {g:Option (Nat × Bool)} {x y:Operand} {t t2:TypeId}
theorem bC.rowAt {a:Act} {W:World} (s:bC c E L a W) {i:Nat} {key:Option Nat} {T cap:Nat} {α:Type} [ae α] {xs:List α} (aq:L[i]? =some ⟨key,.row T xs cap⟩) (ai:0 < xs.length):
 ∃ p cs,key=some p∧W.heap[p]? =some (.cells cs T (0,0))∧cs.size=cap * ae.size α∧xs.length≤cap∧cap≤maxLen∧gw (aK L ++ c.bL) W (cs.toList.take (xs.length * ae.size α)) xs:=by
 have a6:=s.own _ (List.mem_of_getElem? aq)
 cases key with
 | none=>have:xs= []:=a6.1; subst this; simp at ai
 | some p=>
   obtain⟨o,eD,cs,rfl,J,aa,av,aO⟩:=a6
   exact⟨p,cs,rfl,eD,J,aa,av,aO⟩
theorem ow {e i k T cap:Nat} {key:Option Nat} {α:Type} [ae α] {xs:List α} {z:Int} (hu:c.P.underlying t=some (.slice e)) (eG:bs c.P e α) (ai:a8 c E L x (.eq (bf key xs.length cap))) (a4:a8 c E L y (.of z))
 (aq:L[i]? =some ⟨key,.row T xs cap⟩) (ar:k < xs.length∧z=k):bO c E L ⟨d,.indexAddr t x y,ty,pos,af,g⟩ (.eq (.pointer (some ⟨key.getD 0,k * ae.size α,none⟩))):= .pure fun a W s=>by
 obtain⟨aY,rfl⟩:=ar
 obtain⟨p,cs,rfl,_⟩:=s.rowAt aq (by omega)
 have J:a.eval x=_:=ai a W s
 have aS:=of_int.1 (a4 a W s)
 obtain⟨fU,ef,eB⟩:=eG.info
 exact⟨_,by simp [execOp,Instr.indexAt,asIntOf,run_underlying hu,J,aS,aY,Go.sizeOf,typeInfo,ef,eB,jc,bf]; rfl,by simp [I.eq]⟩
theorem xA {k n s:Nat} (h:k < n):k * s + s≤n * s:=by rw [← Nat.succ_mul]; exact Nat.mul_le_mul_right _ h
theorem vc {i k T cap o:Nat} {key:Option Nat} {α γ:Type} [ae α] [Inhabited α] [ae γ] {xs:List α} (l:aP α γ) {r:γ} (ep:bs c.P t γ) (ai:a8 c E L x (.eq (.pointer (some ⟨key.getD 0,o,none⟩))))
 (aq:L[i]? =some ⟨key,.row T xs cap⟩) (ar:k < xs.length) (a6:o=k * ae.size α + l.off) (aD:l.get (aJ xs k)=r):bO c E L ⟨d,.load t x,ty,pos,af,g⟩ (.of r):= .pure fun a W s=>by
 subst a6; subst aD
 obtain⟨p,cs,rfl,eD,J,aa,av,aO⟩:=s.rowAt aq (by omega)
 have dQ:=xA (s:=ae.size α) ar
 have an:=l.fZ
 have hle:xs.length * ae.size α≤cap * ae.size α:=Nat.mul_le_mul_right _ aa
 have fL:=l.h3 (aO.2 k ar)
 rw [uV _ _ _ _ _ l.fZ,List.drop_take,List.take_take,Nat.min_eq_left (by omega)] at fL
 rw [gh xs ar]
 obtain⟨v,aS,aY⟩:=uS (A:=aK L ++ c.bL) ep eD (off:=k * ae.size α + l.off) (by omega) fL
 have b7:a.eval x=_:=ai a W s
 simp only [Option.getD_some] at b7
 exact⟨v,by simp [execOp,Instr.loadAt,Instr.sureAddr,b7,aS],aY⟩
theorem ah.xw {rest:List Oper} {i k T cap o:Nat} {key:Option Nat} {α γ:Type} [ae α] [Inhabited α] [ae γ] {xs r:List α} {v:γ} (l:aP α γ) (ep:bs c.P t γ) (ai:a8 c E L x (.eq (.pointer (some ⟨key.getD 0,o,none⟩)))) (a4:a8 c E L y (.of v))
 (aq:L[i]? =some ⟨key,.row T xs cap⟩) (ar:k < xs.length) (a6:o=k * ae.size α + l.off) (aD:gv xs k (l.set (aJ xs k) v)=r)
 (k':ah c ops Q rest E (L.set i ⟨key,.row T r cap⟩)):ah c ops Q (⟨none,.store t x y,ty,pos,af,none⟩ :: rest) E L:=fun a W s=>by
 subst a6; subst aD
 obtain⟨p,cs,rfl,eD,J,aa,av,aO⟩:=s.rowAt aq (by omega)
 have dQ:=xA (s:=ae.size α) ar
 have an:=l.fZ
 have hle:xs.length * ae.size α≤cap * ae.size α:=Nat.mul_le_mul_right _ aa
 have a3:=a4 a W s
 have yi:(a.eval y).cells.toList.length=ae.size γ:=ae.len a3.2
 have aS:=yZ (A:=aK L ++ c.bL) ep eD (off:=k * ae.size α + l.off) (by omega) a3
 have b7:a.eval x=_:=ai a W s
 simp only [Option.getD_some] at b7
 refine hO rfl (R:=fun v W'=>W'=W.setRow p (fR cs.toList (k * ae.size α + l.off) (a.eval y).cells.toList).toArray) (.xr ?_ rfl) fun u W' hw=> ?_
 ·simp [execOp,Instr.storeAt,Instr.sureAddr,b7,aS]
 ·subst hw
  refine k' _ _ (s.store aq eD ?_)
  have mg:cs.toList.length=cap * ae.size α:=by simpa using J
  have me:(fR cs.toList (k * ae.size α + l.off) (a.eval y).cells.toList).length=cs.toList.length:=by
   simp only [fR,List.length_append,List.length_take,List.length_drop,yi]; omega
  refine⟨_,rfl,by simpa [mg] using me,by simpa [gv] using aa,av,?_⟩
  have ax:=aO.2 k ar
  have a5:=l.k6 ax a3.2
  have bH:=F5 aO ar a5
  have q7:(cs.toList.take (xs.length * ae.size α)).length=xs.length * ae.size α:=by rw [List.length_take]; omega
  rw [K3 _ _ _ _ _ _ l.fZ (by omega)] at bH
  have hlen:(gv xs k (l.set (aJ xs k) v)).length=xs.length:=by simp [gv]
  rw [hlen,List.toList_toArray]
  have e:(fR cs.toList (k * ae.size α + l.off) (a.eval y).cells.toList).take (xs.length * ae.size α)=
   (cs.toList.take (xs.length * ae.size α)).take (k * ae.size α + l.off) ++ (a.eval y).cells.toList ++ (cs.toList.take (xs.length * ae.size α)).drop (k * ae.size α + l.off + ae.size γ):=by
   have az:(cs.toList.take (k * ae.size α + l.off)).length=k * ae.size α + l.off:=by rw [List.length_take]; omega
   have aX:(cs.toList.take (k * ae.size α + l.off) ++ (a.eval y).cells.toList).length=k * ae.size α + l.off + ae.size γ:=by rw [List.length_append,az,yi]
   rw [fR,yi,List.take_append,aX,List.take_of_length_le (by omega),List.take_take,Nat.min_eq_left (by omega),List.drop_take]
  rw [e,show gv xs k (l.set (aJ xs k) v)=xs.set k (l.set xs[k] v) by rw [gv,gh xs ar]]
  exact bH
def hF (key:Option Nat) (lo n cap size:Nat):Value:=match key with
 | some p=> .slice (some (if cap=lo then⟨p,0,none⟩ else⟨p,lo * size,none⟩)) n (cap - lo)
 | none=> .slice none 0 0
theorem zk {key:Option Nat} {n cap size:Nat} :hF key 0 n cap size=bf key n cap:=by
 cases key <;> simp [hF,bf]
theorem CO {i T cap:Nat} {key:Option Nat} {α:Type} [ae α] {xs:List α} {e:TypeId} {lo ao:Option Operand} {m n:Nat} {BF BG:Int} (hu:c.P.underlying t=some (.slice e)) (eG:bs c.P e α) (ai:a8 c E L x (.eq (bf key xs.length cap)))
 (aq:L[i]? =some ⟨key,.row T xs cap⟩) (fA:uv c E L lo BF 0) (df:uv c E L ao BG xs.length) (hm:BF=m) (aF:BG=n) (h:m≤n∧n≤xs.length):
 bO c E L ⟨d,.slice t x lo ao none,ty,pos,af,g⟩ (.eq (hF key m (n - m) cap (ae.size α))):= .pure fun a W s=>by
 subst hm; subst aF
 obtain⟨qZ,lI⟩:=h
 obtain⟨fU,ef,eB⟩:=eG.info
 have J:a.eval x=_:=ai a W s
 have a6:=s.own _ (List.mem_of_getElem? aq)
 cases key with
 | none=>
   have g7:xs= []:=a6.1
   subst g7
   have q5:n=0:=by simpa using lI
   have fi:m=0:=by omega
   subst q5
   subst fi
   refine⟨.slice none 0 0,?_,rfl⟩
   have aq:(match lo.map a.eval with | some v=>Instr.sliceBound v 0 .sliceB | none=>pure 0:Sem Nat).run c.P W= .ok 0 W:=by
    cases fA with
    | none=>rfl
    | some an=>exact o0 (Nat.le_refl _) (of_int.1 (an a W s))
   have jE:(match ao.map a.eval,(none:Option Value) with | some v,some _=>Instr.sliceBound v 0 .slice3B | some v,none=>Instr.sliceBound v 0 .sliceAcap | none,none=>pure 0 | none,some _=>stuck "Slice: max without high" :Sem Nat).run c.P W= .ok 0 W:=by
    cases df with
    | none=>rfl
    | some an=>exact o0 (Nat.le_refl _) (of_int.1 (an a W s))
   cases fA <;> cases df
   all_goals
    simp only [bf,execOp,Instr.sliceAt,Instr.slice,Instr.sliceBounds,J,Sem.run_bind,run_underlying hu,Result.andThen_ok,Option.map_none,Option.map_some,Option.isSome_none,Bool.false_eq_true,if_false,if_true,Sem.run_pure] at aq jE ⊢
    try simp only [aq,jE,Result.andThen_ok,Go.sizeOf,typeInfo,Sem.run_bind,run_program,ef,Sem.run_pure]
    try simp [ef]
 | some p=>
   obtain⟨o,eD,cs,rfl,ax,a5,bH,c9⟩:=a6
   refine⟨_,?_,rfl⟩
   simp only [hF]
   have aq:∀ v,v=Value.int .i64 m→ (Instr.sliceBound v n .sliceB).run c.P W= .ok m W:=fun v a3=>o0 qZ a3
   have jE:∀ v,v=Value.int .i64 n→ (Instr.sliceBound v cap .sliceAcap).run c.P W= .ok n W:=fun v a3=>o0 (by omega) a3
   generalize dQ:(n:Int)=Pv at df
   generalize A2:(m:Int)=Pw at fA
   generalize wx:(xs.length:Int)=Px at df
   generalize OX:(0:Int)=Py at fA
   cases fA with
   | none=>
     have fi:m=0:=by omega
     cases df with
     | none=>
       have lI:n=xs.length:=by omega
       subst lI
       subst fi
       simp [execOp,Instr.sliceAt,Instr.slice,Instr.sliceBounds,J,bf,run_underlying hu,Go.sizeOf,typeInfo,ef,eB,jc]
     | some bS=>
       subst dQ
       subst fi
       simp [execOp,Instr.sliceAt,Instr.slice,Instr.sliceBounds,J,bf,run_underlying hu,Go.sizeOf,typeInfo,ef,eB,jc,jE _ (of_int.1 (bS a W s))]
   | some an=>
     subst A2
     cases df with
     | none=>
       have lI:n=xs.length:=by omega
       subst lI
       simp [execOp,Instr.sliceAt,Instr.slice,Instr.sliceBounds,J,bf,run_underlying hu,Go.sizeOf,typeInfo,ef,eB,jc,aq _ (of_int.1 (an a W s))]
       split <;> rfl
     | some bS=>
       subst dQ
       simp [execOp,Instr.sliceAt,Instr.slice,Instr.sliceBounds,J,bf,run_underlying hu,Go.sizeOf,typeInfo,ef,eB,jc,aq _ (of_int.1 (an a W s)),jE _ (of_int.1 (bS a W s))]
       split <;> rfl
theorem bC.again {a:Act} {W:World} (s:bC c E L a W) {i:Nat} {key:Option Nat} {cp cp':dF} (aq:L[i]? =some ⟨key,cp⟩) (h:∀ A W o,cp.holds A W o→cp'.holds A W o) (aF:cp.mG→cp'.mG):bC c E (L.set i ⟨key,cp'⟩) a W:=by
 have g1:aK (L.set i ⟨key,cp'⟩)=aK L:=xz (e:=⟨key,cp⟩) (cp:=cp') aq
 exact
 {defers:=s.defers
  size:=s.size
  env:=fun t τ an=>by rw [g1]; exact s.env t τ an
  dw:=s.dw
  own:=fun e he=>by
   rw [g1]
   obtain⟨j,aB⟩:=List.mem_iff_getElem?.1 he
   rw [List.getElem?_set] at aB
   split at aB
   ·split at aB
    ·simp only [Option.some.injEq] at aB
     subst aB
     have a6:=s.own _ (List.mem_of_getElem? aq)
     cases key with
     | none=>exact aF a6
     | some p=>obtain⟨o,J,aa⟩:=a6; exact⟨o,J,h _ _ _ aa⟩
    ·cases aB
   ·exact s.own e (List.mem_of_getElem? aB)
  nodup:=by rw [g1]; exact s.nodup
  lt:=by rw [g1]; exact s.lt
  fK:=by rw [g1]; exact s.fK
  ew:=by rw [g1]; exact s.ew }
theorem F1 {T cap n:Nat} {α:Type} [ae α] {xs:List α} (aF:n≤xs.length) {A W o} (h:(dF.row T xs cap).holds A W o):(dF.row T (xs.take n) cap).holds A W o:=by
 obtain⟨cs,rfl,J,aa,av,aO⟩:=h
 have an:(xs.take n).length=n:=by rw [List.length_take]; omega
 have hle:n * ae.size α≤xs.length * ae.size α:=Nat.mul_le_mul_right _ aF
 have D7:xs.length * ae.size α≤cap * ae.size α:=Nat.mul_le_mul_right _ aa
 refine⟨cs,rfl,J,by omega,av,?_⟩
 rw [an]
 have mg:cs.toList.length=cap * ae.size α:=by simpa using J
 refine⟨by rw [List.length_take,an]; omega,fun i ao=> ?_⟩
 have fO:i < n:=by omega
 have dQ:=xA (s:=ae.size α) fO
 have:=aO.2 i (by omega)
 rw [List.drop_take,List.take_take,Nat.min_eq_left (by omega)] at this ⊢
 rw [List.getElem_take]
 exact this
end
def qH {α:Type} [Inhabited α] (xs:List α) (lo n:Nat):List α:=xs.take lo ++ List.replicate n default ++ xs.drop (lo + n)
theorem K7 {α:Type} [ae α] {A W} {cs ds:List Value} {xs ys:List α} {lo:Nat} (h:gw A W cs xs) (cS:gw A W ds ys) (ar:lo + ys.length≤xs.length):
 gw A W (cs.take (lo * ae.size α) ++ ds ++ cs.drop (lo * ae.size α + ds.length)) (xs.take lo ++ ys ++ xs.drop (lo + ys.length)):=by
 have an:=h.1
 have hle:lo * ae.size α≤xs.length * ae.size α:=Nat.mul_le_mul_right _ (by omega)
 have t1:gw A W (cs.take (lo * ae.size α)) (xs.take lo):=by
  have e:(xs.take lo).length=lo:=by rw [List.length_take]; omega
  refine⟨by rw [List.length_take,e]; omega,fun i ao=> ?_⟩
  have fO:i < lo:=by omega
  have:=h.2 i (by omega)
  have dQ:=xA (s:=ae.size α) fO
  rw [List.drop_take,List.take_take,Nat.min_eq_left (by omega),List.getElem_take]
  exact this
 have t3:gw A W (cs.drop (lo * ae.size α + ds.length)) (xs.drop (lo + ys.length)):=by
  have e:lo * ae.size α + ds.length=(lo + ys.length) * ae.size α:=by rw [cS.1,Nat.add_mul]
  rw [e]
  refine⟨by rw [List.length_drop,List.length_drop,an,← Nat.sub_mul],fun i ao=> ?_⟩
  rw [List.length_drop] at ao
  have:=h.2 (lo + ys.length + i) (by omega)
  rw [List.drop_drop,← Nat.add_mul,List.getElem_drop]
  exact this
 exact tk (tk t1 cS) t3
section
variable {c:cY} {E:List (Nat × I)} {L:List aI} {ops:Array Oper} {Q:Exit→Act→World→Prop}
variable {d:Option Tmp} {ty:TypeId} {pos:String} {af:Array Edge} {g:Option (Nat × Bool)} {x y:Operand} {t t2:TypeId}
theorem ah.clear {rest:List Oper} {i e T cap lo n:Nat} {key:Option Nat} {α:Type} [ae α] [Inhabited α] {xs r:List α} (hu:c.P.underlying t=some (.slice e)) (eG:bs c.P e α) (gC:cz c.P e (default:α)) (eB:Nat.beq (ae.size α) 0=false)
 (ai:a8 c E L x (.eq (hF key lo n cap (ae.size α)))) (aq:L[i]? =some ⟨key,.row T xs cap⟩) (aF:lo + n≤xs.length) (aD:qH xs lo n=r)
 (k:ah c ops Q rest E (L.set i ⟨key,.row T r cap⟩)):ah c ops Q (⟨none,.call ⟨.builtin .clear,#[x],#[t]⟩,ty,pos,af,none⟩ :: rest) E L:=fun a W s=>by
 subst aD
 have J:a.eval x=_:=ai a W s
 have a6:=s.own _ (List.mem_of_getElem? aq)
 have lA:∀ cp,L.set i ⟨key,cp⟩=L.set i ⟨key,cp⟩:=fun _=>rfl
 by_cases bA:n=0∨key=none
 ·have g7:qH xs lo n=xs:=by
   rcases bA with bA | bA
   ·subst bA; simp [qH]
   ·subst bA
    have:xs= []:=a6.1
    subst this
    have:n=0:=by simp at aF; omega
    subst this; simp [qH]
  have jP:(execOp a.eval ⟨none,.call ⟨.builtin .clear,#[x],#[t]⟩,ty,pos,af,none⟩).run c.P W= .ok (.value (.tuple #[])) W:=by
   rcases bA with bA | bA
   ·subst bA
    cases key <;> simp [execOp,resolve,invoke,builtin,Builtin.clear_,J,hF,run_underlying hu]
   ·subst bA
    simp [execOp,resolve,invoke,builtin,Builtin.clear_,J,hF,run_underlying hu]
  refine hO rfl (R:=fun v W'=>W'=W) (.lx jP rfl) fun v W' hw=> ?_
  subst hw
  rw [g7] at k
  have:L.set i ⟨key,.row T xs cap⟩=L:=by
   apply List.ext_getElem?
   intro j
   rw [List.getElem?_set]
   split
   ·rename_i fo; subst fo
    have:=(List.getElem?_eq_some_iff.1 aq).1
    rw [if_pos this,aq]
   ·rfl
  rw [this] at k
  exact k _ _ s
 ·have q5:0 < n:=by
   rcases Nat.eq_zero_or_pos n with h | h
   ·exact absurd (.inl h) bA
   ·exact h
  obtain⟨p,cs,rfl,eD,ax,a5,bH,c9⟩:=s.rowAt aq (by omega)
  obtain⟨fU,dK,ef,dc,IA⟩:=gC.zero
  have Ev:=IA (aK L ++ c.bL) W
  have Zk:dK.cells.toList.length=ae.size α:=ae.len Ev.2
  have kD:ae.size α≠0:=fun h=>by rw [h] at eB; cases eB
  have A5:=zm Ev n kD
  have wz:dK.cells.size=ae.size α:=by simpa using Zk
  have IB:Builtin.zeroCells dK.cells n=(Array.range (n * ae.size α)).map (dK.cells[· % dK.cells.size]!):=by rw [Builtin.zeroCells,wz]
  rw [← IB] at A5
  generalize k1:(Builtin.zeroCells dK.cells n).toList=D at A5
  have aaU:D.length=n * ae.size α:=by rw [A5.1]; simp
  have fA:cap≠lo:=by omega
  have hle:(lo + n) * ae.size α≤cap * ae.size α:=Nat.mul_le_mul_right _ (by omega)
  rw [Nat.add_mul] at hle
  have kf:=run_storeCells_at (P:=c.P) p (lo * ae.size α) _ D 0 cs W eD (by omega) A5.one
  have jP:(execOp a.eval ⟨none,.call ⟨.builtin .clear,#[x],#[t]⟩,ty,pos,af,none⟩).run c.P W= .ok (.value (.tuple #[])) (W.setRow p (fR cs.toList (lo * ae.size α) D).toArray):=by
   obtain⟨m,rfl⟩:∃ m,n=m + 1:=⟨n - 1,by omega⟩
   simp only [Nat.add_zero] at kf
   simp [execOp,resolve,invoke,builtin,Builtin.clear_,J,hF,run_underlying hu,fA,zeroValue,typeInfo,run_program,ef,dc,k1,kf,fR]
  refine hO rfl (R:=fun v W'=>W'=W.setRow p (fR cs.toList (lo * ae.size α) D).toArray) (.lx jP rfl) fun v W' hw=> ?_
  subst hw
  refine k _ _ (s.store aq eD ?_)
  have mg:cs.toList.length=cap * ae.size α:=by simpa using ax
  have hlen:(qH xs lo n).length=xs.length:=by simp [qH]; omega
  have q7:(cs.toList.take (xs.length * ae.size α)).length=xs.length * ae.size α:=by
   rw [List.length_take]
   have:xs.length * ae.size α≤cap * ae.size α:=Nat.mul_le_mul_right _ a5
   omega
  have Yn:(lo + n) * ae.size α≤xs.length * ae.size α:=Nat.mul_le_mul_right _ aF
  rw [Nat.add_mul] at Yn
  have aaE:xs.length * ae.size α≤cap * ae.size α:=Nat.mul_le_mul_right _ a5
  refine⟨_,rfl,?_,by rw [hlen]; exact a5,bH,?_⟩
  ·simp only [List.size_toArray,fR,List.length_append,List.length_take,List.length_drop]; omega
  ·rw [hlen,List.toList_toArray]
   have kj:=K7 (lo:=lo) c9 A5 (by simpa using aF)
   have e:(fR cs.toList (lo * ae.size α) D).take (xs.length * ae.size α)=(cs.toList.take (xs.length * ae.size α)).take (lo * ae.size α) ++ D ++ (cs.toList.take (xs.length * ae.size α)).drop (lo * ae.size α + D.length):=by
    have az:(cs.toList.take (lo * ae.size α)).length=lo * ae.size α:=by rw [List.length_take]; omega
    have aX:(cs.toList.take (lo * ae.size α) ++ D).length=lo * ae.size α + D.length:=by rw [List.length_append,az]
    rw [fR,List.take_append,aX,List.take_of_length_le (by omega),List.take_take,Nat.min_eq_left (by omega),List.drop_take]
   rw [e]
   simpa [qH] using kj
theorem bC.share {a:Act} {W:World} (s:bC c E L a W) {i ff p:Nat} {α:Type} [ae α] {z:α} (an:look E ff=some (.eq (.pointer (some ⟨p,0,none⟩)))) (aq:L[i]? =some ⟨some p,.var z⟩):bC c ((ff,.ptr z) :: E) (L.set i ⟨none,.dead⟩) a W:=by
 have ar:=s.kill i
 refine { ar with env:=fun t τ eT=> ?_ }
 simp only [look] at eT
 by_cases e:Nat.beq ff t=true
 ·rw [e] at eT
  simp only [cond_true,Option.some.injEq] at eT
  subst eT
  have:=ec.1 e
  subst this
  obtain⟨v,J,aa⟩:=s.env ff _ an
  have ji:v=_:=aa
  subst ji
  obtain⟨o,eD,cs,T,rfl,aD⟩:=s.own _ (List.mem_of_getElem? aq)
  have hlen:cs.toList.length=ae.size α:=ae.len aD
  refine⟨_,J,p,0,cs,T,(0,0),rfl,s.zq aq,eD,by simp at hlen; omega,?_⟩
  rw [List.drop_zero,← hlen,List.take_length]
  have kR:=xg (L:=L) (i:=i) (cp:= .dead)
  exact ae.mono (.drop fun k hm=>by
   rcases List.mem_append.1 hm with hm | hm
   ·exact List.mem_append.2 (.inl (kR.subset hm))
   ·exact List.mem_append.2 (.inr hm)) aD
 ·simp only [Bool.not_eq_true] at e
  rw [e] at eT
  exact ar.env t τ eT
theorem ah.share {l:List Oper} {p:Nat} {α:Type} [ae α] {z:α} (i ff:Nat) (an:look E ff=some (.eq (.pointer (some ⟨p,0,none⟩)))) (aq:L[i]? =some ⟨some p,.var z⟩) (k:ah c ops Q l ((ff,.ptr z) :: E) (L.set i ⟨none,.dead⟩)):ah c ops Q l E L:=
 fun a W s=>k a W (s.share an aq)
theorem ak.share {code:Code} {p:Nat} {α:Type} [ae α] {z:α} (i ff:Nat) (an:look E ff=some (.eq (.pointer (some ⟨p,0,none⟩)))) (aq:L[i]? =some ⟨some p,.var z⟩) (k:ak c Q code ((ff,.ptr z) :: E) (L.set i ⟨none,.dead⟩)):ak c Q code E L:=
 fun a W s=>k a W (s.share an aq)
theorem Dq {α β:Type} [ae α] [ae β] {F:α→Option β} {f:FuncId} {xs:List Operand} {τs:List I} (er:bV c.P f) (ai:ht c E L xs τs) (h:∀ x r,F x=some r→cl c.P f (.of x :: τs) (.of r)):
 bO c E L ⟨d,.makeFunc (.func f) #[] xs.toArray,ty,pos,af,g⟩ (.v9 c.P F):= .pure fun a W s=>by
 have bS:=ai.holds a W s
 refine⟨.func (.func f) #[] (xs.map a.eval).toArray,by simp [execOp,Instr.makeFunc],f,_,_,rfl,er,fun c1 W' e gK x r qi oT a3=> ?_⟩
 simpa using h x r oT c1 W' (qi :: xs.map a.eval) gK (.cons a3 (bS.mono e))
def I.Flat (τ:I):Prop:= ∀ A W c1 W' v,τ.holds A W v→τ.holds c1 W' v
theorem FU {b:Bool} :(I.of b).Flat:=fun _ _ _ _ _ h=>h
theorem u3 {b:Int} :(I.of b).Flat:=fun _ _ _ _ _ h=>h
theorem bO.XL {o:Oper} {τ:I} {T cap:Nat} {key:Option Nat} {α:Type} [ae α] {xs:List α} (i s:Nat) (an:look E s=some (.eq (bf key xs.length cap))) (aq:L[i]? =some ⟨key,.row T xs cap⟩) (aV:τ.Flat)
 (h:bO c ((s,.of xs) :: E) (L.set i ⟨none,.dead⟩) o τ):bO c E L o τ:=fun a W st=>by
 have:=h a W (st.freeze an aq)
 unfold gx at this ⊢
 exact Oper.wp_mono (fun gn W' ⟨v,J,aa,av⟩=>⟨v,J,aa,aV _ _ _ _ _ av⟩) this
def I.OA {α:Type} (xs:List α):I where
 holds _ _ v:= ∃ b:Bool,v= .bool b∧ (b=true→xs= [])
 mono _ h:=h
theorem KK {P:Program} {e:TypeId} (W:World) (d:Nat) {t:TypeId} (a:Option Addr) (l cp:Nat) (h:P.underlying t=some (.slice e)):(Op.equalIn (d + 1) t (.slice a l cp) (.slice none 0 0)).run P W= .ok a.isNone W:=by
 cases a <;> simp [Op.equalIn,run_underlying h]
theorem M5 {α:Type} [ae α] {xs:List α} {e:TypeId} (hu:c.P.underlying t=some (.slice e)) (ai:a8 c E L x (.of xs)):bO c E L ⟨d,.binOp .eql t x (.const (.slice none 0 0)) t2,ty,pos,af,g⟩ (.OA xs):= .pure fun a W s=>by
 have aF:a.eval (.const (.slice none 0 0))= .slice none 0 0:=rfl
 rcases m9.1 (ai a W s) with⟨J,rfl⟩ | ⟨b,off,cap,cur,T,gQ,J,aa⟩
 ·exact⟨.bool true,by
   simp only [execOp,eqGuard,binOp,J,aF,Op.equal,Op.maxDepth]
   simp [KK W 9999 none 0 0 hu],true,rfl,fun _=>rfl⟩
 ·exact⟨.bool false,by
   simp only [execOp,eqGuard,binOp,J,aF,Op.equal,Op.maxDepth]
   simp [KK W 9999 (some ⟨b,off,none⟩) xs.length cap hu],false,rfl,fun h=>by cases h⟩
theorem ak.M6 {α:Type} {y z:Code} {xs:List α} (an:a8 c E L x (.OA xs)) (bl:xs= []→ak c Q y E L) (aV:ak c Q z E L):ak c Q (.cond x y z) E L:=fun a W s=>by
 obtain⟨b,J,aa⟩:=an a W s
 exact wpIn_cond_split J (fun h=>bl (aa h) a W s) (fun _=>aV a W s)
end
def c0 (c:cY) (ops:Array Oper) (Q:Exit→Act→World→Prop) (f:Nat) (a1:Array Bool) (E:List (Nat × I)) (L:List aI):Prop:=
 ∀ a W,bC c E L a W→wpAnyIn c.F 9 c.P .any ops Q f a1 a W
def sQ (K:Act→World→Prop) (Q:Exit→Act→World→Prop):Exit→Act→World→Prop
 | .normal,a,W=>K a W
 | x,a,W=>Q x a W
section
variable {c:cY} {E:List (Nat × I)} {L:List aI} {ops:Array Oper} {Q:Exit→Act→World→Prop}
theorem Oper.Sq {F:Fence} {n:Nat} {P:Program} {o:Oper} {a:Act} {K:Act→World→Prop} {r:Result Next} (h:o.uponIn F n P a K (sQ K Q) r):o.uponIn F n P a K Q r:=by
 cases r with
 | ok m jZ=>
   cases m <;> simp only [Oper.uponIn] at h ⊢ <;>
    first
     | exact h
     | exact⟨h.1,CallsIn.mono h.2 (fun e ug he=>by cases e <;> exact he)⟩
     | exact⟨h.1,RoundIn.mono h.2 (fun e ug he=>by cases e <;> exact he)⟩
 | halt x jZ=>cases x <;> simp only [Oper.uponIn] at h ⊢ <;> exact h
theorem y6 {i:Nat} {o:Oper} {K:Act→World→Prop} {a:Act} {W:World} (ao:ops[i]? =some o) (h:c.pn ops (sQ K Q) [o] a W):wpOpIn c.F 9 c.P ops Q i K a W:=by
 unfold wpOpIn
 simp only [ao]
 simp only [cY.pn,wpListIn] at h
 split
 ·rename_i hw
  rw [if_pos hw] at h
  exact⟨h.1,Oper.Sq h.2⟩
 ·rename_i hw
  rw [if_neg hw] at h
  exact h
def z6 (c:cY) (ops:Array Oper) (Q:Exit→Act→World→Prop) (f:Nat) (a1:Array Bool) (E:List (Nat × I)) (L:List aI):List Nat→Prop
 | []=>True
 | i :: r=>(∃ o,ops[i]? =some o∧ah c ops (sQ (wpAnyIn c.F 9 c.P .any ops Q f (a1.setIfInBounds i true)) Q) [o] E L)∧z6 c ops Q f a1 E L r
theorem z6.get {f:Nat} {a1:Array Bool} :∀ {yu:List Nat},z6 c ops Q f a1 E L yu→ ∀ i∈yu,∃ o,ops[i]? =some o∧ah c ops (sQ (wpAnyIn c.F 9 c.P .any ops Q f (a1.setIfInBounds i true)) Q) [o] E L
 | _ :: _,h,i,ao=>by
   rcases List.mem_cons.1 ao with rfl | ao
   ·exact h.1
   ·exact z6.get h.2 i ao
theorem c0.step {f:Nat} {a1:Array Bool} (yu:List Nat) (aD:Region.ready .any ops a1=yu) (cN:yu.isEmpty=false) (h:z6 c ops Q f a1 E L yu):c0 c ops Q (f + 1) a1 E L:=fun a W s=>
 ⟨fun bA=>(by rw [← aD,bA] at cN; exact absurd cN (by simp)),fun i ao=>(by
  rw [aD] at ao
  obtain⟨o,J,aa⟩:=h.get i ao
  exact y6 J (aa a W s))⟩
theorem c0.le {f:Nat} {a1:Array Bool} {E':List (Nat × I)} (h:hl E E') (k:c0 c ops Q f a1 E' L):c0 c ops Q f a1 E L:=fun a W s=>k a W (s.less h.look)
theorem aj.any {f:Nat} {a1 zy:Array Bool} (an:a1=zy) (k:c0 c ops Q f zy E L):aj c (sQ (wpAnyIn c.F 9 c.P .any ops Q f a1) Q) .normal E L:=fun a W s=>by
 subst an
 exact k a W s
theorem c0.cut {γ:Type} (yv:Nat) (zy:Array Bool) (E':γ→List (Nat × I)) (L':γ→List aI) {f:Nat} {a1:Array Bool} (J:∀ g,c0 c ops Q yv zy (E' g) (L' g))
 (aa:(∀ g,c0 c ops Q yv zy (E' g) (L' g))→c0 c ops Q f a1 E L):c0 c ops Q f a1 E L:=aa J
theorem ak.Wt {oL:Nat} {l:List Oper} (hm:c.P.follows .mixedOrders=true) (n:Nat) (ls:Array Bool) (aF:l.length=n) (A6:Array.replicate n false=ls) (h:c0 c l.toArray Q n ls E L):ak c Q (.region oL l.toArray true) E L:=fun a W s=>by
 subst aF A6
 refine wpIn_region_any hm ?_
 have:=h a W.drew (s.world (Fr.drew W))
 simpa using this
theorem aj.perm {x:Exit} {L':List aI} (h:L.Perm L') (k:aj c Q x E L'):aj c Q x E L:=fun a W s=>k a W (s.perm h)
end
section
variable {c:cY} {E:List (Nat × I)} {L:List aI} {ops:Array Oper} {Q:Exit→Act→World→Prop}
variable {d:Option Tmp} {ty:TypeId} {pos:String} {af:Array Edge} {g:Option (Nat × Bool)} {x y:Operand} {t t2:TypeId}
theorem ah.pM {α:Type} [ae α] {rest:List Oper} {a7 e n:Nat} {z:α} {r:List α} {bo:List (Nat × Operand)} (hu:c.P.underlying t=some (.slice e)) (eG:bs c.P e α) (gC:cz c.P e z) (hs:Nat.beq (ae.size α) 0=false) (aF:Nat.ble (n * ae.size α) 16777216=true)
 (aV:nN c E L (List.replicate n z) bo r) (jn:Nat.blt a7 c.n=true) (k:∀ p,ah c ops Q rest ((a7,.eq (bf p r.length n)) :: E) (⟨p,.row e r n⟩ :: L)):
 ah c ops Q (⟨some a7,.buildSlice t n bo.toArray,ty,pos,af,none⟩ :: rest) E L:=fun a W s=>by
 obtain⟨fU,dK,ef,dc,q6⟩:=gC.zero
 have nd:fU.size=ae.size α:=by
  obtain⟨i2,J,aa⟩:=eG.info
  rw [ef] at J; cases J; exact aa
 have ej:ae.size α≠0:=fun h=>by rw [h] at hs; cases hs
 have p3:=zm (q6 (aK L ++ c.bL) W) n ej
 obtain⟨dM,av,aO,aS⟩:=aV.run a W s _ p3
 have hlen:r.length=n:=by rw [aS]; simp
 have hm:(bo.toArray.map fun(x:Nat × Operand)=>(x.1,a.eval x.2)).toList=bo.map fun(i,x)=>(i,a.eval x):=by simp
 have Yi:=Nat.le_of_ble_eq_true aF
 refine hO rfl (R:=fun v W'=>v= .slice (some ⟨W.heap.size,0,none⟩) n n∧W'=W.alloc (.cells dM e)) (.lx (v:= .slice (some ⟨W.heap.size,0,none⟩) n n) (W':=W.alloc (.cells dM e)) ?_ ⟨rfl,rfl⟩) fun v W' ⟨J,aa⟩=> ?_
 ·simp only [execOp,Instr.buildSlice,Sem.run_bind,run_underlying hu,Result.andThen_ok,Go.sizeOf,typeInfo,run_program,ef,Sem.run_pure,nd]
  rw [if_neg (by omega)]
  try simp only [Sem.run_pure,Result.andThen_ok,Sem.run_bind]
  by_cases bA:n * ae.size α=0
  ·have q5:n=0:=by
    rcases Nat.mul_eq_zero.1 bA with h | h
    ·exact h
    ·exact absurd h ej
   subst q5
   simp only [Nat.zero_mul,if_true,Sem.run_pure,Result.andThen_ok]
   try simp only [Nat.zero_mul] at av
   have jF:((Array.range 0).map (fun x=>(#[]:Array Value)[x % (#[]:Array Value).size]!))=((Array.range 0).map (dK.cells[· % dK.cells.size]!)):=by simp
   simp only [pure_bind]
   rw [jF,hm,av]
   simp [newRow]
  ·simp only [bA,if_false,Sem.run_bind,zeroValue,typeInfo,run_program,Result.andThen_ok,ef,dc,Sem.run_pure]
   rw [hm,av]
   simp [newRow]
 ·subst J aa
  have tV:n≤maxLen:=by
   have:n * 1≤n * ae.size α:=Nat.mul_le_mul_left _ (by omega)
   have:maxLen=9223372036854775807:=rfl
   omega
  have eB:dM.size=n * ae.size α:=by have:=aO.1; rw [hlen] at this; simpa using this
  have bR:=s.alloc (o:= .cells dM e) (cp:= .row e r n) ⟨dM,rfl,eB,by omega,tV,by
   have aY:=aO.1
   rw [← aY,List.take_length]
   exact aO⟩
  refine k (some W.heap.size) _ _ (bR.put (τ:= .eq (bf (some W.heap.size) r.length n)) (by simpa using jn) ?_)
  show _=_
  rw [hlen]; rfl
def qO {w:Nat} (a b:BitVec w):Option (BitVec w):=if b=0 then none else some (a % b)
theorem FK {w:Nat} {a b r:BitVec w} (h:qO a b=some r):b≠0∧a % b=r:=by unfold qO at h; split at h <;> simp_all
theorem WH {w:Nat} {b:BitVec w} (h:b≠0):(b.toNat:Int)≠0:=fun e=>h (BitVec.eq_of_toNat_eq (by simpa using e))
theorem TD {P:Program} {W:World} {k:IntKind} {x y:Int} (h:y≠0):(Op.intDiv .rem k x y).run P W= .ok (.int k (x.tmod y)) W:=by unfold Op.intDiv; rw [if_neg h]; rfl
theorem GZ {a b r:BitVec 8} (ai:a8 c E L x (.of a)) (a4:a8 c E L y (.of b)) (h:b≠0∧a % b=r):bO c E L ⟨d,.binOp .rem t x y t2,ty,pos,af,g⟩ (.of r):= .pure fun A W s=>
 ⟨.int .u8 r.toNat,by
   obtain⟨J,rfl⟩:=h
   have av:(a.toNat:Int).tmod b.toNat=((a % b).toNat:Int):=by rw [BitVec.toNat_umod]; exact(Int.ofNat_tmod _ _).symm
   have aO:=TD (P:=c.P) (W:=W) (k:= .u8) (x:=a.toNat) (WH J)
   rw [av] at aO
   simp only [execOp,eqGuard,binOp,pI.1 (ai A W s),pI.1 (a4 A W s)]
   simp [aO],pI.2 rfl⟩
theorem ah.nQ {l:List Oper} {key:Option Nat} {n m cap:Nat} (ff:Nat) (an:look E ff=some (.eq (bf key n cap))) (aF:n=m) (k:ah c ops Q l ((ff,.eq (bf key m cap)) :: E) L):ah c ops Q l E L:=fun a W s=>by
 subst aF
 refine k a W (s.less fun t τ h=> ?_)
 simp only [look] at h
 by_cases e:Nat.beq ff t=true
 ·rw [e] at h
  simp only [cond_true] at h
  have:=ec.1 e
  subst this
  exact⟨τ,by rw [an,h],fun _ _ _ h=>h⟩
 ·simp only [Bool.not_eq_true] at e
  rw [e] at h
  exact⟨τ,h,fun _ _ _ h=>h⟩
end
theorem nE {α:Type} {xs r:List α} {k:Nat} {v:α} (h:gv xs k v=r):xs.length=r.length:=by rw [← h]; simp [gv]
theorem K0 {α:Type} {b:Nat} {r:List α} (h:((iI b [] ([]:List α)).bind fun y=>some y)=some r):r= []:=by
 obtain⟨y,J,aa⟩:=bind_some h
 obtain⟨_,_,av⟩:=K4 J
 rw [av] at aa
 exact(aT aa).symm
end Gv
